/-
  What a machine's memory holds of plain values, and that each operation, block, loop and call of the model turns such a state as told. No condition but those of each theorem.
-/
import Derived.WalkKit
import Derived.Below
import Derived.Scope
import Derived.Orders
import Derived.Still
import Derived.WalkSmall
import Derived.Lib.AppendStr
import Derived.ArgAppend
import Derived.Lib.ConvBytes
import Derived.Shelf.Strings.OnBuilder
import Derived.Laws.IdiomCopy
import Derived.Test.YtgmegmfbedgabaaFa
import Derived.Test.YtgmegmfbedgabaaFb
import Derived.Test.YtgmegmfbedgabaaFc
import Derived.Test.YtgmegmfbedgabaaFd
import Derived.Test.YtgmegmfbedgabaaFe
import Derived.Test.YtgmegmfbedgabaaDa
set_option linter.unusedVariables false
set_option linter.unusedSimpArgs false
namespace Go.Ab
open Go Go.RowKit Go.Lib
section
variable {P : Program} {TT : TTab} {up : Bool} {σ : St} {K : St → Prop} {o : Oper}
theorem snd_strBytes {s d e : Nat} {x : Operand} {i j k : TI} {b : ByteArray} (ho : o.op = .convert s d x) (htt : TTok P TT) (hs : TT s = some i) (hik : i.kind = .str) (hd : TT d = some j) (hjk : j.kind = .slice e) (he : TT e = some k) (hek : k.kind = .int .u8) (hx : ev σ x = .str b)
    (hk : K (σ.put o.dst (.sl 1 (strRows b)))) : Snd P o σ K := by
  intro A0 D0 w0 nt a w G Q hdd h
  have hti := (htt s i hs).kind
  rw [hik] at hti
  have hti : P.underlying s = some .string := hti
  have htj := (htt d j hd).kind
  rw [hjk] at htj
  have htj : P.underlying d = some (.slice e) := htj
  have hte := (htt e k he).kind
  rw [hek] at hte
  have hte : P.underlying e = some (.int .u8) := hte
  have h1 := h.ev x
  rw [hx] at h1
  obtain ⟨h2, h3⟩ := h1.str_inv
  have hfr : Fr (fun _ => False) w (bytesWorld w e b) := ⟨rfl, rfl, rfl, by rw [bytesWorld_size]; omega, fun k hk _ => bytesWorld_at_old w e b k hk⟩
  refine wp_value (v := .slice (some ⟨w.heap.size, 0, none⟩) b.size (grownCap w b.size 0 e)) (w' := bytesWorld w e b) ?_ ⟨_, G, (h.same hfr).put (.fr _ _ ?_) hdd, hk⟩
  · have hr := Go.Lib.run_convert_string_bytes (P := P) w s d e b hti htj hte
    simp only [execOp, ho, h2, Sem.run_bind]
    rw [hr]; rfl
  · have hl := strRows_len b
    have hM : b.size ≤ maxLen := by unfold maxLen; unfold MX at h3; omega
    have hrow : ∀ (i : Nat) (r : List AV), (strRows b)[i]? = some r → i < b.size ∧ r = [AV.int .u8 ((b.data.toList.getD i 0).toNat : Int)] := fun i r hi => by
      have hlt := (List.getElem?_eq_some_iff.1 hi).1
      rw [hl] at hlt
      simp only [strRows, List.getElem?_map, Option.map_eq_some_iff] at hi
      obtain ⟨c, hc, rfl⟩ := hi
      exact ⟨hlt, by rw [List.getD_eq_getElem?_getD, hc]; rfl⟩
    have hcell : ∀ (i : Nat), i < b.size → (bytesWorld w e b).cell? ⟨w.heap.size, 0 + (i * 1 + 0), none⟩ = some (.int .u8 (b.data.toList.getD i 0).toNat) := fun i hi => by
      have := bytesWorld_cell w e b i hi
      simpa using this
    have hown : ¬ Own A0 G w.heap.size := fun hO => by
      rcases hO with hO | hO
      · have := Nat.lt_of_lt_of_le (h.a0lt _ hO) h.fr.size; omega
      · have := rfp_lt h.inv hO; omega
    have hg := FR.sl (w := bytesWorld w e b) (A := Own A0 G) 1 (strRows b) w.heap.size 0 (grownCap w b.size 0 e) (by rw [hl]; exact grownCap_ge _ _ _ _) (grownCap_le_maxLen _ _ _ _ hM) (by rw [hl]; exact h3)
      (fun i r hi => by rw [(hrow i r hi).2]; rfl)
      (fun i r j a hi hj => by
        obtain ⟨q1, rfl⟩ := hrow i r hi
        have hj0 : j = 0 := by have := (List.getElem?_eq_some_iff.1 hj).1; simp at this; exact this
        subst hj0
        exact ⟨hown, by rw [hcell i q1]; rfl⟩)
      (fun i r j a hi hj => by
        obtain ⟨q1, rfl⟩ := hrow i r hi
        have hj0 : j = 0 := by have := (List.getElem?_eq_some_iff.1 hj).1; simp at this; exact this
        subst hj0
        simp only [List.getElem?_cons_zero, Option.some.injEq] at hj
        subst hj
        unfold rdw
        rw [hcell i q1]
        exact .int _ _)
    rw [hl] at hg
    exact hg
end
end Go.Ab
namespace Go.Ab
open Go Go.RowKit Go.Shelf
theorem Oper.wp_kept {P : Program} {np : Nat} {Q : Exit → Act → World → Prop} {o : Oper} {a : Act} {w : World} {K : Act → World → Prop} (hd : ∀ d, o.dst = some d → kp np d = false) (h : o.wp P a w K Q) : o.wp P a w (fun a' w' => K a' w' ∧ Kept np a a') Q := by
  unfold Oper.wp at *
  generalize (execOp a.eval o).run P w = r at *
  cases r with
  | ok n w' =>
    cases n <;> simp only [Oper.upon] at h ⊢
    case value v => exact ⟨h, Kept.put hd rfl⟩
    case skip => exact ⟨h, Kept.put hd rfl⟩
    case defer d => exact ⟨h, (Kept.put (a := { a with defers := d :: a.defers }) hd rfl)⟩
    case enter f args =>
      refine Calls.mono h fun e w'' he => ?_
      cases e with
      | returned v => exact ⟨he, Kept.put hd rfl⟩
      | panicked c => exact he
      | outgrown => exact he
    case row row args => exact Rows.mono h fun v w'' he => ⟨he, Kept.put hd rfl⟩
  | halt x w' =>
    cases x <;> simp only [Oper.upon] at h ⊢
    all_goals exact h
section
variable {P : Program} {up : Bool} {nt : Nat} {ops : Array Oper} {Q : Exit → Act → World → Prop} {σ : St} {te : List (Nat × AV)} {re : Option Root} {val : Nat → AV × Option Root} {tt : Nat → List (Nat × AV)}
theorem any_segK {np : Nat} {a0 : Act} (hkd : keepDst np ops.toList = true) {A0 D0 : Nat → Prop} {w0 : World} {k : Nat} (hk : k ≤ ops.size) (hchk : segChk k ops = true) (hd : okDst nt ops.toList = true) (hu : up = true → LetsOut Q) (hlt : ∀ y, (getS σ.s y).isSome = true → y < σ.n)
    (hv : SegV P up ops σ (ops.toList.take k) σ.t none te re val tt)
    (hend : ∀ a w G, Kept np a0 a → Holds A0 D0 w0 nt (endSt σ te re) a w G → wpList P ops Q (ops.toList.drop k) a w) :
    ∀ (fuel : Nat) (listed : Array Bool) (a : Act) (w : World) (σ' : St) (G : Nat → Option GR), listed.size = ops.size → unl ops.size listed = fuel → (∀ i, listed.getD i false = true → i < k) → Closed ops listed →
      Agree (ops.toList.take k) σ val listed σ' → Kept np a0 a → Holds A0 D0 w0 nt σ' a w G → wpAny P .any ops Q fuel listed a w := by
  simp only [segChk, Bool.and_eq_true] at hchk
  obtain ⟨⟨hdown, hseg⟩, htail⟩ := hchk
  generalize hfirst : ops.toList.take k = first at *
  have hfk : first.length = k := by rw [← hfirst]; simp; omega
  have hget : ∀ i, i < k → first[i]? = ops[i]? := fun i hi => by rw [← hfirst, List.getElem?_take, if_pos hi, Array.getElem?_toList]
  have hin : ∀ {i : Nat} {o : Oper}, first[i]? = some o → i < k ∧ ops[i]? = some o := fun {i o} h => by
    have h1 : i < k := by have := (List.getElem?_eq_some_iff.1 h).1; omega
    exact ⟨h1, by rw [← hget i h1]; exact h⟩
  have hsegs := segOK_spec hseg
  have hdst : ∀ (i : Nat) (o : Oper), ops[i]? = some o → ∀ d, o.dst = some d → d < nt := by
    have key : ∀ {os : List Oper}, okDst nt os = true → ∀ o ∈ os, ∀ d, o.dst = some d → d < nt := by
      intro os
      induction os with
      | nil => intro _ o ho; cases ho
      | cons b os ih =>
        intro h o ho
        obtain ⟨h1, h2⟩ := okDst_cons h
        rcases List.mem_cons.1 ho with rfl | ho
        · exact h1
        · exact ih h2 o ho
    intro i o ho
    exact key hd o (List.mem_of_getElem? (by rw [Array.getElem?_toList]; exact ho))
  have finish : ∀ {listed : Array Bool} {a : Act} {w : World} {σ' : St} {G : Nat → Option GR}, (∀ i, i < k → listed.getD i false = true) → Agree first σ val listed σ' → Holds A0 D0 w0 nt σ' a w G → Holds A0 D0 w0 nt (endSt σ te re) a w G := by
    intro listed a w σ' G hall hag hh
    have ht : ∀ x, getT te x = getT σ'.t x := by
      intro x
      by_cases hx : ∃ (i : Nat) (o : Oper), first[i]? = some o ∧ o.dst = some x
      · obtain ⟨i, o, hi, hdx⟩ := hx
        have h1 := (hsegs o (List.mem_of_getElem? hi)).1 x hdx
        rw [hv.tE i o x hi hdx (fun j o' hj hd' => Nat.le_of_eq (one_writer h1 hj hd' hi hdx)), hag.w i o x hi (hall i (hin hi).1) hdx]
      · have hno : ∀ (i : Nat) (o : Oper), first[i]? = some o → o.dst ≠ some x := fun i o hi hd => hx ⟨i, o, hi, hd⟩
        rw [hv.tN x hno, hag.u x (fun i o hi _ => hno i o hi)]
    by_cases hr : ∃ (i : Nat) (o : Oper), first[i]? = some o ∧ (val i).2.isSome = true
    · obtain ⟨i, o, hi, his⟩ := hr
      obtain ⟨r, hr⟩ := Option.isSome_iff_exists.1 his
      obtain ⟨q1, q2⟩ := hag.r i o r hi (hall i (hin hi).1) hr
      rw [(hv.rOne i o hi his).1, hr]
      exact hh.ext (σ' := endSt σ te (some r)) q1.symm ht (fun y => (q2 y).symm)
    · have hno : ∀ (i : Nat) (o : Oper), first[i]? = some o → (val i).2 = none := fun i o hi => by
        cases hvi : (val i).2 with
        | none => rfl
        | some y => exact absurd ⟨i, o, hi, by rw [hvi]; rfl⟩ hr
      obtain ⟨q1, q2⟩ := hag.z (fun i o hi _ => hno i o hi)
      rw [hv.rNone hno]
      exact hh.ext (σ' := endSt σ te none) q1.symm ht (fun y => (q2 y).symm)
  intro fuel
  induction fuel with
  | zero =>
    intro listed a w σ' G hs hun hL hc hag hkp hh
    have hall : ∀ i, i < ops.size → listed.getD i false = true := fun i hi => by rw [← getD_tf (by rw [hs]; exact hi)]; exact unl_zero hun hi
    have hks : k = ops.size := by
      rcases Nat.lt_or_ge k ops.size with h | h
      · have := hL k (hall k h); omega
      · omega
    exact any_tail hdown htail 0 k listed a w hs hun (Nat.le_refl _) (fun i hi => ⟨fun _ => by omega, fun _ => hall i hi⟩) (hend a w G hkp (finish (fun i hi => hall i (by omega)) hag hh))
  | succ fuel ih =>
    intro listed a w σ' G hs hun hL hc hag hkp hh
    by_cases hall : ∀ i, i < k → listed.getD i false = true
    · exact any_tail hdown htail (fuel + 1) k listed a w hs hun (Nat.le_refl _) (fun i hi => ⟨fun h => hL i h, fun h => hall i h⟩) (hend a w G hkp (finish hall hag hh))
    -- one of the first is still to be done: there is one that can be
    obtain ⟨i0, h01, h02, h03⟩ := least_not (n := k) (p := fun i => listed.getD i false = true) (Classical.byContradiction fun h => hall fun i hi => Classical.byContradiction fun h' => h ⟨i, hi, h'⟩)
    have hready0 : i0 ∈ Region.ready .any ops listed := by
      have hlt0 : i0 < ops.size := by omega
      refine ready_spec.2 ⟨by rw [getD_tf (by rw [hs]; exact hlt0)]; simpa using h02, ops[i0], Array.getElem?_eq_getElem hlt0, fun j hj => h03 j ?_⟩
      have := edgesDown_spec hdown i0 ops[i0] (by rw [Array.getElem?_toList]; exact Array.getElem?_eq_getElem hlt0) j hj
      omega
    refine ⟨fun h0 => (by rw [h0] at hready0; cases hready0), fun i hi => ?_⟩
    obtain ⟨h1, o, h2, h3⟩ := ready_spec.1 hi
    have hisz := (Array.getElem?_eq_some_iff.1 h2).1
    have hun1 : listed.getD i false = false := by rw [← getD_tf (by rw [hs]; exact hisz)]; exact h1
    have hik : i < k := by
      rcases Nat.lt_or_ge i k with h | h
      · exact h
      · exfalso
        have hn := tailOK_spec htail (i - k) o (by rw [List.getElem?_drop, show k + (i - k) = i by omega, Array.getElem?_toList]; exact h2)
        rw [show k + (i - k) = i by omega] at hn
        exact h02 (needsAll_spec hc i _ h3 hn i0 (by omega))
    have hfi : first[i]? = some o := by rw [hget i hik]; exact h2
    obtain ⟨hs1, hs2⟩ := hsegs o (List.mem_of_getElem? hfi)
    -- no root has been made by another one, if this one makes one
    have hnoroot : (val i).2.isSome = true → ∀ (j : Nat) (o' : Oper), first[j]? = some o' → listed.getD j false = true → (val j).2 = none := by
      intro his j o' hj hlj
      cases hvj : (val j).2 with
      | none => rfl
      | some y =>
        have := (hv.rOne i o hfi his).2.2 j o' hj (by rw [hvj]; rfl)
        subst this
        rw [hun1] at hlj; cases hlj
    have hext : Ext σ σ' := by
      by_cases hr : ∃ (j : Nat) (o' : Oper), first[j]? = some o' ∧ listed.getD j false = true ∧ (val j).2.isSome = true
      · obtain ⟨j, o', hj, hlj, his⟩ := hr
        obtain ⟨r, hr⟩ := Option.isSome_iff_exists.1 his
        obtain ⟨q1, q2⟩ := hag.r j o' r hj hlj hr
        refine ⟨fun y r' hy => ?_, by omega⟩
        rw [q2 y]
        simp only [getS]
        have := hlt y (by rw [hy]; rfl)
        rw [if_neg (by omega)]
        exact hy
      · obtain ⟨q1, q2⟩ := hag.z (fun j o' hj hlj => by
          cases hvj : (val j).2 with
          | none => rfl
          | some y => exact absurd ⟨j, o', hj, hlj, by rw [hvj]; rfl⟩ hr)
        exact ⟨fun y r' hy => by rw [q2 y]; exact hy, by omega⟩
    have hreads : ∀ x ∈ o.looksAt ops, getT σ'.t x = getT (tt i) x := by
      intro x hx
      by_cases hw : ∃ (j : Nat) (o' : Oper), first[j]? = some o' ∧ o'.dst = some x
      · obtain ⟨j, o', hj, hdx⟩ := hw
        have hjb := hs2 x hx j (mem_writers.2 ⟨o', by simpa using hj, Nat.zero_le _, hdx⟩)
        have hlj := h3 j hjb
        have hji := edgesDown_spec hdown i o (by rw [Array.getElem?_toList]; exact h2) j hjb
        have h1w := (hsegs o' (List.mem_of_getElem? hj)).1 x hdx
        rw [hag.w j o' x hj hlj hdx, hv.tI i j o' x (by omega) (by omega) hj hdx (fun j' o'' _ hj' hd' => Nat.le_of_eq (one_writer h1w hj' hd' hj hdx))]
      · have hno : ∀ (j : Nat) (o' : Oper), first[j]? = some o' → o'.dst ≠ some x := fun j o' hj hd => hw ⟨j, o', hj, hd⟩
        rw [hag.u x (fun j o' hj _ => hno j o' hj), hv.tI0 i x (fun j o' _ hj => hno j o' hj)]
    have hset : ∀ j, (listed.setIfInBounds i true).getD j false = true ↔ j = i ∨ listed.getD j false = true := by
      intro j
      by_cases hij : i = j
      · subst hij
        rw [Array.getD_eq_getD_getElem?, Array.getElem?_setIfInBounds_self_of_lt (by rw [hs]; exact hisz)]
        simp
      · rw [getD_set_ne false hij]
        exact ⟨.inr, fun h => h.resolve_left (Ne.symm hij)⟩
    -- behind it
    have hnext : ∀ (a : Act) (w : World) (G : Nat → Option GR), Kept np a0 a → Holds A0 D0 w0 nt (newR σ' o.dst (val i).1 (val i).2) a w G → wpAny P .any ops Q fuel (listed.setIfInBounds i true) a w := by
      intro a w G hkp hh'
      have hT : ∀ x, getT (newR σ' o.dst (val i).1 (val i).2).t x = if o.dst = some x then (val i).1 else getT σ'.t x := by
        intro x
        have hp : ∀ (τ : St), getT (τ.put o.dst (val i).1).t x = if o.dst = some x then (val i).1 else getT τ.t x := by
          intro τ
          unfold St.put
          split
          · rename_i d hd
            rw [hd]
            simp only [getT, Option.some.injEq]
          · rename_i hd; rw [hd]; simp
        unfold newR
        split <;> exact hp _
      refine ih _ a w _ G (by simpa using hs) (by have := unl_set hisz hs h1; omega) (fun j hj => ?_) (closed_set hc hi) ⟨fun j o' x hj hl hdx => ?_, fun x hx => ?_, fun j o' r hj hl hr => ?_, fun hz => ?_⟩ hkp hh'
      · rcases (hset j).1 hj with rfl | h
        · exact hik
        · exact hL j h
      · rw [hT x]
        rcases (hset j).1 hl with rfl | h
        · rw [hfi] at hj; cases hj
          rw [if_pos hdx]
        · have hne : ¬ o.dst = some x := fun hd => by
            have := one_writer (hs1 x hd) hfi hd hj hdx
            subst this
            rw [hun1] at h; cases h
          rw [if_neg hne]
          exact hag.w j o' x hj h hdx
      · rw [hT x, if_neg (hx i o hfi ((hset i).2 (.inl rfl)))]
        exact hag.u x (fun j o' hj hl => hx j o' hj ((hset j).2 (.inr hl)))
      · rcases (hset j).1 hl with rfl | h
        · rw [hfi] at hj; cases hj
          obtain ⟨q1, q2⟩ := hag.z (hnoroot (by rw [hr]; rfl))
          have e : newR σ' o.dst (val j).1 (val j).2 = St.put { n := σ'.n + 1, t := σ'.t, s := (σ'.n, r) :: σ'.s } o.dst (val j).1 := by rw [hr]; rfl
          rw [e]
          have e2 : ∀ (τ : St), (τ.put o.dst (val j).1).n = τ.n ∧ (τ.put o.dst (val j).1).s = τ.s := fun τ => by unfold St.put; split <;> exact ⟨rfl, rfl⟩
          rw [(e2 _).1, (e2 _).2]
          refine ⟨by rw [q1], fun y => ?_⟩
          simp only [getS, q1]
          split
          · rfl
          · exact q2 y
        · obtain ⟨q1, q2⟩ := hag.r j o' r hj h hr
          have hnone : (val i).2 = none := by
            cases hvi : (val i).2 with
            | none => rfl
            | some y => have := hnoroot (by rw [hvi]; rfl) j o' hj h; rw [hr] at this; cases this
          have e : newR σ' o.dst (val i).1 (val i).2 = St.put σ' o.dst (val i).1 := by rw [hnone]; rfl
          rw [e]
          have e2 : ∀ (τ : St), (τ.put o.dst (val i).1).n = τ.n ∧ (τ.put o.dst (val i).1).s = τ.s := fun τ => by unfold St.put; split <;> exact ⟨rfl, rfl⟩
          rw [(e2 _).1, (e2 _).2]
          exact ⟨q1, q2⟩
      · have hnone := hz i o hfi ((hset i).2 (.inl rfl))
        obtain ⟨q1, q2⟩ := hag.z (fun j o' hj hl => hz j o' hj ((hset j).2 (.inr hl)))
        have e : newR σ' o.dst (val i).1 (val i).2 = St.put σ' o.dst (val i).1 := by rw [hnone]; rfl
        rw [e]
        have e2 : ∀ (τ : St), (τ.put o.dst (val i).1).n = τ.n ∧ (τ.put o.dst (val i).1).s = τ.s := fun τ => by unfold St.put; split <;> exact ⟨rfl, rfl⟩
        rw [(e2 _).1, (e2 _).2]
        exact ⟨q1, q2⟩
    unfold wpOp
    rw [h2]
    simp only
    rcases (hv.stab i o hfi).2 σ' hreads hext (fun his => (hag.z (hnoroot his)).1) with ⟨hw, hsnd⟩ | ⟨hw, hv1, hv2⟩
    · rw [if_pos (wantd_spec hh hw)]
      refine (hsnd A0 D0 w0 nt a w G Q (hdst i o h2) hu hh).imp (fun hwp => Oper.wp_mono (fun a w ⟨⟨σ'', G', g1, g2⟩, g3⟩ => ?_) (Oper.wp_kept (keepDst_mem hkd o (List.mem_of_getElem? (by rw [Array.getElem?_toList]; exact h2))) hwp)) id
      subst g2
      exact hnext a w G' (hkp.trans g3) g1
    · rw [if_neg (by rw [wantd_spec hh hw]; simp)]
      refine hnext _ w G (hkp.trans (Kept.put (keepDst_mem hkd o (List.mem_of_getElem? (by rw [Array.getElem?_toList]; exact h2))) rfl)) ?_
      rw [hv1, hv2]
      exact hh.put (.fr _ _ (.tup [] [] rfl (fun i a h => by simp at h))) (hdst i o h2)
end
end Go.Ab
namespace Go.Ab
open Go Go.RowKit Go.Shelf
def A1 (A0 : Nat → Prop) (b : Nat) (w1 : World) (k : Nat) : Prop := A0 k ∨ (b ≤ k ∧ k < w1.heap.size)
structure BB (T e : TypeId) (A0 D0 : Nat → Prop) (w0 w1 : World) (b : Nat) (bs : List UInt8) (av : AV) (v : Value) : Prop where
  bld : Lib.IsBuilder T e b b (Lib.byteCells bs) w1
  le : w0.heap.size ≤ b
  fr : Fr D0 w0 w1
  a0 : ∀ k, A0 k → k < w0.heap.size
  fz : FR w1 (A1 A0 b w1) av v
def CWB (P : Program) (up : Bool) (np nt s s2 : Nat) (T e : TypeId) (av : AV) (F : St → Prop) (c : Code) (σ : St) (bs : List UInt8) (Q : Exit → St → List UInt8 → Prop) : Prop :=
  ∀ (A0 D0 : Nat → Prop) (w0 w1 : World) (b : Nat) (v : Value) (a : Act) (w : World) (G : Nat → Option GR) (R : Exit → Act → World → Prop), (up = true → LetsOut R) → BB T e A0 D0 w0 w1 b bs av v →
    a.tmps[s]? = some (.pointer (some ⟨b, 0, none⟩)) → a.tmps[s2]? = some v → Holds (A1 A0 b w1) (fun _ => False) w1 nt σ a w G →
    (∀ a' w' σ' G', Holds A0 D0 w0 nt σ' a' w' G' → F σ' → R .ret a' w') →
    (∀ x a' w' w1' σ' G' bs', BB T e A0 D0 w0 w1' b bs' av v → Holds (A1 A0 b w1') (fun _ => False) w1' nt σ' a' w' G' → Kept np a a' → Q x σ' bs' → R x a' w') → c.wp P R a w
section
variable {P : Program} {TT : TTab} {up : Bool} {np nt s s2 : Nat} {T e : TypeId} {av : AV} {F : St → Prop} {σ : St} {bs : List UInt8} {Q : Exit → St → List UInt8 → Prop}
theorem CWB.of {c : Code} (h : CW P up np nt c σ (fun x σ' => Q x σ' bs)) : CWB P up np nt s s2 T e av F c σ bs Q :=
  fun A0 D0 w0 w1 b v a w G R hu hb ht ht2 hh hf hr => h _ _ _ _ _ _ R hu hh fun x a' w' σ' G' h1 hk hq => hr x a' w' w1 σ' G' bs hb h1 hk hq
def thenB (P : Program) (up : Bool) (np nt s s2 : Nat) (T e : TypeId) (av : AV) (F : St → Prop) (y : Code) (Q : Exit → St → List UInt8 → Prop) : Exit → St → List UInt8 → Prop
  | .normal, σ, bs => CWB P up np nt s s2 T e av F y σ bs Q
  | x, σ, bs => Q x σ bs
theorem CWB.seq (k1 : kp np s = true) (k2 : kp np s2 = true) {x y : Code} (h : CWB P up np nt s s2 T e av F x σ bs (thenB P up np nt s s2 T e av F y Q)) : CWB P up np nt s s2 T e av F (.seq x y) σ bs Q := by
  intro A0 D0 w0 w1 b v a w G R hu hb ht ht2 hh hf hr
  refine wp_seq (h A0 D0 w0 w1 b v a w G _ (letsOut_then hu) hb ht ht2 hh (fun a' w' σ' G' h1 h2 => hf a' w' σ' G' h1 h2) fun x a' w' w1' σ' G' bs' hb' h1 hk h2 => ?_)
  cases x with
  | normal => exact h2 A0 D0 w0 w1' b v a' w' G' R hu hb' ((hk s k1).trans ht) ((hk s2 k2).trans ht2) h1 hf fun x a'' w'' w1'' σ'' G'' bs'' hb'' h1' hk' h2' => hr x a'' w'' w1'' σ'' G'' bs'' hb'' h1' (hk.trans hk') h2'
  | _ => exact hr _ a' w' w1' σ' G' bs' hb' h1 hk h2
theorem CWB.block {id : Nat} {c : Code} (h : CWB P up np nt s s2 T e av F c σ bs (fun x σ' bs' => inBlk id (fun x σ' => Q x σ' bs') x σ')) : CWB P up np nt s s2 T e av F (.block id c) σ bs Q := by
  intro A0 D0 w0 w1 b v a w G R hu hb ht ht2 hh hf hr
  refine wp_block (h A0 D0 w0 w1 b v a w G _ (letsOut_block hu) hb ht ht2 hh (fun a' w' σ' G' h1 h2 => hf a' w' σ' G' h1 h2) fun x a' w' w1' σ' G' bs' hb' h1 hk h2 => ?_)
  cases x with
  | exit id' =>
    simp only [inBlk] at h2
    simp only [Exit.inBlock]
    by_cases e : id' = id
    · rw [if_pos e]
      have hb : Nat.beq id' id = true := by subst e; simp
      rw [hb] at h2
      exact hr _ a' w' w1' σ' G' bs' hb' h1 hk h2
    · rw [if_neg e]
      have hb : Nat.beq id' id = false := by
        cases hb : Nat.beq id' id with
        | false => rfl
        | true => exact absurd (Nat.eq_of_beq_eq_true hb) e
      rw [hb] at h2
      exact hr _ a' w' w1' σ' G' bs' hb' h1 hk h2
  | _ => exact hr _ a' w' w1' σ' G' bs' hb' h1 hk h2
def loopB {S : Type} (st : S → St) (bst : S → List UInt8) (I : S → Prop) (μ : S → Nat) (x : S) (Q : Exit → St → List UInt8 → Prop) : Exit → St → List UInt8 → Prop
  | .normal, σ, bs => ∃ y, Sh σ (st y) ∧ I y ∧ μ y < μ x ∧ bs = bst y
  | e, σ, bs => Q e σ bs
theorem CWB.loop (k1 : kp np s = true) (k2 : kp np s2 = true) {S : Type} {c : Code} (st : S → St) (bst : S → List UInt8) (I : S → Prop) (μ : S → Nat) (x0 : S) (hw : Sh σ (st x0)) (h0 : I x0) (hbs : bs = bst x0)
    (hb : ∀ x, I x → CWB P up np nt s s2 T e av F c (st x) (bst x) (loopB st bst I μ x Q)) : CWB P up np nt s s2 T e av F (.loop c) σ bs Q := by
  intro A0 D0 w0 w1 b v a0 w G R hu hbb ht ht2 hh hf hr
  obtain ⟨least, least_spec⟩ := leastOf
  obtain ⟨G0, hh0⟩ := hw _ _ _ nt a0 w G hh
  let p : Act → World → Nat → Prop := fun a w n => ∃ x G w1, I x ∧ μ x = n ∧ BB T e A0 D0 w0 w1 b (bst x) av v ∧ Holds (A1 A0 b w1) (fun _ => False) w1 nt (st x) a w G ∧ Kept np a0 a
  refine wp_loop (fun a w => ∃ n, p a w n) (fun a w => least (p a w)) ⟨_, x0, G0, w1, h0, rfl, hbs ▸ hbb, hh0, Kept.refl np a0⟩ fun a w hI => ?_
  obtain ⟨⟨x, G, w1, hx, hn, hbb', hh', hkept⟩, hmin⟩ := least_spec _ hI
  refine hb x hx A0 D0 w0 w1 b v a w G _ (letsOut_then hu) hbb' ((hkept s k1).trans ht) ((hkept s2 k2).trans ht2) hh' (fun a' w' σ' G' h1 h2 => hf a' w' σ' G' h1 h2) fun x' a' w' w1' σ' G' bs' hb' h1 hk h2 => ?_
  cases x' with
  | normal =>
    obtain ⟨y, q1, q2, q3, rfl⟩ := h2
    obtain ⟨G2, hh2⟩ := q1 _ _ _ nt a' w' G' h1
    have hp : p a' w' (μ y) := ⟨y, G2, w1', q2, rfl, hb', hh2, hkept.trans hk⟩
    refine ⟨⟨_, hp⟩, Nat.lt_of_le_of_lt ((least_spec _ ⟨_, hp⟩).2 _ hp) ?_⟩
    rw [← hn]; exact q3
  | _ => exact hr _ a' w' w1' σ' G' bs' hb' h1 (hkept.trans hk) h2
end
end Go.Ab
namespace Go.Ab
open Go Go.RowKit Go.Shelf
def TB (s2 : Nat) (av : AV) (t : List (Nat × AV)) : List (Nat × AV) → Prop
  | [] => True
  | (i, a) :: r => ((i = s2 ∧ a = av) ∨ (a.flat = true ∧ a.pure = true ∧ getT t i = a)) ∧ TB s2 av t r
theorem TB_get {s2 : Nat} {av : AV} {t : List (Nat × AV)} : ∀ {τ : List (Nat × AV)}, TB s2 av t τ → ∀ i, getT τ i = .undef ∨ (i = s2 ∧ getT τ i = av) ∨ ((getT τ i).flat = true ∧ (getT τ i).pure = true ∧ getT t i = getT τ i)
  | [], _, i => .inl rfl
  | (j, a) :: r, h, i => by
    simp only [getT]
    split
    · rename_i e; subst e
      rcases h.1 with ⟨h1, h2⟩ | h1
      · exact .inr (.inl ⟨h1, h2⟩)
      · exact .inr (.inr h1)
    · exact TB_get h.2 i
theorem emptyInv (A0 : Nat → Prop) (w : World) (n : Nat) : Inv A0 w n [] (fun _ => none) :=
  ⟨fun x => rfl, fun x r g h => (by cases h), fun x r g h => (by cases h), fun x g h => (by cases h), fun x g b h => (by cases h), fun x g x' g' h => (by cases h), fun x g h => (by cases h), fun b ⟨x, g, h, _⟩ => (by cases h)⟩
theorem noFp {b : Nat} : ¬ GFp (fun _ => none) b := fun ⟨x, g, h, _⟩ => by cases h
theorem bareHolds {A D A' D' : Nat → Prop} {w0 w0' w w' : World} {nt s2 : Nat} {σ : St} {a : Act} {G : Nat → Option GR} {τ : List (Nat × AV)} {av : AV} {v : Value} (hh : Holds A D w0 nt σ a w G) (hτ : TB s2 av σ.t τ) (ht2 : a.tmps[s2]? = some v)
    (hfz : FR w' A' av v) (hfr : Fr D' w0' w') (ha : ∀ k, A' k → k < w0'.heap.size) : Holds A' D' w0' nt ⟨0, τ, []⟩ a w' (fun _ => none) := by
  have hs2 : s2 < nt := by rw [← hh.size]; exact (Array.getElem?_eq_some_iff.1 ht2).1
  have hO : ∀ k, Own A' (fun _ => none) k → A' k := fun k hk => hk.elim id fun h => (noFp h).elim
  refine ⟨emptyInv _ _ _, hh.size, hh.defers, fun i hi => ?_, fun i hi => ?_, hfr, fun b hb => (noFp hb).elim, ha⟩
  · rcases TB_get hτ i with e | ⟨rfl, e⟩ | ⟨e1, e2, e3⟩
    · show Rel w' _ _ _ (getT τ i) _
      rw [e]; exact .fr _ _ (.undef _)
    · show Rel w' _ _ _ (getT τ i) _
      rw [e, Array.getD_eq_getD_getElem?, ht2]
      exact .fr _ _ (hfz.keep (fun _ _ _ => rfl) (fun k _ hk => hO k hk))
    · have h1 := hh.tmp i hi
      rw [e3] at h1
      exact .fr _ _ ((h1.pure e2).flat e1)
  · rcases TB_get hτ i with e | ⟨rfl, e⟩ | ⟨e1, e2, e3⟩
    · exact e
    · omega
    · have h1 := hh.far i hi
      rw [e3] at h1
      exact h1
theorem bld_keep {T e : TypeId} {b : Nat} {bs : List Value} {w w' : World} (h : Lib.IsBuilder T e b b bs w) (hw : ∀ k, b ≤ k → k < w.heap.size → w'.heap[k]? = w.heap[k]?) : Lib.IsBuilder T e b b bs w' := by
  have key : ∀ p, Lib.BuilderAt T e b b p bs w → Lib.BuilderAt T e b b p bs w' := by
    rintro p ⟨h1, v, h2, ⟨h3, h4⟩, h5⟩
    refine ⟨h1, v, by rw [hw b (Nat.le_refl _) (Array.getElem?_eq_some_iff.1 h2).1]; exact h2, ⟨h3, ?_⟩, h5⟩
    rcases h4 with h4 | ⟨g, cap, cur, q1, q2, q3, q4⟩
    · exact .inl h4
    · exact .inr ⟨g, cap, cur, q1, q2, by rw [hw g q2 (Array.getElem?_eq_some_iff.1 q3).1]; exact q3, q4⟩
  exact h.imp (key _) (key _)
theorem fr_fr {D0 : Nat → Prop} {w0 w1 w2 : World} (h : Fr D0 w0 w1) (k : Fr (fun _ => False) w1 w2) : Fr D0 w0 w2 :=
  ⟨k.os.trans h.os, k.tape.trans h.tape, k.output.trans h.output, Nat.le_trans h.size k.size, fun b hb hd => (k.block b (Nat.lt_of_lt_of_le hb h.size) id).trans (h.block b hb hd)⟩
theorem fr_below {D0 : Nat → Prop} {w0 w1 w2 : World} {b : Nat} (h : Fr D0 w0 w1) (hb : w0.heap.size ≤ b) (k : Below b w1 w2) : Fr D0 w0 w2 :=
  ⟨k.os.trans h.os, k.tape.trans h.tape, k.output.trans h.output, Nat.le_trans h.size k.size, fun i hi hd => (k.block i (by omega)).trans (h.block i hi hd)⟩
section
variable {P : Program} {ρ : Go.Shelf.Ren} {TT : TTab} {up : Bool} {np nt s s2 : Nat} {av : AV} {F : St → Prop} {σ : St} {bs : List UInt8} {Q : Exit → St → List UInt8 → Prop}
theorem callable_of {f : FuncId} {fn : Func} (h : P.funcs[f]? = some fn) (h1 : (fn.name == "runtime.NumGoroutine") = false) (h2 : fn.body.isNone = false) : Callable P f := ⟨fn, h, h1, h2⟩
theorem CWB.drawnWrite (L : Go.Proofs.Lays.n156 P ρ) (X : Go.Proofs.Builder.Extra P ρ) (hm : P.follows .mixedOrders = true) (k1 : kp np s = true) (k2 : kp np s2 = true) (k : Nat) {id : Nat} {ops : Array Oper} {d : Tmp} {ty : TypeId} {pos : String} {af : Array Edge} {gd : Option (Nat × Bool)} {x y : Operand} {ts : Array TypeId}
    (hdrop : ops.toList.drop k = [⟨some d, .call ⟨.value x, #[.tmp s, y], ts⟩, ty, pos, af, gd⟩])
    (hk : k ≤ ops.size) (hchk : segChk k ops = true) (hd : okDst nt ops.toList = true) (hkd : keepDst np ops.toList = true) (hdn : d < nt)
    (h : Seg P up ops σ (ops.toList.take k) σ.t none fun t r => wantd ops (endSt σ t r) ⟨some d, .call ⟨.value x, #[.tmp s, y], ts⟩, ty, pos, af, gd⟩ = some true ∧ ev (endSt σ t r) x = .func (.func (ρ.f 166)) [] [] ∧
      ∃ str τ, ev (endSt σ t r) y = .str str ∧ bs.length + str.size ≤ 140737488355328 ∧ TB s2 av t τ ∧ Q .normal ⟨0, (d, .undef) :: τ, []⟩ (bs ++ strB str)) :
    CWB P up np nt s s2 (ρ.t 72) (ρ.t 5) av F (.region id ops true) σ bs Q := by
  intro A0 D0 w0 w1 b v a w G R hu hb ht ht2 hh hf hr
  let Q1 : Exit → Act → World → Prop := fun e a' w' => match e with
    | .normal => ∃ w1' σ' G' bs', BB (ρ.t 72) (ρ.t 5) A0 D0 w0 w1' b bs' av v ∧ Holds (A1 A0 b w1') (fun _ => False) w1' nt σ' a' w' G' ∧ Q .normal σ' bs'
    | e => R e a' w'
  have hu1 : up = true → LetsOut Q1 := fun hu' => let ⟨a, w, h⟩ := hu hu'; ⟨a, w, h⟩
  suffices hs : wpAny P .any ops Q1 ops.size (Array.replicate ops.size false) a { w with drawn := w.drawn + 1 } by
    refine wp_mono (wp_region_any hm (wpAny_keep (a0 := a) hkd _ _ _ _ (Kept.refl np a) hs)) fun e a' w' he => ?_
    cases e with
    | normal => obtain ⟨⟨w1', σ', G', bs', g0, g1, g2⟩, g3⟩ := he; exact hr _ a' w' w1' σ' G' bs' g0 g1 (g3 rfl) g2
    | _ => exact he.1
  obtain ⟨te, re, val, tt, hk', hv⟩ := seg_vals h
  have hno : ∀ i, (Array.replicate ops.size false).getD i false = true → False := fun i hi => by
    rw [Array.getD_eq_getD_getElem?, Array.getElem?_replicate] at hi
    split at hi <;> simp at hi
  refine any_segK hkd (a0 := a) (σ' := σ) hk hchk hd hu1 (fun y hy => ?_) hv (fun a' w' G' hkp hh' => ?_) ops.size _ a _ G (by simp) ?_ (fun i hi => (hno i hi).elim)
    (fun i o _ hi => (hno i hi).elim) ⟨fun i o x _ hi => (hno i hi).elim, fun x _ => rfl, fun i o r _ hi => (hno i hi).elim, fun _ => ⟨rfl, fun _ => rfl⟩⟩ (Kept.refl np a) hh.drew
  · have := hh.inv.dom y
    rw [hy] at this
    obtain ⟨g, hg⟩ := Option.isSome_iff_exists.1 this.symm
    exact hh.inv.lt y g hg
  · obtain ⟨hw, hx, str, τ, hy, hlen, hτ, hQ⟩ := hk'
    rw [hdrop, wpList_cons, wantd_spec hh' hw, if_pos rfl]
    left
    have e0 := hh'.ev x
    rw [hx] at e0
    obtain ⟨us, cs, ex, hus, hcs, _, _⟩ := e0.func_inv
    obtain rfl := List.eq_nil_of_length_eq_zero hus
    obtain rfl := List.eq_nil_of_length_eq_zero hcs
    have ey := hh'.ev y
    rw [hy] at ey
    have ey := ey.str_inv.1
    have es : a'.eval (.tmp s) = .pointer (some ⟨b, 0, none⟩) := by
      have := (hkp s k1).trans ht
      show a'.tmps.getD s undef = _
      rw [Array.getD_eq_getD_getElem?, this]; rfl
    have ht2' := (hkp s2 k2).trans ht2
    have hsame : ∀ k, k < w1.heap.size → w'.heap[k]? = w1.heap[k]? := fun k hk => hh'.fr.block k hk fun h => h
    have hbld := bld_keep hb.bld (fun k _ hk => hsame k hk)
    have hbw : b ≤ w'.heap.size := by
      have : b < w1.heap.size := by
        rcases hb.bld with ⟨_, _, q, _⟩ | ⟨_, _, q, _⟩ <;> exact (Array.getElem?_eq_some_iff.1 q).1
      have := hh'.fr.size; omega
    have hc := Go.Proofs.Any.Builder_WriteString { L with } X b b (Lib.byteCells bs) str w' hbld (by rw [Lib.byteCells_length]; exact hlen) hbw
    have hcl : Callable P (ρ.f 166) := callable_of L.f166 (by kernel_rfl) rfl
    simp only [Oper.wp, run_enter hcl (o := ⟨some d, .call ⟨.value x, #[.tmp s, y], ts⟩, ty, pos, af, gd⟩) rfl ex, List.nil_append, List.append_nil, List.map_cons, List.map_nil, es, ey, Oper.upon]
    refine hc.mono fun e w'' he => ?_
    obtain ⟨rfl, hb2, hb3⟩ := he
    have hfz' : FR w'' (A1 A0 b w'') av v := by
      refine hb.fz.keep (fun k hk hn => ?_) (fun k hk hn => ?_)
      · have : k < b := Nat.lt_of_not_le fun h => hn (.inr ⟨h, hk⟩)
        rw [hb3.block k this, hsame k hk]
      · rcases hn with hn | hn
        · exact .inl hn
        · exact .inr ⟨hn.1, hk⟩
    have hfr' : Fr D0 w0 w'' := fr_below (fr_fr hb.fr hh'.fr) hb.le hb3
    refine ⟨w'', ⟨0, (d, .undef) :: τ, []⟩, fun _ => none, bs ++ strB str, ⟨?_, hb.le, hfr', hb.a0, hfz'⟩, (bareHolds hh' (τ := τ) (by cases re <;> exact hτ) ht2' hfz' ⟨rfl, rfl, rfl, Nat.le_refl _, fun _ _ _ => rfl⟩ (fun k hk => ?_)).put (d := some d) (v := .undef) (.fr _ _ (.undef _)) (fun i hi => by cases hi; exact hdn), hQ⟩
    · right
      have e1 : Lib.byteCells (bs ++ strB str) = Lib.byteCells bs ++ Lib.strCells str := by rw [Lib.byteCells_append, Lib.strCells_eq]; rfl
      rw [e1]; exact hb2
    · rcases hk with hk | hk
      · have g1 := hb.a0 k hk
        have g2 := hfr'.size
        omega
      · exact hk.2
  · unfold unl
    have : ((List.range ops.size).filter fun i => !(Array.replicate ops.size false).getD i true) = List.range ops.size := by
      rw [List.filter_eq_self]
      intro i hi
      have hi := List.mem_range.1 hi
      rw [Array.getD_eq_getD_getElem?, Array.getElem?_replicate, if_pos hi]
      rfl
    rw [this, List.length_range]
end
end Go.Ab
namespace Go.Ab
open Go Go.RowKit Go.Shelf
section
variable {P : Program} {ρ : Go.Shelf.Ren} {TT : TTab} {up : Bool} {np nt s s2 : Nat} {av : AV} {F : St → Prop} {σ : St} {bs : List UInt8} {Q : Exit → St → List UInt8 → Prop}
theorem CWB.string (L : Go.Proofs.Lays.n156 P ρ) (X : Go.Proofs.Builder.Extra P ρ) {id : Nat} {ops : Array Oper} {os : List Oper} {d : Tmp} {ty : TypeId} {pos : String} {af : Array Edge} {gd : Option (Nat × Bool)} {x : Operand} {ts : Array TypeId}
    (hops : ops.toList = ⟨some d, .call ⟨.value x, #[.tmp s], ts⟩, ty, pos, af, gd⟩ :: os) (hd : okDst nt ops.toList = true)
    (hw : wantd ops σ ⟨some d, .call ⟨.value x, #[.tmp s], ts⟩, ty, pos, af, gd⟩ = some true) (hx : ev σ x = .func (.func (ρ.f 169)) [] []) {τ : List (Nat × AV)} (hτ : TB s2 av σ.t τ)
    (hk : CWops P up nt ops os ⟨0, (d, .str ⟨bs.toArray⟩) :: τ, []⟩ F) (hlen : bs.length ≤ MX) : CWB P up np nt s s2 (ρ.t 72) (ρ.t 5) av F (.seq (.region id ops false) .ret) σ bs Q := by
  intro A0 D0 w0 w1 b v a w G R hu hb ht ht2 hh hf hr
  refine wp_seq (wp_region_list ?_)
  rw [hops] at hd ⊢
  obtain ⟨hd1, hd2⟩ := okDst_cons hd
  rw [wpList_cons, wantd_spec hh hw, if_pos rfl]
  left
  have e0 := hh.ev x
  rw [hx] at e0
  obtain ⟨us, cs, ex, hus, hcs, _, _⟩ := e0.func_inv
  obtain rfl := List.eq_nil_of_length_eq_zero hus
  obtain rfl := List.eq_nil_of_length_eq_zero hcs
  have es : a.eval (.tmp s) = .pointer (some ⟨b, 0, none⟩) := by
    show a.tmps.getD s undef = _
    rw [Array.getD_eq_getD_getElem?, ht]; rfl
  have hsame : ∀ k, k < w1.heap.size → w.heap[k]? = w1.heap[k]? := fun k hk => hh.fr.block k hk fun h => h
  have hbld := bld_keep hb.bld (fun k _ hk => hsame k hk)
  have hbw : b ≤ w.heap.size := by
    have : b < w1.heap.size := by
      rcases hb.bld with ⟨_, _, q, _⟩ | ⟨_, _, q, _⟩ <;> exact (Array.getElem?_eq_some_iff.1 q).1
    have := hh.fr.size; omega
  have hc := Go.Proofs.Any.Builder_String_any { L with } X b b bs w hbld hbw
  have hcl : Callable P (ρ.f 169) := callable_of L.f169 (by kernel_rfl) rfl
  simp only [Oper.wp, run_enter hcl (o := ⟨some d, .call ⟨.value x, #[.tmp s], ts⟩, ty, pos, af, gd⟩) rfl ex, List.nil_append, List.append_nil, List.map_cons, List.map_nil, es, Oper.upon]
  refine hc.mono fun e w'' he => ?_
  obtain ⟨rfl, hb3⟩ := he
  have hfr' : Fr D0 w0 w'' := fr_below (fr_fr hb.fr hh.fr) hb.le hb3
  have hfz' : FR w'' A0 av v := by
    refine hb.fz.keep (fun k hk hn => ?_) (fun k hk hn => .inl hn)
    have : k < b := Nat.lt_of_not_le fun h => hn (.inr ⟨h, hk⟩)
    rw [hb3.block k this, hsame k hk]
  have hH := (bareHolds hh (τ := τ) hτ ht2 hfz' hfr' hb.a0).put (d := some d) (v := .str ⟨bs.toArray⟩) (u := .string ⟨bs.toArray⟩) (.fr _ _ (.str _ (by show bs.toArray.size ≤ MX; simpa using hlen))) hd1
  exact hk hd2 A0 D0 w0 _ w'' _ _ (letsOut_then hu) hH fun a' w' σ' G' h1 h2 => wp_ret (hf _ _ _ _ h1 h2)
def PureOp (P : Program) (o : Oper) : Prop := ∀ (g : Operand → Value) (w : World), match (execOp g o).run P w with
  | .ok (.value _) w' => w' = w
  | .ok _ _ => False
  | .halt _ _ => True
theorem wpList_pure {all : Array Oper} {Q : Exit → Act → World → Prop} : ∀ {os : List Oper} {a : Act} {w : World}, (∀ o ∈ os, PureOp P o) → wpList P all Q os a w → wpList P all (fun e a' w' => Q e a' w' ∧ (e = .normal → w' = w)) os a w
  | [], a, w, _, h => ⟨h, fun _ => rfl⟩
  | o :: os, a, w, hp, h => by
    rw [wpList_cons] at h ⊢
    split
    · rename_i hw
      rw [if_pos hw] at h
      rcases h with h | h
      · left
        have h1 := hp o List.mem_cons_self a.eval w
        unfold Oper.wp at h ⊢
        generalize (execOp a.eval o).run P w = r at *
        cases r with
        | ok n w' =>
          cases n <;> simp only at h1
          case value v =>
            subst h1
            simp only [Oper.upon] at h ⊢
            exact wpList_pure (fun o' ho' => hp o' (List.mem_cons_of_mem _ ho')) h
        | halt x w' =>
          cases x <;> simp only [Oper.upon] at h ⊢
          all_goals exact ⟨h, fun e => by cases e⟩
      · exact .inr ⟨h.1, let ⟨a, w, h⟩ := h.2; ⟨a, w, h, fun e => by cases e⟩⟩
    · rename_i hw
      rw [if_neg hw] at h
      exact wpList_pure (fun o' ho' => hp o' (List.mem_cons_of_mem _ ho')) h
theorem CW.builder (L : Go.Proofs.Lays.n156 P ρ) (X : Go.Proofs.Builder.Extra P ρ) (np2 : Nat) (k3 : kp np2 s = true) (k1 : kp np s = true) (k2 : kp np s2 = true) (hs : s < nt) {i1 i2 : Nat} {ops1 ops2 : Array Oper} {ty : TypeId} {pos : String} {af : Array Edge} {gd : Option (Nat × Bool)} {mid rest : Code} {QQ : Exit → St → Prop}
    (h1 : ops1.toList = [⟨some s, .alloc (ρ.t 72), ty, pos, af, gd⟩]) (hw1 : wantd ops1 σ ⟨some s, .alloc (ρ.t 72), ty, pos, af, gd⟩ = some true)
    (hp : ∀ o ∈ ops2.toList, PureOp P o) (hd2 : okDst nt ops2.toList = true) (hk2 : keepDst np2 ops2.toList = true) (hs2 : s2 < nt) (hav : av.pure = true)
    (h2 : CWops P up nt ops2 ops2.toList (σ.put (some s) .undef) fun σ' => getT σ'.t s2 = av ∧ ∃ τ, TB s2 av σ'.t τ ∧ CWB P up np nt s s2 (ρ.t 72) (ρ.t 5) av (QQ .ret) mid ⟨0, τ, []⟩ [] (thenB P up np nt s s2 (ρ.t 72) (ρ.t 5) av (QQ .ret) rest fun _ _ _ => False)) :
    CW P up 0 nt (.seq (.region i1 ops1 false) (.seq (.seq (.region i2 ops2 false) mid) rest)) σ QQ := by
  intro A0 D0 w0 a w G R hu hh hr
  refine wp_seq (wp_region_list ?_)
  rw [h1, wpList_cons, wantd_spec hh hw1, if_pos rfl]
  left
  have hrun : (execOp a.eval ⟨some s, .alloc (ρ.t 72), ty, pos, af, gd⟩).run P w = .ok (.value (.pointer (some ⟨w.heap.size, 0, none⟩))) (w.alloc (.cells #[.pointer none, .slice none 0 0] (ρ.t 72))) := by
    simp [execOp, Instr.alloc, newVar, newRow, L.v72, Value.cells]
  refine wp_value hrun ?_
  show Code.wp P (.seq (.seq (.region i2 ops2 false) mid) rest) R (a.put (some s) (.pointer (some ⟨w.heap.size, 0, none⟩))) (w.alloc (.cells #[.pointer none, .slice none 0 0] (ρ.t 72)))
  have hold : ∀ k, k < w.heap.size → (w.alloc (.cells #[.pointer none, .slice none 0 0] (ρ.t 72))).heap[k]? = w.heap[k]? := fun k hk => Below.heap_alloc w _ k hk
  have hnew : (w.alloc (.cells #[.pointer none, .slice none 0 0] (ρ.t 72))).heap[w.heap.size]? = some (.cells #[.pointer none, .slice none 0 0] (ρ.t 72) (0, 0)) := heap_alloc_new w _
  have hsz : (w.alloc (.cells #[.pointer none, .slice none 0 0] (ρ.t 72))).heap.size = w.heap.size + 1 := by simp
  have f01 : Fr (fun _ => False) w (w.alloc (.cells #[.pointer none, .slice none 0 0] (ρ.t 72))) := ⟨rfl, rfl, rfl, by omega, fun k hk _ => hold k hk⟩
  generalize hw1' : w.alloc (.cells #[.pointer none, .slice none 0 0] (ρ.t 72)) = w1 at *
  clear hw1'
  have ha1 : ∀ k, A1 A0 w.heap.size w1 k → k < w1.heap.size := fun k hk => by
    rcases hk with hk | hk
    · have := hh.a0lt k hk; have := hh.fr.size; omega
    · exact hk.2
  have hB : Holds (A1 A0 w.heap.size w1) (GFp G) w1 nt σ a w1 G := by
    refine ⟨hh.inv.away (fun k hk _ => hold k hk) (fun k hk h => h.resolve_right fun h => ?_), hh.size, hh.defers, fun i hi => (hh.tmp i hi).keep (Nat.le_refl _) (fun k hk _ => hold k hk) (fun k hk h => h.imp (fun h => h.resolve_right fun h => ?_) id) (fun _ _ _ _ _ h => h) (fun _ _ _ _ _ h => h), hh.far,
      ⟨rfl, rfl, rfl, Nat.le_refl _, fun _ _ _ => rfl⟩, fun k hk => .inl hk, ha1⟩
    all_goals omega
  have hB' := hB.put (d := some s) (v := .undef) (u := .pointer (some ⟨w.heap.size, 0, none⟩)) (.fr _ _ (.undef _)) (fun i hi => by cases hi; exact hs)
  let Q2 : Exit → Act → World → Prop := fun e a' w' => match e with
    | .normal => ∃ σ' G', Holds (A1 A0 w.heap.size w1) (GFp G) w1 nt σ' a' w' G' ∧ (getT σ'.t s2 = av ∧ ∃ τ, TB s2 av σ'.t τ ∧ CWB P up np nt s s2 (ρ.t 72) (ρ.t 5) av (QQ .ret) mid ⟨0, τ, []⟩ [] (thenB P up np nt s s2 (ρ.t 72) (ρ.t 5) av (QQ .ret) rest fun _ _ _ => False))
    | e => Exit.then (fun a w => Code.wp P mid (Exit.then (fun a w => Code.wp P rest R a w) R) a w) (Exit.then (fun a w => Code.wp P rest R a w) R) e a' w'
  have g := h2 hd2 _ _ w1 _ w1 G Q2 (fun hu' => let ⟨a, w, h⟩ := hu hu'; ⟨a, w, h⟩) hB' (fun a' w' σ' G' k1 k2 => ⟨σ', G', k1, k2⟩)
  refine wp_seq (wp_seq (wp_mono (wp_region_list (wpList_keep hk2 (Kept.refl np2 _) (wpList_pure hp g))) fun e a' w' he => ?_))
  cases e with
  | normal =>
    obtain ⟨⟨⟨σ', G', q1, q2, τ, q3, q4⟩, q5⟩, q6⟩ := he
    have q5 := q5 rfl
    subst q5
    have q6 := q6 rfl
    have hs2' : a'.tmps[s2]? = some (a'.tmps.getD s2 undef) := by
      have : s2 < a'.tmps.size := by rw [q1.size]; exact hs2
      rw [Array.getD_eq_getD_getElem?, Array.getElem?_eq_getElem this]; rfl
    have hst : a'.tmps[s]? = some (.pointer (some ⟨w.heap.size, 0, none⟩)) := by
      rw [q6 s k3]
      show (a.tmps.setIfInBounds s _)[s]? = _
      exact Array.getElem?_setIfInBounds_self_of_lt (by rw [hh.size]; exact hs)
    have hfz : FR w' (A1 A0 w.heap.size w') av (a'.tmps.getD s2 undef) := by
      have := q1.tmp s2 hs2
      rw [q2] at this
      exact (this.pure hav).keep (fun _ _ _ => rfl) (fun k _ hk => .inl hk)
    have hbb : BB (ρ.t 72) (ρ.t 5) A0 D0 w0 w' w.heap.size [] av (a'.tmps.getD s2 undef) := ⟨.inl ⟨Nat.le_refl _, _, hnew, World.ownsRow_nil _ _ _ _, by simp [Value.ownBlock]⟩, hh.fr.size, fr_fr hh.fr f01, hh.a0lt, hfz⟩
    have hk0 : ∀ (a1 a2 : Act), Kept 0 a1 a2 := fun a1 a2 i hi => absurd hi (by show ¬ (false = true); simp)
    refine q4 A0 D0 w0 w' w.heap.size _ a' w' (fun _ => none) _ (letsOut_then hu) hbb hst hs2' (bareHolds q1 q3 hs2' hfz ⟨rfl, rfl, rfl, Nat.le_refl _, fun _ _ _ => rfl⟩ ha1) (fun a2 w2 σ2 G2 h1 h2 => hr _ _ _ _ _ h1 (hk0 _ _) h2) (fun x a2 w2 w1' σ2 G2 bs2 h1 h2 h3 h4 => ?_)
    cases x with
    | normal => exact h4 A0 D0 w0 w1' _ _ a2 w2 G2 R hu h1 ((h3 s k1).trans hst) ((h3 s2 k2).trans hs2') h2 (fun a3 w3 σ3 G3 g1 g2 => hr _ _ _ _ _ g1 (hk0 _ _) g2) (fun _ _ _ _ _ _ _ _ _ _ h => h.elim)
    | _ => exact h4.elim
  | _ => exact he.1.1
end
end Go.Ab
namespace Go.Ab
open Go Go.RowKit
section
variable {P : Program} {TT : TTab} {up : Bool} {all : Array Oper} {σ0 : St} {K : List (Nat × AV) → Option Root → Prop}
theorem Seg.strBytes {os : List Oper} {t : List (Nat × AV)} {r : Option Root} {d : Option Tmp} {ty : TypeId} {pos : String} {af : Array Edge} {gd : Option (Nat × Bool)} {s u e : Nat} {x : Operand} {i j k : TI} {b : ByteArray} (htt : TTok P TT)
    (hw : wantd all { σ0 with t := t } ⟨d, .convert s u x, ty, pos, af, gd⟩ = some true) (hs : TT s = some i) (hik : i.kind = .str) (hd : TT u = some j) (hjk : j.kind = .slice e) (he : TT e = some k) (hek : k.kind = .int .u8) (hx : ev { σ0 with t := t } x = .str b)
    (hk : Seg P up all σ0 os (putT t d (.sl 1 (strRows b))) r K) : Seg P up all σ0 (⟨d, .convert s u x, ty, pos, af, gd⟩ :: os) t r K := by
  refine ⟨t, .sl 1 (strRows b), none, fun _ => rfl, ⟨fun _ => rfl, ?_⟩, .inl rfl, hk⟩
  intro σ' hl hxt hn
  refine .inl ⟨by rw [wantd_congr (τ := { σ0 with t := t }) hl]; exact hw, ?_⟩
  have hev : ∀ y ∈ (Op.convert s u x).operands, ev σ' y = ev { σ0 with t := t } y := fun y hy => looks_ops (τ := { σ0 with t := t }) hl hy
  exact Snd.up (snd_strBytes rfl htt hs hik hd hjk he hek (by rw [hev x (by simp [Op.operands])]; exact hx) rfl)
theorem Seg.conv {os : List Oper} {t : List (Nat × AV)} {r : Option Root} {d : Option Tmp} {ty : TypeId} {pos : String} {af : Array Edge} {gd : Option (Nat × Bool)} {s u : Nat} {x : Operand} {i j : TI} {k k' : IntKind} {n : Int} (htt : TTok P TT)
    (hw : wantd all { σ0 with t := t } ⟨d, .convert s u x, ty, pos, af, gd⟩ = some true) (hs : TT s = some i) (hik : i.kind = .int k) (hd : TT u = some j) (hjk : j.kind = .int k') (hx : ev { σ0 with t := t } x = .int k n)
    (hk : Seg P up all σ0 os (putT t d (.int k' (k'.wrap n))) r K) : Seg P up all σ0 (⟨d, .convert s u x, ty, pos, af, gd⟩ :: os) t r K := by
  refine ⟨t, .int k' (k'.wrap n), none, fun _ => rfl, ⟨fun _ => rfl, ?_⟩, .inl rfl, hk⟩
  intro σ' hl hxt hn
  refine .inl ⟨by rw [wantd_congr (τ := { σ0 with t := t }) hl]; exact hw, ?_⟩
  have hev : ∀ y ∈ (Op.convert s u x).operands, ev σ' y = ev { σ0 with t := t } y := fun y hy => looks_ops (τ := { σ0 with t := t }) hl hy
  exact Snd.up (snd_conv rfl htt hs hik hd hjk (by rw [hev x (by simp [Op.operands])]; exact hx) rfl)
end
end Go.Ab
namespace Go.Ab
open Go Go.RowKit
theorem setCells_W (b o : Nat) : ∀ (us : List Value) (i : Nat) (w : World), setCells b o w i us = w.setCells b (o + i) us
  | [], _, _ => rfl
  | u :: us, i, w => by
    simp only [setCells, World.setCells]
    rw [setCells_W b o us (i + 1) _, show o + (i + 1) = o + i + 1 by omega]
section
variable {P : Program} {TT : TTab} {up : Bool} {o : Oper} {σ : St} {K : St → Prop}
theorem snd_copy {t u e y : Nat} {s x : Operand} {i j : TI} {es rows : List (List AV)} (ho : o.op = .call { callee := .builtin .copy, args := #[s, x], argTypes := #[t, u] }) (htt : TTok P TT) (ht : TT t = some i) (hi : i.kind = .slice e) (he : TT e = some j) (hsz : j.size = 1)
    (hs : ev σ s = .ref y [] 0) (hy : getS σ.s y = some ⟨false, [.own 1 es]⟩) (hx : srcRows σ 1 (ev σ x) = some rows) (hp : isRef (ev σ x) = true → ∀ r ∈ rows, ∀ a ∈ r, a.tree = false) (hc : isRef (ev σ x) = false → ∀ r ∈ rows, ∀ a ∈ r, a.cell = true) (hlen : rows.length = es.length)
    (hk : K (St.put { σ with s := updS σ.s y ⟨false, [.own 1 rows]⟩ } o.dst (.int .i64 (es.length : Int)))) : Snd P o σ K := by
  intro A0 D0 w0 nt a w G Q hd h
  have hkd := (htt t i ht).kind
  rw [hi] at hkd
  have hkd : P.underlying t = some (.slice e) := hkd
  have hsrc := h.src (h.ev x) hx hp hc
  have hv := h.ev s
  rw [hs] at hv
  have hv := hv.ref_inv.2.2
  obtain ⟨inf, zz, i1, i2, i3, i4, i5, _, _⟩ := (htt e j he).info
  have hinf : (P.info? e).map (·.size) = some 1 := by rw [i1]; simp [i2, hsz]
  have run : ∀ {n : Nat} {w' : World}, (Builtin.copy_ #[t, u] o.type #[a.eval s, a.eval x]).run P w = .ok (goInt n) w' → (execOp a.eval o).run P w = .ok (.value (goInt n)) w' := fun h2 => by
    simp [execOp, ho, resolve, invoke, builtin, h2]
  by_cases hes : es = []
  · subst hes
    have hr : rows = [] := List.length_eq_zero_iff.1 hlen
    subst hr
    obtain ⟨ad, c, hxv⟩ := hsrc.nil rfl
    have hcell : cellAtB σ y [] 0 = .own 1 [] := by simp [cellAtB, hy, rowOf]
    obtain ⟨r', row', g, grow, t', g1, g2, g3, g4, g5, g6, g7, g8, g9, g10, g11, g12⟩ := h.tree hcell rfl
    obtain ⟨v0, rows0, rfl, h0⟩ := er_own g8 g7
    have h0 : rows0 = [] := by simpa using h0.symm
    subst h0
    have hsv := g11 _ hv
    simp only [GT.val] at hsv
    have hvv : ∃ ad c, v0 = .slice ad 0 c := by
      rcases g9.own_inv with ⟨e1, _⟩ | ⟨b, cap, vs, T, e1, _⟩
      · exact ⟨_, _, e1⟩
      · exact ⟨_, _, e1⟩
    obtain ⟨ad2, c2, rfl⟩ := hvv
    refine wp_value (run (n := 0) (w' := w) (by rw [hsv, hxv]; exact run_copy_none w t u o.type e ad2 ad 0 c2 0 c hkd hinf rfl)) ⟨_, G, (h.ext (σ' := { σ with s := updS σ.s y ⟨false, [.own 1 []]⟩ }) rfl (fun _ => rfl) (fun z => ?_)).put (.fr _ _ (.int _ _)) hd, hk⟩
    show getS (updS σ.s y _) z = _
    rw [getS_upd]
    by_cases e1 : z = y
    · rw [if_pos e1, e1, hy]; rfl
    · rw [if_neg e1]
  · have hpos : 0 < es.length := by cases es with | nil => exact absurd rfl hes | cons => simp
    have hr : rows ≠ [] := fun e => by rw [e] at hlen; simp at hlen; omega
    obtain ⟨b2, o2, c2, hxv, hcs⟩ := hsrc.at_ hr
    obtain ⟨b, cap, vs, T, q1, q2, q3, q4, q5, q6, q7, q8⟩ := h.refill hy hpos
    have hsv := q3 _ hv
    have hrl : ∀ (i : Nat) (r : List AV), rows[i]? = some r → r.length = 1 := hsrc.len
    obtain ⟨us, hus⟩ : ∃ us, us = (List.range rows.length).map fun i => (w.cell? ⟨b2, o2 + i, none⟩).getD undef := ⟨_, rfl⟩
    have hul : us.length = rows.length := by simp [hus]
    have hone : ∀ (k : Nat), k < rows.length → ∃ av v, rows[k]? = some [av] ∧ w.cell? ⟨b2, o2 + k, none⟩ = some v ∧ us[k]? = some v ∧ FR w (Own A0 G) av v ∧ v.oneCell' = true := fun k hk => by
      have h1 : rows[k]? = some rows[k] := List.getElem?_eq_getElem hk
      have h2 := hrl k _ h1
      obtain ⟨av, hav⟩ : ∃ av, rows[k] = [av] := by
        match hm : rows[k], h2 with
        | [a], _ => exact ⟨a, rfl⟩
      rw [hav] at h1
      obtain ⟨v, k1, k2, k3⟩ := hcs k [av] 0 av h1 rfl
      simp only [Nat.mul_one, Nat.add_zero] at k1
      exact ⟨av, v, h1, k1, by rw [hus, List.getElem?_map, List.getElem?_range hk]; simp [k1], k2, k3⟩
    have husrc : ∀ (k : Nat) (v : Value), us[k]? = some v → k < rows.length ∧ w.cell? ⟨b2, o2 + k, none⟩ = some v ∧ v.oneCell' = true := fun k v hk => by
      have hkl := (List.getElem?_eq_some_iff.1 hk).1
      rw [hul] at hkl
      obtain ⟨av, v', _, k2, k3, _, k5⟩ := hone k hkl
      rw [k3] at hk; cases hk
      exact ⟨hkl, k2, k5⟩
    obtain ⟨rows', hH, hrl'⟩ := q8 rows us (by simpa using hlen) (fun i r hr => hrl i r hr) (by simpa [hlen] using hul) (fun i r jj av hr hj => by
      have hil := (List.getElem?_eq_some_iff.1 hr).1
      obtain ⟨av', v, k1, _, k3, k4, k5⟩ := hone i hil
      rw [k1] at hr; cases hr
      cases jj with
      | zero => simp only [List.getElem?_cons_zero, Option.some.injEq] at hj; subst hj; exact ⟨v, by simpa using k3, k4, k5⟩
      | succ jj => simp at hj)
    have hcell : ∀ k, k < us.length → (w.cell? ⟨b, 0 + k, none⟩) = vs[k]? := fun k hk => by simp [World.cell?, q4]
    have hvs : us.length ≤ vs.size := by rw [hul, hlen, q5]; omega
    have hrun := run_copy_cells (P := P) w t u o.type e b 0 es.length cap ⟨b2, o2, none⟩ rows.length c2 us hkd hinf (by rw [hul, hlen]; simp) (fun k v hk => by rw [Addr.add_lit]; exact (husrc k v hk).2.1) (fun k hk => by
      rw [hcell k hk, Array.getElem?_eq_getElem (by omega)]; rfl) (fun k hk => by simp [World.frozen?, q4]) (fun v hv => by
      obtain ⟨k, hk⟩ := List.getElem?_of_mem hv
      exact (husrc k v hk).2.2)
    rw [hul, hlen] at hrun
    rw [setCells_W] at hH
    simp only [List.take_zero, List.nil_append, Nat.zero_mul, Nat.zero_add] at hH
    refine wp_value (run (n := es.length) (by rw [hsv, hxv, hlen]; exact hrun)) ⟨_, _, hH.put (.fr _ _ (.int _ _)) hd, hk⟩
theorem CWops.copy {nt : Nat} {all : Array Oper} {os : List Oper} {d : Option Tmp} {ty : TypeId} {ps : String} {af : Array Edge} {gd : Option (Nat × Bool)} {t u e y : Nat} {s x : Operand} {i j : TI} {es rows : List (List AV)} (htt : TTok P TT)
    (hw : wantd all σ ⟨d, .call { callee := .builtin .copy, args := #[s, x], argTypes := #[t, u] }, ty, ps, af, gd⟩ = some true) (ht : TT t = some i) (hi : i.kind = .slice e) (he : TT e = some j) (hsz : j.size = 1)
    (hs : ev σ s = .ref y [] 0) (hy : getS σ.s y = some ⟨false, [.own 1 es]⟩) (hx : srcRows σ 1 (ev σ x) = some rows) (hp : isRef (ev σ x) = true → ∀ r ∈ rows, ∀ a ∈ r, a.tree = false) (hc : isRef (ev σ x) = false → ∀ r ∈ rows, ∀ a ∈ r, a.cell = true) (hlen : rows.length = es.length)
    (hk : CWops P up nt all os (St.put { σ with s := updS σ.s y ⟨false, [.own 1 rows]⟩ } d (.int .i64 (es.length : Int))) K) : CWops P up nt all (⟨d, .call { callee := .builtin .copy, args := #[s, x], argTypes := #[t, u] }, ty, ps, af, gd⟩ :: os) σ K :=
  CWops.step hw (Snd.up (snd_copy rfl htt ht hi he hsz hs hy hx hp hc hlen hk))
theorem snd_makeRoom {t e : Nat} {x y : Operand} {i j : TI} {n m : Nat} (ho : o.op = .makeSlice t x y) (htt : TTok P TT) (ht : TT t = some i) (hi : i.kind = .slice e) (he : TT e = some j) (hsz : 0 < j.size) (hzl : j.zero.length = j.size)
    (hx : ev σ x = .int .i64 (n : Int)) (hy : ev σ y = .int .i64 (m : Int)) (hnm : n ≤ m) (hnM : m ≤ MX) (hb : j.bytes * m ≤ MX)
    (hk : K (St.put { n := σ.n + 1, t := σ.t, s := (σ.n, ⟨false, [.own j.size (List.replicate n j.zero)]⟩) :: σ.s } o.dst (.ref σ.n [] 0))) : Snd P o σ K := by
  intro A0 D0 w0 nt a w G Q hd h
  have hkd := (htt t i ht).kind
  rw [hi] at hkd
  have hkd : P.underlying t = some (.slice e) := hkd
  obtain ⟨inf, zz, i1, i2, i3, i4, i5, _, _⟩ := (htt e j he).info
  obtain ⟨z, z1, z2, z3, z4⟩ := (htt e j he).run_zero w
  have hz0 := zeros_ok (w := w) (A := Own A0 G) z2 n
  rw [hzl] at hz0
  have hC' : ((Array.range (m * j.size)).map fun i => z.cells[i % z.cells.size]!).size = m * j.size := by simp
  obtain ⟨gs, g1, g2, g3, g4, g5⟩ := rows_tree (w := w) (T := e) (cap := m) (C' := (Array.range (m * j.size)).map fun i => z.cells[i % z.cells.size]!) (by simpa using hz0) (by rw [hC']) (fun q hq => by
    have h1 : n * j.size ≤ m * j.size := Nat.mul_le_mul_right _ hnm
    have h2 : q < n * j.size := by simpa using hq
    simp only [Array.getElem?_map, Array.getElem?_range]
    rw [if_pos h2, if_pos (by omega)]) (by simpa using hnm) (by unfold maxLen; unfold MX at hnM; omega) (by simp; omega)
  obtain ⟨G', k1, k2⟩ := h.newDet (.own j.size (.slice (some ⟨w.heap.size, 0, none⟩) (List.replicate n j.zero).length m) gs) (w' := w.alloc (.cells ((Array.range (m * j.size)).map fun i => z.cells[i % z.cells.size]!) e)) (fun b hb => Below.heap_alloc w _ b hb) ⟨rfl, rfl, rfl, by simp⟩ rfl g3 (fun k hk => by rw [g4 k hk]; omega) g5
  simp only [GT.er, g1] at k1
  refine wp_value (v := .slice (some ⟨w.heap.size, 0, none⟩) n m) (w' := w.alloc (.cells ((Array.range (m * j.size)).map fun i => z.cells[i % z.cells.size]!) e)) ?_ ⟨_, G', k1.put (by simpa [GT.val] using k2) hd, hk⟩
  have hxv := h.ev x
  rw [hx] at hxv
  have hxv := hxv.int_inv
  have hyv := h.ev y
  rw [hy] at hyv
  have hyv := hyv.int_inv
  have hM : (MX : Int) = 140737488355328 := rfl
  have hw : ∀ k : Nat, k ≤ MX → IntKind.i64.wrap (k : Int) = (k : Int) := fun k hk => by
    simp only [IntKind.wrap, IntKind.bits, IntKind.signed]
    simp
    omega
  have hw1 := hw n (by omega)
  have hw2 := hw m hnM
  have hb2 : inf.bytes * m ≤ 140737488355328 := by rw [i3]; exact hb
  have hb3 : ¬ ((inf.bytes : Int) * (m : Int) > 2 ^ 48) := by
    have h9 : (inf.bytes : Int) * (m : Int) = ((inf.bytes * m : Nat) : Int) := (Int.natCast_mul _ _).symm
    rw [h9]
    generalize inf.bytes * m = mm at hb2
    omega
  have hroom : ¬ (m * inf.bytes > roomBytes) := by
    rw [Nat.mul_comm]; unfold roomBytes; omega
  have hti : ∀ w, (typeInfo e).run P w = .ok inf w := fun w => run_typeInfo w i1
  have c1 : ¬ ((n : Int) < 0) := by omega
  have c2 : ¬ ((n : Int) > (m : Int)) := by omega
  have c3 : ¬ ((m : Int) < 0) := by omega
  by_cases hnz : m * j.size = 0
  · have hmap : ∀ (f g : Nat → Value), (Array.range (m * j.size)).map f = (Array.range (m * j.size)).map g := fun f g => by rw [hnz]; simp
    rw [hmap _ (fun x => (#[] : Array Value)[x % (#[] : Array Value).size]!)]
    simp only [execOp, ho, hxv, hyv, Instr.makeSlice, Sem.run_bind, run_underlying hkd, Result.andThen_ok, asInt, asIntOf_int, Sem.run_pure, hti, hw1, hw2, c1, c2, c3, hb3, decide_false, decide_true, Bool.or_false, Bool.false_or, Bool.false_eq_true, if_false, Int.toNat_natCast, askRoom, hroom, (htt e j he).run_size, newRow, run_newObj]
    rw [if_pos hnz]
    simp only [Sem.run_pure, Result.andThen_ok, newRow, Sem.run_bind, run_newObj]
    rfl
  · simp only [execOp, ho, hxv, hyv, Instr.makeSlice, Sem.run_bind, run_underlying hkd, Result.andThen_ok, asInt, asIntOf_int, Sem.run_pure, hti, hw1, hw2, c1, c2, c3, hb3, decide_false, decide_true, Bool.or_false, Bool.false_or, Bool.false_eq_true, if_false, Int.toNat_natCast, askRoom, hroom, (htt e j he).run_size, newRow, run_newObj, hnz, z1]
    rfl
theorem CWops.makeRoom {nt : Nat} {all : Array Oper} {os : List Oper} {d : Option Tmp} {ty : TypeId} {ps : String} {af : Array Edge} {gd : Option (Nat × Bool)} {t e : Nat} {x y : Operand} {i j : TI} {n m : Nat} (htt : TTok P TT)
    (hw : wantd all σ ⟨d, .makeSlice t x y, ty, ps, af, gd⟩ = some true) (ht : TT t = some i) (hi : i.kind = .slice e) (he : TT e = some j) (hsz : 0 < j.size) (hzl : j.zero.length = j.size)
    (hx : ev σ x = .int .i64 (n : Int)) (hy : ev σ y = .int .i64 (m : Int)) (hnm : n ≤ m) (hnM : m ≤ MX) (hb : j.bytes * m ≤ MX)
    (hk : CWops P up nt all os (St.put { n := σ.n + 1, t := σ.t, s := (σ.n, ⟨false, [.own j.size (List.replicate n j.zero)]⟩) :: σ.s } d (.ref σ.n [] 0)) K) : CWops P up nt all (⟨d, .makeSlice t x y, ty, ps, af, gd⟩ :: os) σ K :=
  CWops.step hw (Snd.up (snd_makeRoom rfl htt ht hi he hsz hzl hx hy hnm hnM hb hk))
end
end Go.Ab
namespace Go.Ab
open Go Go.RowKit
section
variable {P : Program} {TT : TTab} {up : Bool} {o : Oper} {σ : St} {K : St → Prop}
theorem snd_buildF {t n e : Nat} {parts : Array (Nat × Operand)} {i j : TI} (ho : o.op = .buildSlice t n parts) (htt : TTok P TT) (ht : TT t = some i) (hi : i.kind = .slice e) (he : TT e = some j) (hsz : 0 < j.size) (hzl : j.zero.length = j.size) (hn : n * j.size ≤ 2 ^ 24)
    (hk : match fillR σ j.size (List.replicate n j.zero) parts.toList with | some rows => K (σ.put o.dst (.sl j.size rows)) | none => False) : Snd P o σ K := by
  split at hk
  · rename_i rows hrows
    intro A0 D0 w0 nt a w G Q hd h
    have hkd := (htt t i ht).kind
    rw [hi] at hkd
    have hkd : P.underlying t = some (.slice e) := hkd
    obtain ⟨z, z1, z2, z3, z4⟩ := (htt e j he).run_zero w
    have hz0 := zeros_ok (w := w) (A := Own A0 G) z2 n
    rw [hzl] at hz0
    obtain ⟨C', q1, q2⟩ := h.fill parts.toList _ rows _ hz0 hrows
    have hrl : rows.length = n := by rw [fillR_len hrows]; simp
    have hC' : C'.size = n * j.size := by rw [q2.size, hrl]
    have hnM : n ≤ MX := by
      have : n * 1 ≤ n * j.size := Nat.mul_le_mul_left _ hsz
      unfold MX; omega
    have hfr : Fr (fun _ => False) w (w.alloc (.cells C' e)) := ⟨rfl, rfl, rfl, by show w.heap.size ≤ (w.heap.push _).size; simp, fun k hk _ => Below.heap_alloc w _ k hk⟩
    have hnew : (w.alloc (.cells C' e)).heap[w.heap.size]? = some (.cells C' e) := Go.heap_alloc_new w _
    have hown : ¬ Own A0 G w.heap.size := fun hO => by
      rcases hO with hO | hO
      · have := Nat.lt_of_lt_of_le (h.a0lt _ hO) h.fr.size; omega
      · have := rfp_lt h.inv hO; omega
    have hcell : ∀ (k : Nat), (w.alloc (.cells C' e)).cell? ⟨w.heap.size, 0 + k, none⟩ = C'[k]? := fun k => by
      unfold World.cell?
      simp only [hnew, Nat.zero_add]
      rfl
    have hsl : FR (w.alloc (.cells C' e)) (Own A0 G) (.sl j.size rows) (.slice (some ⟨w.heap.size, 0, none⟩) n n) := by
      have hg := FR.sl (w := w.alloc (.cells C' e)) (A := Own A0 G) j.size rows w.heap.size 0 n (by omega) (by unfold maxLen; unfold MX at hnM; omega) (by omega) q2.len
        (fun i r k av hi hj => by
          obtain ⟨v, p1, _, _⟩ := q2.cell i r k av hi hj
          exact ⟨hown, by rw [hcell, p1]; rfl⟩)
        (fun i r k av hi hj => by
          obtain ⟨v, p1, p2, _⟩ := q2.cell i r k av hi hj
          unfold rdw
          rw [hcell, p1]
          exact p2.keep (fun b hb _ => Below.heap_alloc w _ b hb) (fun _ _ hA => hA))
      rw [hrl] at hg
      exact hg
    refine wp_value (v := .slice (some ⟨w.heap.size, 0, none⟩) n n) (w' := w.alloc (.cells C' e)) ?_ ⟨_, G, (h.same hfr).put (.fr _ _ hsl) hd, hk⟩
    have h24 : ¬ n * j.size > 2 ^ 24 := by omega
    have hf : Instr.fill (fun i => some (i * j.size, j.size)) ((Array.range (n * j.size)).map fun x => z.cells[x % z.cells.size]!) (parts.map fun x => (x.1, a.eval x.2)).toList = some C' := by simpa using q1
    by_cases hnz : n * j.size = 0
    · have hmap : ∀ (f g : Nat → Value), (Array.range (n * j.size)).map f = (Array.range (n * j.size)).map g := fun f g => by rw [hnz]; simp
      rw [hmap _ (fun x => (#[] : Array Value)[x % (#[] : Array Value).size]!)] at hf
      simp only [execOp, ho, Instr.buildSlice, Sem.run_bind, run_underlying hkd, Result.andThen_ok, (htt e j he).run_size, h24, if_false, Sem.run_pure]
      rw [if_pos hnz]
      simp only [Sem.run_pure, Result.andThen_ok, hf, newRow, Sem.run_bind, run_newObj]
      rfl
    simp only [execOp, ho, Instr.buildSlice, Sem.run_bind, run_underlying hkd, Result.andThen_ok, (htt e j he).run_size, h24, if_false, hnz, z1]
    simp only [Sem.run_pure, Result.andThen_ok, hf, newRow, Sem.run_bind, run_newObj]
    rfl
  · exact hk.elim
end
section
variable {P : Program} {TT : TTab} {up : Bool} {all : Array Oper} {σ0 : St} {K : List (Nat × AV) → Option Root → Prop}
theorem Seg.buildF {os : List Oper} {t : List (Nat × AV)} {r : Option Root} {d : Option Tmp} {ty : TypeId} {pos : String} {af : Array Edge} {gd : Option (Nat × Bool)} {s n e : Nat} {parts : Array (Nat × Operand)} {i j : TI} {rows : List (List AV)} (htt : TTok P TT)
    (hw : wantd all { σ0 with t := t } ⟨d, .buildSlice s n parts, ty, pos, af, gd⟩ = some true) (ht : TT s = some i) (hi : i.kind = .slice e) (he : TT e = some j) (hsz : 0 < j.size) (hzl : j.zero.length = j.size) (hn : n * j.size ≤ 2 ^ 24)
    (hf : ∀ σ' : St, (∀ y ∈ (Op.buildSlice s n parts).operands, ev σ' y = ev { σ0 with t := t } y) → fillR σ' j.size (List.replicate n j.zero) parts.toList = some rows)
    (hk : Seg P up all σ0 os (putT t d (.sl j.size rows)) r K) : Seg P up all σ0 (⟨d, .buildSlice s n parts, ty, pos, af, gd⟩ :: os) t r K := by
  refine ⟨t, .sl j.size rows, none, fun _ => rfl, ⟨fun _ => rfl, ?_⟩, .inl rfl, hk⟩
  intro σ' hl hxt hnn
  refine .inl ⟨by rw [wantd_congr (τ := { σ0 with t := t }) hl]; exact hw, ?_⟩
  have hev : ∀ y ∈ (Op.buildSlice s n parts).operands, ev σ' y = ev { σ0 with t := t } y := fun y hy => looks_ops (τ := { σ0 with t := t }) hl hy
  exact Snd.up (snd_buildF rfl htt ht hi he hsz hzl hn (by rw [hf σ' hev]; rfl))
end
end Go.Ab
namespace Go.Ab
open Go Go.RowKit
theorem gradeO_wide {x : GStep} (h : x.Do = 2) (t : Nat) (a : Int) (o : GObj) : gradeO x t a o = o := by
  unfold gradeO gradeF
  split
  · rw [if_neg (by rw [h]; decide), if_neg (by rw [h]; decide)]
  · rfl
theorem grade_zero {g : Graph} (hg : gMay g = true) (x : GStep) : (gGrade g x).2 = 0 ↔ (gDo g.S x).1 = 0 := by
  unfold gGrade
  rw [if_neg (by rw [hg]; simp)]
  split
  · exact ⟨fun _ => by assumption, fun _ => rfl⟩
  · exact Iff.rfl
theorem parts_err {g : Graph} (hg : gMay g = true) : (gParts g).2 = 0 ∨ (gParts g).2 = 5 := by
  unfold gParts
  rw [if_neg (by rw [hg]; simp)]
  split
  · exact .inr rfl
  · exact .inl rfl
theorem wide_facts {g h : Graph} {t f : ByteArray} {k l e : Int} (hg : gGrade g ⟨2, t, ⟨f, k, ⟨#[]⟩⟩⟩ = (h, e)) :
    (e ≠ 0 → h.O = []) ∧ (e = 0 → h.O = g.O ∧ gMay h = true ∧ ((gGrade h ⟨2, t, ⟨f, l, ⟨#[]⟩⟩⟩).2 = 0 ↔ (k < l ∧ l ≤ 3))) := by
  constructor
  · intro he
    unfold gGrade at hg
    split at hg
    · cases hg; rfl
    · split at hg
      · cases hg; exact absurd rfl he
      · cases hg; rfl
  · rintro rfl
    have h0 : (gGrade g ⟨2, t, ⟨f, k, ⟨#[]⟩⟩⟩).2 = 0 := by rw [hg]
    have hmay := grade_may h0
    obtain ⟨hgm, hd, heq⟩ := grade_ok h0
    rw [hg] at heq hmay
    simp only at heq hmay
    have hO : h.O = g.O := by
      rw [heq]
      show g.O.map _ = g.O
      rw [show (gradeO ⟨2, t, ⟨f, k, ⟨#[]⟩⟩⟩ (gDo g.S ⟨2, t, ⟨f, k, ⟨#[]⟩⟩⟩).2.2.1 (gDo g.S ⟨2, t, ⟨f, k, ⟨#[]⟩⟩⟩).2.2.2) = id from funext fun o => gradeO_wide rfl _ _ o, List.map_id]
    refine ⟨hO, hmay, ?_⟩
    rw [grade_zero hmay]
    have hS : h.S = (gDo g.S ⟨2, t, ⟨f, k, ⟨#[]⟩⟩⟩).2.1 := by rw [heq]
    have hsm := do_may hd
    have hsS := (smay_iff _).1 hsm
    obtain ⟨k1, _, _, ti, ty, k4, k5, k6, k7, k8⟩ := do_ok hd
    have hS2 : h.S = g.S.set ti ⟨ty.Name, (gStepF g.S ⟨2, t, ⟨f, k, ⟨#[]⟩⟩⟩ ty.F).2⟩ := by rw [hS, k8]
    obtain ⟨q, f0, hF, hfn, hfq, hw⟩ : ∃ (q : Nat) (f0 : GField), (gStepF g.S ⟨2, t, ⟨f, k, ⟨#[]⟩⟩⟩ ty.F).2 = ty.F.set q ⟨f0.Name, k, f0.To⟩ ∧ f0.Name = f ∧ ty.F[q]? = some f0 ∧ wider k f0.Kind = true := by
      unfold gStepF at k7 ⊢
      rw [if_neg (show ¬ (2 : Int) = 0 by decide)] at k7 ⊢
      split at k7
      · simp at k7
      · rename_i q hq
        rw [if_neg (show ¬ (2 : Int) = 1 by decide)] at k7
        simp only
        rw [if_neg (show ¬ (2 : Int) = 1 by decide)]
        split at k7
        · rename_i f0 hf0
          split at k7
          · rename_i hw
            refine ⟨q, f0, ?_, ?_, hf0, hw⟩
            · rw [if_pos hw]
            · obtain ⟨hlt, hp, _⟩ := List.findIdx?_eq_some_iff_getElem.1 hq
              rw [List.getElem?_eq_getElem hlt] at hf0
              cases hf0
              simpa using hp
          · simp at k7
        · simp at k7
    rw [hF] at hS2
    have hsm' : schemaMay h.S = true := by rw [hS]; exact hsm
    have hsS' := (smay_iff _).1 hsm'
    have htl := (List.getElem?_eq_some_iff.1 k5).1
    have hql := (List.getElem?_eq_some_iff.1 hfq).1
    have ht' : h.S[ti]? = some ⟨ty.Name, ty.F.set q ⟨f0.Name, k, f0.To⟩⟩ := by rw [hS2, List.getElem?_set_self htl]
    have hfind := type_find hsS' ht'
    have hFq : (ty.F.set q ⟨f0.Name, k, f0.To⟩)[q]? = some ⟨f0.Name, k, f0.To⟩ := List.getElem?_set_self hql
    have hidx := names_idx (hsS'.nms ti _ ht') hFq
    simp only at hfind hidx k6
    rw [k6] at hfind
    rw [hfn] at hidx
    obtain ⟨w1, w2, w3⟩ := wider_kind hw
    have hstep : (gStepF h.S ⟨2, t, ⟨f, l, ⟨#[]⟩⟩⟩ (ty.F.set q ⟨f0.Name, k, f0.To⟩)).1 = 0 ↔ (k < l ∧ l ≤ 3) := by
      unfold gStepF
      rw [if_neg (show ¬ (2 : Int) = 0 by decide)]
      rw [hfn] at hFq ⊢
      simp only [hidx, hFq]
      rw [if_neg (show ¬ (2 : Int) = 1 by decide)]
      unfold wider
      by_cases h1 : k < l ∧ l ≤ 3
      · rw [if_pos (by simp; omega)]; simp [h1]
      · rw [if_neg (by simp; omega)]; simp [h1]
    rw [← hstep]
    generalize hG : gStepF h.S ⟨2, t, ⟨f, l, ⟨#[]⟩⟩⟩ (ty.F.set q ⟨f0.Name, k, f0.To⟩) = G
    unfold gDo
    rw [if_pos (by rw [hsm']; rfl)]
    simp only [hfind, ht', hG]
    split
    · rename_i h1; exact ⟨fun _ => h1, fun _ => rfl⟩
    · exact Iff.rfl
end Go.Ab
