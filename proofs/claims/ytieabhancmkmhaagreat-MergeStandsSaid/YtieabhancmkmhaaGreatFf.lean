/-
  What a machine's memory holds of plain values, and that each operation, block, loop and call of the model turns such a state as told. No condition but those of each theorem.
-/
import Derived.WalkKit
import Derived.Below
import Derived.Scope
import Derived.Orders
import Derived.Still
import Derived.Maps.RangeRun
import Derived.Test.YtieabhancmkmhaaGreatFa
import Derived.Test.YtieabhancmkmhaaGreatFb
import Derived.Test.YtieabhancmkmhaaGreatFc
import Derived.Test.YtieabhancmkmhaaGreatFd
import Derived.Test.YtieabhancmkmhaaGreatFe
set_option linter.unusedVariables false
set_option linter.unusedSimpArgs false
namespace Go.Ab
open Go Go.RowKit
def allOrd (os : List Oper) : Nat → List Nat → List (List Nat)
  | 0, _ => [[]]
  | n + 1, L => (List.range os.length).flatMap fun i => if (!memB i L && (bnd (nthO os i)).all fun j => memB j L) = true then (allOrd os n (i :: L)).map (i :: ·) else []
section
variable {P : Program} {ops : Array Oper} {Q : Exit → Act → World → Prop}
theorem lin_mem (hdown : edgesDown 0 ops.toList = true) : ∀ (fuel t : Nat) (listed : Array Bool) (L : List Nat), listed.size = ops.size → unl ops.size listed = fuel → Closed ops listed → (∀ i, i < ops.size → (listed.getD i false = true ↔ i ∈ L)) →
    Region.linearise.go .any ops fuel t listed [] ∈ allOrd ops.toList fuel L
  | 0, t, listed, L, _, _, _, _ => by simp [Region.linearise.go, allOrd]
  | fuel + 1, t, listed, L, hs, hu, hc, hL => by
    simp only [Region.linearise.go]
    change (match (Region.ready .any ops listed)[t % (Region.ready .any ops listed).length]? with
      | some i => Region.linearise.go .any ops fuel (t / (Region.ready .any ops listed).length) (listed.setIfInBounds i true) [i]
      | none => [].reverse) ∈ allOrd ops.toList (fuel + 1) L
    have hne : ∃ i, i ∈ Region.ready .any ops listed := by
      have h1 : ∃ i, i < ops.size ∧ ¬ listed.getD i false = true := Classical.byContradiction fun h => by
        have : unl ops.size listed = 0 := by
          unfold unl
          rw [List.length_eq_zero_iff, List.filter_eq_nil_iff]
          intro i hi
          have hi := List.mem_range.1 hi
          rw [getD_tf (by rw [hs]; exact hi)]
          have : listed.getD i false = true := Classical.byContradiction fun h2 => h ⟨i, hi, h2⟩
          simp [this]
        omega
      obtain ⟨i0, h01, h02, h03⟩ := least_not (n := ops.size) (p := fun i => listed.getD i false = true) h1
      refine ⟨i0, ready_spec.2 ⟨by rw [getD_tf (by rw [hs]; exact h01)]; simpa using h02, ops[i0], Array.getElem?_eq_getElem h01, fun j hj => h03 j ?_⟩⟩
      have := edgesDown_spec hdown i0 ops[i0] (by rw [Array.getElem?_toList]; exact Array.getElem?_eq_getElem h01) j hj
      omega
    cases hi : (Region.ready .any ops listed)[t % (Region.ready .any ops listed).length]? with
    | none =>
      exfalso
      obtain ⟨i, h⟩ := hne
      have hlt : t % (Region.ready .any ops listed).length < (Region.ready .any ops listed).length := Nat.mod_lt _ (by cases hr : Region.ready .any ops listed with | nil => rw [hr] at h; cases h | cons => simp)
      rw [List.getElem?_eq_getElem hlt] at hi; cases hi
    | some i =>
      simp only
      rw [linearise_go_acc, List.reverse_singleton, List.singleton_append]
      have hrd := List.mem_of_getElem? hi
      obtain ⟨h1, o, h2, h3⟩ := ready_spec.1 hrd
      have hil := (Array.getElem?_eq_some_iff.1 h2).1
      have hun : ¬ listed.getD i false = true := by rw [← getD_tf (by rw [hs]; exact hil), h1]; simp
      have ih := lin_mem hdown fuel (t / (Region.ready .any ops listed).length) (listed.setIfInBounds i true) (i :: L) (by simpa using hs) (by have := unl_set hil hs h1; omega) (closed_set hc hrd) fun x hx => by
        by_cases hxi : i = x
        · subst hxi
          rw [Array.getD_eq_getD_getElem?, Array.getElem?_setIfInBounds_self_of_lt (by rw [hs]; exact hil)]
          simp
        · rw [getD_set_ne false hxi, hL x hx]
          simp [Ne.symm hxi]
      simp only [allOrd, List.mem_flatMap, List.mem_range]
      refine ⟨i, by simpa using hil, ?_⟩
      rw [if_pos]
      · exact List.mem_map_of_mem ih
      · have e : nthO ops.toList i = o := nthO_get (by rw [Array.getElem?_toList]; exact h2)
        rw [e, Bool.and_eq_true]
        constructor
        · cases hm : memB i L with
          | false => rfl
          | true => exact absurd ((hL i hil).2 (memB_iff.1 hm)) hun
        · rw [List.all_eq_true]
          intro j hj
          have hjl := edgesDown_spec hdown i o (by rw [Array.getElem?_toList]; exact h2) j hj
          exact memB_iff.2 ((hL j (by omega)).1 (h3 j hj))
theorem wpOps_list : ∀ {is : List Nat}, (∀ i ∈ is, i < ops.size) → ∀ {a : Act} {w : World}, wpList P ops Q (is.map (nthO ops.toList)) a w → wpOps P ops Q is a w
  | [], _, a, w, h => h
  | i :: is, hi, a, w, h => by
    have hil := hi i List.mem_cons_self
    have ho : ops[i]? = some (nthO ops.toList i) := by
      rw [Array.getElem?_eq_getElem hil]
      rw [nthO_get (o := ops[i]) (by rw [Array.getElem?_toList]; exact Array.getElem?_eq_getElem hil)]
    rw [List.map_cons, wpList_cons] at h
    simp only [wpOps, ho]
    split
    · rename_i hw; rw [if_pos hw] at h
      exact h.imp (Oper.wp_mono fun a w => wpOps_list fun x hx => hi x (List.mem_cons_of_mem _ hx)) id
    · rename_i hw; rw [if_neg hw] at h
      exact wpOps_list (fun x hx => hi x (List.mem_cons_of_mem _ hx)) h
theorem allOrd_lt {os : List Oper} : ∀ {n : Nat} {L is : List Nat}, is ∈ allOrd os n L → ∀ i ∈ is, i < os.length
  | 0, L, is, h, i, hi => by simp [allOrd] at h; subst h; cases hi
  | n + 1, L, is, h, i, hi => by
    simp only [allOrd, List.mem_flatMap, List.mem_range] at h
    obtain ⟨x, hx, h⟩ := h
    split at h
    · obtain ⟨js, hj, rfl⟩ := List.mem_map.1 h
      rcases List.mem_cons.1 hi with rfl | hi
      · exact hx
      · exact allOrd_lt hj i hi
    · cases h
end
section
variable {P : Program} {up : Bool} {np nt : Nat} {σ : St} {Q : Exit → St → Prop}
theorem keepDst_of {np : Nat} : ∀ {os : List Oper}, (∀ o ∈ os, ∀ d, o.dst = some d → kp np d = false) → keepDst np os = true
  | [], _ => rfl
  | o :: os, h => by
    have h1 := h o List.mem_cons_self
    have h2 := keepDst_of (np := np) (os := os) fun x hx => h x (List.mem_cons_of_mem _ hx)
    unfold keepDst
    cases hd : o.dst with
    | none => simp [h2]
    | some d => simp [h2, h1 d hd]
theorem okDst_of {nt : Nat} : ∀ {os : List Oper}, (∀ o ∈ os, ∀ d, o.dst = some d → d < nt) → okDst nt os = true
  | [], _ => rfl
  | o :: os, h => by
    have h1 := h o List.mem_cons_self
    have h2 := okDst_of (nt := nt) (os := os) fun x hx => h x (List.mem_cons_of_mem _ hx)
    unfold okDst
    cases hd : o.dst with
    | none => simp [h2]
    | some d => simp [h2, h1 d hd]
theorem CW.orders (hm : P.follows .mixedOrders = true) {id : Nat} {ops : Array Oper} (hdown : edgesDown 0 ops.toList = true) (hd : okDst nt ops.toList = true) (hk : keepDst np ops.toList = true)
    {l : List (List Nat)} (hl : allOrd ops.toList ops.size [] = l) (h : ∀ is ∈ l, CWops P up nt ops (is.map (nthO ops.toList)) σ (Q .normal)) : CW P up np nt (.region id ops true) σ Q := by
  subst hl
  intro A0 D0 w0 a w G R hu hh hr
  let Q1 : Exit → Act → World → Prop := fun e a' w' => match e with
    | .normal => ∃ σ' G', Holds A0 D0 w0 nt σ' a' w' G' ∧ Q .normal σ'
    | e => R e a' w'
  suffices hs : (Code.region id ops true).wp P (KeepQ np a Q1) a w by
    refine wp_mono hs fun e a' w' he => ?_
    cases e with
    | normal => obtain ⟨⟨σ', G', g1, g2⟩, g3⟩ := he; exact hr _ a' w' σ' G' g1 (g3 rfl) g2
    | _ => exact he.1
  refine wp_region_draw fun t => ?_
  simp only [Region.schedule, hm, Bool.true_or, if_true]
  have hmem : Region.linearise .any ops t ∈ allOrd ops.toList ops.size [] := by
    refine lin_mem hdown ops.size t _ [] (by simp) ?_ (fun i o _ hi => ?_) (fun i hi => ?_)
    · unfold unl
      have : ((List.range ops.size).filter fun i => !(Array.replicate ops.size false).getD i true) = List.range ops.size := by
        rw [List.filter_eq_self]
        intro i hi
        have hi := List.mem_range.1 hi
        rw [Array.getD_eq_getD_getElem?, Array.getElem?_replicate, if_pos hi]
        rfl
      rw [this, List.length_range]
    · exfalso
      rw [Array.getD_eq_getD_getElem?, Array.getElem?_replicate] at hi
      split at hi <;> simp at hi
    · rw [Array.getD_eq_getD_getElem?, Array.getElem?_replicate]
      split <;> simp
  have hlt : ∀ i ∈ Region.linearise .any ops t, i < ops.size := fun i hi => by simpa using allOrd_lt hmem i hi
  refine wpOps_list hlt ?_
  have hall : ∀ o ∈ (Region.linearise .any ops t).map (nthO ops.toList), o ∈ ops.toList := fun o ho => by
    obtain ⟨i, hi, rfl⟩ := List.mem_map.1 ho
    have hil := hlt i hi
    rw [nthO_get (o := ops[i]) (by rw [Array.getElem?_toList]; exact Array.getElem?_eq_getElem hil)]
    exact Array.getElem_mem_toList hil
  have hd' : okDst nt ((Region.linearise .any ops t).map (nthO ops.toList)) = true := okDst_of fun o ho d hdd => by
    obtain ⟨i, hi⟩ := List.getElem?_of_mem (hall o ho)
    exact dst_lt hd i o (by rw [← Array.getElem?_toList]; exact hi) d hdd
  have hk' : keepDst np ((Region.linearise .any ops t).map (nthO ops.toList)) = true := keepDst_of fun o ho d hdd => keepDst_mem hk o (hall o ho) d hdd
  exact wpList_keep (a0 := a) hk' (Kept.refl np a) (h _ hmem hd' A0 D0 w0 a _ G Q1 (fun hu' => let ⟨a, w, h⟩ := hu hu'; ⟨a, w, h⟩) hh.drew fun a' w' σ' G' h1 h2 => ⟨σ', G', h1, h2⟩)
end
end Go.Ab
namespace Go.Ab
open Go Go.RowKit
theorem allOrd_congr {os : List Oper} : ∀ (n : Nat) {L L' : List Nat}, (∀ x, x ∈ L ↔ x ∈ L') → allOrd os n L = allOrd os n L'
  | 0, _, _, _ => rfl
  | n + 1, L, L', h => by
    have hm : ∀ x, memB x L = memB x L' := fun x => by
      rw [Bool.eq_iff_iff, memB_iff, memB_iff]; exact h x
    have ih : ∀ i, allOrd os n (i :: L) = allOrd os n (i :: L') := fun i => allOrd_congr n (fun x => by simp [h x])
    simp only [allOrd, hm, ih]
theorem allOrd_split {os : List Oper} : ∀ (n : Nat) {m : Nat} {L is : List Nat}, is ∈ allOrd os (n + m) L → ∃ p q, is = p ++ q ∧ p ∈ allOrd os n L ∧ q ∈ allOrd os m (p.reverse ++ L)
  | 0, m, L, is, h => ⟨[], is, rfl, by simp [allOrd], by simpa using h⟩
  | n + 1, m, L, is, h => by
    rw [show n + 1 + m = (n + m) + 1 by omega] at h
    simp only [allOrd, List.mem_flatMap, List.mem_range] at h
    obtain ⟨i, hi, h⟩ := h
    split at h
    · rename_i hc
      obtain ⟨js, hj, rfl⟩ := List.mem_map.1 h
      obtain ⟨p, q, rfl, hp, hq⟩ := allOrd_split n hj
      refine ⟨i :: p, q, rfl, ?_, by simpa using hq⟩
      simp only [allOrd, List.mem_flatMap, List.mem_range]
      refine ⟨i, hi, ?_⟩
      rw [if_pos hc]; exact List.mem_map_of_mem hp
    · cases h
def eqL : List Nat → List Nat → Bool
  | [], [] => true
  | a :: l, b :: m => Nat.beq a b && eqL l m
  | _, _ => false
theorem eqL_spec : ∀ {l m : List Nat}, eqL l m = true → l = m
  | [], [], _ => rfl
  | [], _ :: _, h => by simp [eqL] at h
  | _ :: _, [], h => by simp [eqL] at h
  | a :: l, b :: m, h => by
    simp only [eqL, Bool.and_eq_true] at h
    rw [Nat.eq_of_beq_eq_true h.1, eqL_spec h.2]
def eqLL : List (List Nat) → List (List Nat) → Bool
  | [], [] => true
  | a :: l, b :: m => eqL a b && eqLL l m
  | _, _ => false
theorem eqLL_spec : ∀ {l m : List (List Nat)}, eqLL l m = true → l = m
  | [], [], _ => rfl
  | [], _ :: _, h => by simp [eqLL] at h
  | _ :: _, [], h => by simp [eqLL] at h
  | a :: l, b :: m, h => by
    simp only [eqLL, Bool.and_eq_true] at h
    rw [eqL_spec h.1, eqLL_spec h.2]
def waveOK (os : List Oper) : List (List (List Nat)) → List Nat → Nat → Bool
  | [], _, n => Nat.beq n 0
  | B :: Bs, L, n => match B with
    | [] => false
    | b :: _ => (Nat.ble b.length n && eqLL (allOrd os b.length L) B) && (B.all (fun p => p.all (fun x => memB x b) && b.all (fun x => memB x p)) && waveOK os Bs (b ++ L) (n - b.length))
section
variable {P : Program} {up : Bool} {np nt : Nat} {σ σ1 : St} {all : Array Oper} {K : St → Prop}
def Wave (P : Program) (up : Bool) (nt : Nat) (all : Array Oper) (os : List Oper) (K : St → Prop) : List (List (List Nat)) → St → Prop
  | [], σ => K σ
  | B :: Bs, σ => ∃ σ1, (∀ is ∈ B, CWops P up nt all (is.map (nthO os)) σ fun σ' => Sh σ' σ1) ∧ Wave P up nt all os K Bs σ1
theorem Wave.done {os : List Oper} (h : K σ) : Wave P up nt all os K [] σ := h
theorem Wave.cons {os : List Oper} {B : List (List Nat)} {Bs : List (List (List Nat))} (σ1 : St) (h : ∀ is ∈ B, CWops P up nt all (is.map (nthO os)) σ fun σ' => Sh σ' σ1) (h2 : Wave P up nt all os K Bs σ1) : Wave P up nt all os K (B :: Bs) σ := ⟨σ1, h, h2⟩
theorem wp_nq {o : Oper} {a : Act} {w : World} {K : Act → World → Prop} {Q Q' : Exit → Act → World → Prop} (hq : ∀ e a w, e ≠ .normal → Q e a w → Q' e a w) (h : o.wp P a w K Q) : o.wp P a w K Q' := by
  unfold Oper.wp at *
  generalize (execOp a.eval o).run P w = r at *
  cases r with
  | ok n w' =>
    cases n <;> simp only [Oper.upon] at h ⊢ <;> first
      | exact h
      | (refine Calls.mono h fun e w'' he => ?_
         cases e with
         | returned v => exact he
         | panicked c => exact hq _ _ _ (by simp) he
         | outgrown => exact let ⟨a, w, h⟩ := he; ⟨a, w, hq _ _ _ (by simp) h⟩)
  | halt x w' =>
    cases x <;> simp only [Oper.upon] at h ⊢ <;> first | exact h | exact hq _ _ _ (by simp) h
theorem wpList_app {Q : Exit → Act → World → Prop} {os2 : List Oper} : ∀ {os : List Oper} {a : Act} {w : World}, wpList P all (fun e a w => match e with | .normal => wpList P all Q os2 a w | e => Q e a w) os a w → wpList P all Q (os ++ os2) a w
  | [], _, _, h => h
  | o :: os, a, w, h => by
    rw [wpList_cons] at h
    rw [List.cons_append, wpList_cons]
    split
    · rename_i hw; rw [if_pos hw] at h
      rcases h with h | ⟨h1, h2⟩
      · refine .inl (wp_nq (fun e a w he hh => ?_) (Oper.wp_mono (fun a w hh => wpList_app hh) h))
        cases e <;> first | exact absurd rfl he | exact hh
      · exact .inr ⟨h1, let ⟨a, w, h⟩ := h2; ⟨a, w, h⟩⟩
    · rename_i hw; rw [if_neg hw] at h
      exact wpList_app h
theorem okDst_app {os2 : List Oper} : ∀ {os : List Oper}, okDst nt (os ++ os2) = true → okDst nt os = true ∧ okDst nt os2 = true
  | [], h => ⟨rfl, h⟩
  | o :: os, h => by
    rw [List.cons_append] at h
    have h' := h
    simp only [okDst, Bool.and_eq_true] at h' ⊢
    have := okDst_app h'.2
    exact ⟨⟨h'.1, this.1⟩, this.2⟩
theorem CWops.app {os1 os2 : List Oper} (h1 : CWops P up nt all os1 σ fun σ' => Sh σ' σ1) (h2 : CWops P up nt all os2 σ1 K) : CWops P up nt all (os1 ++ os2) σ K := by
  intro hd A0 D0 w0 a w G Q hu hh hq
  have hd2 := okDst_app hd
  refine wpList_app (h1 hd2.1 A0 D0 w0 a w G _ (fun hu' => let ⟨a, w, h⟩ := hu hu'; ⟨a, w, h⟩) hh fun a w σ' G' g1 g2 => ?_)
  obtain ⟨G2, g3⟩ := g2 A0 D0 w0 nt a w G' g1
  exact h2 hd2.2 A0 D0 w0 a w G2 Q hu g3 hq
theorem wave_ops {os : List Oper} : ∀ {W : List (List (List Nat))} {L : List Nat} {n : Nat} {σ : St} {is : List Nat}, waveOK os W L n = true → is ∈ allOrd os n L → Wave P up nt all os K W σ → CWops P up nt all (is.map (nthO os)) σ K
  | [], L, n, σ, is, h, hi, hw => by
    simp only [waveOK] at h
    have := Nat.eq_of_beq_eq_true h
    subst this
    simp [allOrd] at hi
    subst hi
    exact CWops.done hw
  | [] :: Bs, L, n, σ, is, h, hi, hw => by simp [waveOK] at h
  | (b :: B) :: Bs, L, n, σ, is, h, hi, hw => by
    simp only [waveOK, Bool.and_eq_true] at h
    obtain ⟨⟨h1, h2⟩, h3, h4⟩ := h
    have h1 := Nat.le_of_ble_eq_true h1
    have h2 := eqLL_spec h2
    obtain ⟨σ1, k1, k2⟩ := hw
    rw [show n = b.length + (n - b.length) by omega] at hi
    obtain ⟨p, q, rfl, hp, hq⟩ := allOrd_split _ hi
    rw [h2] at hp
    have h5 := List.all_eq_true.1 h3 p hp
    simp only [Bool.and_eq_true, List.all_eq_true] at h5
    rw [allOrd_congr (L' := b ++ L) _ (fun x => by
      simp only [List.mem_append, List.mem_reverse]
      constructor
      · rintro (h | h)
        · exact .inl (memB_iff.1 (h5.1 x h))
        · exact .inr h
      · rintro (h | h)
        · exact .inl (memB_iff.1 (h5.2 x h))
        · exact .inr h)] at hq
    rw [List.map_append]
    exact CWops.app (k1 p hp) (wave_ops h4 hq k2)
end
section
variable {P : Program} {up : Bool} {np nt : Nat} {σ : St} {Q : Exit → St → Prop}
theorem CW.waves (hm : P.follows .mixedOrders = true) {id : Nat} {ops : Array Oper} (hdown : edgesDown 0 ops.toList = true) (hd : okDst nt ops.toList = true) (hk : keepDst np ops.toList = true)
    (W : List (List (List Nat))) (hW : waveOK ops.toList W [] ops.size = true) (h : Wave P up nt ops ops.toList (Q .normal) W σ) : CW P up np nt (.region id ops true) σ Q :=
  CW.orders hm hdown hd hk rfl fun _ his => wave_ops hW his h
end
end Go.Ab
namespace Go.Ab
open Go Go.RowKit
section
variable {P : Program} {up : Bool} {o : Oper} {σ : St} {K : St → Prop}
theorem snd_min {x y : Operand} {ts : Array Nat} {k : IntKind} {m n : Int} (ho : o.op = .call { callee := .builtin .min, args := #[x, y], argTypes := ts }) (hx : ev σ x = .int k m) (hy : ev σ y = .int k n)
    (hk : K (σ.put o.dst (.int k (min m n)))) : Snd P o σ K := by
  intro A0 D0 w0 nt a w G Q hd h
  have h1 := h.ev x
  rw [hx] at h1
  have h2 := h1.int_inv
  have h3 := h.ev y
  rw [hy] at h3
  have h4 := h3.int_inv
  refine wp_value (v := .int k (min m n)) (w' := w) ?_ ⟨_, G, h.put (.fr _ _ (.int _ _)) hd, hk⟩
  have e : (if n < m then n else m) = min m n := by
    rw [Int.min_def]; split <;> split <;> omega
  simp [execOp, ho, resolve, invoke, builtin, Builtin.min_, h2, h4, Builtin.min2, e]
theorem CWops.min2 {nt : Nat} {all : Array Oper} {os : List Oper} {d : Option Tmp} {ty : TypeId} {ps : String} {af : Array Edge} {gd : Option (Nat × Bool)} {x y : Operand} {ts : Array Nat} {k : IntKind} {m n : Int}
    (hw : wantd all σ ⟨d, .call { callee := .builtin .min, args := #[x, y], argTypes := ts }, ty, ps, af, gd⟩ = some true) (hx : ev σ x = .int k m) (hy : ev σ y = .int k n)
    (hk : CWops P up nt all os (σ.put d (.int k (min m n))) K) : CWops P up nt all (⟨d, .call { callee := .builtin .min, args := #[x, y], argTypes := ts }, ty, ps, af, gd⟩ :: os) σ K :=
  CWops.step hw (Snd.up (snd_min rfl hx hy hk))
end
end Go.Ab
namespace Go.Ab
open Go Go.RowKit
theorem FR.tight_of {w : World} {A : Nat → Prop} {n : Nat} {l : List (List AV)} {ad : Option Addr} {len cap : Nat} (h : FR w A (.sl n l) (.slice ad len cap)) (m : Nat) :
    len = l.length ∧ l.length ≤ cap ∧ FR w A (.tight n l) (.slice (if l.length = 0 then ad else ad.map (·.add (0 * m))) l.length l.length) := by
  cases h with
  | slnil n => exact ⟨rfl, Nat.le_refl _, .tight n [] none (.slnil n)⟩
  | slmt n a cap hc => exact ⟨rfl, Nat.zero_le _, .tight n [] (some a) (.slmt n a 0 (by unfold maxLen; omega))⟩
  | sl n l b o cap h1 h2 h3 h4 h5 h6 =>
    refine ⟨rfl, h1, ?_⟩
    have ea : (if l.length = 0 then some (⟨b, o, none⟩ : Addr) else (some (⟨b, o, none⟩ : Addr)).map (·.add (0 * m))) = some ⟨b, o, none⟩ := by
      simp only [Option.map_some, Addr.add_lit, Nat.zero_mul, Nat.add_zero, ite_self]
    rw [ea]
    exact .tight n l _ (.sl n l b o l.length (Nat.le_refl _) (by omega) h3 h4 h5 h6)
theorem FR.tight_inv {w : World} {A : Nat → Prop} {n : Nat} {l : List (List AV)} {v : Value} (h : FR w A (.tight n l) v) : ∃ ad, v = .slice ad l.length l.length ∧ FR w A (.sl n l) v := by
  cases h with
  | tight n l ad h => exact ⟨ad, rfl, h⟩
theorem Src.of_fr {w : World} {A : Nat → Prop} {m : Nat} {l : List (List AV)} {v : Value} (h : FR w A (.sl m l) v) (hc : ∀ r ∈ l, ∀ a ∈ r, a.cell = true) : Src w A m l v := by
  cases h with
  | slnil => exact ⟨fun i r h => by simp at h, fun _ => ⟨none, 0, rfl⟩, fun h => absurd rfl h⟩
  | slmt n a cap h => exact ⟨fun i r h => by simp at h, fun _ => ⟨some a, cap, rfl⟩, fun h => absurd rfl h⟩
  | sl _ _ b of cap h1 h2 h3 h4 h5 h6 =>
    refine ⟨h4, fun e => ⟨_, cap, by rw [e]; rfl⟩, fun _ => ⟨b, of, cap, rfl, fun i r j av hi hj => ?_⟩⟩
    obtain ⟨_, hs⟩ := h5 i r j av hi hj
    obtain ⟨u, hu⟩ := Option.isSome_iff_exists.1 hs
    have h7 := h6 i r j av hi hj
    have hrd : rdw w b (of + (i * m + j)) = u := by unfold rdw; rw [hu]; rfl
    rw [hrd] at h7
    exact ⟨u, hu, h7, (Rel.fr (G := fun _ => none) (n := 0) _ _ h7).cell (hc r (List.mem_of_getElem? hi) av (List.mem_of_getElem? hj))⟩
theorem Src.cells {w : World} {A : Nat → Prop} {m : Nat} {l : List (List AV)} {ad : Option Addr} {n c : Nat} (hs : Src w A m l (.slice ad n c)) (hm : 0 < m) (hn : n = l.length) :
    ∃ us : List Value, us.length = l.length * m ∧ (∀ (i : Nat) (r : List AV) (k : Nat) (a : AV), l[i]? = some r → r[k]? = some a → ∃ u, us[i * m + k]? = some u ∧ FR w A a u ∧ u.oneCell' = true) ∧
      (l ≠ [] → ∃ a0, ad = some a0 ∧ ∀ (q : Nat) (u : Value), us[q]? = some u → w.cell? (a0.add q) = some u) := by
  by_cases h0 : l = []
  · subst h0; exact ⟨[], by simp, fun i r k a h => by simp at h, fun h => absurd rfl h⟩
  · obtain ⟨b, o, c', e, hc⟩ := hs.at_ h0
    cases e
    let us : List Value := (List.range (l.length * m)).map fun q => rdw w b (o + q)
    have hat : ∀ (q : Nat), q < l.length * m → ∃ u, us[q]? = some u ∧ w.cell? ⟨b, o + q, none⟩ = some u := by
      intro q hq
      obtain ⟨d1, d2, d3⟩ := divmod hm hq
      obtain ⟨r, hr⟩ : ∃ r, l[q / m]? = some r := ⟨_, List.getElem?_eq_getElem d1⟩
      obtain ⟨a, ha⟩ : ∃ a, r[q % m]? = some a := ⟨_, List.getElem?_eq_getElem (by rw [hs.len _ r hr]; exact d2)⟩
      obtain ⟨u, h3, h4, h5⟩ := hc _ r _ a hr ha
      rw [d3] at h3
      exact ⟨u, by simp only [us, List.getElem?_map, List.getElem?_range hq, Option.map_some, rdw, h3, Option.getD_some], h3⟩
    refine ⟨us, by simp [us], fun i r k a hi hk => ?_, fun _ => ⟨_, rfl, fun q u hu => ?_⟩⟩
    · obtain ⟨u, h3, h4, h5⟩ := hc i r k a hi hk
      have hkl : k < m := by have := (List.getElem?_eq_some_iff.1 hk).1; have := hs.len i r hi; omega
      have hil : i < l.length := (List.getElem?_eq_some_iff.1 hi).1
      have hq : i * m + k < l.length * m := by
        have : (i + 1) * m ≤ l.length * m := Nat.mul_le_mul_right _ hil
        rw [Nat.add_mul] at this; omega
      refine ⟨u, ?_, h4, h5⟩
      simp only [us, List.getElem?_map, List.getElem?_range hq, Option.map_some, rdw, h3, Option.getD_some]
    · have hq : q < l.length * m := by have := (List.getElem?_eq_some_iff.1 hu).1; simpa [us] using this
      obtain ⟨u', h3, h4⟩ := hat q hq
      rw [h3] at hu; cases hu
      rw [Addr.add_lit]; exact h4
section
variable {P : Program} {TT : TTab} {up : Bool} {o : Oper} {σ : St} {K : St → Prop}
theorem snd_tight {t e : Nat} {x hi' mx : Operand} {i j : TI} {k k' : IntKind} {l : List (List AV)} (ho : o.op = .slice t x none (some hi') (some mx)) (htt : TTok P TT) (ht : TT t = some i) (hi : i.kind = .slice e) (he : TT e = some j) (hx : ev σ x = .sl j.size l)
    (hl : ev σ hi' = .int k (l.length : Int)) (hm : ev σ mx = .int k' (l.length : Int)) (hk : K (σ.put o.dst (.tight j.size l))) : Snd P o σ K := by
  refine snd_val _ hk fun {A0 D0 w0 nt a w G} h => ?_
  have hxv := h.ev x
  rw [hx] at hxv
  have hfr := hxv.pure rfl
  have hlv := h.ev hi'
  rw [hl] at hlv
  have hlv := hlv.int_inv
  have hmv := h.ev mx
  rw [hm] at hmv
  have hmv := hmv.int_inv
  obtain ⟨ad, len, cap, hv⟩ : ∃ ad len cap, a.eval x = .slice ad len cap := by
    generalize a.eval x = v at hfr
    cases hfr with
    | slnil => exact ⟨_, _, _, rfl⟩
    | slmt => exact ⟨_, _, _, rfl⟩
    | sl => exact ⟨_, _, _, rfl⟩
  rw [hv] at hfr
  obtain ⟨h1, h2, h3⟩ := hfr.tight_of j.size
  refine ⟨_, ?_, .fr _ _ h3⟩
  have hti := (htt t i ht).kind
  rw [hi] at hti
  have hti : P.underlying t = some (.slice e) := hti
  have h5 : ((l.length : Int) ≤ (cap : Int)) := by omega
  simp [execOp, ho, hv, hlv, hmv, Instr.sliceAt, run_underlying hti, Instr.slice, Instr.sliceBounds, Instr.sliceBound, asIntOf_int, h5, (htt e j he).run_size w]
theorem CWops.tight {nt : Nat} {all : Array Oper} {os : List Oper} {d : Option Tmp} {ty : TypeId} {ps : String} {af : Array Edge} {gd : Option (Nat × Bool)} {t e : Nat} {x hi' mx : Operand} {i j : TI} {k k' : IntKind} {l : List (List AV)} (htt : TTok P TT)
    (hw : wantd all σ ⟨d, .slice t x none (some hi') (some mx), ty, ps, af, gd⟩ = some true) (ht : TT t = some i) (hi : i.kind = .slice e) (he : TT e = some j) (hx : ev σ x = .sl j.size l) (hl : ev σ hi' = .int k (l.length : Int)) (hm : ev σ mx = .int k' (l.length : Int))
    (hk : CWops P up nt all os (σ.put d (.tight j.size l)) K) : CWops P up nt all (⟨d, .slice t x none (some hi') (some mx), ty, ps, af, gd⟩ :: os) σ K :=
  CWops.step hw (Snd.up (snd_tight rfl htt ht hi he hx hl hm hk))
theorem snd_appTight {t e : Nat} {s x : Operand} {i j : TI} {l rows : List (List AV)} (ho : o.op = .call { callee := .builtin .append, args := #[s, x], argTypes := #[t, t] }) (htt : TTok P TT) (ht : TT t = some i) (hi : i.kind = .slice e) (he : TT e = some j) (hsz : 0 < j.size) (hzl : j.zero.length = j.size)
    (hs : ev σ s = .tight j.size l) (hr : srcRows σ j.size (ev σ x) = some rows) (hne : rows ≠ []) (hc : ∀ r ∈ l, ∀ a ∈ r, a.cell = true)
    (hpl : if isRef (ev σ x) = true then ∀ r ∈ rows, ∀ a ∈ r, a.tree = false else ∀ r ∈ rows, ∀ a ∈ r, a.cell = true) (hb : (l.length + rows.length) * j.bytes ≤ MX) (hM : l.length + rows.length ≤ MX)
    (hk : K (St.put { n := σ.n + 1, t := σ.t, s := (σ.n, ⟨false, [.own j.size (l ++ rows)]⟩) :: σ.s } o.dst (.ref σ.n [] 0))) : Snd P o σ K := by
  intro A0 D0 w0 nt a w G Q hd h
  have hti := (htt t i ht).kind
  rw [hi] at hti
  have hti : P.underlying t = some (.slice e) := hti
  have hsrc := h.src (h.ev x) hr (fun hr => by rw [if_pos hr] at hpl; exact hpl) (fun hr => by rw [if_neg (by simp [hr])] at hpl; exact hpl)
  have hsv := h.ev s
  rw [hs] at hsv
  obtain ⟨ad, hv, hfr⟩ := (hsv.pure rfl).tight_inv
  obtain ⟨inf, z, i1, i2, i3, i4, i5, i6, i7⟩ := (htt e j he).info
  rw [hv] at hfr
  obtain ⟨us, u1, u2, u3⟩ := (Src.of_fr hfr hc).cells hsz rfl
  obtain ⟨b2, o2, c2, hxv, hcell⟩ := hsrc.at_ hne
  rw [hxv] at hsrc
  obtain ⟨ns, n1, n2, n3⟩ := hsrc.cells hsz rfl
  obtain ⟨_, en, n3⟩ := n3 hne
  cases en
  have hlr : 0 < rows.length := by cases rows with | nil => exact absurd rfl hne | cons => simp
  have hbytes : (l.length + rows.length) * inf.bytes ≤ 140737488355328 := by rw [i3]; exact hb
  have hml : l.length + rows.length ≤ maxLen := by unfold maxLen; unfold MX at hM; omega
  have h63 : ((l.length + rows.length : Nat) : Int) ≤ 9223372036854775807 := by unfold MX at hM; omega
  have hzs : z.cells.size = j.size := by have := i5.1; simp only [Array.length_toList] at this; omega
  have hge := grownCap_ge w (l.length + rows.length) l.length e
  have hcm := grownCap_le_maxLen w (l.length + rows.length) l.length e hml
  -- the rows
  have hrows : RowsOK w.drew (Own A0 G) j.size (l ++ rows) (us ++ ns).toArray := by
    refine ⟨by simp [u1, n1, Nat.add_mul], fun i r hi => ?_, fun i r k av hi hk => ?_⟩
    · rw [List.getElem?_append] at hi
      split at hi
      · exact (Src.of_fr hfr hc).len i r hi
      · exact hsrc.len _ r hi
    · rw [List.getElem?_append] at hi
      split at hi
      · rename_i hil
        obtain ⟨u, k1, k2, k3⟩ := u2 i r k av hi hk
        have := (List.getElem?_eq_some_iff.1 k1).1
        exact ⟨u, by rw [List.getElem?_toArray, List.getElem?_append_left this]; exact k1, FR.keep (w := w) (w' := w.drew) (A := Own A0 G) (A' := Own A0 G) (fun b _ _ => rfl) (fun _ _ h => h) k2, k3⟩
      · rename_i hil
        obtain ⟨u, k1, k2, k3⟩ := n2 _ r k av hi hk
        refine ⟨u, ?_, FR.keep (w := w) (w' := w.drew) (A := Own A0 G) (A' := Own A0 G) (fun b _ _ => rfl) (fun _ _ h => h) k2, k3⟩
        have e1 : i * j.size + k = us.length + ((i - l.length) * j.size + k) := by rw [u1, ← Nat.add_assoc, ← Nat.add_mul]; congr 2; omega
        rw [List.getElem?_toArray, e1, List.getElem?_append_right (by omega), Nat.add_sub_cancel_left]
        exact k1
  obtain ⟨gs, g1, g2, g3, g4, g5⟩ := rows_tree (w := w.drew) (T := e) (cap := grownCap w (l.length + rows.length) l.length e) (C' := (us ++ ns).toArray ++ Builtin.zeroCells z.cells (grownCap w (l.length + rows.length) l.length e - (l.length + rows.length))) hrows (by
      simp only [Array.size_append, List.size_toArray, List.length_append, size_zeroCells, hzs, u1, n1, ← Nat.add_mul]
      congr 1; omega) (fun q hq => by rw [Array.getElem?_append_left hq]) (by simp; omega) hcm (by simpa using hM)
  have hrun : (Builtin.append_ #[t, t] o.type #[.slice ad l.length l.length, .slice (some ⟨b2, o2, none⟩) rows.length c2]).run P w = .ok (.slice (some ⟨w.heap.size, 0, none⟩) (l.length + rows.length) (grownCap w (l.length + rows.length) l.length e))
      (w.drew.alloc (.cells ((us ++ ns).toArray ++ Builtin.zeroCells z.cells (grownCap w (l.length + rows.length) l.length e - (l.length + rows.length))) e)) := by
    by_cases h0 : l = []
    · subst h0
      have hus : us = [] := List.eq_nil_of_length_eq_zero (by simpa using u1)
      subst hus
      cases ad with
      | none =>
        have := run_append_nil (P := P) w t o.type e inf z hti i1 i4 ⟨b2, o2, none⟩ rows.length c2 ns (by rw [n1, i2]) n3 hlr (by simpa using h63) (by have := hbytes; simp only [List.length_nil, Nat.zero_add] at this; omega)
        simpa using this
      | some a0 =>
        have := run_append_grow (P := P) w t o.type e inf z hti i1 i4 a0 0 0 [] (by simp) (fun q u h => by simp at h) ⟨b2, o2, none⟩ rows.length c2 ns (by rw [n1, i2]) n3 (by omega) (by simpa using h63) (growslice_fits (by omega) (by simpa using hbytes))
        simpa using this
    · obtain ⟨a0, rfl, hold⟩ := u3 h0
      have := run_append_grow (P := P) w t o.type e inf z hti i1 i4 a0 l.length l.length us (by rw [u1, i2]) hold ⟨b2, o2, none⟩ rows.length c2 ns (by rw [n1, i2]) n3 (by omega) h63 (growslice_fits (by omega) hbytes)
      simpa using this
  obtain ⟨G', q1, q2⟩ := h.newDet (.own j.size (.slice (some ⟨w.heap.size, 0, none⟩) (l ++ rows).length (grownCap w (l.length + rows.length) l.length e)) gs) (w' := w.drew.alloc (.cells ((us ++ ns).toArray ++ Builtin.zeroCells z.cells (grownCap w (l.length + rows.length) l.length e - (l.length + rows.length))) e))
    (fun b hb => Below.heap_alloc w.drew _ b hb) ⟨rfl, rfl, rfl, by simp⟩ rfl g3 (fun k hk => by rw [g4 k hk]; exact Nat.le_refl _) g5
  simp only [GT.er, g1] at q1
  refine wp_value (v := .slice (some ⟨w.heap.size, 0, none⟩) (l.length + rows.length) (grownCap w (l.length + rows.length) l.length e)) ?_ ⟨_, G', q1.put (by simpa [GT.val] using q2) hd, hk⟩
  simp [execOp, ho, resolve, invoke, builtin, hv, hxv, hrun]
theorem CWops.appTight {nt : Nat} {all : Array Oper} {os : List Oper} {d : Option Tmp} {ty : TypeId} {ps : String} {af : Array Edge} {gd : Option (Nat × Bool)} {t e : Nat} {s x : Operand} {i j : TI} {l rows : List (List AV)} (htt : TTok P TT)
    (hw : wantd all σ ⟨d, .call { callee := .builtin .append, args := #[s, x], argTypes := #[t, t] }, ty, ps, af, gd⟩ = some true) (ht : TT t = some i) (hi : i.kind = .slice e) (he : TT e = some j) (hsz : 0 < j.size) (hzl : j.zero.length = j.size)
    (hs : ev σ s = .tight j.size l) (hr : srcRows σ j.size (ev σ x) = some rows) (hne : rows ≠ []) (hc : ∀ r ∈ l, ∀ a ∈ r, a.cell = true)
    (hpl : if isRef (ev σ x) = true then ∀ r ∈ rows, ∀ a ∈ r, a.tree = false else ∀ r ∈ rows, ∀ a ∈ r, a.cell = true) (hb : (l.length + rows.length) * j.bytes ≤ MX) (hM : l.length + rows.length ≤ MX)
    (hk : CWops P up nt all os (St.put { n := σ.n + 1, t := σ.t, s := (σ.n, ⟨false, [.own j.size (l ++ rows)]⟩) :: σ.s } d (.ref σ.n [] 0)) K) : CWops P up nt all (⟨d, .call { callee := .builtin .append, args := #[s, x], argTypes := #[t, t] }, ty, ps, af, gd⟩ :: os) σ K :=
  CWops.step hw (Snd.up (snd_appTight rfl htt ht hi he hsz hzl hs hr hne hc hpl hb hM hk))
end
section
variable {P : Program} {TT : TTab} {up : Bool} {all : Array Oper} {σ0 : St} {K : List (Nat × AV) → Option Root → Prop}
theorem stab_tight {ts : List (Nat × AV)} {d : Option Tmp} {ty : TypeId} {ps : String} {af : Array Edge} {t e : Nat} {x hi' mx : Operand} {i j : TI} {k k' : IntKind} {l : List (List AV)} (htt : TTok P TT) (ht : TT t = some i) (hi : i.kind = .slice e) (he : TT e = some j)
    (hx : ev { σ0 with t := ts } x = .sl j.size l) (hl : ev { σ0 with t := ts } hi' = .int k (l.length : Int)) (hm : ev { σ0 with t := ts } mx = .int k' (l.length : Int)) : Stab P up all ⟨d, .slice t x none (some hi') (some mx), ty, ps, af, none⟩ ts σ0 (.tight j.size l) none := by
  refine ⟨fun _ => rfl, fun σ' hlk _ _ => .inl ⟨rfl, Snd.up ?_⟩⟩
  have hev : ∀ y ∈ (Op.slice t x none (some hi') (some mx)).operands, ev σ' y = ev { σ0 with t := ts } y := fun y hy => looks_ops (o := ⟨d, .slice t x none (some hi') (some mx), ty, ps, af, none⟩) (τ := { σ0 with t := ts }) hlk hy
  exact snd_tight rfl htt ht hi he (by rw [hev x (by simp [Op.operands])]; exact hx) (by rw [hev hi' (by simp [Op.operands])]; exact hl) (by rw [hev mx (by simp [Op.operands])]; exact hm) (newR_none ..).symm
theorem Seg.tight {os : List Oper} {ts : List (Nat × AV)} {r : Option Root} {d : Option Tmp} {ty : TypeId} {ps : String} {af : Array Edge} {t e : Nat} {x hi' mx : Operand} {i j : TI} {k k' : IntKind} {l : List (List AV)} (htt : TTok P TT) (ht : TT t = some i) (hi : i.kind = .slice e) (he : TT e = some j)
    (hx : ev { σ0 with t := ts } x = .sl j.size l) (hl : ev { σ0 with t := ts } hi' = .int k (l.length : Int)) (hm : ev { σ0 with t := ts } mx = .int k' (l.length : Int)) (hk : Seg P up all σ0 os (putT ts d (.tight j.size l)) r K) : Seg P up all σ0 (⟨d, .slice t x none (some hi') (some mx), ty, ps, af, none⟩ :: os) ts r K := by
  exact ⟨ts, _, none, fun _ => rfl, stab_tight htt ht hi he hx hl hm, .inl rfl, hk⟩
end
end Go.Ab
namespace Go.Ab
open Go Go.RowKit
def mapdel : List (Int × AV) → Int → List (Int × AV)
  | [], _ => []
  | (k0, v0) :: es, k => if k = k0 then es else (k0, v0) :: mapdel es k
theorem mapdel_spec {k : Int} : ∀ {es : List (Int × AV)} {ents : List MapEntry}, ents.length = es.length → (∀ (i : Nat) (p : Int × AV), es[i]? = some p → ents[i]?.map (fun m : MapEntry => m.key) = some (.int .i64 p.1)) →
    ∀ q, (∃ i u0, Instr.findNow (.int .i64) (.int .i64 k) ents q = some (some (q + i, u0)) ∧ i < es.length ∧ mapdel es k = es.eraseIdx i) ∨ (Instr.findNow (.int .i64) (.int .i64 k) ents q = some none ∧ mapdel es k = es)
  | [], [], _, _, q => .inr ⟨rfl, rfl⟩
  | [], _ :: _, h, _, q => by simp at h
  | _ :: _, [], h, _, q => by simp at h
  | (k0, v0) :: es, e :: ents, hl, hk, q => by
    have hk0 := hk 0 (k0, v0) rfl
    simp only [List.getElem?_cons_zero, Option.map_some, Option.some.injEq] at hk0
    by_cases h : k = k0
    · subst h
      exact .inl ⟨0, e.val, by simp [Instr.findNow, hk0, Instr.sameNow], by simp, by simp [mapdel]⟩
    · have hs : Instr.sameNow (.int .i64) (.int .i64 k) e.key = some false := by rw [hk0]; simp [Instr.sameNow, h]
      rcases mapdel_spec (k := k) (by simpa using hl) (fun i p hp => by simpa using hk (i + 1) p (by simpa using hp)) (q + 1) with ⟨i, u0, h1, h2, h3⟩ | ⟨h1, h2⟩
      · exact .inl ⟨i + 1, u0, by simp [Instr.findNow, hs, h1]; omega, by simp; omega, by simp [mapdel, h, h3]⟩
      · exact .inr ⟨by simp [Instr.findNow, hs, h1], by simp [mapdel, h, h2]⟩
section
variable {P : Program} {TT : TTab} {o : Oper} {σ : St} {K : St → Prop}
end
end Go.Ab
namespace Go.Ab
open Go Go.RowKit
section
variable {A0 A1 D0 D1 : Nat → Prop} {w0 w1 : World} {nt : Nat} {σ τ : St} {a : Act} {w w' : World} {G : Nat → Option GR}
theorem Fr.refl (D : Nat → Prop) (w : World) : Fr D w w := ⟨rfl, rfl, rfl, Nat.le_refl _, fun _ _ _ => rfl⟩
theorem Holds.re (h : Holds A0 D0 w0 nt σ a w G) (hw : ∀ k, k < w.heap.size → ¬ Own A0 G k → w'.heap[k]? = w.heap[k]?) (hg : ∀ k, GFp G k → w'.heap[k]? = w.heap[k]?)
    (hA : ∀ k, k < w.heap.size → A1 k → Own A0 G k) (hAG : ∀ k, GFp G k → ¬ A1 k) (hfr : Fr D1 w1 w') (hown : ∀ k, GFp G k → D1 k ∨ w1.heap.size ≤ k) (ha : ∀ k, A1 k → k < w1.heap.size) : Holds A1 D1 w1 nt σ a w' G := by
  have hA' : ∀ k, k < w.heap.size → Own A1 G k → Own A0 G k := fun k hk ho => ho.elim (hA k hk) .inr
  have hrel : ∀ {av : AV} {v : Value}, Rel w (Own A0 G) G σ.n av v → Rel w' (Own A1 G) G σ.n av v := fun hr => hr.keep (Nat.le_refl _) hw hA' (fun _ _ _ _ _ h => h) (fun _ _ _ _ _ h => h)
  refine ⟨⟨h.inv.dom, h.inv.box, fun x r g hr hgx => ?_, fun x g hgx => ?_, fun x g b hgx hb => ?_, h.inv.sep, h.inv.lt, hAG⟩, h.size, h.defers, fun i hi => hrel (h.tmp i hi), h.far, hfr, hown, ha⟩
  · obtain ⟨c1, c2⟩ := h.inv.cells x r g hr hgx
    exact ⟨c1, fun c av gt hav hgt => (c2 c av gt hav hgt).imp id fun ⟨k1, k2⟩ => ⟨k1, hrel k2⟩⟩
  · refine (h.inv.row x g hgx).keep hw hA' (fun b hb => hg b ⟨x, g, hgx, .inr hb⟩) fun b o e => ?_
    simp only [GR.at_, Option.map_eq_some_iff] at e
    obtain ⟨b', e1, e2⟩ := e
    cases e2
    exact hg b ⟨x, g, hgx, .inl e1⟩
  · rw [hg b ⟨x, g, hgx, .inl hb⟩]
    exact h.inv.base x g b hgx hb
structure MapAt (w : World) (A : Nat → Prop) (b : Nat) (es : List (Int × AV)) (ents : Array MapEntry) (clock : Nat) : Prop where
  at_ : w.heap[b]? = some (.map ents clock)
  size : ents.size = es.length
  len : es.length ≤ MX
  key : ∀ (i : Nat) (p : Int × AV), es[i]? = some p → ents[i]?.map (fun m : MapEntry => m.key) = some (.int .i64 p.1)
  val : ∀ (i : Nat) (p : Int × AV), es[i]? = some p → FR w A p.2 ((ents[i]?.map (fun m : MapEntry => m.val)).getD undef)
  st : StampOK ents clock
theorem Holds.lend (h : Holds A0 D0 w0 nt σ a w G) {y : Nat} {es : List (Int × AV)} (hy : getS σ.s y = some ⟨false, [.omap es]⟩) (hw : Wk (fun x => x) σ τ) (hny : getS τ.s y = none) :
    ∃ b ents clock G', (∀ v, RefOK G y [] 0 v → v = .map (some b)) ∧ ¬ A0 b ∧ (D0 b ∨ w0.heap.size ≤ b) ∧ MapAt w (Own (fun k => A0 k ∨ k = b) G') b es ents clock ∧ ¬ GFp G' b ∧ (∀ k, GFp G' k → GFp G k) ∧ Holds (fun k => A0 k ∨ k = b) (GFp G') w nt τ a w G' := by
  have hc : cellAtB σ y [] 0 = .omap es := by simp [cellAtB, hy, rowOf]
  obtain ⟨r, row, g, grow, t, g1, g2, g3, hg, g5, g6, hl, her, hmem, hsep, href, hfpr⟩ := h.tree hc rfl
  obtain ⟨b, rfl⟩ := er_map her hl
  have hyb : RFp g b := .inr (hfpr b (.map _ _))
  have hbG : GFp G b := ⟨y, g, hg, hyb⟩
  have hsub : ∀ x g0, Gsub (fun x => x) τ.s G x = some g0 → x ≠ y := fun x g0 hx e => by
    subst e
    unfold Gsub at hx
    rw [hny] at hx
    cases hx
  have hlt : ∀ k, GFp (Gsub (fun x => x) τ.s G) k → k ≠ b := by
    rintro k ⟨x, g0, hx, hk⟩ rfl
    obtain ⟨_, _, _, key⟩ := h.inv.weak (A1 := fun _ => False) (fun x => x) hw.1 hw.2.2 (fun b hb => hb.elim) (fun b _ hb => hb)
    obtain ⟨g1, e1, e2⟩ := key x g0 k hx hk
    exact h.inv.sep x g1 y g e1 hg (hsub x g0 hx) k e2 hyb
  have hG' : ∀ k, GFp (Gsub (fun x => x) τ.s G) k → GFp G k := (h.inv.weak (A1 := fun _ => False) (fun x => x) hw.1 hw.2.2 (fun b hb => hb.elim) (fun b _ hb => hb)).2.1
  obtain ⟨i1, i2, i3, _⟩ := h.inv.weak (A1 := fun k => A0 k ∨ k = b) (fun x => x) hw.1 hw.2.2 (fun k hk => hk.elim .inl fun e => .inr (e ▸ hbG)) (fun k hk hk' => hk'.elim (h.inv.a0 k (hG' k hk)) (hlt k hk))
  cases hmem with
  | map b ents clock es h1 h2 h3 h4 h5 h6 =>
    refine ⟨b, ents, clock, _, fun v hv => by rw [href v hv]; rfl, h.inv.a0 b hbG, h.own b hbG, ⟨h1, h2, h3, h4, fun i p hp => (h5 i p hp).keep (fun _ _ _ => rfl) (fun k _ hk => ?_), h6⟩, fun hb => hlt b hb rfl, hG', ?_⟩
    · rcases hk with (hk | rfl) | hk
      · exact .inl hk
      · exact .inr hbG
      · exact .inr (hG' k hk)
    · refine ⟨i1, h.size, h.defers, fun i hi => i3 (h.tmp i hi) (hw.2.1.get i), (h.weak (fun x => x) hw.1 hw.2.1 hw.2.2).far, Fr.refl _ _, fun k hk => .inl hk, fun k hk => ?_⟩
      rcases hk with hk | rfl
      · exact Nat.lt_of_lt_of_le (h.a0lt k hk) h.fr.size
      · exact (Array.getElem?_eq_some_iff.1 h1).1
structure Lent (A0 D0 : Nat → Prop) (w0 : World) (nt it tl b r since : Nat) (σ : St) (es : List (Int × AV)) (done : Int → Bool) (ents : Array MapEntry) (clock : Nat) (seen : Array Nat) (last : Nat) (a : Act) (w : World) (G : Nat → Option GR) : Prop where
  h : Holds (fun k => A0 k ∨ k = b ∨ k = r) (GFp G) w nt σ a w G
  fr : Fr D0 w0 w
  own : ∀ k, GFp G k → D0 k ∨ w0.heap.size ≤ k
  a0 : ∀ k, A0 k → k < w0.heap.size
  bo : D0 b ∨ w0.heap.size ≤ b
  bA : ¬ A0 b
  ro : w0.heap.size ≤ r
  br : b ≠ r
  mp : MapAt w (Own (fun k => A0 k ∨ k = b ∨ k = r) G) b es ents clock
  it_ : w.heap[r]? = some (.mapIter (some b) since seen last)
  old : ∀ x ∈ ents.toList, x.born < since
  s1 : since ≤ last
  s2 : since ≤ clock
  dn : ∀ (i : Nat) (p : Int × AV) (e : MapEntry), es[i]? = some p → ents[i]? = some e → seen.contains e.born = done p.1
  sl : a.tmps[it]? = some (.pointer (some ⟨r, 0, none⟩))
  sm : a.tmps[tl]? = some (.map (some b))
  nd : ∀ (i j : Nat) (p q : Int × AV), es[i]? = some p → es[j]? = some q → p.1 = q.1 → i = j
theorem Lent.sh {it tl b r since : Nat} {es : List (Int × AV)} {done : Int → Bool} {ents : Array MapEntry} {clock last : Nat} {seen : Array Nat} (h : Lent A0 D0 w0 nt it tl b r since σ es done ents clock seen last a w G) {σ' : St} {a' : Act} {w' : World} {G' : Nat → Option GR}
    (hh : Holds (fun k => A0 k ∨ k = b ∨ k = r) (GFp G) w nt σ' a' w' G') (hs : a'.tmps[it]? = a.tmps[it]?) (hs2 : a'.tmps[tl]? = a.tmps[tl]?) : Lent A0 D0 w0 nt it tl b r since σ' es done ents clock seen last a' w' G' := by
  have hb : ¬ GFp G b := fun hg => h.h.inv.a0 b hg (.inr (.inl rfl))
  have hr : ¬ GFp G r := fun hg => h.h.inv.a0 r hg (.inr (.inr rfl))
  have hbl : b < w.heap.size := (Array.getElem?_eq_some_iff.1 h.mp.at_).1
  have hrl : r < w.heap.size := (Array.getElem?_eq_some_iff.1 h.it_).1
  refine ⟨hh.re (fun _ _ _ => rfl) (fun _ _ => rfl) (fun _ _ h => .inl h) hh.inv.a0 (Fr.refl _ _) (fun _ h => .inl h) (fun k hk => Nat.lt_of_lt_of_le (hh.a0lt k hk) hh.fr.size), ⟨hh.fr.os.trans h.fr.os, hh.fr.tape.trans h.fr.tape, hh.fr.output.trans h.fr.output, Nat.le_trans h.fr.size hh.fr.size, fun k hk hd => ?_⟩, fun k hk => ?_, h.a0, h.bo, h.bA, h.ro, h.br,
    ⟨by rw [hh.fr.block b hbl hb]; exact h.mp.at_, h.mp.size, h.mp.len, h.mp.key, fun i p hp => (h.mp.val i p hp).keep (fun k hk ho => hh.fr.block k hk fun hg => ho (.inr hg)) (fun k hk ho => ho.imp id fun hg => (hh.own k hg).resolve_right (by omega)), h.mp.st⟩,
    by rw [hh.fr.block r hrl hr]; exact h.it_, h.old, h.s1, h.s2, h.dn, by rw [hs]; exact h.sl, by rw [hs2]; exact h.sm, h.nd⟩
  · have hs := h.fr.size
    rw [hh.fr.block k (by omega) (fun hg => (h.own k hg).elim hd (fun h => by omega))]
    exact h.fr.block k hk hd
  · rcases hh.own k hk with hg | hg
    · exact h.own k hg
    · exact .inr (Nat.le_trans h.fr.size hg)
theorem Lent.run {P : Program} {up : Bool} {np it tl b r since : Nat} {es : List (Int × AV)} {done : Int → Bool} {ents : Array MapEntry} {clock last : Nat} {seen : Array Nat} {c : Code} {Q : Exit → St → Prop} {R : Exit → Act → World → Prop} (h : Lent A0 D0 w0 nt it tl b r since σ es done ents clock seen last a w G) (hk : kp np it = true) (hk2 : kp np tl = true)
    (hc : CW P up np nt c σ Q) (hu : up = true → LetsOut R) (hr : ∀ e a' w' σ' G', Lent A0 D0 w0 nt it tl b r since σ' es done ents clock seen last a' w' G' → Kept np a a' → Q e σ' → R e a' w') : c.wp P R a w :=
  hc _ _ w a w G R hu h.h fun e a' w' σ' G' h1 h2 h3 => hr e a' w' σ' G' (h.sh h1 (h2 it hk) (h2 tl hk2)) h2 h3
theorem Lent.back {it tl b r since : Nat} {es : List (Int × AV)} {done : Int → Bool} {ents : Array MapEntry} {clock last : Nat} {seen : Array Nat} (h : Lent A0 D0 w0 nt it tl b r since σ es done ents clock seen last a w G) :
    Holds A0 D0 w0 nt { n := σ.n + 1, t := (tl, .ref σ.n [] 0) :: σ.t, s := (σ.n, ⟨false, [.omap es]⟩) :: σ.s } a w (Gset G σ.n (some ⟨none, [.map b es]⟩)) := by
  have hfresh : ∀ x g', G x = some g' → x ≠ σ.n := fun x g' hg => by have := h.h.inv.lt x g' hg; omega
  have hbG : ¬ GFp G b := fun hg => h.h.inv.a0 b hg (.inr (.inl rfl))
  have hown : ∀ k, GFp (Gset G σ.n (some ⟨none, [.map b es]⟩)) k → GFp G k ∨ k = b := by
    rintro k ⟨x, g', hg, hb⟩
    by_cases e : x = σ.n
    · subst e
      rw [Gset_self] at hg; cases hg
      rcases hb with hb | ⟨c, t, ht, hb⟩
      · cases hb
      · cases c with
        | zero => simp at ht; subst ht; cases hb; exact .inr rfl
        | succ c => simp at ht
    · rw [Gset_ne e] at hg
      exact .inl ⟨x, g', hg, hb⟩
  have hA : ∀ k, k < w.heap.size → Own A0 (Gset G σ.n (some ⟨none, [.map b es]⟩)) k → Own (fun k => A0 k ∨ k = b ∨ k = r) G k := fun k _ ho => by
    rcases ho with ho | ho
    · exact .inl (.inl ho)
    · rcases hown k ho with hg | rfl
      · exact .inr hg
      · exact .inl (.inr (.inl rfl))
  have hrel : ∀ {av : AV} {v : Value}, Rel w (Own (fun k => A0 k ∨ k = b ∨ k = r) G) G σ.n av v → Rel w (Own A0 (Gset G σ.n (some ⟨none, [.map b es]⟩))) (Gset G σ.n (some ⟨none, [.map b es]⟩)) (σ.n + 1) av v := fun hr =>
    hr.keep (by omega) (fun _ _ _ => rfl) hA (fun x p c v hx hr => hr.new (by omega)) (fun x p j ad hx hr => hr.new (by omega))
  refine ⟨⟨fun x => ?_, fun x r' g hr hg => ?_, fun x r' g hr hg => ?_, fun x g hg => ?_, fun x g k hg hb => ?_, fun x g x' g' hg hg' hne k hk hk' => ?_, fun x g hg => ?_, fun k hk ha => ?_⟩, h.h.size, h.h.defers, fun i hi => ?_, fun i hi => ?_, h.fr, fun k hk => ?_, h.a0⟩
  · simp only [getS]
    by_cases e : σ.n = x
    · subst e; simp [Gset_self]
    · simp only [e, if_false, Gset_ne (Ne.symm e)]; exact h.h.inv.dom x
  · simp only [getS] at hr
    by_cases e : σ.n = x
    · subst e; rw [if_pos rfl] at hr; cases hr; rw [Gset_self] at hg; cases hg; rfl
    · rw [if_neg e] at hr; rw [Gset_ne (Ne.symm e)] at hg; exact h.h.inv.box x r' g hr hg
  · simp only [getS] at hr
    by_cases e : σ.n = x
    · subst e; rw [if_pos rfl] at hr; cases hr; rw [Gset_self] at hg; cases hg
      refine ⟨rfl, fun c av gt hav hgt => ?_⟩
      cases c with
      | zero => simp at hav hgt; subst hav; subst hgt; exact .inl ⟨rfl, by simp [GT.er]⟩
      | succ c => simp at hav
    · rw [if_neg e] at hr; rw [Gset_ne (Ne.symm e)] at hg
      obtain ⟨c1, c2⟩ := h.h.inv.cells x r' g hr hg
      exact ⟨c1, fun c av gt hav hgt => (c2 c av gt hav hgt).imp id fun ⟨k1, k2⟩ => ⟨k1, hrel k2⟩⟩
  · by_cases e : σ.n = x
    · subst e; rw [Gset_self] at hg; cases hg
      refine ⟨fun c t ht => ?_, ⟨fun c t ht => ?_, fun c t c' t' ht ht' hne => ?_⟩, fun b o e => (by cases e), fun b o e => (by cases e)⟩
      · cases c with
        | zero => simp at ht; subst ht; exact .map b ents clock es h.mp.at_ h.mp.size h.mp.len h.mp.key (fun i p hp => (h.mp.val i p hp).keep (fun _ _ _ => rfl) hA) h.mp.st
        | succ c => simp at ht
      · cases c with
        | zero => simp at ht; subst ht; exact .map _ _
        | succ c => simp at ht
      · cases c with
        | zero => cases c' with
          | zero => exact absurd rfl hne
          | succ c' => simp at ht'
        | succ c => simp at ht
    · rw [Gset_ne (Ne.symm e)] at hg
      exact (h.h.inv.row x g hg).keep (fun _ _ _ => rfl) hA (fun _ _ => rfl) fun _ _ _ => rfl
  · by_cases e : σ.n = x
    · subst e; rw [Gset_self] at hg; cases hg; cases hb
    · rw [Gset_ne (Ne.symm e)] at hg; exact h.h.inv.base x g k hg hb
  · have new : ∀ {g : GR}, (Gset G σ.n (some ⟨none, [.map b es]⟩)) σ.n = some g → RFp g k → k = b := fun hg hk => by
      rw [Gset_self] at hg; cases hg
      rcases hk with hb | ⟨c, t, ht, hb⟩
      · cases hb
      · cases c with
        | zero => simp at ht; subst ht; cases hb; rfl
        | succ c => simp at ht
    by_cases e : x = σ.n
    · subst e
      have := new hg hk
      subst this
      rw [Gset_ne (Ne.symm hne)] at hg'
      exact hbG ⟨x', g', hg', hk'⟩
    · by_cases e' : x' = σ.n
      · subst e'
        have := new hg' hk'
        subst this
        rw [Gset_ne e] at hg
        exact hbG ⟨x, g, hg, hk⟩
      · rw [Gset_ne e] at hg
        rw [Gset_ne e'] at hg'
        exact h.h.inv.sep x g x' g' hg hg' hne k hk hk'
  · by_cases e : x = σ.n
    · subst e; show σ.n < σ.n + 1; omega
    · rw [Gset_ne e] at hg
      have := h.h.inv.lt x g hg
      show x < σ.n + 1
      omega
  · rcases hown k hk with hg | rfl
    · exact h.h.inv.a0 k hg (.inl ha)
    · exact h.bA ha
  · simp only [getT]
    split
    · rename_i e
      subst e
      have : a.tmps.getD tl undef = .map (some b) := by rw [Array.getD_eq_getD_getElem?, h.sm]; rfl
      rw [this]
      exact .ref _ _ _ _ (by omega) (by simp [Value.oneCell']) (fun r row g hg hr hc hl => by
        rw [Gset_self] at hg; cases hg
        simp only [gRow, Option.some.injEq] at hr; subst hr
        simp at hc; subst hc; rfl)
    · exact hrel (h.h.tmp i hi)
  · simp only [getT]
    split
    · rename_i e
      subst e
      have := (Array.getElem?_eq_some_iff.1 h.sm).1
      rw [h.h.size] at this
      omega
    · exact h.h.far i hi
  · rcases hown k hk with hg | rfl
    · exact h.own k hg
    · exact h.bo
theorem stamps_nodup {ents : Array MapEntry} {clock : Nat} (h : StampOK ents clock) : (ents.toList.map (·.born)).Nodup := by
  rw [List.nodup_iff_pairwise_ne, List.pairwise_iff_getElem]
  intro i j hi hj hij e
  simp only [List.length_map, Array.length_toList] at hi hj
  simp only [List.getElem_map, Array.getElem_toList] at e
  have := h.2 i j ents[i] ents[j] (Array.getElem?_eq_getElem hi) (Array.getElem?_eq_getElem hj) e
  omega
theorem Lent.next {P : Program} {it tl b r since : Nat} {es : List (Int × AV)} {done : Int → Bool} {ents : Array MapEntry} {clock last : Nat} {seen : Array Nat} (h : Lent A0 D0 w0 nt it tl b r since σ es done ents clock seen last a w G) (ty : TypeId) :
    ((∀ (i : Nat) (p : Int × AV), es[i]? = some p → done p.1 = true) ∧ (Instr.next (.pointer (some ⟨r, 0, none⟩)) false ty).run P w = .ok (.tuple #[.bool false]) w) ∨
    ∃ (i : Nat) (k : Int) (v : AV) (u : Value) (w' : World) (seen' : Array Nat), es[i]? = some (k, v) ∧ done k = false ∧ FR w' (Own (fun k => A0 k ∨ k = b ∨ k = r) G) v u ∧ (Instr.next (.pointer (some ⟨r, 0, none⟩)) false ty).run P w = .ok (.tuple #[.bool true, .int .i64 k, u]) w' ∧
      Lent A0 D0 w0 nt it tl b r since σ es (fun x => done x || decide (x = k)) ents clock seen' clock a w' G ∧ (Instr.entry (.pointer (some ⟨r, 0, none⟩))).run P w' = .ok (.tuple #[.int .i64 k, u]) w' := by
  have hrG : ¬ GFp G r := fun hg => h.h.inv.a0 r hg (.inr (.inr rfl))
  have hrl : r < w.heap.size := (Array.getElem?_eq_some_iff.1 h.it_).1
  have hent : ∀ (i : Nat) (p : Int × AV), es[i]? = some p → ∃ e, ents[i]? = some e := fun i p hp => by
    have := (List.getElem?_eq_some_iff.1 hp).1
    exact ⟨ents[i]'(by have := h.mp.size; omega), Array.getElem?_eq_getElem _⟩
  rcases run_next_at (P := P) w ty r b since last seen ents clock h.it_ h.mp.at_ h.old h.s1 with ⟨h0, hrun⟩ | ⟨e, he, w1, hal, hrun⟩
  · refine .inl ⟨fun i p hp => ?_, hrun⟩
    obtain ⟨e, hei⟩ := hent i p hp
    rw [← h.dn i p e hp hei]
    cases hs : seen.contains e.born with
    | true => rfl
    | false =>
      exfalso
      unfold leftOf at h0
      rw [Array.size_eq_zero_iff, Array.filter_eq_empty_iff] at h0
      exact h0 e (Array.mem_of_getElem? hei) (by simpa using hs)
  · unfold leftOf at he
    simp only [Array.toList_filter, List.mem_filter, Bool.not_eq_true'] at he
    obtain ⟨he1, he2⟩ := he
    obtain ⟨i, hi⟩ := List.getElem?_of_mem he1
    rw [Array.getElem?_toList] at hi
    have hil := (Array.getElem?_eq_some_iff.1 hi).1
    obtain ⟨p, hp⟩ : ∃ p, es[i]? = some p := ⟨es[i]'(by have := h.mp.size; omega), List.getElem?_eq_getElem _⟩
    obtain ⟨k, v⟩ := p
    have hkey : e.key = .int .i64 k := by have := h.mp.key i (k, v) hp; rw [hi] at this; simpa using this
    have hh1 : w1.heap = w.heap ∧ w1.os = w.os ∧ w1.tape = w.tape ∧ w1.output = w.output := by rcases hal with rfl | rfl <;> exact ⟨rfl, rfl, rfl, rfl⟩
    have hw : ∀ j, j ≠ r → (Go.ChangeMaps.setBlock w1 r (.mapIter (some b) since (seen.push e.born) clock)).heap[j]? = w.heap[j]? := fun j hj => by
      show (w1.heap.setIfInBounds r _)[j]? = _
      rw [hh1.1, Array.getElem?_setIfInBounds_ne (Ne.symm hj)]
    have hself : (Go.ChangeMaps.setBlock w1 r (.mapIter (some b) since (seen.push e.born) clock)).heap[r]? = some (.mapIter (some b) since (seen.push e.born) clock) := by
      show (w1.heap.setIfInBounds r _)[r]? = _
      rw [hh1.1, Array.getElem?_setIfInBounds_self_of_lt hrl]
    have hwf : (Go.ChangeMaps.setBlock w1 r (.mapIter (some b) since (seen.push e.born) clock)).os = w.os ∧ (Go.ChangeMaps.setBlock w1 r (.mapIter (some b) since (seen.push e.born) clock)).tape = w.tape ∧ (Go.ChangeMaps.setBlock w1 r (.mapIter (some b) since (seen.push e.born) clock)).output = w.output ∧ (Go.ChangeMaps.setBlock w1 r (.mapIter (some b) since (seen.push e.born) clock)).heap.size = w.heap.size :=
      ⟨hh1.2.1, hh1.2.2.1, hh1.2.2.2, by show (w1.heap.setIfInBounds r _).size = _; rw [hh1.1, Array.size_setIfInBounds]⟩
    generalize Go.ChangeMaps.setBlock w1 r (.mapIter (some b) since (seen.push e.born) clock) = w' at hw hself hwf hrun
    have hb' : w'.heap[b]? = some (.map ents clock) := by rw [hw b h.br]; exact h.mp.at_
    have hkeep : ∀ {av : AV} {u : Value}, FR w (Own (fun k => A0 k ∨ k = b ∨ k = r) G) av u → FR w' (Own (fun k => A0 k ∨ k = b ∨ k = r) G) av u := fun hf =>
      hf.keep (fun j _ ho => hw j fun e => ho (.inl (.inr (.inr e)))) (fun _ _ h => h)
    have hv : FR w (Own (fun k => A0 k ∨ k = b ∨ k = r) G) v e.val := by have := h.mp.val i (k, v) hp; rw [hi] at this; simpa using this
    refine .inr ⟨i, k, v, e.val, w', seen.push e.born, hp, by rw [← h.dn i (k, v) e hp hi]; exact he2, hkeep hv, by rw [hrun, hkey], ?_, by rw [← hkey]; exact run_entry_at w' r b since seen ents clock e hself hb' he1 (stamps_nodup h.mp.st)⟩
    refine ⟨h.h.re (fun j _ ho => hw j fun e => ho (.inl (.inr (.inr e)))) (fun j hj => hw j fun e => hrG (e ▸ hj)) (fun _ _ h => .inl h) h.h.inv.a0 (Fr.refl _ _) (fun _ h => .inl h) (fun j hj => by rw [hwf.2.2.2]; exact h.h.a0lt j hj),
      ⟨hwf.1.trans h.fr.os, hwf.2.1.trans h.fr.tape, hwf.2.2.1.trans h.fr.output, by rw [hwf.2.2.2]; exact h.fr.size, fun j hj hd => by rw [hw j (fun e => by have := h.ro; omega)]; exact h.fr.block j hj hd⟩,
      h.own, h.a0, h.bo, h.bA, h.ro, h.br, ⟨hb', h.mp.size, h.mp.len, h.mp.key, fun j q hq => hkeep (h.mp.val j q hq), h.mp.st⟩, hself, h.old, h.s2, h.s2, fun j q f hq hf => ?_, h.sl, h.sm, h.nd⟩
    have hcp : (seen.push e.born).contains f.born = (seen.contains f.born || f.born == e.born) := by
      rw [Array.contains_push]
    rw [hcp, h.dn j q f hq hf]
    congr 1
    rw [Bool.eq_iff_iff, beq_iff_eq, decide_eq_true_eq]
    constructor
    · intro hb
      have := h.mp.st.2 j i f e hf hi hb
      subst this
      rw [hp] at hq; cases hq; rfl
    · intro hk
      have := h.nd j i q (k, v) hq hp hk
      subst this
      rw [hi] at hf; cases hf; rfl
theorem Lent.start (h : Holds A0 D0 w0 nt σ a w G) {y : Nat} {es : List (Int × AV)} (hy : getS σ.s y = some ⟨false, [.omap es]⟩) (hw : Wk (fun x => x) σ τ) (hny : getS τ.s y = none) (hnd : ∀ (i j : Nat) (p q : Int × AV), es[i]? = some p → es[j]? = some q → p.1 = q.1 → i = j) {tm it tl : Nat} (htm : tm < nt) (hit : it < nt) (hl1 : tl ≠ tm) (hl2 : tl ≠ it) (htl : getT σ.t tl = .ref y [] 0) (v : Value) :
    ∃ b ents clock G1, (∀ u, RefOK G y [] 0 u → u = .map (some b)) ∧ w.heap[b]? = some (.map ents clock) ∧
      Lent A0 D0 w0 nt it tl b w.heap.size clock { n := τ.n, t := (it, .undef) :: (tm, .undef) :: τ.t, s := τ.s } es (fun _ => false) ents clock #[] clock ((a.put (some tm) v).put (some it) (.pointer (some ⟨w.heap.size, 0, none⟩))) (w.alloc (.mapIter (some b) clock #[] clock)) G1 := by
  obtain ⟨b, ents, clock, G', k1, k2, k3, k4, k5, k6, k7⟩ := h.lend hy hw hny
  have hbl : b < w.heap.size := (Array.getElem?_eq_some_iff.1 k4.at_).1
  have h1 := (k7.put (d := some tm) (v := .undef) (u := v) (.fr _ _ (.undef _)) (fun i hi => by cases hi; exact htm)).put (d := some it) (v := .undef) (u := .pointer (some ⟨w.heap.size, 0, none⟩)) (.fr _ _ (.undef _)) (fun i hi => by cases hi; exact hit)
  have hal : ∀ k, k < w.heap.size → (w.alloc (.mapIter (some b) clock #[] clock)).heap[k]? = w.heap[k]? := fun k hk => by
    show (w.heap.push _)[k]? = _
    rw [Array.getElem?_push, if_neg (by omega)]
  have hsz : (w.alloc (.mapIter (some b) clock #[] clock)).heap.size = w.heap.size + 1 := by
    show (w.heap.push _).size = _
    simp
  have hlt : ∀ k, GFp G' k → k < w.heap.size := fun k hk => rfp_lt k7.inv hk
  have h2 := h1.re (A1 := fun k => A0 k ∨ k = b ∨ k = w.heap.size) (D1 := GFp G') (w1 := w.alloc (.mapIter (some b) clock #[] clock)) (w' := w.alloc (.mapIter (some b) clock #[] clock)) (fun k hk _ => hal k hk) (fun k hk => hal k (hlt k hk))
    (fun k hk ha => .inl (by rcases ha with ha | ha | ha
                             · exact .inl ha
                             · exact .inr ha
                             · omega))
    (fun k hk ha => by
      rcases ha with ha | ha | ha
      · exact k7.inv.a0 k hk (.inl ha)
      · exact k7.inv.a0 k hk (.inr ha)
      · have := hlt k hk; omega) (Fr.refl _ _) (fun _ h => .inl h) (fun k ha => by
      rw [hsz]
      rcases ha with ha | ha | ha
      · have := k7.a0lt k (.inl ha); omega
      · omega
      · omega)
  refine ⟨b, ents, clock, G', k1, k4.at_, h2, ⟨h.fr.os, h.fr.tape, h.fr.output, by rw [hsz]; have := h.fr.size; omega, fun k hk hd => by rw [hal k (by have := h.fr.size; omega)]; exact h.fr.block k hk hd⟩, fun k hk => h.own k (k6 k hk), h.a0lt, k3, k2, h.fr.size, by omega,
    ⟨by rw [hal b hbl]; exact k4.at_, k4.size, k4.len, k4.key, fun i p hp => (k4.val i p hp).keep (fun k hk _ => hal k hk) (fun k hk ho => ho.imp (fun ha => by
      rcases ha with ha | ha | ha
      · exact .inl ha
      · exact .inr ha
      · omega) id), k4.st⟩, ?_, fun x hx => ?_, Nat.le_refl _, Nat.le_refl _, fun i p e hp he => by simp, ?_, ?_, hnd⟩
  · show (w.heap.push _)[w.heap.size]? = _
    rw [Array.getElem?_push_size]
  · obtain ⟨i, hi⟩ := List.getElem?_of_mem hx
    exact k4.st.1 i x (by rw [← Array.getElem?_toList]; exact hi)
  · simp [Act.put, h.size, hit]
  · obtain ⟨u, hu1, hu2⟩ := h.slot (t := tl) (by rw [htl]; simp)
    rw [htl] at hu2
    rw [k1 u hu2.ref_inv.2.2] at hu1
    simp only [Act.put]
    rw [Array.getElem?_setIfInBounds_ne (Ne.symm hl2), Array.getElem?_setIfInBounds_ne (Ne.symm hl1)]
    exact hu1
end
end Go.Ab
namespace Go.Ab
open Go Go.RowKit
section
variable {P : Program} {TT : TTab} {up : Bool} {np nt : Nat} {σ τ : St} {Q : Exit → St → Prop}
theorem eval_tmp {a : Act} {t : Nat} {v : Value} (h : a.tmps[t]? = some v) : a.eval (.tmp t) = v := by simp [Act.eval, h]
theorem wpList_val {all : Array Oper} {o : Oper} {os : List Oper} {a : Act} {w w' : World} {v : Value} {Q : Exit → Act → World → Prop} (hg : o.guard = none) (h : (execOp a.eval o).run P w = .ok (.value v) w') (hk : wpList P all Q os (a.put o.dst v) w') : wpList P all Q (o :: os) a w := by
  rw [wpList_cons, if_pos (by simp [Region.wanted, hg])]
  exact .inl (wp_value h hk)
theorem put_get {a : Act} {d t : Nat} {v : Value} (h : d < a.tmps.size) (e : t = d) : (a.put (some d) v).tmps[t]? = some v := by subst e; simp [Act.put, h]
theorem put_ne {a : Act} {d t : Nat} {v : Value} (e : d ≠ t) : (a.put (some d) v).tmps[t]? = a.tmps[t]? := by simp [Act.put, Array.getElem?_setIfInBounds, e]
theorem put_size {a : Act} {d : Nat} {v : Value} : (a.put (some d) v).tmps.size = a.tmps.size := by simp [Act.put]
theorem kept_put {a0 a : Act} {d : Nat} {v : Value} (h : Kept np a0 a) (hk : kp np d = false) : Kept np a0 (a.put (some d) v) := fun i hi => by
  rw [put_ne (fun e => by subst e; rw [hk] at hi; cases hi)]; exact h i hi
def toCome (es : List (Int × AV)) (done : Int → Bool) : Nat := (es.filter fun p => !done p.1).length
theorem toCome_lt {es : List (Int × AV)} {done done' : Int → Bool} {k : Int} {v : AV} {i : Nat} (hi : es[i]? = some (k, v)) (hd : done k = false) (h : ∀ q, done' q = (done q || decide (q = k))) : toCome es done' < toCome es done := by
  unfold toCome
  have hmem := List.mem_of_getElem? hi
  clear hi
  induction es with
  | nil => cases hmem
  | cons p r ih =>
    have hle : (r.filter fun p => !done' p.1).length ≤ (r.filter fun p => !done p.1).length := by
      refine List.Sublist.length_le ?_
      have e : (fun p : Int × AV => !done' p.1) = fun p => (!decide (p.1 = k)) && !done p.1 := by funext p; rw [h, Bool.not_or, Bool.and_comm]
      rw [e, ← List.filter_filter]
      exact List.filter_sublist
    simp only [List.filter_cons]
    rcases List.mem_cons.1 hmem with rfl | hm
    · rw [h k, hd]
      simp; omega
    · have := ih hm
      rw [h p.1]
      by_cases e : p.1 = k
      · simp [e, hd]; omega
      · cases done p.1 <;> simp [e] <;> omega
theorem CW.mapRange {S : Type} (htt : TTok P TT) {n m id0 id1 id2 tl tm it nx ok en y : Nat} {mt kt e y0 y1 y2 y3 y4 : TypeId} {s0 s1 s2 s3 s4 : String} {f0 f1 f2 f3 f4 : Array Edge} {i : TI} {os2 : List Oper} {body : Code} (np' : Nat) (st : S → St) (es : List (Int × AV)) (done : S → Int → Bool) (I : S → Prop) (x0 : S) (τ : St)
    (hmt : TT mt = some i) (hi : i.kind = .map kt e) (htl : getT σ.t tl = .ref y [] 0) (hy : getS σ.s y = some ⟨false, [.omap es]⟩) (hw : Wk (fun x => x) σ τ) (hny : getS τ.s y = none)
    (hnd : ∀ (i j : Nat) (p q : Int × AV), es[i]? = some p → es[j]? = some q → p.1 = q.1 → i = j)
    (hlt : tm < nt ∧ it < nt ∧ nx < nt ∧ ok < nt ∧ en < nt) (hne : tl ≠ tm ∧ tl ≠ it ∧ it ≠ tm ∧ nx ≠ it ∧ ok ≠ it ∧ en ≠ it ∧ nx ≠ tl ∧ ok ≠ tl ∧ en ≠ tl ∧ ok ≠ nx)
    (hkp : kp np tm = false ∧ kp np it = false ∧ kp np nx = false ∧ kp np ok = false ∧ kp np en = false) (hk1 : kp np' it = true) (hk2 : kp np' tl = true) (hnp : ∀ i, kp np i = true → kp np' i = true) (hd2 : okDst nt os2 = true) (hk3 : keepDst np' os2 = true)
    (h0 : Sh { n := τ.n, t := (it, .undef) :: (tm, .undef) :: τ.t, s := τ.s } (st x0)) (hI0 : I x0) (hd0 : ∀ k, done x0 k = false)
    (hb : ∀ (x : S) (i : Nat) (k : Int) (v : AV), I x → es[i]? = some (k, v) → done x k = false → CWops P up nt (⟨some en, .entry (.tmp it), y4, s4, f4, none⟩ :: os2).toArray os2 { n := (st x).n, t := (en, .tup [.int .i64 k, v]) :: (ok, .bool true) :: (nx, .undef) :: (st x).t, s := (st x).s }
      fun σ' => CW P up np' nt body σ' fun e σ'' => (e = .normal ∨ e = .exit m) ∧ ∃ x', Sh σ'' (st x') ∧ I x' ∧ ∀ q, done x' q = (done x q || decide (q = k)))
    (hend : ∀ x, I x → (∀ (i : Nat) (p : Int × AV), es[i]? = some p → done x p.1 = true) → Q .normal { n := (st x).n + 1, t := (tl, .ref (st x).n [] 0) :: (ok, .bool false) :: (nx, .undef) :: (st x).t, s := ((st x).n, ⟨false, [.omap es]⟩) :: (st x).s }) :
    CW P up np nt (.seq (.region id0 #[⟨some tm, .move (.tmp tl), y0, s0, f0, none⟩, ⟨some it, .range mt (.tmp tm), y1, s1, f1, none⟩] false) (.block n (.loop (.seq (.region id1 #[⟨some nx, .next (.tmp it) false, y2, s2, f2, none⟩, ⟨some ok, .extract (.tmp nx) 0, y3, s3, f3, none⟩] false)
      (.seq (.cond (.tmp ok) .skip (.exit n)) (.block m (.seq (.region id2 (⟨some en, .entry (.tmp it), y4, s4, f4, none⟩ :: os2).toArray false) body))))))) σ Q := by
  intro A0 D0 w0 a w G R hu hh hr
  obtain ⟨l1, l2, l3, l4, l5⟩ := hlt
  obtain ⟨n1, n2, n3, n4, n5, n6, n7, n8, n9, n10⟩ := hne
  obtain ⟨q1, q2, q3, q4, q5⟩ := hkp
  have hmti := (htt mt i hmt).kind
  rw [hi] at hmti
  have hmti : P.underlying mt = some (.map kt e) := hmti
  obtain ⟨u, hu1, hu2⟩ := hh.slot (t := tl) (by rw [htl]; simp)
  rw [htl] at hu2
  obtain ⟨b, ents, clock, G1, k1, k2, k3⟩ := Lent.start hh hy hw hny hnd (tm := tm) (it := it) (tl := tl) l1 l2 n1 n2 htl u
  have hub := k1 u hu2.ref_inv.2.2
  obtain ⟨G2, hG2⟩ := h0 _ _ _ _ _ _ _ k3.h
  have k4 := k3.sh hG2 rfl rfl
  refine wp_seq (wp_region_list (wpList_val (v := u) (w' := w) rfl (by simp [execOp, eval_tmp hu1]) (wpList_val (v := .pointer (some ⟨w.heap.size, 0, none⟩)) (w' := w.alloc (.mapIter (some b) clock #[] clock)) rfl ?_ ?_)))
  · simp only [execOp]
    rw [eval_tmp (put_get (by rw [hh.size]; exact l1) rfl), hub]
    simp [run_range_map w mt kt e b ents clock hmti k2]
  refine wp_block ?_
  obtain ⟨least, least_spec⟩ := leastOf
  let p : Act → World → Nat → Prop := fun a' w' c => ∃ x G' ents' clock' seen last, I x ∧ toCome es (done x) = c ∧ Lent A0 D0 w0 nt it tl b w.heap.size clock (st x) es (done x) ents' clock' seen last a' w' G' ∧ Kept np a a'
  refine wp_loop (fun a w => ∃ n, p a w n) (fun a w => least (p a w)) ⟨_, x0, G2, ents, clock, #[], clock, hI0, rfl, ?_, kept_put (kept_put (Kept.refl np a) q1) q2⟩ fun a' w' hI => ?_
  · have : done x0 = fun _ => false := funext hd0
    rw [this]; exact k4
  obtain ⟨⟨x, G', ents', clock', seen, last, hx, hn, hL, hkept⟩, hmin⟩ := least_spec _ hI
  have hsz : a'.tmps.size = nt := hL.h.size
  rcases hL.next (P := P) y2 with ⟨hall, hrun⟩ | ⟨i', k, v, u', w1, seen', hik, hdk, hfr, hrun, hL1, hent⟩
  · refine wp_seq (wp_region_list (wpList_val (v := .tuple #[.bool false]) (w' := w') rfl (by simp [execOp, eval_tmp hL.sl, hrun]) (wpList_val (v := .bool false) (w' := w') rfl ?_ ?_)))
    · simp [execOp, eval_tmp (put_get (a := a') (v := .tuple #[.bool false]) (by rw [hsz]; exact l3) rfl), Instr.extract]
    have hP := (hL.h.put (d := some nx) (v := .undef) (u := .tuple #[.bool false]) (.fr _ _ (.undef _)) (fun i hi => by cases hi; exact l3)).put (d := some ok) (v := .bool false) (u := .bool false) (.fr _ _ (.bool _)) (fun i hi => by cases hi; exact l4)
    have hL2 := hL.sh hP (by rw [put_ne n5, put_ne n4]) (by rw [put_ne n8, put_ne n7])
    refine wp_seq (wp_cond_false (eval_tmp (put_get (by rw [put_size, hsz]; exact l4) rfl)) (wp_exit ?_))
    simp only [Exit.then, Exit.inBlock, if_true]
    exact hr .normal _ _ _ _ hL2.back (kept_put (kept_put hkept q3) q4) (hend x hx hall)
  · let p2 : Act → World → Prop := fun a5 w5 => (∃ n, p a5 w5 n) ∧ least (p a5 w5) < least (p a' w')
    have hP := (hL1.h.put (d := some nx) (v := .undef) (u := .tuple #[.bool true, .int .i64 k, u']) (.fr _ _ (.undef _)) (fun i hi => by cases hi; exact l3)).put (d := some ok) (v := .bool true) (u := .bool true) (.fr _ _ (.bool _)) (fun i hi => by cases hi; exact l4)
    have hL2 := hL1.sh hP (by rw [put_ne n5, put_ne n4]) (by rw [put_ne n8, put_ne n7])
    have hP3 := hL2.h.put (d := some en) (v := .tup [.int .i64 k, v]) (u := .tuple #[.int .i64 k, u']) (.fr _ _ (.tup [.int .i64 k, v] [.int .i64 k, u'] rfl (fun i av h => by
      match i with
      | 0 => simp at h; subst h; exact .int _ _
      | 1 => simp at h; subst h; exact hfr
      | i + 2 => simp at h))) (fun i hi => by cases hi; exact l5)
    have hL3 := hL2.sh hP3 (by rw [put_ne n6]) (by rw [put_ne n9])
    have key : ∀ R2 : Exit → Act → World → Prop, (up = true → LetsOut R2) → (∀ e a5 w5, (e = .normal ∨ e = .exit m) → p2 a5 w5 → R2 e a5 w5) → (Code.seq (.region id2 (⟨some en, .entry (.tmp it), y4, s4, f4, none⟩ :: os2).toArray false) body).wp P R2 ((a'.put (some nx) (.tuple #[.bool true, .int .i64 k, u'])).put (some ok) (.bool true)) w1 := by
      intro R2 hu2 hpost
      have hcw := hb x i' k v hx hik hdk
      refine wp_seq (wp_mono (wp_region_list (wpList_val (v := .tuple #[.int .i64 k, u']) (w' := w1) rfl (by simp [execOp, eval_tmp hL2.sl, hent]) (wpList_keep (a0 := _) hk3 (Kept.refl np' _) (hcw hd2 _ _ _ _ _ _ (fun e a4 w4 => match e with
        | .normal => ∃ σ' G4, Holds (fun k => A0 k ∨ k = b ∨ k = w.heap.size) (GFp G') w1 nt σ' a4 w4 G4 ∧ CW P up np' nt body σ' (fun e σ'' => (e = .normal ∨ e = .exit m) ∧ ∃ x', Sh σ'' (st x') ∧ I x' ∧ ∀ q, done x' q = (done x q || decide (q = k)))
        | e => R2 e a4 w4) (fun hu' => let ⟨a, w, h⟩ := hu2 hu'; ⟨a, w, h⟩) hL3.h (fun a4 w4 σ' G4 g1 g2 => ⟨σ', G4, g1, g2⟩))))) fun e a4 w4 he => ?_)
      cases e with
      | normal =>
        obtain ⟨⟨σ', G4, g1, g2⟩, g3⟩ := he
        have hL4 := hL3.sh g1 (g3 rfl it hk1) (g3 rfl tl hk2)
        refine hL4.run hk1 hk2 g2 hu2 fun e a5 w5 σ'' G5 hL5 hk5 ⟨he, x', hs, hI', hd'⟩ => hpost e a5 w5 he ?_
        obtain ⟨G6, hG6⟩ := hs _ _ _ _ _ _ _ hL5.h
        have hL6 := hL5.sh hG6 rfl rfl
        have hde : done x' = fun q => done x q || decide (q = k) := funext hd'
        have hp : p a5 w5 (toCome es (done x')) := ⟨x', G6, ents', clock', seen', clock', hI', rfl, by rw [hde]; exact hL6, ((kept_put (kept_put (kept_put hkept q3) q4) q5).trans fun i hi => g3 rfl i (hnp i hi)).trans fun i hi => hk5 i (hnp i hi)⟩
        refine ⟨⟨_, hp⟩, Nat.lt_of_le_of_lt ((least_spec _ ⟨_, hp⟩).2 _ hp) ?_⟩
        rw [← hn]
        exact toCome_lt hik hdk hd'
      | _ => exact he.1
    refine wp_seq (wp_region_list (wpList_val (v := .tuple #[.bool true, .int .i64 k, u']) (w' := w1) rfl (by simp [execOp, eval_tmp hL.sl, hrun]) (wpList_val (v := .bool true) (w' := w1) rfl ?_ ?_)))
    · simp [execOp, eval_tmp (put_get (a := a') (v := .tuple #[.bool true, .int .i64 k, u']) (by rw [hsz]; exact l3) rfl), Instr.extract]
    refine wp_seq (wp_cond_true (eval_tmp (put_get (by rw [put_size, hsz]; exact l4) rfl)) (wp_skip ?_))
    simp only [Exit.then]
    refine wp_block (key _ (letsOut_block (letsOut_then (letsOut_block hu))) fun e a5 w5 he h5 => ?_)
    rcases he with rfl | rfl
    · exact h5
    · simp only [Exit.inBlock, if_true]; exact h5
end
end Go.Ab
namespace Go.Ab
open Go Go.RowKit
section
variable {A0 D0 : Nat → Prop} {w0 : World} {nt : Nat} {σ τ : St} {a : Act} {w : World} {G : Nat → Option GR} {P : Program}
theorem mapdel_sub (k : Int) : ∀ es : List (Int × AV), (mapdel es k).Sublist es
  | [] => List.Sublist.refl _
  | (k0, v0) :: es => by
    simp only [mapdel]
    split
    · exact List.sublist_cons_self _ _
    · exact (mapdel_sub k es).cons_cons _
theorem Lent.delete {it tl b r since : Nat} {es : List (Int × AV)} {done : Int → Bool} {ents : Array MapEntry} {clock last : Nat} {seen : Array Nat} (h : Lent A0 D0 w0 nt it tl b r since σ es done ents clock seen last a w G) {mt kt e : TypeId} (hmt : P.underlying mt = some (.map kt e)) (hkt : P.underlying kt = some (.int .i64)) (q : Int) (ty : TypeId) :
    ∃ w' ents', (Builtin.delete_ #[mt, kt] ty #[.map (some b), .int .i64 q]).run P w = .ok (.tuple #[]) w' ∧ Lent A0 D0 w0 nt it tl b r since σ (mapdel es q) done ents' clock seen last a w' G := by
  have hbG : ¬ GFp G b := fun hg => h.h.inv.a0 b hg (.inr (.inl rfl))
  have hlt : b < w.heap.size := (Array.getElem?_eq_some_iff.1 h.mp.at_).1
  have h2 := h.mp.size
  have fin : ∀ (ents' : Array MapEntry) (g : Nat → Nat), (∀ j, (mapdel es q)[j]? = es[g j]?) → (∀ j, ents'[j]? = ents[g j]?) → (∀ i j, g i = g j → i = j) → ents'.size = (mapdel es q).length → StampOK ents' clock →
      Lent A0 D0 w0 nt it tl b r since σ (mapdel es q) done ents' clock seen last a { w with heap := w.heap.setIfInBounds b (.map ents' clock) } G := by
    intro ents' g e1 e2 e3 e4 e5
    have hw : ∀ k, k ≠ b → (w.heap.setIfInBounds b (.map ents' clock))[k]? = w.heap[k]? := fun k hk => Array.getElem?_setIfInBounds_ne (Ne.symm hk)
    have hself : (w.heap.setIfInBounds b (.map ents' clock))[b]? = some (.map ents' clock) := Array.getElem?_setIfInBounds_self_of_lt hlt
    have hsz : (w.heap.setIfInBounds b (.map ents' clock)).size = w.heap.size := Array.size_setIfInBounds
    have hown : ∀ k, ¬ Own (fun k => A0 k ∨ k = b ∨ k = r) G k → k ≠ b := fun k ho e => ho (.inl (.inr (.inl e)))
    refine ⟨h.h.re (fun k _ ho => hw k (hown k ho)) (fun k hk => hw k fun e => hbG (e ▸ hk)) (fun _ _ h => .inl h) h.h.inv.a0 (Fr.refl _ _) (fun _ h => .inl h) (fun k hk => ?_), ⟨h.fr.os, h.fr.tape, h.fr.output, ?_, fun k hk hd => ?_⟩, h.own, h.a0, h.bo, h.bA, h.ro, h.br,
      ⟨hself, e4, Nat.le_trans (mapdel_sub q es).length_le h.mp.len, fun j p hp => ?_, fun j p hp => ?_, e5⟩, ?_, fun x hx => ?_, h.s1, h.s2, fun j p f hp hf => ?_, h.sl, h.sm, fun i j p p' hi hj hk => ?_⟩
    · show k < (w.heap.setIfInBounds b _).size
      rw [hsz]; exact h.h.a0lt k hk
    · show w0.heap.size ≤ (w.heap.setIfInBounds b _).size
      rw [hsz]; exact h.fr.size
    · show (w.heap.setIfInBounds b _)[k]? = _
      rw [hw k (fun e => by subst e; rcases h.bo with hb | hb
                            · exact hd hb
                            · omega)]
      exact h.fr.block k hk hd
    · rw [e1] at hp; rw [e2]; exact h.mp.key _ p hp
    · rw [e1] at hp; rw [e2]; exact (h.mp.val _ p hp).keep (fun k _ ho => hw k (hown k ho)) (fun _ _ h => h)
    · show (w.heap.setIfInBounds b _)[r]? = _
      rw [hw r (Ne.symm h.br)]; exact h.it_
    · obtain ⟨i, hi⟩ := List.getElem?_of_mem hx
      rw [Array.getElem?_toList, e2] at hi
      exact h.old x (by rw [Array.mem_toList_iff]; exact Array.mem_of_getElem? hi)
    · rw [e1] at hp; rw [e2] at hf; exact h.dn _ p f hp hf
    · rw [e1] at hi hj
      exact e3 _ _ (h.nd _ _ p p' hi hj hk)
  have hrun0 : (Builtin.delete_ #[mt, kt] ty #[.map (some b), .int .i64 q]).run P w = ((Instr.findKey kt (.int .i64 q) ents.toList).run P w).andThen fun r w' =>
      (do match r with
        | some (i, _) => setObj b (.map (ents.eraseIdxIfInBounds i) clock)
        | none => setObj b (.map ents clock)
          pure (Value.tuple #[]) : Sem Value).run P w' := by
    have hck := checkKey_int (P := P) (w := w) (q := q) hkt ents.isEmpty 9999
    simp only [Builtin.delete_, List.getElem?_toArray, List.getElem?_cons_zero, List.getElem?_cons_succ, Sem.run_bind, run_underlying hmt, Result.andThen_ok, getObj_map h.mp.at_, hck]
    rfl
  rcases mapdel_spec (k := q) (es := es) (ents := ents.toList) (by simpa using h2) (by simpa using h.mp.key) 0 with ⟨i', u0, f1, f2, f3⟩ | ⟨f1, f2⟩
  · have hes : ents.eraseIdxIfInBounds i' = ents.eraseIdx i' (by omega) := by unfold Array.eraseIdxIfInBounds; rw [dif_pos (by omega)]
    refine ⟨_, ents.eraseIdxIfInBounds i', ?_, fin (ents.eraseIdxIfInBounds i') (fun j => if j < i' then j else j + 1) (fun j => by rw [f3, List.getElem?_eraseIdx]; split <;> rfl) (fun j => by rw [hes, Array.getElem?_eraseIdx]; split <;> rfl) (fun i j hij => by
      revert hij
      try simp only []
      split <;> split <;> omega) (by rw [f3, hes, Array.size_eraseIdx, List.length_eraseIdx]; simp [f2, h2]) (h.mp.st.erase _)⟩
    rw [hrun0, findKey_int hkt f1]
    simp only [Result.andThen_ok, Sem.run_bind, Nat.zero_add, setObj_map _ h.mp.at_]
    rfl
  · refine ⟨_, ents, ?_, fin ents (fun j => j) (fun j => by rw [f2]) (fun j => rfl) (fun i j h => h) (by rw [f2]; exact h2) h.mp.st⟩
    rw [hrun0, findKey_int hkt f1]
    simp only [Result.andThen_ok, Sem.run_bind, setObj_map _ h.mp.at_]
    rfl
end
end Go.Ab
namespace Go.Ab
open Go Go.RowKit
section
variable {P : Program} {TT : TTab} {up : Bool} {np nt : Nat} {σ τ : St} {Q : Exit → St → Prop}
theorem CW.mapFilter {S : Type} (htt : TTok P TT) {n m id0 id1 id2 id3 tl tm it nx ok en y c t1 t2 tk : Nat} {mt kt e y0 y1 y2 y3 y4 y5 y6 y7 : TypeId} {s0 s1 s2 s3 s4 s5 s6 s7 : String} {f0 f1 f2 f3 f4 f5 f6 f7 : Array Edge} {i ik : TI} {os2 : List Oper} {body : Code} (np' : Nat) (st : S → St) (es : S → List (Int × AV)) (done : S → Int → Bool) (I : S → Prop) (x0 : S) (τ : St)
    (hmt : TT mt = some i) (hi : i.kind = .map kt e) (hkt : TT kt = some ik) (hik' : ik.kind = .int .i64) (htl : getT σ.t tl = .ref y [] 0) (hy : getS σ.s y = some ⟨false, [.omap (es x0)]⟩) (hw : Wk (fun x => x) σ τ) (hny : getS τ.s y = none)
    (hnd : ∀ (i j : Nat) (p q : Int × AV), (es x0)[i]? = some p → (es x0)[j]? = some q → p.1 = q.1 → i = j)
    (hlt : tm < nt ∧ it < nt ∧ nx < nt ∧ ok < nt ∧ en < nt) (hltD : t1 < nt ∧ t2 < nt) (hneD : t1 ≠ it ∧ t2 ≠ it ∧ t1 ≠ tl ∧ t2 ≠ tl ∧ t1 ≠ t2 ∧ t1 ≠ tk) (hkpD : kp np t1 = false ∧ kp np t2 = false) (hne : tl ≠ tm ∧ tl ≠ it ∧ it ≠ tm ∧ nx ≠ it ∧ ok ≠ it ∧ en ≠ it ∧ nx ≠ tl ∧ ok ≠ tl ∧ en ≠ tl ∧ ok ≠ nx)
    (hkp : kp np tm = false ∧ kp np it = false ∧ kp np nx = false ∧ kp np ok = false ∧ kp np en = false) (hk1 : kp np' it = true) (hk2 : kp np' tl = true) (hnp : ∀ i, kp np i = true → kp np' i = true) (hd2 : okDst nt os2 = true) (hk3 : keepDst np' os2 = true)
    (h0 : Sh { n := τ.n, t := (it, .undef) :: (tm, .undef) :: τ.t, s := τ.s } (st x0)) (hI0 : I x0) (hd0 : ∀ k, done x0 k = false)
    (hb : ∀ (x : S) (i : Nat) (k : Int) (v : AV), I x → (es x)[i]? = some (k, v) → done x k = false → CWops P up nt (⟨some en, .entry (.tmp it), y4, s4, f4, none⟩ :: os2).toArray os2 { n := (st x).n, t := (en, .tup [.int .i64 k, v]) :: (ok, .bool true) :: (nx, .undef) :: (st x).t, s := (st x).s }
      fun σ' => CW P up np' nt body σ' fun e σ'' => e = .normal ∧ getT σ''.t tk = .int .i64 k ∧ ∃ (d : Bool) (x' : S), getT σ''.t c = .bool d ∧ Sh (if d = true then { n := σ''.n, t := (t2, .int .i64 k) :: (t1, .undef) :: σ''.t, s := σ''.s } else σ'') (st x') ∧ I x' ∧ (∀ q, done x' q = (done x q || decide (q = k))) ∧ es x' = (if d = true then mapdel (es x) k else es x))
    (hend : ∀ x, I x → (∀ (i : Nat) (p : Int × AV), (es x)[i]? = some p → done x p.1 = true) → Q .normal { n := (st x).n + 1, t := (tl, .ref (st x).n [] 0) :: (ok, .bool false) :: (nx, .undef) :: (st x).t, s := ((st x).n, ⟨false, [.omap (es x)]⟩) :: (st x).s }) :
    CW P up np nt (.seq (.region id0 #[⟨some tm, .move (.tmp tl), y0, s0, f0, none⟩, ⟨some it, .range mt (.tmp tm), y1, s1, f1, none⟩] false) (.block n (.loop (.seq (.region id1 #[⟨some nx, .next (.tmp it) false, y2, s2, f2, none⟩, ⟨some ok, .extract (.tmp nx) 0, y3, s3, f3, none⟩] false)
      (.seq (.cond (.tmp ok) .skip (.exit n)) (.block m (.seq (.region id2 (⟨some en, .entry (.tmp it), y4, s4, f4, none⟩ :: os2).toArray false) (Code.seq body (.cond (.tmp c) (.region id3 #[⟨some t1, .move (.tmp tl), y5, s5, f5, none⟩, ⟨some t2, .move (.tmp tk), y6, s6, f6, none⟩, ⟨none, .call ⟨.builtin .delete, #[.tmp t1, .tmp t2], #[mt, kt]⟩, y7, s7, f7, none⟩] false) .skip))))))))) σ Q := by
  intro A0 D0 w0 a w G R hu hh hr
  obtain ⟨l1, l2, l3, l4, l5⟩ := hlt
  obtain ⟨n1, n2, n3, n4, n5, n6, n7, n8, n9, n10⟩ := hne
  obtain ⟨q1, q2, q3, q4, q5⟩ := hkp
  obtain ⟨l6, l7⟩ := hltD
  obtain ⟨m1, m2, m3, m4, m5, m6⟩ := hneD
  obtain ⟨q6, q7⟩ := hkpD
  have hkti := (htt kt ik hkt).kind
  rw [hik'] at hkti
  have hkti : P.underlying kt = some (.int .i64) := hkti
  have hmti := (htt mt i hmt).kind
  rw [hi] at hmti
  have hmti : P.underlying mt = some (.map kt e) := hmti
  obtain ⟨u, hu1, hu2⟩ := hh.slot (t := tl) (by rw [htl]; simp)
  rw [htl] at hu2
  obtain ⟨b, ents, clock, G1, k1, k2, k3⟩ := Lent.start hh hy hw hny hnd (tm := tm) (it := it) (tl := tl) l1 l2 n1 n2 htl u
  have hub := k1 u hu2.ref_inv.2.2
  obtain ⟨G2, hG2⟩ := h0 _ _ _ _ _ _ _ k3.h
  have k4 := k3.sh hG2 rfl rfl
  refine wp_seq (wp_region_list (wpList_val (v := u) (w' := w) rfl (by simp [execOp, eval_tmp hu1]) (wpList_val (v := .pointer (some ⟨w.heap.size, 0, none⟩)) (w' := w.alloc (.mapIter (some b) clock #[] clock)) rfl ?_ ?_)))
  · simp only [execOp]
    rw [eval_tmp (put_get (by rw [hh.size]; exact l1) rfl), hub]
    simp [run_range_map w mt kt e b ents clock hmti k2]
  refine wp_block ?_
  obtain ⟨least, least_spec⟩ := leastOf
  let p : Act → World → Nat → Prop := fun a' w' c => ∃ x G' ents' clock' seen last, I x ∧ toCome (es x) (done x) = c ∧ Lent A0 D0 w0 nt it tl b w.heap.size clock (st x) (es x) (done x) ents' clock' seen last a' w' G' ∧ Kept np a a'
  refine wp_loop (fun a w => ∃ n, p a w n) (fun a w => least (p a w)) ⟨_, x0, G2, ents, clock, #[], clock, hI0, rfl, ?_, kept_put (kept_put (Kept.refl np a) q1) q2⟩ fun a' w' hI => ?_
  · have : done x0 = fun _ => false := funext hd0
    rw [this]; exact k4
  obtain ⟨⟨x, G', ents', clock', seen, last, hx, hn, hL, hkept⟩, hmin⟩ := least_spec _ hI
  have hsz : a'.tmps.size = nt := hL.h.size
  rcases hL.next (P := P) y2 with ⟨hall, hrun⟩ | ⟨i', k, v, u', w1, seen', hik, hdk, hfr, hrun, hL1, hent⟩
  · refine wp_seq (wp_region_list (wpList_val (v := .tuple #[.bool false]) (w' := w') rfl (by simp [execOp, eval_tmp hL.sl, hrun]) (wpList_val (v := .bool false) (w' := w') rfl ?_ ?_)))
    · simp [execOp, eval_tmp (put_get (a := a') (v := .tuple #[.bool false]) (by rw [hsz]; exact l3) rfl), Instr.extract]
    have hP := (hL.h.put (d := some nx) (v := .undef) (u := .tuple #[.bool false]) (.fr _ _ (.undef _)) (fun i hi => by cases hi; exact l3)).put (d := some ok) (v := .bool false) (u := .bool false) (.fr _ _ (.bool _)) (fun i hi => by cases hi; exact l4)
    have hL2 := hL.sh hP (by rw [put_ne n5, put_ne n4]) (by rw [put_ne n8, put_ne n7])
    refine wp_seq (wp_cond_false (eval_tmp (put_get (by rw [put_size, hsz]; exact l4) rfl)) (wp_exit ?_))
    simp only [Exit.then, Exit.inBlock, if_true]
    exact hr .normal _ _ _ _ hL2.back (kept_put (kept_put hkept q3) q4) (hend x hx hall)
  · let p2 : Act → World → Prop := fun a5 w5 => (∃ n, p a5 w5 n) ∧ least (p a5 w5) < least (p a' w')
    have hP := (hL1.h.put (d := some nx) (v := .undef) (u := .tuple #[.bool true, .int .i64 k, u']) (.fr _ _ (.undef _)) (fun i hi => by cases hi; exact l3)).put (d := some ok) (v := .bool true) (u := .bool true) (.fr _ _ (.bool _)) (fun i hi => by cases hi; exact l4)
    have hL2 := hL1.sh hP (by rw [put_ne n5, put_ne n4]) (by rw [put_ne n8, put_ne n7])
    have hP3 := hL2.h.put (d := some en) (v := .tup [.int .i64 k, v]) (u := .tuple #[.int .i64 k, u']) (.fr _ _ (.tup [.int .i64 k, v] [.int .i64 k, u'] rfl (fun i av h => by
      match i with
      | 0 => simp at h; subst h; exact .int _ _
      | 1 => simp at h; subst h; exact hfr
      | i + 2 => simp at h))) (fun i hi => by cases hi; exact l5)
    have hL3 := hL2.sh hP3 (by rw [put_ne n6]) (by rw [put_ne n9])
    have key : ∀ R2 : Exit → Act → World → Prop, (up = true → LetsOut R2) → (∀ e a5 w5, (e = .normal ∨ e = .exit m) → p2 a5 w5 → R2 e a5 w5) → (Code.seq (.region id2 (⟨some en, .entry (.tmp it), y4, s4, f4, none⟩ :: os2).toArray false) (Code.seq body (.cond (.tmp c) (.region id3 #[⟨some t1, .move (.tmp tl), y5, s5, f5, none⟩, ⟨some t2, .move (.tmp tk), y6, s6, f6, none⟩, ⟨none, .call ⟨.builtin .delete, #[.tmp t1, .tmp t2], #[mt, kt]⟩, y7, s7, f7, none⟩] false) .skip))).wp P R2 ((a'.put (some nx) (.tuple #[.bool true, .int .i64 k, u'])).put (some ok) (.bool true)) w1 := by
      intro R2 hu2 hpost
      have hcw := hb x i' k v hx hik hdk
      refine wp_seq (wp_mono (wp_region_list (wpList_val (v := .tuple #[.int .i64 k, u']) (w' := w1) rfl (by simp [execOp, eval_tmp hL2.sl, hent]) (wpList_keep (a0 := _) hk3 (Kept.refl np' _) (hcw hd2 _ _ _ _ _ _ (fun e a4 w4 => match e with
        | .normal => ∃ σ' G4, Holds (fun k => A0 k ∨ k = b ∨ k = w.heap.size) (GFp G') w1 nt σ' a4 w4 G4 ∧ CW P up np' nt body σ' (fun e σ'' => e = .normal ∧ getT σ''.t tk = .int .i64 k ∧ ∃ (d : Bool) (x' : S), getT σ''.t c = .bool d ∧ Sh (if d = true then { n := σ''.n, t := (t2, .int .i64 k) :: (t1, .undef) :: σ''.t, s := σ''.s } else σ'') (st x') ∧ I x' ∧ (∀ q, done x' q = (done x q || decide (q = k))) ∧ es x' = (if d = true then mapdel (es x) k else es x))
        | e => R2 e a4 w4) (fun hu' => let ⟨a, w, h⟩ := hu2 hu'; ⟨a, w, h⟩) hL3.h (fun a4 w4 σ' G4 g1 g2 => ⟨σ', G4, g1, g2⟩))))) fun e a4 w4 he => ?_)
      cases e with
      | normal =>
        obtain ⟨⟨σ', G4, g1, g2⟩, g3⟩ := he
        have hL4 := hL3.sh g1 (g3 rfl it hk1) (g3 rfl tl hk2)
        refine wp_seq (hL4.run hk1 hk2 g2 (letsOut_then hu2) fun e a5 w5 σ'' G5 hL5 hk5 ⟨he, hek, d, x', hec, hs, hI', hd', hes⟩ => ?_)
        subst he
        simp only [Exit.then]
        have hkx : Kept np a a5 := ((kept_put (kept_put (kept_put hkept q3) q4) q5).trans fun i hi => g3 rfl i (hnp i hi)).trans fun i hi => hk5 i (hnp i hi)
        have hde : done x' = fun q => done x q || decide (q = k) := funext hd'
        obtain ⟨vc, hvc1, hvc2⟩ := hL5.h.slot (t := c) (by rw [hec]; simp)
        rw [hec] at hvc2
        have hvc := bool_of hvc2
        have hlt5 : toCome (es x') (done x') < toCome (es x) (done x) := by
          refine Nat.lt_of_le_of_lt ?_ (toCome_lt hik hdk hd')
          rw [hes]
          split
          · exact ((mapdel_sub k (es x)).filter _).length_le
          · exact Nat.le_refl _
        have fin : ∀ a6 w6 ents6 G6, Lent A0 D0 w0 nt it tl b w.heap.size clock (st x') (es x') (done x') ents6 clock' seen' clock' a6 w6 G6 → Kept np a a6 → R2 .normal a6 w6 := fun a6 w6 ents6 G6 hL6 hk6 => by
          have hp : p a6 w6 (toCome (es x') (done x')) := ⟨x', G6, ents6, clock', seen', clock', hI', rfl, hL6, hk6⟩
          exact hpost _ _ _ (.inl rfl) ⟨⟨_, hp⟩, Nat.lt_of_le_of_lt ((least_spec _ ⟨_, hp⟩).2 _ hp) (by rw [← hn]; exact hlt5)⟩
        subst hvc
        cases d with
        | false =>
          refine wp_cond_false (eval_tmp hvc1) (wp_skip ?_)
          simp only [Bool.false_eq_true, if_false] at hs hes
          obtain ⟨G6, hG6⟩ := hs _ _ _ _ _ _ _ hL5.h
          have hL6 := hL5.sh hG6 rfl rfl
          exact fin _ _ _ _ (by rw [hes, hde]; exact hL6) hkx
        | true =>
          simp only [if_true] at hs hes
          obtain ⟨vk, hvk1, hvk2⟩ := hL5.h.slot (t := tk) (by rw [hek]; simp)
          rw [hek] at hvk2
          have hvk := hvk2.int_inv
          subst hvk
          have hP6 := (hL5.h.put (d := some t1) (v := .undef) (u := .map (some b)) (.fr _ _ (.undef _)) (fun i hi => by cases hi; exact l6)).put (d := some t2) (v := .int .i64 k) (u := .int .i64 k) (.fr _ _ (.int _ _)) (fun i hi => by cases hi; exact l7)
          have hL6 := hL5.sh hP6 (by rw [put_ne m2, put_ne m1]) (by rw [put_ne m4, put_ne m3])
          obtain ⟨w7, ents7, hrun7, hL7⟩ := hL6.delete hmti hkti k y7
          have hs5 := hL5.h.size
          refine wp_cond_true (eval_tmp hvc1) (wp_region_list (wpList_val (v := .map (some b)) (w' := w5) rfl (by simp [execOp, eval_tmp hL5.sm]) (wpList_val (v := .int .i64 k) (w' := w5) rfl ?_ (wpList_val (v := .tuple #[]) (w' := w7) rfl ?_ ?_))))
          · simp only [execOp]
            rw [eval_tmp (by rw [put_ne m6]; exact hvk1)]
            rfl
          · have ev1 : ((a5.put (some t1) (.map (some b))).put (some t2) (.int .i64 k)).eval (.tmp t1) = .map (some b) := eval_tmp (by rw [put_ne (Ne.symm m5)]; exact put_get (by rw [hs5]; exact l6) rfl)
            have ev2 : ((a5.put (some t1) (.map (some b))).put (some t2) (.int .i64 k)).eval (.tmp t2) = .int .i64 k := eval_tmp (put_get (by rw [put_size, hs5]; exact l7) rfl)
            simp [execOp, resolve, invoke, builtin, ev1, ev2, hrun7]
          · obtain ⟨G8, hG8⟩ := hs _ _ _ _ _ _ _ hL7.h
            have hL8 := hL7.sh hG8 rfl rfl
            exact fin _ _ _ _ (by rw [hes, hde]; exact hL8) (kept_put (kept_put hkx q6) q7)
      | _ => exact he.1
    refine wp_seq (wp_region_list (wpList_val (v := .tuple #[.bool true, .int .i64 k, u']) (w' := w1) rfl (by simp [execOp, eval_tmp hL.sl, hrun]) (wpList_val (v := .bool true) (w' := w1) rfl ?_ ?_)))
    · simp [execOp, eval_tmp (put_get (a := a') (v := .tuple #[.bool true, .int .i64 k, u']) (by rw [hsz]; exact l3) rfl), Instr.extract]
    refine wp_seq (wp_cond_true (eval_tmp (put_get (by rw [put_size, hsz]; exact l4) rfl)) (wp_skip ?_))
    simp only [Exit.then]
    refine wp_block (key _ (letsOut_block (letsOut_then (letsOut_block hu))) fun e a5 w5 he h5 => ?_)
    rcases he with rfl | rfl
    · exact h5
    · simp only [Exit.inBlock, if_true]; exact h5
end
end Go.Ab
