/-
  What a machine's memory holds of plain values, and that each operation, block, loop and call of the model turns such a state as told. No condition but those of each theorem.
-/
import Derived.WalkKit
import Derived.Below
import Derived.Test.YtgmegmfbedgabaaFa
import Derived.Test.YtgmegmfbedgabaaFb
set_option linter.unusedVariables false
set_option linter.unusedSimpArgs false
namespace Go.Ab
open Go Go.RowKit
def newR (σ : St) (d : Option Tmp) (v : AV) : Option Root → St
  | none => σ.put d v
  | some r => St.put { n := σ.n + 1, t := σ.t, s := (σ.n, r) :: σ.s } d v
def tiOK (i : TI) : Bool := i.kind.agg || i.size == 1
def notIface (i : TI) : Bool := match i.kind with | .iface _ => false | _ => true
def rLoad (TT : TTab) (σ : St) (t : Nat) (a : AV) : Option (AV × Option Root) :=
  match TT t with
  | some i => if tiOK i = true then (match a with
    | .lv y p q => match getS σ.s y with
      | some r => if p ≠ [] ∨ r.box = true then (match rowOf r.cells p with
        | some row => if q + i.size ≤ row.length then some (mkV i (ldc y p q ((row.drop q).take i.size)), none) else none
        | none => none) else none
      | none => none
    | .fp l => if i.size ≤ l.length then some (mkV i (l.take i.size), none) else none
    | _ => none) else none
  | none => none
def rFieldAddr (TT : TTab) (s f : Nat) (a : AV) : Option (AV × Option Root) :=
  match TT s with
  | some i => match i.kind with
    | .struct fs => match fs[f]? with
      | some (T, off) => match TT T with
        | some j => if 0 < j.size then (match a with
          | .lv y p q => some (.lv y p (q + off), none)
          | .fp l => some (.fp (l.drop off), none)
          | _ => none) else none
        | none => none
      | none => none
    | _ => none
  | none => none
def rField (TT : TTab) (s f : Nat) (a : AV) : Option (AV × Option Root) :=
  match TT s with
  | some i => match i.kind with
    | .struct fs => match fs[f]? with
      | some (T, off) => match TT T with
        | some j => if tiOK j = true then (match a with
          | .agg l => if off + j.size ≤ l.length then some (mkV j ((l.drop off).take j.size), none) else none
          | _ => none) else none
        | none => none
      | none => none
    | _ => none
  | none => none
def rIndexAddr (TT : TTab) (σ : St) (t : Nat) (a b : AV) : Option (AV × Option Root) :=
  match TT t with
  | some i => match i.kind with
    | .slice e => match TT e with
      | some j => if 0 < j.size then (match a with
        | .sl n l => match b with
          | .int _ q => if n = j.size ∧ 0 ≤ q then (match l[q.toNat]? with
            | some el => some (.fp el, none)
            | none => none) else none
          | _ => none
        | .ref y p c => match b with
          | .int _ q => match cellAtB σ y p c with
            | .own n es => if n = j.size ∧ 0 ≤ q ∧ q.toNat < es.length then some (.lv y (p ++ [(c, q.toNat)]) 0, none) else none
            | _ => none
          | _ => none
        | _ => none) else none
      | none => none
    | .array n e => match TT e with
      | some j => (match b with
        | .int _ q => if 0 ≤ q ∧ q < (n : Int) then (match a with
          | .lv y p c => some (.lv y p (c + q.toNat * j.size), none)
          | .fp l => some (.fp (l.drop (q.toNat * j.size)), none)
          | _ => none) else none
        | _ => none)
      | none => none
    | _ => none
  | none => none
def rIndex (TT : TTab) (t : Nat) (a b : AV) : Option (AV × Option Root) :=
  match TT t with
  | some i => match i.kind with
    | .str => match a with
      | .str s => match b with
        | .int _ q => if 0 ≤ q then (match s.data.toList[q.toNat]? with
          | some c => some (.int .u8 c.toNat, none)
          | none => none) else none
        | _ => none
      | _ => none
    | .array n e => match TT e with
      | some j => if tiOK j = true then (match a with
        | .agg l => match b with
          | .int _ q => if (0 ≤ q ∧ q < (n : Int)) ∧ q.toNat * j.size + j.size ≤ l.length then some (mkV j ((l.drop (q.toNat * j.size)).take j.size), none) else none
          | _ => none
        | _ => none) else none
      | none => none
    | _ => none
  | none => none
def eqKindB (TT : TTab) (t : Nat) : AV → Bool
  | .nilp | .lv _ _ _ | .fp _ => (match TT t with | some i => (match i.kind with | .ptr _ => true | _ => false) | none => false)
  | .nilsl => (match TT t with | some i => (match i.kind with | .slice _ => true | _ => false) | none => false)
  | .bool _ => (match TT t with | some i => (match i.kind with | .bool => true | _ => false) | none => false)
  | _ => true
theorem eqKindB_ok {P : Program} {TT : TTab} (htt : TTok P TT) {t : Nat} {a b : AV} (h : eqKindB TT t a = true) : eqKind P t a b := by
  have key : ∀ (f : TK → Bool), (match TT t with | some i => f i.kind | none => false) = true → ∃ i, TT t = some i ∧ f i.kind = true := by
    intro f h
    cases ht : TT t with
    | none => rw [ht] at h; cases h
    | some i => rw [ht] at h; exact ⟨i, rfl, h⟩
  cases a <;> simp only [eqKindB, eqKind] at h ⊢
  all_goals
    split at h
    · rename_i i ht
      have hk := (htt t i ht).kind
      split at h
      · rename_i hi
        rw [hi] at hk
        first | exact hk | exact ⟨_, hk⟩
      · cases h
    · cases h
def rLookup (TT : TTab) (σ : St) (t : Nat) (m k : AV) (ok : Bool) : Option (AV × Option Root) :=
  match TT t with
  | some i => match i.kind with
    | .map kt e => match TT kt with
      | some ik => match ik.kind with
        | .int .i64 => match TT e with
          | some j => match mapOf σ m with
            | some es => match k with
              | .int .i64 q => some (match maplk es q with
                | some v => if ok = true then .tup [v, .bool true] else v
                | none => if ok = true then .tup [mkV j j.zero, .bool false] else mkV j j.zero, none)
              | _ => none
            | none => none
          | none => none
        | _ => none
      | none => none
    | _ => none
  | none => none
def rAssert (TT : TTab) (t : Nat) (a : AV) (ok : Bool) : Option (AV × Option Root) :=
  match TT t with
  | some i => if notIface i = true then (match a with
    | .ifc u v => if u = t then some (if ok = true then .tup [v, .bool true] else v, none) else if ok = true then some (.tup [mkV i i.zero, .bool false], none) else none
    | .nili => if ok = true then some (.tup [mkV i i.zero, .bool false], none) else none
    | _ => none) else none
  | none => none
def rBuild (TT : TTab) (σ : St) (t : Nat) (parts : List (Nat × Operand)) : Option (AV × Option Root) :=
  match TT t with
  | some i => match i.kind with
    | .struct fs => if allTT TT fs = true then (match fillB σ TT fs i.zero parts with
      | some cs => some (.agg cs, none)
      | none => none) else none
    | .array n e => match TT e with
      | some j => (match fillB σ TT (arrFs e j.size n 0) i.zero parts with
        | some cs => some (.agg cs, none)
        | none => none)
      | none => none
    | _ => none
  | none => none
def rBuildSlice (TT : TTab) (σ : St) (t n : Nat) (parts : List (Nat × Operand)) : Option (AV × Option Root) :=
  match TT t with
  | some i => match i.kind with
    | .slice e => match TT e with
      | some j => if 0 < j.size ∧ j.zero.length = j.size ∧ n * j.size ≤ 16777216 then (match fillR σ j.size (List.replicate n j.zero) parts with
        | some rows => some (.ref σ.n [] 0, some ⟨false, [.own j.size rows]⟩)
        | none => none) else none
      | none => none
    | _ => none
  | none => none
def isStr : TK → Bool
  | .struct _ => true
  | _ => false
def rBin (TT : TTab) (op : BinOp) (t : Nat) (a b : AV) : Option (AV × Option Root) :=
  match a with
  | .agg l => match b with
    | .agg l' => match TT t with
      | some i => if isStr i.kind = true then (match eqT TT 4 t (.agg l) (.agg l') with
        | some r => match eqB op r with
          | some z => some (z, none)
          | none => none
        | none => none) else none
      | none => none
    | _ => none
  | a => if eqKindB TT t a = true then (match abin op a b with
    | some r => some (r, none)
    | none => none) else none
def rop (TT : TTab) (σ : St) (o : Op) : Option (AV × Option Root) :=
  match o with
  | .move x => some (ev σ x, none)
  | .assign x => some (ev σ x, none)
  | .pick c x y => match ev σ c with
    | .bool b => some (if b = true then ev σ x else ev σ y, none)
    | _ => none
  | .nilCheck x => match ev σ x with
    | .lv y p q => some (.lv y p q, none)
    | .fp l => some (.fp l, none)
    | .func (.func g) a b => some (.func (.func g) a b, none)
    | _ => none
  | .fieldAddr s x f => rFieldAddr TT s f (ev σ x)
  | .field s x f => rField TT s f (ev σ x)
  | .indexAddr t x ix => rIndexAddr TT σ t (ev σ x) (ev σ ix)
  | .index t x ix => rIndex TT t (ev σ x) (ev σ ix)
  | .load t x => rLoad TT σ t (ev σ x)
  | .binOp op t x y _ => rBin TT op t (ev σ x) (ev σ y)
  | .unOp op _ x => match aun op (ev σ x) with
    | some r => some (r, none)
    | none => none
  | .makeInterface t x => match TT t with
    | some i => if notIface i = true then some (.ifc t (ev σ x), none) else none
    | none => none
  | .makeFunc fn first caps => some (.func fn (first.toList.map (ev σ)) (caps.toList.map (ev σ)), none)
  | .extract x k => match ev σ x with
    | .tup l => if k < l.length then some (l.getD k .undef, none) else none
    | _ => none
  | .typeAssert x _ t ok => rAssert TT t (ev σ x) ok
  | .lookup t x ix ok => rLookup TT σ t (ev σ x) (ev σ ix) ok
  | .build t parts => rBuild TT σ t parts.toList
  | .buildSlice t n parts => rBuildSlice TT σ t n parts.toList
  | .alloc t => match TT t with
    | some i => some (.lv σ.n [] 0, some ⟨true, i.zero⟩)
    | none => none
  | .makeMap _ none => some (.ref σ.n [] 0, some ⟨false, [.omap []]⟩)
  | _ => none
theorem tiOK_spec {i : TI} (h : tiOK i = true) (ha : i.kind.agg = false) : i.size = 1 := by
  simp [tiOK, ha] at h; exact h
theorem rop_sound {P : Program} {TT : TTab} (htt : TTok P TT) {o : Oper} {σ : St} {v : AV} {r : Option Root} (h : rop TT σ o.op = some (v, r)) : Snd P o σ (fun σ' => σ' = newR σ o.dst v r) := by
  cases ho : o.op <;> rw [ho] at h <;> simp only [rop] at h
  case move x => cases h; exact snd_move (.inl ho) rfl
  case assign x => cases h; exact snd_move (.inr ho) rfl
  case pick c x y =>
    split at h
    · rename_i b hb; cases h; exact snd_pick ho hb rfl
    · cases h
  case alloc t =>
    split at h
    · rename_i i hi; cases h; exact snd_alloc ho htt hi rfl
    · cases h
  case build t parts =>
    unfold rBuild at h
    split at h
    · rename_i i hi
      split at h
      · rename_i fs hk
        split at h
        · rename_i ha
          split at h
          · rename_i cs hcs; cases h; exact snd_build ho htt hi hk ha (by rw [hcs]; rfl)
          · cases h
        · cases h
      · rename_i n e hk
        split at h
        · rename_i j hj
          split at h
          · rename_i cs hcs; cases h; exact snd_buildA ho htt hi hk hj (by rw [hcs]; rfl)
          · cases h
        · cases h
      · cases h
    · cases h
  case buildSlice t n parts =>
    unfold rBuildSlice at h
    split at h
    · rename_i i hi
      split at h
      · rename_i e hk
        split at h
        · rename_i j hj
          split at h
          · rename_i hc
            split at h
            · rename_i rows hr; cases h; exact snd_buildSlice ho htt hi hk hj hc.1 hc.2.1 hc.2.2 (by rw [hr]; rfl)
            · cases h
          · cases h
        · cases h
      · cases h
    · cases h
  case load t x =>
    unfold rLoad at h
    split at h
    · rename_i i hi
      split at h
      · rename_i hok
        refine snd_load ho htt hi (tiOK_spec hok) ?_
        split at h
        · rename_i y p q hx
          split at h
          · rename_i r' hr
            split at h
            · rename_i hb
              split at h
              · rename_i row hrow
                split at h
                · rename_i hl
                  cases h
                  rw [hx]; simp only [hr, hrow]
                  exact ⟨fun hp => hb.resolve_left (fun h => h hp), hl, rfl⟩
                · cases h
              · cases h
            · cases h
          · cases h
        · rename_i l hx
          split at h
          · rename_i hl; cases h; rw [hx]; exact ⟨hl, rfl⟩
          · cases h
        · cases h
      · cases h
    · cases h
  case nilCheck x =>
    split at h
    · rename_i y p q hx; cases h; exact snd_nilCheck ho (by rw [hx]; trivial) (by rw [hx]; rfl)
    · rename_i l hx; cases h; exact snd_nilCheck ho (by rw [hx]; trivial) (by rw [hx]; rfl)
    · rename_i g a b hx; cases h; exact snd_nilCheck ho (by rw [hx]; trivial) (by rw [hx]; rfl)
    · cases h
  case binOp op t x y u =>
    unfold rBin at h
    split at h
    · rename_i l hx
      split at h
      · rename_i l' hy
        split at h
        · rename_i i hi
          split at h
          · rename_i hs
            split at h
            · rename_i r' hr
              split at h
              · rename_i z hz
                cases h
                cases hkk : i.kind <;> rw [hkk] at hs <;> simp only [isStr, Bool.false_eq_true, reduceCtorEq] at hs
                exact snd_eqS ho htt hi hkk hx hy hr hz rfl
              · cases h
            · cases h
          · cases h
        · cases h
      · cases h
    · split at h
      · rename_i hk
        split at h
        · rename_i r' hr; cases h; exact snd_binOp ho hr (eqKindB_ok htt hk) rfl
        · cases h
      · cases h
  case unOp op t x =>
    split at h
    · rename_i r' hr; cases h; exact snd_unOp ho hr rfl
    · cases h
  case makeInterface t x =>
    split at h
    · rename_i i hi
      split at h
      · rename_i hn; cases h; exact snd_makeInterface ho htt hi hn rfl
      · cases h
    · cases h
  case makeFunc fn first caps => cases h; exact snd_makeFunc ho rfl
  case makeMap t res =>
    cases res with
    | none => simp only [rop] at h; cases h; exact snd_makeMap ho rfl
    | some x => simp [rop] at h
  case fieldAddr s x f =>
    unfold rFieldAddr at h
    split at h
    · rename_i i hi
      split at h
      · rename_i fs hk
        split at h
        · rename_i T off hf
          split at h
          · rename_i j hj
            split at h
            · rename_i hs
              refine snd_fieldAddr ho htt hi hk hf hj hs ?_
              split at h
              · rename_i y p q hx; cases h; rw [hx]; rfl
              · rename_i l hx; cases h; rw [hx]; rfl
              · cases h
            · cases h
          · cases h
        · cases h
      · cases h
    · cases h
  case field s x f =>
    unfold rField at h
    split at h
    · rename_i i hi
      split at h
      · rename_i fs hk
        split at h
        · rename_i T off hf
          split at h
          · rename_i j hj
            split at h
            · rename_i hs
              refine snd_field ho htt hi hk hf hj (tiOK_spec hs) ?_
              split at h
              · rename_i l hx
                split at h
                · rename_i hl; cases h; rw [hx]; exact ⟨hl, rfl⟩
                · cases h
              · cases h
            · cases h
          · cases h
        · cases h
      · cases h
    · cases h
  case indexAddr t x ix =>
    unfold rIndexAddr at h
    split at h
    · rename_i i hi
      split at h
      · rename_i e hk
        split at h
        · rename_i j hj
          split at h
          · rename_i hs
            refine snd_indexAddr ho htt hi hk hj hs ?_
            split at h
            · rename_i n l hx
              split at h
              · rename_i k q hy
                split at h
                · rename_i hc
                  split at h
                  · rename_i el hel; cases h; rw [hx, hy]; simp only [hel]; exact ⟨hc.1, hc.2, rfl⟩
                  · cases h
                · cases h
              · cases h
            · rename_i y p c hx
              split at h
              · rename_i k q hy
                split at h
                · rename_i n es hcc
                  split at h
                  · rename_i hc; cases h; rw [hx, hy]; simp only [hcc]; exact ⟨hc.1, hc.2.1, hc.2.2, rfl⟩
                  · cases h
                · cases h
              · cases h
            · cases h
          · cases h
        · cases h
      · rename_i n e hk
        split at h
        · rename_i j hj
          split at h
          · rename_i k q hy
            split at h
            · rename_i h0
              refine snd_indexAddrArr ho htt hi hk hj hy h0 ?_
              split at h
              · rename_i y p c hx; cases h; rw [hx]; rfl
              · rename_i l hx; cases h; rw [hx]; rfl
              · cases h
            · cases h
          · cases h
        · cases h
      · cases h
    · cases h
  case index t x ix =>
    unfold rIndex at h
    split at h
    · rename_i i hi
      split at h
      · rename_i hk
        refine snd_strIndex ho htt hi hk ?_
        split at h
        · rename_i s hx
          split at h
          · rename_i k q hy
            split at h
            · rename_i hq
              split at h
              · rename_i c hc; cases h; rw [hx, hy]; simp only [hc]; exact ⟨hq, rfl⟩
              · cases h
            · cases h
          · cases h
        · cases h
      · rename_i n e hk
        split at h
        · rename_i j hj
          split at h
          · rename_i hok
            split at h
            · rename_i l hx
              split at h
              · rename_i k q hy
                split at h
                · rename_i h0
                  cases h
                  exact snd_indexArr ho htt hi hk hj hok hx hy h0.1 h0.2 rfl
                · cases h
              · cases h
            · cases h
          · cases h
        · cases h
      · cases h
    · cases h
  case lookup t x ix ok =>
    unfold rLookup at h
    split at h
    · rename_i i hi
      split at h
      · rename_i kt e hk
        split at h
        · rename_i ik hik
          split at h
          · rename_i hki
            split at h
            · rename_i j hj
              refine snd_lookup ho htt hi hk hik hki hj ?_
              split at h
              · rename_i es hes
                split at h
                · rename_i q hy; cases h; rw [hes, hy]; rfl
                · cases h
              · cases h
            · cases h
          · cases h
        · cases h
      · cases h
    · cases h
  case typeAssert x s t ok =>
    unfold rAssert at h
    split at h
    · rename_i i hi
      split at h
      · rename_i hn
        refine snd_typeAssert ho htt hi hn ?_
        split at h
        · rename_i u v' hx
          split at h
          · rename_i hu; cases h; rw [hx]; simp only [hu, if_true]; rfl
          · rename_i hu
            split at h
            · rename_i hok; cases h; rw [hx]; simp only [hu, if_false]; exact ⟨hok, rfl⟩
            · cases h
        · rename_i hx
          split at h
          · rename_i hok; cases h; rw [hx]; exact ⟨hok, rfl⟩
          · cases h
        · cases h
      · cases h
    · cases h
  case extract x k =>
    split at h
    · rename_i l hx
      split at h
      · rename_i hl; cases h; exact snd_extract ho (by rw [hx]; exact ⟨hl, rfl⟩)
      · cases h
    · cases h
  all_goals cases h
end Go.Ab
