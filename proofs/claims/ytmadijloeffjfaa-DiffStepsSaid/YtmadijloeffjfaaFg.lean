/-
  Arrays of two numbers, the greater of two, calls with memory of their own in drawn regions, operations that may stand behind later ones. No condition but those of each theorem.
-/
import Derived.Test.YtmadijloeffjfaaFf
set_option linter.unusedVariables false
set_option linter.unusedSimpArgs false
namespace Go.Ab
open Go Go.RowKit

/-! ### 39. Conversions of numbers, ends of strings -/
section
variable {P : Program} {TT : TTab} {up : Bool} {σ : St} {K : St → Prop} {o : Oper}
theorem snd_conv {s d : Nat} {x : Operand} {i j : TI} {k k' : IntKind} {n : Int} (ho : o.op = .convert s d x) (htt : TTok P TT) (hs : TT s = some i) (hik : i.kind = .int k) (hd : TT d = some j) (hjk : j.kind = .int k') (hx : ev σ x = .int k n)
    (hk : K (σ.put o.dst (.int k' (k'.wrap n)))) : Snd P o σ K := by
  have hti := (htt s i hs).kind
  rw [hik] at hti
  have hti : P.underlying s = some (.int k) := hti
  have htj := (htt d j hd).kind
  rw [hjk] at htj
  have htj : P.underlying d = some (.int k') := htj
  refine snd_val _ hk fun {_ _ _ _ a w _} h => ⟨.int k' (k'.wrap n), ?_, .fr _ _ (.int _ _)⟩
  have h1 := h.ev x
  rw [hx] at h1
  have h2 := h1.int_inv
  simp [execOp, ho, convert, run_underlying hti, run_underlying htj, h2, Conv.intToInt]
theorem CWops.conv {nt : Nat} {all : Array Oper} {os : List Oper} {d : Option Tmp} {ty : TypeId} {ps : String} {af : Array Edge} {gd : Option (Nat × Bool)} {s t : Nat} {x : Operand} {i j : TI} {k k' : IntKind} {n : Int} (htt : TTok P TT)
    (hw : wantd all σ ⟨d, .convert s t x, ty, ps, af, gd⟩ = some true) (hs : TT s = some i) (hik : i.kind = .int k) (hd : TT t = some j) (hjk : j.kind = .int k') (hx : ev σ x = .int k n)
    (hk : CWops P up nt all os (σ.put d (.int k' (k'.wrap n))) K) : CWops P up nt all (⟨d, .convert s t x, ty, ps, af, gd⟩ :: os) σ K :=
  CWops.step hw (Snd.up (snd_conv rfl htt hs hik hd hjk hx hk))
theorem snd_strCut {t : Nat} {x lo : Operand} {i : TI} {s : ByteArray} {k : IntKind} {q : Nat} (ho : o.op = .slice t x (some lo) none none) (htt : TTok P TT) (ht : TT t = some i) (hi : i.kind = .str) (hx : ev σ x = .str s) (hl : ev σ lo = .int k (q : Int)) (hq : q ≤ s.size)
    (hk : K (σ.put o.dst (.str (s.extract q s.size)))) : Snd P o σ K := by
  have hti := (htt t i ht).kind
  rw [hi] at hti
  have hti : P.underlying t = some .string := hti
  refine snd_val _ hk fun {_ _ _ _ a w _} h => ⟨.string (s.extract q s.size), ?_, .fr _ _ (.str _ ?_)⟩
  · have h1 := h.ev x
    rw [hx] at h1
    obtain ⟨h2, _⟩ := h1.str_inv
    have h3 := h.ev lo
    rw [hl] at h3
    have h4 := h3.int_inv
    have h5 : ((q : Int) ≤ (s.size : Int)) := by omega
    simp [execOp, ho, Instr.sliceAt, run_underlying hti, Instr.slice, Instr.sliceBounds, Instr.sliceBound, asIntOf_int, h2, h4, h5]
  · have h1 := h.ev x
    rw [hx] at h1
    obtain ⟨_, h2⟩ := h1.str_inv
    rw [ByteArray.size_extract]
    omega
theorem CWops.strCut {nt : Nat} {all : Array Oper} {os : List Oper} {d : Option Tmp} {ty : TypeId} {ps : String} {af : Array Edge} {gd : Option (Nat × Bool)} {t : Nat} {x lo : Operand} {i : TI} {s : ByteArray} {k : IntKind} {q : Nat} (htt : TTok P TT)
    (hw : wantd all σ ⟨d, .slice t x (some lo) none none, ty, ps, af, gd⟩ = some true) (ht : TT t = some i) (hi : i.kind = .str) (hx : ev σ x = .str s) (hl : ev σ lo = .int k (q : Int)) (hq : q ≤ s.size)
    (hk : CWops P up nt all os (σ.put d (.str (s.extract q s.size))) K) : CWops P up nt all (⟨d, .slice t x (some lo) none none, ty, ps, af, gd⟩ :: os) σ K :=
  CWops.step hw (Snd.up (snd_strCut rfl htt ht hi hx hl hq hk))
end
end Go.Ab

namespace Go.Ab
open Go Go.RowKit

/-! ### 40. Arrays of two numbers; the greater of two numbers -/
section
variable {P : Program} {TT : TTab} {up : Bool} {σ : St} {K : St → Prop} {o : Oper}
theorem snd_max {x y : Operand} {ts : Array Nat} {k : IntKind} {m n : Int} (ho : o.op = .call { callee := .builtin .max, args := #[x, y], argTypes := ts }) (hx : ev σ x = .int k m) (hy : ev σ y = .int k n)
    (hk : K (σ.put o.dst (.int k (max m n)))) : Snd P o σ K := by
  intro A0 D0 w0 nt a w G Q hd h
  have h1 := h.ev x
  rw [hx] at h1
  have h2 := h1.int_inv
  have h3 := h.ev y
  rw [hy] at h3
  have h4 := h3.int_inv
  refine wp_value (v := .int k (max m n)) (w' := w) ?_ ⟨_, G, h.put (.fr _ _ (.int _ _)) hd, hk⟩
  have e : (if m < n then n else m) = max m n := by
    rw [Int.max_def]; split <;> split <;> omega
  simp [execOp, ho, resolve, invoke, builtin, Builtin.max_, h2, h4, Builtin.max2, e]
theorem CWops.max2 {nt : Nat} {all : Array Oper} {os : List Oper} {d : Option Tmp} {ty : TypeId} {ps : String} {af : Array Edge} {gd : Option (Nat × Bool)} {x y : Operand} {ts : Array Nat} {k : IntKind} {m n : Int}
    (hw : wantd all σ ⟨d, .call { callee := .builtin .max, args := #[x, y], argTypes := ts }, ty, ps, af, gd⟩ = some true) (hx : ev σ x = .int k m) (hy : ev σ y = .int k n)
    (hk : CWops P up nt all os (σ.put d (.int k (max m n))) K) : CWops P up nt all (⟨d, .call { callee := .builtin .max, args := #[x, y], argTypes := ts }, ty, ps, af, gd⟩ :: os) σ K :=
  CWops.step hw (Snd.up (snd_max rfl hx hy hk))

theorem pair_inv {w : World} {A : Nat → Prop} {G : Nat → Option GR} {n : Nat} {k k' : IntKind} {a b : Int} {v : Value} (h : Rel w A G n (.agg [.int k a, .int k' b]) v) : v = .agg #[.int k a, .int k' b] := by
  obtain ⟨vs, rfl, h1, h2⟩ := h.agg_inv
  match vs, h1, h2 with
  | [p, q], _, h2 =>
    have e1 := (h2 0 _ rfl).int_inv
    have e2 := (h2 1 _ rfl).int_inv
    simp only [List.getD_cons_zero, List.getD_cons_succ] at e1 e2
    rw [e1, e2]
theorem pair_rel {w : World} {A : Nat → Prop} {G : Nat → Option GR} {n : Nat} {k k' : IntKind} {a b : Int} : Rel w A G n (.agg [.int k a, .int k' b]) (.agg #[.int k a, .int k' b]) := by
  refine .agg [.int k a, .int k' b] [.int k a, .int k' b] rfl fun i av hi => ?_
  match i, hi with
  | 0, hi => cases hi; exact .fr _ _ (.int _ _)
  | 1, hi => cases hi; exact .fr _ _ (.int _ _)
  | i + 2, hi => simp at hi

theorem snd_buildPair {t e : Nat} {x y : Operand} {i j : TI} {k : IntKind} {m n : Int} (ho : o.op = .build t #[(0, x), (1, y)]) (htt : TTok P TT) (ht : TT t = some i) (hi : i.kind = .array 2 e) (hz : i.zero.length = 2) (he : TT e = some j) (hj : j.size = 1) (hx : ev σ x = .int k m) (hy : ev σ y = .int k n)
    (hk : K (σ.put o.dst (.agg [.int k m, .int k n]))) : Snd P o σ K := by
  refine snd_val _ hk fun {A0 D0 w0 nt a w G} h => ⟨.agg #[.int k m, .int k n], ?_, pair_rel⟩
  have h1 := h.ev x
  rw [hx] at h1
  have h2 := h1.int_inv
  have h3 := h.ev y
  rw [hy] at h3
  have h4 := h3.int_inv
  have hti := (htt t i ht).kind
  rw [hi] at hti
  have hti : P.underlying t = some (.array 2 e) := hti
  obtain ⟨z, z1, z2, z3, _⟩ := (htt t i ht).run_zero w
  have hs := (htt e j he).run_size w
  rw [hj] at hs
  obtain ⟨cs, rfl⟩ := z3 (by rw [hi]; rfl)
  have hzl : cs.size = 2 := by have := z2.1; rw [hz] at this; simpa [Value.cells] using this.symm
  obtain ⟨c, d, rfl⟩ : ∃ c d, cs = #[c, d] := by
    match hc : cs, hzl with
    | ⟨[c, d]⟩, _ => exact ⟨c, d, rfl⟩
  simp only [execOp, ho, Instr.build, Sem.run_bind, z1, Result.andThen_ok, run_underlying hti, hs, Value.cells]
  simp [h2, h4, Instr.fill, Value.cells]
theorem CWops.buildPair {nt : Nat} {all : Array Oper} {os : List Oper} {d : Option Tmp} {ty : TypeId} {ps : String} {af : Array Edge} {gd : Option (Nat × Bool)} {t e : Nat} {x y : Operand} {i j : TI} {k : IntKind} {m n : Int} (htt : TTok P TT)
    (hw : wantd all σ ⟨d, .build t #[(0, x), (1, y)], ty, ps, af, gd⟩ = some true) (ht : TT t = some i) (hi : i.kind = .array 2 e) (hz : i.zero.length = 2) (he : TT e = some j) (hj : j.size = 1) (hx : ev σ x = .int k m) (hy : ev σ y = .int k n)
    (hk : CWops P up nt all os (σ.put d (.agg [.int k m, .int k n])) K) : CWops P up nt all (⟨d, .build t #[(0, x), (1, y)], ty, ps, af, gd⟩ :: os) σ K :=
  CWops.step hw (Snd.up (snd_buildPair rfl htt ht hi hz he hj hx hy hk))

theorem run_eqPair {t e : Nat} {i j : TI} {k : IntKind} {a b c d : Int} {w : World} (htt : TTok P TT) (ht : TT t = some i) (hi : i.kind = .array 2 e) (he : TT e = some j) (hjk : j.kind = .int k) (hj : j.size = 1) :
    (Op.equal t (.agg #[.int k a, .int k b]) (.agg #[.int k c, .int k d])).run P w = .ok (decide (a = c) && decide (b = d)) w := by
  have hti := (htt t i ht).kind
  rw [hi] at hti
  have hti : P.underlying t = some (.array 2 e) := hti
  have hte := (htt e j he).kind
  rw [hjk] at hte
  have hte : P.underlying e = some (.int k) := hte
  have hs := (htt e j he).run_size w
  rw [hj] at hs
  have hag := (htt e j he).run_isAgg w
  have hag : (isAgg e).run P w = .ok false w := by rw [hag, hjk]; rfl
  have p0 : ∀ (u v : Value), (part e #[u, v] 0).run P w = .ok u w := fun u v => by simp [part, hag]
  have p1 : ∀ (u v : Value), (part e #[u, v] 1).run P w = .ok v w := fun u v => by simp [part, hag]
  have key : ∀ d', (Op.equalIn (d' + 2) t (.agg #[.int k a, .int k b]) (.agg #[.int k c, .int k d])).run P w = .ok (decide (a = c) && decide (b = d)) w := by
    intro d'
    have q := fun (x y : Int) => run_equalIn_int w d' e k k x y hte
    obtain ⟨inf, z, g1, g2, _⟩ := (htt e j he).info
    rw [hj] at g2
    have hc : P.cellsOf e = 1 := by simp [Program.cellsOf, g1, g2]
    rw [run_equalIn_array w (d' + 1) _ _ hti g1, hc, show List.range 2 = [0, 1] from rfl]
    simp only [Op.eqItems, Sem.run_bind, Nat.zero_mul, Nat.one_mul, p0, p1, Result.andThen_ok, q]
    by_cases h1 : a = c <;> by_cases h2 : b = d <;> simp [h1, h2, p1, q]
  exact key 9998
theorem snd_eqPair {op : BinOp} {t e : Nat} {x y : Operand} {u : TypeId} {i j : TI} {k : IntKind} {a b c d : Int} {z : AV} (ho : o.op = .binOp op t x y u) (htt : TTok P TT) (hg : P.eqGuardType P.depth t = false) (ht : TT t = some i) (hi : i.kind = .array 2 e) (he : TT e = some j) (hjk : j.kind = .int k) (hj : j.size = 1)
    (hx : ev σ x = .agg [.int k a, .int k b]) (hy : ev σ y = .agg [.int k c, .int k d]) (hz : eqB op (decide (a = c) && decide (b = d)) = some z) (hK : K (σ.put o.dst z)) : Snd P o σ K := by
  refine snd_val z hK fun {A0 D0 w0 nt a' w G} hh => ?_
  have ha := hh.ev x
  have hb := hh.ev y
  rw [hx] at ha
  rw [hy] at hb
  have e1 := pair_inv ha
  have e2 := pair_inv hb
  have hrun := run_eqPair (P := P) (a := a) (b := b) (c := c) (d := d) (w := w) htt ht hi he hjk hj
  have hg' := run_eqGuard_agg (P := P) w op t x y #[.int k a, .int k b] #[.int k c, .int k d] hg
  rcases eqB_inv hz with ⟨rfl, rfl⟩ | ⟨rfl, rfl⟩
  · refine ⟨.bool _, ?_, .fr _ _ (.bool _)⟩
    simp only [execOp, ho, e1, e2, Sem.run_bind, hg', Result.andThen_ok]
    simp [binOp, hrun]
  · refine ⟨.bool _, ?_, .fr _ _ (.bool _)⟩
    simp only [execOp, ho, e1, e2, Sem.run_bind, hg', Result.andThen_ok]
    simp [binOp, hrun]
theorem CWops.eqPair {nt : Nat} {all : Array Oper} {os : List Oper} {dt : Option Tmp} {ty : TypeId} {ps : String} {af : Array Edge} {gd : Option (Nat × Bool)} {op : BinOp} {t e : Nat} {x y : Operand} {u : TypeId} {i j : TI} {k : IntKind} {a b c d : Int} {z : AV} (htt : TTok P TT)
    (hw : wantd all σ ⟨dt, .binOp op t x y u, ty, ps, af, gd⟩ = some true) (hg : P.eqGuardType P.depth t = false) (ht : TT t = some i) (hi : i.kind = .array 2 e) (he : TT e = some j) (hjk : j.kind = .int k) (hj : j.size = 1)
    (hx : ev σ x = .agg [.int k a, .int k b]) (hy : ev σ y = .agg [.int k c, .int k d]) (hz : eqB op (decide (a = c) && decide (b = d)) = some z)
    (hk : CWops P up nt all os (σ.put dt z) K) : CWops P up nt all (⟨dt, .binOp op t x y u, ty, ps, af, gd⟩ :: os) σ K :=
  CWops.step hw (Snd.up (snd_eqPair rfl htt hg ht hi he hjk hj hx hy hz hk))
end
end Go.Ab

namespace Go.Ab
open Go Go.RowKit

/-! ### 41. A call within a drawn region whose result has memory of its own -/
theorem killR_nil : ∀ a : AV, killR [] a = a
  | .ref y q c => by simp [killR, memB]
  | .lv y q c => by cases q <;> simp [killR, memB]
  | .agg l => by
    simp only [killR]
    exact congrArg AV.agg ((List.map_congr_left fun a ha => killR_nil a).trans (List.map_id' l))
  | .tup l => by
    simp only [killR]
    exact congrArg AV.tup ((List.map_congr_left fun a ha => killR_nil a).trans (List.map_id' l))
  | .func f a b => by
    simp only [killR]
    rw [(List.map_congr_left fun a ha => killR_nil a : a.map (fun a => killR [] a) = a.map fun a => a), (List.map_congr_left fun a ha => killR_nil a : b.map (fun a => killR [] a) = b.map fun a => a), List.map_id', List.map_id']
  | .ifc t a => by simp only [killR]; rw [killR_nil a]
  | .undef | .bool _ | .int _ _ | .str _ | .nilsl | .sl _ _ | .own _ _ | .nilp | .fp _ | .nilmap | .fmap _ | .omap _ | .iter _ _ | .nilfunc | .nili => by simp only [killR]
theorem delAll_nil (s : List (Nat × Root)) : delAll [] s = s := by
  induction s with
  | nil => rfl
  | cons q r ih => obtain ⟨j, v⟩ := q; simp [delAll, memB, ih]
theorem aft_nil {σ : St} {m : Nat} {rows : List (List AV)} {t : List (Nat × AV)} : aftS [] σ { n := 1, t := t, s := [(0, ⟨false, [.own m rows]⟩)] } = { n := σ.n + 1, t := σ.t, s := (σ.n, ⟨false, [.own m rows]⟩) :: σ.s } := by
  have e : killR [] = (fun a => a) := by funext a; exact killR_nil a
  have e1 : mapT (killR []) σ.t = σ.t := by rw [e]; simp [mapT]
  have e2 : mapS (killR []) (delAll [] σ.s) = σ.s := by rw [e, delAll_nil]; simp [mapS]
  simp only [aftS, e1, e2]
  simp [renS, mName, ren]

section
variable {P : Program} {TT : TTab} {up : Bool} {all : Array Oper} {σ0 : St} {K : List (Nat × AV) → Option Root → Prop}
theorem Seg.callN {os : List Oper} {t : List (Nat × AV)} {d : Option Tmp} {ty : TypeId} {pos : String} {af : Array Edge} {gd : Option (Nat × Bool)} {x : Operand} {xs : Array Operand} {ts : Array TypeId} {f : FuncId} {first caps args : List AV} {m : Nat} {rows : List (List AV)}
    (hp : GCall P up f args 0 [] (fun r σ' => r = .ref 0 [] 0 ∧ σ'.n = 1 ∧ σ'.s = [(0, ⟨false, [.own m rows]⟩)])) (hw : wantd all { σ0 with t := t } ⟨d, .call ⟨.value x, xs, ts⟩, ty, pos, af, gd⟩ = some true) (hx : ev { σ0 with t := t } x = .func (.func f) first caps)
    (ha : SubL (mName [] 0) 0 args (callL { σ0 with t := t } first xs.toList caps))
    (hk : Seg P up all σ0 os (putT t d (.ref σ0.n [] 0)) (some ⟨false, [.own m rows]⟩) K) : Seg P up all σ0 (⟨d, .call ⟨.value x, xs, ts⟩, ty, pos, af, gd⟩ :: os) t none K := by
  refine ⟨t, .ref σ0.n [] 0, some ⟨false, [.own m rows]⟩, fun _ => rfl, ⟨fun h => (by cases h), ?_⟩, .inr rfl, hk⟩
  intro σ' hl he hn
  have hn := hn rfl
  refine .inl ⟨by rw [wantd_congr (τ := { σ0 with t := t }) hl]; exact hw, ?_⟩
  have hev : ∀ y ∈ (Op.call ⟨.value x, xs, ts⟩).operands, ev σ' y = ev { σ0 with t := t } y := fun y hy => looks_ops (τ := { σ0 with t := t }) hl hy
  have hc : callL σ' first xs.toList caps = callL { σ0 with t := t } first xs.toList caps := callL_ev fun y hy => hev y (by simp [Op.operands, Call.operands]; right; simpa using hy)
  have hx' : ev σ' x = .func (.func f) first caps := by rw [hev x (by simp [Op.operands, Call.operands])]; exact hx
  refine snd_gcall [] rfl hx' hp List.nodup_nil (by simp [AllS]) (by simp [Names]) (fun y hy => by cases hy) (fun x hx => by cases hx) (by rw [hc]; exact ha) fun r σ'' hr => ?_
  obtain ⟨n'', t'', s''⟩ := σ''
  obtain ⟨rfl, h2, h3⟩ := hr
  simp only at h2 h3
  subst h2 h3
  rw [aft_nil]
  simp [newR, ren, mName, hn]
end
end Go.Ab

namespace Go.Ab
open Go Go.RowKit

/-! ### 42. A tree that is held by another variable's cell is frozen in both -/
theorem Sh.frzC {σ τ : St} (x j z d : Nat) {n : Nat} {rows : List (List AV)} (hzx : z ≠ x) (hc : cellAtB σ x [] j = .own n rows) (hz : cellAtB σ z [] d = .ref x [] j)
    (he : { σ with s := match getS σ.s x with
      | some r => match getS σ.s z with
        | some rz => updS (updS σ.s x { r with cells := putAt r.cells [] j (AV.own n rows).freeze }) z { rz with cells := putAt rz.cells [] d (AV.own n rows).freeze }
        | none => σ.s
      | none => σ.s } = τ) : Sh σ τ := by
  intro A0 D0 w0 nt a w G h
  subst he
  unfold cellAtB at hc
  split at hc
  · rename_i r hr
    simp only [rowOf] at hc
    have hcl : j < r.cells.length := by
      rcases Nat.lt_or_ge j r.cells.length with h | h
      · exact h
      · simp [List.getElem?_eq_none h] at hc
    have hrc : r.cells[j]? = some (.own n rows) := by
      rw [List.getElem?_eq_getElem hcl]
      simpa [List.getElem?_eq_getElem hcl] using hc
    have hrow : rowOf r.cells [] = some r.cells := rfl
    obtain ⟨g, hg, hb, hcs, hm⟩ := h.root hr
    obtain ⟨g0, hg0⟩ := cellAt hcs hcl
    have hgr : gRow g.cells [] = some g.cells := rfl
    have hoc : g0.val.oneCell' = true := (hm.mem j g0 hg0).oneCell
    have her : g0.er = .own n rows := by
      rcases hcs.cell j _ _ hrc hg0 with ⟨_, q2⟩ | ⟨q1, q2⟩
      · exact q2.symm
      · cases q2 with | fr _ _ q => cases q
    obtain ⟨m1, m2, m3⟩ := RowMem.same (g1 := .lf .undef g0.val) (.lf _ _ (.undef _) hoc) (.lf _ _) [] hm hgr hg0 rfl (fun k hk => by cases hk)
    have hoff := gPut_off (g1 := .lf .undef g0.val) rfl [] hm.sep hgr hg0
    have hfp : ∀ k, RFp { g with cells := gPut g.cells [] j (.lf .undef g0.val) } k → RFp g k := fun k hk => hk.imp id fun hk => (m2 k hk).resolve_right (fun hk => by cases hk)
    have hown : ∀ k, GFp (Gset G x (some { g with cells := gPut g.cells [] j (.lf .undef g0.val) })) k → GFp G k := by
      rintro k ⟨y, gy, hy, hk⟩
      by_cases e : y = x
      · subst e; rw [Gset_self] at hy; cases hy; exact ⟨y, g, hg, hfp k hk⟩
      · rw [Gset_ne e] at hy; exact ⟨y, gy, hy, hk⟩
    have hl0 : g0.leaf = false := by
      rcases hcs.cell j _ _ hrc hg0 with ⟨q1, _⟩ | ⟨q1, q2⟩
      · exact q1
      · cases q2 with | fr _ _ q => cases q
    have hfr : FR w (Own A0 (Gset G x (some { g with cells := gPut g.cells [] j (.lf .undef g0.val) }))) (AV.own n rows).freeze g0.val := by
      rw [← her]
      refine (hm.mem j g0 hg0).freeze (fun k _ hk => hk.imp id (hown k)) fun b hb hn => ?_
      have hbg : RFp g b := .inr ⟨j, g0, hg0, hb⟩
      rcases hn with hn | ⟨y, gy, hy, hk⟩
      · exact h.inv.a0 b ⟨x, g, hg, hbg⟩ hn
      · by_cases e : y = x
        · subst e; rw [Gset_self] at hy; cases hy
          rcases hk with hk | hk
          · exact hm.off b 0 (by simp only [GR.at_, Option.map_eq_some_iff]; exact ⟨b, hk, rfl⟩) ⟨j, g0, hg0, hb⟩
          · exact hoff b hk hb
        · rw [Gset_ne e] at hy; exact h.inv.sep y gy x g hy hg e b hk hbg
    have h2 := h.turn (w' := w) (r' := { r with cells := putAt r.cells [] j (AV.own n rows).freeze }) (g' := { g with cells := gPut g.cells [] j (.lf .undef g0.val) }) hr hg rfl rfl (gPut_len [] g.cells) (fun _ _ _ => rfl) ⟨rfl, rfl, rfl, Nat.le_refl _⟩ (fun b vs T _ hh => ⟨vs, hh, rfl⟩) hfp
      (m1.keep (fun _ _ _ => rfl) (fun k _ hk => hk.imp id (hown k)) (fun _ _ => rfl) (fun _ _ _ => rfl)) (fun y q c v hr => hr.turn hg hgr hg0 rfl (.inl rfl)) (fun y q c v hr => hr.turn hg hgr hg0 rfl) (fun hA hrel => ?_)
    · refine ⟨Gset G x (some { g with cells := gPut g.cells [] j (.lf .undef g0.val) }), ?_⟩
      unfold cellAtB at hz
      split at hz
      · rename_i rz hrz
        simp only [rowOf] at hz
        have hdl : d < rz.cells.length := by
          rcases Nat.lt_or_ge d rz.cells.length with h | h
          · exact h
          · simp [List.getElem?_eq_none h] at hz
        have hzc : rz.cells[d]? = some (.ref x [] j) := by
          rw [List.getElem?_eq_getElem hdl]
          simpa [List.getElem?_eq_getElem hdl] using hz
        obtain ⟨gz, hgz, hbz, hcz, hmz⟩ := h.root hrz
        obtain ⟨gd, hgd⟩ := cellAt hcz hdl
        have hval : gd.val = g0.val := by
          rcases hcz.cell d _ _ hzc hgd with ⟨q1, q2⟩ | ⟨_, q2⟩
          · have := tree_of_leaf q1; rw [← q2] at this; cases this
          · exact q2.ref_inv.2.2 g g.cells g0 hg rfl hg0 hl0
        have hgdl : gd.leaf = true := by
          rcases hcz.cell d _ _ hzc hgd with ⟨q1, q2⟩ | ⟨q1, _⟩
          · have := tree_of_leaf q1; rw [← q2] at this; cases this
          · exact q1
        have hG2 : Gset G x (some { g with cells := gPut g.cells [] j (.lf .undef g0.val) }) z = some gz := by rw [Gset_ne hzx]; exact hgz
        have hsz : getS (updS σ.s x { r with cells := putAt r.cells [] j (AV.own n rows).freeze }) z = some rz := by rw [getS_upd, if_neg hzx, hrz]
        simp only [hr, hrz]
        have hi := h2.inv
        refine ⟨⟨fun y => ?_, fun y ry gy hy hgy => ?_, fun y ry gy hy hgy => ?_, hi.row, hi.base, hi.sep, hi.lt, hi.a0⟩, h2.size, h2.defers, h2.tmp, h2.far, h2.fr, h2.own, h2.a0lt⟩
        · have := hi.dom y
          simp only at this ⊢
          rw [getS_upd]
          by_cases e : y = z
          · subst e; rw [if_pos rfl, hsz]; rw [hsz] at this; exact this
          · rw [if_neg e]; exact this
        · simp only [getS_upd] at hy
          by_cases e : y = z
          · subst e
            rw [if_pos rfl, if_neg hzx, hrz] at hy
            cases hy
            rw [hG2] at hgy; cases hgy
            exact hbz
          · rw [if_neg e] at hy
            exact hi.box y ry gy (by rw [getS_upd]; exact hy) hgy
        · simp only [getS_upd] at hy
          by_cases e : y = z
          · subst e
            rw [if_pos rfl, if_neg hzx, hrz] at hy
            cases hy
            rw [hG2] at hgy; cases hgy
            have hcz2 := hi.cells _ rz gz hsz hG2
            refine ⟨by simpa [putAt] using hcz2.len, fun c av gc hav hgc => ?_⟩
            simp only [putAt] at hav
            rcases set_some hav with ⟨rfl, rfl⟩ | ⟨_, hav⟩
            · rw [hgd] at hgc; cases hgc
              exact .inr ⟨hgdl, .fr _ _ (by rw [hval]; exact hfr)⟩
            · exact hcz2.cell c av gc hav hgc
          · rw [if_neg e] at hy
            exact hi.cells y ry gy (by rw [getS_upd]; exact hy) hgy
      · cases hz
    · have hc := cells_put (f := id) (p := []) (j := j) (av := (AV.own n rows).freeze) (g' := .lf .undef g0.val) hcs hm hrow hrel (fun _ _ => rfl) (.inr (.inl ⟨rfl, rfl, .fr _ _ hfr⟩))
      rw [List.map_id] at hc; exact hc
  · cases hc
end Go.Ab

namespace Go.Ab
open Go Go.RowKit

/-! ### 43. Operations that may stand behind later ones, where the order is open -/
def needsBut (ops : List Oper) (Fl : List Nat) : Nat → List Nat → Bool
  | 0, _ => true
  | i + 1, m => if memB i m = true then needsBut ops Fl i (match ops[i]? with | some o => bnd o ++ m | none => m) else memB i Fl && needsBut ops Fl i m
def midOK (ops : List Oper) (Fl : List Nat) : Nat → List Oper → Bool
  | _, [] => true
  | j, o :: os => needsBut ops Fl j (bnd o) && midOK ops Fl (j + 1) os
def fltOK (Fl : List Nat) : Nat → List Oper → Bool
  | _, [] => true
  | i, o :: os => (!memB i Fl || (plainB o.op && o.dst.isSome)) && fltOK Fl (i + 1) os
def segChkF (k m : Nat) (Fl : List Nat) (ops : Array Oper) : Bool :=
  ((edgesDown 0 ops.toList && segOK ops (ops.toList.take k) (ops.toList.take k)) && (midOK ops.toList Fl k ((ops.toList.drop k).take (m - k)) && tailOK ops.toList m (ops.toList.drop m))) && (fltOK Fl 0 ops.toList && Fl.all fun i => Nat.blt i k)

theorem needsBut_spec {ops : Array Oper} {Fl : List Nat} {listed : Array Bool} (hc : Closed ops listed) : ∀ (j : Nat) (m : List Nat), (∀ x ∈ m, listed.getD x false = true) → needsBut ops.toList Fl j m = true → ∀ i, i < j → i ∉ Fl → listed.getD i false = true
  | 0, m, _, _, i, hi, _ => by omega
  | j + 1, m, hm, h, i, hi, hf => by
    simp only [needsBut] at h
    split at h
    · rename_i hj
      have hj := hm j (memB_iff.1 hj)
      by_cases hij : i = j
      · subst hij; exact hj
      · refine needsBut_spec hc j _ ?_ h i (by omega) hf
        intro x hx
        split at hx
        · rename_i o ho
          rcases List.mem_append.1 hx with hx | hx
          · exact hc j o (by rw [← Array.getElem?_toList]; exact ho) hj x hx
          · exact hm x hx
        · exact hm x hx
    · simp only [Bool.and_eq_true] at h
      by_cases hij : i = j
      · subst hij; exact absurd (memB_iff.1 h.1) hf
      · exact needsBut_spec hc j m hm h.2 i (by omega) hf
theorem midOK_spec {ops : List Oper} {Fl : List Nat} : ∀ {k : Nat} {os : List Oper}, midOK ops Fl k os = true → ∀ i o, os[i]? = some o → needsBut ops Fl (k + i) (bnd o) = true
  | k, [], _, i, o, hi => by simp at hi
  | k, o :: os, h, i, o', hi => by
    simp only [midOK, Bool.and_eq_true] at h
    cases i with
    | zero => simp at hi; subst hi; exact h.1
    | succ i =>
      have := midOK_spec h.2 i o' (by simpa using hi)
      rw [show k + (i + 1) = k + 1 + i by omega]; exact this
theorem fltOK_spec {Fl : List Nat} : ∀ {k : Nat} {os : List Oper}, fltOK Fl k os = true → ∀ i o, os[i]? = some o → k + i ∈ Fl → plainB o.op = true ∧ o.dst.isSome = true
  | k, [], _, i, o, hi, _ => by simp at hi
  | k, o :: os, h, i, o', hi, hf => by
    simp only [fltOK, Bool.and_eq_true] at h
    cases i with
    | zero =>
      simp at hi; subst hi
      have := h.1
      rw [memB_iff.2 (show k ∈ Fl by simpa using hf)] at this
      simpa using this
    | succ i => exact fltOK_spec h.2 i o' (by simpa using hi) (by rw [show k + 1 + i = k + (i + 1) by omega]; exact hf)

def Like (D : List Nat) (σ τ : St) : Prop := τ.n = σ.n ∧ (∀ y, getS τ.s y = getS σ.s y) ∧ ∀ x, x ∉ D → getT τ.t x = getT σ.t x
def StepF (P : Program) (up : Bool) (all : Array Oper) (D : List Nat) (o : Oper) (σ σ2 : St) : Prop :=
  (∀ x ∈ D, getT σ2.t x = getT σ.t x) ∧ ∀ τ, Like D σ τ → wantd all τ o = some true ∧ SndU P up o τ (fun τ' => Like D σ2 τ' ∧ ∀ x ∈ D, getT τ'.t x = getT τ.t x)
def Flo (P : Program) (up : Bool) (all : Array Oper) (fl : List Oper) (σ : St) : Prop := ∀ o ∈ fl, ∀ d, o.dst = some d → Stab P up all o σ.t σ (getT σ.t d) none
def Mid (P : Program) (up : Bool) (all : Array Oper) (D : List Nat) (fl : List Oper) : List Oper → St → (St → Prop) → Prop
  | [], σ, K => Flo P up all fl σ ∧ K σ
  | o :: os, σ, K => Flo P up all fl σ ∧ ∃ σ2, StepF P up all D o σ σ2 ∧ Mid P up all D fl os σ2 K
theorem Mid.flo {P : Program} {up : Bool} {all : Array Oper} {D : List Nat} {fl : List Oper} {os : List Oper} {σ : St} {K : St → Prop} (h : Mid P up all D fl os σ K) : Flo P up all fl σ := by
  cases os with
  | nil => exact h.1
  | cons o os => exact h.1
def dstsF (ops : Array Oper) (Fl : List Nat) : List Nat := Fl.filterMap fun i => match ops.toList[i]? with | some o => o.dst | none => none
def opsF (ops : Array Oper) (Fl : List Nat) : List Oper := Fl.filterMap fun i => ops.toList[i]?

section
variable {P : Program} {up : Bool} {nt : Nat} {ops : Array Oper} {Q : Exit → Act → World → Prop}

theorem put_t {τ : St} {d : Option Nat} {v : AV} (x : Nat) : getT (τ.put d v).t x = if d = some x then v else getT τ.t x := by
  unfold St.put
  split
  · simp only [getT, Option.some.injEq]
  · simp
theorem put_ns {τ : St} {d : Option Nat} {v : AV} : (τ.put d v).n = τ.n ∧ (τ.put d v).s = τ.s := by
  unfold St.put; split <;> exact ⟨rfl, rfl⟩
theorem dst_lt (hd : okDst nt ops.toList = true) : ∀ (i : Nat) (o : Oper), ops[i]? = some o → ∀ d, o.dst = some d → d < nt := by
  have key : ∀ {os : List Oper}, okDst nt os = true → ∀ o ∈ os, ∀ d, o.dst = some d → d < nt := by
    intro os
    induction os with
    | nil => intro _ o ho; cases ho
    | cons b os ih =>
      intro h o ho
      obtain ⟨h1, h2⟩ := okDst_cons h
      rcases List.mem_cons.1 ho with rfl | ho
      · exact h1
      · exact ih h2 o ho
  intro i o ho
  exact key hd o (List.mem_of_getElem? (by rw [Array.getElem?_toList]; exact ho))

theorem any_mid {A0 D0 : Nat → Prop} {w0 : World} {k m : Nat} {Fl : List Nat} (hkm : k ≤ m) (hms : m ≤ ops.size) (hchk : segChkF k m Fl ops = true) (hd : okDst nt ops.toList = true) (hu : up = true → LetsOut Q) :
    ∀ (fuel j : Nat) (listed : Array Bool) (a : Act) (w : World) (σ σ' : St) (G : Nat → Option GR) (R : Nat → Prop), listed.size = ops.size → unl ops.size listed = fuel → k ≤ j → j ≤ m → Closed ops listed → (∀ i, R i → i ∈ Fl) →
      (∀ i, i < ops.size → (listed.getD i false = true ↔ i < j ∧ ¬ R i)) → Mid P up ops (dstsF ops Fl) (opsF ops Fl) ((ops.toList.drop j).take (m - j)) σ (fun σ => ∀ a w G, Holds A0 D0 w0 nt σ a w G → wpList P ops Q (ops.toList.drop m) a w) →
      σ'.n = σ.n → (∀ y, getS σ'.s y = getS σ.s y) → (∀ x, (∀ i o, R i → ops[i]? = some o → o.dst ≠ some x) → getT σ'.t x = getT σ.t x) → Holds A0 D0 w0 nt σ' a w G → wpAny P .any ops Q fuel listed a w := by
  simp only [segChkF, Bool.and_eq_true] at hchk
  obtain ⟨⟨⟨hdown, hseg⟩, hmid, htail⟩, hflt, hlt⟩ := hchk
  have hFl : ∀ i ∈ Fl, i < k := fun i hi => Nat.blt_eq.mp (List.all_eq_true.1 hlt i hi)
  have hsegs := segOK_spec hseg
  have hget : ∀ {i : Nat} {o : Oper}, i < k → ops[i]? = some o → (ops.toList.take k)[i]? = some o := fun {i o} hi ho => by rw [List.getElem?_take, if_pos hi, Array.getElem?_toList]; exact ho
  intro fuel
  have fin : ∀ {fuel j : Nat} {listed : Array Bool} {a : Act} {w : World} {σ σ' : St} {G : Nat → Option GR} {R : Nat → Prop}, listed.size = ops.size → unl ops.size listed = fuel → j = m → (∀ i, ¬ R i) →
      (∀ i, i < ops.size → (listed.getD i false = true ↔ i < j ∧ ¬ R i)) → Mid P up ops (dstsF ops Fl) (opsF ops Fl) ((ops.toList.drop j).take (m - j)) σ (fun σ => ∀ a w G, Holds A0 D0 w0 nt σ a w G → wpList P ops Q (ops.toList.drop m) a w) →
      σ'.n = σ.n → (∀ y, getS σ'.s y = getS σ.s y) → (∀ x, (∀ i o, R i → ops[i]? = some o → o.dst ≠ some x) → getT σ'.t x = getT σ.t x) → Holds A0 D0 w0 nt σ' a w G → wpAny P .any ops Q fuel listed a w := by
    intro fuel j listed a w σ σ' G R hs hun hj hR hl hM h1 h2 h3 hh
    subst hj
    rw [Nat.sub_self, List.take_zero] at hM
    exact any_tail hdown htail fuel j listed a w hs hun (Nat.le_refl _) (fun i hi => by rw [hl i hi]; exact ⟨fun h => h.1, fun h => ⟨h, hR i⟩⟩)
      (hM.2 a w G (hh.ext h1.symm (fun x => (h3 x fun i o hi _ => absurd hi (hR i)).symm) (fun y => (h2 y).symm)))
  induction fuel with
  | zero =>
    intro j listed a w σ σ' G R hs hun hkj hjm hc hRF hl hM h1 h2 h3 hh
    have hall : ∀ i, i < ops.size → listed.getD i false = true := fun i hi => by rw [← getD_tf (by rw [hs]; exact hi)]; exact unl_zero hun hi
    have hj : j = m := by
      rcases Nat.lt_or_ge j m with h | h
      · have := ((hl j (by omega)).1 (hall j (by omega))).1; omega
      · omega
    exact fin hs hun hj (fun i hi => by
      have hik := hFl i (hRF i hi)
      exact ((hl i (by omega)).1 (hall i (by omega))).2 hi) hl hM h1 h2 h3 hh
  | succ fuel ih =>
    intro j listed a w σ σ' G R hs hun hkj hjm hc hRF hl hM h1 h2 h3 hh
    by_cases hend : j = m ∧ ∀ i, ¬ R i
    · exact fin hs hun hend.1 hend.2 hl hM h1 h2 h3 hh
    have hne : ∃ i, i ∈ Region.ready .any ops listed := by
      by_cases hR : ∃ i, i < k ∧ ¬ ¬ R i
      · obtain ⟨i0, h01, h02, h03⟩ := least_not (n := k) (p := fun i => ¬ R i) hR
        have h02 : R i0 := Classical.byContradiction h02
        refine ⟨i0, ready_spec.2 ⟨?_, ops[i0], Array.getElem?_eq_getElem (by omega), fun x hx => ?_⟩⟩
        · rw [getD_tf (by rw [hs]; omega)]
          cases hcc : listed.getD i0 false with
          | false => rfl
          | true => exact absurd h02 ((hl i0 (by omega)).1 hcc).2
        · have := edgesDown_spec hdown i0 ops[i0] (by rw [Array.getElem?_toList]; exact Array.getElem?_eq_getElem (by omega)) x hx
          exact (hl x (by omega)).2 ⟨by omega, h03 x (by omega)⟩
      · have hR' : ∀ i, ¬ R i := fun i hi => hR ⟨i, hFl i (hRF i hi), fun h => h hi⟩
        have hjlt : j < m := by
          rcases Nat.lt_or_ge j m with h | h
          · exact h
          · exact absurd ⟨by omega, hR'⟩ hend
        refine ⟨j, ready_spec.2 ⟨?_, ops[j], Array.getElem?_eq_getElem (by omega), fun x hx => ?_⟩⟩
        · rw [getD_tf (by rw [hs]; omega)]
          cases hcc : listed.getD j false with
          | false => rfl
          | true => have := ((hl j (by omega)).1 hcc).1; omega
        · have := edgesDown_spec hdown j ops[j] (by rw [Array.getElem?_toList]; exact Array.getElem?_eq_getElem (by omega)) x hx
          exact (hl x (by omega)).2 ⟨by omega, hR' x⟩
    refine ⟨fun h0 => (by obtain ⟨i, hi⟩ := hne; rw [h0] at hi; cases hi), fun i hi => ?_⟩
    obtain ⟨hi1, o, hi2, hi3⟩ := ready_spec.1 hi
    have hisz := (Array.getElem?_eq_some_iff.1 hi2).1
    have hun1 : listed.getD i false = false := by rw [← getD_tf (by rw [hs]; exact hisz)]; exact hi1
    have hset : ∀ x, (listed.setIfInBounds i true).getD x false = true ↔ x = i ∨ listed.getD x false = true := by
      intro x
      by_cases hix : i = x
      · subst hix
        rw [Array.getD_eq_getD_getElem?, Array.getElem?_setIfInBounds_self_of_lt (by rw [hs]; exact hisz)]
        simp
      · rw [getD_set_ne false hix]
        exact ⟨.inr, fun h => h.resolve_left (Ne.symm hix)⟩
    have hu' := unl_set hisz hs hi1
    by_cases hRi : R i
    · -- one that may stand behind
      have hik := hFl i (hRF i hRi)
      obtain ⟨_, hds⟩ := fltOK_spec hflt i o (by rw [Array.getElem?_toList]; exact hi2) (by rw [Nat.zero_add]; exact hRF i hRi)
      obtain ⟨d, hdd⟩ := Option.isSome_iff_exists.1 hds
      have hfl : o ∈ opsF ops Fl := by
        unfold opsF; rw [List.mem_filterMap]
        exact ⟨i, hRF i hRi, by rw [Array.getElem?_toList]; exact hi2⟩
      have hst := hM.flo o hfl d hdd
      have hnext : ∀ (a : Act) (w : World) (G : Nat → Option GR), Holds A0 D0 w0 nt (σ'.put o.dst (getT σ.t d)) a w G → wpAny P .any ops Q fuel (listed.setIfInBounds i true) a w := by
        intro a w G hh'
        refine ih j _ a w σ _ G (fun x => R x ∧ x ≠ i) (by simpa using hs) (by omega) hkj hjm (closed_set hc hi) (fun x hx => hRF x hx.1) (fun x hx => ?_) hM (by rw [put_ns.1]; exact h1) (fun y => by rw [put_ns.2]; exact h2 y) (fun x hx => ?_) hh'
        · rw [hset x, hl x hx]
          constructor
          · rintro (rfl | ⟨q1, q2⟩)
            · exact ⟨by omega, fun h => h.2 rfl⟩
            · exact ⟨q1, fun h => q2 h.1⟩
          · rintro ⟨q1, q2⟩
            by_cases hxi : x = i
            · exact .inl hxi
            · exact .inr ⟨q1, fun h => q2 ⟨h, hxi⟩⟩
        · rw [put_t]
          by_cases hxd : o.dst = some x
          · rw [if_pos hxd]
            rw [hdd] at hxd; cases hxd; rfl
          · rw [if_neg hxd]
            refine h3 x fun g o' hg hgo => ?_
            by_cases hgi : g = i
            · subst hgi; rw [hi2] at hgo; cases hgo; exact hxd
            · exact hx g o' ⟨hg, hgi⟩ hgo
      unfold wpOp
      rw [hi2]
      simp only
      have hlk : ∀ x ∈ o.looksAt ops, getT σ'.t x = getT σ.t x := by
        refine fun x hx => h3 x fun g o' hg hgo hgd => ?_
        have hgk := hFl g (hRF g hg)
        have hgb := (hsegs o (List.mem_of_getElem? (hget hik hi2))).2 x hx g (mem_writers.2 ⟨o', by simpa using hget hgk hgo, Nat.zero_le _, hgd⟩)
        exact ((hl g (by omega)).1 (hi3 g hgb)).2 hg
      rcases hst.2 σ' hlk ⟨fun y r hy => by rw [h2 y]; exact hy, by omega⟩ (by simp) with ⟨hw, hsnd⟩ | ⟨hw, hv1, hv2⟩
      · rw [if_pos (wantd_spec hh hw)]
        refine (hsnd A0 D0 w0 nt a w G Q (dst_lt hd i o hi2) hu hh).imp (Oper.wp_mono fun a w ⟨σ'', G', g1, g2⟩ => ?_) id
        subst g2
        exact hnext a w G' g1
      · rw [if_neg (by rw [wantd_spec hh hw]; simp)]
        refine hnext _ w G ?_
        rw [hv1]
        exact hh.put (.fr _ _ (.tup [] [] rfl (fun i a h => by simp at h))) (dst_lt hd i o hi2)
    · -- one of the middle
      have hij : j ≤ i := by
        rcases Nat.lt_or_ge i j with h | h
        · have := (hl i hisz).2 ⟨h, hRi⟩; rw [hun1] at this; cases this
        · exact h
      have hjF : j ∉ Fl := fun h => by have := hFl j h; omega
      have hnj : ¬ listed.getD j false = true := fun h => by
        rcases Nat.lt_or_ge j ops.size with hlt | hge
        · have := ((hl j hlt).1 h).1; omega
        · rw [Array.getD_eq_getD_getElem?, Array.getElem?_eq_none (by rw [hs]; exact hge)] at h; cases h
      have him : i = j ∧ j < m := by
        rcases Nat.lt_or_ge i m with him | him
        · have hn := midOK_spec hmid (i - k) o (by rw [List.getElem?_take, if_pos (by omega), List.getElem?_drop, show k + (i - k) = i by omega, Array.getElem?_toList]; exact hi2)
          rw [show k + (i - k) = i by omega] at hn
          rcases Nat.lt_or_ge j i with hlt | hge
          · exact absurd (needsBut_spec hc i _ hi3 hn j hlt hjF) hnj
          · exact ⟨by omega, by omega⟩
        · exfalso
          have hn := tailOK_spec htail (i - m) o (by rw [List.getElem?_drop, show m + (i - m) = i by omega, Array.getElem?_toList]; exact hi2)
          rw [show m + (i - m) = i by omega] at hn
          have hal := needsAll_spec hc i _ hi3 hn
          rcases Nat.lt_or_ge j i with hlt | hge
          · exact hnj (hal j hlt)
          · refine hend ⟨by omega, fun x hx => ?_⟩
            have := hFl x (hRF x hx)
            exact ((hl x (by omega)).1 (hal x (by omega))).2 hx
      obtain ⟨rfl, hjm'⟩ := him
      have hdrop : (ops.toList.drop i).take (m - i) = o :: (ops.toList.drop (i + 1)).take (m - (i + 1)) := by
        have : ops.toList[i]? = some o := by rw [Array.getElem?_toList]; exact hi2
        obtain ⟨hlt, he⟩ := List.getElem?_eq_some_iff.1 this
        rw [List.drop_eq_getElem_cons hlt, he, show m - i = (m - (i + 1)) + 1 by omega, List.take_succ_cons]
      rw [hdrop] at hM
      obtain ⟨hflo, σ2, ⟨hs1, hs2⟩, hM2⟩ := hM
      have hD : ∀ x, x ∉ dstsF ops Fl → ∀ g o', R g → ops[g]? = some o' → o'.dst ≠ some x := fun x hx g o' hg hgo hgd => hx (by
        unfold dstsF; rw [List.mem_filterMap]
        refine ⟨g, hRF g hg, ?_⟩
        rw [Array.getElem?_toList, hgo]; exact hgd)
      obtain ⟨hw, hsnd⟩ := hs2 σ' ⟨h1, h2, fun x hx => h3 x (hD x hx)⟩
      unfold wpOp
      rw [hi2]
      simp only
      rw [if_pos (wantd_spec hh hw)]
      refine (hsnd A0 D0 w0 nt a w G Q (dst_lt hd i o hi2) hu hh).imp (Oper.wp_mono fun a w ⟨σ'', G', g1, ⟨q1, q2, q3⟩, q4⟩ => ?_) id
      refine ih (i + 1) _ a w σ2 σ'' G' R (by simpa using hs) (by omega) (by omega) hjm' (closed_set hc hi) hRF (fun x hx => ?_) hM2 q1 q2 (fun x hx => ?_) g1
      · rw [hset x, hl x hx]
        constructor
        · rintro (rfl | ⟨p1, p2⟩)
          · exact ⟨by omega, hRi⟩
          · exact ⟨by omega, p2⟩
        · rintro ⟨p1, p2⟩
          by_cases hxi : x = i
          · exact .inl hxi
          · exact .inr ⟨by omega, p2⟩
      · by_cases hxD : x ∈ dstsF ops Fl
        · rw [q4 x hxD, h3 x hx, hs1 x hxD]
        · exact q3 x hxD

end
section
variable {P : Program} {up : Bool} {nt : Nat} {ops : Array Oper} {Q : Exit → Act → World → Prop} {σ : St} {te : List (Nat × AV)} {re : Option Root} {val : Nat → AV × Option Root} {tt : Nat → List (Nat × AV)}

theorem any_segF {A0 D0 : Nat → Prop} {w0 : World} {k m : Nat} {Fl : List Nat} (hkm : k ≤ m) (hms : m ≤ ops.size) (hchk : segChkF k m Fl ops = true) (hd : okDst nt ops.toList = true) (hu : up = true → LetsOut Q) (hlt : ∀ y, (getS σ.s y).isSome = true → y < σ.n)
    (hv : SegV P up ops σ (ops.toList.take k) σ.t none te re val tt)
    (hM : Mid P up ops (dstsF ops Fl) (opsF ops Fl) ((ops.toList.drop k).take (m - k)) (endSt σ te re) (fun σ => ∀ a w G, Holds A0 D0 w0 nt σ a w G → wpList P ops Q (ops.toList.drop m) a w)) :
    ∀ (fuel : Nat) (listed : Array Bool) (a : Act) (w : World) (σ' : St) (G : Nat → Option GR), listed.size = ops.size → unl ops.size listed = fuel → (∀ i, listed.getD i false = true → i < k) → Closed ops listed →
      Agree (ops.toList.take k) σ val listed σ' → Holds A0 D0 w0 nt σ' a w G → wpAny P .any ops Q fuel listed a w := by
  have hk : k ≤ ops.size := Nat.le_trans hkm hms
  have hchk0 := hchk
  simp only [segChkF, Bool.and_eq_true] at hchk
  obtain ⟨⟨⟨hdown, hseg⟩, hmid, htail⟩, hflt, hlt'⟩ := hchk
  have hFl : ∀ i ∈ Fl, i < k := fun i hi => Nat.blt_eq.mp (List.all_eq_true.1 hlt' i hi)
  generalize hfirst : ops.toList.take k = first at *
  have hfk : first.length = k := by rw [← hfirst]; simp; omega
  have hget : ∀ i, i < k → first[i]? = ops[i]? := fun i hi => by rw [← hfirst, List.getElem?_take, if_pos hi, Array.getElem?_toList]
  have hin : ∀ {i : Nat} {o : Oper}, first[i]? = some o → i < k ∧ ops[i]? = some o := fun {i o} h => by
    have h1 : i < k := by have := (List.getElem?_eq_some_iff.1 h).1; omega
    exact ⟨h1, by rw [← hget i h1]; exact h⟩
  have hsegs := segOK_spec hseg
  have hdst : ∀ (i : Nat) (o : Oper), ops[i]? = some o → ∀ d, o.dst = some d → d < nt := by
    have key : ∀ {os : List Oper}, okDst nt os = true → ∀ o ∈ os, ∀ d, o.dst = some d → d < nt := by
      intro os
      induction os with
      | nil => intro _ o ho; cases ho
      | cons b os ih =>
        intro h o ho
        obtain ⟨h1, h2⟩ := okDst_cons h
        rcases List.mem_cons.1 ho with rfl | ho
        · exact h1
        · exact ih h2 o ho
    intro i o ho
    exact key hd o (List.mem_of_getElem? (by rw [Array.getElem?_toList]; exact ho))
  have finish : ∀ {fuel : Nat} {listed : Array Bool} {a : Act} {w : World} {σ' : St} {G : Nat → Option GR}, listed.size = ops.size → unl ops.size listed = fuel → (∀ i, listed.getD i false = true → i < k) → Closed ops listed → (∀ i, i < k → i ∉ Fl → listed.getD i false = true) → Agree first σ val listed σ' → Holds A0 D0 w0 nt σ' a w G → wpAny P .any ops Q fuel listed a w := by
    intro fuel listed a w σ' G hs hun hL hc hall hag hh
    have hF : ∀ {i : Nat}, i < k → ¬ listed.getD i false = true → i ∈ Fl := fun {i} hi hn => Classical.byContradiction fun h => hn (hall i hi h)
    have hroot : σ'.n = (endSt σ te re).n ∧ ∀ y, getS σ'.s y = getS (endSt σ te re).s y := by
      by_cases hr : ∃ (i : Nat) (o : Oper), first[i]? = some o ∧ (val i).2.isSome = true
      · obtain ⟨i, o, hi, his⟩ := hr
        obtain ⟨r, hr⟩ := Option.isSome_iff_exists.1 his
        have hli : listed.getD i false = true := Classical.byContradiction fun hn => by
          have hp := (fltOK_spec hflt i o (by rw [Array.getElem?_toList]; exact (hin hi).2) (by rw [Nat.zero_add]; exact hF (hin hi).1 hn)).1
          rw [(hv.stab i o hi).1 hp] at his; cases his
        obtain ⟨q1, q2⟩ := hag.r i o r hi hli hr
        rw [(hv.rOne i o hi his).1, hr]
        exact ⟨q1, q2⟩
      · have hno : ∀ (i : Nat) (o : Oper), first[i]? = some o → (val i).2 = none := fun i o hi => by
          cases hvi : (val i).2 with
          | none => rfl
          | some y => exact absurd ⟨i, o, hi, by rw [hvi]; rfl⟩ hr
        obtain ⟨q1, q2⟩ := hag.z (fun i o hi _ => hno i o hi)
        rw [hv.rNone hno]
        exact ⟨q1, q2⟩
    have hte : (endSt σ te re).t = te := by cases re <;> rfl
    refine any_mid hkm hms hchk0 hd hu fuel k listed a w (endSt σ te re) σ' G (fun i => i ∈ Fl ∧ ¬ listed.getD i false = true) hs hun (Nat.le_refl _) hkm hc (fun i hi => hi.1) (fun i hi => ⟨fun h => ⟨hL i h, fun h' => h'.2 h⟩, fun h => ?_⟩) hM hroot.1 hroot.2 (fun x hx => ?_) hh
    · by_cases hif : i ∈ Fl
      · exact Classical.byContradiction fun hn => h.2 ⟨hif, hn⟩
      · exact hall i h.1 hif
    · rw [hte]
      by_cases hx' : ∃ (i : Nat) (o : Oper), first[i]? = some o ∧ o.dst = some x
      · obtain ⟨i, o, hi, hdx⟩ := hx'
        have hli : listed.getD i false = true := Classical.byContradiction fun hn => hx i o ⟨hF (hin hi).1 hn, hn⟩ (hin hi).2 hdx
        have h1 := (hsegs o (List.mem_of_getElem? hi)).1 x hdx
        rw [hv.tE i o x hi hdx (fun j o' hj hd' => Nat.le_of_eq (one_writer h1 hj hd' hi hdx)), hag.w i o x hi hli hdx]
      · have hno : ∀ (i : Nat) (o : Oper), first[i]? = some o → o.dst ≠ some x := fun i o hi hd => hx' ⟨i, o, hi, hd⟩
        rw [hv.tN x hno, hag.u x (fun i o hi _ => hno i o hi)]
  intro fuel
  induction fuel with
  | zero =>
    intro listed a w σ' G hs hun hL hc hag hh
    exact finish hs hun hL hc (fun i hi _ => by rw [← getD_tf (by rw [hs]; omega)]; exact unl_zero hun (by omega)) hag hh
  | succ fuel ih =>
    intro listed a w σ' G hs hun hL hc hag hh
    by_cases hall : ∀ i, i < k → i ∉ Fl → listed.getD i false = true
    · exact finish hs hun hL hc hall hag hh
    -- one of the first is still to be done: there is one that can be
    obtain ⟨i0, h01, h02, h03⟩ := least_not (n := k) (p := fun i => listed.getD i false = true) (Classical.byContradiction fun h => hall fun i hi _ => Classical.byContradiction fun h' => h ⟨i, hi, h'⟩)
    have hready0 : i0 ∈ Region.ready .any ops listed := by
      have hlt0 : i0 < ops.size := by omega
      refine ready_spec.2 ⟨by rw [getD_tf (by rw [hs]; exact hlt0)]; simpa using h02, ops[i0], Array.getElem?_eq_getElem hlt0, fun j hj => h03 j ?_⟩
      have := edgesDown_spec hdown i0 ops[i0] (by rw [Array.getElem?_toList]; exact Array.getElem?_eq_getElem hlt0) j hj
      omega
    refine ⟨fun h0 => (by rw [h0] at hready0; cases hready0), fun i hi => ?_⟩
    obtain ⟨h1, o, h2, h3⟩ := ready_spec.1 hi
    have hisz := (Array.getElem?_eq_some_iff.1 h2).1
    have hun1 : listed.getD i false = false := by rw [← getD_tf (by rw [hs]; exact hisz)]; exact h1
    have hik : i < k := by
      rcases Nat.lt_or_ge i k with h | h
      · exact h
      · exfalso
        rcases Nat.lt_or_ge i m with him | him
        · have hn := midOK_spec hmid (i - k) o (by rw [List.getElem?_take, if_pos (by omega), List.getElem?_drop, show k + (i - k) = i by omega, Array.getElem?_toList]; exact h2)
          rw [show k + (i - k) = i by omega] at hn
          exact hall fun x hx hxf => needsBut_spec hc i _ h3 hn x (by omega) hxf
        · have hn := tailOK_spec htail (i - m) o (by rw [List.getElem?_drop, show m + (i - m) = i by omega, Array.getElem?_toList]; exact h2)
          rw [show m + (i - m) = i by omega] at hn
          exact hall fun x hx _ => needsAll_spec hc i _ h3 hn x (by omega)
    have hfi : first[i]? = some o := by rw [hget i hik]; exact h2
    obtain ⟨hs1, hs2⟩ := hsegs o (List.mem_of_getElem? hfi)
    -- no root has been made by another one, if this one makes one
    have hnoroot : (val i).2.isSome = true → ∀ (j : Nat) (o' : Oper), first[j]? = some o' → listed.getD j false = true → (val j).2 = none := by
      intro his j o' hj hlj
      cases hvj : (val j).2 with
      | none => rfl
      | some y =>
        have := (hv.rOne i o hfi his).2.2 j o' hj (by rw [hvj]; rfl)
        subst this
        rw [hun1] at hlj; cases hlj
    have hext : Ext σ σ' := by
      by_cases hr : ∃ (j : Nat) (o' : Oper), first[j]? = some o' ∧ listed.getD j false = true ∧ (val j).2.isSome = true
      · obtain ⟨j, o', hj, hlj, his⟩ := hr
        obtain ⟨r, hr⟩ := Option.isSome_iff_exists.1 his
        obtain ⟨q1, q2⟩ := hag.r j o' r hj hlj hr
        refine ⟨fun y r' hy => ?_, by omega⟩
        rw [q2 y]
        simp only [getS]
        have := hlt y (by rw [hy]; rfl)
        rw [if_neg (by omega)]
        exact hy
      · obtain ⟨q1, q2⟩ := hag.z (fun j o' hj hlj => by
          cases hvj : (val j).2 with
          | none => rfl
          | some y => exact absurd ⟨j, o', hj, hlj, by rw [hvj]; rfl⟩ hr)
        exact ⟨fun y r' hy => by rw [q2 y]; exact hy, by omega⟩
    have hreads : ∀ x ∈ o.looksAt ops, getT σ'.t x = getT (tt i) x := by
      intro x hx
      by_cases hw : ∃ (j : Nat) (o' : Oper), first[j]? = some o' ∧ o'.dst = some x
      · obtain ⟨j, o', hj, hdx⟩ := hw
        have hjb := hs2 x hx j (mem_writers.2 ⟨o', by simpa using hj, Nat.zero_le _, hdx⟩)
        have hlj := h3 j hjb
        have hji := edgesDown_spec hdown i o (by rw [Array.getElem?_toList]; exact h2) j hjb
        have h1w := (hsegs o' (List.mem_of_getElem? hj)).1 x hdx
        rw [hag.w j o' x hj hlj hdx, hv.tI i j o' x (by omega) (by omega) hj hdx (fun j' o'' _ hj' hd' => Nat.le_of_eq (one_writer h1w hj' hd' hj hdx))]
      · have hno : ∀ (j : Nat) (o' : Oper), first[j]? = some o' → o'.dst ≠ some x := fun j o' hj hd => hw ⟨j, o', hj, hd⟩
        rw [hag.u x (fun j o' hj _ => hno j o' hj), hv.tI0 i x (fun j o' _ hj => hno j o' hj)]
    have hset : ∀ j, (listed.setIfInBounds i true).getD j false = true ↔ j = i ∨ listed.getD j false = true := by
      intro j
      by_cases hij : i = j
      · subst hij
        rw [Array.getD_eq_getD_getElem?, Array.getElem?_setIfInBounds_self_of_lt (by rw [hs]; exact hisz)]
        simp
      · rw [getD_set_ne false hij]
        exact ⟨.inr, fun h => h.resolve_left (Ne.symm hij)⟩
    -- behind it
    have hnext : ∀ (a : Act) (w : World) (G : Nat → Option GR), Holds A0 D0 w0 nt (newR σ' o.dst (val i).1 (val i).2) a w G → wpAny P .any ops Q fuel (listed.setIfInBounds i true) a w := by
      intro a w G hh'
      have hT : ∀ x, getT (newR σ' o.dst (val i).1 (val i).2).t x = if o.dst = some x then (val i).1 else getT σ'.t x := by
        intro x
        have hp : ∀ (τ : St), getT (τ.put o.dst (val i).1).t x = if o.dst = some x then (val i).1 else getT τ.t x := by
          intro τ
          unfold St.put
          split
          · rename_i d hd
            rw [hd]
            simp only [getT, Option.some.injEq]
          · rename_i hd; rw [hd]; simp
        unfold newR
        split <;> exact hp _
      refine ih _ a w _ G (by simpa using hs) (by have := unl_set hisz hs h1; omega) (fun j hj => ?_) (closed_set hc hi) ⟨fun j o' x hj hl hdx => ?_, fun x hx => ?_, fun j o' r hj hl hr => ?_, fun hz => ?_⟩ hh'
      · rcases (hset j).1 hj with rfl | h
        · exact hik
        · exact hL j h
      · rw [hT x]
        rcases (hset j).1 hl with rfl | h
        · rw [hfi] at hj; cases hj
          rw [if_pos hdx]
        · have hne : ¬ o.dst = some x := fun hd => by
            have := one_writer (hs1 x hd) hfi hd hj hdx
            subst this
            rw [hun1] at h; cases h
          rw [if_neg hne]
          exact hag.w j o' x hj h hdx
      · rw [hT x, if_neg (hx i o hfi ((hset i).2 (.inl rfl)))]
        exact hag.u x (fun j o' hj hl => hx j o' hj ((hset j).2 (.inr hl)))
      · rcases (hset j).1 hl with rfl | h
        · rw [hfi] at hj; cases hj
          obtain ⟨q1, q2⟩ := hag.z (hnoroot (by rw [hr]; rfl))
          have e : newR σ' o.dst (val j).1 (val j).2 = St.put { n := σ'.n + 1, t := σ'.t, s := (σ'.n, r) :: σ'.s } o.dst (val j).1 := by rw [hr]; rfl
          rw [e]
          have e2 : ∀ (τ : St), (τ.put o.dst (val j).1).n = τ.n ∧ (τ.put o.dst (val j).1).s = τ.s := fun τ => by unfold St.put; split <;> exact ⟨rfl, rfl⟩
          rw [(e2 _).1, (e2 _).2]
          refine ⟨by rw [q1], fun y => ?_⟩
          simp only [getS, q1]
          split
          · rfl
          · exact q2 y
        · obtain ⟨q1, q2⟩ := hag.r j o' r hj h hr
          have hnone : (val i).2 = none := by
            cases hvi : (val i).2 with
            | none => rfl
            | some y => have := hnoroot (by rw [hvi]; rfl) j o' hj h; rw [hr] at this; cases this
          have e : newR σ' o.dst (val i).1 (val i).2 = St.put σ' o.dst (val i).1 := by rw [hnone]; rfl
          rw [e]
          have e2 : ∀ (τ : St), (τ.put o.dst (val i).1).n = τ.n ∧ (τ.put o.dst (val i).1).s = τ.s := fun τ => by unfold St.put; split <;> exact ⟨rfl, rfl⟩
          rw [(e2 _).1, (e2 _).2]
          exact ⟨q1, q2⟩
      · have hnone := hz i o hfi ((hset i).2 (.inl rfl))
        obtain ⟨q1, q2⟩ := hag.z (fun j o' hj hl => hz j o' hj ((hset j).2 (.inr hl)))
        have e : newR σ' o.dst (val i).1 (val i).2 = St.put σ' o.dst (val i).1 := by rw [hnone]; rfl
        rw [e]
        have e2 : ∀ (τ : St), (τ.put o.dst (val i).1).n = τ.n ∧ (τ.put o.dst (val i).1).s = τ.s := fun τ => by unfold St.put; split <;> exact ⟨rfl, rfl⟩
        rw [(e2 _).1, (e2 _).2]
        exact ⟨q1, q2⟩
    unfold wpOp
    rw [h2]
    simp only
    rcases (hv.stab i o hfi).2 σ' hreads hext (fun his => (hag.z (hnoroot his)).1) with ⟨hw, hsnd⟩ | ⟨hw, hv1, hv2⟩
    · rw [if_pos (wantd_spec hh hw)]
      refine (hsnd A0 D0 w0 nt a w G Q (hdst i o h2) hu hh).imp (Oper.wp_mono fun a w ⟨σ'', G', g1, g2⟩ => ?_) id
      subst g2
      exact hnext a w G' g1
    · rw [if_neg (by rw [wantd_spec hh hw]; simp)]
      refine hnext _ w G ?_
      rw [hv1, hv2]
      exact hh.put (.fr _ _ (.tup [] [] rfl (fun i a h => by simp at h))) (hdst i o h2)
end
end Go.Ab

namespace Go.Ab
open Go Go.RowKit

/-- Slots told otherwise. -/
def ovr : List Nat → (Nat → AV) → List (Nat × AV) → List (Nat × AV)
  | [], _, t => t
  | d :: D, u, t => (d, u d) :: ovr D u t
theorem ovr_nil (u : Nat → AV) (t : List (Nat × AV)) : ovr [] u t = t := rfl
theorem ovr_cons (d : Nat) (D : List Nat) (u : Nat → AV) (t : List (Nat × AV)) : ovr (d :: D) u t = (d, u d) :: ovr D u t := rfl
attribute [go_sem] ovr_nil ovr_cons
theorem ovr_get {u : Nat → AV} {t : List (Nat × AV)} {x : Nat} : ∀ {D : List Nat}, getT (ovr D u t) x = if x ∈ D then u x else getT t x
  | [] => by simp [ovr]
  | d :: D => by
    simp only [ovr, getT, ovr_get (D := D)]
    by_cases h : d = x
    · subst h; simp
    · have : ¬ x = d := fun e => h e.symm
      simp [h, this]

section
variable {P : Program} {TT : TTab} {up : Bool} {np nt : Nat} {σ : St} {Q : Exit → St → Prop} {all : Array Oper} {D : List Nat} {fl : List Oper} {K : St → Prop}

theorem Mid.mono {os : List Oper} : ∀ {σ : St} {K K' : St → Prop}, (∀ σ, K σ → K' σ) → Mid P up all D fl os σ K → Mid P up all D fl os σ K' := by
  induction os with
  | nil => intro σ K K' hk h; exact ⟨h.1, hk _ h.2⟩
  | cons o os ih => intro σ K K' hk h; obtain ⟨h1, σ2, h2, h3⟩ := h; exact ⟨h1, σ2, h2, ih hk h3⟩
theorem Mid.done (hf : Flo P up all fl σ) (hk : K σ) : Mid P up all D fl [] σ K := ⟨hf, hk⟩
theorem stepF_of (htt : TTok P TT) {o : Oper} {n : Nat} {t t2 : List (Nat × AV)} {s s2 : List (Nat × Root)} (hg : o.guard = none) (h1 : ∀ x ∈ D, getT t2 x = getT t x)
    (he : ∀ u : Nat → AV, ∃ e, eop TT ⟨n, ovr D u t, s⟩ o.dst o.op = some e ∧ e.ob ∧ (fin o.dst e).n = n ∧ (∀ x, getT (fin o.dst e).t x = if x ∈ D then u x else getT t2 x) ∧ (fin o.dst e).s = s2) : StepF P up all D o ⟨n, t, s⟩ ⟨n, t2, s2⟩ := by
  refine ⟨h1, fun τ hl => ⟨by unfold wantd; rw [hg], ?_⟩⟩
  intro A0 D0 w0 nt a w G Q hd hu hh
  left
  obtain ⟨e, e1, e2, e3, e4, e5⟩ := he (getT τ.t)
  refine Oper.wp_mono (fun a w ⟨σ', G', k1, k2⟩ => ⟨σ', G', k1, ?_⟩) (eop_sound htt e1 e2 A0 D0 w0 nt a w G Q hd (hh.ext (σ' := ⟨n, ovr D (getT τ.t) t, s⟩) hl.1.symm (fun x => ?_) (fun y => (hl.2.1 y).symm)))
  · show getT (ovr D (getT τ.t) t) x = _
    rw [ovr_get]
    split
    · rfl
    · rename_i hx; exact (hl.2.2 x hx).symm
  · subst k2
    refine ⟨⟨e3, fun y => by rw [e5], fun x hx => by rw [e4, if_neg hx]⟩, fun x hx => by rw [e4, if_pos hx]⟩
theorem Mid.sto (htt : TTok P TT) {ty : TypeId} {pos : String} {af : Array Edge} {op : Op} {os : List Oper} {n : Nat} {t : List (Nat × AV)} {s s2 : List (Nat × Root)} (hf : Flo P up all fl ⟨n, t, s⟩)
    (he : ∀ u : Nat → AV, eop TT ⟨n, ovr D u t, s⟩ none op = some ⟨⟨n, ovr D u t, s2⟩, .undef, True⟩) (hk : Mid P up all D fl os ⟨n, t, s2⟩ K) : Mid P up all D fl (⟨none, op, ty, pos, af, none⟩ :: os) ⟨n, t, s⟩ K :=
  ⟨hf, _, stepF_of htt rfl (fun _ _ => rfl) (fun u => ⟨_, he u, trivial, rfl, fun _ => ovr_get, rfl⟩), hk⟩
theorem Mid.val (htt : TTok P TT) {ty : TypeId} {pos : String} {af : Array Edge} {op : Op} {os : List Oper} {n q : Nat} {t : List (Nat × AV)} {s : List (Nat × Root)} {v : AV} (hf : Flo P up all fl ⟨n, t, s⟩) (hq : q ∉ D)
    (he : ∀ u : Nat → AV, eop TT ⟨n, ovr D u t, s⟩ (some q) op = some ⟨⟨n, ovr D u t, s⟩, v, True⟩) (hk : Mid P up all D fl os ⟨n, (q, v) :: t, s⟩ K) : Mid P up all D fl (⟨some q, op, ty, pos, af, none⟩ :: os) ⟨n, t, s⟩ K := by
  refine ⟨hf, _, stepF_of htt rfl (fun x hx => ?_) (fun u => ⟨_, he u, trivial, rfl, fun x => ?_, rfl⟩), hk⟩
  · simp only [getT]
    rw [if_neg (fun (e : q = x) => hq (e ▸ hx))]
  · simp only [fin, St.put, getT, ovr_get]
    by_cases hx : q = x
    · subst hx; simp [hq]
    · simp [hx]
theorem Flo.nil : Flo P up all [] σ := fun _ h => by cases h
theorem Flo.cons (htt : TTok P TT) {o : Oper} {d : Nat} (hd : o.dst = some d) (hw : wantd all σ o = some true) (hv : pval TT σ o.op = some (getT σ.t d, none)) (h : Flo P up all fl σ) : Flo P up all (o :: fl) σ := by
  intro o' ho' d' hd'
  rcases List.mem_cons.1 ho' with rfl | ho'
  · rw [hd] at hd'; cases hd'
    exact stab_val htt hw hv
  · exact h o' ho' d' hd'

theorem CW.drawnF (hm : P.follows .mixedOrders = true) (k m : Nat) (Fl : List Nat) {D : List Nat} {fl : List Oper} {id : Nat} {ops : Array Oper} (hkm : k ≤ m) (hms : m ≤ ops.size) (hchk : segChkF k m Fl ops = true) (hD : dstsF ops Fl = D) (hfl : opsF ops Fl = fl) (hd : okDst nt ops.toList = true) (hkd : keepDst np ops.toList = true)
    (h : Seg P up ops σ (ops.toList.take k) σ.t none fun t r => Mid P up ops D fl ((ops.toList.drop k).take (m - k)) (endSt σ t r) fun σ => CWops P up nt ops (ops.toList.drop m) σ (Q .normal)) : CW P up np nt (.region id ops true) σ Q := by
  subst hD hfl
  intro A0 D0 w0 a w G R hu hh hr
  let Q1 : Exit → Act → World → Prop := fun e a' w' => match e with
    | .normal => ∃ σ' G', Holds A0 D0 w0 nt σ' a' w' G' ∧ Q .normal σ'
    | e => R e a' w'
  have hu1 : up = true → LetsOut Q1 := fun hu' => let ⟨a, w, h⟩ := hu hu'; ⟨a, w, h⟩
  suffices hs : wpAny P .any ops Q1 ops.size (Array.replicate ops.size false) a { w with drawn := w.drawn + 1 } by
    refine wp_mono (wp_region_any hm (wpAny_keep (a0 := a) hkd _ _ _ _ (Kept.refl np a) hs)) fun e a' w' he => ?_
    cases e with
    | normal => obtain ⟨⟨σ', G', g1, g2⟩, g3⟩ := he; exact hr _ a' w' σ' G' g1 (g3 rfl) g2
    | _ => exact he.1
  obtain ⟨te, re, val, tt, hk', hv⟩ := seg_vals h
  have hno : ∀ i, (Array.replicate ops.size false).getD i false = true → False := fun i hi => by
    rw [Array.getD_eq_getD_getElem?, Array.getElem?_replicate] at hi
    split at hi <;> simp at hi
  refine any_segF (σ := σ) (σ' := σ) hkm hms hchk hd hu1 (fun y hy => ?_) hv (hk'.mono fun σ hσ a w G hh' => hσ (okDst_drop m hd) A0 D0 w0 a w G Q1 hu1 hh' fun a w σ' G' h1 h2 => ⟨σ', G', h1, h2⟩) ops.size _ a _ G (by simp) ?_ (fun i hi => (hno i hi).elim)
    (fun i o _ hi => (hno i hi).elim) ⟨fun i o x _ hi => (hno i hi).elim, fun x _ => rfl, fun i o r _ hi => (hno i hi).elim, fun _ => ⟨rfl, fun _ => rfl⟩⟩ hh.drew
  · have := hh.inv.dom y
    rw [hy] at this
    obtain ⟨g, hg⟩ := Option.isSome_iff_exists.1 this.symm
    exact hh.inv.lt y g hg
  · unfold unl
    have : ((List.range ops.size).filter fun i => !(Array.replicate ops.size false).getD i true) = List.range ops.size := by
      rw [List.filter_eq_self]
      intro i hi
      have hi := List.mem_range.1 hi
      rw [Array.getD_eq_getD_getElem?, Array.getElem?_replicate, if_pos hi]
      rfl
    rw [this, List.length_range]
end
end Go.Ab

