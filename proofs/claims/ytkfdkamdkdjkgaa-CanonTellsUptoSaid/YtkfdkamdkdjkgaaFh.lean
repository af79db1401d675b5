/-
  Signs of a text, what may be as the document says it, and arguments of a bulk at most so great. No condition but those of each theorem.
-/
import Derived.JoinedCond
import Derived.Deep.CondSized
import Derived.Test.YtkfdkamdkdjkgaaFf
import Derived.Test.YtkfdkamdkdjkgaaFd
set_option linter.unusedVariables false
set_option linter.unusedSimpArgs false
namespace Go.Ab
open Go Go.RowKit

/-! ### 39. Conversions of numbers, ends of strings -/
section
variable {P : Program} {TT : TTab} {up : Bool} {σ : St} {K : St → Prop} {o : Oper}
theorem snd_conv {s d : Nat} {x : Operand} {i j : TI} {k k' : IntKind} {n : Int} (ho : o.op = .convert s d x) (htt : TTok P TT) (hs : TT s = some i) (hik : i.kind = .int k) (hd : TT d = some j) (hjk : j.kind = .int k') (hx : ev σ x = .int k n)
    (hk : K (σ.put o.dst (.int k' (k'.wrap n)))) : Snd P o σ K := by
  have hti := (htt s i hs).kind
  rw [hik] at hti
  have hti : P.underlying s = some (.int k) := hti
  have htj := (htt d j hd).kind
  rw [hjk] at htj
  have htj : P.underlying d = some (.int k') := htj
  refine snd_val _ hk fun {_ _ _ _ a w _} h => ⟨.int k' (k'.wrap n), ?_, .fr _ _ (.int _ _)⟩
  have h1 := h.ev x
  rw [hx] at h1
  have h2 := h1.int_inv
  simp [execOp, ho, convert, run_underlying hti, run_underlying htj, h2, Conv.intToInt]
theorem CWops.conv {nt : Nat} {all : Array Oper} {os : List Oper} {d : Option Tmp} {ty : TypeId} {ps : String} {af : Array Edge} {gd : Option (Nat × Bool)} {s t : Nat} {x : Operand} {i j : TI} {k k' : IntKind} {n : Int} (htt : TTok P TT)
    (hw : wantd all σ ⟨d, .convert s t x, ty, ps, af, gd⟩ = some true) (hs : TT s = some i) (hik : i.kind = .int k) (hd : TT t = some j) (hjk : j.kind = .int k') (hx : ev σ x = .int k n)
    (hk : CWops P up nt all os (σ.put d (.int k' (k'.wrap n))) K) : CWops P up nt all (⟨d, .convert s t x, ty, ps, af, gd⟩ :: os) σ K :=
  CWops.step hw (Snd.up (snd_conv rfl htt hs hik hd hjk hx hk))
theorem snd_strCut {t : Nat} {x lo : Operand} {i : TI} {s : ByteArray} {k : IntKind} {q : Nat} (ho : o.op = .slice t x (some lo) none none) (htt : TTok P TT) (ht : TT t = some i) (hi : i.kind = .str) (hx : ev σ x = .str s) (hl : ev σ lo = .int k (q : Int)) (hq : q ≤ s.size)
    (hk : K (σ.put o.dst (.str (s.extract q s.size)))) : Snd P o σ K := by
  have hti := (htt t i ht).kind
  rw [hi] at hti
  have hti : P.underlying t = some .string := hti
  refine snd_val _ hk fun {_ _ _ _ a w _} h => ⟨.string (s.extract q s.size), ?_, .fr _ _ (.str _ ?_)⟩
  · have h1 := h.ev x
    rw [hx] at h1
    obtain ⟨h2, _⟩ := h1.str_inv
    have h3 := h.ev lo
    rw [hl] at h3
    have h4 := h3.int_inv
    have h5 : ((q : Int) ≤ (s.size : Int)) := by omega
    simp [execOp, ho, Instr.sliceAt, run_underlying hti, Instr.slice, Instr.sliceBounds, Instr.sliceBound, asIntOf_int, h2, h4, h5]
  · have h1 := h.ev x
    rw [hx] at h1
    obtain ⟨_, h2⟩ := h1.str_inv
    rw [ByteArray.size_extract]
    omega
theorem CWops.strCut {nt : Nat} {all : Array Oper} {os : List Oper} {d : Option Tmp} {ty : TypeId} {ps : String} {af : Array Edge} {gd : Option (Nat × Bool)} {t : Nat} {x lo : Operand} {i : TI} {s : ByteArray} {k : IntKind} {q : Nat} (htt : TTok P TT)
    (hw : wantd all σ ⟨d, .slice t x (some lo) none none, ty, ps, af, gd⟩ = some true) (ht : TT t = some i) (hi : i.kind = .str) (hx : ev σ x = .str s) (hl : ev σ lo = .int k (q : Int)) (hq : q ≤ s.size)
    (hk : CWops P up nt all os (σ.put d (.str (s.extract q s.size))) K) : CWops P up nt all (⟨d, .slice t x (some lo) none none, ty, ps, af, gd⟩ :: os) σ K :=
  CWops.step hw (Snd.up (snd_strCut rfl htt ht hi hx hl hq hk))
end
end Go.Ab

namespace Go.Ab
open Go Go.RowKit
set_option maxRecDepth 20000

/-! ### Signs of a text -/
def bt (s : ByteArray) (k : Nat) : Nat := (s.get! k).toNat
def conts (s : ByteArray) : Nat → Bool
  | 0 => true
  | k + 1 => conts s k && (decide (128 ≤ bt s (k + 1)) && decide (bt s (k + 1) ≤ 191))
def cAt (s : ByteArray) (c0 : Nat) : Nat → Nat
  | 0 => c0
  | k + 1 => 64 * cAt s c0 k + bt s (k + 1) - 128
def okC (low c : Nat) : Bool := decide (low ≤ c) && (decide (c ≤ 1114111) && !(decide (55296 ≤ c) && decide (c ≤ 57343)))
theorem bt_lt (s : ByteArray) (k : Nat) : bt s k < 256 := (s.get! k).toNat_lt
theorem bt_at {s : ByteArray} {k : Nat} (h : k < s.size) : ∃ c, s.data.toList[k]? = some c ∧ c.toNat = bt s k := by
  have h' : k < s.data.size := h
  refine ⟨s.data[k], ?_, ?_⟩
  · rw [Array.getElem?_toList, Array.getElem?_eq_getElem h']
  · show s.data[k].toNat = (s.data[k]!).toNat
    rw [getElem!_pos s.data k h']
theorem conts_no {s : ByteArray} {j : Nat} (m : Nat) (h : conts s (j + 1) = false) (hj : j + 1 ≤ m) : conts s m = false := by
  induction m with
  | zero => omega
  | succ m ih =>
    by_cases e : j = m
    · subst e; exact h
    · simp only [conts, ih (by omega), Bool.false_and]
theorem cAt_le {s : ByteArray} {c0 : Nat} (h0 : c0 < 32) : ∀ {j : Nat}, cAt s c0 j < 32 * 128 ^ j
  | 0 => by simpa [cAt] using h0
  | j + 1 => by
    have := cAt_le (s := s) h0 (j := j)
    have := bt_lt s (j + 1)
    have e : 128 ^ (j + 1) = 128 * 128 ^ j := by rw [Nat.pow_succ, Nat.mul_comm]
    have := Nat.one_le_two_pow (n := 0)
    have h1 : 1 ≤ 128 ^ j := Nat.one_le_pow _ _ (by decide)
    simp only [cAt]; omega
theorem cAt_lt {s : ByteArray} {c0 j : Nat} (h0 : c0 < 32) (_ : conts s j = true) (h3 : j ≤ 3) : cAt s c0 j < 70000000 := by
  have h1 := cAt_le (s := s) h0 (j := j)
  have : 128 ^ j ≤ 128 ^ 3 := Nat.pow_le_pow_right (by decide) h3
  omega
theorem dec_one {s : ByteArray} (h : bt s 0 < 128) : Utf8.decode s 0 = (bt s 0, 1) := by
  unfold bt at *
  simp [Utf8.decode, h]
theorem dec_none {s : ByteArray} (h : 128 ≤ bt s 0) (h2 : bt s 0 < 194 ∨ 245 ≤ bt s 0) : Utf8.decode s 0 = (65533, 1) := by
  have b1 := bt_lt s 1; have b2 := bt_lt s 2; have b3 := bt_lt s 3; have b0 := bt_lt s 0
  unfold bt at *
  generalize e0 : (s.get! 0).toNat = x0 at *
  generalize e1 : (s.get! 1).toNat = x1 at *
  generalize e2 : (s.get! 2).toNat = x2 at *
  generalize e3 : (s.get! 3).toNat = x3 at *
  simp only [Utf8.decode, Nat.zero_add, e0, e1, e2, e3, Utf8.valid, Utf8.runeError]
  rw [if_neg (by omega)]
  repeat' split
  all_goals first | rfl | (exfalso; simp_all; omega)
theorem dec_two {s : ByteArray} (h1 : 194 ≤ bt s 0) (h2 : bt s 0 < 224) : Utf8.decode s 0 = if (decide (2 ≤ s.size) && conts s 1) = true then (if okC 128 (cAt s (bt s 0 - 192) 1) = true then (cAt s (bt s 0 - 192) 1, 2) else (65533, 1)) else (65533, 1) := by
  have b1 := bt_lt s 1
  simp only [conts, cAt, okC, Nat.zero_add, Nat.reduceAdd]
  unfold bt at *
  generalize e0 : (s.get! 0).toNat = x0 at *
  generalize e1 : (s.get! 1).toNat = x1 at *
  simp only [Utf8.decode, Nat.zero_add, e0, e1, Utf8.valid, Utf8.runeError]
  rw [if_neg (by omega)]
  have k1 : (x0 / 32 == 6 && (decide (1 < s.size) && x1 / 64 == 2)) = (decide (2 ≤ s.size) && (true && (decide (128 ≤ x1) && decide (x1 ≤ 191)))) := by rw [Bool.eq_iff_iff]; simp; omega
  rw [k1]
  split
  · rename_i hc
    simp at hc
    have k2 : x0 % 32 * 64 + x1 % 64 = 64 * (x0 - 192) + x1 - 128 := by omega
    rw [k2, if_pos (by omega), if_pos (by simp; omega)]
  · rw [if_neg (by simp; omega), if_neg (by simp; omega)]
theorem dec_three {s : ByteArray} (h1 : 224 ≤ bt s 0) (h2 : bt s 0 < 240) : Utf8.decode s 0 = if (decide (3 ≤ s.size) && conts s 2) = true then (if okC 2048 (cAt s (bt s 0 - 224) 2) = true then (cAt s (bt s 0 - 224) 2, 3) else (65533, 1)) else (65533, 1) := by
  have b1 := bt_lt s 1; have b2 := bt_lt s 2
  simp only [conts, cAt, okC, Nat.zero_add, Nat.reduceAdd]
  unfold bt at *
  generalize e0 : (s.get! 0).toNat = x0 at *
  generalize e1 : (s.get! 1).toNat = x1 at *
  generalize e2 : (s.get! 2).toNat = x2 at *
  simp only [Utf8.decode, Nat.zero_add, e0, e1, e2, Utf8.valid, Utf8.runeError]
  rw [if_neg (by omega), if_neg (by simp; omega)]
  have k1 : (x0 / 16 == 14 && (decide (1 < s.size) && x1 / 64 == 2) && (decide (2 < s.size) && x2 / 64 == 2)) = (decide (3 ≤ s.size) && (true && (decide (128 ≤ x1) && decide (x1 ≤ 191)) && (decide (128 ≤ x2) && decide (x2 ≤ 191)))) := by rw [Bool.eq_iff_iff]; simp; omega
  rw [k1]
  split
  · rename_i hc
    simp at hc
    have k2 : x0 % 16 * 4096 + x1 % 64 * 64 + x2 % 64 = 64 * (64 * (x0 - 224) + x1 - 128) + x2 - 128 := by omega
    rw [k2]
    generalize 64 * (64 * (x0 - 224) + x1 - 128) + x2 - 128 = c
    have k3 : (decide (c ≥ 2048) && ((decide (0 ≤ (c : Int)) && decide ((c : Int) < 55296)) || (decide (57344 ≤ (c : Int)) && decide ((c : Int) ≤ 1114111)))) = (decide (2048 ≤ c) && (decide (c ≤ 1114111) && !(decide (55296 ≤ c) && decide (c ≤ 57343)))) := by rw [Bool.eq_iff_iff]; simp; omega
    rw [k3]
  · rw [if_neg (by simp; omega)]
theorem dec_four {s : ByteArray} (h1 : 240 ≤ bt s 0) (h2 : bt s 0 < 245) : Utf8.decode s 0 = if (decide (4 ≤ s.size) && conts s 3) = true then (if okC 65536 (cAt s (bt s 0 - 240) 3) = true then (cAt s (bt s 0 - 240) 3, 4) else (65533, 1)) else (65533, 1) := by
  have b1 := bt_lt s 1; have b2 := bt_lt s 2; have b3 := bt_lt s 3
  simp only [conts, cAt, okC, Nat.zero_add, Nat.reduceAdd]
  unfold bt at *
  generalize e0 : (s.get! 0).toNat = x0 at *
  generalize e1 : (s.get! 1).toNat = x1 at *
  generalize e2 : (s.get! 2).toNat = x2 at *
  generalize e3 : (s.get! 3).toNat = x3 at *
  simp only [Utf8.decode, Nat.zero_add, e0, e1, e2, e3, Utf8.valid, Utf8.runeError]
  rw [if_neg (by omega), if_neg (by simp; omega), if_neg (by simp; omega)]
  have k1 : (x0 / 8 == 30 && (decide (1 < s.size) && x1 / 64 == 2) && (decide (2 < s.size) && x2 / 64 == 2) && (decide (3 < s.size) && x3 / 64 == 2)) = (decide (4 ≤ s.size) && (true && (decide (128 ≤ x1) && decide (x1 ≤ 191)) && (decide (128 ≤ x2) && decide (x2 ≤ 191)) && (decide (128 ≤ x3) && decide (x3 ≤ 191)))) := by rw [Bool.eq_iff_iff]; simp; omega
  rw [k1]
  split
  · rename_i hc
    simp at hc
    have k2 : x0 % 8 * 262144 + x1 % 64 * 4096 + x2 % 64 * 64 + x3 % 64 = 64 * (64 * (64 * (x0 - 240) + x1 - 128) + x2 - 128) + x3 - 128 := by omega
    rw [k2]
    generalize 64 * (64 * (64 * (x0 - 240) + x1 - 128) + x2 - 128) + x3 - 128 = c
    have k3 : (decide (c ≥ 65536) && ((decide (0 ≤ (c : Int)) && decide ((c : Int) < 55296)) || (decide (57344 ≤ (c : Int)) && decide ((c : Int) ≤ 1114111)))) = (decide (65536 ≤ c) && (decide (c ≤ 1114111) && !(decide (55296 ≤ c) && decide (c ≤ 57343)))) := by rw [Bool.eq_iff_iff]; simp; omega
    rw [k3]
  · rfl

/-! ### All signs -/
def runesF (s : ByteArray) : Nat → Nat → List Int
  | 0, _ => []
  | f + 1, p => if p < s.size then ((Utf8.decode s p).1 : Int) :: runesF s f (p + (Utf8.decode s p).2) else []
def runes (s : ByteArray) : List Int := runesF s s.size 0
theorem get_ext {s : ByteArray} {p k : Nat} (h : p + k < s.size) : (s.extract p s.size).get! k = s.get! (p + k) := by
  have h1 : p + k < s.data.size := h
  have h2 : k < (s.data.extract p s.data.size).size := by rw [Array.size_extract]; omega
  show (s.extract p s.size).data[k]! = s.data[p + k]!
  have e : (s.extract p s.size).data = s.data.extract p s.data.size := by rw [ByteArray.data_extract]; rfl
  rw [e, getElem!_pos _ k h2, getElem!_pos _ (p + k) h1, Array.getElem_extract]
theorem size_ext {s : ByteArray} {p : Nat} : (s.extract p s.size).size = s.size - p := by rw [ByteArray.size_extract]; omega
def decB (b : Nat → Nat) (n : Nat) : Nat × Nat :=
  if b 0 < 0x80 then (b 0, 1)
  else if (b 0 / 32 == 6 && (decide (1 < n) && b 1 / 64 == 2)) = true then
    (if b 0 % 32 * 64 + b 1 % 64 ≥ 0x80 then (b 0 % 32 * 64 + b 1 % 64, 2) else (Utf8.runeError, 1))
  else if (b 0 / 16 == 14 && (decide (1 < n) && b 1 / 64 == 2) && (decide (2 < n) && b 2 / 64 == 2)) = true then
    (if (decide (b 0 % 16 * 4096 + b 1 % 64 * 64 + b 2 % 64 ≥ 0x800) && Utf8.valid (b 0 % 16 * 4096 + b 1 % 64 * 64 + b 2 % 64 : Nat)) = true then (b 0 % 16 * 4096 + b 1 % 64 * 64 + b 2 % 64, 3) else (Utf8.runeError, 1))
  else if (b 0 / 8 == 30 && (decide (1 < n) && b 1 / 64 == 2) && (decide (2 < n) && b 2 / 64 == 2) && (decide (3 < n) && b 3 / 64 == 2)) = true then
    (if (decide (b 0 % 8 * 262144 + b 1 % 64 * 4096 + b 2 % 64 * 64 + b 3 % 64 ≥ 0x10000) && Utf8.valid (b 0 % 8 * 262144 + b 1 % 64 * 4096 + b 2 % 64 * 64 + b 3 % 64 : Nat)) = true then (b 0 % 8 * 262144 + b 1 % 64 * 4096 + b 2 % 64 * 64 + b 3 % 64, 4) else (Utf8.runeError, 1))
  else (Utf8.runeError, 1)
theorem decode_B (s : ByteArray) (i : Nat) : Utf8.decode s i = decB (fun k => (s.get! (i + k)).toNat) (s.size - i) := by
  have h : ∀ k, decide (i + k < s.size) = decide (k < s.size - i) := fun k => by rw [decide_eq_decide]; omega
  unfold Utf8.decode decB
  simp only [h]
theorem decB_congr {b b' : Nat → Nat} {n : Nat} (hn : 0 < n) (h : ∀ k, k < n → b k = b' k) : decB b n = decB b' n := by
  have c : ∀ k, (decide (k < n) && b k / 64 == 2) = (decide (k < n) && b' k / 64 == 2) := fun k => by
    by_cases hk : k < n
    · rw [h k hk]
    · rw [decide_eq_false hk]; rfl
  unfold decB
  rw [h 0 hn]
  simp only [c]
  by_cases h1 : 1 < n
  · rw [h 1 h1]
    by_cases h2 : 2 < n
    · rw [h 2 h2]
      by_cases h3 : 3 < n
      · rw [h 3 h3]
      · simp only [h3, decide_false, Bool.false_and, Bool.and_false, Bool.false_eq_true, if_false]
    · simp only [h2, decide_false, Bool.false_and, Bool.and_false, Bool.false_eq_true, if_false]
  · simp only [h1, decide_false, Bool.false_and, Bool.and_false, Bool.false_eq_true, if_false]
theorem decode_ext {s : ByteArray} {p : Nat} (h : p < s.size) : Utf8.decode (s.extract p s.size) 0 = Utf8.decode s p := by
  rw [decode_B, decode_B, size_ext]
  refine decB_congr (by omega) fun k hk => ?_
  rw [Nat.zero_add, get_ext (by omega)]
theorem decode_le {s : ByteArray} {p : Nat} (h : p < s.size) : p + (Utf8.decode s p).2 ≤ s.size := by
  unfold Utf8.decode
  simp only
  repeat' split
  all_goals first | (simp only; omega) | (rename_i hc _; simp only [Bool.and_eq_true, decide_eq_true_eq] at hc; simp only; omega)
theorem ext_ext {s : ByteArray} {p n : Nat} (h : p + n ≤ s.size) : (s.extract p s.size).extract n (s.size - p) = s.extract (p + n) s.size := by
  apply ByteArray.ext
  rw [ByteArray.data_extract, ByteArray.data_extract, ByteArray.data_extract, Array.extract_extract]
  congr 1
  have : s.data.size = s.size := rfl
  omega
theorem ext_zero (s : ByteArray) : s.extract 0 s.size = s := by
  apply ByteArray.ext
  rw [ByteArray.data_extract]
  exact Array.extract_size
def okS (i : Nat) (c : Int) : Bool := letterB c || (digitB c && !decide (i = 0))
theorem allI_okS : ∀ (l : List Int) (k : Nat), 0 < k → allI okS k l = l.all fun c => letterB c || digitB c
  | [], _, _ => rfl
  | c :: l, k, h => by
    simp only [allI, List.all_cons, allI_okS l (k + 1) (by omega)]
    have : decide (k = 0) = false := by simp; omega
    simp [okS, this]
theorem scan_pos (s : ByteArray) : ∀ (f p : Nat), 0 < p → scan s f p = if ((runesF s f p).all fun c => letterB c || digitB c) = true then some (runesF s f p).length else none
  | 0, p, _ => by simp [scan, runesF]
  | f + 1, p, h => by
    have hp := decode_pos s p
    by_cases h1 : p < s.size
    · have e : runesF s (f + 1) p = ((Utf8.decode s p).1 : Int) :: runesF s f (p + (Utf8.decode s p).2) := by simp only [runesF]; rw [if_pos h1]
      rw [e]
      simp only [scan]
      rw [if_pos h1, scan_pos s f _ (by omega)]
      have h0 : decide (p = 0) = false := by simp; omega
      rw [h0]
      simp only [List.all_cons, Bool.false_or, List.length_cons]
      have key : ∀ (a b d : Bool) (n : Nat), (if (!a && !b) = true then none else Option.map (fun x => x + 1) (if d = true then some n else none)) = (if ((a || b) && d) = true then some (n + 1) else none) := by
        intro a b d n; cases a <;> cases b <;> cases d <;> rfl
      exact key _ _ _ _
    · have e : runesF s (f + 1) p = [] := by simp only [runesF]; rw [if_neg h1]
      rw [e]
      simp only [scan]
      rw [if_neg h1]; simp
theorem scan_zero (s : ByteArray) : scan s s.size 0 = if allI okS 0 (runes s) = true then some (runes s).length else none := by
  unfold runes
  cases hs : s.size with
  | zero => simp [scan, runesF, allI]
  | succ n =>
    have hp := decode_pos s 0
    have e : runesF s (n + 1) 0 = ((Utf8.decode s 0).1 : Int) :: runesF s n (0 + (Utf8.decode s 0).2) := by simp only [runesF]; rw [if_pos (by omega)]
    rw [e]
    simp only [scan]
    rw [if_pos (by omega), scan_pos s n _ (by omega)]
    simp only [allI, Nat.zero_add]
    rw [allI_okS _ 1 (by decide)]
    have h0 : okS 0 ((Utf8.decode s 0).1 : Int) = letterB ((Utf8.decode s 0).1 : Int) := by simp [okS]
    rw [h0]
    simp only [decide_true, Bool.true_or, Bool.and_true, List.length_cons]
    cases ha : letterB ((Utf8.decode s 0).1 : Int) <;> cases hd : (runesF s n (Utf8.decode s 0).2).all (fun c => letterB c || digitB c) <;> simp
theorem nameMay_runes (s : ByteArray) : nameMay s = (allI okS 0 (runes s) && (decide (1 ≤ (runes s).length) && decide ((runes s).length ≤ 8))) := by
  unfold nameMay nameLen
  rw [scan_zero]
  cases h : allI okS 0 (runes s) with
  | false => simp
  | true =>
    simp only [if_true, Bool.true_and]
    split
    · rename_i h2; rw [Bool.eq_iff_iff]; simp; omega
    · rename_i h2; rw [Bool.eq_iff_iff]; simp; omega
theorem runesF_len (s : ByteArray) : ∀ (f p : Nat), (runesF s f p).length ≤ s.size - p
  | 0, p => by simp [runesF]
  | f + 1, p => by
    simp only [runesF]
    split
    · have := runesF_len s f (p + (Utf8.decode s p).2)
      have := decode_pos s p
      simp only [List.length_cons]; omega
    · simp
theorem runes_len (s : ByteArray) : (runes s).length ≤ s.size := runesF_len s s.size 0
/-- Names that are not great. -/
def smallS (s : List GType) : Prop := ∀ t ∈ s, t.Name.size ≤ 1048576 ∧ ∀ f ∈ t.F, f.Name.size ≤ 1048576
section
variable {s : List GType} {fs : List GField} {f : GField} {k : Nat}
theorem field_yes (h1 : ((nameMay f.Name && decide (fFind fs f.Name = k)) && (decide (0 ≤ f.Kind) && decide (f.Kind < 6))) = true) (h2 : (if f.Kind = 5 then decide (0 ≤ sFind s f.To) else decide (f.To = ⟨#[]⟩)) = true) : (fieldMay s f && decide (fFind fs f.Name = k)) = true := by
  simp only [Bool.and_eq_true] at h1
  unfold fieldMay
  rw [h1.1.1, h1.1.2, h1.2.1, h1.2.2]
  simp only [Bool.and_true]
  split
  · rename_i hk; rw [if_pos hk] at h2; simp at h2 ⊢; omega
  · rename_i hk; rw [if_neg hk] at h2; exact h2
theorem field_no1 (h1 : ((nameMay f.Name && decide (fFind fs f.Name = k)) && (decide (0 ≤ f.Kind) && decide (f.Kind < 6))) = false) : (fieldMay s f && decide (fFind fs f.Name = k)) = false := by
  unfold fieldMay
  generalize (if f.Kind = 5 then !decide (sFind s f.To = -1) else decide (f.To = ⟨#[]⟩)) = a
  generalize nameMay f.Name = b at *
  generalize decide (fFind fs f.Name = k) = c at *
  generalize (decide (0 ≤ f.Kind) && decide (f.Kind < 6)) = d at *
  cases a <;> cases b <;> cases c <;> cases d <;> simp_all
theorem fnd_ge {α : Type} (p : α → Bool) (l : List α) : fnd p l = -1 ∨ 0 ≤ fnd p l := by
  unfold fnd; split
  · right; omega
  · left; rfl
theorem field_no2 (h2 : (if f.Kind = 5 then decide (0 ≤ sFind s f.To) else decide (f.To = ⟨#[]⟩)) = false) : (fieldMay s f && decide (fFind fs f.Name = k)) = false := by
  have hg := fnd_ge (fun o : GType => decide (o.Name = f.To)) s
  have : (if f.Kind = 5 then !decide (sFind s f.To = -1) else decide (f.To = ⟨#[]⟩)) = false := by
    split
    · rename_i hk; rw [if_pos hk] at h2; unfold sFind at *; simp at h2 ⊢; omega
    · rename_i hk; rw [if_neg hk] at h2; exact h2
  unfold fieldMay; rw [this]; simp
end
end Go.Ab

namespace Go.Ab
open Go Go.RowKit
set_option maxRecDepth 20000

/-! ### What may be, as the document says it -/
def leadsR (g : Graph) (f : GField) (v : GVal) : Bool :=
  valFits f v && (!decide (f.Kind = 5) || (decide (v.R = -1) || (match objAt g v.R with
    | some o => decide (o.T = sFind g.S f.To)
    | none => false)))
def objectR (g : Graph) (i : Nat) (o : GObj) : Bool :=
  ((decide (0 ≤ o.Id) && decide (o.Id ≤ 1073741824)) && (decide (i = 0) || decide (prevId g.O i < o.Id))) && (match typeAt g.S o.T with
    | some t => decide (o.F.length = t.F.length)
    | none => false)
def leadsAtR (g : Graph) (l : List GField) (k : Nat) (v : GVal) : Bool := match l[k]? with
  | some f => leadsR g f v
  | none => false
def leadsO (g : Graph) (_ : Nat) (o : GObj) : Bool := match typeAt g.S o.T with
  | some t => allI (leadsAtR g t.F) 0 o.F
  | none => false
def rootR (g : Graph) (r : Int) : Bool := decide (r = -1) || (objAt g r).isSome
def rMay (g : Graph) : Bool :=
  ((schemaMay g.S && decide (g.O.length ≤ 8)) && decide (g.Roots.length ≤ 3)) && (allI (objectR g) 0 g.O && (allI (leadsO g) 0 g.O && allI (fun _ r => rootR g r) 0 g.Roots))

theorem rise_ids {l : List GObj} (hr : ∀ (i : Nat) (x : GObj), l[i]? = some x → prevId l i < x.Id) : ∀ (i : Nat) (x : GObj), l[i]? = some x → -1 < x.Id ∧ ∀ (j : Nat) (y : GObj), j < i → l[j]? = some y → y.Id < x.Id := by
  intro i
  induction i with
  | zero => intro x hx; exact ⟨by simpa [prevId] using hr 0 x hx, fun j y hj => by omega⟩
  | succ i ih =>
    intro x hx
    have h1 := hr _ x hx
    have hlt := (List.getElem?_eq_some_iff.1 hx).1
    obtain ⟨z, hz⟩ : ∃ z, l[i]? = some z := ⟨l[i], List.getElem?_eq_getElem (by omega)⟩
    simp only [prevId, hz] at h1
    obtain ⟨h2, h3⟩ := ih z hz
    refine ⟨by omega, fun j y hj hy => ?_⟩
    by_cases e : j = i
    · subst e; rw [hz] at hy; cases hy; exact h1
    · have := h3 j y (by omega) hy; omega
theorem rise_inj {l : List GObj} (hr : ∀ (i : Nat) (x : GObj), l[i]? = some x → prevId l i < x.Id) (i j : Nat) (x y : GObj) (hx : l[i]? = some x) (hy : l[j]? = some y) (e : x.Id = y.Id) : i = j := by
  rcases Nat.lt_trichotomy i j with hl | hl | hl
  · have := (rise_ids hr j y hy).2 i x hl hx; omega
  · exact hl
  · have := (rise_ids hr i x hx).2 j y hl hy; omega
theorem typ_objAt {g : Graph} (hr : ∀ (i : Nat) (x : GObj), g.O[i]? = some x → prevId g.O i < x.Id) (r : Int) : typ g.O r = (objAt g r).map (·.T) := by
  cases ho : objAt g r with
  | none =>
    cases ht : typ g.O r with
    | none => rfl
    | some t =>
      obtain ⟨o, hm, e, _⟩ := typ_some ht
      unfold objAt at ho
      rw [List.find?_eq_none] at ho
      have := ho o hm
      simp [e] at this
  | some o =>
    have hm : o ∈ g.O := List.mem_of_find?_eq_some ho
    have he : o.Id = r := by have := List.find?_some ho; simpa using this
    cases ht : typ g.O r with
    | none => exact absurd he (typ_none ht o hm)
    | some t =>
      obtain ⟨o2, hm2, e2, e3⟩ := typ_some ht
      obtain ⟨i, hi⟩ := List.getElem?_of_mem hm
      obtain ⟨j, hj⟩ := List.getElem?_of_mem hm2
      have := rise_inj hr i j o o2 hi hj (by omega)
      subst this
      rw [hi] at hj; cases hj
      simp [e3]
theorem leadsR_eq {g : Graph} (hr : ∀ (i : Nat) (x : GObj), g.O[i]? = some x → prevId g.O i < x.Id) (f : GField) (v : GVal) : leadsR g f v = leadsB g f v := by
  unfold leadsR leadsB
  rw [typ_objAt hr]
  cases objAt g v.R <;> rfl
theorem rMay_eq (g : Graph) : rMay g = gMay g := by
  rw [Bool.eq_iff_iff, may_iff]
  unfold rMay
  simp only [Bool.and_eq_true, decide_eq_true_eq]
  constructor
  · rintro ⟨⟨⟨h1, h2⟩, h3⟩, h4, h5, h6⟩
    have ho : ∀ (i : Nat) (x : GObj), g.O[i]? = some x → objectR g i x = true := fun i x hx => by simpa using allI_at h4 hx
    have hr : ∀ (i : Nat) (x : GObj), g.O[i]? = some x → prevId g.O i < x.Id := fun i x hx => by
      have := ho i x hx
      unfold objectR at this
      simp only [Bool.and_eq_true, Bool.or_eq_true, decide_eq_true_eq] at this
      cases i with
      | zero => simp only [prevId]; omega
      | succ i => have := this.1.2.resolve_left (by omega); exact this
    refine ⟨h1, h2, h3, fun i x hx => ?_, fun r hr2 => ?_⟩
    · have k1 := ho i x hx
      have k2 := hr i x hx
      have k3 : leadsO g (0 + i) x = true := allI_at h5 hx
      unfold objectR at k1
      unfold leadsO at k3
      unfold objectB
      simp only [Bool.and_eq_true, decide_eq_true_eq] at k1 ⊢
      refine ⟨⟨k2, k1.1.1.2⟩, ?_⟩
      cases ht : typeAt g.S x.T with
      | none => rw [ht] at k3; cases k3
      | some t =>
        rw [ht] at k3 k1
        simp only [Bool.and_eq_true, decide_eq_true_eq] at k1 ⊢
        refine ⟨k1.2, allI_yes fun k v hv => ?_⟩
        have := allI_at k3 hv
        unfold leadsAtR at this
        unfold leadsAt
        cases hf : t.F[0 + k]? with
        | none => rw [hf] at this; cases this
        | some f => rw [hf] at this; simp only at this ⊢; rw [← leadsR_eq hr]; exact this
    · obtain ⟨i, hi⟩ := List.getElem?_of_mem hr2
      have := allI_at h6 hi
      unfold rootR at this
      unfold rootB
      rw [typ_objAt hr]
      simpa using this
  · intro h
    have hr : ∀ (i : Nat) (x : GObj), g.O[i]? = some x → prevId g.O i < x.Id := fun i x hx => (h.objT hx).1
    refine ⟨⟨⟨h.s, h.o⟩, h.r⟩, allI_yes fun i x hx => ?_, allI_yes fun i x hx => ?_, allI_yes fun i r hi => ?_⟩
    · rw [Nat.zero_add]
      obtain ⟨k1, t, k2, k3⟩ := h.objT hx
      unfold objectR
      rw [k2]
      have := h.pos (List.mem_of_getElem? hx)
      simp only [Bool.and_eq_true, Bool.or_eq_true, decide_eq_true_eq]
      exact ⟨⟨⟨this, k3.id⟩, .inr k1⟩, k3.len⟩
    · obtain ⟨k1, t, k2, k3⟩ := h.objT hx
      unfold leadsO
      rw [k2]
      refine allI_yes fun k v hv => ?_
      rw [Nat.zero_add]
      unfold leadsAtR
      obtain ⟨f, hf⟩ : ∃ f, t.F[k]? = some f := ⟨t.F[k]'(by have := (List.getElem?_eq_some_iff.1 hv).1; have := k3.len; omega), List.getElem?_eq_getElem _⟩
      rw [hf]
      simp only
      rw [leadsR_eq hr]
      exact k3.lead k f v hf hv
    · have := h.root r (List.mem_of_getElem? hi)
      unfold rootB at this
      unfold rootR
      rw [typ_objAt hr] at this
      simpa using this
theorem find_cases (g : Graph) (r : Int) : (objAt g r = none ∧ fnd (fun o => decide (o.Id = r)) g.O = -1) ∨ ∃ (p : Nat) (o : GObj), objAt g r = some o ∧ fnd (fun o => decide (o.Id = r)) g.O = p ∧ g.O[p]? = some o := by
  unfold objAt fnd
  cases h : g.O.findIdx? (fun o => decide (o.Id = r)) with
  | none =>
    left
    rw [List.findIdx?_eq_none_iff] at h
    exact ⟨by rw [List.find?_eq_none]; intro x hx; rw [h x hx]; simp, rfl⟩
  | some p =>
    right
    rw [List.findIdx?_eq_some_iff_getElem] at h
    obtain ⟨h1, h2, h3⟩ := h
    refine ⟨p, g.O[p], ?_, rfl, List.getElem?_eq_getElem h1⟩
    rw [List.find?_eq_some_iff_getElem]
    exact ⟨h2, p, h1, rfl, fun j hj => by simpa using h3 j hj⟩
theorem prev_cases (g : Graph) {i : Nat} {o : GObj} (ho : g.O[i]? = some o) (hi : i < 1000000) : (decide ((0 : Int) < (i : Int)) = false ∧ g.O[i]? = some o ∧ g.O[i]? = some o ∧ i = 0) ∨ ∃ (j : Nat) (z : GObj), decide ((0 : Int) < (i : Int)) = true ∧ g.O[j]? = some z ∧ IntKind.i64.wrap ((i : Int) - 1) = (j : Int) ∧ prevId g.O i = z.Id ∧ i ≠ 0 := by
  cases i with
  | zero => left; exact ⟨rfl, ho, ho, rfl⟩
  | succ j =>
    right
    have hlt := (List.getElem?_eq_some_iff.1 ho).1
    refine ⟨j, g.O[j], by simp <;> omega, List.getElem?_eq_getElem (by omega), ?_, by simp only [prevId, List.getElem?_eq_getElem (show j < g.O.length by omega)], by omega⟩
    rw [show (((j + 1 : Nat) : Int) - 1) = (j : Int) by omega]
    simp only [IntKind.wrap, IntKind.bits, IntKind.signed]
    simp
    omega
end Go.Ab

namespace Go.Ab
open Go Go.RowKit

theorem May.rootGe {g : Graph} (h : May g) {r : Int} (hr : rootB g r = true) : -1 ≤ r := by
  unfold rootB at hr
  simp only [Bool.or_eq_true, decide_eq_true_eq] at hr
  rcases hr with h1 | h1
  · omega
  · obtain ⟨p, o, hp, e1, _⟩ := h.find h1
    have := h.pos (List.mem_of_getElem? hp); omega
theorem meet_has {l : List Int} {i : Int} (h : -1 ≤ i) (hb : (decide (i < 0) || l.any fun x => decide (x = i)) = true) : meet l i = l := by
  unfold meet
  rw [if_pos]
  simp only [Bool.or_eq_true, decide_eq_true_eq, List.any_eq_true] at hb
  rcases hb with hb | ⟨x, hx, e⟩
  · left; omega
  · right; exact e ▸ hx
theorem meet_not {l : List Int} {i : Int} (hb : (decide (i < 0) || l.any fun x => decide (x = i)) = false) : meet l i = l ++ [i] := by
  unfold meet
  simp only [Bool.or_eq_false_iff, decide_eq_false_iff_not, List.any_eq_false] at hb
  rw [if_neg]
  rintro (h1 | h1)
  · omega
  · have := hb.2 i h1; simp at this
theorem fnd_atD {g : Graph} (h : May g) {r : Int} (hr : r = -1 ∨ r ∈ Ab.order g) : fnd (fun x => decide (x = r)) (Ab.order g) = atD (Ab.order g) r := by
  by_cases e : r = -1
  · subst e
    rw [atD_none]
    exact fnd_no fun j y hy => by
      have := h.nonneg (List.mem_of_getElem? hy)
      simp; omega
  · obtain ⟨n, h1, h2⟩ := atL_at e (hr.resolve_left e)
    rw [atD_of h1]
    unfold atL at h1
    rw [if_neg e] at h1
    unfold fnd
    cases h3 : (Ab.order g).findIdx? (fun x => decide (x = r)) with
    | none => rw [h3] at h1; simp at h1
    | some m => rw [h3] at h1; simpa using h1
end Go.Ab

namespace Go.Ab
open Go Go.RowKit

/-! ### What comes in, where it is of a bulk at most so great -/
structure BulkOK (bk : {H : Type} → DataW H → Nat) : Prop where
  str : ∀ {H : Type} (l : List UInt8), bk (DataW.lit (H := H) (.string l)) = l.length + 1
  slice : ∀ {H : Type} (elems spare : List (DataW H)) (d : DataW H), d ∈ elems → bk d ≤ bk (.slice elems spare)
  agg : ∀ {H : Type} (parts : List (DataW H)) (d : DataW H), d ∈ parts → bk d ≤ bk (.agg parts)
def DecU (P : Program) (bk : {H : Type} → DataW H → Nat) (Bd : Nat) (t : TypeId) {α : Type} (e : α → List AV) (wf : α → Prop) : Prop :=
  ∀ {H : Type} (enc : TypeId × Value → H) (w : World) (spare : Nat → Bool) (held : Bool) (fuel : Nat) (cs : List Value) (x : DataW H × List MemPlace), DataW.trod enc P w 0 spare held fuel t cs = some x → Small P t x.1 → bk x.1 ≤ Bd →
    ∃ a : α, wf a ∧ RowFR w cs (e a)
section
variable {P : Program} {t : TypeId} {bk : {H : Type} → DataW H → Nat} {Bd : Nat}
theorem DecU.int (ht : P.underlying t = some (.int .i64)) : DecU P bk Bd t eI i64 := by
  intro H enc w spare held fuel cs x h _ hu
  obtain ⟨n, rfl, rfl, hw⟩ := DataW.trod_int ht h
  refine ⟨n, ?_, RowFR.one (.int _ _)⟩
  simp only [Lit.wf, Bool.and_eq_true, decide_eq_true_eq] at hw
  have h1 : IntKind.i64.min = -9223372036854775808 := by decide
  have h2 : IntKind.i64.max = 9223372036854775807 := by decide
  rw [h1, h2] at hw
  exact ⟨hw.1, by omega⟩
theorem DecU.str (hB : BulkOK bk) (ht : P.underlying t = some .string) : DecU P bk Bd t (fun s : ByteArray => [.str s]) (fun s => s.size ≤ Bd) := by
  intro H enc w spare held fuel cs x h hs hu
  obtain ⟨s, rfl, rfl, _⟩ := DataW.trod_string ht h
  have h3 : s.data.toList.length = s.size := Array.length_toList
  have hsz : s.size ≤ Bd := by
    have hu' : bk (DataW.lit (H := H) (.string s.data.toList)) ≤ Bd := hu
    have h2 := hB.str (H := H) s.data.toList; rw [h2] at hu'; omega
  refine ⟨s, hsz, RowFR.one (.str _ ?_)⟩
  have := hs s.data.toList.length (by simp [DataW.weights])
  exact reach_MX (by simpa using this)
theorem DecU.bool (ht : P.underlying t = some .bool) : DecU P bk Bd t (fun b : Bool => [.bool b]) (fun _ => True) := by
  intro H enc w spare held fuel cs x h hs hu
  have hb : ∃ b, cs = [.bool b] := by
    cases fuel with
    | zero => simp [DataW.trod] at h
    | succ n =>
      unfold DataW.trod at h
      rw [ht] at h
      split at h <;> simp_all
  obtain ⟨b, rfl⟩ := hb
  exact ⟨b, trivial, RowFR.one (.bool _)⟩
theorem DecU.slice (hB : BulkOK bk) {e : TypeId} {α : Type} {f : α → List AV} {wf : α → Prop} {n : Nat} (ht : P.underlying t = some (.slice e)) (hn : P.cellsOf e = n) (hp : 1 ≤ n) (hb : 1 ≤ P.bytesOf e) (hf : ∀ a, (f a).length = n) (hd : DecU P bk Bd e f wf) :
    DecU P bk Bd t (fun xs : List α => [.sl n (xs.map f)]) (fun xs => ∀ x ∈ xs, wf x) := by
  intro H enc w spare held fuel cs x h hs hu
  rcases DataW.trod_slice ht h with ⟨rfl, rfl⟩ | ⟨a, len, cap, elems, rest, m, _, rfl, rfl, _, hl, hm, hlen, hel, _, _⟩
  · exact ⟨[], (fun x hx => by cases hx), RowFR.one (.slnil n)⟩
  have hmem : ∀ y ∈ elems, Small P e y.1 := by
    intro y hy k hk
    refine hs k ?_
    simp only [DataW.weights, ht, List.mem_cons, List.mem_append]
    refine .inr (.inl ?_)
    have : ∀ (l : List (DataW H × List MemPlace)), y ∈ l → k ∈ DataW.weightsAll P e (l.map (·.1)) := by
      intro l
      induction l with
      | nil => intro h; cases h
      | cons z l ih =>
        intro h
        simp only [List.map_cons, DataW.weightsAll, List.mem_append]
        rcases List.mem_cons.1 h with rfl | h
        · exact .inl hk
        · exact .inr (ih h)
    exact this elems hy
  have hMX : len ≤ MX := by
    have := hs ((elems.length + rest.length) * P.bytesOf e) (by simp [DataW.weights, ht])
    refine reach_MX (Nat.le_trans ?_ this)
    exact Nat.le_trans (show len ≤ elems.length + rest.length by omega) (Nat.le_mul_of_pos_right _ hb)
  have each : ∀ i, i < len → ∃ (cs : List Value) (b : α), w.cells? 0 (a.add (i * n)) n = some cs ∧ wf b ∧ RowFR w cs (f b) := by
    intro i hi
    have h1 := hel i hi
    have h2 : i < elems.length := by omega
    rw [List.getElem?_eq_getElem h2, hn] at h1
    simp only [Option.bind_eq_some_iff] at h1
    obtain ⟨cs, h3, h4⟩ := h1
    obtain ⟨b, h5, h6⟩ := hd enc w spare held m cs elems[i] h4 (hmem _ (List.getElem_mem _)) (Nat.le_trans (hB.slice _ _ _ (List.mem_map_of_mem (List.getElem_mem _))) hu)
    exact ⟨cs, b, h3, h5, h6⟩
  have list : ∀ k, k ≤ len → ∃ xs : List α, xs.length = k ∧ (∀ x ∈ xs, wf x) ∧ ∀ i b, xs[i]? = some b → ∃ cs, w.cells? 0 (a.add (i * n)) n = some cs ∧ RowFR w cs (f b) := by
    intro k
    induction k with
    | zero => exact fun _ => ⟨[], rfl, fun x hx => (by cases hx), fun i b hb => (by simp at hb)⟩
    | succ k ih =>
      intro hk
      obtain ⟨xs, h1, h2, h3⟩ := ih (by omega)
      obtain ⟨cs, b, h4, h5, h6⟩ := each k (by omega)
      refine ⟨xs ++ [b], by simp [h1], fun x hx => ?_, fun i c hc => ?_⟩
      · rcases List.mem_append.1 hx with hx | hx
        · exact h2 x hx
        · simp at hx; subst hx; exact h5
      · by_cases hi : i < xs.length
        · rw [List.getElem?_append_left hi] at hc; exact h3 i c hc
        · rw [List.getElem?_append_right (by omega)] at hc
          cases e0 : i - xs.length with
          | zero =>
            rw [e0] at hc; simp at hc; subst hc
            have : i = k := by omega
            subst this; exact ⟨cs, h4, h6⟩
          | succ j => rw [e0] at hc; simp at hc
  obtain ⟨xs, h1, h2, h3⟩ := list len (Nat.le_refl _)
  refine ⟨xs, h2, RowFR.one ?_⟩
  cases len with
  | zero =>
    have : xs = [] := List.length_eq_zero_iff.1 h1
    subst this
    exact .slmt n a cap hm
  | succ len =>
    have cell : ∀ i b j v, xs[i]? = some b → (f b)[j]? = some v → a.spot = none ∧ ∃ u, w.cell? ⟨a.block, a.off + (i * n + j), none⟩ = some u ∧ FR w NoOwn v u := by
      intro i b j v hb hv
      obtain ⟨cs, h4, h5⟩ := h3 i b hb
      have hj : j < n := by rw [← hf b]; exact (List.getElem?_eq_some_iff.1 hv).1
      have at_ : ∀ i b, xs[i]? = some b → ∀ j, j < n → ∃ cs, w.cells? 0 (a.add (i * n)) n = some cs ∧ RowFR w cs (f b) ∧ ∃ u, cs[j]? = some u ∧ w.cell? ((a.add (i * n)).add j) = some u := by
        intro i b hb j hj
        obtain ⟨cs, h4, h5⟩ := h3 i b hb
        have h6 := h4
        unfold World.cells? at h6
        rw [if_pos (Nat.zero_le _)] at h6
        have h7 := mapM_some_get h6 j j (by simp [hj])
        have hcl : cs.length = n := by rw [h5.1, hf]
        have h8 : j < cs.length := by omega
        rw [List.getElem?_eq_getElem h8] at h7
        exact ⟨cs, h4, h5, cs[j], List.getElem?_eq_getElem h8, h7⟩
      have hsp : a.spot = none := by
        obtain ⟨b0, hb0⟩ : ∃ b0, xs[0]? = some b0 := ⟨xs[0], List.getElem?_eq_getElem (by omega)⟩
        obtain ⟨_, _, _, u, _, hu⟩ := at_ 0 b0 hb0 0 (by omega)
        simp only [Nat.zero_mul, Addr.add] at hu
        unfold World.cell? at hu
        split at hu
        · simp only [if_true] at hu
          split at hu
          · cases hu
          · rename_i hh; simpa using hh
        · cases hu
      refine ⟨hsp, ?_⟩
      obtain ⟨cs', h4', h5', u, h6, h7⟩ := at_ i b hb j hj
      have e1 : (a.add (i * n)).add j = ⟨a.block, a.off + (i * n + j), none⟩ := by
        unfold Addr.add
        by_cases hi0 : i * n = 0
        · rw [if_pos hi0, hi0]
          by_cases hj0 : j = 0
          · rw [if_pos hj0, hj0]; cases a; simp_all
          · rw [if_neg hj0]; simp
        · rw [if_neg hi0]
          by_cases hj0 : j = 0
          · rw [if_pos hj0, hj0]; simp
          · rw [if_neg hj0]; simp; omega
      rw [e1] at h7
      refine ⟨u, h7, ?_⟩
      have := h5'.2 j v hv
      rw [List.getD_eq_getElem?_getD, h6] at this
      exact this
    have hsp : a.spot = none := by
      obtain ⟨b0, hb0⟩ : ∃ b0, xs[0]? = some b0 := ⟨xs[0], List.getElem?_eq_getElem (by omega)⟩
      obtain ⟨v0, hv0⟩ : ∃ v0, (f b0)[0]? = some v0 := ⟨(f b0)[0]'(by rw [hf]; omega), List.getElem?_eq_getElem _⟩
      exact (cell 0 b0 0 v0 hb0 hv0).1
    obtain ⟨ab, ao, asp⟩ := a
    simp only at hsp; subst hsp
    have hml : (xs.map f).length = len + 1 := by simp [h1]
    rw [← hml]
    refine .sl n (xs.map f) ab ao cap (by omega) hm (by omega) (fun i r hr => ?_) (fun i r j v hr hv => ?_) (fun i r j v hr hv => ?_)
    all_goals
      simp only [List.getElem?_map, Option.map_eq_some_iff] at hr
      obtain ⟨b, hb, rfl⟩ := hr
    · exact hf b
    · obtain ⟨_, u, hu, _⟩ := cell i b j v hb hv
      exact ⟨id, by rw [hu]; rfl⟩
    · obtain ⟨_, u, hu, hfr⟩ := cell i b j v hb hv
      unfold rdw; rw [hu]; exact hfr

theorem DecU.mono {α β : Type} {e : α → List AV} {wf : α → Prop} {e' : β → List AV} {wf' : β → Prop} (h : DecU P bk Bd t e wf) (g : α → β) (hg : ∀ a, wf a → wf' (g a)) (he : ∀ a, e' (g a) = e a) : DecU P bk Bd t e' wf' := by
  intro H enc w spare held fuel cs x hx hs hu
  obtain ⟨a, h1, h2⟩ := h enc w spare held fuel cs x hx hs hu
  exact ⟨g a, hg a h1, by rw [he]; exact h2⟩

theorem DecU.struct (hB : BulkOK bk) {fs : Array Go.Field} (ht : P.underlying t = some (.struct fs)) {H : Type} {enc : TypeId × Value → H} {w : World} {spare : Nat → Bool} {held : Bool} {fuel : Nat} {cs : List Value} {x : DataW H × List MemPlace}
    (h : DataW.trod enc P w 0 spare held fuel t cs = some x) (hs : Small P t x.1) (hu : bk x.1 ≤ Bd) {α : Type} {e : α → List AV} {wf : α → Prop} {i : Nat} {f : Go.Field} (hi : fs[i]? = some f) (hd : DecU P bk Bd f.type e wf) :
    ∃ a : α, wf a ∧ RowFR w ((cs.drop f.offset).take (P.cellsOf f.type)) (e a) := by
  obtain ⟨xs, n, rfl, rfl, hl, hlen, hall⟩ := DataW.trod_struct ht h
  have h1 := hall i f hi
  have h2 : i < xs.length := by rw [hlen]; exact (Array.getElem?_eq_some_iff.1 hi).1
  rw [List.getElem?_eq_getElem h2] at h1
  refine hd enc w spare held n _ _ h1 (fun k hk => hs k ?_) (Nat.le_trans (hB.agg _ _ (List.mem_map_of_mem (List.getElem_mem h2))) hu)
  simp only [DataW.weights, ht]
  refine DataW.weights_mem_each (j := i) (t := f.type) (d := xs[i].1) ?_ ?_ k hk
  · rw [List.getElem?_map, Array.getElem?_toList, hi]; rfl
  · rw [List.getElem?_map, List.getElem?_eq_getElem h2]; rfl
theorem DecU.struct1 (hB : BulkOK bk) {fs : Array Go.Field} (ht : P.underlying t = some (.struct fs)) {f0 : Go.Field} (h0 : fs[0]? = some f0) (o0 : f0.offset = 0) (c : P.cellsOf t = P.cellsOf f0.type)
    {α δ : Type} {e0 : α → List AV} {w0 : α → Prop} (d0 : DecU P bk Bd f0.type e0 w0) {e : δ → List AV} {wf : δ → Prop} (g : α → δ) (hg : ∀ a, w0 a → wf (g a)) (he : ∀ a, e (g a) = e0 a) : DecU P bk Bd t e wf := by
  intro H enc w spare held fuel cs x h hs hu
  obtain ⟨_, _, _, _, hl, _, _⟩ := DataW.trod_struct ht h
  obtain ⟨a, wa, ra⟩ := DecU.struct (hB := hB) ht h hs hu h0 d0
  refine ⟨g a, hg a wa, ?_⟩
  rw [he]
  have e1 : (cs.drop f0.offset).take (P.cellsOf f0.type) = cs := by rw [o0, List.drop_zero, ← c, ← hl, List.take_length]
  rw [e1] at ra; exact ra
theorem DecU.struct2 (hB : BulkOK bk) {fs : Array Go.Field} (ht : P.underlying t = some (.struct fs)) {f0 f1 : Go.Field} (h0 : fs[0]? = some f0) (h1 : fs[1]? = some f1) {n0 n1 : Nat} (c0 : P.cellsOf f0.type = n0) (c1 : P.cellsOf f1.type = n1) (o0 : f0.offset = 0) (o1 : f1.offset = n0) (c : P.cellsOf t = n0 + n1)
    {α β δ : Type} {e0 : α → List AV} {w0 : α → Prop} (d0 : DecU P bk Bd f0.type e0 w0) {e1 : β → List AV} {w1 : β → Prop} (d1 : DecU P bk Bd f1.type e1 w1) {e : δ → List AV} {wf : δ → Prop} (g : α → β → δ) (hg : ∀ a b, w0 a → w1 b → wf (g a b)) (he : ∀ a b, e (g a b) = e0 a ++ e1 b) : DecU P bk Bd t e wf := by
  intro H enc w spare held fuel cs x h hs hu
  obtain ⟨_, _, _, _, hl, _, _⟩ := DataW.trod_struct ht h
  obtain ⟨a, wa, ra⟩ := DecU.struct (hB := hB) ht h hs hu h0 d0
  obtain ⟨b, wb, rb⟩ := DecU.struct (hB := hB) ht h hs hu h1 d1
  refine ⟨g a b, hg a b wa wb, ?_⟩
  rw [he]
  have := ra.append rb
  rw [o0, o1, c0, c1, List.drop_zero, List.take_of_length_le (l := cs.drop n0) (by rw [List.length_drop]; omega), List.take_append_drop] at this
  exact this
theorem DecU.struct3 (hB : BulkOK bk) {fs : Array Go.Field} (ht : P.underlying t = some (.struct fs)) {f0 f1 f2 : Go.Field} (h0 : fs[0]? = some f0) (h1 : fs[1]? = some f1) (h2 : fs[2]? = some f2) {n0 n1 n2 : Nat} (c0 : P.cellsOf f0.type = n0) (c1 : P.cellsOf f1.type = n1) (c2 : P.cellsOf f2.type = n2) (o0 : f0.offset = 0) (o1 : f1.offset = n0) (o2 : f2.offset = n0 + n1) (c : P.cellsOf t = n0 + n1 + n2)
    {α β γ δ : Type} {e0 : α → List AV} {w0 : α → Prop} (d0 : DecU P bk Bd f0.type e0 w0) {e1 : β → List AV} {w1 : β → Prop} (d1 : DecU P bk Bd f1.type e1 w1) {e2 : γ → List AV} {w2 : γ → Prop} (d2 : DecU P bk Bd f2.type e2 w2) {e : δ → List AV} {wf : δ → Prop} (g : α → β → γ → δ) (hg : ∀ a b c, w0 a → w1 b → w2 c → wf (g a b c)) (he : ∀ a b c, e (g a b c) = e0 a ++ (e1 b ++ e2 c)) : DecU P bk Bd t e wf := by
  intro H enc w spare held fuel cs x h hs hu
  obtain ⟨_, _, _, _, hl, _, _⟩ := DataW.trod_struct ht h
  obtain ⟨a, wa, ra⟩ := DecU.struct (hB := hB) ht h hs hu h0 d0
  obtain ⟨b, wb, rb⟩ := DecU.struct (hB := hB) ht h hs hu h1 d1
  obtain ⟨c', wc, rc⟩ := DecU.struct (hB := hB) ht h hs hu h2 d2
  refine ⟨g a b c', hg a b c' wa wb wc, ?_⟩
  rw [he]
  have := ra.append (rb.append rc)
  have e3 : (cs.drop n0).take n1 ++ (cs.drop (n0 + n1)).take n2 = cs.drop n0 := by
    rw [List.take_of_length_le (l := cs.drop (n0 + n1)) (by rw [List.length_drop]; omega), ← List.drop_drop, List.take_append_drop]
  rw [o0, o1, o2, c0, c1, c2, List.drop_zero, e3, List.take_append_drop] at this
  exact this


def ArgOKU (P : Program) (bk : {H : Type} → DataW H → Nat) (Bd : Nat) (t : TypeId) {α : Type} (e : α → AV) (wf : α → Prop) : Prop :=
  ∀ {H : Type} (enc : TypeId × Value → H) (W : World) (base : Nat) (v : Value) (d : DataW H) (p : List MemPlace), DataW.Trod enc P W 0 (fun _ => true) true t v d p → Value.okWide P W .any base t v → Small P t d → bk d ≤ Bd → ∃ a, wf a ∧ FR W NoOwn (e a) v
theorem ArgOKU.struct {t : TypeId} {fs : Array Go.Field} (ht : P.underlying t = some (.struct fs)) {α : Type} {e : α → List AV} {wf : α → Prop} (hd : DecU P bk Bd t e wf) : ArgOKU P bk Bd t (fun a => .agg (e a)) wf := by
  intro H enc W base v d p h hv hs hu
  obtain ⟨fuel, h⟩ := h
  obtain ⟨a, h1, h2⟩ := hd enc W _ _ fuel _ _ h hs hu
  simp only [Value.okWide, ht] at hv
  obtain ⟨cs, rfl, _⟩ := hv
  exact ⟨a, h1, FR.of_agg (by simpa [Value.cells] using h2)⟩
theorem ArgOKU.cell {t : TypeId} {α : Type} {e : α → AV} {wf : α → Prop} (hd : DecU P bk Bd t (fun a => [e a]) wf) (hv : ∀ (W : World) (base : Nat) (v : Value), Value.okWide P W .any base t v → v.cells = #[v]) : ArgOKU P bk Bd t e wf := by
  intro H enc W base v d p h hw hs hu
  obtain ⟨fuel, h⟩ := h
  obtain ⟨a, h1, h2⟩ := hd enc W _ _ fuel _ _ h hs hu
  rw [hv W base v hw] at h2
  exact ⟨a, h1, FR.of_cell h2⟩
/-- All arguments: their values as 'K' has them. -/
def ArgsOKU (P : Program) (bk : {H : Type} → DataW H → Nat) (Bd : Nat) (ts : List TypeId) (K : List AV → Prop) : Prop :=
  ∀ {H : Type} (enc : TypeId × Value → H) (W : World) (base : Nat) (vs : List Value) (ds : List (DataW H)) (p : List MemPlace), DataW.TrodAll enc P W 0 (fun _ => true) true ts vs ds p →
    (∀ (j : Nat) t v, ts[j]? = some t → vs[j]? = some v → Value.okWide P W .any base t v) → (∀ n ∈ DataW.weightsEach P ts ds, n ≤ reachBytes) → (∀ d ∈ ds, bk d ≤ Bd) →
    ∃ l, K l ∧ vs.length = l.length ∧ ∀ (i : Nat) (a : AV), l[i]? = some a → FR W NoOwn a (vs.getD i undef)
theorem ArgsOKU.nil : ArgsOKU P bk Bd [] (· = []) := by
  intro H enc W base vs ds p h _ _ _
  obtain ⟨rfl, rfl, rfl⟩ := Go.ChangeShapes.trodAll_nil h
  exact ⟨[], rfl, rfl, fun i a ha => by simp at ha⟩
theorem ArgsOKU.cons {t : TypeId} {ts : List TypeId} {α : Type} {e : α → AV} {wf : α → Prop} {K : List AV → Prop} (h0 : ArgOKU P bk Bd t e wf) (hK : ArgsOKU P bk Bd ts K) : ArgsOKU P bk Bd (t :: ts) (fun l => ∃ a l', wf a ∧ K l' ∧ l = e a :: l') := by
  intro H enc W base vs ds p h hv hs hu
  obtain ⟨v, vs', d, ds', p0, q, rfl, rfl, rfl, k0, k1⟩ := Go.ChangeShapes.trodAll_cons h
  obtain ⟨a, w1, w2⟩ := h0 enc W base v d p0 k0 (hv 0 t v rfl rfl) (fun n hn => hs n (by simp only [DataW.weightsEach, List.mem_append]; exact .inl hn)) (hu d List.mem_cons_self)
  obtain ⟨l, w3, w4, w5⟩ := hK enc W base vs' ds' q k1 (fun j t' v' ht hv' => hv (j + 1) t' v' (by simpa using ht) (by simpa using hv')) (fun n hn => hs n (by simp only [DataW.weightsEach, List.mem_append]; exact .inr hn)) (fun d' hd' => hu d' (List.mem_cons_of_mem _ hd'))
  refine ⟨e a :: l, ⟨a, l, w1, w3, rfl⟩, by simp [w4], fun i b hb => ?_⟩
  cases i with
  | zero => simp at hb; subst hb; simpa using w2
  | succ i => simpa using w5 i b (by simpa using hb)


theorem law_row_upto {C : Checked} {os : Os} {f : FuncId} {fn : Func} {s0 : ChangeSpec} {s : OpenSpec} {kk : (H : Type) → List (DataW H) → Bool} {tb : TypeId} {K : List AV → Prop} {H : Type} {enc : TypeId × Value → H} {F : Stop.Interp} (hse : s = { OpenSpec.ofChange s0 with cond := some kk }) (own : ownKnob C.prog.godebug = none) (started : os.Started) (noInit : C.prog.inits.idxOf? f = none) (hfn : C.prog.funcs[f]? = some fn)
    (witness : ∃ (w : World) (tape : Tape) (i : Input), w.os = os ∧ (w.forCall tape i).Shaped C.prog ∧ i.vars = [] ∧ Input.okWide C.prog (w.forCall tape i) .any w.heap.size f i ∧
      s.pre6 enc C.prog fn [] false (w.forCall tape i).memory i.args ∧ Assume.holds {} C.prog (lone (Frame.enter C.prog f i.args .normal) [] (w.forCall tape i)))
    (hl : laidOutB C.prog = true) (hrd : ∀ t ∈ fn.params.toList, C.prog.readableRec t = true ∧ t < C.prog.types.size) (hres : fn.resultTypes = #[tb]) (htb : C.prog.underlying tb = some .bool) (hvars : s0.vars = [])
    (hspec : ∀ ds : List (DataW H), ds.length = fn.params.size → s0.fn H ds = { results := [.lit (.bool true)], args := ds }) (hbk : ∀ ds : List (DataW H), kk H ds = true → ∀ d ∈ ds, bk d ≤ Bd) (hdec : ArgsOKU C.prog bk Bd fn.params.toList K) (hlaw : ∀ l, K l → PCall C.prog false f l (· = .bool true)) :
    ReturnsInHanded {} C os f .any (s.pre6 enc C.prog fn [] false) ((s.at F).post enc C.prog fn false true false false) := by
  subst hse
  refine returnsInHanded_of_cond_sized (k := kk) rfl own started noInit hfn witness ?_
  intro W base args ds gs before hval hW _ hkk hsz _
  have hat : (OpenSpec.at { OpenSpec.ofChange s0 with cond := some kk } F).fn H = s0.fn H := rfl
  have hvs : (OpenSpec.at { OpenSpec.ofChange s0 with cond := some kk } F).vars = s0.vars := rfl
  have hW0 : DataW.Whole enc C.prog fn.params.toList s0.vars false W args.toList ds gs before := hW
  have hW' := hW0
  obtain ⟨p, q, hA, hV, rfl, hfz, hnd⟩ := hW0
  rw [hvars] at hV
  obtain ⟨rfl, rfl⟩ := Go.ChangeShapes.trodVars_none hV
  have hlen : ∀ {ts : List TypeId} {vs : List Value} {ds : List (DataW H)} {ps : List MemPlace}, DataW.TrodAll enc C.prog W 0 (fun _ => true) true ts vs ds ps → ds.length = ts.length := by
    intro ts
    induction ts with
    | nil => intro vs ds ps h; obtain ⟨_, rfl, _⟩ := Go.ChangeShapes.trodAll_nil h; rfl
    | cons t ts ih => intro vs ds ps h; obtain ⟨v, vs', d, ds', p0, q, rfl, rfl, rfl, _, k1⟩ := Go.ChangeShapes.trodAll_cons h; simp [ih k1]
  have hdl : ds.length = fn.params.size := by rw [hlen hA]; simp
  have hvt : (OpenSpec.bare { OpenSpec.ofChange s0 with cond := some kk }).plain.varTypes C.prog = [] := by
    simp [DataSpec.varTypes, ChangeSpec.plain, OpenSpec.bare, OpenSpec.ofChange, hvars]
  rw [hvt, List.append_nil, List.append_nil] at hsz
  rw [List.append_nil] at hkk
  obtain ⟨l, k1, k2, k3⟩ := hdec enc W base args.toList ds p hA (fun j t v ht hv => hval j t v (by simpa using ht) (by simpa using hv)) (fun n hn => by simpa using List.all_eq_true.1 hsz n hn) (hbk ds hkk)
  have hcall := (hlaw l k1).2 W NoOwn args.toList (fun b hb => hb.elim) k2 k3
  rw [Array.toArray_toList] at hcall
  refine hcall.mono fun e W' he => ?_
  cases e with
  | panicked _ => exact he.elim
  | outgrown => cases he
  | returned v =>
    obtain ⟨r, rfl, h1, h2⟩ := he
    cases h1
    have hb := below_of_fr h2
    refine ⟨_, rfl, ds, [], p ++ [], [], p, [], hW', ?_, ?_, ?_, hb.frame _, fun h => by cases h⟩
    · rw [List.append_nil, hat, hspec ds hdl, hres]
      exact Go.ChangeShapes.trodAll_mk1 (shut_bool htb true)
    · rw [List.append_nil, hat, hspec ds hdl]
      exact trodAll_stays hl hb hrd hA (fun x hx => by simpa using hW'.lt x (by simpa using hx))
    · rw [List.append_nil, hat, hvs, hspec ds hdl, hvars]
      exact rfl
end
end Go.Ab

