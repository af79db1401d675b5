/-
  What functions of the program answer: each by its contract. No condition but those of each theorem.
-/
import Derived.WalkKit
import Derived.Below
import Derived.Scope
import Derived.Orders
import Derived.Test.YtgmegmfbedgabaaProg
import Derived.Still
import Derived.WalkSmall
import Derived.Tactics
import Derived.Tactics2
import Derived.Defers
import Derived.Recover
import Derived.Laws.Pointers
import Derived.Lib.AppendStr
import Derived.ArgAppend
import Derived.Lib.ConvBytes
import Derived.Shelf.Strings.OnBuilder
import Derived.Test.YtgmegmfbedgabaaFa
import Derived.Test.YtgmegmfbedgabaaFb
import Derived.Test.YtgmegmfbedgabaaFc
import Derived.Test.YtgmegmfbedgabaaFd
import Derived.Test.YtgmegmfbedgabaaFe
import Derived.Test.YtgmegmfbedgabaaFf
import Derived.Test.YtgmegmfbedgabaaDa
set_option linter.unusedVariables false
set_option linter.unusedSimpArgs false
namespace Go.Ab
open Go Go.Proofs.Try
set_option maxRecDepth 100000
@[go_sem] theorem tt_3 : tiOf prog 3 = some ⟨.int IntKind.i64, 1, 8, [.int .i64 0], false⟩ := by kernel_rfl
@[go_sem] theorem tt_4 : tiOf prog 4 = some ⟨.bool, 1, 1, [.bool false], false⟩ := by kernel_rfl
@[go_sem] theorem tt_9 : tiOf prog 9 = some ⟨.str, 1, 16, [.str ⟨#[]⟩], false⟩ := by kernel_rfl
@[go_sem] theorem tt_26 : tiOf prog 26 = some ⟨.slice 3, 1, 24, [.nilsl], false⟩ := by kernel_rfl
@[go_sem] theorem tt_5 : tiOf prog 5 = some ⟨.int IntKind.u8, 1, 1, [.int .u8 0], false⟩ := by kernel_rfl
@[go_sem] theorem tt_21 : tiOf prog 21 = some ⟨.int IntKind.i32, 1, 4, [.int .i32 0], false⟩ := by kernel_rfl
@[go_sem] theorem tt_22 : tiOf prog 22 = some ⟨.slice 58, 1, 24, [.nilsl], false⟩ := by kernel_rfl
@[go_sem] theorem tt_24 : tiOf prog 24 = some ⟨.struct [(22, 0)], 1, 24, [.nilsl], true⟩ := by kernel_rfl
@[go_sem] theorem tt_25 : tiOf prog 25 = some ⟨.slice 53, 1, 24, [.nilsl], false⟩ := by kernel_rfl
@[go_sem] theorem tt_28 : tiOf prog 28 = some ⟨.struct [(24, 0), (25, 1), (26, 2)], 3, 72, [.nilsl, .nilsl, .nilsl], true⟩ := by kernel_rfl
@[go_sem] theorem tt_51 : tiOf prog 51 = some ⟨.slice 48, 1, 24, [.nilsl], false⟩ := by kernel_rfl
@[go_sem] theorem tt_53 : tiOf prog 53 = some ⟨.struct [(3, 0), (3, 1), (51, 2)], 3, 40, [.int .i64 0, .int .i64 0, .nilsl], true⟩ := by kernel_rfl
@[go_sem] theorem tt_48 : tiOf prog 48 = some ⟨.struct [(3, 0), (9, 1), (3, 2)], 3, 32, [.int .i64 0, .str ⟨#[]⟩, .int .i64 0], true⟩ := by kernel_rfl
@[go_sem] theorem tt_55 : tiOf prog 55 = some ⟨.struct [(9, 0), (3, 1), (9, 2)], 3, 40, [.str ⟨#[]⟩, .int .i64 0, .str ⟨#[]⟩], true⟩ := by kernel_rfl
@[go_sem] theorem tt_56 : tiOf prog 56 = some ⟨.slice 55, 1, 24, [.nilsl], false⟩ := by kernel_rfl
@[go_sem] theorem tt_58 : tiOf prog 58 = some ⟨.struct [(9, 0), (56, 1)], 2, 40, [.str ⟨#[]⟩, .nilsl], true⟩ := by kernel_rfl
theorem mixed : prog.follows .mixedOrders = true := by kernel_rfl
theorem htt : TTok prog (tiOf prog) := tiOf_ok prog
theorem index_Obj (up : Bool) (xs : List GObj) (p : GObj → Bool) (fn : FuncId) (caps : List AV) (hc : pureL caps = true) (hp : ∀ x ∈ xs, PCall prog up fn (.agg (eObj x) :: caps) (· = .bool (p x))) : PCall prog up 50 [.sl 3 (xs.map eObj), .func (.func fn) [] caps] (· = .int .i64 (fnd p xs)) := by
  refine PCall.intro htt func50 (by kernel_rfl) rfl (Nat.le_of_ble_eq_true rfl) fun hl => ?_
  have hb := (hl (.sl 3 (xs.map eObj)) (by simp)).sl.1
  simp only [List.length_map] at hb
  simp only [tmps0, Nat.reduceAdd]
  refine CW.seq (.rg (.rn htt 1 (.done ?_)))
  refine CW.seq (.seq (.rg (.rn htt 3 (.done ?_))))
  refine CW.block ?_
  refine CW.loop (S := Nat) (fun i => ⟨0, [(0, .sl 3 (xs.map eObj)), (1, .func (.func fn) [] caps), (7, .int .i64 xs.length), (8, .int .i64 i)], []⟩) (fun i => i ≤ xs.length ∧ ∀ (j : Nat) (y), j < i → xs[j]? = some y → p y = false) (fun i => xs.length - i) (0) ?_ ⟨Nat.zero_le _, fun j y hj => by omega⟩ (fun i ⟨h1, h2⟩ => ?_)
  · refine Sh.wk0 ?_; simp [Wk, go_sem, simprocAttr]; exact ⟨[], caps, ⟨rfl, rfl⟩, by simp [SubL], SubL_pure _ _ hc⟩
  refine CW.seq (.rg (.rn htt 1 (.done ?_)))
  refine CW.seq ?_
  refine CW.cd (fun ct9 => ?_) (fun ct9 => ?_)
  · have hi : i < xs.length := by simpa using ct9
    obtain ⟨x, hx⟩ : ∃ x, xs[i]? = some x := ⟨xs[i], List.getElem?_eq_getElem hi⟩
    refine CW.skip ?_
    refine CW.seq ?_
    refine CW.block ?_
    refine CW.seq (.rg (.rn htt 2 (.done ?_)))
    refine CW.seq (.rg (.run htt 5 (by simp only [go_sem, simprocAttr, hx, hc, eObj]; exact rfl) (by simp [go_sem, simprocAttr, hx, hc, eObj]) ?_))
    refine CWops.callA (hp x (List.mem_of_getElem? hx)) (by simp only [go_sem, simprocAttr, hx, hc, eObj]) (by simp only [go_sem, simprocAttr, hx, hc, eObj] <;> exact rfl) (by simp only [go_sem, simprocAttr, hx, hc, eObj]) (by simp only [go_sem, simprocAttr, hx, hc, eObj]) (fun rt16 hrt16 => ?_)
    subst hrt16
    refine CWops.done ?_
    refine CW.cd (fun ct16 => ?_) (fun ct16 => ?_)
    · refine CW.seq (.rg (.rn htt 2 (.done ?_)))
      refine CW.ret ?_
      refine retQ.rt (by simp only [f50, go_sem, simprocAttr]; exact rfl) ?_
      refine ⟨_, ?_, rfl⟩
      simp only [leP, AV.int.injEq, true_and]; exact (fnd_at hx ct16 h2).symm
    · refine CW.skip ?_
      refine CW.rg (.run htt 2 (by simp only [go_sem, simprocAttr, wrap_succ (Nat.lt_of_lt_of_le hi hb)]; exact rfl) (by simp [go_sem, simprocAttr, wrap_succ (Nat.lt_of_lt_of_le hi hb)]) (.done ?_))
      refine ⟨i + 1, ?_, ?_, ?_⟩
      · refine Sh.wk0 ?_; simp [Wk, go_sem, simprocAttr]; exact ⟨[], caps, ⟨rfl, rfl⟩, by simp [SubL], SubL_pure _ _ hc⟩
      · exact ⟨hi, below_succ h2 hx ct16⟩
      · simp only; omega
  · have hi : i = xs.length := by simp at ct9; omega
    refine CW.exit ?_
    refine CW.seq (.rg (.rn htt 1 (.done ?_)))
    refine CW.ret ?_
    refine retQ.rt (by simp only [f50, go_sem, simprocAttr]; exact rfl) ?_
    refine ⟨_, ?_, rfl⟩
    simp only [leP, AV.int.injEq, true_and]; exact (fnd_no (below_all (by rw [← hi]; exact h2))).symm
theorem index_Type (up : Bool) (xs : List GType) (p : GType → Bool) (fn : FuncId) (caps : List AV) (hc : pureL caps = true) (hp : ∀ x ∈ xs, PCall prog up fn (.agg (eType x) :: caps) (· = .bool (p x))) : PCall prog up 107 [.sl 2 (xs.map eType), .func (.func fn) [] caps] (· = .int .i64 (fnd p xs)) := by
  refine PCall.intro htt func107 (by kernel_rfl) rfl (Nat.le_of_ble_eq_true rfl) fun hl => ?_
  have hb := (hl (.sl 2 (xs.map eType)) (by simp)).sl.1
  simp only [List.length_map] at hb
  simp only [tmps0, Nat.reduceAdd]
  refine CW.seq (.rg (.rn htt 1 (.done ?_)))
  refine CW.seq (.seq (.rg (.rn htt 3 (.done ?_))))
  refine CW.block ?_
  refine CW.loop (S := Nat) (fun i => ⟨0, [(0, .sl 2 (xs.map eType)), (1, .func (.func fn) [] caps), (7, .int .i64 xs.length), (8, .int .i64 i)], []⟩) (fun i => i ≤ xs.length ∧ ∀ (j : Nat) (y), j < i → xs[j]? = some y → p y = false) (fun i => xs.length - i) (0) ?_ ⟨Nat.zero_le _, fun j y hj => by omega⟩ (fun i ⟨h1, h2⟩ => ?_)
  · refine Sh.wk0 ?_; simp [Wk, go_sem, simprocAttr]; exact ⟨[], caps, ⟨rfl, rfl⟩, by simp [SubL], SubL_pure _ _ hc⟩
  refine CW.seq (.rg (.rn htt 1 (.done ?_)))
  refine CW.seq ?_
  refine CW.cd (fun ct9 => ?_) (fun ct9 => ?_)
  · have hi : i < xs.length := by simpa using ct9
    obtain ⟨x, hx⟩ : ∃ x, xs[i]? = some x := ⟨xs[i], List.getElem?_eq_getElem hi⟩
    refine CW.skip ?_
    refine CW.seq ?_
    refine CW.block ?_
    refine CW.seq (.rg (.rn htt 2 (.done ?_)))
    refine CW.seq (.rg (.run htt 5 (by simp only [go_sem, simprocAttr, hx, hc, eType]; exact rfl) (by simp [go_sem, simprocAttr, hx, hc, eType]) ?_))
    refine CWops.callA (hp x (List.mem_of_getElem? hx)) (by simp only [go_sem, simprocAttr, hx, hc, eType]) (by simp only [go_sem, simprocAttr, hx, hc, eType] <;> exact rfl) (by simp only [go_sem, simprocAttr, hx, hc, eType]) (by simp only [go_sem, simprocAttr, hx, hc, eType]) (fun rt16 hrt16 => ?_)
    subst hrt16
    refine CWops.done ?_
    refine CW.cd (fun ct16 => ?_) (fun ct16 => ?_)
    · refine CW.seq (.rg (.rn htt 2 (.done ?_)))
      refine CW.ret ?_
      refine retQ.rt (by simp only [f107, go_sem, simprocAttr]; exact rfl) ?_
      refine ⟨_, ?_, rfl⟩
      simp only [leP, AV.int.injEq, true_and]; exact (fnd_at hx ct16 h2).symm
    · refine CW.skip ?_
      refine CW.rg (.run htt 2 (by simp only [go_sem, simprocAttr, wrap_succ (Nat.lt_of_lt_of_le hi hb)]; exact rfl) (by simp [go_sem, simprocAttr, wrap_succ (Nat.lt_of_lt_of_le hi hb)]) (.done ?_))
      refine ⟨i + 1, ?_, ?_, ?_⟩
      · refine Sh.wk0 ?_; simp [Wk, go_sem, simprocAttr]; exact ⟨[], caps, ⟨rfl, rfl⟩, by simp [SubL], SubL_pure _ _ hc⟩
      · exact ⟨hi, below_succ h2 hx ct16⟩
      · simp only; omega
  · have hi : i = xs.length := by simp at ct9; omega
    refine CW.exit ?_
    refine CW.seq (.rg (.rn htt 1 (.done ?_)))
    refine CW.ret ?_
    refine retQ.rt (by simp only [f107, go_sem, simprocAttr]; exact rfl) ?_
    refine ⟨_, ?_, rfl⟩
    simp only [leP, AV.int.injEq, true_and]; exact (fnd_no (below_all (by rw [← hi]; exact h2))).symm
theorem index_Field (up : Bool) (xs : List GField) (p : GField → Bool) (fn : FuncId) (caps : List AV) (hc : pureL caps = true) (hp : ∀ x ∈ xs, PCall prog up fn (.agg (eField x) :: caps) (· = .bool (p x))) : PCall prog up 112 [.sl 3 (xs.map eField), .func (.func fn) [] caps] (· = .int .i64 (fnd p xs)) := by
  refine PCall.intro htt func112 (by kernel_rfl) rfl (Nat.le_of_ble_eq_true rfl) fun hl => ?_
  have hb := (hl (.sl 3 (xs.map eField)) (by simp)).sl.1
  simp only [List.length_map] at hb
  simp only [tmps0, Nat.reduceAdd]
  refine CW.seq (.rg (.rn htt 1 (.done ?_)))
  refine CW.seq (.seq (.rg (.rn htt 3 (.done ?_))))
  refine CW.block ?_
  refine CW.loop (S := Nat) (fun i => ⟨0, [(0, .sl 3 (xs.map eField)), (1, .func (.func fn) [] caps), (7, .int .i64 xs.length), (8, .int .i64 i)], []⟩) (fun i => i ≤ xs.length ∧ ∀ (j : Nat) (y), j < i → xs[j]? = some y → p y = false) (fun i => xs.length - i) (0) ?_ ⟨Nat.zero_le _, fun j y hj => by omega⟩ (fun i ⟨h1, h2⟩ => ?_)
  · refine Sh.wk0 ?_; simp [Wk, go_sem, simprocAttr]; exact ⟨[], caps, ⟨rfl, rfl⟩, by simp [SubL], SubL_pure _ _ hc⟩
  refine CW.seq (.rg (.rn htt 1 (.done ?_)))
  refine CW.seq ?_
  refine CW.cd (fun ct9 => ?_) (fun ct9 => ?_)
  · have hi : i < xs.length := by simpa using ct9
    obtain ⟨x, hx⟩ : ∃ x, xs[i]? = some x := ⟨xs[i], List.getElem?_eq_getElem hi⟩
    refine CW.skip ?_
    refine CW.seq ?_
    refine CW.block ?_
    refine CW.seq (.rg (.rn htt 2 (.done ?_)))
    refine CW.seq (.rg (.run htt 5 (by simp only [go_sem, simprocAttr, hx, hc, eField]; exact rfl) (by simp [go_sem, simprocAttr, hx, hc, eField]) ?_))
    refine CWops.callA (hp x (List.mem_of_getElem? hx)) (by simp only [go_sem, simprocAttr, hx, hc, eField]) (by simp only [go_sem, simprocAttr, hx, hc, eField] <;> exact rfl) (by simp only [go_sem, simprocAttr, hx, hc, eField]) (by simp only [go_sem, simprocAttr, hx, hc, eField]) (fun rt16 hrt16 => ?_)
    subst hrt16
    refine CWops.done ?_
    refine CW.cd (fun ct16 => ?_) (fun ct16 => ?_)
    · refine CW.seq (.rg (.rn htt 2 (.done ?_)))
      refine CW.ret ?_
      refine retQ.rt (by simp only [f112, go_sem, simprocAttr]; exact rfl) ?_
      refine ⟨_, ?_, rfl⟩
      simp only [leP, AV.int.injEq, true_and]; exact (fnd_at hx ct16 h2).symm
    · refine CW.skip ?_
      refine CW.rg (.run htt 2 (by simp only [go_sem, simprocAttr, wrap_succ (Nat.lt_of_lt_of_le hi hb)]; exact rfl) (by simp [go_sem, simprocAttr, wrap_succ (Nat.lt_of_lt_of_le hi hb)]) (.done ?_))
      refine ⟨i + 1, ?_, ?_, ?_⟩
      · refine Sh.wk0 ?_; simp [Wk, go_sem, simprocAttr]; exact ⟨[], caps, ⟨rfl, rfl⟩, by simp [SubL], SubL_pure _ _ hc⟩
      · exact ⟨hi, below_succ h2 hx ct16⟩
      · simp only; omega
  · have hi : i = xs.length := by simp at ct9; omega
    refine CW.exit ?_
    refine CW.seq (.rg (.rn htt 1 (.done ?_)))
    refine CW.ret ?_
    refine retQ.rt (by simp only [f112, go_sem, simprocAttr]; exact rfl) ?_
    refine ⟨_, ?_, rfl⟩
    simp only [leP, AV.int.injEq, true_and]; exact (fnd_no (below_all (by rw [← hi]; exact h2))).symm
theorem index_int (up : Bool) (xs : List Int) (p : Int → Bool) (fn : FuncId) (caps : List AV) (hc : pureL caps = true) (hp : ∀ x ∈ xs, PCall prog up fn (.int .i64 x :: caps) (· = .bool (p x))) : PCall prog up 95 [.sl 1 (xs.map eI), .func (.func fn) [] caps] (· = .int .i64 (fnd p xs)) := by
  refine PCall.intro htt func95 (by kernel_rfl) rfl (Nat.le_of_ble_eq_true rfl) fun hl => ?_
  have hb := (hl (.sl 1 (xs.map eI)) (by simp)).sl.1
  simp only [List.length_map] at hb
  simp only [tmps0, Nat.reduceAdd]
  refine CW.seq (.rg (.rn htt 1 (.done ?_)))
  refine CW.seq (.seq (.rg (.rn htt 3 (.done ?_))))
  refine CW.block ?_
  refine CW.loop (S := Nat) (fun i => ⟨0, [(0, .sl 1 (xs.map eI)), (1, .func (.func fn) [] caps), (7, .int .i64 xs.length), (8, .int .i64 i)], []⟩) (fun i => i ≤ xs.length ∧ ∀ (j : Nat) (y), j < i → xs[j]? = some y → p y = false) (fun i => xs.length - i) (0) ?_ ⟨Nat.zero_le _, fun j y hj => by omega⟩ (fun i ⟨h1, h2⟩ => ?_)
  · refine Sh.wk0 ?_; simp [Wk, go_sem, simprocAttr]; exact ⟨[], caps, ⟨rfl, rfl⟩, by simp [SubL], SubL_pure _ _ hc⟩
  refine CW.seq (.rg (.rn htt 1 (.done ?_)))
  refine CW.seq ?_
  refine CW.cd (fun ct9 => ?_) (fun ct9 => ?_)
  · have hi : i < xs.length := by simpa using ct9
    obtain ⟨x, hx⟩ : ∃ x, xs[i]? = some x := ⟨xs[i], List.getElem?_eq_getElem hi⟩
    refine CW.skip ?_
    refine CW.seq ?_
    refine CW.block ?_
    refine CW.seq (.rg (.rn htt 2 (.done ?_)))
    refine CW.seq (.rg (.run htt 5 (by simp only [go_sem, simprocAttr, hx, hc, eI]; exact rfl) (by simp [go_sem, simprocAttr, hx, hc, eI]) ?_))
    refine CWops.callA (hp x (List.mem_of_getElem? hx)) (by simp only [go_sem, simprocAttr, hx, hc, eI]) (by simp only [go_sem, simprocAttr, hx, hc, eI] <;> exact rfl) (by simp only [go_sem, simprocAttr, hx, hc, eI]) (by simp only [go_sem, simprocAttr, hx, hc, eI]) (fun rt16 hrt16 => ?_)
    subst hrt16
    refine CWops.done ?_
    refine CW.cd (fun ct16 => ?_) (fun ct16 => ?_)
    · refine CW.seq (.rg (.rn htt 2 (.done ?_)))
      refine CW.ret ?_
      refine retQ.rt (by simp only [f95, go_sem, simprocAttr]; exact rfl) ?_
      refine ⟨_, ?_, rfl⟩
      simp only [leP, AV.int.injEq, true_and]; exact (fnd_at hx ct16 h2).symm
    · refine CW.skip ?_
      refine CW.rg (.run htt 2 (by simp only [go_sem, simprocAttr, wrap_succ (Nat.lt_of_lt_of_le hi hb)]; exact rfl) (by simp [go_sem, simprocAttr, wrap_succ (Nat.lt_of_lt_of_le hi hb)]) (.done ?_))
      refine ⟨i + 1, ?_, ?_, ?_⟩
      · refine Sh.wk0 ?_; simp [Wk, go_sem, simprocAttr]; exact ⟨[], caps, ⟨rfl, rfl⟩, by simp [SubL], SubL_pure _ _ hc⟩
      · exact ⟨hi, below_succ h2 hx ct16⟩
      · simp only; omega
  · have hi : i = xs.length := by simp at ct9; omega
    refine CW.exit ?_
    refine CW.seq (.rg (.rn htt 1 (.done ?_)))
    refine CW.ret ?_
    refine retQ.rt (by simp only [f95, go_sem, simprocAttr]; exact rfl) ?_
    refine ⟨_, ?_, rfl⟩
    simp only [leP, AV.int.injEq, true_and]; exact (fnd_no (below_all (by rw [← hi]; exact h2))).symm
end Go.Ab
namespace Go.Ab
open Go Go.Proofs.Try
set_option maxRecDepth 100000
set_option maxHeartbeats 1600000
theorem told_idle (p : Addr) (w : World) : CallsD prog 67 #[.pointer (some p)] .returning w fun e u' w' => e = .returned (.tuple #[]) ∧ u' = .returning ∧ w' = w := by
  refine callsD_of_wpS func67 rfl fun c₀ cs hu => ?_
  apply wpS_seq
  apply wpS_region
  simp [wpOpsS, go_sem, recoverD, hu, ntmps67, Exit.thenS]
  refine wpS_of_wp ?_
  go_wp2
  cases c₀
  simp_all [bodyPostS, results, results67]
theorem told_catch (b : Nat) (k : Int) (w : World) (hh : w.heap[b]? = some (.cells #[.int .i64 0] 36)) :
    CallsD prog 67 #[.pointer (some ⟨b, 0, none⟩)] (.panicking [{ v := .iface 131 (.agg #[.int .i64 k]), recovered := false }]) w fun e u' w' =>
      e = .returned (.tuple #[]) ∧ u' = .panicking [{ v := .iface 131 (.agg #[.int .i64 k]), recovered := true }] ∧ w' = (w.setCell ⟨b, 0, none⟩ (.int .i64 k)).alloc (.cells #[.int .i64 k] 131) := by
  have hlt : b < w.heap.size := (Array.getElem?_eq_some_iff.1 hh).1
  have h2 : (w.alloc (.cells #[.int .i64 k] 131)).heap[b]? = some (.cells #[.int .i64 0] 36) := by
    rw [← hh]; show (w.heap.push _)[b]? = _; rw [Array.getElem?_push, if_neg (by omega)]
  have hc : (w.alloc (.cells #[.int .i64 k] 131)).cell? ⟨b, 0, none⟩ = some (.int .i64 0) := by simp [World.cell?, h2]
  have hz : (w.alloc (.cells #[.int .i64 k] 131)).frozen? ⟨b, 0, none⟩ = false := by simp [World.frozen?, h2]
  refine callsD_of_wpS func67 rfl fun c₀ cs hu => ?_
  apply wpS_seq
  apply wpS_region
  simp [wpOpsS, go_sem, recoverD, hu, ntmps67, Exit.thenS]
  have hta : ∀ (v : Value) (w : World), (Instr.typeAssert (.iface 131 v) 20 131 true).run prog w = .ok (.tuple #[v, .bool true]) w := fun v w => by
    simp [Instr.typeAssert, Sem.run_bind]
  refine wpS_of_wp ?_
  go_wp2
  cases c₀
  simp_all [bodyPostS, results, results67]
theorem code_told (up : Bool) (f : FuncId) (caps : List AV) (n : Nat) (s : List (Nat × Root)) (Post : AV → St → Prop) (X : Int → St → Prop)
    (h : GCallX prog up f caps n s Post (fun c σ' => ∃ k, c = [{ v := .iface 131 (.agg #[.int .i64 k]), recovered := false }] ∧ X k σ')) :
    GCall prog up 28 [.func (.func f) [] caps] n s (fun r σ' => (∃ r', Post r' σ' ∧ r = .int .i64 0) ∨ ∃ k, X k σ' ∧ r = .int .i64 k) := by
  refine ⟨⟨_, func28, by kernel_rfl, rfl⟩, fun w A G vs hA hinv hvl hr => ?_⟩
  obtain ⟨v, rfl⟩ : ∃ v, vs = [v] := by
    cases vs with
    | nil => cases hvl
    | cons v r => cases r with
      | nil => exact ⟨v, rfl⟩
      | cons _ _ => cases hvl
  have hv := hr 0 _ rfl
  simp only [List.getD_cons_zero] at hv
  obtain ⟨us, cs, rfl, hus, hcs, _, hrel⟩ := hv.func_inv
  obtain rfl := List.eq_nil_of_length_eq_zero hus
  have hmf : ∀ (fn : Fn) (first cap : Array Value) (w : World), (Instr.makeFunc fn first cap).run prog w = .ok (.func fn first cap) w := fun _ _ _ _ => rfl
  have w1s : ∀ b, b < w.heap.size → (w.alloc (.cells #[.int .i64 0] 36)).heap[b]? = w.heap[b]? := fun b hb => by
    show (w.heap.push _)[b]? = _; rw [Array.getElem?_push, if_neg (by omega)]
  have w1z : (w.alloc (.cells #[.int .i64 0] 36)).heap.size = w.heap.size + 1 := by show (w.heap.push _).size = _; simp
  have w1b : (w.alloc (.cells #[.int .i64 0] 36)).heap[w.heap.size]? = some (.cells #[.int .i64 0] 36) := by show (w.heap.push _)[w.heap.size]? = _; rw [Array.getElem?_push, if_pos rfl]
  have hAA : ∀ b, b < w.heap.size → (A b ∨ b = w.heap.size) → A b := fun b hb h => h.resolve_right (by omega)
  have hnG : ¬ GFp G w.heap.size := fun hg => by have := rfp_lt hinv hg; omega
  have hc := h.2 (w.alloc (.cells #[.int .i64 0] 36)) (fun b => A b ∨ b = w.heap.size) G cs (fun b hb => by
      rw [w1z]; rcases hb with hb | hb
      · have := hA b hb; omega
      · omega) (hinv.away (fun b hb _ => w1s b hb) hAA) hcs
    (fun i a hi => (hrel i a hi).keep (Nat.le_refl _) (fun b hb _ => w1s b hb) (fun b hb ho => ho.imp (hAA b hb) id) (fun _ _ _ _ _ h => h) (fun _ _ _ _ _ h => h))
  have fin : ∀ (w' w'' : World) (σ' : St) (G' : Nat → Option GR) (P' : AV → St → Prop) (r : Int), AftG (fun b => A b ∨ b = w.heap.size) (w.alloc (.cells #[.int .i64 0] 36)) G n w' σ' G' → (∀ b, b < w'.heap.size → b ≠ w.heap.size → w''.heap[b]? = w'.heap[b]?) → w'.heap.size ≤ w''.heap.size →
      w''.os = w'.os → w''.tape = w'.tape → w''.output = w'.output → P' (.int .i64 r) σ' → EndsG up w A G n [] P' (.returned (.int .i64 r)) w'' := by
    intro w' w'' σ' G' P' r ⟨a1, a2, a3, a4⟩ hs hz h1 h2 h3 hp
    have hsz := a2.size
    rw [w1z] at hsz
    refine ⟨σ', G', .int .i64 r, hp, a1.away (fun b hb hn => hs b hb fun e => hn (.inr e)) (fun b _ hb => .inl hb), .fr _ _ (.int _ _), ⟨h1.trans a2.os, h2.trans a2.tape, h3.trans a2.output, by omega, fun b hb hn => ?_⟩, fun b hb => ?_, a4, fun x hx => by cases hx⟩
    · rw [hs b (by omega) (by omega), a2.block b (by rw [w1z]; omega) hn, w1s b hb]
    · rcases a3 b hb with h | h
      · exact .inl h
      · rw [w1z] at h; right; omega
  have held : ∀ (w' : World), Fr (GFp G) (w.alloc (.cells #[.int .i64 0] 36)) w' → w'.heap[w.heap.size]? = some (.cells #[.int .i64 0] 36) := fun w' hF => by
    rw [hF.block w.heap.size (by rw [w1z]; omega) hnG, w1b]
  go_enter_defers func28, ntmps28
  go_wp2
  rw [run_call h.1]
  simp only [Oper.upon]
  refine hc.mono fun e w' he => ?_
  cases e with
  | returned v =>
    obtain ⟨σ', G', r, hP, hR, hT⟩ := he
    have hb := held w' hT.2.1
    have hc0 : w'.cell? ⟨w.heap.size, 0, none⟩ = some (.int .i64 0) := by simp [World.cell?, hb]
    have hz0 : w'.frozen? ⟨w.heap.size, 0, none⟩ = false := by simp [World.frozen?, hb]
    clear hc held
    go_wp2
    refine leaves_cons (f := 67) (args := #[.pointer (some ⟨w.heap.size, 0, none⟩)]) (by simp) (by simp [go_sem]) ?_
    refine (told_idle ⟨w.heap.size, 0, none⟩ _).mono ?_
    rintro e u' w'' ⟨rfl, rfl, rfl⟩
    simp [Leaves, settle, results, results28, go_sem, hc0]
    exact fin w' _ σ' G' _ _ hT (fun b _ hne => heap_setCell_other w' ⟨w.heap.size, 0, none⟩ b _ hne) (by simp) rfl rfl rfl (.inl ⟨⟨r, hP⟩, rfl⟩)
  | panicked c =>
    obtain ⟨σ', G', ⟨k, rfl, hX⟩, hT⟩ := he
    have hb := held w' hT.2.1
    clear hc held
    refine leaves_cons (f := 67) (args := #[.pointer (some ⟨w.heap.size, 0, none⟩)]) (by simp) (by simp [go_sem]) ?_
    refine (told_catch w.heap.size k w' hb).mono ?_
    rintro e u' w'' ⟨rfl, rfl, rfl⟩
    have hk : ((w'.setCell ⟨w.heap.size, 0, none⟩ (.int .i64 k)).alloc (.cells #[.int .i64 k] 131)).heap[w.heap.size]? = some (.cells #[.int .i64 k] 36) := by
      have hlt := (Array.getElem?_eq_some_iff.1 hb).1
      show ((w'.setCell ⟨w.heap.size, 0, none⟩ (.int .i64 k)).heap.push _)[w.heap.size]? = _
      rw [Array.getElem?_push, if_neg (by rw [World.size_setCell]; omega), heap_setCell_self hb]; rfl
    have hk0 : ((w'.setCell ⟨w.heap.size, 0, none⟩ (.int .i64 k)).alloc (.cells #[.int .i64 k] 131)).cell? ⟨w.heap.size, 0, none⟩ = some (.int .i64 k) := by simp only [World.cell?, hk]; rfl
    simp [Leaves, settle, results, results28, go_sem, hk0]
    refine fin w' _ σ' G' _ _ hT (fun b hlt hne => ?_) ?_ rfl rfl rfl ?_
    · rw [← heap_setCell_other w' ⟨w.heap.size, 0, none⟩ b (.int .i64 k) hne]
      show ((w'.setCell ⟨w.heap.size, 0, none⟩ (.int .i64 k)).heap.push _)[b]? = _
      rw [Array.getElem?_push, if_neg (by rw [World.size_setCell]; omega)]
    · show _ ≤ ((w'.setCell ⟨w.heap.size, 0, none⟩ (.int .i64 k)).heap.push _).size
      rw [Array.size_push, World.size_setCell]; omega
    · exact .inr ⟨k, hX, rfl⟩
  | outgrown => exact ⟨⟨#[], []⟩, w, he⟩
end Go.Ab
namespace Go.Ab
open Go Go.Proofs.Try
set_option maxRecDepth 100000
@[go_sem] theorem tt_131 : tiOf prog 131 = some ⟨.struct [(36, 0)], 1, 8, [.int .i64 0], true⟩ := by kernel_rfl
theorem code_must (up : Bool) (b : Bool) (e : Int) : PCallP prog up 68 [.bool b, .int .i64 e] (fun r => r = .tup [] ∧ b = true) (fun v => b = false ∧ v = .iface 131 (.agg #[.int .i64 e])) := by
  refine PCallP.intro htt func68 (by kernel_rfl) rfl (Nat.le_of_ble_eq_true rfl) fun hl => ?_
  simp only [tmps0, Nat.reduceAdd]
  refine CW.seq (.rg (.rn htt 2 (.done ?_)))
  refine CW.cond (b := !b) rfl (fun h => ?_) (fun h => ?_)
  · refine CW.regionX (by kernel_rfl) (by kernel_rfl) ?_
    refine CWopsX.run htt 3 (by simp only [go_sem, simprocAttr]; exact rfl) (by simp [go_sem, simprocAttr]) ?_
    refine CWopsX.panic (by simp [go_sem, simprocAttr]) (by simp only [go_sem, simprocAttr]; exact rfl) ?_
    exact ⟨_, ⟨by simpa using h, rfl⟩, rfl⟩
  · refine CW.skip ?_
    exact ⟨.inl rfl, [], .tup [], rfl, (by simp [leP, one, view, leL]), rfl, by simpa using h⟩
@[go_sem] theorem tt_68 : tiOf prog 68 = some ⟨.slice 5, 1, 24, [.nilsl], false⟩ := by kernel_rfl
@[go_sem] theorem tt_86 : tiOf prog 86 = some ⟨.int IntKind.u64, 1, 8, [.int .u64 0], false⟩ := by kernel_rfl
@[go_sem] theorem tt_139 : tiOf prog 139 = some ⟨.int IntKind.u64, 1, 8, [.int .u64 0], false⟩ := by kernel_rfl
theorem putF_small (k m : Nat) (h : m < 128) : putF k m = [m.toUInt8] := by cases k <;> simp [putF, h]
theorem putF_more (k m : Nat) (h : 128 ≤ m) : putF (k + 1) m = (m % 128 + 128).toUInt8 :: putF k (m / 128) := by simp [putF, show ¬ m < 128 by omega]
theorem wrapU8 (m : Nat) : IntKind.u8.wrap (m : Int) = ((m % 256 : Nat) : Int) := by simp [IntKind.wrap, IntKind.bits, IntKind.signed]
theorem orU8 : ∀ r : Fin 256, bits .or .u8 ((r.1 : Nat) : Int) 128 = ((r.1 % 128 + 128 : Nat) : Int) := by decide
theorem byteMore (m : Nat) : bits .or .u8 (IntKind.u8.wrap (m : Int)) 128 = (((m % 128 + 128).toUInt8.toNat : Nat) : Int) := by
  rw [wrapU8]
  have := orU8 ⟨m % 256, Nat.mod_lt _ (by omega)⟩
  simp only at this
  rw [this]
  congr 1
  simp
  omega
theorem byteOf (m : Nat) : IntKind.u8.wrap (m : Int) = ((m.toUInt8.toNat : Nat) : Int) := by
  rw [wrapU8]; congr 1
theorem frz_U8 (xs : List UInt8) : (AV.own 1 (xs.map eU8)).freeze = .sl 1 (xs.map eU8) := frz_map (fun x a h => by simp [eU8] at h; subst h; rfl) 1 xs
theorem shr7 (m : Nat) : Int.fdiv (m : Int) 128 = ((m / 128 : Nat) : Int) := by rw [Int.fdiv_eq_ediv_of_nonneg _ (by omega)]; omega
theorem vari_Put (up : Bool) (N : Nat) (hN : N < 18446744073709551616) : PCall prog up 31 [.int .u64 (N : Int)] (· = .sl 1 ((vPut N).map eU8)) := by
  refine PCall.intro htt func31 (by kernel_rfl) rfl (Nat.le_of_ble_eq_true rfl) fun hl => ?_

  simp only [tmps0, Nat.reduceAdd]
  refine CW.seq (.rg (.rn htt 1 (.done ?_)))
  refine CW.seq (.rg (.rn htt 1 (.done ?_)))
  refine CW.seq ?_
  refine CW.block ?_
  refine CW.loop (S := List UInt8 × Nat) (fun x => ⟨1, [(0, .int .u64 (x.2 : Int)), (3, .ref 0 [] 0)], [(0, ⟨false, [.own 1 (x.1.map eU8)]⟩)]⟩) (fun x => ∃ k, x.2 < 128 ^ (k + 1) ∧ x.1.length + k ≤ 9 ∧ x.1 ++ putF k x.2 = vPut N) (fun x => x.2) (([], N)) ?_ ⟨9, by simp only; omega, by simp, by simp [vPut]⟩ (fun ⟨acc, m⟩ ⟨k, h1, h2, h3⟩ => ?_)
  · refine Sh.trans (Sh.nilRoot 3 1 (by simp only [go_sem, simprocAttr]) rfl) (Sh.wk0 ?_); simp [Wk, go_sem, simprocAttr]
  refine CW.seq (.seq (.rg (.rn htt 2 (.done ?_))))
  refine CW.cd (fun ct5 => ?_) (fun ct5 => ?_)
  · have hm : 128 ≤ m := by simp at ct5; omega
    simp only at h1 h2 h3
    have hlen : acc.length + 1 ≤ MX := by unfold MX; omega
    refine CW.skip ?_
    refine CW.seq ?_
    refine CW.block ?_
    refine CW.rg (.run htt 2 (by simp only [go_sem, simprocAttr, byteMore, hlen]; exact rfl) (by simp [go_sem, simprocAttr, byteMore, hlen]) ?_)
    refine CWops.conv htt (by simp only [go_sem, simprocAttr]) tt_86 rfl tt_5 rfl (by simp only [go_sem, simprocAttr] <;> exact rfl) ?_
    refine CWops.run htt 4 (by simp only [go_sem, simprocAttr, byteMore, hlen]; exact rfl) (by simp [go_sem, simprocAttr, byteMore, hlen]) (.done ?_)
    refine CW.rg (.rn htt 3 (.done ?_))
    refine ⟨(acc ++ [(m % 128 + 128).toUInt8], m / 128), ?_, ?_, ?_⟩
    · refine Sh.wk (fun x => if x = 0 then 2 else x) ?_; simp [Wk, go_sem, simprocAttr, eU8, shr7]
    · obtain ⟨k', rfl⟩ : ∃ k', k = k' + 1 := ⟨k - 1, (by have : k ≠ 0 := (fun e => by subst e; simp at h1; omega); omega)⟩
      refine ⟨k', ?_, ?_, ?_⟩
      · exact Nat.div_lt_of_lt_mul (by rw [Nat.pow_succ] at h1; rw [Nat.mul_comm]; exact h1)
      · simp; omega
      · simp only; rw [← h3, putF_more k' m hm]; simp
    · simp only; omega
  · have hm : m < 128 := by simp at ct5; omega
    simp only at h1 h2 h3
    have hlen : acc.length + 1 ≤ MX := by unfold MX; omega
    refine CW.exit ?_
    refine CW.seq (.rg (.run htt 2 (by simp only [go_sem, simprocAttr, byteOf, hlen]; exact rfl) (by simp [go_sem, simprocAttr, byteOf, hlen]) ?_))
    refine CWops.conv htt (by simp only [go_sem, simprocAttr]) tt_86 rfl tt_5 rfl (by simp only [go_sem, simprocAttr] <;> exact rfl) ?_
    refine CWops.run htt 3 (by simp only [go_sem, simprocAttr, byteOf, hlen]; exact rfl) (by simp [go_sem, simprocAttr, byteOf, hlen]) (.done ?_)
    refine CW.ret ?_
    refine retQ.rt (by simp only [f31, go_sem, simprocAttr]; exact rfl) ?_
    refine ⟨_, ?_, rfl⟩
    have e : acc.map eU8 ++ [[AV.int .u8 ((m.toUInt8.toNat : Nat) : Int)]] = (acc ++ [m.toUInt8]).map eU8 := by simp [eU8]
    rw [← h3, putF_small k m hm, ← frz_U8, ← e]
    simp [leP, byteOf]
    exact leP_refl _
theorem putF_len : ∀ (k n : Nat), (putF k n).length ≤ k + 1
  | 0, _ => Nat.le_refl _
  | k + 1, n => by
    simp only [putF]
    split
    · simp
    · have := putF_len k (n / 128)
      simp only [List.length_cons]; omega
theorem vPut_len (n : Nat) : (vPut n).length ≤ 10 := putF_len 9 n
theorem numsPut_len : ∀ (l : List Int), (numsPut l).length ≤ 10 * l.length
  | [] => by simp [numsPut]
  | x :: l => by
    have h1 := numsPut_len l
    have h2 := vPut_len (x + 1).toNat
    simp only [numsPut, List.flatMap_cons, List.length_append, List.length_cons] at h1 ⊢
    omega
theorem wrapU64 {n : Int} (h : 0 ≤ n) (h2 : n < 18446744073709551616) : IntKind.u64.wrap n = (n.toNat : Int) := by
  simp only [IntKind.wrap, IntKind.bits, IntKind.signed]; simp; omega
theorem wrapI64 {n : Int} (h : -9223372036854775808 ≤ n) (h2 : n < 9223372036854775808) : IntKind.i64.wrap n = n := by
  simp only [IntKind.wrap, IntKind.bits, IntKind.signed]; simp; omega
theorem code_numbers (up : Bool) (l : List Int) (hr : ∀ n ∈ l, -1 ≤ n ∧ n ≤ 1073741824) (hll : l.length ≤ 1000) : PCall prog up 70 [.sl 1 (l.map eI)] (· = .sl 1 ((numsPut l).map eU8)) := by
  refine PCall.intro htt func70 (by kernel_rfl) rfl (Nat.le_of_ble_eq_true rfl) fun hl => ?_

  simp only [tmps0, Nat.reduceAdd]
  refine CW.seq (.rg (.rn htt 1 (.done ?_)))
  refine CW.seq (.rg (.rn htt 1 (.done ?_)))
  refine CW.seq (.seq (.rg (.rn htt 3 (.done ?_))))
  refine CW.block ?_
  refine CW.loop (S := Nat) (fun i => ⟨1, [(6, .sl 1 (l.map eI)), (7, .int .i64 l.length), (8, .int .i64 i), (3, .ref 0 [] 0)], [(0, ⟨false, [.own 1 ((numsPut (l.take i)).map eU8)]⟩)]⟩) (fun i => i ≤ l.length) (fun i => l.length - i) (0) ?_ (Nat.zero_le _) (fun i h1 => ?_)
  · refine Sh.trans (Sh.nilRoot 3 1 (by simp only [go_sem, simprocAttr]) rfl) (Sh.wk0 ?_); simp [Wk, go_sem, simprocAttr, numsPut]
  refine CW.seq (.rg (.rn htt 1 (.done ?_)))
  refine CW.seq ?_
  refine CW.cd (fun ct9 => ?_) (fun ct9 => ?_)
  · have hi : i < l.length := by simpa using ct9
    obtain ⟨x, hx⟩ : ∃ x, l[i]? = some x := ⟨l[i], List.getElem?_eq_getElem hi⟩
    obtain ⟨q1, q2⟩ := hr x (List.mem_of_getElem? hx)
    have hw1 : IntKind.i64.wrap (x + 1) = x + 1 := wrapI64 (by omega) (by omega)
    have hw2 : IntKind.u64.wrap (x + 1) = ((x + 1).toNat : Int) := wrapU64 (by omega) (by omega)
    have hlen : (numsPut (l.take i)).length + (vPut (x + 1).toNat).length ≤ MX := by
      have g1 := numsPut_len (l.take i)
      have g2 := vPut_len (x + 1).toNat
      rw [List.length_take] at g1
      unfold MX; omega
    have hsn : numsPut (l.take (i + 1)) = numsPut (l.take i) ++ vPut (x + 1).toNat := by
      rw [List.take_add_one, hx]; simp [numsPut]
    refine CW.skip ?_
    refine CW.seq ?_
    refine CW.block ?_
    refine CW.seq (.rg (.run htt 3 (by simp only [go_sem, simprocAttr, hx, eI]; exact rfl) (by simp [go_sem, simprocAttr, hx, eI]) (.done ?_)))
    refine CW.rg ?_
    refine CWops.run htt 3 (by simp only [go_sem, simprocAttr, eI, hw1]; exact rfl) (by first | (simp [go_sem, simprocAttr, eI, hw1]; done) | (simp [go_sem, simprocAttr, eI, hw1]; exact ⟨fun a _ b hb => by simp [eU8] at hb; subst hb; rfl, hlen⟩)) ?_
    refine CWops.conv htt (by simp only [go_sem, simprocAttr]) tt_3 rfl tt_86 rfl (by simp only [go_sem, simprocAttr] <;> exact rfl) ?_
    simp only [hw2]
    refine CWops.callA (vari_Put up (x + 1).toNat (by omega)) (by simp only [go_sem, simprocAttr, eI, hw1]) (by simp only [go_sem, simprocAttr, eI, hw1] <;> exact rfl) (by simp only [go_sem, simprocAttr, eI, hw1]) (by simp only [go_sem, simprocAttr, eI, hw1]) (fun rt16 hrt16 => ?_)
    subst hrt16
    refine CWops.run htt 2 (by simp only [go_sem, simprocAttr, eI, hw1]; exact rfl) (by first | (simp [go_sem, simprocAttr, eI, hw1]; done) | (simp [go_sem, simprocAttr, eI, hw1]; exact ⟨fun a _ b hb => by simp [eU8] at hb; subst hb; rfl, hlen⟩)) ?_
    refine CWops.done ?_
    refine CW.rg (.run htt 2 (by simp only [go_sem, simprocAttr, wrap_succ (show i < MX by unfold MX; omega)]; exact rfl) (by simp [go_sem, simprocAttr, wrap_succ (show i < MX by unfold MX; omega)]) (.done ?_))
    refine ⟨i + 1, ?_, ?_, ?_⟩
    · refine Sh.wk (fun x => if x = 0 then 1 else x) ?_; simp [Wk, go_sem, simprocAttr, hsn]
    · exact hi
    · simp only; omega
  · have hi : i = l.length := by simp at ct9; omega
    refine CW.exit ?_
    refine CW.seq (.rg (.rn htt 2 (.done ?_)))
    refine CW.ret ?_
    refine retQ.rt (by simp only [f70, go_sem, simprocAttr]; exact rfl) ?_
    refine ⟨_, ?_, rfl⟩
    rw [hi, List.take_length]
    simp [leP, frz_U8]
    try exact leP_refl _
@[go_sem] theorem tt_29 : tiOf prog 29 = some ⟨.int IntKind.u32, 1, 4, [.int .u32 0], false⟩ := by kernel_rfl
theorem wrapU32 {n : Nat} (h : n < 4294967296) : IntKind.u32.wrap (n : Int) = (n : Int) := by
  simp only [IntKind.wrap, IntKind.bits, IntKind.signed]; simp; omega
theorem ofIntNat (k n : Nat) : BitVec.ofInt k (n : Int) = BitVec.ofNat k n := by
  apply BitVec.eq_of_toNat_eq; simp [BitVec.toNat_ofInt]
theorem xorU32 {a b : Nat} (ha : a < 4294967296) (hb : b < 4294967296) : bits .xor .u32 (a : Int) (b : Int) = ((a ^^^ b : Nat) : Int) := by
  have h : a ^^^ b < 2 ^ 32 := Nat.xor_lt_two_pow ha hb
  show IntKind.u32.wrap (((BitVec.ofInt 32 (a : Int) ^^^ BitVec.ofInt 32 (b : Int)).toNat : Nat) : Int) = _
  rw [ofIntNat, ofIntNat, BitVec.toNat_xor, BitVec.toNat_ofNat, BitVec.toNat_ofNat]
  rw [Nat.mod_eq_of_lt (show a < 2 ^ 32 from ha), Nat.mod_eq_of_lt (show b < 2 ^ 32 from hb), wrapU32 h]
theorem andU32 {a : Nat} (ha : a < 4294967296) : bits .and .u32 (a : Int) 1 = ((a % 2 : Nat) : Int) := by
  show IntKind.u32.wrap (((BitVec.ofInt 32 (a : Int) &&& BitVec.ofInt 32 ((1 : Nat) : Int)).toNat : Nat) : Int) = _
  rw [ofIntNat, ofIntNat, BitVec.toNat_and, BitVec.toNat_ofNat, BitVec.toNat_ofNat]
  rw [Nat.mod_eq_of_lt (show a < 2 ^ 32 from ha), show 1 % 2 ^ 32 = 1 from rfl, Nat.and_one_is_mod, wrapU32 (by omega)]
theorem xorU8 {a b : Nat} (ha : a < 256) (hb : b < 256) : bits .xor .u8 (a : Int) (b : Int) = ((a ^^^ b : Nat) : Int) := by
  have h : a ^^^ b < 2 ^ 8 := Nat.xor_lt_two_pow ha hb
  show IntKind.u8.wrap (((BitVec.ofInt 8 (a : Int) ^^^ BitVec.ofInt 8 (b : Int)).toNat : Nat) : Int) = _
  rw [ofIntNat, ofIntNat, BitVec.toNat_xor, BitVec.toNat_ofNat, BitVec.toNat_ofNat]
  rw [Nat.mod_eq_of_lt (show a < 2 ^ 8 from ha), Nat.mod_eq_of_lt (show b < 2 ^ 8 from hb), wrapU8, Nat.mod_eq_of_lt h]
theorem shr1 (m : Nat) : Int.fdiv (m : Int) 2 = ((m / 2 : Nat) : Int) := by rw [Int.fdiv_eq_ediv_of_nonneg _ (by omega)]; omega
theorem shr8 (m : Nat) : Int.fdiv (m : Int) 256 = ((m / 256 : Nat) : Int) := by rw [Int.fdiv_eq_ediv_of_nonneg _ (by omega)]; omega
theorem crcStep_lt {n : Nat} (h : n < 4294967296) : crcStep n < 4294967296 := by
  unfold crcStep
  split
  · exact Nat.xor_lt_two_pow (n := 32) (by omega) (by omega)
  · omega
theorem crcRep_lt : ∀ (k : Nat) {n : Nat}, n < 4294967296 → Nat.repeat crcStep k n < 4294967296
  | 0, _, h => h
  | k + 1, _, h => crcStep_lt (crcRep_lt k h)
theorem crc_step (up : Bool) (n : Nat) (hn : n < 4294967296) : PCall prog up 122 [.int .u32 (n : Int)] (· = .int .u32 (crcStep n : Int)) := by
  refine PCall.intro htt func122 (by kernel_rfl) rfl (Nat.le_of_ble_eq_true rfl) fun hl => ?_
  have hx := xorU32 (a := n / 2) (b := 3988292384) (by omega) (by omega)
  have ha := andU32 hn
  clear hl
  simp only [tmps0, Nat.reduceAdd]
  refine CW.seq (.rg (.rn htt 1 (.done ?_)))
  refine CW.seq (.seq (.rg (.run htt 3 (by simp only [go_sem, simprocAttr, ha]; exact rfl) (by simp [go_sem, simprocAttr, ha]) (.done ?_))))
  refine CW.cd (fun ct5 => ?_) (fun ct5 => ?_)
  · have h2 : n % 2 = 1 := by simp [ha] at ct5; omega
    refine CW.seq (.rg (.rn htt 4 (.done ?_)))
    refine CW.ret ?_
    refine retQ.rt (by simp only [f122, go_sem, simprocAttr]; exact rfl) ?_
    refine ⟨_, ?_, rfl⟩
    have e : crcStep n = (n / 2) ^^^ 3988292384 := by unfold crcStep; rw [if_pos h2]
    rw [e, ← hx]
    simp [leP, shr1]
  · have h2 : ¬ n % 2 = 1 := by simp [ha] at ct5; omega
    refine CW.skip ?_
    refine CW.seq (.rg (.rn htt 3 (.done ?_)))
    refine CW.ret ?_
    refine retQ.rt (by simp only [f122, go_sem, simprocAttr]; exact rfl) ?_
    refine ⟨_, ?_, rfl⟩
    have e : crcStep n = n / 2 := by unfold crcStep; rw [if_neg h2]
    rw [e]
    simp [leP, shr1]
def crT (i v : Nat) : List AV := (List.range 256).map fun j => .int .u32 ((if j < i then crcRow j else if j = i then v else 0 : Nat) : Int)
theorem crT_len (i v : Nat) : (crT i v).length = 256 := by simp [crT]
theorem crT_get {i : Nat} (v : Nat) (h : i < 256) : (crT i v)[i]? = some (.int .u32 (v : Int)) := by simp [crT, h]
theorem crT_set {i : Nat} (u v : Nat) (h : i < 256) : (crT i u).set i (.int .u32 (v : Int)) = crT i v := by
  apply List.ext_getElem?
  intro j
  rw [List.getElem?_set]
  simp only [crT_len]
  by_cases e : i = j
  · subst e; rw [if_pos rfl, if_pos h, crT_get v h]
  · rw [if_neg e]
    simp only [crT, List.getElem?_map]
    by_cases hj : j < 256
    · rw [List.getElem?_range hj]; simp [show ¬ j = i from fun h => e h.symm]
    · rw [List.getElem?_eq_none (by simpa using hj)]; rfl
theorem crT_next (i : Nat) : crT i (crcRow i) = crT (i + 1) 0 := by
  unfold crT
  refine List.map_congr_left fun j _ => ?_
  congr 2
  by_cases h : j < i
  · rw [if_pos h, if_pos (by omega)]
  · rw [if_neg h]
    by_cases h2 : j = i
    · subst h2; rw [if_pos rfl, if_pos (by omega)]
    · rw [if_neg h2, if_neg (by omega)]; split <;> rfl
theorem crT_all : crT 256 0 = (List.range 256).map fun i => .int .u32 (crcRow i : Int) := by
  unfold crT
  refine List.map_congr_left fun j hj => ?_
  rw [if_pos (by simpa using hj)]
@[go_sem] theorem tt_177 : tiOf prog 177 = some ⟨.array 256 29, 256, 1024, crT 0 0, false⟩ := by kernel_rfl
theorem pureL_crT (i v : Nat) : pureL (crT i v) = true := by
  have : ∀ l : List Nat, pureL (l.map fun j => AV.int .u32 ((if j < i then crcRow j else if j = i then v else 0 : Nat) : Int)) = true := by
    intro l
    induction l with
    | nil => rfl
    | cons a l ih => simp only [List.map_cons, pureL, AV.pure, ih]; rfl
  exact this _
theorem SubL_crT (n i v : Nat) : SubL (fun x => x) n (crT i v) (crT i v) = True := eq_true (SubL_pure n _ (pureL_crT i v))
attribute [go_sem] SubL_crT
theorem crT_take (i v : Nat) : List.take 256 (crT i v) = crT i v := List.take_of_length_le (by rw [crT_len]; exact Nat.le_refl _)
theorem ldc_crT (y : Nat) (p : List (Nat × Nat)) (c i v : Nat) : ldc y p c (crT i v) = crT i v := by
  have : ∀ (l : List Nat) (c : Nat), ldc y p c (l.map fun j => AV.int .u32 ((if j < i then crcRow j else if j = i then v else 0 : Nat) : Int)) = l.map fun j => AV.int .u32 ((if j < i then crcRow j else if j = i then v else 0 : Nat) : Int) := by
    intro l
    induction l with
    | nil => intro c; rfl
    | cons a l ih => intro c; simp only [List.map_cons, ldc, ih]
  exact this _ _
theorem crT_one {i : Nat} (v : Nat) (h : i < 256) : List.take 1 (List.drop i (crT i v)) = [.int .u32 (v : Int)] := by
  have hl : i < (crT i v).length := by rw [crT_len]; exact h
  rw [List.drop_eq_getElem_cons hl, List.take_succ_cons, List.take_zero]
  have := crT_get v h
  rw [List.getElem?_eq_getElem hl] at this
  rw [Option.some.inj this]
theorem allCell_crT (i v : Nat) : allCell (crT i v) = true := by
  have : ∀ (l : List Nat), allCell (l.map fun j => AV.int .u32 ((if j < i then crcRow j else if j = i then v else 0 : Nat) : Int)) = true := by
    intro l
    induction l with
    | nil => rfl
    | cons a l ih => simp only [List.map_cons, allCell, ih, AV.cell, Bool.and_self]
  exact this _
theorem stCells_ints {n : Nat} {t : List (Nat × AV)} {b : Bool} {s : List (Nat × Root)} : ∀ (vs old pre : List AV), old.length = vs.length → (∀ v ∈ vs, ∃ k i, v = AV.int k i) → stCells 0 [] id ⟨n, t, (0, ⟨b, pre ++ old⟩) :: s⟩ pre.length vs = some ⟨n, t, (0, ⟨b, pre ++ vs⟩) :: s⟩
  | [], [], pre, _, _ => rfl
  | v :: vs, o :: old, pre, hl, hv => by
    obtain ⟨k, i, rfl⟩ := hv v List.mem_cons_self
    have ih := stCells_ints (n := n) (t := t) (b := b) (s := s) vs old (pre ++ [AV.int k i]) (by simpa using hl) fun w hw => hv w (List.mem_cons_of_mem _ hw)
    simp only [List.length_append, List.length_cons, List.length_nil, Nat.zero_add, List.append_assoc, List.cons_append, List.nil_append] at ih
    simp only [stCells, stCell, getS, if_true, mov, List.isEmpty_nil, Bool.true_or, updS, putAt, id]
    rw [List.set_append_right _ _ (Nat.le_refl _), Nat.sub_self, List.set_cons_zero]
    exact ih
  | [], _ :: _, _, h, _ => by simp at h
  | _ :: _, [], _, h, _ => by simp at h
theorem stCells_crT {n : Nat} {t : List (Nat × AV)} {b : Bool} {s : List (Nat × Root)} (i v j u : Nat) : stCells 0 [] id ⟨n, t, (0, ⟨b, crT i v⟩) :: s⟩ 0 (crT j u) = some ⟨n, t, (0, ⟨b, crT j u⟩) :: s⟩ :=
  stCells_ints (crT j u) (crT i v) [] (by rw [crT_len, crT_len]) fun w hw => by
    simp only [crT, List.mem_map] at hw
    obtain ⟨q, _, rfl⟩ := hw
    exact ⟨_, _, rfl⟩
attribute [go_sem] crT_len crT_take ldc_crT
attribute [irreducible] crT
theorem crc_table (up : Bool) : PCall prog up 104 [] (· = .agg ((List.range 256).map fun i => .int .u32 (crcRow i : Int))) := by
  refine PCall.intro htt func104 (by kernel_rfl) rfl (Nat.le_of_ble_eq_true rfl) fun hl => ?_

  simp only [tmps0, Nat.reduceAdd]
  refine CW.seq (.rg (.rn htt 1 (.done ?_)))
  refine CW.seq (.rg (.rn htt 1 (.done ?_)))
  refine CW.seq (.rg (.rn htt 1 (.done ?_)))
  refine CW.seq (.seq (.rg (.rn htt 1 (.done ?_))))
  refine CW.block ?_
  refine CW.loop (S := Nat) (fun i => ⟨2, [(0, .lv 0 [] 0), (1, .func (.func 122) [] []), (2, .lv 1 [] 0), (4, .int .i64 i)], [(0, ⟨true, crT 0 0⟩), (1, ⟨true, crT i (0)⟩)]⟩) (fun i => i ≤ 256) (fun i => 256 - i) (0) ?_ (Nat.zero_le _) (fun i h1 => ?_)
  · refine Sh.wk0 ?_; simp [Wk, go_sem, simprocAttr, ex_func, SubL, Sub] <;> exact ⟨[], [], ⟨rfl, rfl⟩, by simp [SubL], by simp [SubL]⟩
  refine CW.seq (.rg (.rn htt 1 (.done ?_)))
  refine CW.seq ?_
  refine CW.cd (fun ct5 => ?_) (fun ct5 => ?_)
  · have hi : i < 256 := by simp at ct5; omega
    have hi2 : (i : Int) < 256 := by omega
    have hi3 : i ≤ 255 := by omega
    have hw : IntKind.u32.wrap (i : Int) = (i : Int) := wrapU32 (by omega)
    refine CW.skip ?_
    refine CW.seq ?_
    refine CW.block ?_
    refine CW.seq (.rg (.rn htt 2 (.done ?_)))
    refine CW.seq (.rg (.run htt 2 (by simp only [go_sem, simprocAttr, crT_set 0 i hi, crT_len, hi, hi2, hi3, Nat.zero_add, Nat.mul_one]; exact rfl) (by simp [go_sem, simprocAttr, crT_set 0 i hi, crT_len, hi, hi2, hi3, Nat.zero_add, Nat.mul_one]) ?_))
    refine CWops.conv htt (by simp only [go_sem, simprocAttr]) tt_3 rfl tt_29 rfl (by simp only [go_sem, simprocAttr] <;> exact rfl) ?_
    simp only [hw]
    refine CWops.run htt 2 (by simp only [go_sem, simprocAttr, crT_set 0 i hi, crT_len, hi, hi2, hi3, Nat.zero_add, Nat.mul_one]; exact rfl) (by simp [go_sem, simprocAttr, crT_set 0 i hi, crT_len, hi, hi2, hi3, Nat.zero_add, Nat.mul_one]) (.done ?_)
    refine CW.seq (.rg (.rn htt 1 (.done ?_)))
    refine CW.block ?_
    refine CW.loop (S := Nat) (fun k => ⟨2, [(0, .lv 0 [] 0), (1, .func (.func 122) [] []), (2, .lv 1 [] 0), (4, .int .i64 i), (3, .int .i64 i), (11, .int .i64 k)], [(0, ⟨true, crT 0 0⟩), (1, ⟨true, crT i (Nat.repeat crcStep k i)⟩)]⟩) (fun k => k ≤ 8) (fun k => 8 - k) (0) ?_ (Nat.zero_le _) (fun k h2 => ?_)
    · refine Sh.wk0 ?_; simp [Wk, go_sem, simprocAttr, Nat.repeat, ex_func, SubL, Sub] <;> exact ⟨[], [], ⟨rfl, rfl⟩, by simp [SubL], by simp [SubL]⟩
    refine CW.seq (.rg (.rn htt 1 (.done ?_)))
    refine CW.seq ?_
    refine CW.cd (fun ct12 => ?_) (fun ct12 => ?_)
    · have hk : k < 8 := by simp at ct12; omega
      refine CW.skip ?_
      refine CW.seq ?_
      refine CW.block ?_
      refine CW.rg (.run htt 5 (by simp only [go_sem, simprocAttr, crT_one (Nat.repeat crcStep k i) hi, hi2, hi3, Nat.zero_add, Nat.mul_one, crT_get (Nat.repeat crcStep k i) hi, crT_len, hi, crT_set (Nat.repeat crcStep k i) (crcStep (Nat.repeat crcStep k i)) hi]; exact rfl) (by simp [go_sem, simprocAttr, crT_one (Nat.repeat crcStep k i) hi, hi2, hi3, Nat.zero_add, Nat.mul_one, crT_get (Nat.repeat crcStep k i) hi, crT_len, hi, crT_set (Nat.repeat crcStep k i) (crcStep (Nat.repeat crcStep k i)) hi]) ?_)
      refine CWops.call (crc_step up (Nat.repeat crcStep k i) (crcRep_lt k (by omega))) (by simp only [go_sem, simprocAttr, crT_one (Nat.repeat crcStep k i) hi, hi2, hi3, Nat.zero_add, Nat.mul_one, crT_get (Nat.repeat crcStep k i) hi, crT_len, hi, crT_set (Nat.repeat crcStep k i) (crcStep (Nat.repeat crcStep k i)) hi]) (by simp only [go_sem, simprocAttr, crT_one (Nat.repeat crcStep k i) hi, hi2, hi3, Nat.zero_add, Nat.mul_one, crT_get (Nat.repeat crcStep k i) hi, crT_len, hi, crT_set (Nat.repeat crcStep k i) (crcStep (Nat.repeat crcStep k i)) hi] <;> exact rfl) (by simp only [go_sem, simprocAttr, crT_one (Nat.repeat crcStep k i) hi, hi2, hi3, Nat.zero_add, Nat.mul_one, crT_get (Nat.repeat crcStep k i) hi, crT_len, hi, crT_set (Nat.repeat crcStep k i) (crcStep (Nat.repeat crcStep k i)) hi]) (fun rt18 hrt18 => ?_)
      subst hrt18; refine ⟨rfl, ?_⟩
      refine CWops.run htt 2 (by simp only [go_sem, simprocAttr, crT_one (Nat.repeat crcStep k i) hi, hi2, hi3, Nat.zero_add, Nat.mul_one, crT_get (Nat.repeat crcStep k i) hi, crT_len, hi, crT_set (Nat.repeat crcStep k i) (crcStep (Nat.repeat crcStep k i)) hi]; exact rfl) (by simp [go_sem, simprocAttr, crT_one (Nat.repeat crcStep k i) hi, hi2, hi3, Nat.zero_add, Nat.mul_one, crT_get (Nat.repeat crcStep k i) hi, crT_len, hi, crT_set (Nat.repeat crcStep k i) (crcStep (Nat.repeat crcStep k i)) hi]) (.done ?_)
      refine CW.rg (.run htt 2 (by simp only [go_sem, simprocAttr, wrap_succ (show k < MX by unfold MX; omega)]; exact rfl) (by simp [go_sem, simprocAttr, wrap_succ (show k < MX by unfold MX; omega)]) (.done ?_))
      refine ⟨k + 1, ?_, ?_, ?_⟩
      · refine Sh.wk0 ?_; simp [Wk, go_sem, simprocAttr, Nat.repeat, ex_func, SubL, Sub] <;> exact ⟨[], [], ⟨rfl, rfl⟩, by simp [SubL], by simp [SubL]⟩
      · exact hk
      · simp only; omega
    · have hk : k = 8 := by simp at ct12; omega
      refine CW.exit ?_
      refine CW.rg (.run htt 2 (by simp only [go_sem, simprocAttr, wrap_succ (show i < MX by unfold MX; omega)]; exact rfl) (by simp [go_sem, simprocAttr, wrap_succ (show i < MX by unfold MX; omega)]) (.done ?_))
      refine ⟨i + 1, ?_, ?_, ?_⟩
      · have e : crT i (Nat.repeat crcStep k i) = crT (i + 1) 0 := by rw [hk]; exact crT_next i
        refine Sh.wk0 ?_; simp [Wk, go_sem, simprocAttr, ex_func, SubL, Sub, e] <;> exact ⟨[], [], ⟨rfl, rfl⟩, by simp [SubL], by simp [SubL]⟩
      · exact hi
      · simp only; omega
  · have hi : i = 256 := by simp at ct5; omega
    refine CW.exit ?_
    refine CW.seq (.rg (.run htt 2 (by simp only [go_sem, simprocAttr, crT_len, crT_take, ldc_crT, allCell_crT, stCells_crT]; exact rfl) (by simp [go_sem, simprocAttr, crT_len, crT_take, ldc_crT, allCell_crT, stCells_crT]) (.done ?_)))
    refine CW.ret ?_
    refine retQ.rt (by simp only [f104, go_sem, simprocAttr]; exact rfl) ?_
    refine ⟨_, ?_, rfl⟩
    rw [hi, crT_all]
    simp [leP]
    have e : ∀ (σ : St), List.map (view 8 σ ∘ fun i => AV.int .u32 (crcRow i : Int)) (List.range 256) = List.map (fun i => AV.int .u32 (crcRow i : Int)) (List.range 256) := fun σ => List.map_congr_left fun j _ => rfl
    rw [e]
    exact leP_refl.leL_refl _
end Go.Ab
namespace Go.Ab
open Go Go.Proofs.Try
set_option maxRecDepth 100000
theorem crc_table' (up : Bool) : PCall prog up 104 [] (· = .agg (crT 256 0)) := by
  have := crc_table up; rw [← crT_all] at this; exact this
theorem crcRow_lt {k : Nat} (h : k < 256) : crcRow k < 4294967296 := crcRep_lt 8 (by omega)
theorem crcFrom_lt : ∀ (b : List UInt8) {n : Nat}, n < 4294967296 → crcFrom n b < 4294967296
  | [], _, h => h
  | c :: b, n, h => by
    unfold crcFrom
    rw [List.foldl_cons]
    exact crcFrom_lt b (Nat.xor_lt_two_pow (n := 32) (by omega) (crcRow_lt (Nat.xor_lt_two_pow (n := 8) (by omega) c.toNat_lt)))
theorem crT_row {k : Nat} (h : k < 256) : List.take 1 (List.drop k (crT 256 0)) = [.int .u32 (crcRow k : Int)] := by
  have hl : k < (crT 256 0).length := by rw [crT_len]; exact h
  rw [List.drop_eq_getElem_cons hl, List.take_succ_cons, List.take_zero]
  have e : (crT 256 0)[k]? = some (.int .u32 (crcRow k : Int)) := by rw [crT_all]; simp [h]
  rw [List.getElem?_eq_getElem hl] at e
  rw [Option.some.inj e]
theorem crc_step1 (N : Nat) (hN : N < 4294967296) (x : UInt8) : ∃ M D K R : Nat, IntKind.u8.wrap (N : Int) = (M : Int) ∧ Int.fdiv (N : Int) 256 = (D : Int) ∧ bits .xor .u8 (M : Int) (x.toNat : Int) = (K : Int) ∧ K < 256 ∧ bits .xor .u32 (D : Int) (crcRow K : Int) = (R : Int) ∧ R = (N / 256) ^^^ crcRow ((N % 256) ^^^ x.toNat) :=
  ⟨N % 256, N / 256, (N % 256) ^^^ x.toNat, _, wrapU8 N, shr8 N, xorU8 (by omega) x.toNat_lt, Nat.xor_lt_two_pow (n := 8) (by omega) x.toNat_lt, xorU32 (by omega) (crcRow_lt (Nat.xor_lt_two_pow (n := 8) (by omega) x.toNat_lt)), rfl⟩
theorem crc_With (up : Bool) (b : List UInt8) : PCall prog up 73 [.int .u32 0, .sl 1 (b.map eU8)] (· = .int .u32 (crcSum b : Int)) := by
  refine PCall.intro htt func73 (by kernel_rfl) rfl (Nat.le_of_ble_eq_true rfl) fun hl => ?_
  have hb := (hl (.sl 1 (b.map eU8)) (by simp)).sl.1
  simp only [List.length_map] at hb
  have h0 : bits .xor .u32 0 4294967295 = 4294967295 := by decide
  simp only [tmps0, Nat.reduceAdd]
  refine CW.seq (.rg (.rn htt 1 (.done ?_)))
  refine CW.seq (.rg ?_)
  refine CWops.callA (crc_table' up) (by simp only [go_sem, simprocAttr, allCell_crT, stCells_crT]) (by simp only [go_sem, simprocAttr, allCell_crT, stCells_crT] <;> exact rfl) (by simp only [go_sem, simprocAttr, allCell_crT, stCells_crT]) (by simp only [go_sem, simprocAttr, allCell_crT, stCells_crT]) (fun rt9 hrt9 => ?_)
  subst hrt9
  refine CWops.run htt 2 (by simp only [go_sem, simprocAttr, allCell_crT, stCells_crT]; exact rfl) (by simp [go_sem, simprocAttr, allCell_crT, stCells_crT]) (.done ?_)
  refine CW.seq (.rg (.run htt 3 (by simp only [go_sem, simprocAttr, h0]; exact rfl) (by simp [go_sem, simprocAttr, h0]) (.done ?_)))
  refine CW.seq (.seq (.rg (.rn htt 3 (.done ?_))))
  refine CW.block ?_
  refine CW.loop (S := Nat) (fun i => ⟨1, [(5, .lv 0 [] 0), (6, .int .u32 (crcFrom 4294967295 (b.take i) : Int)), (12, .sl 1 (b.map eU8)), (13, .int .i64 b.length), (14, .int .i64 i)], [(0, ⟨true, crT 256 0⟩)]⟩) (fun i => i ≤ b.length) (fun i => b.length - i) (0) ?_ (Nat.zero_le _) (fun i h1 => ?_)
  · refine Sh.wk0 ?_; simp [Wk, go_sem, simprocAttr, crcFrom]
  refine CW.seq (.rg (.rn htt 1 (.done ?_)))
  refine CW.seq ?_
  refine CW.cd (fun ct15 => ?_) (fun ct15 => ?_)
  · have hi : i < b.length := by simpa using ct15
    obtain ⟨x, hx⟩ : ∃ x, b[i]? = some x := ⟨b[i], List.getElem?_eq_getElem hi⟩
    obtain ⟨M, D, K, R, d1, d2, d3, hK, d5, d6⟩ := crc_step1 (crcFrom 4294967295 (b.take i)) (crcFrom_lt _ (by omega)) x
    have hK2 : (K : Int) < 256 := by omega
    have hK3 : K ≤ 255 := by omega
    have hsn : crcFrom 4294967295 (b.take (i + 1)) = R := by
      rw [List.take_add_one, hx, d6]; simp [crcFrom]
    refine CW.skip ?_
    refine CW.seq ?_
    refine CW.block ?_
    refine CW.seq (.rg (.run htt 3 (by simp only [go_sem, simprocAttr, hx, eU8]; exact rfl) (by simp [go_sem, simprocAttr, hx, eU8]) (.done ?_)))
    refine CW.rg (.run htt 3 (by simp only [go_sem, simprocAttr, d2, d3, d5, hK, hK2, hK3, Nat.zero_add, Nat.mul_one, crT_row hK]; exact rfl) (by simp [go_sem, simprocAttr, d2, d3, d5, hK, hK2, hK3, Nat.zero_add, Nat.mul_one, crT_row hK]) ?_)
    refine CWops.conv htt (by simp only [go_sem, simprocAttr]) tt_29 rfl tt_5 rfl (by simp only [go_sem, simprocAttr] <;> exact rfl) ?_
    simp only [d1]
    refine CWops.run htt 6 (by simp only [go_sem, simprocAttr, d2, d3, d5, hK, hK2, hK3, Nat.zero_add, Nat.mul_one, crT_row hK]; exact rfl) (by simp [go_sem, simprocAttr, d2, d3, d5, hK, hK2, hK3, Nat.zero_add, Nat.mul_one, crT_row hK]) (.done ?_)
    refine CW.rg (.run htt 2 (by simp only [go_sem, simprocAttr, wrap_succ (Nat.lt_of_lt_of_le hi hb)]; exact rfl) (by simp [go_sem, simprocAttr, wrap_succ (Nat.lt_of_lt_of_le hi hb)]) (.done ?_))
    refine ⟨i + 1, ?_, ?_, ?_⟩
    · refine Sh.wk0 ?_; simp [Wk, go_sem, simprocAttr, hsn, d2, d5]
    · exact hi
    · simp only; omega
  · have hi : i = b.length := by simp at ct15; omega
    have hfin : bits .xor .u32 (crcFrom 4294967295 b : Int) 4294967295 = (crcSum b : Int) := xorU32 (a := crcFrom 4294967295 b) (b := 4294967295) (crcFrom_lt b (by omega)) (by omega)
    rw [hi, List.take_length]
    refine CW.exit ?_
    refine CW.seq (.rg (.run htt 3 (by simp only [go_sem, simprocAttr, hfin]; exact rfl) (by simp [go_sem, simprocAttr, hfin]) (.done ?_)))
    refine CW.ret ?_
    refine retQ.rt (by simp only [f73, go_sem, simprocAttr]; exact rfl) ?_
    refine ⟨_, ?_, rfl⟩
    simp [leP]
theorem crc_Sum (up : Bool) (b : List UInt8) : PCall prog up 32 [.sl 1 (b.map eU8)] (· = .int .u32 (crcSum b : Int)) := by
  refine PCall.intro htt func32 (by kernel_rfl) rfl (Nat.le_of_ble_eq_true rfl) fun hl => ?_

  simp only [tmps0, Nat.reduceAdd]
  refine CW.seq (.rg (.rn htt 1 (.done ?_)))
  refine CW.seq (.rg (.rn htt 1 ?_))
  refine CWops.callA (crc_With up b) (by simp only [go_sem, simprocAttr]) (by simp only [go_sem, simprocAttr] <;> exact rfl) (by simp only [go_sem, simprocAttr]) (by simp only [go_sem, simprocAttr]) (fun rt4 hrt4 => ?_)
  subst hrt4
  refine CWops.rn htt 1 (.done ?_)
  refine CW.ret ?_
  refine retQ.rt (by simp only [f32, go_sem, simprocAttr]; exact rfl) ?_
  refine ⟨_, ?_, rfl⟩
  simp [leP]
theorem clone_Field (up : Bool) (xs : List GField) (hx : xs.length * 40 ≤ MX) : PCall prog up 79 [.sl 3 (xs.map eField)] (· = .sl 3 (xs.map eField)) := by
  refine PCall.intro htt func79 (by kernel_rfl) rfl (Nat.le_of_ble_eq_true rfl) fun hl => ?_
  have hx1 : xs.length ≤ MX := by omega
  simp only [tmps0, Nat.reduceAdd]
  refine CW.seq (.rg (.rn htt 1 (.done ?_)))
  refine CW.seq (.seq (.rg (.rn htt 1 ?_)))
  refine CWops.nilcmp (n := 3) (l := xs.map eField) htt (by simp only [go_sem, simprocAttr]) (by simp only [go_sem, simprocAttr]) (by simp only [go_sem, simprocAttr]) tt_56 rfl (fun b hb => ⟨_, rfl, ?_⟩)
  refine CWops.done ?_
  refine CW.cd (fun ct4 => ?_) (fun ct4 => ?_)
  · refine CW.seq (.rg (.rn htt 1 (.done ?_)))
    refine CW.ret ?_
    refine retQ.rt (by simp only [f79, go_sem, simprocAttr]; exact rfl) ?_
    refine ⟨_, ?_, rfl⟩
    have h0 := hb ct4; simp [leP, h0]
  · refine CW.skip ?_
    refine CW.seq (.rg ?_)
    refine CWops.run htt 4 (by simp only [go_sem, simprocAttr]; exact rfl) (by refine ⟨?_, ?_, ?_⟩ <;> first | (simp [eField, AV.cell]; done) | (simp; omega)) ?_
    refine CWops.done ?_
    refine CW.ret ?_
    refine retQ.rt (by simp only [f79, go_sem, simprocAttr]; exact rfl) ?_
    refine ⟨_, ?_, rfl⟩
    simp [leP, frz_I, frz_Val, frz_Obj, frz_Field, frz_Type]
theorem schema_Find_1 (up : Bool) (x : GType) (k : ByteArray) : PCall prog up 108 [.agg (eType x), .fp [.str k]] (· = .bool (decide (x.Name = k))) := by
  refine PCall.intro htt func108 (by kernel_rfl) rfl (Nat.le_of_ble_eq_true rfl) fun hl => ?_

  simp only [tmps0, Nat.reduceAdd]
  refine CW.seq (.rg (.run htt 2 (by simp only [go_sem, simprocAttr, eType]; exact rfl) (by simp [go_sem, simprocAttr, eType]) (.done ?_)))
  refine CW.seq (.rg (.run htt 5 (by simp only [go_sem, simprocAttr, eType]; exact rfl) (by simp [go_sem, simprocAttr, eType]) (.done ?_)))
  refine CW.ret ?_
  refine retQ.rt (by simp only [f108, go_sem, simprocAttr]; exact rfl) ?_
  refine ⟨_, ?_, rfl⟩
  simp [leP, leL, frz_I, frz_Val, frz_Obj, frz_Field, frz_Type]
theorem schema_Field_1 (up : Bool) (x : GField) (k : ByteArray) : PCall prog up 113 [.agg (eField x), .fp [.str k]] (· = .bool (decide (x.Name = k))) := by
  refine PCall.intro htt func113 (by kernel_rfl) rfl (Nat.le_of_ble_eq_true rfl) fun hl => ?_

  simp only [tmps0, Nat.reduceAdd]
  refine CW.seq (.rg (.run htt 2 (by simp only [go_sem, simprocAttr, eField]; exact rfl) (by simp [go_sem, simprocAttr, eField]) (.done ?_)))
  refine CW.seq (.rg (.run htt 5 (by simp only [go_sem, simprocAttr, eField]; exact rfl) (by simp [go_sem, simprocAttr, eField]) (.done ?_)))
  refine CW.ret ?_
  refine retQ.rt (by simp only [f113, go_sem, simprocAttr]; exact rfl) ?_
  refine ⟨_, ?_, rfl⟩
  simp [leP, leL, frz_I, frz_Val, frz_Obj, frz_Field, frz_Type]
theorem graph_Find_1 (up : Bool) (x : GObj) (k : Int) : PCall prog up 51 [.agg (eObj x), .fp [.int .i64 k]] (· = .bool (decide (x.Id = k))) := by
  refine PCall.intro htt func51 (by kernel_rfl) rfl (Nat.le_of_ble_eq_true rfl) fun hl => ?_

  simp only [tmps0, Nat.reduceAdd]
  refine CW.seq (.rg (.run htt 2 (by simp only [go_sem, simprocAttr, eObj]; exact rfl) (by simp [go_sem, simprocAttr, eObj]) (.done ?_)))
  refine CW.seq (.rg (.run htt 5 (by simp only [go_sem, simprocAttr, eObj]; exact rfl) (by simp [go_sem, simprocAttr, eObj]) (.done ?_)))
  refine CW.ret ?_
  refine retQ.rt (by simp only [f51, go_sem, simprocAttr]; exact rfl) ?_
  refine ⟨_, ?_, rfl⟩
  simp [leP, leL, frz_I, frz_Val, frz_Obj, frz_Field, frz_Type]
theorem schema_Find (up : Bool) (s : List GType) (k : ByteArray) : PCall prog up 84 [.agg (eSchema s), .str k] (· = .int .i64 (fnd (fun o => decide (o.Name = k)) s)) := by
  refine PCall.intro htt func84 (by kernel_rfl) rfl (Nat.le_of_ble_eq_true rfl) fun hl => ?_

  simp only [tmps0, Nat.reduceAdd]
  refine CW.seq (.rg (.run htt 3 (by simp only [go_sem, simprocAttr, eSchema]; exact rfl) (by simp [go_sem, simprocAttr, eSchema]) (.done ?_)))
  refine CW.seq (.rg (.run htt 3 (by simp only [go_sem, simprocAttr, eSchema]; exact rfl) (by simp [go_sem, simprocAttr, eSchema]) ?_))
  refine CWops.call (index_Type up s (fun o => decide (o.Name = k)) 108 [.fp [.str k]] rfl (fun x _ => schema_Find_1 up x k)) (by simp only [go_sem, simprocAttr, eSchema]) (by simp only [go_sem, simprocAttr, eSchema] <;> exact rfl) (by simp only [go_sem, simprocAttr, eSchema]) (fun rt8 hrt8 => ?_)
  subst hrt8; refine ⟨rfl, ?_⟩
  refine CWops.run htt 1 (by simp only [go_sem, simprocAttr, eSchema]; exact rfl) (by simp [go_sem, simprocAttr, eSchema]) (.done ?_)
  refine CW.ret ?_
  refine retQ.rt (by simp only [f84, go_sem, simprocAttr]; exact rfl) ?_
  refine ⟨_, ?_, rfl⟩
  simp [leP, leL, frz_I, frz_Val, frz_Obj, frz_Field, frz_Type]
theorem schema_Field (up : Bool) (s : GType) (k : ByteArray) : PCall prog up 87 [.agg (eType s), .str k] (· = .int .i64 (fnd (fun o => decide (o.Name = k)) s.F)) := by
  refine PCall.intro htt func87 (by kernel_rfl) rfl (Nat.le_of_ble_eq_true rfl) fun hl => ?_

  simp only [tmps0, Nat.reduceAdd]
  refine CW.seq (.rg (.run htt 3 (by simp only [go_sem, simprocAttr, eType]; exact rfl) (by simp [go_sem, simprocAttr, eType]) (.done ?_)))
  refine CW.seq (.rg (.run htt 3 (by simp only [go_sem, simprocAttr, eType]; exact rfl) (by simp [go_sem, simprocAttr, eType]) ?_))
  refine CWops.call (index_Field up s.F (fun o => decide (o.Name = k)) 113 [.fp [.str k]] rfl (fun x _ => schema_Field_1 up x k)) (by simp only [go_sem, simprocAttr, eType]) (by simp only [go_sem, simprocAttr, eType] <;> exact rfl) (by simp only [go_sem, simprocAttr, eType]) (fun rt8 hrt8 => ?_)
  subst hrt8; refine ⟨rfl, ?_⟩
  refine CWops.run htt 1 (by simp only [go_sem, simprocAttr, eType]; exact rfl) (by simp [go_sem, simprocAttr, eType]) (.done ?_)
  refine CW.ret ?_
  refine retQ.rt (by simp only [f87, go_sem, simprocAttr]; exact rfl) ?_
  refine ⟨_, ?_, rfl⟩
  simp [leP, leL, frz_I, frz_Val, frz_Obj, frz_Field, frz_Type]
theorem graph_Find (up : Bool) (g : Graph) (k : Int) : PCall prog up 17 [.agg (eGraph g), .int .i64 k] (· = .int .i64 (fnd (fun o => decide (o.Id = k)) g.O)) := by
  refine PCall.intro htt func17 (by kernel_rfl) rfl (Nat.le_of_ble_eq_true rfl) fun hl => ?_

  simp only [tmps0, Nat.reduceAdd]
  refine CW.seq (.rg (.run htt 3 (by simp only [go_sem, simprocAttr, eGraph]; exact rfl) (by simp [go_sem, simprocAttr, eGraph]) (.done ?_)))
  refine CW.seq (.rg (.run htt 3 (by simp only [go_sem, simprocAttr, eGraph]; exact rfl) (by simp [go_sem, simprocAttr, eGraph]) ?_))
  refine CWops.call (index_Obj up g.O (fun o => decide (o.Id = k)) 51 [.fp [.int .i64 k]] rfl (fun x _ => graph_Find_1 up x k)) (by simp only [go_sem, simprocAttr, eGraph]) (by simp only [go_sem, simprocAttr, eGraph] <;> exact rfl) (by simp only [go_sem, simprocAttr, eGraph]) (fun rt8 hrt8 => ?_)
  subst hrt8; refine ⟨rfl, ?_⟩
  refine CWops.run htt 1 (by simp only [go_sem, simprocAttr, eGraph]; exact rfl) (by simp [go_sem, simprocAttr, eGraph]) (.done ?_)
  refine CW.ret ?_
  refine retQ.rt (by simp only [f17, go_sem, simprocAttr]; exact rfl) ?_
  refine ⟨_, ?_, rfl⟩
  simp [leP, leL, frz_I, frz_Val, frz_Obj, frz_Field, frz_Type]
theorem name_letter (up : Bool) (c : Int) : PCall prog up 126 [.int .i32 c] (· = .bool (letterB c)) := by
  refine PCall.intro htt func126 (by kernel_rfl) rfl (Nat.le_of_ble_eq_true rfl) fun hl => ?_

  simp only [tmps0, Nat.reduceAdd]
  refine CW.seq (.rg (.rn htt 1 (.done ?_)))
  refine CW.seq (.rg (.rn htt 3 ?_))
  all_goals (first | refine CWops.guard 5 (by simp only [go_sem, simprocAttr]; exact rfl) (fun g5 => ?_) (fun g5 => ?_) | skip)
  all_goals (refine CWops.rn htt 4 ?_)
  all_goals (first | refine CWops.guard 9 (by simp only [go_sem, simprocAttr]; exact rfl) (fun g9 => ?_) (fun g9 => ?_) | skip)
  all_goals (refine CWops.rn htt 3 ?_)
  all_goals (first | refine CWops.guard 12 (by simp only [go_sem, simprocAttr]; exact rfl) (fun g12 => ?_) (fun g12 => ?_) | skip)
  all_goals (refine CWops.rn htt 4 ?_)
  all_goals (first | refine CWops.guard 16 (by simp only [go_sem, simprocAttr]; exact rfl) (fun g16 => ?_) (fun g16 => ?_) | skip)
  all_goals (refine CWops.rn htt 5 ?_)
  all_goals (refine CWops.done ?_)
  all_goals (
    refine CW.ret ?_
    refine retQ.rt (by simp only [f126, go_sem, simprocAttr]; exact rfl) ?_
    refine ⟨_, ?_, rfl⟩
    simp_all [leP, letterB] <;> (intros; omega))
theorem name_digit (up : Bool) (c : Int) : PCall prog up 127 [.int .i32 c] (· = .bool (digitB c)) := by
  refine PCall.intro htt func127 (by kernel_rfl) rfl (Nat.le_of_ble_eq_true rfl) fun hl => ?_

  simp only [tmps0, Nat.reduceAdd]
  refine CW.seq (.rg (.rn htt 1 (.done ?_)))
  refine CW.seq (.rg (.rn htt 3 ?_))
  all_goals (first | refine CWops.guard 5 (by simp only [go_sem, simprocAttr]; exact rfl) (fun g5 => ?_) (fun g5 => ?_) | skip)
  all_goals (refine CWops.rn htt 4 ?_)
  all_goals (refine CWops.done ?_)
  all_goals (
    refine CW.ret ?_
    refine retQ.rt (by simp only [f127, go_sem, simprocAttr]; exact rfl) ?_
    refine ⟨_, ?_, rfl⟩
    simp_all [leP, digitB] <;> (intros; omega))
theorem name_Len (up : Bool) (s : ByteArray) : PCall prog up 117 [.str s] (· = .int .i64 (nameLen s)) := by
  refine PCall.intro htt func117 (by kernel_rfl) rfl (Nat.le_of_ble_eq_true rfl) fun hl => ?_
  have hs := (hl (.str s) (by simp)).str
  simp only [tmps0, Nat.reduceAdd]
  refine CW.seq (.rg (.rn htt 1 (.done ?_)))
  refine CW.seq (.rg (.rn htt 1 (.done ?_)))
  refine CW.seq (.seq (.rg (.rn htt 1 ?_)))
  refine CWops.range htt (by simp only [go_sem, simprocAttr]) (by simp only [go_sem, simprocAttr]; exact rfl) tt_9 rfl ?_
  refine CWops.done ?_
  refine CW.block ?_
  refine CW.loop (S := Nat × Nat) (fun q => ⟨1, [(3, .int .i64 q.2), (7, .ref 0 [] 0)], [(0, ⟨false, [.iter s q.1]⟩)]⟩) (fun q => q.2 ≤ q.1 ∧ ∃ f, s.size ≤ q.1 + f ∧ scan s s.size 0 = (scan s f q.1).map (· + q.2)) (fun q => s.size - q.1) ((0, 0)) ?_ ⟨Nat.le_refl _, s.size, by simp, by simp⟩ (fun q ⟨h1, f, hf, hsum⟩ => ?_)
  · refine Sh.wk0 ?_; simp [Wk, go_sem, simprocAttr]
  refine CW.seq (.rg ?_)
  refine CWops.nextB (by simp only [go_sem, simprocAttr]) (by simp only [go_sem, simprocAttr]; exact rfl) (by simp only [go_sem, simprocAttr]; exact rfl) (fun b hb1 hb2 => ?_)
  refine CWops.rn htt 1 (.done ?_)
  refine CW.seq ?_
  refine CW.cd (fun ct9 => ?_) (fun ct9 => ?_)
  · have hp := hb1 ct9
    subst ct9
    refine CW.skip ?_
    refine CW.block ?_
    refine CW.seq (.rg (.rn htt 4 (.done ?_)))
    refine CW.seq ?_
    refine CW.cut ⟨1, [(3, .int .i64 q.2), (7, .ref 0 [] 0), (23, .bool (badAt s q.1))], [(0, ⟨false, [.iter s (q.1 + (Utf8.decode s q.1).2)]⟩)]⟩ ?_ ?_
    · refine CW.rg (.rn htt 1 ?_)
      refine CWops.call (name_letter up ((Utf8.decode s q.1).1 : Nat)) (by simp only [go_sem, simprocAttr]) (by simp only [go_sem, simprocAttr] <;> exact rfl) (by simp only [go_sem, simprocAttr]) (fun rt13 hrt13 => ?_)
      subst hrt13; refine ⟨rfl, ?_⟩
      refine CWops.rn htt 2 ?_
      all_goals (first | refine CWops.guard 15 (by simp only [go_sem, simprocAttr]; exact rfl) (fun g15 => ?_) (fun g15 => ?_) | skip)
      all_goals (refine CWops.rn htt 3 ?_)
      all_goals (first | refine CWops.guard 18 (by simp only [go_sem, simprocAttr]; exact rfl) (fun g18 => ?_) (fun g18 => ?_) | skip)
      all_goals (refine CWops.rn htt 1 ?_)
      all_goals (first | (refine CWops.skip ?_ ?_; next => (simp only [go_sem, simprocAttr]; done)) | (refine CWops.call (name_digit up ((Utf8.decode s q.1).1 : Nat)) (by simp only [go_sem, simprocAttr]) (by simp only [go_sem, simprocAttr] <;> exact rfl) (by simp only [go_sem, simprocAttr]) (fun rt20 hrt20 => ?_); subst hrt20; refine ⟨rfl, ?_⟩))
      all_goals (refine CWops.rn htt 3 ?_)
      all_goals (refine CWops.done ?_)
      all_goals (
        refine ⟨rfl, Sh.wk0 ?_⟩
        simp_all [Wk, go_sem, simprocAttr, badAt, nextP])
    refine CW.cd (fun ct23 => ?_) (fun ct23 => ?_)
    · have hbad : badAt s q.1 = true := ct23
      refine CW.seq (.rg (.rn htt 1 (.done ?_)))
      refine CW.ret ?_
      refine retQ.rt (by simp only [f117, go_sem, simprocAttr]; exact rfl) ?_
      refine ⟨_, ?_, rfl⟩
      have : nameLen s = 0 := by unfold nameLen; rw [hsum, scan_bad hp hf hbad]; rfl
      simp [leP, this]
    · have hbad : badAt s q.1 = false := ct23
      obtain ⟨f', hf', hsc⟩ := scan_step hp hf hbad
      have hw := decode_pos s q.1
      refine CW.skip ?_
      refine CW.rg (.run htt 3 (by simp only [go_sem, simprocAttr, wrap_succ (Nat.lt_of_le_of_lt h1 (Nat.lt_of_lt_of_le hp hs))]; exact rfl) (by simp [go_sem, simprocAttr, wrap_succ (Nat.lt_of_le_of_lt h1 (Nat.lt_of_lt_of_le hp hs))]) (.done ?_))
      refine ⟨(q.1 + (Utf8.decode s q.1).2, q.2 + 1), ?_, ?_, ?_⟩
      · refine Sh.wk0 ?_; simp [Wk, go_sem, simprocAttr]
      · refine ⟨by show q.2 + 1 ≤ q.1 + _; omega, f', hf', ?_⟩
        rw [hsum, hsc, Option.map_map]
        congr 1
        funext x
        simp only [Function.comp]; omega
      · show s.size - (q.1 + _) < s.size - q.1; omega
  · have hp := hb2 ct9
    subst ct9
    refine CW.exit ?_
    refine CW.seq (.seq (.rg (.rn htt 2 (.done ?_))))
    refine CW.cd (fun ct27 => ?_) (fun ct27 => ?_)
    · simp at ct27
      refine CW.seq (.rg (.rn htt 1 (.done ?_)))
      refine CW.ret ?_
      refine retQ.rt (by simp only [f117, go_sem, simprocAttr]; exact rfl) ?_
      refine ⟨_, ?_, rfl⟩
      have : nameLen s = 0 := by
        unfold nameLen; rw [hsum, scan_end hp]; simp; omega
      simp [leP, this]
    · simp at ct27
      refine CW.skip ?_
      refine CW.seq (.rg (.rn htt 2 (.done ?_)))
      refine CW.ret ?_
      refine retQ.rt (by simp only [f117, go_sem, simprocAttr]; exact rfl) ?_
      refine ⟨_, ?_, rfl⟩
      have : nameLen s = q.2 := by
        unfold nameLen; rw [hsum, scan_end hp]; simp; omega
      simp [leP, this]
theorem name_May (up : Bool) (s : ByteArray) : PCall prog up 93 [.str s] (· = .bool (nameMay s)) := by
  refine PCall.intro htt func93 (by kernel_rfl) rfl (Nat.le_of_ble_eq_true rfl) fun hl => ?_

  simp only [tmps0, Nat.reduceAdd]
  refine CW.seq (.rg (.rn htt 1 (.done ?_)))
  refine CW.seq (.rg (.rn htt 1 ?_))
  refine CWops.call (name_Len up s) (by simp only [go_sem, simprocAttr]) (by simp only [go_sem, simprocAttr] <;> exact rfl) (by simp only [go_sem, simprocAttr]) (fun rt4 hrt4 => ?_)
  subst hrt4; refine ⟨rfl, ?_⟩
  refine CWops.rn htt 2 (.done ?_)
  refine CW.ret ?_
  refine retQ.rt (by simp only [f93, go_sem, simprocAttr]; exact rfl) ?_
  refine ⟨_, ?_, rfl⟩
  simp [leP, nameMay]
theorem schema_field (up : Bool) (s : List GType) (f : GField) : PCall prog up 94 [.agg (eSchema s), .agg (eField f)] (· = .bool (fieldMay s f)) := by
  refine PCall.intro htt func94 (by kernel_rfl) rfl (Nat.le_of_ble_eq_true rfl) fun hl => ?_

  simp only [tmps0, Nat.reduceAdd]
  refine CW.seq (.rg (.run htt 3 (by simp only [go_sem, simprocAttr, eSchema, eField]; exact rfl) (by simp [go_sem, simprocAttr, eSchema, eField]) (.done ?_)))
  refine CW.seq (.rg (.run htt 4 (by simp only [go_sem, simprocAttr, eField]; exact rfl) (by simp [go_sem, simprocAttr, eField]) (.done ?_)))
  refine CW.cut ⟨2, [(2, .lv 0 [] 0), (3, .lv 1 [] 0), (5, .bool (if f.Kind = 5 then !decide (sFind s f.To = -1) else decide (f.To = ⟨#[]⟩)))], [(0, ⟨true, eSchema s⟩), (1, ⟨true, eField f⟩)]⟩ ?_ ?_
  · refine CW.seq (.rg (.run htt 3 (by simp only [go_sem, simprocAttr, eField]; exact rfl) (by simp [go_sem, simprocAttr, eField]) (.done ?_)))
    refine CW.cd (fun ct11 => ?_) (fun ct11 => ?_)
    · refine CW.rg (.run htt 3 (by simp only [go_sem, simprocAttr, eSchema, eField]; exact rfl) (by simp [go_sem, simprocAttr, eSchema, eField]) ?_)
      refine CWops.call (schema_Find up s f.To) (by simp only [go_sem, simprocAttr, eSchema, eField]) (by simp only [go_sem, simprocAttr, eSchema, eField] <;> exact rfl) (by simp only [go_sem, simprocAttr, eSchema, eField]) (fun rt15 hrt15 => ?_)
      subst hrt15; refine ⟨rfl, ?_⟩
      refine CWops.run htt 2 (by simp only [go_sem, simprocAttr, eSchema, eField]; exact rfl) (by simp [go_sem, simprocAttr, eSchema, eField]) (.done ?_)
      refine ⟨rfl, Sh.wk0 ?_⟩
      simp_all [Wk, go_sem, simprocAttr, eSchema, eField, sFind] <;> rfl
    · refine CW.skip ?_
      refine ⟨rfl, Sh.wk0 ?_⟩
      simp_all [Wk, go_sem, simprocAttr, eSchema, eField, sFind] <;> rfl
  refine CW.seq (.rg (.run htt 2 (by simp only [go_sem, simprocAttr, eField]; exact rfl) (by simp [go_sem, simprocAttr, eField]) ?_))
  all_goals (first | refine CWops.guard 18 (by simp only [go_sem, simprocAttr, eField]; exact rfl) (fun g18 => ?_) (fun g18 => ?_) | skip)
  all_goals (refine CWops.run htt 2 (by simp only [go_sem, simprocAttr, eField]; exact rfl) (by simp [go_sem, simprocAttr, eField]) ?_)
  all_goals (first | (refine CWops.skip ?_ ?_; next => (simp only [go_sem, simprocAttr]; done)) | (refine CWops.call (name_May up f.Name) (by simp only [go_sem, simprocAttr, eField]) (by simp only [go_sem, simprocAttr, eField] <;> exact rfl) (by simp only [go_sem, simprocAttr, eField]) (fun rt21 hrt21 => ?_); subst hrt21; refine ⟨rfl, ?_⟩))
  all_goals (refine CWops.run htt 2 (by simp only [go_sem, simprocAttr, eField]; exact rfl) (by simp [go_sem, simprocAttr, eField]) ?_)
  all_goals (first | refine CWops.guard 23 (by simp only [go_sem, simprocAttr, eField]; exact rfl) (fun g23 => ?_) (fun g23 => ?_) | skip)
  all_goals (refine CWops.run htt 5 (by simp only [go_sem, simprocAttr, eField]; exact rfl) (by simp [go_sem, simprocAttr, eField]) ?_)
  all_goals (first | refine CWops.guard 28 (by simp only [go_sem, simprocAttr, eField]; exact rfl) (fun g28 => ?_) (fun g28 => ?_) | skip)
  all_goals (refine CWops.run htt 5 (by simp only [go_sem, simprocAttr, eField]; exact rfl) (by simp [go_sem, simprocAttr, eField]) ?_)
  all_goals (refine CWops.done ?_)
  all_goals (
    refine CW.ret ?_
    refine retQ.rt (by simp only [f94, go_sem, simprocAttr]; exact rfl) ?_
    refine ⟨_, ?_, rfl⟩
    by_cases hk : f.Kind = 5 <;> simp_all [leP, fieldMay] <;> (intros; omega))
theorem schema_May (up : Bool) (s : List GType) : PCall prog up 58 [.agg (eSchema s)] (· = .bool (schemaMay s)) := by
  refine PCall.intro htt func58 (by kernel_rfl) rfl (Nat.le_of_ble_eq_true rfl) fun hl => ?_
  have hL := (hl (.agg (eSchema s)) (by simp)).agg
  have hS := (hL (.sl 2 (s.map eType)) (by simp [eSchema])).sl
  have hb := hS.1
  have hF : ∀ x ∈ s, x.F.length ≤ MX := fun x hx => by
    have h1 := (hS.2 (eType x) (List.mem_map_of_mem hx)).2 (.sl 3 (x.F.map eField)) (by simp [eType])
    simpa using h1.sl.1
  simp only [List.length_map] at hb
  simp only [tmps0, Nat.reduceAdd]
  refine CW.seq (.rg (.run htt 2 (by simp only [go_sem, simprocAttr, eSchema]; exact rfl) (by simp [go_sem, simprocAttr, eSchema]) (.done ?_)))
  refine CW.seq ?_
  refine CW.cut ⟨1, [(1, .lv 0 [] 0), (16, .bool (!(decide (0 < s.length) && decide (s.length ≤ 4))))], [(0, ⟨true, eSchema s⟩)]⟩ ?_ ?_
  · refine CW.rg (.rn htt 5 ?_)
    all_goals (first | refine CWops.guard 11 (by simp only [go_sem, simprocAttr]; exact rfl) (fun g11 => ?_) (fun g11 => ?_) | skip)
    all_goals (refine CWops.rn htt 5 ?_)
    all_goals (refine CWops.done ?_)
    all_goals (
      refine ⟨rfl, Sh.wk0 ?_⟩
      cases s <;> simp_all [Wk, go_sem, simprocAttr, eSchema] <;> first | omega | (rw [Bool.eq_iff_iff]; simp; omega))
  refine CW.cd (fun ct16 => ?_) (fun ct16 => ?_)
  · simp only [Bool.not_eq_true'] at ct16
    refine CW.seq (.rg (.rn htt 1 (.done ?_)))
    refine CW.ret ?_
    refine retQ.rt (by simp only [f58, go_sem, simprocAttr]; exact rfl) ?_
    refine ⟨_, ?_, rfl⟩
    have : schemaMay s = false := by unfold schemaMay; rw [ct16]; rfl
    simp [leP, this]
  · simp only [Bool.not_eq_false'] at ct16
    refine CW.skip ?_
    refine CW.seq (.seq (.rg (.rn htt 4 (.done ?_))))
    refine CW.block ?_
    refine CW.loop (S := Nat) (fun i => ⟨1, [(1, .lv 0 [] 0), (18, .sl 2 (s.map eType)), (19, .int .i64 s.length), (20, .int .i64 i)], [(0, ⟨true, eSchema s⟩)]⟩) (fun i => i ≤ s.length ∧ ∀ (j : Nat) (y), j < i → s[j]? = some y → typeMay s j y = true) (fun i => s.length - i) (0) ?_ ⟨Nat.zero_le _, fun j y hj => by omega⟩ (fun i ⟨h1, h2⟩ => ?_)
    · refine Sh.wk0 ?_; simp [Wk, go_sem, simprocAttr, eSchema]
    refine CW.seq (.rg (.rn htt 1 (.done ?_)))
    refine CW.seq ?_
    refine CW.cd (fun ct21 => ?_) (fun ct21 => ?_)
    · have hi : i < s.length := by simpa using ct21
      obtain ⟨x, hx⟩ : ∃ x, s[i]? = some x := ⟨s[i], List.getElem?_eq_getElem hi⟩
      refine CW.skip ?_
      refine CW.seq ?_
      refine CW.block ?_
      refine CW.seq (.rg (.run htt 6 (by simp only [go_sem, simprocAttr, hx, eType]; exact rfl) (by simp [go_sem, simprocAttr, hx, eType]) (.done ?_)))
      refine CW.seq ?_
      refine CW.cut ⟨2, [(1, .lv 0 [] 0), (3, .int .i64 i), (4, .lv 1 [] 0), (18, .sl 2 (s.map eType)), (19, .int .i64 s.length), (20, .int .i64 i), (42, .bool (!((nameMay x.Name && decide (sFind s x.Name = i)) && decide (x.F.length ≤ 5))))], [(0, ⟨true, eSchema s⟩), (1, ⟨true, eType x⟩)]⟩ ?_ ?_
      · refine CW.rg (.run htt 2 (by simp only [go_sem, simprocAttr, eSchema]; exact rfl) (by simp [go_sem, simprocAttr, eSchema]) ?_)
        refine CWops.call (name_May up x.Name) (by simp only [go_sem, simprocAttr, eSchema]) (by simp only [go_sem, simprocAttr, eSchema] <;> exact rfl) (by simp only [go_sem, simprocAttr, eSchema]) (fun rt27 hrt27 => ?_)
        subst hrt27; refine ⟨rfl, ?_⟩
        refine CWops.run htt 2 (by simp only [go_sem, simprocAttr, eSchema]; exact rfl) (by simp [go_sem, simprocAttr, eSchema]) ?_
        all_goals (first | refine CWops.guard 29 (by simp only [go_sem, simprocAttr, eSchema]; exact rfl) (fun g29 => ?_) (fun g29 => ?_) | skip)
        all_goals (refine CWops.run htt 3 (by simp only [go_sem, simprocAttr, eSchema]; exact rfl) (by simp [go_sem, simprocAttr, eSchema]) ?_)
        all_goals (first | (refine CWops.skip ?_ ?_; next => (simp only [go_sem, simprocAttr]; done)) | (refine CWops.call (schema_Find up s x.Name) (by simp only [go_sem, simprocAttr, eSchema]) (by simp only [go_sem, simprocAttr, eSchema] <;> exact rfl) (by simp only [go_sem, simprocAttr, eSchema]) (fun rt33 hrt33 => ?_); subst hrt33; refine ⟨rfl, ?_⟩))
        all_goals (refine CWops.run htt 4 (by simp only [go_sem, simprocAttr, eSchema]; exact rfl) (by simp [go_sem, simprocAttr, eSchema]) ?_)
        all_goals (first | refine CWops.guard 37 (by simp only [go_sem, simprocAttr, eSchema]; exact rfl) (fun g37 => ?_) (fun g37 => ?_) | skip)
        all_goals (refine CWops.run htt 5 (by simp only [go_sem, simprocAttr, eSchema]; exact rfl) (by simp [go_sem, simprocAttr, eSchema]) ?_)
        all_goals (refine CWops.done ?_)
        all_goals (
          refine ⟨rfl, Sh.wk0 ?_⟩
          simp_all [Wk, go_sem, simprocAttr, eSchema, eType, sFind] <;> first | omega | (rw [Bool.eq_iff_iff]; simp; omega))
      refine CW.cd (fun ct42 => ?_) (fun ct42 => ?_)
      · simp only [Bool.not_eq_true'] at ct42
        refine CW.seq (.rg (.rn htt 1 (.done ?_)))
        refine CW.ret ?_
        refine retQ.rt (by simp only [f58, go_sem, simprocAttr]; exact rfl) ?_
        refine ⟨_, ?_, rfl⟩
        have : schemaMay s = false := by unfold schemaMay; rw [allI_no hx (by rw [Nat.zero_add]; unfold typeMay; rw [ct42]; rfl)]; simp
        simp [leP, this]
      · simp only [Bool.not_eq_false'] at ct42
        refine CW.skip ?_
        refine CW.seq (.rg (.rn htt 4 (.done ?_)))
        refine CW.block ?_
        refine CW.loop (S := Nat) (fun k => ⟨2, [(1, .lv 0 [] 0), (3, .int .i64 i), (4, .lv 1 [] 0), (18, .sl 2 (s.map eType)), (19, .int .i64 s.length), (20, .int .i64 i), (44, .sl 3 (x.F.map eField)), (45, .int .i64 x.F.length), (46, .int .i64 k)], [(0, ⟨true, eSchema s⟩), (1, ⟨true, eType x⟩)]⟩) (fun k => k ≤ x.F.length ∧ ∀ (j : Nat) (y), j < k → x.F[j]? = some y → (fieldMay s y && decide (fFind x.F y.Name = j)) = true) (fun k => x.F.length - k) (0) ?_ ⟨Nat.zero_le _, fun j y hj => by omega⟩ (fun k ⟨k1, k2⟩ => ?_)
        · refine Sh.wk0 ?_; simp [Wk, go_sem, simprocAttr, eSchema, eType]
        refine CW.seq (.rg (.rn htt 1 (.done ?_)))
        refine CW.seq ?_
        refine CW.cd (fun ct47 => ?_) (fun ct47 => ?_)
        · have hk : k < x.F.length := by simpa using ct47
          obtain ⟨f, hf⟩ : ∃ f, x.F[k]? = some f := ⟨x.F[k], List.getElem?_eq_getElem hk⟩
          refine CW.skip ?_
          refine CW.seq ?_
          refine CW.block ?_
          refine CW.seq (.rg (.run htt 6 (by simp only [go_sem, simprocAttr, hf, eField]; exact rfl) (by simp [go_sem, simprocAttr, hf, eField]) (.done ?_)))
          refine CW.cut ⟨2, [(1, .lv 0 [] 0), (3, .int .i64 i), (4, .lv 1 [] 0), (18, .sl 2 (s.map eType)), (19, .int .i64 s.length), (20, .int .i64 i), (44, .sl 3 (x.F.map eField)), (45, .int .i64 x.F.length), (46, .int .i64 k), (62, .bool (!(fieldMay s f && decide (fFind x.F f.Name = k))))], [(0, ⟨true, eSchema s⟩), (1, ⟨true, eType x⟩)]⟩ ?_ ?_
          · refine CW.rg (.run htt 2 (by simp only [go_sem, simprocAttr, eSchema, eField, eType]; exact rfl) (by simp [go_sem, simprocAttr, eSchema, eField, eType]) ?_)
            refine CWops.call (schema_field up s f) (by simp only [go_sem, simprocAttr, eSchema, eField, eType]) (by simp only [go_sem, simprocAttr, eSchema, eField, eType] <;> exact rfl) (by simp only [go_sem, simprocAttr, eSchema, eField, eType]) (fun rt53 hrt53 => ?_)
            subst hrt53; refine ⟨rfl, ?_⟩
            refine CWops.run htt 2 (by simp only [go_sem, simprocAttr, eSchema, eField, eType]; exact rfl) (by simp [go_sem, simprocAttr, eSchema, eField, eType]) ?_
            all_goals (first | refine CWops.guard 55 (by simp only [go_sem, simprocAttr, eSchema, eField, eType]; exact rfl) (fun g55 => ?_) (fun g55 => ?_) | skip)
            all_goals (refine CWops.run htt 3 (by simp only [go_sem, simprocAttr, eSchema, eField, eType]; exact rfl) (by simp [go_sem, simprocAttr, eSchema, eField, eType]) ?_)
            all_goals (first | (refine CWops.skip ?_ ?_; next => (simp only [go_sem, simprocAttr]; done)) | (refine CWops.call (schema_Field up x f.Name) (by simp only [go_sem, simprocAttr, eSchema, eField, eType]) (by simp only [go_sem, simprocAttr, eSchema, eField, eType] <;> exact rfl) (by simp only [go_sem, simprocAttr, eSchema, eField, eType]) (fun rt59 hrt59 => ?_); subst hrt59; refine ⟨rfl, ?_⟩))
            all_goals (refine CWops.run htt 3 (by simp only [go_sem, simprocAttr, eSchema, eField, eType]; exact rfl) (by simp [go_sem, simprocAttr, eSchema, eField, eType]) ?_)
            all_goals (refine CWops.done ?_)
            all_goals (
              refine ⟨rfl, Sh.wk0 ?_⟩
              simp_all [Wk, go_sem, simprocAttr, eSchema, eType, fFind] <;> rfl)
          refine CW.cd (fun ct62 => ?_) (fun ct62 => ?_)
          · simp only [Bool.not_eq_true'] at ct62
            refine CW.seq (.rg (.rn htt 1 (.done ?_)))
            refine CW.ret ?_
            refine retQ.rt (by simp only [f58, go_sem, simprocAttr]; exact rfl) ?_
            refine ⟨_, ?_, rfl⟩
            have : schemaMay s = false := by unfold schemaMay; rw [allI_no hx (by rw [Nat.zero_add]; unfold typeMay fieldsMay; rw [allI_no hf (by rw [Nat.zero_add]; exact ct62)]; simp)]; simp
            simp [leP, this]
          · simp only [Bool.not_eq_false'] at ct62
            refine CW.skip ?_
            refine CW.rg (.run htt 2 (by simp only [go_sem, simprocAttr, wrap_succ (Nat.lt_of_lt_of_le hk (hF x (List.mem_of_getElem? hx)))]; exact rfl) (by simp [go_sem, simprocAttr, wrap_succ (Nat.lt_of_lt_of_le hk (hF x (List.mem_of_getElem? hx)))]) (.done ?_))
            refine ⟨k + 1, ?_, ?_, ?_⟩
            · refine Sh.wk0 ?_; simp [Wk, go_sem, simprocAttr, eSchema, eType]
            · exact ⟨hk, belowI_succ (p := fun j y => fieldMay s y && decide (fFind x.F y.Name = j)) k2 hf ct62⟩
            · simp only; omega
        · have hk : k = x.F.length := by simp at ct47; omega
          refine CW.exit ?_
          refine CW.rg (.run htt 2 (by simp only [go_sem, simprocAttr, wrap_succ (Nat.lt_of_lt_of_le hi hb)]; exact rfl) (by simp [go_sem, simprocAttr, wrap_succ (Nat.lt_of_lt_of_le hi hb)]) (.done ?_))
          refine ⟨i + 1, ?_, ?_, ?_⟩
          · refine Sh.wk0 ?_; simp [Wk, go_sem, simprocAttr, eSchema]
          · exact ⟨hi, belowI_succ h2 hx (by unfold typeMay fieldsMay; rw [ct42, belowI_all (by rw [← hk]; exact k2)]; rfl)⟩
          · simp only; omega
    · have hi : i = s.length := by simp at ct21; omega
      refine CW.exit ?_
      refine CW.seq (.rg (.rn htt 1 (.done ?_)))
      refine CW.ret ?_
      refine retQ.rt (by simp only [f58, go_sem, simprocAttr]; exact rfl) ?_
      refine ⟨_, ?_, rfl⟩
      have : schemaMay s = true := by unfold schemaMay; rw [ct16, belowI_all (by rw [← hi]; exact h2)]; rfl
      simp [leP, this]
@[go_sem] theorem tt_20 : tiOf prog 20 = some ⟨.iface [], 1, 16, [.nili], false⟩ := by kernel_rfl
@[go_sem] theorem tt_198 : tiOf prog 198 = some ⟨.int IntKind.i64, 1, 8, [.int .i64 0], false⟩ := by kernel_rfl
@[go_sem] theorem tt_76 : tiOf prog 76 = some ⟨.map 3 3, 1, 8, [.nilmap], false⟩ := by kernel_rfl
@[go_sem] theorem tt_97 : tiOf prog 97 = some ⟨.struct [(26, 0), (76, 1)], 2, 32, [.nilsl, .nilmap], true⟩ := by kernel_rfl
@[go_sem] theorem tt_93 : tiOf prog 93 = some ⟨.ptr 97, 1, 8, [.nilp], false⟩ := by kernel_rfl
@[go_sem] theorem tt_122 : tiOf prog 122 = some ⟨.func, 1, 8, [.nilfunc], false⟩ := by kernel_rfl
def vOf (k : Int) (v : GVal) : AV :=
  if ((decide (0 ≤ k) && decide (k ≤ 3)) && (decide (v.S = ⟨#[]⟩) && decide (v.R = 0))) = true then .ifc 3 (.int .i64 v.N) else
  if (decide (k = 4) && (decide (v.N = 0) && decide (v.R = 0))) = true then .ifc 9 (.str v.S) else
  if (decide (k = 5) && (decide (v.N = 0) && decide (v.S = ⟨#[]⟩))) = true then .ifc 198 (.int .i64 v.R) else .nili
theorem value_of (up : Bool) (k : Int) (v : GVal) : PCall prog up 106 [.int .i64 k, .agg (eVal v)] (· = vOf k v) := by
  refine PCall.intro htt func106 (by kernel_rfl) rfl (Nat.le_of_ble_eq_true rfl) fun hl => ?_

  simp only [tmps0, Nat.reduceAdd]
  refine CW.seq (.rg (.run htt 2 (by simp only [go_sem, simprocAttr, eVal]; exact rfl) (by simp [go_sem, simprocAttr, eVal]) (.done ?_)))
  refine CW.seq ?_
  refine CW.block ?_
  refine CW.cut ⟨1, [(0, .int .i64 k), (3, .lv 0 [] 0), (5, .bool ((decide (0 ≤ k) && decide (k ≤ 3)) && (decide (v.S = ⟨#[]⟩) && decide (v.R = 0))))], [(0, ⟨true, eVal v⟩)]⟩ ?_ ?_
  · refine CW.rg (.run htt 3 (by simp only [go_sem, simprocAttr, eVal]; exact rfl) (by simp [go_sem, simprocAttr, eVal]) ?_)
    all_goals (first | refine CWops.guard 8 (by simp only [go_sem, simprocAttr, eVal]; exact rfl) (fun g8 => ?_) (fun g8 => ?_) | skip)
    all_goals (refine CWops.run htt 4 (by simp only [go_sem, simprocAttr, eVal]; exact rfl) (by simp [go_sem, simprocAttr, eVal]) ?_)
    all_goals (first | refine CWops.guard 12 (by simp only [go_sem, simprocAttr, eVal]; exact rfl) (fun g12 => ?_) (fun g12 => ?_) | skip)
    all_goals (refine CWops.run htt 7 (by simp only [go_sem, simprocAttr, eVal]; exact rfl) (by simp [go_sem, simprocAttr, eVal]) ?_)
    all_goals (refine CWops.done ?_)
    all_goals (
      refine ⟨rfl, Sh.wk0 ?_⟩
      simp_all [Wk, go_sem, simprocAttr, eVal] <;> first | done | omega | (rw [Bool.eq_iff_iff]; simp; omega) | skip)
  refine CW.cd (fun ct5 => ?_) (fun ct5 => ?_)
  · refine CW.seq (.rg (.run htt 4 (by simp only [go_sem, simprocAttr, eVal]; exact rfl) (by simp [go_sem, simprocAttr, eVal]) (.done ?_)))
    refine CW.ret ?_
    refine retQ.rt (by simp only [f106, go_sem, simprocAttr]; exact rfl) ?_
    refine ⟨_, ?_, rfl⟩
    simp only [vOf, ct5, if_true, leP]
  · refine CW.cut ⟨1, [(0, .int .i64 k), (3, .lv 0 [] 0), (22, .bool (decide (k = 4) && (decide (v.N = 0) && decide (v.R = 0))))], [(0, ⟨true, eVal v⟩)]⟩ ?_ ?_
    · refine CW.rg (.run htt 3 (by simp only [go_sem, simprocAttr, eVal]; exact rfl) (by simp [go_sem, simprocAttr, eVal]) ?_)
      all_goals (first | refine CWops.guard 25 (by simp only [go_sem, simprocAttr, eVal]; exact rfl) (fun g25 => ?_) (fun g25 => ?_) | skip)
      all_goals (refine CWops.run htt 7 (by simp only [go_sem, simprocAttr, eVal]; exact rfl) (by simp [go_sem, simprocAttr, eVal]) ?_)
      all_goals (refine CWops.done ?_)
      all_goals (
        refine ⟨rfl, Sh.wk0 ?_⟩
        simp_all [Wk, go_sem, simprocAttr, eVal] <;> first | done | omega | (rw [Bool.eq_iff_iff]; simp; omega) | skip)
    refine CW.cd (fun ct22 => ?_) (fun ct22 => ?_)
    · refine CW.seq (.rg (.run htt 4 (by simp only [go_sem, simprocAttr, eVal]; exact rfl) (by simp [go_sem, simprocAttr, eVal]) (.done ?_)))
      refine CW.ret ?_
      refine retQ.rt (by simp only [f106, go_sem, simprocAttr]; exact rfl) ?_
      refine ⟨_, ?_, rfl⟩
      simp only [vOf, ct5, ct22, Bool.false_eq_true, if_true, if_false, leP]
    · refine CW.cut ⟨1, [(0, .int .i64 k), (3, .lv 0 [] 0), (35, .bool (decide (k = 5) && (decide (v.N = 0) && decide (v.S = ⟨#[]⟩))))], [(0, ⟨true, eVal v⟩)]⟩ ?_ ?_
      · refine CW.rg (.run htt 3 (by simp only [go_sem, simprocAttr, eVal]; exact rfl) (by simp [go_sem, simprocAttr, eVal]) ?_)
        all_goals (first | refine CWops.guard 38 (by simp only [go_sem, simprocAttr, eVal]; exact rfl) (fun g38 => ?_) (fun g38 => ?_) | skip)
        all_goals (refine CWops.run htt 7 (by simp only [go_sem, simprocAttr, eVal]; exact rfl) (by simp [go_sem, simprocAttr, eVal]) ?_)
        all_goals (refine CWops.done ?_)
        all_goals (
          refine ⟨rfl, Sh.wk0 ?_⟩
          simp_all [Wk, go_sem, simprocAttr, eVal] <;> first | done | omega | (rw [Bool.eq_iff_iff]; simp; omega) | skip)
      refine CW.cd (fun ct35 => ?_) (fun ct35 => ?_)
      · refine CW.seq (.rg (.run htt 4 (by simp only [go_sem, simprocAttr, eVal]; exact rfl) (by simp [go_sem, simprocAttr, eVal]) (.done ?_)))
        refine CW.ret ?_
        refine retQ.rt (by simp only [f106, go_sem, simprocAttr]; exact rfl) ?_
        refine ⟨_, ?_, rfl⟩
        simp only [vOf, ct5, ct22, ct35, Bool.false_eq_true, if_true, if_false, leP]
      · refine CW.skip ?_
        refine CW.seq (.rg (.rn htt 1 (.done ?_)))
        refine CW.ret ?_
        refine retQ.rt (by simp only [f106, go_sem, simprocAttr]; exact rfl) ?_
        refine ⟨_, ?_, rfl⟩
        simp only [vOf, ct5, ct22, ct35, if_true, Bool.false_eq_true, if_false, leP]
theorem value_fits_nil (up : Bool) (k : Int) : PCall prog up 105 [.int .i64 k, .nili] (· = .bool (false)) := by
  refine PCall.intro htt func105 (by kernel_rfl) rfl (Nat.le_of_ble_eq_true rfl) fun hl => ?_

  simp only [tmps0, Nat.reduceAdd]
  refine CW.seq (.rg (.rn htt 1 (.done ?_)))
  refine CW.seq (.seq (.rg (.rn htt 1 (.done ?_))))
  refine CW.block ?_
  refine CW.seq (.rg (.rn htt 3 (.done ?_)))
  refine CW.cd (fun ct11 => ?_) (fun ct11 => ?_)
  · cases ct11 
  · refine CW.seq (.rg (.rn htt 3 (.done ?_)))
    refine CW.cd (fun ct28 => ?_) (fun ct28 => ?_)
    · cases ct28 
    · refine CW.seq (.rg (.rn htt 3 (.done ?_)))
      refine CW.cd (fun ct34 => ?_) (fun ct34 => ?_)
      · cases ct34 
      · refine CW.skip ?_
        refine CW.seq (.rg (.rn htt 1 (.done ?_)))
        refine CW.ret ?_
        refine retQ.rt (by simp only [f105, go_sem, simprocAttr]; exact rfl) ?_
        refine ⟨_, ?_, rfl⟩
        simp [leP]
theorem value_fits_str (up : Bool) (k : Int) (s : ByteArray) : PCall prog up 105 [.int .i64 k, .ifc 9 (.str s)] (· = .bool (decide (s.size ≤ 12))) := by
  refine PCall.intro htt func105 (by kernel_rfl) rfl (Nat.le_of_ble_eq_true rfl) fun hl => ?_

  simp only [tmps0, Nat.reduceAdd]
  refine CW.seq (.rg (.rn htt 1 (.done ?_)))
  refine CW.seq (.seq (.rg (.rn htt 1 (.done ?_))))
  refine CW.block ?_
  refine CW.seq (.rg (.rn htt 3 (.done ?_)))
  refine CW.cd (fun ct11 => ?_) (fun ct11 => ?_)
  · cases ct11 
  · refine CW.seq (.rg (.rn htt 3 (.done ?_)))
    refine CW.cd (fun ct28 => ?_) (fun ct28 => ?_)
    · refine CW.seq (.rg (.rn htt 1 (.done ?_)))
      refine CW.seq (.rg (.rn htt 4 (.done ?_)))
      refine CW.ret ?_
      refine retQ.rt (by simp only [f105, go_sem, simprocAttr]; exact rfl) ?_
      refine ⟨_, ?_, rfl⟩
      simp [leP] <;> omega
    · cases ct28
theorem value_fits_id (up : Bool) (k : Int) (r : Int) : PCall prog up 105 [.int .i64 k, .ifc 198 (.int .i64 r)] (· = .bool (decide (-1 ≤ r) && decide (r ≤ 1073741824))) := by
  refine PCall.intro htt func105 (by kernel_rfl) rfl (Nat.le_of_ble_eq_true rfl) fun hl => ?_

  simp only [tmps0, Nat.reduceAdd]
  refine CW.seq (.rg (.rn htt 1 (.done ?_)))
  refine CW.seq (.seq (.rg (.rn htt 1 (.done ?_))))
  refine CW.block ?_
  refine CW.seq (.rg (.rn htt 3 (.done ?_)))
  refine CW.cd (fun ct11 => ?_) (fun ct11 => ?_)
  · cases ct11 
  · refine CW.seq (.rg (.rn htt 3 (.done ?_)))
    refine CW.cd (fun ct28 => ?_) (fun ct28 => ?_)
    · cases ct28 
    · refine CW.seq (.rg (.rn htt 3 (.done ?_)))
      refine CW.cd (fun ct34 => ?_) (fun ct34 => ?_)
      · refine CW.seq (.rg (.rn htt 1 (.done ?_)))
        refine CW.seq (.rg (.rn htt 3 ?_))
        all_goals (first | refine CWops.guard 38 (by simp only [go_sem, simprocAttr]; exact rfl) (fun g38 => ?_) (fun g38 => ?_) | skip)
        all_goals (refine CWops.rn htt 4 ?_)
        all_goals (refine CWops.done ?_)
        all_goals (
          refine CW.ret ?_
          refine retQ.rt (by simp only [f105, go_sem, simprocAttr]; exact rfl) ?_
          refine ⟨_, ?_, rfl⟩
          simp_all [leP] <;> (intros; omega))
      · cases ct34
theorem pw_0 : (2 : Int) ^ min (IntKind.i64.wrap (IntKind.i64.wrap (8 * 2 ^ min 0 64) - 1)).toNat 64 = 128 := by decide
theorem pw_1 : (2 : Int) ^ min (IntKind.i64.wrap (IntKind.i64.wrap (8 * 2 ^ min 1 64) - 1)).toNat 64 = 32768 := by decide
theorem pw_2 : (2 : Int) ^ min (IntKind.i64.wrap (IntKind.i64.wrap (8 * 2 ^ min 2 64) - 1)).toNat 64 = 2147483648 := by decide
theorem pw_3 : (2 : Int) ^ min (IntKind.i64.wrap (IntKind.i64.wrap (8 * 2 ^ min 3 64) - 1)).toNat 64 = 9223372036854775808 := by decide
theorem fd (n : Int) (m : Nat) (h : 0 < m) : (decide (n.fdiv m = 0) || decide (n.fdiv m = -1)) = (decide (-(m : Int) ≤ n) && decide (n < m)) := by
  have h0 : (0 : Int) < m := by omega
  have e := Int.mul_fdiv_add_fmod n m
  have h1 := Int.fmod_nonneg_of_pos n h0
  have h2 := Int.fmod_lt_of_pos n h0
  rw [Bool.eq_iff_iff]
  simp only [Bool.or_eq_true, Bool.and_eq_true, decide_eq_true_eq]
  constructor
  · rintro (h | h) <;> rw [h] at e <;> omega
  · rintro ⟨h3, h4⟩
    have : n.fdiv m < 1 := by
      refine Int.lt_of_not_ge fun h5 => ?_
      have := Int.mul_le_mul_of_nonneg_left h5 (Int.le_of_lt h0)
      omega
    have : -2 < n.fdiv m := by
      refine Int.lt_of_not_ge fun h5 => ?_
      have := Int.mul_le_mul_of_nonneg_left h5 (Int.le_of_lt h0)
      omega
    omega
theorem value_fits_int0 (up : Bool) (k : Int) (n : Int) (hk : k = 0) : PCall prog up 105 [.int .i64 k, .ifc 3 (.int .i64 n)] (· = .bool (numFits k n)) := by
  refine PCall.intro htt func105 (by kernel_rfl) rfl (Nat.le_of_ble_eq_true rfl) fun hl => ?_
  subst hk
  simp only [tmps0, Nat.reduceAdd]
  refine CW.seq (.rg (.rn htt 1 (.done ?_)))
  refine CW.seq (.seq (.rg (.rn htt 1 (.done ?_))))
  refine CW.block ?_
  refine CW.seq (.rg (.rn htt 3 (.done ?_)))
  refine CW.cd (fun ct11 => ?_) (fun ct11 => ?_)
  · refine CW.seq (.rg (.rn htt 1 (.done ?_)))
    refine CW.seq (.rg (.rn htt 3 (.done ?_)))
    refine CW.seq (.rg (.run htt 6 (by simp only [go_sem, simprocAttr, pw_0]; exact rfl) (by simp [go_sem, simprocAttr, pw_0]) ?_))
    all_goals (first | refine CWops.guard 20 (by simp only [go_sem, simprocAttr, pw_0]; exact rfl) (fun g20 => ?_) (fun g20 => ?_) | skip)
    all_goals (refine CWops.run htt 7 (by simp only [go_sem, simprocAttr, pw_0]; exact rfl) (by simp [go_sem, simprocAttr, pw_0]) ?_)
    all_goals (refine CWops.done ?_)
    all_goals (
      refine CW.ret ?_
      refine retQ.rt (by simp only [f105, go_sem, simprocAttr]; exact rfl) ?_
      refine ⟨_, ?_, rfl⟩
      have := Bool.eq_iff_iff.1 (fd n (128) (by decide))
      simp only [Bool.or_eq_true, Bool.and_eq_true, decide_eq_true_eq] at this
      simp_all [leP, numFits] <;> first | done | omega | skip)
  · cases ct11
theorem value_fits_int1 (up : Bool) (k : Int) (n : Int) (hk : k = 1) : PCall prog up 105 [.int .i64 k, .ifc 3 (.int .i64 n)] (· = .bool (numFits k n)) := by
  refine PCall.intro htt func105 (by kernel_rfl) rfl (Nat.le_of_ble_eq_true rfl) fun hl => ?_
  subst hk
  simp only [tmps0, Nat.reduceAdd]
  refine CW.seq (.rg (.rn htt 1 (.done ?_)))
  refine CW.seq (.seq (.rg (.rn htt 1 (.done ?_))))
  refine CW.block ?_
  refine CW.seq (.rg (.rn htt 3 (.done ?_)))
  refine CW.cd (fun ct11 => ?_) (fun ct11 => ?_)
  · refine CW.seq (.rg (.rn htt 1 (.done ?_)))
    refine CW.seq (.rg (.rn htt 3 (.done ?_)))
    refine CW.seq (.rg (.run htt 6 (by simp only [go_sem, simprocAttr, pw_1]; exact rfl) (by simp [go_sem, simprocAttr, pw_1]) ?_))
    all_goals (first | refine CWops.guard 20 (by simp only [go_sem, simprocAttr, pw_1]; exact rfl) (fun g20 => ?_) (fun g20 => ?_) | skip)
    all_goals (refine CWops.run htt 7 (by simp only [go_sem, simprocAttr, pw_1]; exact rfl) (by simp [go_sem, simprocAttr, pw_1]) ?_)
    all_goals (refine CWops.done ?_)
    all_goals (
      refine CW.ret ?_
      refine retQ.rt (by simp only [f105, go_sem, simprocAttr]; exact rfl) ?_
      refine ⟨_, ?_, rfl⟩
      have := Bool.eq_iff_iff.1 (fd n (32768) (by decide))
      simp only [Bool.or_eq_true, Bool.and_eq_true, decide_eq_true_eq] at this
      simp_all [leP, numFits] <;> first | done | omega | skip)
  · cases ct11
theorem value_fits_int2 (up : Bool) (k : Int) (n : Int) (hk : k = 2) : PCall prog up 105 [.int .i64 k, .ifc 3 (.int .i64 n)] (· = .bool (numFits k n)) := by
  refine PCall.intro htt func105 (by kernel_rfl) rfl (Nat.le_of_ble_eq_true rfl) fun hl => ?_
  subst hk
  simp only [tmps0, Nat.reduceAdd]
  refine CW.seq (.rg (.rn htt 1 (.done ?_)))
  refine CW.seq (.seq (.rg (.rn htt 1 (.done ?_))))
  refine CW.block ?_
  refine CW.seq (.rg (.rn htt 3 (.done ?_)))
  refine CW.cd (fun ct11 => ?_) (fun ct11 => ?_)
  · refine CW.seq (.rg (.rn htt 1 (.done ?_)))
    refine CW.seq (.rg (.rn htt 3 (.done ?_)))
    refine CW.seq (.rg (.run htt 6 (by simp only [go_sem, simprocAttr, pw_2]; exact rfl) (by simp [go_sem, simprocAttr, pw_2]) ?_))
    all_goals (first | refine CWops.guard 20 (by simp only [go_sem, simprocAttr, pw_2]; exact rfl) (fun g20 => ?_) (fun g20 => ?_) | skip)
    all_goals (refine CWops.run htt 7 (by simp only [go_sem, simprocAttr, pw_2]; exact rfl) (by simp [go_sem, simprocAttr, pw_2]) ?_)
    all_goals (refine CWops.done ?_)
    all_goals (
      refine CW.ret ?_
      refine retQ.rt (by simp only [f105, go_sem, simprocAttr]; exact rfl) ?_
      refine ⟨_, ?_, rfl⟩
      have := Bool.eq_iff_iff.1 (fd n (2147483648) (by decide))
      simp only [Bool.or_eq_true, Bool.and_eq_true, decide_eq_true_eq] at this
      simp_all [leP, numFits] <;> first | done | omega | skip)
  · cases ct11
theorem value_fits_int3 (up : Bool) (k : Int) (n : Int) (hk : k = 3) : PCall prog up 105 [.int .i64 k, .ifc 3 (.int .i64 n)] (· = .bool (numFits k n)) := by
  refine PCall.intro htt func105 (by kernel_rfl) rfl (Nat.le_of_ble_eq_true rfl) fun hl => ?_
  subst hk
  simp only [tmps0, Nat.reduceAdd]
  refine CW.seq (.rg (.rn htt 1 (.done ?_)))
  refine CW.seq (.seq (.rg (.rn htt 1 (.done ?_))))
  refine CW.block ?_
  refine CW.seq (.rg (.rn htt 3 (.done ?_)))
  refine CW.cd (fun ct11 => ?_) (fun ct11 => ?_)
  · refine CW.seq (.rg (.rn htt 1 (.done ?_)))
    refine CW.seq (.rg (.rn htt 3 (.done ?_)))
    refine CW.seq (.rg (.run htt 6 (by simp only [go_sem, simprocAttr, pw_3]; exact rfl) (by simp [go_sem, simprocAttr, pw_3]) ?_))
    all_goals (first | refine CWops.guard 20 (by simp only [go_sem, simprocAttr, pw_3]; exact rfl) (fun g20 => ?_) (fun g20 => ?_) | skip)
    all_goals (refine CWops.run htt 7 (by simp only [go_sem, simprocAttr, pw_3]; exact rfl) (by simp [go_sem, simprocAttr, pw_3]) ?_)
    all_goals (refine CWops.done ?_)
    all_goals (
      refine CW.ret ?_
      refine retQ.rt (by simp only [f105, go_sem, simprocAttr]; exact rfl) ?_
      refine ⟨_, ?_, rfl⟩
      have := Bool.eq_iff_iff.1 (fd n (9223372036854775808) (by decide))
      simp only [Bool.or_eq_true, Bool.and_eq_true, decide_eq_true_eq] at this
      simp_all [leP, numFits] <;> first | done | omega | skip)
  · cases ct11
theorem vOf_pure (k : Int) (v : GVal) : (vOf k v).pure = true := by
  unfold vOf; repeat' split
  all_goals rfl
theorem value_fits (up : Bool) (f : GField) (v : GVal) : PCall prog up 105 [.int .i64 f.Kind, vOf f.Kind v] (· = .bool (valFits f v)) := by
  unfold vOf valFits
  split
  · rename_i h
    simp only [Bool.and_eq_true, decide_eq_true_eq] at h
    obtain ⟨⟨h1, h2⟩, h3, h4⟩ := h
    rw [if_neg (by omega), if_neg (by omega)]
    have : f.Kind = 0 ∨ f.Kind = 1 ∨ f.Kind = 2 ∨ f.Kind = 3 := by omega
    rw [h3, h4]
    simp only [decide_true, Bool.and_true]
    rcases this with e | e | e | e
    · exact value_fits_int0 up _ _ e
    · exact value_fits_int1 up _ _ e
    · exact value_fits_int2 up _ _ e
    · exact value_fits_int3 up _ _ e
  · rename_i h
    split
    · rename_i h2
      simp only [Bool.and_eq_true, decide_eq_true_eq] at h2
      rw [if_pos h2.1, h2.2.1, h2.2.2]
      simpa using value_fits_str up _ _
    · rename_i h2
      split
      · rename_i h3
        simp only [Bool.and_eq_true, decide_eq_true_eq] at h3
        rw [if_neg (by omega), if_pos h3.1, h3.2.1, h3.2.2]
        simpa using value_fits_id up _ _
      · rename_i h3
        refine (value_fits_nil up f.Kind).mono fun r hr => ?_
        rw [hr]
        congr 1
        symm
        split
        · rename_i e; simp [e] at h2 ⊢; intros; omega
        · split
          · rename_i e; simp [e] at h3 ⊢; intros; simp_all
          · rename_i e4 e5
            unfold numFits
            simp at h
            simp
            intro h5
            refine fun h6 => h ?_ ?_ h6
            · repeat' split at h5
              all_goals first | omega | cases h5
            · repeat' split at h5
              all_goals first | omega | cases h5
theorem value_Fits (up : Bool) (f : GField) (v : GVal) : PCall prog up 83 [.agg (eField f), .agg (eVal v)] (· = .bool (valFits f v)) := by
  refine PCall.intro htt func83 (by kernel_rfl) rfl (Nat.le_of_ble_eq_true rfl) fun hl => ?_

  simp only [tmps0, Nat.reduceAdd]
  refine CW.seq (.rg (.run htt 3 (by simp only [go_sem, simprocAttr, eField, eVal]; exact rfl) (by simp [go_sem, simprocAttr, eField, eVal]) (.done ?_)))
  refine CW.seq ?_
  refine CW.drawn mixed 6 (by decide) (by kernel_rfl) (by kernel_rfl) (by kernel_rfl) ?_
  refine Seg.run htt 5 (by simp only [go_sem, simprocAttr, eField, eVal, vOf_pure]; exact rfl) ?_
  refine Seg.callA (value_of up f.Kind v) (by simp only [go_sem, simprocAttr, eField, eVal, vOf_pure]) (by simp only [go_sem, simprocAttr, eField, eVal, vOf_pure] <;> exact rfl) (by simp only [go_sem, simprocAttr, eField, eVal, vOf_pure]) (by simp only [go_sem, simprocAttr, eField, eVal, vOf_pure]) ?_
  refine Seg.done ?_
  refine CWops.callA (value_fits up f v) (by simp only [go_sem, simprocAttr, eField, eVal, vOf_pure]) (by simp only [go_sem, simprocAttr, eField, eVal, vOf_pure] <;> exact rfl) (by simp only [go_sem, simprocAttr, eField, eVal, vOf_pure]) (by simp only [go_sem, simprocAttr, eField, eVal, vOf_pure]) (fun rt11 hrt11 => ?_)
  subst hrt11
  refine CWops.run htt 1 (by simp only [go_sem, simprocAttr, eField, eVal, vOf_pure]; exact rfl) (by simp [go_sem, simprocAttr, eField, eVal, vOf_pure]) (.done ?_)
  refine CW.ret ?_
  refine retQ.rt (by simp only [f83, go_sem, simprocAttr]; exact rfl) ?_
  refine ⟨_, ?_, rfl⟩
  simp [leP]
theorem graph_types (up : Bool) (g : Graph) : PCall prog up 49 [.agg (eGraph g)] (· = .fmap (tmap g.O)) := by
  refine PCall.intro htt func49 (by kernel_rfl) rfl (Nat.le_of_ble_eq_true rfl) fun hl => ?_
  have hL := (hl (.agg (eGraph g)) (by simp)).agg
  have hb := (hL (.sl 3 (g.O.map eObj)) (by simp [eGraph])).sl.1
  simp only [List.length_map] at hb
  simp only [tmps0, Nat.reduceAdd]
  refine CW.seq (.rg (.run htt 2 (by simp only [go_sem, simprocAttr, eGraph]; exact rfl) (by simp [go_sem, simprocAttr, eGraph]) (.done ?_)))
  refine CW.seq (.rg (.rn htt 2 (.done ?_)))
  refine CW.seq (.seq (.rg (.run htt 4 (by simp only [go_sem, simprocAttr, eGraph]; exact rfl) (by simp [go_sem, simprocAttr, eGraph]) (.done ?_))))
  refine CW.block ?_
  refine CW.loop (S := Nat) (fun i => ⟨2, [(3, .ref 1 [] 0), (8, .sl 3 (g.O.map eObj)), (9, .int .i64 g.O.length), (10, .int .i64 i)], [(1, ⟨false, [.omap (tmap (g.O.take i))]⟩)]⟩) (fun i => i ≤ g.O.length) (fun i => g.O.length - i) (0) ?_ (Nat.zero_le _) (fun i h1 => ?_)
  · refine Sh.wk0 ?_; simp [Wk, go_sem, simprocAttr, tmap]
  refine CW.seq (.rg (.rn htt 1 (.done ?_)))
  refine CW.seq ?_
  refine CW.cd (fun ct11 => ?_) (fun ct11 => ?_)
  · have hi : i < g.O.length := by simpa using ct11
    obtain ⟨x, hx⟩ : ∃ x, g.O[i]? = some x := ⟨g.O[i], List.getElem?_eq_getElem hi⟩
    refine CW.skip ?_
    refine CW.seq ?_
    refine CW.block ?_
    refine CW.seq (.rg (.run htt 4 (by simp only [go_sem, simprocAttr, hx, eObj]; exact rfl) (by simp [go_sem, simprocAttr, hx, eObj]) (.done ?_)))
    refine CW.rg ?_
    refine CWops.run htt 6 (by simp only [go_sem, simprocAttr, eObj]; exact rfl) (by have := tmap_len (g.O.take i); simp only [List.length_take] at this; simp; omega) ?_
    refine CWops.done ?_
    refine CW.rg (.run htt 2 (by simp only [go_sem, simprocAttr, wrap_succ (Nat.lt_of_lt_of_le hi hb)]; exact rfl) (by simp [go_sem, simprocAttr, wrap_succ (Nat.lt_of_lt_of_le hi hb)]) (.done ?_))
    refine ⟨i + 1, ?_, ?_, ?_⟩
    · refine Sh.wk0 ?_; simp [Wk, go_sem, simprocAttr, tmap_succ _ hx]
    · exact hi
    · simp only; omega
  · have hi : i = g.O.length := by simp at ct11; omega
    refine CW.exit ?_
    refine CW.seq (.rg (.rn htt 2 (.done ?_)))
    refine CW.ret ?_
    refine retQ.rt (by simp only [f49, go_sem, simprocAttr]; exact rfl) ?_
    refine ⟨_, ?_, rfl⟩
    simp only [leP, hi, List.take_length, AV.freeze]
theorem graph_leads_some (up : Bool) (g : Graph) (f : GField) (v : GVal) (t : Int) (ht : typ g.O v.R = some t) : PCall prog up 48 [.agg (eGraph g), .fmap (tmap g.O), .agg (eField f), .agg (eVal v)] (· = .bool (leadsB g f v)) := by
  refine PCall.intro htt func48 (by kernel_rfl) rfl (Nat.le_of_ble_eq_true rfl) fun hl => ?_

  simp only [tmps0, Nat.reduceAdd]
  refine CW.seq (.rg (.run htt 4 (by simp only [go_sem, simprocAttr, eGraph, eField, eVal]; exact rfl) (by simp [go_sem, simprocAttr, eGraph, eField, eVal]) (.done ?_)))
  refine CW.seq (.seq (.rg (.run htt 2 (by simp only [go_sem, simprocAttr, eField, eVal]; exact rfl) (by simp [go_sem, simprocAttr, eField, eVal]) ?_)))
  refine CWops.call (value_Fits up f v) (by simp only [go_sem, simprocAttr, eField, eVal]) (by simp only [go_sem, simprocAttr, eField, eVal] <;> exact rfl) (by simp only [go_sem, simprocAttr, eField, eVal]) (fun rt13 hrt13 => ?_)
  subst hrt13; refine ⟨rfl, ?_⟩
  refine CWops.run htt 1 (by simp only [go_sem, simprocAttr, eField, eVal]; exact rfl) (by simp [go_sem, simprocAttr, eField, eVal]) (.done ?_)
  refine CW.cd (fun ct14 => ?_) (fun ct14 => ?_)
  · simp only [Bool.not_eq_true'] at ct14
    refine CW.seq (.rg (.rn htt 1 (.done ?_)))
    refine CW.ret ?_
    refine retQ.rt (by simp only [f48, go_sem, simprocAttr]; exact rfl) ?_
    refine ⟨_, ?_, rfl⟩
    unfold leadsB sFind
    rw [ht]
    clear ht hl
    simp only [leP, AV.bool.injEq]
    first | (cases g32; done) | (cases g30; done) | (simp only [ct14, Bool.false_and]; done) | (rw [ct14, Bool.true_and]; first | (simp only [g25, Bool.true_or]; done) | (simp only [g25, g30, Bool.true_or, Bool.false_or]; done) | (simp only [g25, g30, Bool.true_or, Bool.false_or]; rfl))
  · simp only [Bool.not_eq_false'] at ct14
    refine CW.skip ?_
    refine CW.seq (.rg (.run htt 9 (by simp only [go_sem, simprocAttr, eVal, maplk_tmap, ht]; exact rfl) (by simp [go_sem, simprocAttr, eVal, maplk_tmap, ht]) (.done ?_)))
    refine CW.seq (.rg (.run htt 4 (by simp only [go_sem, simprocAttr, eGraph, eField, eVal, eSchema]; exact rfl) (by simp [go_sem, simprocAttr, eGraph, eField, eVal, eSchema]) ?_))
    all_goals (first | refine CWops.guard 25 (by simp only [go_sem, simprocAttr, eGraph, eField, eVal, eSchema]; exact rfl) (fun g25 => ?_) (fun g25 => ?_) | skip)
    all_goals (refine CWops.run htt 5 (by simp only [go_sem, simprocAttr, eGraph, eField, eVal, eSchema]; exact rfl) (by simp [go_sem, simprocAttr, eGraph, eField, eVal, eSchema]) ?_)
    all_goals (first | refine CWops.guard 30 (by simp only [go_sem, simprocAttr, eGraph, eField, eVal, eSchema]; exact rfl) (fun g30 => ?_) (fun g30 => ?_) | skip)
    all_goals (refine CWops.run htt 2 (by simp only [go_sem, simprocAttr, eGraph, eField, eVal, eSchema]; exact rfl) (by simp [go_sem, simprocAttr, eGraph, eField, eVal, eSchema]) ?_)
    all_goals (first | refine CWops.guard 32 (by simp only [go_sem, simprocAttr, eGraph, eField, eVal, eSchema]; exact rfl) (fun g32 => ?_) (fun g32 => ?_) | skip)
    all_goals (refine CWops.run htt 5 (by simp only [go_sem, simprocAttr, eGraph, eField, eVal, eSchema]; exact rfl) (by simp [go_sem, simprocAttr, eGraph, eField, eVal, eSchema]) ?_)
    all_goals (first | (refine CWops.skip ?_ ?_; next => (simp only [go_sem, simprocAttr]; done)) | (refine CWops.call (schema_Find up g.S f.To) (by simp only [go_sem, simprocAttr, eGraph, eField, eVal, eSchema]) (by simp only [go_sem, simprocAttr, eGraph, eField, eVal, eSchema] <;> exact rfl) (by simp only [go_sem, simprocAttr, eGraph, eField, eVal, eSchema]) (fun rt38 hrt38 => ?_); subst hrt38; refine ⟨rfl, ?_⟩))
    all_goals (refine CWops.run htt 4 (by simp only [go_sem, simprocAttr, eGraph, eField, eVal, eSchema]; exact rfl) (by simp [go_sem, simprocAttr, eGraph, eField, eVal, eSchema]) ?_)
    all_goals (refine CWops.done ?_)
    all_goals (
      refine CW.ret ?_
      refine retQ.rt (by simp only [f48, go_sem, simprocAttr]; exact rfl) ?_
      refine ⟨_, ?_, rfl⟩
      unfold leadsB sFind
      rw [ht]
      clear ht hl
      simp only [leP, AV.bool.injEq]
      first | (cases g32; done) | (cases g30; done) | (simp only [ct14, Bool.false_and]; done) | (rw [ct14, Bool.true_and]; first | (simp only [g25, Bool.true_or]; done) | (simp only [g25, g30, Bool.true_or, Bool.false_or]; done) | (simp only [g25, g30, Bool.true_or, Bool.false_or]; rfl)))
theorem graph_leads_none (up : Bool) (g : Graph) (f : GField) (v : GVal) (ht : typ g.O v.R = none) : PCall prog up 48 [.agg (eGraph g), .fmap (tmap g.O), .agg (eField f), .agg (eVal v)] (· = .bool (leadsB g f v)) := by
  refine PCall.intro htt func48 (by kernel_rfl) rfl (Nat.le_of_ble_eq_true rfl) fun hl => ?_

  simp only [tmps0, Nat.reduceAdd]
  refine CW.seq (.rg (.run htt 4 (by simp only [go_sem, simprocAttr, eGraph, eField, eVal]; exact rfl) (by simp [go_sem, simprocAttr, eGraph, eField, eVal]) (.done ?_)))
  refine CW.seq (.seq (.rg (.run htt 2 (by simp only [go_sem, simprocAttr, eField, eVal]; exact rfl) (by simp [go_sem, simprocAttr, eField, eVal]) ?_)))
  refine CWops.call (value_Fits up f v) (by simp only [go_sem, simprocAttr, eField, eVal]) (by simp only [go_sem, simprocAttr, eField, eVal] <;> exact rfl) (by simp only [go_sem, simprocAttr, eField, eVal]) (fun rt13 hrt13 => ?_)
  subst hrt13; refine ⟨rfl, ?_⟩
  refine CWops.run htt 1 (by simp only [go_sem, simprocAttr, eField, eVal]; exact rfl) (by simp [go_sem, simprocAttr, eField, eVal]) (.done ?_)
  refine CW.cd (fun ct14 => ?_) (fun ct14 => ?_)
  · simp only [Bool.not_eq_true'] at ct14
    refine CW.seq (.rg (.rn htt 1 (.done ?_)))
    refine CW.ret ?_
    refine retQ.rt (by simp only [f48, go_sem, simprocAttr]; exact rfl) ?_
    refine ⟨_, ?_, rfl⟩
    unfold leadsB sFind
    rw [ht]
    clear ht hl
    simp only [leP, AV.bool.injEq]
    first | (cases g32; done) | (cases g30; done) | (simp only [ct14, Bool.false_and]; done) | (rw [ct14, Bool.true_and]; first | (simp only [g25, Bool.true_or]; done) | (simp only [g25, g30, Bool.true_or, Bool.false_or]; done) | (simp only [g25, g30, Bool.true_or, Bool.false_or]; rfl))
  · simp only [Bool.not_eq_false'] at ct14
    refine CW.skip ?_
    refine CW.seq (.rg (.run htt 9 (by simp only [go_sem, simprocAttr, eVal, maplk_tmap, ht]; exact rfl) (by simp [go_sem, simprocAttr, eVal, maplk_tmap, ht]) (.done ?_)))
    refine CW.seq (.rg (.run htt 4 (by simp only [go_sem, simprocAttr, eGraph, eField, eVal, eSchema]; exact rfl) (by simp [go_sem, simprocAttr, eGraph, eField, eVal, eSchema]) ?_))
    all_goals (first | refine CWops.guard 25 (by simp only [go_sem, simprocAttr, eGraph, eField, eVal, eSchema]; exact rfl) (fun g25 => ?_) (fun g25 => ?_) | skip)
    all_goals (refine CWops.run htt 5 (by simp only [go_sem, simprocAttr, eGraph, eField, eVal, eSchema]; exact rfl) (by simp [go_sem, simprocAttr, eGraph, eField, eVal, eSchema]) ?_)
    all_goals (first | refine CWops.guard 30 (by simp only [go_sem, simprocAttr, eGraph, eField, eVal, eSchema]; exact rfl) (fun g30 => ?_) (fun g30 => ?_) | skip)
    all_goals (refine CWops.run htt 2 (by simp only [go_sem, simprocAttr, eGraph, eField, eVal, eSchema]; exact rfl) (by simp [go_sem, simprocAttr, eGraph, eField, eVal, eSchema]) ?_)
    all_goals (first | refine CWops.guard 32 (by simp only [go_sem, simprocAttr, eGraph, eField, eVal, eSchema]; exact rfl) (fun g32 => ?_) (fun g32 => ?_) | skip)
    all_goals (refine CWops.run htt 5 (by simp only [go_sem, simprocAttr, eGraph, eField, eVal, eSchema]; exact rfl) (by simp [go_sem, simprocAttr, eGraph, eField, eVal, eSchema]) ?_)
    all_goals (first | (refine CWops.skip ?_ ?_; next => (simp only [go_sem, simprocAttr]; done)) | (refine CWops.call (schema_Find up g.S f.To) (by simp only [go_sem, simprocAttr, eGraph, eField, eVal, eSchema]) (by simp only [go_sem, simprocAttr, eGraph, eField, eVal, eSchema] <;> exact rfl) (by simp only [go_sem, simprocAttr, eGraph, eField, eVal, eSchema]) (fun rt38 hrt38 => ?_); subst hrt38; refine ⟨rfl, ?_⟩))
    all_goals (refine CWops.run htt 4 (by simp only [go_sem, simprocAttr, eGraph, eField, eVal, eSchema]; exact rfl) (by simp [go_sem, simprocAttr, eGraph, eField, eVal, eSchema]) ?_)
    all_goals (refine CWops.done ?_)
    all_goals (
      refine CW.ret ?_
      refine retQ.rt (by simp only [f48, go_sem, simprocAttr]; exact rfl) ?_
      refine ⟨_, ?_, rfl⟩
      unfold leadsB sFind
      rw [ht]
      clear ht hl
      simp only [leP, AV.bool.injEq]
      first | (cases g32; done) | (cases g30; done) | (simp only [ct14, Bool.false_and]; done) | (rw [ct14, Bool.true_and]; first | (simp only [g25, Bool.true_or]; done) | (simp only [g25, g30, Bool.true_or, Bool.false_or]; done) | (simp only [g25, g30, Bool.true_or, Bool.false_or]; rfl)))
theorem graph_leads (up : Bool) (g : Graph) (f : GField) (v : GVal) : PCall prog up 48 [.agg (eGraph g), .fmap (tmap g.O), .agg (eField f), .agg (eVal v)] (· = .bool (leadsB g f v)) := by
  cases ht : typ g.O v.R with
  | none => exact graph_leads_none up g f v ht
  | some t => exact graph_leads_some up g f v t ht
theorem graph_object (up : Bool) (g : Graph) (o : GObj) (last : Int) : PCall prog up 59 [.agg (eGraph g), .fmap (tmap g.O), .agg (eObj o), .int .i64 last] (· = .bool (objectB g o last)) := by
  refine PCall.intro htt func59 (by kernel_rfl) rfl (Nat.le_of_ble_eq_true rfl) fun hl => ?_
  have hL := (hl (.agg (eObj o)) (by simp)).agg
  have hb := (hL (.sl 3 (o.F.map eVal)) (by simp [eObj])).sl.1
  simp only [List.length_map] at hb
  simp only [tmps0, Nat.reduceAdd]
  refine CW.seq (.rg (.run htt 3 (by simp only [go_sem, simprocAttr, eGraph, eObj]; exact rfl) (by simp [go_sem, simprocAttr, eGraph, eObj]) (.done ?_)))
  refine CW.seq ?_
  refine CW.cut ⟨2, [(1, .fmap (tmap g.O)), (4, .lv 0 [] 0), (6, .lv 1 [] 0), (34, .bool (!((decide (last < o.Id) && decide (o.Id ≤ 1073741824)) && (decide (0 ≤ o.T) && decide (o.T < g.S.length)))))], [(0, ⟨true, eGraph g⟩), (1, ⟨true, eObj o⟩)]⟩ ?_ ?_
  · refine CW.rg (.run htt 5 (by simp only [go_sem, simprocAttr, eGraph, eSchema, eObj]; exact rfl) (by simp [go_sem, simprocAttr, eGraph, eSchema, eObj]) ?_)
    all_goals (first | refine CWops.guard 16 (by simp only [go_sem, simprocAttr, eGraph, eSchema, eObj]; exact rfl) (fun g16 => ?_) (fun g16 => ?_) | skip)
    all_goals (refine CWops.run htt 5 (by simp only [go_sem, simprocAttr, eGraph, eSchema, eObj]; exact rfl) (by simp [go_sem, simprocAttr, eGraph, eSchema, eObj]) ?_)
    all_goals (first | refine CWops.guard 21 (by simp only [go_sem, simprocAttr, eGraph, eSchema, eObj]; exact rfl) (fun g21 => ?_) (fun g21 => ?_) | skip)
    all_goals (refine CWops.run htt 5 (by simp only [go_sem, simprocAttr, eGraph, eSchema, eObj]; exact rfl) (by simp [go_sem, simprocAttr, eGraph, eSchema, eObj]) ?_)
    all_goals (first | refine CWops.guard 26 (by simp only [go_sem, simprocAttr, eGraph, eSchema, eObj]; exact rfl) (fun g26 => ?_) (fun g26 => ?_) | skip)
    all_goals (refine CWops.run htt 8 (by simp only [go_sem, simprocAttr, eGraph, eSchema, eObj]; exact rfl) (by simp [go_sem, simprocAttr, eGraph, eSchema, eObj]) ?_)
    all_goals (refine CWops.done ?_)
    all_goals (
      refine ⟨rfl, Sh.wk0 ?_⟩
      simp_all [Wk, go_sem, simprocAttr, eGraph, eObj] <;> first | done | omega | rfl | (rw [Bool.eq_iff_iff]; done) | (rw [Bool.eq_iff_iff]; simp; done) | (rw [Bool.eq_iff_iff]; simp; omega))
  refine CW.cd (fun ct34 => ?_) (fun ct34 => ?_)
  · simp only [Bool.not_eq_true'] at ct34
    refine CW.seq (.rg (.rn htt 1 (.done ?_)))
    refine CW.ret ?_
    refine retQ.rt (by simp only [f59, go_sem, simprocAttr]; exact rfl) ?_
    refine ⟨_, ?_, rfl⟩
    have : objectB g o last = false := by
      unfold objectB
      cases e : typeAt g.S o.T with
      | none => simp
      | some t =>
        have : (decide (0 ≤ o.T) && decide (o.T < g.S.length)) = true := by
          unfold typeAt at e; split at e
          · have := (List.getElem?_eq_some_iff.1 e).1; simp; omega
          · cases e
        rw [this] at ct34; simp only [Bool.and_true] at ct34; rw [ct34]; rfl
    simp [leP, this]
  · simp only [Bool.not_eq_false', Bool.and_eq_true, decide_eq_true_eq] at ct34
    obtain ⟨⟨h1, h2⟩, h3, h4⟩ := ct34
    obtain ⟨oi, oT, oF⟩ := o
    simp only at h1 h2 h3 h4 hb
    obtain ⟨n, rfl⟩ := Int.eq_ofNat_of_zero_le h3
    obtain ⟨t, ht⟩ : ∃ t, g.S[n]? = some t := ⟨g.S[n], List.getElem?_eq_getElem (by omega)⟩
    have hA : typeAt g.S n = some t := by unfold typeAt; rw [if_pos h3]; simpa using ht
    refine CW.skip ?_
    refine CW.seq (.rg (.run htt 9 (by simp only [go_sem, simprocAttr, eGraph, eObj, eType, ht]; exact rfl) (by simp [go_sem, simprocAttr, eGraph, eObj, eType, ht]) (.done ?_)))
    refine CW.seq (.seq (.rg (.run htt 6 (by simp only [go_sem, simprocAttr, eObj]; exact rfl) (by simp [go_sem, simprocAttr, eObj]) (.done ?_))))
    refine CW.cd (fun ct48 => ?_) (fun ct48 => ?_)
    · have hn : oF.length ≠ t.F.length := by simp at ct48; omega
      refine CW.seq (.rg (.rn htt 1 (.done ?_)))
      refine CW.ret ?_
      refine retQ.rt (by simp only [f59, go_sem, simprocAttr]; exact rfl) ?_
      refine ⟨_, ?_, rfl⟩
      have : objectB g ⟨oi, n, oF⟩ last = false := by
        unfold objectB; rw [hA]; simp [hn]
      simp [leP, this]
    · have hn : oF.length = t.F.length := by simp at ct48; omega
      refine CW.skip ?_
      refine CW.seq (.seq (.rg (.run htt 4 (by simp only [go_sem, simprocAttr, eObj]; exact rfl) (by simp [go_sem, simprocAttr, eObj]) (.done ?_))))
      refine CW.block ?_
      refine CW.loop (S := Nat) (fun k => ⟨2, [(1, .fmap (tmap g.O)), (4, .lv 0 [] 0), (6, .lv 1 [] 0), (9, .sl 3 (t.F.map eField)), (50, .sl 3 (oF.map eVal)), (51, .int .i64 oF.length), (52, .int .i64 k)], [(0, ⟨true, eGraph g⟩), (1, ⟨true, eObj ⟨oi, n, oF⟩⟩)]⟩) (fun k => k ≤ oF.length ∧ ∀ (j : Nat) (y), j < k → oF[j]? = some y → leadsAt g t.F j y = true) (fun k => oF.length - k) (0) ?_ ⟨Nat.zero_le _, fun j y hj => by omega⟩ (fun k ⟨k1, k2⟩ => ?_)
      · refine Sh.wk0 ?_; simp [Wk, go_sem, simprocAttr, eGraph, eObj]
      refine CW.seq (.rg (.rn htt 1 (.done ?_)))
      refine CW.seq ?_
      refine CW.cd (fun ct53 => ?_) (fun ct53 => ?_)
      · have hk : k < oF.length := by simpa using ct53
        obtain ⟨v, hv⟩ : ∃ v, oF[k]? = some v := ⟨oF[k], List.getElem?_eq_getElem hk⟩
        obtain ⟨f, hf⟩ : ∃ f, t.F[k]? = some f := ⟨t.F[k], List.getElem?_eq_getElem (by omega)⟩
        refine CW.skip ?_
        refine CW.seq ?_
        refine CW.block ?_
        refine CW.seq (.rg (.run htt 6 (by simp only [go_sem, simprocAttr, hv, eVal]; exact rfl) (by simp [go_sem, simprocAttr, hv, eVal]) (.done ?_)))
        refine CW.seq ?_
        refine CW.drawn mixed 7 (by decide) (by kernel_rfl) (by kernel_rfl) (by kernel_rfl) ?_
        refine Seg.run htt 7 (by simp only [go_sem, simprocAttr, hf, eGraph, eField, eVal]; exact rfl) ?_
        refine Seg.done ?_
        refine CWops.call (graph_leads up g f v) (by simp only [go_sem, simprocAttr, hf, eGraph, eField, eVal]) (by simp only [go_sem, simprocAttr, hf, eGraph, eField, eVal] <;> exact rfl) (by simp only [go_sem, simprocAttr, hf, eGraph, eField, eVal]) (fun rt64 hrt64 => ?_)
        subst hrt64; refine ⟨rfl, ?_⟩
        refine CWops.run htt 1 (by simp only [go_sem, simprocAttr, hf, eGraph, eField, eVal]; exact rfl) (by simp [go_sem, simprocAttr, hf, eGraph, eField, eVal]) (.done ?_)
        refine CW.cd (fun ct65 => ?_) (fun ct65 => ?_)
        · simp only [Bool.not_eq_true'] at ct65
          refine CW.seq (.rg (.rn htt 1 (.done ?_)))
          refine CW.ret ?_
          refine retQ.rt (by simp only [f59, go_sem, simprocAttr]; exact rfl) ?_
          refine ⟨_, ?_, rfl⟩
          have : objectB g ⟨oi, n, oF⟩ last = false := by
            unfold objectB; rw [hA]; simp only; rw [allI_no hv (by rw [Nat.zero_add]; unfold leadsAt; rw [hf]; exact ct65)]; simp
          simp [leP, this]
        · simp only [Bool.not_eq_false'] at ct65
          refine CW.skip ?_
          refine CW.rg (.run htt 2 (by simp only [go_sem, simprocAttr, wrap_succ (Nat.lt_of_lt_of_le hk hb)]; exact rfl) (by simp [go_sem, simprocAttr, wrap_succ (Nat.lt_of_lt_of_le hk hb)]) (.done ?_))
          refine ⟨k + 1, ?_, ?_, ?_⟩
          · refine Sh.wk0 ?_; simp [Wk, go_sem, simprocAttr, eGraph, eObj]
          · exact ⟨hk, belowI_succ k2 hv (by unfold leadsAt; rw [hf]; exact ct65)⟩
          · simp only; omega
      · have hk : k = oF.length := by simp at ct53; omega
        refine CW.exit ?_
        refine CW.seq (.rg (.rn htt 1 (.done ?_)))
        refine CW.ret ?_
        refine retQ.rt (by simp only [f59, go_sem, simprocAttr]; exact rfl) ?_
        refine ⟨_, ?_, rfl⟩
        have : objectB g ⟨oi, n, oF⟩ last = true := by
          unfold objectB; rw [hA]; simp only; rw [belowI_all (by rw [← hk]; exact k2)]; simp [h1, h2, hn]
        simp [leP, this]
theorem graph_May_1s (up : Bool) (g : Graph) (r t : Int) (ht : typ g.O r = some t) : PCall prog up 60 [.int .i64 r, .fp [.fmap (tmap g.O)]] (· = .bool (!rootB g r)) := by
  refine PCall.intro htt func60 (by kernel_rfl) rfl (Nat.le_of_ble_eq_true rfl) fun hl => ?_

  simp only [tmps0, Nat.reduceAdd]
  refine CW.seq (.rg (.rn htt 1 (.done ?_)))
  refine CW.seq (.rg (.run htt 8 (by simp only [go_sem, simprocAttr, maplk_tmap, ht]; exact rfl) (by simp [go_sem, simprocAttr, maplk_tmap, ht]) (.done ?_)))
  refine CW.seq (.rg (.rn htt 3 ?_))
  all_goals (first | refine CWops.guard 14 (by simp only [go_sem, simprocAttr]; exact rfl) (fun g14 => ?_) (fun g14 => ?_) | skip)
  all_goals (refine CWops.rn htt 4 ?_)
  all_goals (refine CWops.done ?_)
  all_goals (
    refine CW.ret ?_
    refine retQ.rt (by simp only [f60, go_sem, simprocAttr]; exact rfl) ?_
    refine ⟨_, ?_, rfl⟩
    simp_all [leP, rootB])
theorem graph_May_1n (up : Bool) (g : Graph) (r : Int) (ht : typ g.O r = none) : PCall prog up 60 [.int .i64 r, .fp [.fmap (tmap g.O)]] (· = .bool (!rootB g r)) := by
  refine PCall.intro htt func60 (by kernel_rfl) rfl (Nat.le_of_ble_eq_true rfl) fun hl => ?_

  simp only [tmps0, Nat.reduceAdd]
  refine CW.seq (.rg (.rn htt 1 (.done ?_)))
  refine CW.seq (.rg (.run htt 8 (by simp only [go_sem, simprocAttr, maplk_tmap, ht]; exact rfl) (by simp [go_sem, simprocAttr, maplk_tmap, ht]) (.done ?_)))
  refine CW.seq (.rg (.rn htt 3 ?_))
  all_goals (first | refine CWops.guard 14 (by simp only [go_sem, simprocAttr]; exact rfl) (fun g14 => ?_) (fun g14 => ?_) | skip)
  all_goals (refine CWops.rn htt 4 ?_)
  all_goals (refine CWops.done ?_)
  all_goals (
    refine CW.ret ?_
    refine retQ.rt (by simp only [f60, go_sem, simprocAttr]; exact rfl) ?_
    refine ⟨_, ?_, rfl⟩
    simp_all [leP, rootB])
theorem graph_May_1 (up : Bool) (g : Graph) (r : Int) : PCall prog up 60 [.int .i64 r, .fp [.fmap (tmap g.O)]] (· = .bool (!rootB g r)) := by
  cases ht : typ g.O r with
  | none => exact graph_May_1n up g r ht
  | some t => exact graph_May_1s up g r t ht
theorem fnd_any {α : Type} (p : α → Bool) (l : List α) : decide (0 ≤ fnd p l) = l.any p := by
  cases h : l.any p with
  | true =>
    have : 0 ≤ fnd p l := by
      unfold fnd
      split
      · omega
      · rename_i e
        rw [List.findIdx?_eq_none_iff] at e
        obtain ⟨x, hx, hp⟩ := List.any_eq_true.1 h
        rw [e x hx] at hp; cases hp
    simp [this]
  | false =>
    have : fnd p l = -1 := fnd_no fun j y hy => by
      cases hp : p y with
      | false => rfl
      | true => rw [any_at hy hp] at h; cases h
    rw [this]; rfl
theorem contains_int (up : Bool) (xs : List Int) (p : Int → Bool) (fn : FuncId) (caps : List AV) (hc : pureL caps = true) (hp : ∀ x ∈ xs, PCall prog up fn (.int .i64 x :: caps) (· = .bool (p x))) : PCall prog up 61 [.sl 1 (xs.map eI), .func (.func fn) [] caps] (· = .bool (xs.any p)) := by
  refine PCall.intro htt func61 (by kernel_rfl) rfl (Nat.le_of_ble_eq_true rfl) fun hl => ?_

  simp only [tmps0, Nat.reduceAdd]
  refine CW.seq (.rg (.rn htt 1 (.done ?_)))
  refine CW.seq (.rg (.run htt 2 (by simp only [go_sem, simprocAttr, hc]; exact rfl) (by simp [go_sem, simprocAttr, hc]) ?_))
  refine CWops.callA (index_int up xs p fn caps hc hp) (by simp only [go_sem, simprocAttr, hc]) (by simp only [go_sem, simprocAttr, hc] <;> exact rfl) (by simp only [go_sem, simprocAttr, hc]) (by simp only [go_sem, simprocAttr, hc]) (fun rt7 hrt7 => ?_)
  subst hrt7
  refine CWops.run htt 2 (by simp only [go_sem, simprocAttr, hc]; exact rfl) (by simp [go_sem, simprocAttr, hc]) (.done ?_)
  refine CW.ret ?_
  refine retQ.rt (by simp only [f61, go_sem, simprocAttr]; exact rfl) ?_
  refine ⟨_, ?_, rfl⟩
  simp only [leP, fnd_any]
theorem graph_May (up : Bool) (g : Graph) : PCall prog up 22 [.agg (eGraph g)] (· = .bool (gMay g)) := by
  refine PCall.intro htt func22 (by kernel_rfl) rfl (Nat.le_of_ble_eq_true rfl) fun hl => ?_
  have hL := (hl (.agg (eGraph g)) (by simp)).agg
  have hb := (hL (.sl 3 (g.O.map eObj)) (by simp [eGraph])).sl.1
  simp only [List.length_map] at hb
  simp only [tmps0, Nat.reduceAdd]
  refine CW.seq (.rg (.run htt 2 (by simp only [go_sem, simprocAttr, eGraph]; exact rfl) (by simp [go_sem, simprocAttr, eGraph]) (.done ?_)))
  refine CW.seq ?_
  refine CW.cut ⟨1, [(1, .lv 0 [] 0), (23, .bool (!((schemaMay g.S && decide (g.O.length ≤ 8)) && decide (g.Roots.length ≤ 3))))], [(0, ⟨true, eGraph g⟩)]⟩ ?_ ?_
  · refine CW.rg (.run htt 2 (by simp only [go_sem, simprocAttr, eGraph, eSchema]; exact rfl) (by simp [go_sem, simprocAttr, eGraph, eSchema]) ?_)
    refine CWops.call (schema_May up g.S) (by simp only [go_sem, simprocAttr, eGraph, eSchema]) (by simp only [go_sem, simprocAttr, eGraph, eSchema] <;> exact rfl) (by simp only [go_sem, simprocAttr, eGraph, eSchema]) (fun rt10 hrt10 => ?_)
    subst hrt10; refine ⟨rfl, ?_⟩
    refine CWops.run htt 2 (by simp only [go_sem, simprocAttr, eGraph, eSchema]; exact rfl) (by simp [go_sem, simprocAttr, eGraph, eSchema]) ?_
    all_goals (first | refine CWops.guard 12 (by simp only [go_sem, simprocAttr, eGraph, eSchema]; exact rfl) (fun g12 => ?_) (fun g12 => ?_) | skip)
    all_goals (refine CWops.run htt 6 (by simp only [go_sem, simprocAttr, eGraph, eSchema]; exact rfl) (by simp [go_sem, simprocAttr, eGraph, eSchema]) ?_)
    all_goals (first | refine CWops.guard 18 (by simp only [go_sem, simprocAttr, eGraph, eSchema]; exact rfl) (fun g18 => ?_) (fun g18 => ?_) | skip)
    all_goals (refine CWops.run htt 5 (by simp only [go_sem, simprocAttr, eGraph, eSchema]; exact rfl) (by simp [go_sem, simprocAttr, eGraph, eSchema]) ?_)
    all_goals (refine CWops.done ?_)
    all_goals (
      refine ⟨rfl, Sh.wk0 ?_⟩
      simp_all [Wk, go_sem, simprocAttr, eGraph] <;> first | done | omega | rfl | (rw [Bool.eq_iff_iff]; done) | (rw [Bool.eq_iff_iff]; simp; done) | (rw [Bool.eq_iff_iff]; simp; omega))
  refine CW.cd (fun ct23 => ?_) (fun ct23 => ?_)
  · simp only [Bool.not_eq_true'] at ct23
    refine CW.seq (.rg (.rn htt 1 (.done ?_)))
    refine CW.ret ?_
    refine retQ.rt (by simp only [f22, go_sem, simprocAttr]; exact rfl) ?_
    refine ⟨_, ?_, rfl⟩
    have : gMay g = false := by unfold gMay; rw [ct23]; rfl
    simp [leP, this]
  · simp only [Bool.not_eq_false'] at ct23
    refine CW.skip ?_
    refine CW.seq (.rg (.run htt 1 (by simp only [go_sem, simprocAttr, eGraph]; exact rfl) (by simp [go_sem, simprocAttr, eGraph]) ?_))
    refine CWops.callA (graph_types up g) (by simp only [go_sem, simprocAttr, eGraph]) (by simp only [go_sem, simprocAttr, eGraph] <;> exact rfl) (by simp only [go_sem, simprocAttr, eGraph]) (by simp only [go_sem, simprocAttr, eGraph]) (fun rt25 hrt25 => ?_)
    subst hrt25
    refine CWops.run htt 2 (by simp only [go_sem, simprocAttr, eGraph]; exact rfl) (by simp [go_sem, simprocAttr, eGraph]) (.done ?_)
    refine CW.seq (.rg (.rn htt 1 (.done ?_)))
    refine CW.seq (.seq (.rg (.run htt 4 (by simp only [go_sem, simprocAttr, eGraph]; exact rfl) (by simp [go_sem, simprocAttr, eGraph]) (.done ?_))))
    refine CW.block ?_
    refine CW.loop (S := Nat) (fun i => ⟨2, [(1, .lv 0 [] 0), (3, .lv 1 [] 0), (4, .int .i64 (prevId g.O i)), (27, .sl 3 (g.O.map eObj)), (28, .int .i64 g.O.length), (29, .int .i64 i)], [(0, ⟨true, eGraph g⟩), (1, ⟨true, [.fmap (tmap g.O)]⟩)]⟩) (fun i => i ≤ g.O.length ∧ ∀ (j : Nat) (y), j < i → g.O[j]? = some y → objectB g y (prevId g.O j) = true) (fun i => g.O.length - i) (0) ?_ ⟨Nat.zero_le _, fun j y hj => by omega⟩ (fun i ⟨h1, h2⟩ => ?_)
    · refine Sh.wk0 ?_; simp [Wk, go_sem, simprocAttr, eGraph, prevId]
    refine CW.seq (.rg (.rn htt 1 (.done ?_)))
    refine CW.seq ?_
    refine CW.cd (fun ct30 => ?_) (fun ct30 => ?_)
    · have hi : i < g.O.length := by simpa using ct30
      obtain ⟨x, hx⟩ : ∃ x, g.O[i]? = some x := ⟨g.O[i], List.getElem?_eq_getElem hi⟩
      refine CW.skip ?_
      refine CW.seq ?_
      refine CW.block ?_
      refine CW.seq (.rg (.run htt 4 (by simp only [go_sem, simprocAttr, hx, eObj]; exact rfl) (by simp [go_sem, simprocAttr, hx, eObj]) (.done ?_)))
      refine CW.seq (.seq (.rg (.run htt 4 (by simp only [go_sem, simprocAttr, eGraph, eObj]; exact rfl) (by simp [go_sem, simprocAttr, eGraph, eObj]) ?_)))
      refine CWops.call (graph_object up g x (prevId g.O i)) (by simp only [go_sem, simprocAttr, eGraph, eObj]) (by simp only [go_sem, simprocAttr, eGraph, eObj] <;> exact rfl) (by simp only [go_sem, simprocAttr, eGraph, eObj]) (fun rt37 hrt37 => ?_)
      subst hrt37; refine ⟨rfl, ?_⟩
      refine CWops.run htt 1 (by simp only [go_sem, simprocAttr, eGraph, eObj]; exact rfl) (by simp [go_sem, simprocAttr, eGraph, eObj]) (.done ?_)
      refine CW.cd (fun ct38 => ?_) (fun ct38 => ?_)
      · simp only [Bool.not_eq_true'] at ct38
        refine CW.seq (.rg (.rn htt 1 (.done ?_)))
        refine CW.ret ?_
        refine retQ.rt (by simp only [f22, go_sem, simprocAttr]; exact rfl) ?_
        refine ⟨_, ?_, rfl⟩
        have : gMay g = false := by unfold gMay; rw [allI_no hx (by rw [Nat.zero_add]; exact ct38)]; simp
        simp [leP, this]
      · simp only [Bool.not_eq_false'] at ct38
        refine CW.skip ?_
        refine CW.rg (.run htt 3 (by simp only [go_sem, simprocAttr, eObj]; exact rfl) (by simp [go_sem, simprocAttr, eObj]) (.done ?_))
        refine CW.rg (.run htt 2 (by simp only [go_sem, simprocAttr, wrap_succ (Nat.lt_of_lt_of_le hi hb)]; exact rfl) (by simp [go_sem, simprocAttr, wrap_succ (Nat.lt_of_lt_of_le hi hb)]) (.done ?_))
        refine ⟨i + 1, ?_, ?_, ?_⟩
        · refine Sh.wk0 ?_; simp [Wk, go_sem, simprocAttr, eGraph, prevId, hx]
        · exact ⟨hi, belowI_succ (p := fun j y => objectB g y (prevId g.O j)) h2 hx ct38⟩
        · simp only; omega
    · have hi : i = g.O.length := by simp at ct30; omega
      refine CW.exit ?_
      refine CW.seq (.rg (.rn htt 2 (.done ?_)))
      refine CW.seq (.rg (.run htt 3 (by simp only [go_sem, simprocAttr, eGraph]; exact rfl) (by simp [go_sem, simprocAttr, eGraph]) ?_))
      refine CWops.call (contains_int up g.Roots (fun r => !rootB g r) 60 [.fp [.fmap (tmap g.O)]] rfl (fun r _ => graph_May_1 up g r)) (by simp only [go_sem, simprocAttr, eGraph]) (by simp only [go_sem, simprocAttr, eGraph] <;> exact rfl) (by simp only [go_sem, simprocAttr, eGraph]) (fun rt46 hrt46 => ?_)
      subst hrt46; refine ⟨rfl, ?_⟩
      refine CWops.run htt 2 (by simp only [go_sem, simprocAttr, eGraph]; exact rfl) (by simp [go_sem, simprocAttr, eGraph]) (.done ?_)
      refine CW.ret ?_
      refine retQ.rt (by simp only [f22, go_sem, simprocAttr]; exact rfl) ?_
      refine ⟨_, ?_, rfl⟩
      have : gMay g = !g.Roots.any (fun r => !rootB g r) := by unfold gMay; rw [ct23, belowI_all (p := fun i o => objectB g o (prevId g.O i)) (by rw [← hi]; exact h2)]; simp [List.any_eq_not_all_not]
      simp [leP, this]
@[go_sem] theorem tt_83 : tiOf prog 83 = some ⟨.slice 68, 1, 24, [.nilsl], false⟩ := by kernel_rfl
@[go_sem] theorem tt_138 : tiOf prog 138 = some ⟨.struct [(29, 0), (83, 1)], 2, 32, [.int .u32 0, .nilsl], true⟩ := by kernel_rfl
def eP8 (p : List UInt8) : List AV := [.sl 1 (p.map eU8)]
theorem flowMay_any (ps : List (List UInt8)) : flowMay ps = (decide (ps.length ≤ 40) && !(ps.any fun p => decide (200 < p.length))) := by
  unfold flowMay
  congr 1
  rw [Bool.eq_iff_iff]; simp
theorem index_Part (up : Bool) (xs : List (List UInt8)) (p : (List UInt8) → Bool) (fn : FuncId) (caps : List AV) (hc : pureL caps = true) (hp : ∀ x ∈ xs, PCall prog up fn (.sl 1 (x.map eU8) :: caps) (· = .bool (p x))) : PCall prog up 121 [.sl 1 (xs.map eP8), .func (.func fn) [] caps] (· = .int .i64 (fnd p xs)) := by
  refine PCall.intro htt func121 (by kernel_rfl) rfl (Nat.le_of_ble_eq_true rfl) fun hl => ?_
  have hb := (hl (.sl 1 (xs.map eP8)) (by simp)).sl.1
  simp only [List.length_map] at hb
  simp only [tmps0, Nat.reduceAdd]
  refine CW.seq (.rg (.rn htt 1 (.done ?_)))
  refine CW.seq (.seq (.rg (.rn htt 3 (.done ?_))))
  refine CW.block ?_
  refine CW.loop (S := Nat) (fun i => ⟨0, [(0, .sl 1 (xs.map eP8)), (1, .func (.func fn) [] caps), (7, .int .i64 xs.length), (8, .int .i64 i)], []⟩) (fun i => i ≤ xs.length ∧ ∀ (j : Nat) (y), j < i → xs[j]? = some y → p y = false) (fun i => xs.length - i) (0) ?_ ⟨Nat.zero_le _, fun j y hj => by omega⟩ (fun i ⟨h1, h2⟩ => ?_)
  · refine Sh.wk0 ?_; simp [Wk, go_sem, simprocAttr]; exact ⟨[], caps, ⟨rfl, rfl⟩, by simp [SubL], SubL_pure _ _ hc⟩
  refine CW.seq (.rg (.rn htt 1 (.done ?_)))
  refine CW.seq ?_
  refine CW.cd (fun ct9 => ?_) (fun ct9 => ?_)
  · have hi : i < xs.length := by simpa using ct9
    obtain ⟨x, hx⟩ : ∃ x, xs[i]? = some x := ⟨xs[i], List.getElem?_eq_getElem hi⟩
    refine CW.skip ?_
    refine CW.seq ?_
    refine CW.block ?_
    refine CW.seq (.rg (.rn htt 2 (.done ?_)))
    refine CW.seq (.rg (.run htt 5 (by simp only [go_sem, simprocAttr, hx, hc, eP8]; exact rfl) (by simp [go_sem, simprocAttr, hx, hc, eP8]) ?_))
    refine CWops.callA (hp x (List.mem_of_getElem? hx)) (by simp only [go_sem, simprocAttr, hx, hc, eP8]) (by simp only [go_sem, simprocAttr, hx, hc, eP8] <;> exact rfl) (by simp only [go_sem, simprocAttr, hx, hc, eP8]) (by simp only [go_sem, simprocAttr, hx, hc, eP8]) (fun rt16 hrt16 => ?_)
    subst hrt16
    refine CWops.done ?_
    refine CW.cd (fun ct16 => ?_) (fun ct16 => ?_)
    · refine CW.seq (.rg (.rn htt 2 (.done ?_)))
      refine CW.ret ?_
      refine retQ.rt (by simp only [f121, go_sem, simprocAttr]; exact rfl) ?_
      refine ⟨_, ?_, rfl⟩
      simp only [leP, AV.int.injEq, true_and]; exact (fnd_at hx ct16 h2).symm
    · refine CW.skip ?_
      refine CW.rg (.run htt 2 (by simp only [go_sem, simprocAttr, wrap_succ (Nat.lt_of_lt_of_le hi hb)]; exact rfl) (by simp [go_sem, simprocAttr, wrap_succ (Nat.lt_of_lt_of_le hi hb)]) (.done ?_))
      refine ⟨i + 1, ?_, ?_, ?_⟩
      · refine Sh.wk0 ?_; simp [Wk, go_sem, simprocAttr]; exact ⟨[], caps, ⟨rfl, rfl⟩, by simp [SubL], SubL_pure _ _ hc⟩
      · exact ⟨hi, below_succ h2 hx ct16⟩
      · simp only; omega
  · have hi : i = xs.length := by simp at ct9; omega
    refine CW.exit ?_
    refine CW.seq (.rg (.rn htt 1 (.done ?_)))
    refine CW.ret ?_
    refine retQ.rt (by simp only [f121, go_sem, simprocAttr]; exact rfl) ?_
    refine ⟨_, ?_, rfl⟩
    simp only [leP, AV.int.injEq, true_and]; exact (fnd_no (below_all (by rw [← hi]; exact h2))).symm
theorem contains_Part (up : Bool) (xs : List (List UInt8)) (p : List UInt8 → Bool) (fn : FuncId) (caps : List AV) (hc : pureL caps = true) (hp : ∀ x ∈ xs, PCall prog up fn (.sl 1 (x.map eU8) :: caps) (· = .bool (p x))) : PCall prog up 103 [.sl 1 (xs.map eP8), .func (.func fn) [] caps] (· = .bool (xs.any p)) := by
  refine PCall.intro htt func103 (by kernel_rfl) rfl (Nat.le_of_ble_eq_true rfl) fun hl => ?_

  simp only [tmps0, Nat.reduceAdd]
  refine CW.seq (.rg (.rn htt 1 (.done ?_)))
  refine CW.seq (.rg (.run htt 2 (by simp only [go_sem, simprocAttr, hc]; exact rfl) (by simp [go_sem, simprocAttr, hc]) ?_))
  refine CWops.callA (index_Part up xs p fn caps hc hp) (by simp only [go_sem, simprocAttr, hc]) (by simp only [go_sem, simprocAttr, hc] <;> exact rfl) (by simp only [go_sem, simprocAttr, hc]) (by simp only [go_sem, simprocAttr, hc]) (fun rt7 hrt7 => ?_)
  subst hrt7
  refine CWops.run htt 2 (by simp only [go_sem, simprocAttr, hc]; exact rfl) (by simp [go_sem, simprocAttr, hc]) (.done ?_)
  refine CW.ret ?_
  refine retQ.rt (by simp only [f103, go_sem, simprocAttr]; exact rfl) ?_
  refine ⟨_, ?_, rfl⟩
  simp only [leP, fnd_any]
theorem flow_long (up : Bool) (p : List UInt8) : PCall prog up 102 [.sl 1 (p.map eU8)] (· = .bool (decide (200 < p.length))) := by
  refine PCall.intro htt func102 (by kernel_rfl) rfl (Nat.le_of_ble_eq_true rfl) fun hl => ?_

  simp only [tmps0, Nat.reduceAdd]
  refine CW.seq (.rg (.rn htt 1 (.done ?_)))
  refine CW.seq (.rg (.rn htt 4 (.done ?_)))
  refine CW.ret ?_
  refine retQ.rt (by simp only [f102, go_sem, simprocAttr]; exact rfl) ?_
  refine ⟨_, ?_, rfl⟩
  simp [leP]; try omega
theorem flow_May (up : Bool) (n : Int) (ps : List (List UInt8)) : PCall prog up 72 [.agg [.int .u32 n, .sl 1 (ps.map eP8)]] (· = .bool (flowMay ps)) := by
  refine PCall.intro htt func72 (by kernel_rfl) rfl (Nat.le_of_ble_eq_true rfl) fun hl => ?_

  simp only [tmps0, Nat.reduceAdd]
  refine CW.seq (.rg (.rn htt 2 (.done ?_)))
  refine CW.seq (.rg (.rn htt 1 (.done ?_)))
  refine CW.seq (.rg (.rn htt 5 ?_))
  all_goals (first | refine CWops.guard 8 (by simp only [go_sem, simprocAttr]; exact rfl) (fun g8 => ?_) (fun g8 => ?_) | skip)
  all_goals (refine CWops.rn htt 3 ?_)
  all_goals (first | (refine CWops.skip ?_ ?_; next => (simp only [go_sem, simprocAttr]; done)) | (refine CWops.callA (contains_Part up ps (fun p => decide (200 < p.length)) _ [] rfl (fun p _ => flow_long up p)) (by simp only [go_sem, simprocAttr]) (by simp only [go_sem, simprocAttr] <;> exact rfl) (by simp only [go_sem, simprocAttr]) (by simp only [go_sem, simprocAttr]) (fun rt12 hrt12 => ?_); subst hrt12))
  all_goals (refine CWops.rn htt 3 ?_)
  all_goals (refine CWops.done ?_)
  all_goals (
    refine CW.ret ?_
    refine retQ.rt (by simp only [f72, go_sem, simprocAttr]; exact rfl) ?_
    refine ⟨_, ?_, rfl⟩
    rw [flowMay_any]
    by_cases h40 : ps.length ≤ 40
    · have h41 : (ps.length : Int) ≤ 40 := by omega
      simp_all [leP]
    · have h41 : ¬ (ps.length : Int) ≤ 40 := by omega
      simp_all [leP] <;> omega)
theorem xorU64 {a b : Nat} (ha : a < 18446744073709551616) (hb : b < 18446744073709551616) : bits .xor .u64 (a : Int) (b : Int) = ((a ^^^ b : Nat) : Int) := by
  have h : a ^^^ b < 2 ^ 64 := Nat.xor_lt_two_pow ha hb
  show IntKind.u64.wrap (((BitVec.ofInt 64 (a : Int) ^^^ BitVec.ofInt 64 (b : Int)).toNat : Nat) : Int) = _
  rw [ofIntNat, ofIntNat, BitVec.toNat_xor, BitVec.toNat_ofNat, BitVec.toNat_ofNat]
  rw [Nat.mod_eq_of_lt (show a < 2 ^ 64 from ha), Nat.mod_eq_of_lt (show b < 2 ^ 64 from hb), wrapU64 (by omega) (by omega)]; simp
theorem xorOnes {a : Nat} (ha : a < 18446744073709551616) : a ^^^ 18446744073709551615 = 18446744073709551615 - a := by
  have h := congrArg BitVec.toNat (BitVec.xor_allOnes (x := BitVec.ofNat 64 a))
  rw [BitVec.toNat_xor, BitVec.toNat_not, BitVec.toNat_ofNat, BitVec.toNat_allOnes, Nat.mod_eq_of_lt (show a < 2 ^ 64 from ha)] at h
  exact h
theorem zig_steps {n : Int} (h1 : -9223372036854775808 ≤ n) (h2 : n < 9223372036854775808) : ∃ A B C D : Int, IntKind.u64.wrap n = A ∧ IntKind.u64.wrap (A * 2) = B ∧ Int.fdiv n 9223372036854775808 = C ∧ IntKind.u64.wrap C = D ∧ bits .xor .u64 B D = (zig n : Int) := by
  have hf : Int.fdiv n 9223372036854775808 = n / 9223372036854775808 := Int.fdiv_eq_ediv_of_nonneg _ (by omega)
  by_cases h : 0 ≤ n
  · refine ⟨n, 2 * n, 0, 0, ?_, ?_, ?_, by decide, ?_⟩
    · rw [wrapU64 h (by omega)]; omega
    · rw [wrapU64 (by omega) (by omega)]; omega
    · rw [hf]; omega
    · have := xorU64 (a := (2 * n).toNat) (b := 0) (by omega) (by omega)
      rw [Nat.xor_zero, show (((2 * n).toNat : Nat) : Int) = 2 * n by omega] at this
      unfold zig; rw [if_pos h]
      rw [show (((2 * n).toNat : Nat) : Int) = 2 * n by omega]; exact this
  · refine ⟨n + 18446744073709551616, 2 * n + 18446744073709551616, -1, 18446744073709551615, ?_, ?_, ?_, by decide, ?_⟩
    · simp only [IntKind.wrap, IntKind.bits, IntKind.signed]; simp; omega
    · simp only [IntKind.wrap, IntKind.bits, IntKind.signed]; simp; omega
    · rw [hf]; omega
    · have := xorU64 (a := (2 * n + 18446744073709551616).toNat) (b := 18446744073709551615) (by omega) (by omega)
      rw [xorOnes (by omega), show (((2 * n + 18446744073709551616).toNat : Nat) : Int) = 2 * n + 18446744073709551616 by omega] at this
      unfold zig; rw [if_neg h]
      refine this.trans ?_
      omega
theorem zig_lt {n : Int} (h1 : -9223372036854775808 ≤ n) (h2 : n < 9223372036854775808) : zig n < 18446744073709551616 := by
  unfold zig; split <;> omega
theorem vari_Zig (up : Bool) (n : Int) (h1 : -9223372036854775808 ≤ n) (h2 : n < 9223372036854775808) : PCall prog up 120 [.int .i64 n] (· = .int .u64 (zig n : Int)) := by
  refine PCall.intro htt func120 (by kernel_rfl) rfl (Nat.le_of_ble_eq_true rfl) fun hl => ?_
  obtain ⟨A, B, C, D, e1, e2, e3, e4, e5⟩ := zig_steps h1 h2
  have e3' : Int.fdiv n (2 ^ min 63 64) = C := by simpa using e3
  have e2' : IntKind.u64.wrap (A * 2 ^ min 1 64) = B := by simpa using e2
  simp only [tmps0, Nat.reduceAdd]
  refine CW.seq (.rg (.rn htt 1 (.done ?_)))
  refine CW.seq (.rg (.run htt 1 (by simp only [go_sem, simprocAttr, e2', e3', e5]; exact rfl) (by simp [go_sem, simprocAttr, e2', e3', e5]) ?_))
  refine CWops.conv htt (by simp only [go_sem, simprocAttr]) tt_3 rfl tt_86 rfl (by simp only [go_sem, simprocAttr] <;> exact rfl) ?_
  simp only [e1]
  refine CWops.run htt 3 (by simp only [go_sem, simprocAttr, e2', e3', e5]; exact rfl) (by simp [go_sem, simprocAttr, e2', e3', e5]) ?_
  refine CWops.conv htt (by simp only [go_sem, simprocAttr]) tt_3 rfl tt_86 rfl (by simp only [go_sem, simprocAttr] <;> exact rfl) ?_
  simp only [e3', e4]
  refine CWops.run htt 2 (by simp only [go_sem, simprocAttr, e2', e3', e5]; exact rfl) (by simp [go_sem, simprocAttr, e2', e3', e5]) (.done ?_)
  refine CW.ret ?_
  refine retQ.rt (by simp only [f120, go_sem, simprocAttr]; exact rfl) ?_
  refine ⟨_, ?_, rfl⟩
  simp [leP]
@[go_sem] theorem tt_59 : tiOf prog 59 = some ⟨.slice 63, 1, 24, [.nilsl], false⟩ := by kernel_rfl
@[go_sem] theorem tt_63 : tiOf prog 63 = some ⟨.struct [(3, 0), (48, 1)], 4, 40, [.int .i64 0, .int .i64 0, .str ⟨#[]⟩, .int .i64 0], true⟩ := by kernel_rfl
theorem vari_PutG (up : Bool) (N : Nat) (hN : N < 18446744073709551616) : GCall prog up 31 [.int .u64 (N : Int)] 0 [] (fun r σ' => r = .ref 0 [] 0 ∧ σ'.n = 1 ∧ σ'.s = [(0, ⟨false, [.own 1 ((vPut N).map eU8)]⟩)]) := by
  refine GCall.intro htt 0 func31 (by kernel_rfl) rfl (Nat.le_of_ble_eq_true rfl) (CW.told ?_)

  simp only [tmps0, Nat.reduceAdd]
  refine CW.seq (.rg (.rn htt 1 (.done ?_)))
  refine CW.seq (.rg (.rn htt 1 (.done ?_)))
  refine CW.seq ?_
  refine CW.block ?_
  refine CW.loop (S := List UInt8 × Nat) (fun x => ⟨1, [(0, .int .u64 (x.2 : Int)), (3, .ref 0 [] 0)], [(0, ⟨false, [.own 1 (x.1.map eU8)]⟩)]⟩) (fun x => ∃ k, x.2 < 128 ^ (k + 1) ∧ x.1.length + k ≤ 9 ∧ x.1 ++ putF k x.2 = vPut N) (fun x => x.2) (([], N)) ?_ ⟨9, by simp only; omega, by simp, by simp [vPut]⟩ (fun ⟨acc, m⟩ ⟨k, h1, h2, h3⟩ => ?_)
  · refine Sh.trans (Sh.nilRoot 3 1 (by simp only [go_sem, simprocAttr]) rfl) (Sh.wk0 ?_); simp [Wk, go_sem, simprocAttr]
  refine CW.seq (.seq (.rg (.rn htt 2 (.done ?_))))
  refine CW.cd (fun ct5 => ?_) (fun ct5 => ?_)
  · have hm : 128 ≤ m := by simp at ct5; omega
    simp only at h1 h2 h3
    have hlen : acc.length + 1 ≤ MX := by unfold MX; omega
    refine CW.skip ?_
    refine CW.seq ?_
    refine CW.block ?_
    refine CW.rg (.run htt 2 (by simp only [go_sem, simprocAttr, byteMore, hlen]; exact rfl) (by simp [go_sem, simprocAttr, byteMore, hlen]) ?_)
    refine CWops.conv htt (by simp only [go_sem, simprocAttr]) tt_86 rfl tt_5 rfl (by simp only [go_sem, simprocAttr] <;> exact rfl) ?_
    refine CWops.run htt 4 (by simp only [go_sem, simprocAttr, byteMore, hlen]; exact rfl) (by simp [go_sem, simprocAttr, byteMore, hlen]) (.done ?_)
    refine CW.rg (.rn htt 3 (.done ?_))
    refine ⟨(acc ++ [(m % 128 + 128).toUInt8], m / 128), ?_, ?_, ?_⟩
    · refine Sh.wk (fun x => if x = 0 then 2 else x) ?_; simp [Wk, go_sem, simprocAttr, eU8, shr7]
    · obtain ⟨k', rfl⟩ : ∃ k', k = k' + 1 := ⟨k - 1, (by have : k ≠ 0 := (fun e => by subst e; simp at h1; omega); omega)⟩
      refine ⟨k', ?_, ?_, ?_⟩
      · exact Nat.div_lt_of_lt_mul (by rw [Nat.pow_succ] at h1; rw [Nat.mul_comm]; exact h1)
      · simp; omega
      · simp only; rw [← h3, putF_more k' m hm]; simp
    · simp only; omega
  · have hm : m < 128 := by simp at ct5; omega
    simp only at h1 h2 h3
    have hlen : acc.length + 1 ≤ MX := by unfold MX; omega
    refine CW.exit ?_
    refine CW.seq (.rg (.run htt 2 (by simp only [go_sem, simprocAttr, byteOf, hlen]; exact rfl) (by simp [go_sem, simprocAttr, byteOf, hlen]) ?_))
    refine CWops.conv htt (by simp only [go_sem, simprocAttr]) tt_86 rfl tt_5 rfl (by simp only [go_sem, simprocAttr] <;> exact rfl) ?_
    refine CWops.run htt 3 (by simp only [go_sem, simprocAttr, byteOf, hlen]; exact rfl) (by simp [go_sem, simprocAttr, byteOf, hlen]) (.done ?_)
    refine CW.ret ?_
    refine ⟨⟨1, [(2, .ref 0 [] 0)], [(0, ⟨false, [.own 1 ((vPut N).map eU8)]⟩)]⟩, ?_, .inr rfl, by simp [ptrOK, go_sem, simprocAttr], _, by simp only [f31, go_sem, simprocAttr]; exact rfl, ?_⟩
    · refine Sh.wk (fun x => if x = 0 then 2 else x) ?_
      have e : (vPut N).map eU8 = acc.map eU8 ++ [[AV.int .u8 ((m.toUInt8.toNat : Nat) : Int)]] := by rw [← h3, putF_small k m hm]; simp [eU8]
      rw [e]
      simp [Wk, go_sem, simprocAttr, byteOf, eU8]
    · exact ⟨rfl, rfl, rfl⟩
theorem strB_rows (s : ByteArray) : strRows s = (strB s).map eU8 := rfl
theorem value_Put_str (up : Bool) (f : GField) (v : GVal) (s : ByteArray) (h : vOf f.Kind v = .ifc 9 (.str s)) (h12 : s.size ≤ 12) (hf : valFits f v = true) : PCall prog up 101 [.agg (eField f), .agg (eVal v)] (· = .tup [.sl 1 ((vPut s.size ++ strB s).map eU8), .bool true]) := by
  refine PCall.intro htt func101 (by kernel_rfl) rfl (Nat.le_of_ble_eq_true rfl) fun hl => ?_
  have hw : IntKind.u64.wrap (s.size : Int) = (s.size : Int) := by rw [wrapU64 (by omega) (by omega)]; rfl
  simp only [tmps0, Nat.reduceAdd]
  refine CW.seq (.rg (.run htt 4 (by simp only [go_sem, simprocAttr, eField, eVal]; exact rfl) (by simp [go_sem, simprocAttr, eField, eVal]) (.done ?_)))
  refine CW.seq (.rg (.run htt 3 (by simp only [go_sem, simprocAttr, eField, eVal]; exact rfl) (by simp [go_sem, simprocAttr, eField, eVal]) ?_))
  refine CWops.callA ((by have q := value_of up f.Kind v; rw [h] at q; exact q)) (by simp only [go_sem, simprocAttr, eField, eVal]) (by simp only [go_sem, simprocAttr, eField, eVal] <;> exact rfl) (by simp only [go_sem, simprocAttr, eField, eVal]) (by simp only [go_sem, simprocAttr, eField, eVal]) (fun rt14 hrt14 => ?_)
  subst hrt14
  refine CWops.run htt 1 (by simp only [go_sem, simprocAttr, eField, eVal]; exact rfl) (by simp [go_sem, simprocAttr, eField, eVal]) (.done ?_)
  refine CW.seq (.seq (.rg (.run htt 3 (by simp only [go_sem, simprocAttr, eField]; exact rfl) (by simp [go_sem, simprocAttr, eField]) ?_)))
  refine CWops.callA ((by have q := value_fits up f v; rw [h, hf] at q; exact q)) (by simp only [go_sem, simprocAttr, eField]) (by simp only [go_sem, simprocAttr, eField] <;> exact rfl) (by simp only [go_sem, simprocAttr, eField]) (by simp only [go_sem, simprocAttr, eField]) (fun rt18 hrt18 => ?_)
  subst hrt18
  refine CWops.run htt 1 (by simp only [go_sem, simprocAttr, eField]; exact rfl) (by simp [go_sem, simprocAttr, eField]) (.done ?_)
  refine CW.cd (fun ct19 => ?_) (fun ct19 => ?_)
  · cases ct19 
  · refine CW.skip ?_
    refine CW.seq (.seq (.rg (.rn htt 7 (.done ?_))))
    refine CW.seq (.rg (.rn htt 1 (.done ?_)))
    refine CW.cd (fun ct25 => ?_) (fun ct25 => ?_)
    · refine CW.seq (.rg (.rn htt 2 ?_))
      refine CWops.conv htt (by simp only [go_sem, simprocAttr]) tt_3 rfl tt_86 rfl (by simp only [go_sem, simprocAttr] <;> exact rfl) ?_
      simp only [hw]
      refine CWops.callG [] rfl (vari_PutG up s.size (by omega)) (by simp only [go_sem, simprocAttr]) (by simp only [go_sem, simprocAttr] <;> exact rfl) (by decide) (by simp [go_sem, simprocAttr, mName, memB]) (by simp [go_sem, simprocAttr, mName]) (by simp [go_sem, simprocAttr]) (by simp [go_sem, simprocAttr]) (by simp [go_sem, simprocAttr, mName]) (fun r σ' hσ => ?_)
      obtain ⟨σn, σt, σs⟩ := σ'
      simp only at hσ
      obtain ⟨rfl, rfl, rfl⟩ := hσ
      simp only [aftS, renS, delAll, memB, mName, List.getD_nil, killH, kref, ren, Nat.beq_eq, go_sem, simprocAttr]
      refine CWops.rn htt 1 ?_
      refine CWops.appStr htt (by simp only [go_sem, simprocAttr]) tt_68 rfl tt_9 rfl tt_5 rfl rfl (b := s) (by simp only [go_sem, simprocAttr]) ?_
      simp only [go_sem, simprocAttr]
      refine ⟨fun _ => ?_, ?_⟩
      · simp only [strRows_len, List.length_map]; have := vPut_len s.size; unfold MX; omega
      refine CWops.rn htt 2 (.done ?_)
      refine CW.ret ?_
      refine retQ.rt (by simp only [f101, go_sem, simprocAttr]; exact rfl) ?_
      refine ⟨_, ?_, rfl⟩
      have e : (vPut s.size).map eU8 ++ strRows s = (vPut s.size ++ strB s).map eU8 := by rw [strB_rows, List.map_append]
      have q := frz_U8 (vPut s.size ++ strB s)
      rw [← e] at q
      simp [leP, q]
      first | done | exact leP_refl _ | exact leP_refl.leL_refl _
    · cases ct25
theorem value_Put_id (up : Bool) (f : GField) (v : GVal) (r : Int) (h : vOf f.Kind v = .ifc 198 (.int .i64 r)) (h1 : -1 ≤ r) (h2 : r ≤ 1073741824) (hf : valFits f v = true) : PCall prog up 101 [.agg (eField f), .agg (eVal v)] (· = .tup [.sl 1 ((vPut (r + 1).toNat).map eU8), .bool true]) := by
  refine PCall.intro htt func101 (by kernel_rfl) rfl (Nat.le_of_ble_eq_true rfl) fun hl => ?_
  have hw1 : IntKind.i64.wrap (r + 1) = r + 1 := wrapI64 (by omega) (by omega)
  have hw : IntKind.u64.wrap (r + 1) = ((r + 1).toNat : Int) := wrapU64 (by omega) (by omega)
  simp only [tmps0, Nat.reduceAdd]
  refine CW.seq (.rg (.run htt 4 (by simp only [go_sem, simprocAttr, eField, eVal]; exact rfl) (by simp [go_sem, simprocAttr, eField, eVal]) (.done ?_)))
  refine CW.seq (.rg (.run htt 3 (by simp only [go_sem, simprocAttr, eField, eVal]; exact rfl) (by simp [go_sem, simprocAttr, eField, eVal]) ?_))
  refine CWops.callA ((by have q := value_of up f.Kind v; rw [h] at q; exact q)) (by simp only [go_sem, simprocAttr, eField, eVal]) (by simp only [go_sem, simprocAttr, eField, eVal] <;> exact rfl) (by simp only [go_sem, simprocAttr, eField, eVal]) (by simp only [go_sem, simprocAttr, eField, eVal]) (fun rt14 hrt14 => ?_)
  subst hrt14
  refine CWops.run htt 1 (by simp only [go_sem, simprocAttr, eField, eVal]; exact rfl) (by simp [go_sem, simprocAttr, eField, eVal]) (.done ?_)
  refine CW.seq (.seq (.rg (.run htt 3 (by simp only [go_sem, simprocAttr, eField]; exact rfl) (by simp [go_sem, simprocAttr, eField]) ?_)))
  refine CWops.callA ((by have q := value_fits up f v; rw [h, hf] at q; exact q)) (by simp only [go_sem, simprocAttr, eField]) (by simp only [go_sem, simprocAttr, eField] <;> exact rfl) (by simp only [go_sem, simprocAttr, eField]) (by simp only [go_sem, simprocAttr, eField]) (fun rt18 hrt18 => ?_)
  subst hrt18
  refine CWops.run htt 1 (by simp only [go_sem, simprocAttr, eField]; exact rfl) (by simp [go_sem, simprocAttr, eField]) (.done ?_)
  refine CW.cd (fun ct19 => ?_) (fun ct19 => ?_)
  · cases ct19 
  · refine CW.skip ?_
    refine CW.seq (.seq (.rg (.rn htt 7 (.done ?_))))
    refine CW.seq (.rg (.rn htt 1 (.done ?_)))
    refine CW.cd (fun ct25 => ?_) (fun ct25 => ?_)
    · cases ct25 
    · refine CW.skip ?_
      refine CW.seq (.seq (.rg (.rn htt 7 (.done ?_))))
      refine CW.seq (.rg (.rn htt 1 (.done ?_)))
      refine CW.cd (fun ct37 => ?_) (fun ct37 => ?_)
      · refine CW.seq (.rg (.rn htt 2 ?_))
        refine CWops.conv htt (by simp only [go_sem, simprocAttr]) tt_198 rfl tt_86 rfl (by simp only [go_sem, simprocAttr] <;> exact rfl) ?_
        simp only [hw1, hw]
        refine CWops.callA (vari_Put up (r + 1).toNat (by omega)) (by simp only [go_sem, simprocAttr]) (by simp only [go_sem, simprocAttr] <;> exact rfl) (by simp only [go_sem, simprocAttr]) (by simp only [go_sem, simprocAttr]) (fun rt41 hrt41 => ?_)
        subst hrt41
        refine CWops.rn htt 2 (.done ?_)
        refine CW.ret ?_
        refine retQ.rt (by simp only [f101, go_sem, simprocAttr]; exact rfl) ?_
        refine ⟨_, ?_, rfl⟩
        simp [leP, frz_U8]
        first | done | exact leP_refl _ | exact leP_refl.leL_refl _
      · cases ct37
theorem value_Put_int (up : Bool) (f : GField) (v : GVal) (n : Int) (h : vOf f.Kind v = .ifc 3 (.int .i64 n)) (h1 : -9223372036854775808 ≤ n) (h2 : n < 9223372036854775808) (hf : valFits f v = true) : PCall prog up 101 [.agg (eField f), .agg (eVal v)] (· = .tup [.sl 1 ((vPut (zig n)).map eU8), .bool true]) := by
  refine PCall.intro htt func101 (by kernel_rfl) rfl (Nat.le_of_ble_eq_true rfl) fun hl => ?_

  simp only [tmps0, Nat.reduceAdd]
  refine CW.seq (.rg (.run htt 4 (by simp only [go_sem, simprocAttr, eField, eVal]; exact rfl) (by simp [go_sem, simprocAttr, eField, eVal]) (.done ?_)))
  refine CW.seq (.rg (.run htt 3 (by simp only [go_sem, simprocAttr, eField, eVal]; exact rfl) (by simp [go_sem, simprocAttr, eField, eVal]) ?_))
  refine CWops.callA ((by have q := value_of up f.Kind v; rw [h] at q; exact q)) (by simp only [go_sem, simprocAttr, eField, eVal]) (by simp only [go_sem, simprocAttr, eField, eVal] <;> exact rfl) (by simp only [go_sem, simprocAttr, eField, eVal]) (by simp only [go_sem, simprocAttr, eField, eVal]) (fun rt14 hrt14 => ?_)
  subst hrt14
  refine CWops.run htt 1 (by simp only [go_sem, simprocAttr, eField, eVal]; exact rfl) (by simp [go_sem, simprocAttr, eField, eVal]) (.done ?_)
  refine CW.seq (.seq (.rg (.run htt 3 (by simp only [go_sem, simprocAttr, eField]; exact rfl) (by simp [go_sem, simprocAttr, eField]) ?_)))
  refine CWops.callA ((by have q := value_fits up f v; rw [h, hf] at q; exact q)) (by simp only [go_sem, simprocAttr, eField]) (by simp only [go_sem, simprocAttr, eField] <;> exact rfl) (by simp only [go_sem, simprocAttr, eField]) (by simp only [go_sem, simprocAttr, eField]) (fun rt18 hrt18 => ?_)
  subst hrt18
  refine CWops.run htt 1 (by simp only [go_sem, simprocAttr, eField]; exact rfl) (by simp [go_sem, simprocAttr, eField]) (.done ?_)
  refine CW.cd (fun ct19 => ?_) (fun ct19 => ?_)
  · cases ct19 
  · refine CW.skip ?_
    refine CW.seq (.seq (.rg (.rn htt 7 (.done ?_))))
    refine CW.seq (.rg (.rn htt 1 (.done ?_)))
    refine CW.cd (fun ct25 => ?_) (fun ct25 => ?_)
    · cases ct25 
    · refine CW.skip ?_
      refine CW.seq (.seq (.rg (.rn htt 7 (.done ?_))))
      refine CW.seq (.rg (.rn htt 1 (.done ?_)))
      refine CW.cd (fun ct37 => ?_) (fun ct37 => ?_)
      · cases ct37 
      · refine CW.skip ?_
        refine CW.seq (.rg (.rn htt 2 ?_))
        refine CWops.callA (vari_Zig up n h1 h2) (by simp only [go_sem, simprocAttr]) (by simp only [go_sem, simprocAttr] <;> exact rfl) (by simp only [go_sem, simprocAttr]) (by simp only [go_sem, simprocAttr]) (fun rt44 hrt44 => ?_)
        subst hrt44
        refine CWops.callA (vari_Put up (zig n) (zig_lt h1 h2)) (by simp only [go_sem, simprocAttr]) (by simp only [go_sem, simprocAttr] <;> exact rfl) (by simp only [go_sem, simprocAttr]) (by simp only [go_sem, simprocAttr]) (fun rt45 hrt45 => ?_)
        subst hrt45
        refine CWops.rn htt 2 (.done ?_)
        refine CW.ret ?_
        refine retQ.rt (by simp only [f101, go_sem, simprocAttr]; exact rfl) ?_
        refine ⟨_, ?_, rfl⟩
        simp [leP, frz_U8]
        first | done | exact leP_refl _ | exact leP_refl.leL_refl _
theorem valPut_fit {f : GField} {v : GVal} (hf : valFits f v = true) : valPut f v = if f.Kind = 4 then vPut v.S.size ++ strB v.S else if f.Kind = 5 then vPut (v.R + 1).toNat else vPut (zig v.N) := by
  unfold valPut; rw [if_neg (by rw [hf]; simp)]
theorem numFits_bnd {k n : Int} (h : numFits k n = true) : 0 ≤ k ∧ k ≤ 3 ∧ -9223372036854775808 ≤ n ∧ n < 9223372036854775808 := by
  unfold numFits at h
  repeat' split at h
  all_goals simp at h
  all_goals omega
theorem value_Put (up : Bool) (f : GField) (v : GVal) (hf : valFits f v = true) : PCall prog up 101 [.agg (eField f), .agg (eVal v)] (· = .tup [.sl 1 ((valPut f v).map eU8), .bool true]) := by
  rw [valPut_fit hf]
  have hf' := hf
  unfold valFits at hf'
  split at hf'
  · rename_i h4
    simp only [Bool.and_eq_true, decide_eq_true_eq] at hf'
    rw [if_pos h4]
    refine value_Put_str up f v v.S ?_ hf'.1 hf
    unfold vOf
    rw [if_neg (by simp; omega), if_pos (by simp [h4, hf'.2.1, hf'.2.2])]
  · rename_i h4
    split at hf'
    · rename_i h5
      simp only [Bool.and_eq_true, decide_eq_true_eq] at hf'
      rw [if_neg h4, if_pos h5]
      refine value_Put_id up f v v.R ?_ hf'.1.1 hf'.1.2 hf
      unfold vOf
      rw [if_neg (by simp; omega), if_neg (by simp; omega), if_pos (by simp [h5, hf'.2.1, hf'.2.2])]
    · rename_i h5
      simp only [Bool.and_eq_true, decide_eq_true_eq] at hf'
      rw [if_neg h4, if_neg h5]
      obtain ⟨q1, q2, q3, q4⟩ := numFits_bnd hf'.1
      refine value_Put_int up f v v.N ?_ q3 q4 hf
      unfold vOf
      rw [if_pos (by simp [q1, q2, hf'.2.1, hf'.2.2])]
theorem valPut_len {f : GField} {v : GVal} (hf : valFits f v = true) : (valPut f v).length ≤ 22 := by
  rw [valPut_fit hf]
  have g1 := vPut_len v.S.size
  have g2 := vPut_len (v.R + 1).toNat
  have g3 := vPut_len (zig v.N)
  split
  · rename_i h4
    unfold valFits at hf
    rw [if_pos h4] at hf
    simp only [Bool.and_eq_true, decide_eq_true_eq] at hf
    have : (strB v.S).length = v.S.size := by unfold strB; rw [Array.length_toList]; rfl
    rw [List.length_append]; omega
  · split <;> omega
def objAcc (t : GType) (o : GObj) (i : Nat) : List UInt8 := vPut o.T.toNat ++ (List.zipWith valPut (t.F.take i) (o.F.take i)).flatten
theorem objAcc_succ {t : GType} {o : GObj} {i : Nat} {f : GField} {v : GVal} (hl : o.F.length = t.F.length) (hf : t.F[i]? = some f) (hv : o.F[i]? = some v) : objAcc t o (i + 1) = objAcc t o i ++ valPut f v := by
  unfold objAcc
  rw [List.take_add_one, List.take_add_one, hf, hv, Option.toList_some, Option.toList_some, List.zipWith_append (by simp [hl]), List.flatten_append, List.append_assoc]
  simp
theorem objAcc_len {t : GType} {o : GObj} (hl : o.F.length = t.F.length) (hv : ∀ (k : Nat) (f : GField) (v : GVal), t.F[k]? = some f → o.F[k]? = some v → valFits f v = true) : ∀ i, i ≤ t.F.length → (objAcc t o i).length ≤ 10 + 22 * i
  | 0, _ => by simp only [objAcc, List.take_zero, List.zipWith_nil_left, List.flatten_nil, List.append_nil]; exact vPut_len _
  | i + 1, h => by
    have ih := objAcc_len hl hv i (by omega)
    obtain ⟨f, hf⟩ : ∃ f, t.F[i]? = some f := ⟨t.F[i], List.getElem?_eq_getElem (by omega)⟩
    obtain ⟨v, hv'⟩ : ∃ v, o.F[i]? = some v := ⟨o.F[i], List.getElem?_eq_getElem (by omega)⟩
    rw [objAcc_succ hl hf hv', List.length_append]
    have := valPut_len (hv i f v hf hv')
    omega
theorem objAcc_all {s : List GType} {t : GType} {o : GObj} {q : Nat} (hq : o.T = (q : Int)) (ht : s[q]? = some t) (hl : o.F.length = t.F.length) : objAcc t o t.F.length = objPut s o := by
  unfold objAcc objPut
  have e : typeAt s o.T = some t := by unfold typeAt; rw [hq, if_pos (by omega)]; simpa using ht
  rw [e, List.take_length, ← hl, List.take_length]
theorem code_object (up : Bool) (s : List GType) (o : GObj) (t : GType) (q : Nat) (hq : o.T = (q : Int)) (hq2 : q ≤ 1000) (ht : s[q]? = some t) (hlen : o.F.length = t.F.length) (h10 : t.F.length ≤ 10) (hv : ∀ (k : Nat) (f : GField) (v : GVal), t.F[k]? = some f → o.F[k]? = some v → valFits f v = true) : PCall prog up 71 [.agg (eSchema s), .agg (eObj o)] (· = .sl 1 ((objPut s o).map eU8)) := by
  refine PCall.intro htt func71 (by kernel_rfl) rfl (Nat.le_of_ble_eq_true rfl) fun hl => ?_
  obtain ⟨oi, oT, oF⟩ := o
  simp only at hq hlen hv
  subst hq
  have hw : IntKind.u64.wrap (q : Int) = (q : Int) := by rw [wrapU64 (by omega) (by omega)]; simp
  have h0 : vPut q = objAcc t ⟨oi, q, oF⟩ 0 := by simp [objAcc]
  simp only [tmps0, Nat.reduceAdd]
  refine CW.seq (.rg (.run htt 3 (by simp only [go_sem, simprocAttr, eSchema, eObj]; exact rfl) (by simp [go_sem, simprocAttr, eSchema, eObj]) (.done ?_)))
  refine CW.seq (.rg (.run htt 2 (by simp only [go_sem, simprocAttr, eObj, eSchema]; exact rfl) (by simp [go_sem, simprocAttr, eObj, eSchema]) ?_))
  refine CWops.conv htt (by simp only [go_sem, simprocAttr]) tt_3 rfl tt_86 rfl (by simp only [go_sem, simprocAttr] <;> exact rfl) ?_
  simp only [hw]
  refine CWops.callG [] rfl (vari_PutG up q (by omega)) (by simp only [go_sem, simprocAttr]) (by simp only [go_sem, simprocAttr] <;> exact rfl) (by decide) (by simp [go_sem, simprocAttr, mName, memB, eObj, eSchema]) (by simp [go_sem, simprocAttr, mName]) (by simp [go_sem, simprocAttr]) (by simp [go_sem, simprocAttr]) (by simp [go_sem, simprocAttr, mName]) (fun r σ' hσ => ?_)
  obtain ⟨σn, σt, σs⟩ := σ'
  simp only at hσ
  obtain ⟨rfl, rfl, rfl⟩ := hσ
  simp only [aftS, renS, delAll, memB, mName, List.getD_nil, killH, kref, ren, Nat.beq_eq, go_sem, simprocAttr]
  refine CWops.run htt 1 (by simp only [go_sem, simprocAttr, eObj, eSchema]; exact rfl) (by simp [go_sem, simprocAttr, eObj, eSchema]) (.done ?_)
  refine CW.seq (.seq (.rg (.run htt 9 (by simp only [go_sem, simprocAttr, eSchema, eObj, ht, eType]; exact rfl) (by simp [go_sem, simprocAttr, eSchema, eObj, ht, eType]) (.done ?_))))
  refine CW.block ?_
  refine CW.loop (S := Nat) (fun i => ⟨3, [(2, .lv 0 [] 0), (3, .lv 1 [] 0), (5, .ref 2 [] 0), (20, .sl 3 (t.F.map eField)), (21, .int .i64 t.F.length), (22, .int .i64 i)], [(0, ⟨true, eSchema s⟩), (1, ⟨true, eObj ⟨oi, q, oF⟩⟩), (2, ⟨false, [.own 1 ((objAcc t ⟨oi, q, oF⟩ i).map eU8)]⟩)]⟩) (fun i => i ≤ t.F.length) (fun i => t.F.length - i) (0) ?_ (Nat.zero_le _) (fun i h1 => ?_)
  · refine Sh.wk0 ?_; simp [Wk, go_sem, simprocAttr, eObj, eSchema, h0]
  refine CW.seq (.rg (.rn htt 1 (.done ?_)))
  refine CW.seq ?_
  refine CW.cd (fun ct23 => ?_) (fun ct23 => ?_)
  · have hi : i < t.F.length := by simpa using ct23
    obtain ⟨f, hf⟩ : ∃ f, t.F[i]? = some f := ⟨t.F[i], List.getElem?_eq_getElem hi⟩
    obtain ⟨v, hvv⟩ : ∃ v, oF[i]? = some v := ⟨oF[i], List.getElem?_eq_getElem (by omega)⟩
    have hsn := objAcc_succ (o := ⟨oi, q, oF⟩) hlen hf hvv
    have hln : (objAcc t ⟨oi, q, oF⟩ i).length + (valPut f v).length ≤ MX := by
      have g1 := objAcc_len (o := ⟨oi, q, oF⟩) hlen hv i (by omega)
      have g2 := valPut_len (hv i f v hf hvv)
      unfold MX; omega
    refine CW.skip ?_
    refine CW.seq ?_
    refine CW.block ?_
    refine CW.seq (.rg (.run htt 6 (by simp only [go_sem, simprocAttr, hf, eField]; exact rfl) (by simp [go_sem, simprocAttr, hf, eField]) (.done ?_)))
    refine CW.seq ?_
    refine CW.drawn mixed 11 (by decide) (by kernel_rfl) (by kernel_rfl) (by kernel_rfl) ?_
    refine Seg.run htt 6 (by simp only [go_sem, simprocAttr, eObj, eField, hvv, eVal]; exact rfl) ?_
    refine Seg.callA (value_Put up f v (hv i f v hf hvv)) (by simp only [go_sem, simprocAttr, eObj, eField, hvv, eVal]) (by simp only [go_sem, simprocAttr, eObj, eField, hvv, eVal] <;> exact rfl) (by simp only [go_sem, simprocAttr, eObj, eField, hvv, eVal]) (by simp only [go_sem, simprocAttr, eObj, eField, hvv, eVal]) ?_
    refine Seg.run htt 4 (by simp only [go_sem, simprocAttr, eObj, eField, hvv, eVal]; exact rfl) ?_
    refine Seg.done ?_
    refine CWops.run htt 1 (by simp only [go_sem, simprocAttr, eObj, eField, hvv, eVal]; exact rfl) (by simp [go_sem, simprocAttr, eObj, eField, hvv, eVal]) (.done ?_)
    refine CW.rg ?_
    refine CWops.run htt 4 (by simp only [go_sem, simprocAttr]; exact rfl) (by first | (simp [go_sem, simprocAttr]; done) | (simp [go_sem, simprocAttr]; exact ⟨fun a _ b hb => by simp [eU8] at hb; subst hb; rfl, hln⟩)) ?_
    refine CWops.done ?_
    refine CW.rg (.run htt 2 (by simp only [go_sem, simprocAttr, wrap_succ (show i < MX by unfold MX; omega)]; exact rfl) (by simp [go_sem, simprocAttr, wrap_succ (show i < MX by unfold MX; omega)]) (.done ?_))
    refine ⟨i + 1, ?_, ?_, ?_⟩
    · refine Sh.wk (fun x => if x = 2 then 4 else x) ?_; simp [Wk, go_sem, simprocAttr, hsn, eObj, eSchema]
    · exact hi
    · simp only; omega
  · have hi : i = t.F.length := by simp at ct23; omega
    refine CW.exit ?_
    refine CW.seq (.rg (.rn htt 2 (.done ?_)))
    refine CW.ret ?_
    refine retQ.rt (by simp only [f71, go_sem, simprocAttr]; exact rfl) ?_
    refine ⟨_, ?_, rfl⟩
    rw [hi, objAcc_all (o := ⟨oi, q, oF⟩) rfl ht hlen]
    simp [leP, frz_U8]
    first | done | exact leP_refl _ | exact leP_refl.leL_refl _
def kZ : List AV := [.str ⟨#[]⟩, .str ⟨#[]⟩, .str ⟨#[]⟩, .str ⟨#[]⟩, .str ⟨#[]⟩, .str ⟨#[]⟩]
def kT : List AV := [.str ⟨#[105, 56]⟩, .str ⟨#[105, 49, 54]⟩, .str ⟨#[105, 51, 50]⟩, .str ⟨#[105, 54, 52]⟩, .str ⟨#[116]⟩, .str ⟨#[42]⟩]
@[go_sem] theorem tt_165 : tiOf prog 165 = some ⟨.array 6 9, 6, 96, kZ, false⟩ := by kernel_rfl
theorem kT_eq : (((((kZ.set 0 (.str ⟨#[105, 56]⟩)).set 1 (.str ⟨#[105, 49, 54]⟩)).set 2 (.str ⟨#[105, 51, 50]⟩)).set 3 (.str ⟨#[105, 54, 52]⟩)).set 4 (.str ⟨#[116]⟩)).set 5 (.str ⟨#[42]⟩) = kT := rfl
theorem stCells_strs {n : Nat} {t : List (Nat × AV)} {b : Bool} {s : List (Nat × Root)} : ∀ (vs old pre : List AV), old.length = vs.length → (∀ v ∈ vs, ∃ i, v = AV.str i) → stCells 0 [] id ⟨n, t, (0, ⟨b, pre ++ old⟩) :: s⟩ pre.length vs = some ⟨n, t, (0, ⟨b, pre ++ vs⟩) :: s⟩
  | [], [], pre, _, _ => rfl
  | v :: vs, o :: old, pre, hl, hv => by
    obtain ⟨i, rfl⟩ := hv v List.mem_cons_self
    have ih := stCells_strs (n := n) (t := t) (b := b) (s := s) vs old (pre ++ [AV.str i]) (by simpa using hl) fun w hw => hv w (List.mem_cons_of_mem _ hw)
    simp only [List.length_append, List.length_cons, List.length_nil, Nat.zero_add, List.append_assoc, List.cons_append, List.nil_append] at ih
    simp only [stCells, stCell, getS, if_true, mov, List.isEmpty_nil, Bool.true_or, updS, putAt, id]
    rw [List.set_append_right _ _ (Nat.le_refl _), Nat.sub_self, List.set_cons_zero]
    exact ih
  | [], _ :: _, _, h, _ => by simp at h
  | _ :: _, [], _, h, _ => by simp at h
theorem kT_str : ∀ v ∈ kT, ∃ i, v = AV.str i := by
  intro v hv
  simp only [kT, List.mem_cons, List.not_mem_nil, or_false] at hv
  rcases hv with rfl | rfl | rfl | rfl | rfl | rfl <;> exact ⟨_, rfl⟩
theorem stCells_kT {n : Nat} {t : List (Nat × AV)} {b : Bool} {s : List (Nat × Root)} : stCells 0 [] id ⟨n, t, (0, ⟨b, kZ⟩) :: s⟩ 0 kT = some ⟨n, t, (0, ⟨b, kT⟩) :: s⟩ := stCells_strs kT kZ [] rfl kT_str
theorem kT_len : kT.length = 6 := rfl
theorem kZ_len : kZ.length = 6 := rfl
theorem kT_take : List.take 6 kT = kT := rfl
theorem kT_ldc (y : Nat) (p : List (Nat × Nat)) (c : Nat) : ldc y p c kT = kT := by simp [kT, ldc]
theorem kT_allCell : allCell kT = true := rfl
theorem kT_pure : pureL kT = true := rfl
theorem kT_view (σ : St) : List.map (view 8 σ) kT = kT := by simp [kT, view]
theorem kT_SubL (n : Nat) : SubL (fun x => x) n kT kT = True := eq_true (SubL_pure n _ kT_pure)
theorem kT_get (k : Int) (h0 : 0 ≤ k) (h5 : k ≤ 5) : List.take 1 (List.drop k.toNat kT) = [.str (kindText k)] := by
  have : k = 0 ∨ k = 1 ∨ k = 2 ∨ k = 3 ∨ k = 4 ∨ k = 5 := by omega
  rcases this with rfl | rfl | rfl | rfl | rfl | rfl <;> rfl
theorem le1_MX : (1 ≤ MX) = True := eq_true (by decide)
theorem le2_MX : (2 ≤ MX) = True := eq_true (by decide)
theorem le3_MX : (3 ≤ MX) = True := eq_true (by decide)
attribute [irreducible] kT kZ
attribute [go_sem] kT_len kZ_len kT_take kT_ldc kT_allCell kT_pure kT_SubL stCells_kT le1_MX le2_MX le3_MX
theorem schema_kinds (up : Bool) : PCall prog up 97 [] (· = .agg kT) := by
  refine PCall.intro htt func97 (by kernel_rfl) rfl (Nat.le_of_ble_eq_true rfl) fun hl => ?_

  simp only [tmps0, Nat.reduceAdd]
  refine CW.seq (.rg (.rn htt 1 (.done ?_)))
  refine CW.seq (.rg (.run htt 1 (by simp only [go_sem, simprocAttr, List.size_toArray, List.length_cons, List.length_nil, Nat.zero_add, List.length_set]; exact rfl) (by simp [go_sem, simprocAttr]) ?_))
  rw [kT_eq]
  refine CWops.rn htt 1 (.done ?_)
  refine CW.ret ?_
  refine retQ.rt (by simp only [f97, go_sem, simprocAttr]; exact rfl) ?_
  refine ⟨_, ?_, rfl⟩
  simp [leP]
  rw [kT_view]
  exact leP_refl.leL_refl _
end Go.Ab
namespace Go.Ab
open Go Go.Proofs.Try Go.RowKit
set_option maxRecDepth 100000
def jren : Go.Shelf.Ren := ⟨fun | 156 => 99 | 165 => 119 | 166 => 98 | 169 => 100 | 240 => 118 | 241 => 129 | 276 => 128 | 277 => 131 | n => n, fun | 31 => 164 | 9 => 9 | 3 => 3 | 4 => 4 | 0 => 0 | 20 => 20 | 72 => 163 | 76 => 169 | 70 => 161 | 37 => 68 | 75 => 168 | 127 => 196 | 164 => 209 | 5 => 5 | 80 => 172 | n => n, fun n => n⟩
theorem lay156 : Go.Proofs.Lays.n156 prog jren := { mixed := by kernel_rfl, f156 := func99.trans (congrArg some (by kernel_rfl)), f165 := func119.trans (congrArg some (by kernel_rfl)), f166 := func98.trans (congrArg some (by kernel_rfl)), f169 := func100.trans (congrArg some (by kernel_rfl)), f240 := func118.trans (congrArg some (by kernel_rfl)), f241 := func129.trans (congrArg some (by kernel_rfl)), f276 := func128.trans (congrArg some (by kernel_rfl)), f277 := func131.trans (congrArg some (by kernel_rfl)), t0 := underlying0, a0 := isAgg0, z0 := sizeOf0, v0 := zeroValue0, t3 := underlying3, a3 := isAgg3, z3 := sizeOf3, v3 := zeroValue3, t4 := underlying4, a4 := isAgg4, z4 := sizeOf4, v4 := zeroValue4, t9 := underlying9, a9 := isAgg9, z9 := sizeOf9, v9 := zeroValue9, t20 := underlying20, a20 := isAgg20, z20 := sizeOf20, v20 := zeroValue20, t31 := underlying164, a31 := isAgg164, z31 := sizeOf164, v31 := zeroValue164, t37 := underlying68, a37 := isAgg68, z37 := sizeOf68, v37 := zeroValue68, t70 := underlying161, a70 := isAgg161, z70 := sizeOf161, v70 := zeroValue161, t72 := underlying163, a72 := isAgg163, z72 := sizeOf163, v72 := zeroValue163, t75 := underlying168, a75 := isAgg168, z75 := sizeOf168, v75 := zeroValue168, t76 := underlying169, a76 := isAgg169, z76 := sizeOf169, v76 := zeroValue169, t127 := underlying196, a127 := isAgg196, z127 := sizeOf196, v127 := zeroValue196, t164 := underlying209, a164 := isAgg209, z164 := sizeOf209, v164 := zeroValue209 }
theorem layX : Go.Proofs.Builder.Extra prog jren := { sizeBuilder := by kernel_rfl, liesBuilder := by kernel_rfl, t5 := underlying5, a5 := isAgg5, z5 := sizeOf5, v5 := zeroValue5, infoByte := by kernel_rfl, cellsByte := by kernel_rfl, sizeByte := by kernel_rfl, neB5 := by decide }
def joinS (xs : List ByteArray) (sep : ByteArray) : ByteArray := ⟨(Go.Lib.join (xs.map (·.data.toList)) sep.data.toList).toArray⟩
theorem strings_Join (up : Bool) (xs : List ByteArray) (sep : ByteArray) (hlen : (joinS xs sep).size ≤ MX) : PCall prog up 99 [.sl 1 (xs.map fun s => [AV.str s]), .str sep] (· = .str (joinS xs sep)) := by
  have hlen' : (Go.Lib.join (xs.map (·.data.toList)) sep.data.toList).length ≤ 140737488355328 := by
    have : (joinS xs sep).size = (Go.Lib.join (xs.map (·.data.toList)) sep.data.toList).length := by show Array.size _ = _; simp
    rw [← this]; exact hlen
  have hcl : Callable prog (jren.f 156) := callable_of lay156.f156 (by kernel_rfl) rfl
  refine ⟨hcl, fun w A vs hA hl hr => ?_⟩
  obtain ⟨v0, v1, rfl⟩ : ∃ v0 v1, vs = [v0, v1] := by
    match vs, hl with
    | [v0, v1], _ => exact ⟨v0, v1, rfl⟩
  have h0 := hr 0 _ rfl
  have h1 := hr 1 _ rfl
  simp only [List.getD_cons_zero, List.getD_cons_succ] at h0 h1
  cases h1
  have fin : ∀ (e : Ending) (w' : World), (e = .returned (.string ⟨(Go.Lib.join (xs.map (·.data.toList)) sep.data.toList).toArray⟩) ∧ Below w.heap.size w w') → Ends up w A (· = .str (joinS xs sep)) e w' := by
    rintro e w' ⟨rfl, hb⟩
    exact ⟨_, rfl, .str _ hlen, ⟨hb.os, hb.tape, hb.output, hb.size, fun k hk _ => hb.block k hk⟩⟩
  by_cases hx : xs = []
  · subst hx
    have hv : ∃ a c, v0 = .slice a 0 c := by
      generalize hL : (([] : List ByteArray).map fun s => [AV.str s]) = L at h0
      cases h0 with
      | slnil => exact ⟨_, _, rfl⟩
      | slmt => exact ⟨_, _, rfl⟩
      | sl => subst hL; exact ⟨_, _, rfl⟩
    obtain ⟨a, c, rfl⟩ := hv
    exact (Go.Proofs.Any.strings_Join_none lay156 layX a c sep w).mono fun e w' ⟨he, hw⟩ => fin e w' ⟨he, hw ▸ Below.refl _ _⟩
  · generalize hL : (xs.map fun s => [AV.str s]) = L at h0
    cases h0 with
    | slnil => exact absurd (List.map_eq_nil_iff.1 hL) hx
    | slmt => exact absurd (List.map_eq_nil_iff.1 hL) hx
    | sl _ _ b o cap q1 q2 q3 q4 q5 q6 =>
      subst hL
      have hcell : ∀ (j : Nat) x, xs[j]? = some x → w.cell? ⟨b, o + j, none⟩ = some (.string x) := fun j x hj => by
        have e1 : (xs.map fun s => [AV.str s])[j]? = some [AV.str x] := by rw [List.getElem?_map, hj]; rfl
        have g1 := (q5 j _ 0 (.str x) e1 rfl).2
        have g2 := q6 j _ 0 (.str x) e1 rfl
        rw [Nat.mul_one, Nat.add_zero] at g1 g2
        obtain ⟨u, hu⟩ := Option.isSome_iff_exists.1 g1
        unfold rdw at g2
        rw [hu] at g2
        rw [hu]
        simp only [Option.getD_some] at g2
        cases g2
        rfl
      have hbk : b < w.heap.size := by
        cases xs with
        | nil => exact absurd rfl hx
        | cons x r => exact World.block_lt_of_cell? w _ (hcell 0 x rfl)
      rw [List.length_map] at q1 q3 ⊢
      exact (Go.Proofs.Any.strings_Join lay156 layX b o cap xs sep w hcell hbk q3 q1 hlen').mono fun e w' h => fin e w' h
@[go_sem] theorem tt_164 : tiOf prog 164 = some ⟨.slice 9, 1, 24, [.nilsl], false⟩ := by kernel_rfl
theorem po_move (d : Option Tmp) (x : Operand) (ty : TypeId) (pos : String) (af : Array Edge) (gd : Option (Nat × Bool)) : PureOp prog ⟨d, .move x, ty, pos, af, gd⟩ := fun g w => by simp [execOp]
theorem po_field (d : Option Tmp) (x : Operand) (ty : TypeId) (pos : String) (af : Array Edge) (gd : Option (Nat × Bool)) : PureOp prog ⟨d, .fieldAddr 24 x 0, ty, pos, af, gd⟩ := fun g w => by
  simp only [execOp]
  cases g x with
  | pointer p => cases p <;> simp [Instr.fieldAt, Instr.sureAddr, Sem.run_bind, run_underlying underlying24, fieldPlace, sizeOf22, stuck]
  | _ => simp [Instr.fieldAt, Instr.sureAddr, Sem.run_bind, run_underlying underlying24, stuck]
theorem po_load (d : Option Tmp) (x : Operand) (ty : TypeId) (pos : String) (af : Array Edge) (gd : Option (Nat × Bool)) : PureOp prog ⟨d, .load 22 x, ty, pos, af, gd⟩ := fun g w => by
  simp only [execOp]
  generalize g x = u
  cases u with
  | pointer p =>
    cases p with
    | none => simp [Instr.loadAt, Instr.sureAddr, Sem.run_bind, stuck]
    | some p =>
      simp [Instr.loadAt, Instr.sureAddr, Sem.run_bind, loadVar, isAgg22]
      cases w.cell? p with
      | some v => rfl
      | none =>
        simp only
        cases World.farLoad prog w p (Mode.plain == Mode.atomic) with
        | ok r => rfl
        | error e => trivial
  | _ => simp [Instr.loadAt, Instr.sureAddr, Sem.run_bind, stuck]
theorem po_len (d : Option Tmp) (x : Operand) (ty : TypeId) (pos : String) (af : Array Edge) (gd : Option (Nat × Bool)) : PureOp prog ⟨d, .call ⟨.builtin .len, #[x], #[22]⟩, ty, pos, af, gd⟩ := fun g w => by
  simp [execOp, resolve, invoke, builtin, Builtin.len_, Sem.run_bind, run_underlying underlying22]
  cases g x <;> simp [stuck]
theorem decode_le4 (s : ByteArray) (i : Nat) : (Utf8.decode s i).2 ≤ 4 := by
  unfold Utf8.decode
  simp only
  repeat' split
  all_goals simp
theorem scan_size {s : ByteArray} : ∀ (f pos n : Nat), scan s f pos = some n → s.size ≤ pos + f → s.size ≤ pos + 4 * n
  | 0, pos, n, _, h2 => by omega
  | f + 1, pos, n, h, h2 => by
    simp only [scan] at h
    split at h
    · split at h
      · cases h
      · rw [Option.map_eq_some_iff] at h
        obtain ⟨m, h3, rfl⟩ := h
        have g1 := decode_le4 s pos
        have g2 := decode_pos s pos
        have := scan_size f _ m h3 (by omega)
        omega
    · omega
theorem nameMay_size {s : ByteArray} (h : nameMay s = true) : s.size ≤ 32 := by
  unfold nameMay nameLen at h
  simp only [decide_eq_true_eq] at h
  split at h
  · rename_i n hn
    have := scan_size _ _ _ hn (by omega)
    split at h <;> omega
  · omega
def fS (f : GField) : ByteArray := ((f.Name ++ ⟨#[58]⟩) ++ kindText f.Kind) ++ f.To
def tS (t : GType) : ByteArray := ((t.Name ++ ⟨#[123]⟩) ++ joinS (t.F.map fS) ⟨#[44]⟩) ++ ⟨#[125]⟩
theorem strB_app (a b : ByteArray) : strB (a ++ b) = strB a ++ strB b := by unfold strB; rw [ByteArray.data_append, Array.toList_append]
theorem strB_fS (f : GField) : strB (fS f) = fieldText f := by
  unfold fS fieldText
  rw [strB_app, strB_app, strB_app]
  simp [strB]
theorem joinC_tail : ∀ (x : List UInt8) (r : List (List UInt8)), joinC (x :: r) = x ++ Go.Lib.joinTail [44] r
  | x, [] => by simp [joinC, Go.Lib.joinTail]
  | x, y :: r => by
    have := joinC_tail y r
    simp only [joinC]
    rw [this]
    simp [Go.Lib.joinTail]
theorem joinC_eq (l : List (List UInt8)) : Go.Lib.join l [44] = joinC l := by
  cases l with
  | nil => rfl
  | cons x r => rw [Go.Lib.join_cons, joinC_tail]
theorem strB_tS (t : GType) : strB (tS t) = typeText t := by
  unfold tS typeText
  rw [strB_app, strB_app, strB_app]
  have e : strB (joinS (t.F.map fS) ⟨#[44]⟩) = joinC (t.F.map fieldText) := by
    unfold joinS
    rw [← joinC_eq]
    simp only [strB, List.map_map]
    have : ((fun x : ByteArray => x.data.toList) ∘ fS) = fieldText := by funext f; exact strB_fS f
    rw [this]
  rw [e]
  simp [strB]
theorem strB_len (s : ByteArray) : (strB s).length = s.size := by unfold strB; rw [Array.length_toList]; rfl
structure ShortT (t : GType) : Prop where
  n : t.Name.size ≤ 32
  l : t.F.length ≤ 5
  f : ∀ f ∈ t.F, f.Name.size ≤ 32 ∧ f.To.size ≤ 32 ∧ 0 ≤ f.Kind ∧ f.Kind ≤ 5
theorem kindText_size (k : Int) : (kindText k).size ≤ 3 := by
  unfold kindText
  generalize k.toNat = n
  match n with
  | 0 => decide
  | 1 => decide
  | 2 => decide
  | 3 => decide
  | 4 => decide
  | 5 => decide
  | n + 6 => exact Nat.zero_le _
theorem sFind_size {s : List GType} {n : ByteArray} (h : sFind s n ≠ -1) (hs : ∀ t ∈ s, t.Name.size ≤ 32) : n.size ≤ 32 := by
  by_cases hx : ∃ t ∈ s, t.Name = n
  · obtain ⟨t, ht, rfl⟩ := hx; exact hs t ht
  · refine absurd ?_ h
    unfold sFind fnd
    have : s.findIdx? (fun o => decide (o.Name = n)) = none := by
      rw [List.findIdx?_eq_none_iff]; intro x hx'
      have : ¬ x.Name = n := fun e => hx ⟨x, hx', e⟩
      simpa using this
    rw [this]
theorem short_of {s : List GType} (h : schemaMay s = true) : s.length ≤ 4 ∧ ∀ t ∈ s, ShortT t := by
  unfold schemaMay at h
  simp only [Bool.and_eq_true, decide_eq_true_eq] at h
  obtain ⟨⟨_, h2⟩, h3⟩ := h
  have key : ∀ t ∈ s, nameMay t.Name = true ∧ t.F.length ≤ 5 ∧ fieldsMay s t = true := fun t ht => by
    obtain ⟨i, hi⟩ := List.getElem?_of_mem ht
    have := allI_at h3 hi
    unfold typeMay at this
    simp only [Bool.and_eq_true, decide_eq_true_eq] at this
    exact ⟨this.1.1.1, this.1.2, this.2⟩
  have hn : ∀ t ∈ s, t.Name.size ≤ 32 := fun t ht => nameMay_size (key t ht).1
  refine ⟨h2, fun t ht => ⟨hn t ht, (key t ht).2.1, fun f hf => ?_⟩⟩
  obtain ⟨k, hk⟩ := List.getElem?_of_mem hf
  have := allI_at (show allI _ 0 t.F = true from (key t ht).2.2) hk
  unfold fieldMay at this
  simp only [Bool.and_eq_true, decide_eq_true_eq] at this
  obtain ⟨⟨⟨h4, h5⟩, h6, h7⟩, _⟩ := this
  refine ⟨nameMay_size h5, ?_, h6, by omega⟩
  split at h4
  · exact sFind_size (by simpa using h4) hn
  · have : f.To = ⟨#[]⟩ := by simpa using h4
    rw [this]; exact Nat.zero_le _
theorem fieldText_len {f : GField} (h : f.Name.size ≤ 32 ∧ f.To.size ≤ 32 ∧ 0 ≤ f.Kind ∧ f.Kind ≤ 5) : (fieldText f).length ≤ 68 := by
  have := kindText_size f.Kind
  unfold fieldText
  simp only [List.length_append, List.length_cons, strB_len]
  omega
theorem joinC_len (c : Nat) : ∀ (l : List (List UInt8)), (∀ x ∈ l, x.length ≤ c) → (joinC l).length ≤ (c + 1) * l.length
  | [], _ => by simp [joinC]
  | [x], h => by have := h x (by simp); simp only [joinC, List.length_cons, List.length_nil]; omega
  | x :: y :: r, h => by
    have ih := joinC_len c (y :: r) fun z hz => h z (List.mem_cons_of_mem _ hz)
    have := h x (by simp)
    simp only [joinC, List.length_append, List.length_cons] at ih ⊢
    rw [Nat.mul_add (c + 1) (r.length + 1) 1]
    omega
theorem joinS_size {t : GType} (h : ShortT t) : (joinS (t.F.map fS) ⟨#[44]⟩).size ≤ 345 := by
  have e : (joinS (t.F.map fS) ⟨#[44]⟩).size = (joinC (t.F.map fieldText)).length := by
    rw [← joinC_eq, ← strB_len]
    unfold joinS
    simp only [strB, List.map_map]
    have : ((fun x : ByteArray => x.data.toList) ∘ fS) = fieldText := by funext f; exact strB_fS f
    rw [this]
  rw [e]
  have := joinC_len 68 (t.F.map fieldText) fun x hx => by
    obtain ⟨f, hf, rfl⟩ := List.mem_map.1 hx
    exact fieldText_len (h.f f hf)
  rw [List.length_map] at this
  have := h.l
  omega
theorem size_app (a b : ByteArray) : (a ++ b).size = a.size + b.size := by rw [← strB_len, strB_app, List.length_append, strB_len, strB_len]
theorem tS_size {t : GType} (h : ShortT t) : (tS t).size ≤ 379 := by
  have h1 := joinS_size h
  have h2 := h.n
  unfold tS
  rw [size_app, size_app, size_app]
  have e1 : (⟨#[123]⟩ : ByteArray).size = 1 := rfl
  have e2 : (⟨#[125]⟩ : ByteArray).size = 1 := rfl
  omega
theorem texts_len {s : List GType} (h : ∀ t ∈ s, ShortT t) : ∀ i, i ≤ s.length → ((s.take i).flatMap typeText).length ≤ 379 * i
  | 0, _ => by simp
  | i + 1, hi => by
    have ih := texts_len h i (by omega)
    obtain ⟨t, ht⟩ : ∃ t, s[i]? = some t := ⟨s[i], List.getElem?_eq_getElem (by omega)⟩
    rw [List.take_add_one, ht, Option.toList_some, List.flatMap_append, List.length_append]
    have := tS_size (h t (List.mem_of_getElem? ht))
    rw [← strB_len, strB_tS] at this
    simp only [List.flatMap_cons, List.flatMap_nil, List.append_nil]
    omega
theorem frz_S (l : List GField) : (AV.own 1 (l.map fun f => [AV.str (fS f)])).freeze = .sl 1 (l.map fun f => [AV.str (fS f)]) := frz_map (fun x a h => by simp at h; subst h; rfl) 1 l
theorem sz1 (a : UInt8) : ByteArray.size ⟨#[a]⟩ = 1 := rfl
theorem schema_Text (up : Bool) (s : List GType) (hM : schemaMay s = true) : PCall prog up 69 [.agg (eSchema s)] (· = .str ⟨(schemaText s).toArray⟩) := by
  refine PCall.intro htt func69 (by kernel_rfl) rfl (Nat.le_of_ble_eq_true rfl) fun hl => ?_
  obtain ⟨hs4, hsh⟩ := short_of hM
  have hs5 : s.length ≤ 1000 := by omega
  simp only [tmps0, Nat.reduceAdd]
  refine CW.seq (.rg (.run htt 2 (by simp only [go_sem, simprocAttr, eSchema]; exact rfl) (by simp [go_sem, simprocAttr, eSchema]) (.done ?_)))
  refine CW.seq (.seq (.rg (.run htt 1 (by simp only [go_sem, simprocAttr, eSchema]; exact rfl) (by simp [go_sem, simprocAttr, eSchema]) ?_)))
  refine CWops.callA (schema_May up s) (by simp only [go_sem, simprocAttr, eSchema]) (by simp only [go_sem, simprocAttr, eSchema] <;> exact rfl) (by simp only [go_sem, simprocAttr, eSchema]) (by simp only [go_sem, simprocAttr, eSchema]) (fun rt10 hrt10 => ?_)
  subst hrt10
  refine CWops.run htt 1 (by simp only [go_sem, simprocAttr, eSchema]; exact rfl) (by simp [go_sem, simprocAttr, eSchema]) (.done ?_)
  refine CW.cd (fun ct11 => ?_) (fun ct11 => ?_)
  · rw [hM] at ct11; cases ct11 
  · refine CW.skip ?_
    refine CW.builder (np := 4 * 65536 + 14 * 4294967296) (s := 3) (s2 := 13) (av := .sl 2 (s.map eType)) lay156 layX (4 * 65536) (by decide) (by decide) (by decide) (Nat.le_of_ble_eq_true rfl) rfl (by simp only [go_sem, simprocAttr]) (fun o ho => by
      simp only [List.mem_cons, List.not_mem_nil, or_false] at ho
      rcases ho with rfl | rfl | rfl | rfl
      · exact po_field _ _ _ _ _ _
      · exact po_load _ _ _ _ _ _
      · exact po_len _ _ _ _ _ _
      · exact po_move _ _ _ _ _ _) (by kernel_rfl) (by kernel_rfl) (Nat.le_of_ble_eq_true rfl) rfl ?_
    refine CWops.run htt 4 (by simp only [go_sem, simprocAttr, eSchema]; exact rfl) (by simp [go_sem, simprocAttr, eSchema]) (.done ?_)
    refine ⟨rfl, [(13, .sl 2 (s.map eType)), (14, .int .i64 s.length), (15, .int .i64 ((0 : Nat) : Int))], by simp [TB, AV.flat, AV.pure, go_sem, simprocAttr], ?_⟩
    refine CWB.block ?_
    refine CWB.loop (by decide) (by decide) (S := Nat) (fun i => ⟨0, [(13, .sl 2 (s.map eType)), (14, .int .i64 s.length), (15, .int .i64 i)], []⟩) (fun i => (s.take i).flatMap typeText) (fun i => i ≤ s.length) (fun i => s.length - i) (0) ?_ (Nat.zero_le _) (by simp) (fun i h1 => ?_)
    · exact Sh.wk0 (by simp [Wk, go_sem, simprocAttr])
    refine CWB.seq (by decide) (by decide) ?_
    refine CWB.of ?_
    refine CW.rg (.rn htt 1 (.done ?_))
    refine CWB.seq (by decide) (by decide) ?_
    refine CWB.of ?_
    refine CW.cd (fun ct16 => ?_) (fun ct16 => ?_)
    · have hi : i < s.length := by simpa using ct16
      obtain ⟨t, hx⟩ : ∃ t, s[i]? = some t := ⟨s[i], List.getElem?_eq_getElem hi⟩
      have hst := hsh t (List.mem_of_getElem? hx)
      have hl5 := hst.l
      refine CW.skip ?_
      refine CWB.seq (by decide) (by decide) ?_
      refine CWB.block ?_
      refine CWB.seq (by decide) (by decide) ?_
      refine CWB.of ?_
      refine CW.rg (.run htt 4 (by simp only [go_sem, simprocAttr, hx, eType]; exact rfl) (by simp [go_sem, simprocAttr, hx, eType]) (.done ?_))
      refine CWB.seq (by decide) (by decide) ?_
      refine CWB.of ?_
      refine CW.rg (.rn htt 1 (.done ?_))
      refine CWB.seq (by decide) (by decide) ?_
      refine CWB.of ?_
      refine CW.seq (.rg (.run htt 4 (by simp only [go_sem, simprocAttr, eType]; exact rfl) (by simp [go_sem, simprocAttr, eType]) (.done ?_)))
      refine CW.block ?_
      refine CW.loop (S := Nat) (fun j => ⟨2, [(13, .sl 2 (s.map eType)), (14, .int .i64 s.length), (15, .int .i64 i), (5, .lv 0 [] 0), (6, .ref 1 [] 0), (20, .sl 3 (t.F.map eField)), (21, .int .i64 t.F.length), (22, .int .i64 j)], [(0, ⟨true, eType t⟩), (1, ⟨false, [.own 1 ((t.F.take j).map fun f => [AV.str (fS f)])]⟩)]⟩) (fun j => j ≤ t.F.length) (fun j => t.F.length - j) (0) ?_ (Nat.zero_le _) (fun j h2 => ?_)
      · refine Sh.trans (Sh.nilRoot 6 1 (by simp only [go_sem, simprocAttr]) rfl) (Sh.wk0 ?_); simp [Wk, go_sem, simprocAttr, eType]
      refine CW.seq (.rg (.rn htt 1 (.done ?_)))
      refine CW.seq ?_
      refine CW.cd (fun ct23 => ?_) (fun ct23 => ?_)
      · have hj : j < t.F.length := by simpa using ct23
        obtain ⟨f, hf⟩ : ∃ f, t.F[j]? = some f := ⟨t.F[j], List.getElem?_eq_getElem hj⟩
        obtain ⟨f1, f2, f3, f4⟩ := hst.f f (List.mem_of_getElem? hf)
        have fk := kindText_size f.Kind
        have f6 : f.Kind < 6 := by omega
        have k5 : f.Kind.toNat ≤ 5 := by omega
        have k6 : f.Kind.toNat + 1 ≤ 6 := by omega
        have fz1 : f.Name.size + 1 ≤ MX := by unfold MX; omega
        have ez1 : (f.Name ++ ⟨#[58]⟩).size = f.Name.size + 1 := size_app _ _
        have fz2 : f.Name.size + 1 + (kindText f.Kind).size ≤ MX := by unfold MX; omega
        have fz3 : f.Name.size + 1 + (kindText f.Kind).size + f.To.size ≤ MX := by unfold MX; omega
        refine CW.skip ?_
        refine CW.seq ?_
        refine CW.block ?_
        refine CW.seq (.rg (.run htt 4 (by simp only [go_sem, simprocAttr, hf, eField]; exact rfl) (by simp [go_sem, simprocAttr, hf, eField]) (.done ?_)))
        refine CW.drawn mixed 13 (by decide) (by kernel_rfl) (by kernel_rfl) (by kernel_rfl) ?_
        refine Seg.run htt 4 (by simp only [go_sem, simprocAttr, eField, sz1, List.length_singleton, fz1, fz2, fz3, f3, f6, k5, k6, kT_get f.Kind f3 f4, Nat.mul_one]; exact rfl) ?_
        refine Seg.callA (schema_kinds up) (by simp only [go_sem, simprocAttr, eField, sz1, List.length_singleton, fz1, fz2, fz3, f3, f6, k5, k6, kT_get f.Kind f3 f4, Nat.mul_one]) (by simp only [go_sem, simprocAttr, eField, sz1, List.length_singleton, fz1, fz2, fz3, f3, f6, k5, k6, kT_get f.Kind f3 f4, Nat.mul_one] <;> exact rfl) (by simp only [go_sem, simprocAttr, eField, sz1, List.length_singleton, fz1, fz2, fz3, f3, f6, k5, k6, kT_get f.Kind f3 f4, Nat.mul_one]) (by simp only [go_sem, simprocAttr, eField, sz1, List.length_singleton, fz1, fz2, fz3, f3, f6, k5, k6, kT_get f.Kind f3 f4, Nat.mul_one]) ?_
        refine Seg.run htt 8 (by simp only [go_sem, simprocAttr, eField, sz1, List.length_singleton, fz1, fz2, fz3, f3, f6, k5, k6, kT_get f.Kind f3 f4, Nat.mul_one]; exact rfl) ?_
        refine Seg.done ?_
        refine CWops.run htt 2 (by simp only [go_sem, simprocAttr, eField, sz1, List.length_singleton, fz1, fz2, fz3, f3, f6, k5, k6, kT_get f.Kind f3 f4, Nat.mul_one]; exact rfl) (by first | (simp [go_sem, simprocAttr, eField, sz1, List.length_singleton, fz1, fz2, fz3, f3, f6, k5, k6, kT_get f.Kind f3 f4, Nat.mul_one]; done) | (simp [go_sem, simprocAttr, eField, sz1, List.length_singleton, fz1, fz2, fz3, f3, f6, k5, k6, kT_get f.Kind f3 f4, Nat.mul_one]; unfold MX; omega)) ?_
        refine CWops.done ?_
        refine CW.rg (.run htt 2 (by simp only [go_sem, simprocAttr, wrap_succ (show j < MX by unfold MX; omega)]; exact rfl) (by simp [go_sem, simprocAttr, wrap_succ (show j < MX by unfold MX; omega)]) (.done ?_))
        refine ⟨j + 1, ?_, ?_, ?_⟩
        · refine Sh.wk (fun x => if x = 1 then 4 else x) ?_
          simp [Wk, go_sem, simprocAttr, eType, List.take_add_one, hf, fS]
        · exact hj
        · simp only; omega
      · have hj : j = t.F.length := by simp at ct23; omega
        refine CW.exit ?_
        subst hj
        rw [List.take_length]
        have hjs := joinS_size hst
        have hnz := hst.n
        have gz1 : t.Name.size + 1 ≤ MX := by unfold MX; omega
        have gz2 : t.Name.size + 1 + (joinS (t.F.map fS) ⟨#[44]⟩).size ≤ MX := by unfold MX; omega
        have gz3 : t.Name.size + 1 + (joinS (t.F.map fS) ⟨#[44]⟩).size + 1 ≤ MX := by unfold MX; omega
        have hJ := strings_Join up (t.F.map fS) ⟨#[44]⟩ (by unfold MX; omega)
        have eJ : (t.F.map fS).map (fun s => [AV.str s]) = t.F.map fun f => [AV.str (fS f)] := by rw [List.map_map]; rfl
        rw [eJ] at hJ
        refine CWB.drawnWrite lay156 layX mixed (by decide) (by decide) 7 rfl (by decide) (by kernel_rfl) (by kernel_rfl) (by kernel_rfl) (Nat.le_of_ble_eq_true rfl) ?_
        refine Seg.run htt 4 (by simp only [go_sem, simprocAttr, eType, sz1, gz1, gz2, gz3]; exact rfl) ?_
        refine Seg.call hJ (by simp only [go_sem, simprocAttr, eType, sz1, gz1, gz2, gz3]) (by simp only [go_sem, simprocAttr, eType, sz1, gz1, gz2, gz3] <;> exact rfl) (by simp only [go_sem, simprocAttr, eType, sz1, gz1, gz2, gz3]; first | done | exact .inl (frz_S _)) (by simp only [go_sem, simprocAttr, eType, sz1, gz1, gz2, gz3]; first | done | exact .inl (frz_S _)) rfl ?_
        refine Seg.run htt 2 (by simp only [go_sem, simprocAttr, eType, sz1, gz1, gz2, gz3]; exact rfl) ?_
        refine Seg.done ?_
        refine ⟨by simp only [go_sem, simprocAttr], rfl, tS t, [(13, .sl 2 (s.map eType)), (14, .int .i64 s.length), (15, .int .i64 i)], by simp only [go_sem, simprocAttr]; rfl, ?_, by simp [TB, AV.flat, AV.pure, go_sem, simprocAttr], ?_⟩
        · have g1 := texts_len hsh i h1
          have g2 := tS_size hst
          omega
        refine CWB.of ?_
        refine CW.rg (.run htt 2 (by simp only [go_sem, simprocAttr, wrap_succ (show i < MX by unfold MX; omega)]; exact rfl) (by simp [go_sem, simprocAttr, wrap_succ (show i < MX by unfold MX; omega)]) (.done ?_))
        refine ⟨i + 1, ?_, ?_, ?_, ?_⟩
        · exact Sh.wk0 (by simp [Wk, go_sem, simprocAttr])
        · exact hi
        · simp only; omega
        · show _ = (s.take (i + 1)).flatMap typeText
          rw [strB_tS, List.take_add_one, hx]; simp
    · have hi : i = s.length := by simp at ct16; omega
      refine CW.exit ?_
      subst hi
      rw [List.take_length]
      have g1 := texts_len hsh s.length (Nat.le_refl _)
      rw [List.take_length] at g1
      refine CWB.string lay156 layX rfl (by kernel_rfl) (by simp only [go_sem, simprocAttr]) rfl (τ := []) trivial ?_ (by unfold MX; omega)
      refine CWops.rn htt 1 (.done ?_)
      refine retQ.rt (by simp only [f69, go_sem, simprocAttr]; exact rfl) ?_
      refine ⟨_, ?_, rfl⟩
      have e : schemaText s = s.flatMap typeText := by unfold schemaText; rw [if_pos hM]
      rw [e]
      simp [leP]
end Go.Ab
namespace Go.Ab
open Go Go.Proofs.Try
set_option maxRecDepth 100000
theorem clone_ValG (up : Bool) (xs : List GVal) (hx : xs.length * 32 ≤ MX) : GCall prog up 40 [.sl 3 (xs.map eVal)] 0 [] (fun r σ' => r = .ref 0 [] 0 ∧ σ'.n = 1 ∧ σ'.s = [(0, ⟨false, [.own 3 (xs.map eVal)]⟩)]) := by
  refine GCall.intro htt 0 func40 (by kernel_rfl) rfl (Nat.le_of_ble_eq_true rfl) (CW.told ?_)
  have hx1 : xs.length ≤ MX := by omega
  simp only [tmps0, Nat.reduceAdd]
  refine CW.seq (.rg (.rn htt 1 (.done ?_)))
  refine CW.seq (.seq (.rg (.rn htt 1 ?_)))
  refine CWops.nilcmp (n := 3) (l := xs.map eVal) htt (by simp only [go_sem, simprocAttr]) (by simp only [go_sem, simprocAttr]) (by simp only [go_sem, simprocAttr]) tt_51 rfl (fun b hb => ⟨_, rfl, ?_⟩)
  refine CWops.done ?_
  refine CW.cd (fun ct4 => ?_) (fun ct4 => ?_)
  · refine CW.seq (.rg (.rn htt 1 (.done ?_)))
    refine CW.ret ?_
    refine ⟨⟨1, [(2, .ref 0 [] 0)], [(0, ⟨false, [.own 3 (xs.map eVal)]⟩)]⟩, ?_, .inr rfl, by simp [ptrOK, go_sem, simprocAttr], _, by simp only [f40, go_sem, simprocAttr]; exact rfl, ?_⟩
    · have h0 := hb ct4
      refine Sh.trans (Sh.nilRoot 2 3 (by simp only [go_sem, simprocAttr]) rfl) (Sh.wk0 ?_)
      simp [Wk, go_sem, simprocAttr, h0]
    · exact ⟨rfl, rfl, rfl⟩
  · refine CW.skip ?_
    refine CW.seq (.rg ?_)
    refine CWops.run htt 4 (by simp only [go_sem, simprocAttr]; exact rfl) (by refine ⟨?_, ?_, ?_⟩ <;> first | (simp [eVal, AV.cell]; done) | (simp; omega)) ?_
    refine CWops.done ?_
    refine CW.ret ?_
    refine ⟨⟨1, [(2, .ref 0 [] 0)], [(0, ⟨false, [.own 3 (xs.map eVal)]⟩)]⟩, ?_, .inr rfl, by simp [ptrOK, go_sem, simprocAttr], _, by simp only [f40, go_sem, simprocAttr]; exact rfl, ?_⟩
    · refine Sh.wk (fun x => x + 1) ?_
      simp [Wk, go_sem, simprocAttr]
    · exact ⟨rfl, rfl, rfl⟩
theorem clone_TypeG (up : Bool) (xs : List GType) (hx : xs.length * 40 ≤ MX) : GCall prog up 78 [.sl 2 (xs.map eType)] 0 [] (fun r σ' => r = .ref 0 [] 0 ∧ σ'.n = 1 ∧ σ'.s = [(0, ⟨false, [.own 2 (xs.map eType)]⟩)]) := by
  refine GCall.intro htt 0 func78 (by kernel_rfl) rfl (Nat.le_of_ble_eq_true rfl) (CW.told ?_)
  have hx1 : xs.length ≤ MX := by omega
  simp only [tmps0, Nat.reduceAdd]
  refine CW.seq (.rg (.rn htt 1 (.done ?_)))
  refine CW.seq (.seq (.rg (.rn htt 1 ?_)))
  refine CWops.nilcmp (n := 2) (l := xs.map eType) htt (by simp only [go_sem, simprocAttr]) (by simp only [go_sem, simprocAttr]) (by simp only [go_sem, simprocAttr]) tt_22 rfl (fun b hb => ⟨_, rfl, ?_⟩)
  refine CWops.done ?_
  refine CW.cd (fun ct4 => ?_) (fun ct4 => ?_)
  · refine CW.seq (.rg (.rn htt 1 (.done ?_)))
    refine CW.ret ?_
    refine ⟨⟨1, [(2, .ref 0 [] 0)], [(0, ⟨false, [.own 2 (xs.map eType)]⟩)]⟩, ?_, .inr rfl, by simp [ptrOK, go_sem, simprocAttr], _, by simp only [f78, go_sem, simprocAttr]; exact rfl, ?_⟩
    · have h0 := hb ct4
      refine Sh.trans (Sh.nilRoot 2 2 (by simp only [go_sem, simprocAttr]) rfl) (Sh.wk0 ?_)
      simp [Wk, go_sem, simprocAttr, h0]
    · exact ⟨rfl, rfl, rfl⟩
  · refine CW.skip ?_
    refine CW.seq (.rg ?_)
    refine CWops.run htt 4 (by simp only [go_sem, simprocAttr]; exact rfl) (by refine ⟨?_, ?_, ?_⟩ <;> first | (simp [eType, AV.cell]; done) | (simp; omega)) ?_
    refine CWops.done ?_
    refine CW.ret ?_
    refine ⟨⟨1, [(2, .ref 0 [] 0)], [(0, ⟨false, [.own 2 (xs.map eType)]⟩)]⟩, ?_, .inr rfl, by simp [ptrOK, go_sem, simprocAttr], _, by simp only [f78, go_sem, simprocAttr]; exact rfl, ?_⟩
    · refine Sh.wk (fun x => x + 1) ?_
      simp [Wk, go_sem, simprocAttr]
    · exact ⟨rfl, rfl, rfl⟩
theorem walk_meet_in (up : Bool) (l : List Int) (i : Int) (hl : l.length < 1000) (p : Int) (h : atL l i = some p) : GCall prog up 77 [.lv 0 [] 0, .int .i64 i] 1 [(0, ⟨true, [.own 1 ((l).map eI), .omap (atMap (l))]⟩)] (fun _ σ' => ∃ t, σ' = ⟨1, t, [(0, ⟨true, [.own 1 ((Ab.meet l i).map eI), .omap (atMap (Ab.meet l i))]⟩)]⟩) := by
  refine GCall.intro htt 1 func77 (by kernel_rfl) rfl (Nat.le_of_ble_eq_true rfl) (CW.told ?_)

  simp only [tmps0, Nat.reduceAdd]
  refine CW.seq (.rg (.run htt 11 (by simp only [go_sem, simprocAttr, maplk_atMap, h]; exact rfl) (by simp [go_sem, simprocAttr, maplk_atMap, h]) (.done ?_)))
  refine CW.seq (.rg (.rn htt 2 (.done ?_)))
  refine CW.cd (fun ct16 => ?_) (fun ct16 => ?_)
  · cases ct16 
  · refine CW.skip ?_
    refine ⟨⟨1, [(0, .lv 0 [] 0)], [(0, ⟨true, [.own 1 ((Ab.meet l i).map eI), .omap (atMap (Ab.meet l i))]⟩)]⟩, ?_, .inl rfl, by simp [ptrOK, go_sem, simprocAttr], _, by simp only [f77, go_sem, simprocAttr]; exact rfl, ?_⟩ -- end
    · refine Sh.wk0 ?_
      rw [meet_in h]; simp [Wk, go_sem, simprocAttr]
    · exact ⟨_, rfl⟩
theorem walk_meet_out (up : Bool) (l : List Int) (i : Int) (hl : l.length < 1000) (h : atL l i = none) : GCall prog up 77 [.lv 0 [] 0, .int .i64 i] 1 [(0, ⟨true, [.own 1 ((l).map eI), .omap (atMap (l))]⟩)] (fun _ σ' => ∃ t, σ' = ⟨1, t, [(0, ⟨true, [.own 1 ((Ab.meet l i).map eI), .omap (atMap (Ab.meet l i))]⟩)]⟩) := by
  refine GCall.intro htt 1 func77 (by kernel_rfl) rfl (Nat.le_of_ble_eq_true rfl) (CW.told ?_)

  simp only [tmps0, Nat.reduceAdd]
  refine CW.seq (.rg (.run htt 11 (by simp only [go_sem, simprocAttr, maplk_atMap, h]; exact rfl) (by simp [go_sem, simprocAttr, maplk_atMap, h]) (.done ?_)))
  refine CW.seq (.rg (.rn htt 2 (.done ?_)))
  refine CW.cd (fun ct16 => ?_) (fun ct16 => ?_)
  · refine CW.seq ?_
    refine CW.drawn mixed 10 (by decide) (by kernel_rfl) (by kernel_rfl) (by kernel_rfl) ?_
    refine Seg.run htt 10 (by simp only [go_sem, simprocAttr]; exact rfl) ?_
    refine Seg.done ?_
    refine CWops.run htt 1 (by simp only [go_sem, simprocAttr]; exact rfl) (by simp [atMap_len, MX]; omega) ?_
    refine CWops.done ?_
    refine CW.rg ?_
    refine CWops.run htt 11 (by simp only [go_sem, simprocAttr, List.replicate]; exact rfl) (by simp [AV.cell, AV.tree, eI, MX]; omega) ?_
    refine CWops.done ?_
    refine ⟨⟨1, [(0, .lv 0 [] 0)], [(0, ⟨true, [.own 1 ((Ab.meet l i).map eI), .omap (atMap (Ab.meet l i))]⟩)]⟩, ?_, .inl rfl, by simp [ptrOK, go_sem, simprocAttr], _, by simp only [f77, go_sem, simprocAttr]; exact rfl, ?_⟩ -- end
    · refine Sh.wk0 ?_
      rw [meet_out h, atMap_app]; simp only [Wk, go_sem, simprocAttr, mapput_new (show maplk (atMap l) i = none by rw [maplk_atMap, h]; rfl), eI]; simp [Wk, go_sem, simprocAttr, eI]
    · exact ⟨_, rfl⟩
  · cases ct16
theorem walk_meet (up : Bool) (l : List Int) (i : Int) (hl : l.length < 1000) : GCall prog up 77 [.lv 0 [] 0, .int .i64 i] 1 [(0, ⟨true, [.own 1 ((l).map eI), .omap (atMap (l))]⟩)] (fun _ σ' => ∃ t, σ' = ⟨1, t, [(0, ⟨true, [.own 1 ((Ab.meet l i).map eI), .omap (atMap (Ab.meet l i))]⟩)]⟩) := by
  cases h : atL l i with
  | none => exact walk_meet_out up l i hl h
  | some p => exact walk_meet_in up l i hl p h
end Go.Ab
