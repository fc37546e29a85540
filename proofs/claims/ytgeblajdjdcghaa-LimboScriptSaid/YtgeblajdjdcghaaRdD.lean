/- ReaderNone, ReaderQuiet, ReaderLeast: the walks of the laws. -/
import Derived.Test.YtgeblajdjdcghaaRdC
import Derived.Lib.Hide
namespace Go.Proofs.Ytgeblajdjdcghaa
open Go Go.RowKit V
set_option linter.unusedVariables false
set_option maxRecDepth 100000
theorem thread_nil (t : Int) (w : World) : Calls Try.prog 58 [.pointer none, .int .i64 t].toArray w fun r w' => r = .returned (.pointer none) ∧ Below w.heap.size w w' := by
  refine V.calls [] Try.func58 rfl Try.ntmps58 (Nat.le_of_ble_eq_true rfl) (V.sat_nil _) ?_
  refine CW.seq ?_
  refine CW.region ?_
  refine LW.v rfl rfl (Val.assign rfl) ?_
  refine LW.nil ?_
  refine PQ.seq ?_
  refine CW.seq ?_
  refine CW.seq ?_
  refine CW.region ?_
  refine LW.v rfl rfl (Val.move rfl) ?_
  refine LW.v rfl rfl (Val.eqP true rfl rfl Try.underlying49 (.inr ⟨rfl, rfl⟩)) ?_
  refine LW.v rfl rfl (Val.move rfl) ?_
  refine LW.p rfl rfl ?_
  refine LW.p rfl rfl ?_
  refine LW.v rfl rfl (Val.pick_t rfl rfl) ?_
  refine LW.v rfl rfl (Val.move rfl) ?_
  refine LW.p rfl rfl ?_
  refine LW.p rfl rfl ?_
  refine LW.p rfl rfl ?_
  refine LW.p rfl rfl ?_
  refine LW.p rfl rfl ?_
  refine LW.p rfl rfl ?_
  refine LW.p rfl rfl ?_
  refine LW.v rfl rfl (Val.pick_t rfl rfl) ?_
  refine LW.nil ?_
  refine PQ.seq ?_
  refine CW.cond_t rfl ?_
  refine CW.seq ?_
  refine CW.region ?_
  refine LW.v rfl rfl (Val.assign rfl) ?_
  refine LW.nil ?_
  refine PQ.seq ?_
  refine CW.ret ?_
  refine PQ.then_ret ?_
  refine PQ.ret1 rfl rfl ?_
  intro w' hw; exact ⟨rfl, hw.below⟩
theorem enter_nil (t : Int) (w : World) : Calls Try.prog 29 [.pointer none, .int .i64 t].toArray w fun r w' => r = .returned (.tuple #[.int .u64 0, .int .i64 1]) ∧ Below w.heap.size w w' := by
  refine V.calls [] Try.func29 rfl Try.ntmps29 (Nat.le_of_ble_eq_true rfl) (V.sat_nil _) ?_
  refine CW.seq ?_
  refine CW.region ?_
  refine LW.v rfl rfl (Val.assign rfl) ?_
  refine LW.v rfl rfl (Val.assign rfl) ?_
  refine LW.nil ?_
  refine PQ.seq ?_
  refine CW.seq ?_
  refine CW.region ?_
  refine LW.v rfl rfl (Val.move rfl) ?_
  refine LW.v rfl rfl (Val.move rfl) ?_
  refine LW.e rfl rfl (Eff.callV rfl Try.call58 (fun w hw => thread_nil t w)) ?_
  intro _ _
  refine LW.v rfl rfl (Val.assign rfl) ?_
  refine LW.nil ?_
  refine PQ.seq ?_
  refine CW.seq ?_
  refine CW.seq ?_
  refine CW.region ?_
  refine LW.v rfl rfl (Val.move rfl) ?_
  refine LW.v rfl rfl (Val.eqP true rfl rfl Try.underlying119 (.inr ⟨rfl, rfl⟩)) ?_
  refine LW.nil ?_
  refine PQ.seq ?_
  refine CW.cond_t rfl ?_
  refine CW.seq ?_
  refine CW.region ?_
  refine LW.v rfl rfl (Val.assign rfl) ?_
  refine LW.v rfl rfl (Val.assign rfl) ?_
  refine LW.nil ?_
  refine PQ.seq ?_
  refine CW.ret ?_
  refine PQ.then_ret ?_
  refine PQ.ret2 rfl rfl rfl ?_
  intro w' hw; exact ⟨rfl, hw.below⟩
theorem leave_nil (t : Int) (w : World) : Calls Try.prog 31 [.pointer none, .int .i64 t].toArray w fun r w' => r = .returned (.int .i64 1) ∧ Below w.heap.size w w' := by
  refine V.calls [] Try.func31 rfl Try.ntmps31 (Nat.le_of_ble_eq_true rfl) (V.sat_nil _) ?_
  refine CW.seq ?_
  refine CW.region ?_
  refine LW.v rfl rfl (Val.assign rfl) ?_
  refine LW.nil ?_
  refine PQ.seq ?_
  refine CW.seq ?_
  refine CW.region ?_
  refine LW.v rfl rfl (Val.move rfl) ?_
  refine LW.v rfl rfl (Val.move rfl) ?_
  refine LW.e rfl rfl (Eff.callV rfl Try.call58 (fun w hw => thread_nil t w)) ?_
  intro _ _
  refine LW.v rfl rfl (Val.assign rfl) ?_
  refine LW.nil ?_
  refine PQ.seq ?_
  refine CW.seq ?_
  refine CW.seq ?_
  refine CW.region ?_
  refine LW.v rfl rfl (Val.move rfl) ?_
  refine LW.v rfl rfl (Val.eqP true rfl rfl Try.underlying119 (.inr ⟨rfl, rfl⟩)) ?_
  refine LW.nil ?_
  refine PQ.seq ?_
  refine CW.cond_t rfl ?_
  refine CW.seq ?_
  refine CW.region ?_
  refine LW.v rfl rfl (Val.assign rfl) ?_
  refine LW.nil ?_
  refine PQ.seq ?_
  refine CW.ret ?_
  refine PQ.then_ret ?_
  refine PQ.ret1 rfl rfl ?_
  intro w' hw; exact ⟨rfl, hw.below⟩
theorem inside_nil (t : Int) (w : World) : Calls Try.prog 40 [.pointer none, .int .i64 t].toArray w fun r w' => r = .returned (.tuple #[.int .u64 0, .bool false]) ∧ Below w.heap.size w w' := by
  refine V.calls [] Try.func40 rfl Try.ntmps40 (Nat.le_of_ble_eq_true rfl) (V.sat_nil _) ?_
  refine CW.seq ?_
  refine CW.region ?_
  refine LW.v rfl rfl (Val.assign rfl) ?_
  refine LW.v rfl rfl (Val.assign rfl) ?_
  refine LW.nil ?_
  refine PQ.seq ?_
  refine CW.seq ?_
  refine CW.region ?_
  refine LW.v rfl rfl (Val.move rfl) ?_
  refine LW.v rfl rfl (Val.move rfl) ?_
  refine LW.e rfl rfl (Eff.callV rfl Try.call58 (fun w hw => thread_nil t w)) ?_
  intro _ _
  refine LW.v rfl rfl (Val.assign rfl) ?_
  refine LW.nil ?_
  refine PQ.seq ?_
  refine CW.seq ?_
  refine CW.seq ?_
  refine CW.region ?_
  refine LW.v rfl rfl (Val.move rfl) ?_
  refine LW.v rfl rfl (Val.eqP true rfl rfl Try.underlying119 (.inr ⟨rfl, rfl⟩)) ?_
  refine LW.nil ?_
  refine PQ.seq ?_
  refine CW.cond_t rfl ?_
  refine CW.seq ?_
  refine CW.region ?_
  refine LW.v rfl rfl (Val.assign rfl) ?_
  refine LW.v rfl rfl (Val.assign rfl) ?_
  refine LW.nil ?_
  refine PQ.seq ?_
  refine CW.ret ?_
  refine PQ.then_ret ?_
  refine PQ.ret2 rfl rfl rfl ?_
  intro w' hw; exact ⟨rfl, hw.below⟩
theorem now_nil (w : World) : Calls Try.prog 36 [.pointer none].toArray w fun r w' => r = .returned (.int .u64 0) ∧ Below w.heap.size w w' := by
  refine V.calls [] Try.func36 rfl Try.ntmps36 (Nat.le_of_ble_eq_true rfl) (V.sat_nil _) ?_
  refine CW.seq ?_
  refine CW.region ?_
  refine LW.v rfl rfl (Val.assign rfl) ?_
  refine LW.nil ?_
  refine PQ.seq ?_
  refine CW.seq ?_
  refine CW.seq ?_
  refine CW.region ?_
  refine LW.v rfl rfl (Val.move rfl) ?_
  refine LW.v rfl rfl (Val.eqP true rfl rfl Try.underlying49 (.inr ⟨rfl, rfl⟩)) ?_
  refine LW.nil ?_
  refine PQ.seq ?_
  refine CW.cond_t rfl ?_
  refine CW.seq ?_
  refine CW.region ?_
  refine LW.v rfl rfl (Val.assign rfl) ?_
  refine LW.nil ?_
  refine PQ.seq ?_
  refine CW.ret ?_
  refine PQ.then_ret ?_
  refine PQ.ret1 rfl rfl ?_
  intro w' hw; exact ⟨rfl, hw.below⟩
theorem advance_nil (w : World) : Calls Try.prog 33 [.pointer none].toArray w fun r w' => r = .returned (.int .u64 0) ∧ Below w.heap.size w w' := by
  refine V.calls [] Try.func33 rfl Try.ntmps33 (Nat.le_of_ble_eq_true rfl) (V.sat_nil _) ?_
  refine CW.seq ?_
  refine CW.region ?_
  refine LW.v rfl rfl (Val.assign rfl) ?_
  refine LW.nil ?_
  refine PQ.seq ?_
  refine CW.seq ?_
  refine CW.seq ?_
  refine CW.region ?_
  refine LW.v rfl rfl (Val.move rfl) ?_
  refine LW.v rfl rfl (Val.eqP true rfl rfl Try.underlying49 (.inr ⟨rfl, rfl⟩)) ?_
  refine LW.nil ?_
  refine PQ.seq ?_
  refine CW.cond_t rfl ?_
  refine CW.seq ?_
  refine CW.region ?_
  refine LW.v rfl rfl (Val.assign rfl) ?_
  refine LW.nil ?_
  refine PQ.seq ?_
  refine CW.ret ?_
  refine PQ.then_ret ?_
  refine PQ.ret1 rfl rfl ?_
  intro w' hw; exact ⟨rfl, hw.below⟩
theorem least_nil (w : World) : Calls Try.prog 39 [.pointer none].toArray w fun r w' => r = .returned (.tuple #[.int .u64 0, .bool false]) ∧ Below w.heap.size w w' := by
  refine V.calls [] Try.func39 rfl Try.ntmps39 (Nat.le_of_ble_eq_true rfl) (V.sat_nil _) ?_
  refine CW.seq ?_
  refine CW.region ?_
  refine LW.v rfl rfl (Val.assign rfl) ?_
  refine LW.v rfl rfl (Val.assign rfl) ?_
  refine LW.nil ?_
  refine PQ.seq ?_
  refine CW.seq ?_
  refine CW.seq ?_
  refine CW.region ?_
  refine LW.v rfl rfl (Val.move rfl) ?_
  refine LW.v rfl rfl (Val.eqP true rfl rfl Try.underlying49 (.inr ⟨rfl, rfl⟩)) ?_
  refine LW.nil ?_
  refine PQ.seq ?_
  refine CW.cond_t rfl ?_
  refine CW.seq ?_
  refine CW.region ?_
  refine LW.v rfl rfl (Val.assign rfl) ?_
  refine LW.v rfl rfl (Val.assign rfl) ?_
  refine LW.nil ?_
  refine PQ.seq ?_
  refine CW.ret ?_
  refine PQ.then_ret ?_
  refine PQ.ret2 rfl rfl rfl ?_
  intro w' hw; exact ⟨rfl, hw.below⟩
theorem quiet_nil (e : Int) (w : World) : Calls Try.prog 38 [.pointer none, .int .u64 e].toArray w fun r w' => r = .returned (.bool false) ∧ Below w.heap.size w w' := by
  refine V.calls [] Try.func38 rfl Try.ntmps38 (Nat.le_of_ble_eq_true rfl) (V.sat_nil _) ?_
  refine CW.seq ?_
  refine CW.region ?_
  refine LW.v rfl rfl (Val.assign rfl) ?_
  refine LW.nil ?_
  refine PQ.seq ?_
  refine CW.seq ?_
  refine CW.seq ?_
  refine CW.region ?_
  refine LW.v rfl rfl (Val.move rfl) ?_
  refine LW.v rfl rfl (Val.eqP true rfl rfl Try.underlying49 (.inr ⟨rfl, rfl⟩)) ?_
  refine LW.nil ?_
  refine PQ.seq ?_
  refine CW.cond_t rfl ?_
  refine CW.seq ?_
  refine CW.region ?_
  refine LW.v rfl rfl (Val.assign rfl) ?_
  refine LW.nil ?_
  refine PQ.seq ?_
  refine CW.ret ?_
  refine PQ.then_ret ?_
  refine PQ.ret1 rfl rfl ?_
  intro w' hw; exact ⟨rfl, hw.below⟩
theorem readerNone_c (t e : Int) (w : World) : Calls Try.prog 9 [.int .i64 t, .int .u64 e].toArray w fun r w' => r = .returned (.bool true) ∧ Below w.heap.size w w' := by
  refine V.calls [] Try.func9 rfl Try.ntmps9 (Nat.le_of_ble_eq_true rfl) (V.sat_nil _) ?_
  refine CW.seq ?_
  refine CW.region ?_
  refine LW.v rfl rfl (Val.assign rfl) ?_
  refine LW.nil ?_
  refine PQ.seq ?_
  refine CW.seq ?_
  refine CW.region ?_
  refine LW.v rfl rfl (Val.assign rfl) ?_
  refine LW.nil ?_
  refine PQ.seq ?_
  refine CW.seq ?_
  refine CW.region ?_
  refine LW.v rfl rfl (Val.move rfl) ?_
  refine LW.v rfl rfl (Val.move rfl) ?_
  refine LW.e rfl rfl (Eff.callV rfl Try.call29 (fun w hw => enter_nil t w)) ?_
  intro _ _
  refine LW.v rfl rfl (Val.move rfl) ?_
  refine LW.v rfl rfl (Val.extract rfl rfl) ?_
  refine LW.v rfl rfl (Val.extract rfl rfl) ?_
  refine LW.v rfl rfl (Val.assign rfl) ?_
  refine LW.v rfl rfl (Val.assign rfl) ?_
  refine LW.nil ?_
  refine PQ.seq ?_
  refine CW.seq ?_
  refine CW.region ?_
  refine LW.v rfl rfl (Val.move rfl) ?_
  refine LW.e rfl rfl (Eff.callV rfl Try.call39 (fun w hw => least_nil w)) ?_
  intro _ _
  refine LW.v rfl rfl (Val.move rfl) ?_
  refine LW.v rfl rfl (Val.extract rfl rfl) ?_
  refine LW.v rfl rfl (Val.extract rfl rfl) ?_
  refine LW.v rfl rfl (Val.assign rfl) ?_
  refine LW.v rfl rfl (Val.assign rfl) ?_
  refine LW.nil ?_
  refine PQ.seq ?_
  refine CW.seq ?_
  refine CW.region ?_
  refine LW.v rfl rfl (Val.move rfl) ?_
  refine LW.v rfl rfl (Val.move rfl) ?_
  refine LW.e rfl rfl (Eff.callV rfl Try.call40 (fun w hw => inside_nil t w)) ?_
  intro _ _
  refine LW.v rfl rfl (Val.move rfl) ?_
  refine LW.v rfl rfl (Val.extract rfl rfl) ?_
  refine LW.v rfl rfl (Val.extract rfl rfl) ?_
  refine LW.v rfl rfl (Val.assign rfl) ?_
  refine LW.v rfl rfl (Val.assign rfl) ?_
  refine LW.nil ?_
  refine PQ.seq ?_
  refine CW.seq ?_
  refine CW.region ?_
  refine LW.v rfl rfl (Val.move rfl) ?_
  refine LW.v rfl rfl (Val.cmp rfl rfl rfl) ?_
  refine LW.re 30 (.bool true) rfl (by rfl) ?_
  refine LW.v rfl rfl (Val.move rfl) ?_
  refine LW.v rfl rfl (Val.move rfl) ?_
  refine LW.v rfl rfl (Val.cmp rfl rfl rfl) ?_
  refine LW.re 33 (.bool true) rfl (by rfl) ?_
  refine LW.v rfl rfl (Val.pick_t rfl rfl) ?_
  refine LW.v rfl rfl (Val.move rfl) ?_
  refine LW.v rfl rfl (Val.move rfl) ?_
  refine LW.v rfl rfl (Val.cmp rfl rfl rfl) ?_
  refine LW.re 37 (.bool true) rfl (by rfl) ?_
  refine LW.v rfl rfl (Val.pick_t rfl rfl) ?_
  refine LW.v rfl rfl (Val.move rfl) ?_
  refine LW.v rfl rfl (Val.move rfl) ?_
  refine LW.v rfl rfl (Val.not rfl) ?_
  refine LW.v rfl rfl (Val.pick_t rfl rfl) ?_
  refine LW.v rfl rfl (Val.move rfl) ?_
  refine LW.v rfl rfl (Val.move rfl) ?_
  refine LW.v rfl rfl (Val.cmp rfl rfl rfl) ?_
  refine LW.re 45 (.bool true) rfl (by rfl) ?_
  refine LW.v rfl rfl (Val.pick_t rfl rfl) ?_
  refine LW.v rfl rfl (Val.move rfl) ?_
  refine LW.v rfl rfl (Val.move rfl) ?_
  refine LW.v rfl rfl (Val.not rfl) ?_
  refine LW.v rfl rfl (Val.pick_t rfl rfl) ?_
  refine LW.v rfl rfl (Val.move rfl) ?_
  refine LW.v rfl rfl (Val.move rfl) ?_
  refine LW.v rfl rfl (Val.move rfl) ?_
  refine LW.e rfl rfl (Eff.callV rfl Try.call31 (fun w hw => leave_nil t w)) ?_
  intro _ _
  refine LW.v rfl rfl (Val.cmp rfl rfl rfl) ?_
  refine LW.re 55 (.bool true) rfl (by rfl) ?_
  refine LW.v rfl rfl (Val.pick_t rfl rfl) ?_
  refine LW.v rfl rfl (Val.move rfl) ?_
  refine LW.v rfl rfl (Val.move rfl) ?_
  refine LW.e rfl rfl (Eff.callV rfl Try.call36 (fun w hw => now_nil w)) ?_
  intro _ _
  refine LW.v rfl rfl (Val.cmp rfl rfl rfl) ?_
  refine LW.re 60 (.bool true) rfl (by rfl) ?_
  refine LW.v rfl rfl (Val.pick_t rfl rfl) ?_
  refine LW.v rfl rfl (Val.move rfl) ?_
  refine LW.v rfl rfl (Val.move rfl) ?_
  refine LW.e rfl rfl (Eff.callV rfl Try.call33 (fun w hw => advance_nil w)) ?_
  intro _ _
  refine LW.v rfl rfl (Val.cmp rfl rfl rfl) ?_
  refine LW.re 65 (.bool true) rfl (by rfl) ?_
  refine LW.v rfl rfl (Val.pick_t rfl rfl) ?_
  refine LW.v rfl rfl (Val.move rfl) ?_
  refine LW.v rfl rfl (Val.move rfl) ?_
  refine LW.v rfl rfl (Val.move rfl) ?_
  refine LW.e rfl rfl (Eff.callV rfl Try.call38 (fun w hw => quiet_nil e w)) ?_
  intro _ _
  refine LW.v rfl rfl (Val.not rfl) ?_
  refine LW.v rfl rfl (Val.pick_t rfl rfl) ?_
  refine LW.v rfl rfl (Val.move rfl) ?_
  refine LW.e rfl rfl (Eff.callV rfl Try.call25 (fun w hw => awake8_c w)) ?_
  intro _ _
  refine LW.v rfl rfl (Val.pick_t rfl rfl) ?_
  refine LW.v rfl rfl (Val.assign rfl) ?_
  refine LW.nil ?_
  refine PQ.seq ?_
  refine CW.ret ?_
  refine PQ.ret1 rfl rfl ?_
  intro w' hw; exact ⟨rfl, hw.below⟩
/-! ### ReaderQuiet -/
def inAt (m x : Int) : Bool := decide (0 < x) && decide (x ≤ m)
def bArr (l : List Int) : Obj := .cells ((l.map (inAt 1)).map Value.bool).toArray 67 (0, 0)
theorem len4 {l : List Int} (h : l.length = 4) : ∃ a b c d, l = [a, b, c, d] := by
  match l, h with
  | [a, b, c, d], _ => exact ⟨a, b, c, d, rfl⟩
theorem quF4 (a b c d : Int) : quF [a, b, c, d] 1 = (!inAt 1 a && (!inAt 1 b && (!inAt 1 c && !inAt 1 d))) := by simp [quF, inAt]
theorem set_same {α : Type} {l : List α} {i : Nat} {x : α} (h : l[i]? = some x) : l.set i x = l := by
  apply List.ext_getElem?
  intro j
  rw [List.getElem?_set]
  split
  · rename_i e; subst e
    have hlt := (List.getElem?_eq_some_iff.1 h).1
    rw [if_pos hlt, h]
  · rfl
theorem en_arr {now : Int} {l : List Int} {t : Int} (hn : 2 ≤ now) : bArr (enF now l t).1 = bArr l := by
  unfold bArr enF
  split
  · rename_i hin
    split
    · rename_i h0
      have hlt : t.toNat < l.length := by unfold inR at hin; omega
      have h1 : inAt 1 now = false := by simp [inAt]; omega
      have h2 : (l.map (inAt 1))[t.toNat]? = some false := by
        have : l[t.toNat]? = some 0 := by
          have e : l.getD t.toNat 0 = l[t.toNat] := by simp [hlt]
          rw [List.getElem?_eq_getElem hlt, ← e, h0]
        simp [this, inAt]
      rw [List.map_set, h1, set_same h2]
    · rfl
  · rfl
theorem le_arr {l : List Int} {t : Int} (ht : inR l t) : ((l.map (inAt 1)).map Value.bool).set t.toNat (.bool false) = ((leF l t).1.map (inAt 1)).map Value.bool := by
  have hlt : t.toNat < l.length := by unfold inR at ht; omega
  unfold leF
  rw [if_pos ht]
  split
  · rename_i h0
    have h2 : ((l.map (inAt 1)).map Value.bool)[t.toNat]? = some (.bool false) := by
      have : l[t.toNat]? = some 0 := by
        have e : l.getD t.toNat 0 = l[t.toNat] := by simp [hlt]
        rw [List.getElem?_eq_getElem hlt, ← e, h0]
      simp [this, inAt]
    exact set_same h2
  · rw [List.map_set, List.map_set]; rfl
theorem low4_c (x : Int) (w : World) : Calls Try.prog 37 [.int .i64 x, .int .i64 4].toArray w fun e w' => ∃ z : Int, (0 ≤ z ∧ z < 4) ∧ e = .returned (.int .i64 z) ∧ Below w.heap.size w w' := by
  have h0 : ∃ u : Nat, IntKind.u64.wrap x = (u : Nat) := by
    have : 0 ≤ IntKind.u64.wrap x := by simp [IntKind.wrap, IntKind.bits, IntKind.signed]; omega
    exact ⟨_, (Int.toNat_of_nonneg this).symm⟩
  obtain ⟨u, hu⟩ := h0
  refine V.calls [] Try.func37 rfl Try.ntmps37 (Nat.le_of_ble_eq_true rfl) (V.sat_nil _) ?_
  refine CW.seq ?_
  refine CW.region ?_
  refine LW.v rfl rfl (Val.assign rfl) ?_
  refine LW.nil ?_
  refine PQ.seq ?_
  refine CW.seq ?_
  refine CW.region ?_
  refine LW.v rfl rfl (Val.move rfl) ?_
  refine LW.v rfl rfl (Val.convI rfl Try.underlying3 Try.underlying90) ?_
  refine LW.re 6 (.int .u64 (u : Nat)) rfl (by rw [hu]) ?_
  refine LW.v rfl rfl (Val.move rfl) ?_
  refine LW.v rfl rfl (Val.convI rfl Try.underlying3 Try.underlying90) ?_
  refine LW.re 8 (.int .u64 4) rfl (by rfl) ?_
  refine LW.v rfl rfl (Val.rem rfl rfl (by omega)) ?_
  refine LW.re 9 (.int .u64 ((u : Nat) % 4 : Int)) rfl (by congr 1) ?_
  refine LW.v rfl rfl (Val.convI rfl Try.underlying90 Try.underlying3) ?_
  refine LW.re 10 (.int .i64 ((u : Nat) % 4 : Int)) rfl (by congr 1; exact IntWalk.i64_in _ (by omega)) ?_
  refine LW.v rfl rfl (Val.assign rfl) ?_
  refine LW.nil ?_
  refine PQ.seq ?_
  refine CW.ret ?_
  refine PQ.ret1 rfl rfl ?_
  intro w' hw; exact ⟨_, ⟨by omega, by omega⟩, rfl, hw.below⟩
theorem readerQuiet_c (ahead : Int) (p : Option Addr) (n cap : Nat) (acts : List Ac8) (w : World) (hn : acts.length = n) (h : V.slAt w p 2 Ac8.cells acts) : Calls Try.prog 7 [.int .i64 ahead, .slice p n cap].toArray w fun e w' => e = .returned (.bool true) ∧ Below w.heap.size w w' := by
  refine V.calls [] Try.func7 rfl Try.ntmps7 (Nat.le_of_ble_eq_true rfl) (V.sat_nil _) ?_
  refine CW.seq ?_
  refine CW.region ?_
  refine LW.v rfl rfl (Val.assign rfl) ?_
  refine LW.nil ?_
  refine PQ.seq ?_
  refine CW.seq ?_
  refine CW.seq ?_
  refine CW.region ?_
  refine LW.v rfl rfl (Val.move rfl) ?_
  refine LW.v rfl rfl (Val.lenSl rfl Try.underlying48) ?_
  refine LW.v rfl rfl (Val.cmp rfl rfl rfl) ?_
  refine LW.nil ?_
  refine PQ.seq ?_
  refine CW.cond rfl (fun h16 => ?_) (fun h16 => ?_)
  · replace h16 := bT h16
    refine CW.seq ?_
    refine CW.region ?_
    refine LW.e rfl rfl (Eff.callV rfl Try.call25 (fun w hw => awake8_c w)) ?_
    intro _ _
    refine LW.v rfl rfl (Val.assign rfl) ?_
    refine LW.nil ?_
    refine PQ.seq ?_
    refine CW.ret ?_
    refine PQ.then_ret ?_
    refine PQ.ret1 rfl rfl ?_
    intro w' hw; exact ⟨rfl, hw.below⟩
  · replace h16 := bF h16
    refine CW.skip ?_
    refine PQ.seq ?_
    refine CW.seq ?_
    refine CW.region ?_
    refine LW.e rfl rfl (Eff.callM ([]) (by repeat (first | exact .nil | apply Pick.cons | exact .here | apply Ext.there)) rfl Try.call26 (fun w hw hs => new_c 4 w (by omega))) ?_
    rintro ⟨b, a⟩ _
    refine LW.v rfl rfl (Val.move rfl) ?_
    refine LW.v rfl rfl (Val.extract rfl rfl) ?_
    refine LW.v rfl rfl (Val.extract rfl rfl) ?_
    refine LW.v rfl rfl (Val.assign rfl) ?_
    refine LW.v rfl rfl (Val.assign rfl) ?_
    refine LW.nil ?_
    refine PQ.seq ?_
    refine CW.seq ?_
    refine CW.seq ?_
    refine CW.region ?_
    refine LW.v rfl rfl (Val.move rfl) ?_
    refine LW.v rfl rfl (Val.cmp rfl rfl rfl) ?_
    refine LW.re 23 (.bool false) rfl (by rfl) ?_
    refine LW.v rfl rfl (Val.move rfl) ?_
    refine LW.v rfl rfl (Val.move rfl) ?_
    refine LW.v rfl rfl (Val.eqP false rfl rfl Try.underlying49 (.inr ⟨rfl, rfl⟩)) ?_
    refine LW.v rfl rfl (Val.pick_f rfl rfl) ?_
    refine LW.nil ?_
    refine PQ.seq ?_
    refine CW.cond_f rfl ?_
    refine CW.skip ?_
    refine PQ.seq ?_
    refine CW.seq ?_
    refine CW.region ?_
    refine LW.e rfl rfl (Eff.allocA (by exact Try.zeroValue67)) ?_
    intro b7 _
    refine LW.nil ?_
    refine PQ.seq ?_
    refine CW.seq ?_
    refine CW.seq ?_
    refine CW.region ?_
    refine LW.v rfl rfl (Val.assign rfl) ?_
    refine LW.nil ?_
    refine PQ.seq ?_
    refine CW.block ?_
    refine CW.loop (γ := Nat × List Int) (fun k => [(0, .int .i64 ahead), (1, .slice p n cap), (5, .pointer (some ⟨b, 0, none⟩)), (7, .pointer (some ⟨b7, 0, none⟩)), (8, .int .i64 (k.1 : Nat))]) (fun k => rdG b a 1 k.2 ++ [[(b7, bArr k.2)]]) (fun k => k.1 ≤ 4 ∧ k.2.length = 4 ∧ (∀ x ∈ k.2, 0 ≤ x) ∧ ∀ i, k.1 ≤ i → k.2.getD i 0 = 0) (fun k => 4 - k.1) ((0, List.replicate 4 0)) ⟨by decide, by decide, by decide, fun i _ => by simp only [List.getD_eq_getElem?_getD, List.getElem?_replicate]; split <;> rfl⟩ (by repeat (first | exact trivial | refine ⟨rfl, ?_⟩)) (by repeat (first | exact .nil | apply Pick.cons | exact .here | apply Ext.there)) ?_
    intro k
    rintro ⟨hk4, hl4, hnn, hz⟩
    refine CW.seq ?_
    refine CW.seq ?_
    refine CW.region ?_
    refine LW.v rfl rfl (Val.move rfl) ?_
    refine LW.v rfl rfl (Val.cmp rfl rfl rfl) ?_
    refine LW.nil ?_
    refine PQ.seq ?_
    refine CW.cond rfl (fun h29 => ?_) (fun h29 => ?_)
    · replace h29 := bT h29
      refine CW.skip ?_
      refine PQ.seq ?_
      refine CW.seq ?_
      refine CW.block ?_
      refine CW.seq ?_
      refine CW.region ?_
      refine LW.v rfl rfl (Val.move rfl) ?_
      refine LW.v rfl rfl (Val.move rfl) ?_
      refine LW.v rfl rfl (Val.shr rfl rfl (by omega)) ?_
      refine LW.v rfl rfl (Val.and rfl rfl) ?_
      refine LW.v rfl rfl (Val.cmp rfl rfl rfl) ?_
      refine LW.nil ?_
      refine PQ.seq ?_
      refine CW.cond rfl (fun h36 => ?_) (fun h36 => ?_)
      · replace h36 := bT h36
        refine CW.seq ?_
        refine CW.region ?_
        refine LW.v rfl rfl (Val.move rfl) ?_
        refine LW.v rfl rfl (Val.move rfl) ?_
        refine LW.e rfl rfl (Eff.callM (rdG b a 1 k.2) (by repeat (first | exact .nil | apply Pick.cons | exact .here | apply Ext.there)) rfl Try.call29 (fun w hw hs => enter_c b a 1 k.2 k.1 w hs)) ?_
        intro _ _
        have he : enF 1 k.2 (k.1 : Int) = (k.2.set k.1 1, 1, 0) := by
          unfold enF
          rw [if_pos (by unfold inR; omega), if_pos (hz _ (by omega))]
          rfl
        rw [he]
        refine LW.v rfl rfl (Val.move rfl) ?_
        refine LW.v rfl rfl (Val.extract rfl rfl) ?_
        refine LW.v rfl rfl (Val.extract rfl rfl) ?_
        refine LW.v rfl rfl (Val.assign rfl) ?_
        refine LW.v rfl rfl (Val.assign rfl) ?_
        refine LW.nil ?_
        refine PQ.seq ?_
        refine CW.region ?_
        refine LW.v rfl rfl (Val.move rfl) ?_
        refine LW.v rfl rfl (Val.move rfl) ?_
        refine LW.v rfl rfl (Val.cmp rfl rfl rfl) ?_
        refine LW.re 45 (.bool true) rfl (by rfl) ?_
        first | (refine LW.v rfl rfl (Val.indexAddrA rfl rfl Try.underlying67 Try.sizeOf4 (by omega)) ?_) | (refine LW.v rfl rfl (Val.indexAddrAI rfl rfl Try.underlying67 Try.sizeOf4 (by omega) (by omega)) ?_)
        refine LW.eN rfl (Eff.storeX (l' := ((k.2.set k.1 1).map (inAt 1)).map Value.bool) rfl rfl rfl (by repeat (first | exact .here | apply Upd.there)) (by rw [Nat.zero_add, Nat.mul_one, List.map_set, List.map_set]; rfl) (by simp; omega) Try.sizeOf4) ?_
        intro _ _
        refine LW.nil ?_
        refine PQ.in_normal ?_
        refine PQ.seq ?_
        refine CW.region ?_
        refine LW.v rfl rfl (Val.move rfl) ?_
        refine LW.v rfl rfl (Val.ar rfl rfl rfl (IntWalk.i64_in _ (by omega))) ?_
        refine LW.v rfl rfl (Val.assign rfl) ?_
        refine LW.nil ?_
        refine PQ.round ((k.1 + 1, k.2.set k.1 1)) ⟨by simp only; omega, by simpa using hl4, fun x hx => by rcases List.mem_or_eq_of_mem_set hx with h' | h'; exact hnn x h'; omega, fun i hi => by rw [List.getD_eq_getElem?_getD, List.getElem?_set_ne (Nat.ne_of_lt hi), ← List.getD_eq_getElem?_getD]; exact hz i (Nat.le_of_succ_le hi)⟩ (by simp only; omega) (by repeat (first | exact trivial | refine ⟨rfl, ?_⟩)) (by repeat (first | exact .nil | apply Pick.cons | exact .here | apply Ext.there))
      · replace h36 := bF h36
        refine CW.skip ?_
        refine PQ.in_normal ?_
        refine PQ.seq ?_
        refine CW.region ?_
        refine LW.v rfl rfl (Val.move rfl) ?_
        refine LW.v rfl rfl (Val.ar rfl rfl rfl (IntWalk.i64_in _ (by omega))) ?_
        refine LW.v rfl rfl (Val.assign rfl) ?_
        refine LW.nil ?_
        refine PQ.round ((k.1 + 1, k.2)) ⟨by simp only; omega, hl4, hnn, fun i hi => hz i (Nat.le_of_succ_le hi)⟩ (by simp only; omega) (by repeat (first | exact trivial | refine ⟨rfl, ?_⟩)) (by repeat (first | exact .nil | apply Pick.cons | exact .here | apply Ext.there))
    · replace h29 := bF h29
      refine CW.exit ?_
      refine PQ.then_exit ?_
      refine PQ.then_exit ?_
      refine PQ.in_here ?_
      refine PQ.seq ?_
      refine CW.seq ?_
      refine CW.region ?_
      refine LW.v rfl rfl (Val.move rfl) ?_
      refine LW.e rfl rfl (Eff.callV rfl Try.call36 (fun w hw => now_c b a 1 k.2 w (hw.sat.pick (ss := rdG b a 1 k.2) (by repeat (first | exact .nil | apply Pick.cons | exact .here | apply Ext.there))))) ?_
      intro _ _
      refine LW.v rfl rfl (Val.assign rfl) ?_
      refine LW.nil ?_
      refine PQ.seq ?_
      refine CW.seq ?_
      refine CW.region ?_
      refine LW.v rfl rfl (Val.move rfl) ?_
      refine LW.e rfl rfl (Eff.callM (rdG b a 1 k.2) (by repeat (first | exact .nil | apply Pick.cons | exact .here | apply Ext.there)) rfl Try.call33 (fun w hw hs => adv_c b a 1 k.2 w hs (by omega))) ?_
      intro _ _
      refine LW.nil ?_
      refine PQ.seq ?_
      refine CW.seq ?_
      refine CW.seq ?_
      refine CW.region ?_
      refine LW.v rfl rfl (Val.assign rfl) ?_
      refine LW.nil ?_
      refine PQ.seq ?_
      refine CW.block ?_
      refine CW.loop (γ := Nat × Int × List Int) (fun k => [(1, .slice p n cap), (5, .pointer (some ⟨b, 0, none⟩)), (7, .pointer (some ⟨b7, 0, none⟩)), (11, .int .u64 1), (12, .int .i64 (k.1 : Nat))]) (fun k => rdG b a k.2.1 k.2.2 ++ [[(b7, bArr k.2.2)]]) (fun k => k.1 ≤ n ∧ k.2.2.length = 4 ∧ (∀ x ∈ k.2.2, 0 ≤ x) ∧ 2 ≤ k.2.1 ∧ k.2.1 ≤ 2 + k.1) (fun k => n - k.1) ((0, 1 + 1, k.2)) ⟨Nat.zero_le _, hl4, hnn, by simp only; omega, by simp only; omega⟩ (by repeat (first | exact trivial | refine ⟨rfl, ?_⟩)) (by repeat (first | exact .nil | apply Pick.cons | exact .here | apply Ext.there)) ?_
      intro k
      rintro ⟨hk, hI1, hI2, hI3, hI4⟩
      refine CW.seq ?_
      refine CW.seq ?_
      refine CW.region ?_
      refine LW.v rfl rfl (Val.move rfl) ?_
      refine LW.v rfl rfl (Val.move rfl) ?_
      refine LW.v rfl rfl (Val.lenSl rfl Try.underlying48) ?_
      refine LW.v rfl rfl (Val.cmp rfl rfl rfl) ?_
      refine LW.nil ?_
      refine PQ.seq ?_
      refine CW.cond rfl (fun h54 => ?_) (fun h54 => ?_)
      · replace h54 := bT h54
        refine CW.skip ?_
        refine PQ.seq ?_
        refine CW.seq ?_
        refine CW.block ?_
        refine CW.seq ?_
        refine CW.region ?_
        refine LW.v rfl rfl (Val.move rfl) ?_
        refine LW.v rfl rfl (Val.move rfl) ?_
        obtain ⟨bb, oo, s, rfl, hb, hs, h⟩ := V.slAt_at h hn (k := k.1) (by omega)
        first | (refine LW.v rfl rfl (Val.indexAddrN rfl rfl Try.underlying48 Try.sizeOf57 (by omega)) ?_) | (refine LW.v rfl rfl (Val.indexAddr rfl rfl Try.underlying48 Try.sizeOf57 (by omega) (by omega)) ?_)
        refine LW.v rfl rfl (Val.fieldAddr 1 rfl Try.underlying57 rfl rfl Try.sizeOf3) ?_
        refine LW.v rfl rfl (Val.loadO rfl Try.isAgg3 hb (by simp [ids]) (h k.1 s hs 1 _ rfl)) ?_
        refine LW.e rfl rfl (Eff.callR rfl Try.call37 (fun w hw => low4_c s.t w)) ?_
        rintro t ⟨ht0, ht1⟩
        refine LW.v rfl rfl (Val.assign rfl) ?_
        refine LW.nil ?_
        refine PQ.seq ?_
        refine CW.seq ?_
        refine CW.join (fun x : Int × List Int => x.2.length = 4 ∧ (∀ y ∈ x.2, 0 ≤ y) ∧ 2 ≤ x.1 ∧ x.1 ≤ 2 + (k.1 + 1 : Nat)) (fun x => [(1, .slice (some ⟨bb, oo, none⟩) n cap), (5, .pointer (some ⟨b, 0, none⟩)), (7, .pointer (some ⟨b7, 0, none⟩)), (11, .int .u64 1), (12, .int .i64 (k.1 : Nat))]) (fun x => rdG b a x.1 x.2 ++ [[(b7, bArr x.2)]]) ?_ ?_
        · refine CW.seq ?_
          refine CW.region ?_
          refine LW.v rfl rfl (Val.move rfl) ?_
          refine LW.v rfl rfl (Val.move rfl) ?_
          first | (refine LW.v rfl rfl (Val.indexAddrN rfl rfl Try.underlying48 Try.sizeOf57 (by omega)) ?_) | (refine LW.v rfl rfl (Val.indexAddr rfl rfl Try.underlying48 Try.sizeOf57 (by omega) (by omega)) ?_)
          refine LW.v rfl rfl (Val.fieldAddr 0 rfl Try.underlying57 rfl rfl Try.sizeOf3) ?_
          refine LW.v rfl rfl (Val.loadO rfl Try.isAgg3 hb (by simp [ids]) (h k.1 s hs 0 _ rfl)) ?_
          refine LW.nil ?_
          refine PQ.seq ?_
          refine CW.block ?_
          refine CW.seq ?_
          refine CW.region ?_
          refine LW.v rfl rfl (Val.cmp rfl rfl rfl) ?_
          refine LW.v rfl rfl (Val.assign rfl) ?_
          refine LW.nil ?_
          refine PQ.seq ?_
          refine CW.cond rfl (fun h68 => ?_) (fun h68 => ?_)
          · replace h68 := bT h68
            refine CW.region ?_
            refine LW.v rfl rfl (Val.move rfl) ?_
            refine LW.v rfl rfl (Val.move rfl) ?_
            refine LW.e rfl rfl (Eff.callM (rdG b a k.2.1 k.2.2) (by repeat (first | exact .nil | apply Pick.cons | exact .here | apply Ext.there)) rfl Try.call29 (fun w hw hs => enter_c b a k.2.1 k.2.2 t w hs)) ?_
            intro _ _
            refine LW.nil ?_
            refine PQ.in_normal ?_
            refine PQ.joinedC ((k.2.1, (enF k.2.1 k.2.2 t).1)) (⟨by rw [en_length]; exact hI1, en_nonneg hI2 (by omega) t, hI3, by omega⟩) (by repeat (first | exact trivial | refine ⟨rfl, ?_⟩)) (by dsimp only; rw [en_arr hI3]; have hpk := True.intro; repeat (first | exact .nil | apply Pick.cons | exact .here | apply Ext.there))
          · replace h68 := bF h68
            refine CW.seq ?_
            refine CW.region ?_
            refine LW.v rfl rfl (Val.cmp rfl rfl rfl) ?_
            refine LW.v rfl rfl (Val.assign rfl) ?_
            refine LW.nil ?_
            refine PQ.seq ?_
            refine CW.cond rfl (fun h73 => ?_) (fun h73 => ?_)
            · replace h73 := bT h73
              refine CW.seq ?_
              refine CW.region ?_
              refine LW.v rfl rfl (Val.move rfl) ?_
              refine LW.v rfl rfl (Val.move rfl) ?_
              refine LW.e rfl rfl (Eff.callM (rdG b a k.2.1 k.2.2) (by repeat (first | exact .nil | apply Pick.cons | exact .here | apply Ext.there)) rfl Try.call31 (fun w hw hs => leave_c b a k.2.1 k.2.2 t w hs)) ?_
              intro _ _
              refine LW.nil ?_
              refine PQ.seq ?_
              refine CW.region ?_
              refine LW.v rfl rfl (Val.move rfl) ?_
              first | (refine LW.v rfl rfl (Val.indexAddrA rfl rfl Try.underlying67 Try.sizeOf4 (by omega)) ?_) | (refine LW.v rfl rfl (Val.indexAddrAI rfl rfl Try.underlying67 Try.sizeOf4 (by omega) (by omega)) ?_)
              refine LW.eN rfl (Eff.storeX (l' := ((leF k.2.2 t).1.map (inAt 1)).map Value.bool) rfl rfl rfl (by repeat (first | exact .here | apply Upd.there)) (by rw [Nat.zero_add, Nat.mul_one]; exact le_arr (by unfold inR; omega)) (by simp; omega) Try.sizeOf4) ?_
              intro _ _
              refine LW.nil ?_
              refine PQ.in_normal ?_
              refine PQ.joinedC ((k.2.1, (leF k.2.2 t).1)) (⟨by rw [le_length]; exact hI1, le_nonneg hI2 t, hI3, by omega⟩) (by repeat (first | exact trivial | refine ⟨rfl, ?_⟩)) (by repeat (first | exact .nil | apply Pick.cons | exact .here | apply Ext.there))
            · replace h73 := bF h73
              refine CW.seq ?_
              refine CW.region ?_
              refine LW.v rfl rfl (Val.cmp rfl rfl rfl) ?_
              refine LW.v rfl rfl (Val.assign rfl) ?_
              refine LW.nil ?_
              refine PQ.seq ?_
              refine CW.cond rfl (fun h80 => ?_) (fun h80 => ?_)
              · replace h80 := bT h80
                refine CW.region ?_
                refine LW.v rfl rfl (Val.move rfl) ?_
                refine LW.e rfl rfl (Eff.callM (rdG b a k.2.1 k.2.2) (by repeat (first | exact .nil | apply Pick.cons | exact .here | apply Ext.there)) rfl Try.call33 (fun w hw hs => adv_c b a k.2.1 k.2.2 w hs (by omega))) ?_
                intro _ _
                refine LW.nil ?_
                refine PQ.in_normal ?_
                refine PQ.joinedC ((k.2.1 + 1, k.2.2)) (⟨hI1, hI2, by simp only; omega, by simp only; omega⟩) (by repeat (first | exact trivial | refine ⟨rfl, ?_⟩)) (by repeat (first | exact .nil | apply Pick.cons | exact .here | apply Ext.there))
              · replace h80 := bF h80
                refine CW.skip ?_
                refine PQ.in_normal ?_
                refine PQ.joinedC ((k.2.1, k.2.2)) (⟨hI1, hI2, hI3, by omega⟩) (by repeat (first | exact trivial | refine ⟨rfl, ?_⟩)) (by repeat (first | exact .nil | apply Pick.cons | exact .here | apply Ext.there))
        · rintro ⟨now1, l1⟩ ⟨hx1, hx2, hx3, hx4⟩
          obtain ⟨x0, x1, x2, x3, rfl⟩ := len4 hx1
          refine PQ.seq ?_
          refine CW.seq ?_
          refine CW.quiet mixed (by kernel_rfl) ?_
          refine QW.v rfl rfl (Val.move rfl) ?_
          refine QW.v rfl rfl (Val.move rfl) ?_
          refine QW.c rfl rfl (Qcall.of rfl Try.call38 (fun w hw => quiet_c b a now1 [x0, x1, x2, x3] 1 w (hw.sat.pick (ss := rdG b a now1 [x0, x1, x2, x3]) (by repeat (first | exact .nil | apply Pick.cons | exact .here | apply Ext.there))) (by simp) hx2)) ?_
          first | (refine QW.v rfl rfl (Val.indexAddrA rfl rfl Try.underlying67 Try.sizeOf4 (by omega)) ?_) | (refine QW.v rfl rfl (Val.indexAddrAI rfl rfl Try.underlying67 Try.sizeOf4 (by omega) (by omega)) ?_)
          refine QW.v rfl rfl (Val.load rfl Try.isAgg4 (by repeat (first | exact .here | refine .there ?_)) (by rfl)) ?_
          refine QW.v rfl rfl (Val.not rfl) ?_
          refine QW.v rfl rfl (Val.move rfl) ?_
          refine QW.split (d := 90) rfl (fun h90 => ?_) (fun h90 => ?_)
          · replace h90 := bT h90
            first | (refine QW.v rfl rfl (Val.indexAddrA rfl rfl Try.underlying67 Try.sizeOf4 (by omega)) ?_) | (refine QW.v rfl rfl (Val.indexAddrAI rfl rfl Try.underlying67 Try.sizeOf4 (by omega) (by omega)) ?_)
            refine QW.v rfl rfl (Val.load rfl Try.isAgg4 (by repeat (first | exact .here | refine .there ?_)) (by rfl)) ?_
            refine QW.v rfl rfl (Val.not rfl) ?_
            refine QW.v rfl rfl (Val.pick_t rfl rfl) ?_
            refine QW.v rfl rfl (Val.move rfl) ?_
            refine QW.split (d := 95) rfl (fun h95 => ?_) (fun h95 => ?_)
            · replace h95 := bT h95
              first | (refine QW.v rfl rfl (Val.indexAddrA rfl rfl Try.underlying67 Try.sizeOf4 (by omega)) ?_) | (refine QW.v rfl rfl (Val.indexAddrAI rfl rfl Try.underlying67 Try.sizeOf4 (by omega) (by omega)) ?_)
              refine QW.v rfl rfl (Val.load rfl Try.isAgg4 (by repeat (first | exact .here | refine .there ?_)) (by rfl)) ?_
              refine QW.v rfl rfl (Val.not rfl) ?_
              refine QW.v rfl rfl (Val.pick_t rfl rfl) ?_
              refine QW.v rfl rfl (Val.move rfl) ?_
              refine QW.split (d := 100) rfl (fun h100 => ?_) (fun h100 => ?_)
              · replace h100 := bT h100
                first | (refine QW.v rfl rfl (Val.indexAddrA rfl rfl Try.underlying67 Try.sizeOf4 (by omega)) ?_) | (refine QW.v rfl rfl (Val.indexAddrAI rfl rfl Try.underlying67 Try.sizeOf4 (by omega) (by omega)) ?_)
                refine QW.v rfl rfl (Val.load rfl Try.isAgg4 (by repeat (first | exact .here | refine .there ?_)) (by rfl)) ?_
                refine QW.v rfl rfl (Val.not rfl) ?_
                refine QW.v rfl rfl (Val.pick_t rfl rfl) ?_
                refine QW.v rfl rfl (Val.neB rfl rfl Try.underlying4) ?_
                refine QW.re 105 (.bool false) rfl (by rw [quF4]; simp [*]) ?_
                refine QW.nil ?_
                refine PQ.seq ?_
                refine CW.cond_f rfl ?_
                refine CW.skip ?_
                refine PQ.in_normal ?_
                refine PQ.seq ?_
                refine CW.region ?_
                refine LW.v rfl rfl (Val.move rfl) ?_
                refine LW.v rfl rfl (Val.ar rfl rfl rfl (IntWalk.i64_in _ (by omega))) ?_
                refine LW.v rfl rfl (Val.assign rfl) ?_
                refine LW.nil ?_
                refine PQ.round ((k.1 + 1, now1, [x0, x1, x2, x3])) ⟨by simp only; omega, rfl, hx2, hx3, hx4⟩ (by simp only; omega) (by repeat (first | exact trivial | refine ⟨rfl, ?_⟩)) (by repeat (first | exact .nil | apply Pick.cons | exact .here | apply Ext.there))
              · replace h100 := bF h100
                refine QW.p rfl rfl ?_
                refine QW.p rfl rfl ?_
                refine QW.p rfl rfl ?_
                refine QW.v rfl rfl (Val.pick_f rfl rfl) ?_
                refine QW.v rfl rfl (Val.neB rfl rfl Try.underlying4) ?_
                refine QW.re 105 (.bool false) rfl (by rw [quF4]; simp [*]) ?_
                refine QW.nil ?_
                refine PQ.seq ?_
                refine CW.cond_f rfl ?_
                refine CW.skip ?_
                refine PQ.in_normal ?_
                refine PQ.seq ?_
                refine CW.region ?_
                refine LW.v rfl rfl (Val.move rfl) ?_
                refine LW.v rfl rfl (Val.ar rfl rfl rfl (IntWalk.i64_in _ (by omega))) ?_
                refine LW.v rfl rfl (Val.assign rfl) ?_
                refine LW.nil ?_
                refine PQ.round ((k.1 + 1, now1, [x0, x1, x2, x3])) ⟨by simp only; omega, rfl, hx2, hx3, hx4⟩ (by simp only; omega) (by repeat (first | exact trivial | refine ⟨rfl, ?_⟩)) (by repeat (first | exact .nil | apply Pick.cons | exact .here | apply Ext.there))
            · replace h95 := bF h95
              refine QW.p rfl rfl ?_
              refine QW.p rfl rfl ?_
              refine QW.p rfl rfl ?_
              refine QW.v rfl rfl (Val.pick_f rfl rfl) ?_
              refine QW.v rfl rfl (Val.move rfl) ?_
              refine QW.p rfl rfl ?_
              refine QW.p rfl rfl ?_
              refine QW.p rfl rfl ?_
              refine QW.v rfl rfl (Val.pick_f rfl rfl) ?_
              refine QW.v rfl rfl (Val.neB rfl rfl Try.underlying4) ?_
              refine QW.re 105 (.bool false) rfl (by rw [quF4]; simp [*]) ?_
              refine QW.nil ?_
              refine PQ.seq ?_
              refine CW.cond_f rfl ?_
              refine CW.skip ?_
              refine PQ.in_normal ?_
              refine PQ.seq ?_
              refine CW.region ?_
              refine LW.v rfl rfl (Val.move rfl) ?_
              refine LW.v rfl rfl (Val.ar rfl rfl rfl (IntWalk.i64_in _ (by omega))) ?_
              refine LW.v rfl rfl (Val.assign rfl) ?_
              refine LW.nil ?_
              refine PQ.round ((k.1 + 1, now1, [x0, x1, x2, x3])) ⟨by simp only; omega, rfl, hx2, hx3, hx4⟩ (by simp only; omega) (by repeat (first | exact trivial | refine ⟨rfl, ?_⟩)) (by repeat (first | exact .nil | apply Pick.cons | exact .here | apply Ext.there))
          · replace h90 := bF h90
            refine QW.p rfl rfl ?_
            refine QW.p rfl rfl ?_
            refine QW.p rfl rfl ?_
            refine QW.v rfl rfl (Val.pick_f rfl rfl) ?_
            refine QW.v rfl rfl (Val.move rfl) ?_
            refine QW.p rfl rfl ?_
            refine QW.p rfl rfl ?_
            refine QW.p rfl rfl ?_
            refine QW.v rfl rfl (Val.pick_f rfl rfl) ?_
            refine QW.v rfl rfl (Val.move rfl) ?_
            refine QW.p rfl rfl ?_
            refine QW.p rfl rfl ?_
            refine QW.p rfl rfl ?_
            refine QW.v rfl rfl (Val.pick_f rfl rfl) ?_
            refine QW.v rfl rfl (Val.neB rfl rfl Try.underlying4) ?_
            refine QW.re 105 (.bool false) rfl (by rw [quF4]; simp [*]) ?_
            refine QW.nil ?_
            refine PQ.seq ?_
            refine CW.cond_f rfl ?_
            refine CW.skip ?_
            refine PQ.in_normal ?_
            refine PQ.seq ?_
            refine CW.region ?_
            refine LW.v rfl rfl (Val.move rfl) ?_
            refine LW.v rfl rfl (Val.ar rfl rfl rfl (IntWalk.i64_in _ (by omega))) ?_
            refine LW.v rfl rfl (Val.assign rfl) ?_
            refine LW.nil ?_
            refine PQ.round ((k.1 + 1, now1, [x0, x1, x2, x3])) ⟨by simp only; omega, rfl, hx2, hx3, hx4⟩ (by simp only; omega) (by repeat (first | exact trivial | refine ⟨rfl, ?_⟩)) (by repeat (first | exact .nil | apply Pick.cons | exact .here | apply Ext.there))
      · replace h54 := bF h54
        refine CW.exit ?_
        refine PQ.then_exit ?_
        refine PQ.then_exit ?_
        refine PQ.in_here ?_
        refine PQ.seq ?_
        refine CW.seq ?_
        refine CW.region ?_
        refine LW.e rfl rfl (Eff.callV rfl Try.call25 (fun w hw => awake8_c w)) ?_
        intro _ _
        refine LW.v rfl rfl (Val.assign rfl) ?_
        refine LW.nil ?_
        refine PQ.seq ?_
        refine CW.ret ?_
        refine PQ.ret1 rfl rfl ?_
        intro w' hw; exact ⟨rfl, hw.below⟩
/-! ### ReaderLeast -/
theorem quF_no {l : List Int} {x e : Int} (hx : x ∈ l) (h : 0 < x) (h' : x ≤ e) : quF l e = false := List.all_eq_false.2 ⟨x, hx, q_no h h'⟩
theorem quF_yes {l : List Int} {e : Int} (h : ∀ x ∈ l, x ≤ 0 ∨ e < x) : quF l e = true := List.all_eq_true.2 fun x hx => q_yes (h x hx)
def soF (l : List Int) (j : Nat) : Bool := (l.take j).any (· != 0)
def meF (l : List Int) (m : Int) (j : Nat) : Bool := (l.take j).any fun x => x != 0 && x == m
theorem soF_succ {l : List Int} {j : Nat} (h : j < l.length) : soF l (j + 1) = (soF l j || l.getD j 0 != 0) := by
  have e : l.getD j 0 = l[j] := by simp [h]
  unfold soF; rw [List.take_succ_eq_append_getElem h, List.any_append, e]; simp only [List.any_cons, List.any_nil, Bool.or_false]
theorem meF_succ {l : List Int} {m : Int} {j : Nat} (h : j < l.length) : meF l m (j + 1) = (meF l m j || (l.getD j 0 != 0 && l.getD j 0 == m)) := by
  have e : l.getD j 0 = l[j] := by simp [h]
  unfold meF; rw [List.take_succ_eq_append_getElem h, List.any_append, e]; simp only [List.any_cons, List.any_nil, Bool.or_false]
theorem readerLeast_c (p : Option Addr) (n cap : Nat) (acts : List Ac8) (w : World) (hn : acts.length = n) (h : V.slAt w p 2 Ac8.cells acts) : Calls Try.prog 8 [.slice p n cap].toArray w fun e w' => e = .returned (.bool true) ∧ Below w.heap.size w w' := by
  have en_le : ∀ (now : Int) (l : List Int) (t : Int), 0 ≤ now → (∀ y ∈ l, 0 ≤ y ∧ y ≤ now) → ∀ y ∈ (enF now l t).1, 0 ≤ y ∧ y ≤ now := fun now l t hnow hl y hy => by
    unfold enF at hy
    split at hy
    · split at hy
      · rcases List.mem_or_eq_of_mem_set hy with h' | h'
        · exact hl y h'
        · omega
      · exact hl y hy
    · exact hl y hy
  have le_le : ∀ (now : Int) (l : List Int) (t : Int), 0 ≤ now → (∀ y ∈ l, 0 ≤ y ∧ y ≤ now) → ∀ y ∈ (leF l t).1, 0 ≤ y ∧ y ≤ now := fun now l t hnow hl y hy => by
    unfold leF at hy
    split at hy
    · split at hy
      · exact hl y hy
      · rcases List.mem_or_eq_of_mem_set hy with h' | h'
        · exact hl y h'
        · omega
    · exact hl y hy
  refine V.calls [] Try.func8 rfl Try.ntmps8 (Nat.le_of_ble_eq_true rfl) (V.sat_nil _) ?_
  refine CW.seq ?_
  refine CW.region ?_
  refine LW.v rfl rfl (Val.assign rfl) ?_
  refine LW.nil ?_
  refine PQ.seq ?_
  refine CW.seq ?_
  refine CW.seq ?_
  refine CW.region ?_
  refine LW.v rfl rfl (Val.move rfl) ?_
  refine LW.v rfl rfl (Val.lenSl rfl Try.underlying48) ?_
  refine LW.v rfl rfl (Val.cmp rfl rfl rfl) ?_
  refine LW.nil ?_
  refine PQ.seq ?_
  refine CW.cond rfl (fun h15 => ?_) (fun h15 => ?_)
  · replace h15 := bT h15
    refine CW.seq ?_
    refine CW.region ?_
    refine LW.e rfl rfl (Eff.callV rfl Try.call25 (fun w hw => awake8_c w)) ?_
    intro _ _
    refine LW.v rfl rfl (Val.assign rfl) ?_
    refine LW.nil ?_
    refine PQ.seq ?_
    refine CW.ret ?_
    refine PQ.then_ret ?_
    refine PQ.ret1 rfl rfl ?_
    intro w' hw; exact ⟨rfl, hw.below⟩
  · replace h15 := bF h15
    refine CW.skip ?_
    refine PQ.seq ?_
    refine CW.seq ?_
    refine CW.region ?_
    refine LW.e rfl rfl (Eff.callM ([]) (by repeat (first | exact .nil | apply Pick.cons | exact .here | apply Ext.there)) rfl Try.call26 (fun w hw hs => new_c 4 w (by omega))) ?_
    rintro ⟨b, a⟩ _
    refine LW.v rfl rfl (Val.move rfl) ?_
    refine LW.v rfl rfl (Val.extract rfl rfl) ?_
    refine LW.v rfl rfl (Val.extract rfl rfl) ?_
    refine LW.v rfl rfl (Val.assign rfl) ?_
    refine LW.v rfl rfl (Val.assign rfl) ?_
    refine LW.nil ?_
    refine PQ.seq ?_
    refine CW.seq ?_
    refine CW.seq ?_
    refine CW.region ?_
    refine LW.v rfl rfl (Val.move rfl) ?_
    refine LW.v rfl rfl (Val.cmp rfl rfl rfl) ?_
    refine LW.re 22 (.bool false) rfl (by rfl) ?_
    refine LW.v rfl rfl (Val.move rfl) ?_
    refine LW.v rfl rfl (Val.move rfl) ?_
    refine LW.v rfl rfl (Val.eqP false rfl rfl Try.underlying49 (.inr ⟨rfl, rfl⟩)) ?_
    refine LW.v rfl rfl (Val.pick_f rfl rfl) ?_
    refine LW.nil ?_
    refine PQ.seq ?_
    refine CW.cond_f rfl ?_
    refine CW.skip ?_
    refine PQ.seq ?_
    refine CW.seq ?_
    refine CW.seq ?_
    refine CW.region ?_
    refine LW.v rfl rfl (Val.assign rfl) ?_
    refine LW.nil ?_
    refine PQ.seq ?_
    refine CW.block ?_
    refine CW.loop (γ := Nat × Int × List Int) (fun k => [(0, .slice p n cap), (3, .pointer (some ⟨b, 0, none⟩)), (5, .int .i64 (k.1 : Nat))]) (fun k => rdG b a k.2.1 k.2.2) (fun k => k.1 ≤ n ∧ k.2.2.length = 4 ∧ (∀ x ∈ k.2.2, 0 ≤ x ∧ x ≤ k.2.1) ∧ 1 ≤ k.2.1 ∧ k.2.1 ≤ 1 + k.1) (fun k => n - k.1) ((0, 1, List.replicate 4 0)) ⟨Nat.zero_le _, by decide, by decide, by decide, by simp⟩ (by repeat (first | exact trivial | refine ⟨rfl, ?_⟩)) (by repeat (first | exact .nil | apply Pick.cons | exact .here | apply Ext.there)) ?_
    intro k
    rintro ⟨hk, hI1, hI2, hI3, hI4⟩
    refine CW.seq ?_
    refine CW.seq ?_
    refine CW.region ?_
    refine LW.v rfl rfl (Val.move rfl) ?_
    refine LW.v rfl rfl (Val.move rfl) ?_
    refine LW.v rfl rfl (Val.lenSl rfl Try.underlying48) ?_
    refine LW.v rfl rfl (Val.cmp rfl rfl rfl) ?_
    refine LW.nil ?_
    refine PQ.seq ?_
    refine CW.cond rfl (fun h30 => ?_) (fun h30 => ?_)
    · replace h30 := bT h30
      refine CW.skip ?_
      refine PQ.seq ?_
      refine CW.seq ?_
      refine CW.block ?_
      refine CW.seq ?_
      refine CW.join (fun x : Int × List Int => x.2.length = 4 ∧ (∀ y ∈ x.2, 0 ≤ y ∧ y ≤ x.1) ∧ 1 ≤ x.1 ∧ x.1 ≤ 1 + (k.1 + 1 : Nat)) (fun x => [(0, .slice p n cap), (3, .pointer (some ⟨b, 0, none⟩)), (5, .int .i64 (k.1 : Nat))]) (fun x => rdG b a x.1 x.2) ?_ ?_
      · refine CW.seq ?_
        refine CW.region ?_
        refine LW.v rfl rfl (Val.move rfl) ?_
        refine LW.v rfl rfl (Val.move rfl) ?_
        obtain ⟨bb, oo, s, rfl, hb, hs, h⟩ := V.slAt_at h hn (k := k.1) (by omega)
        first | (refine LW.v rfl rfl (Val.indexAddrN rfl rfl Try.underlying48 Try.sizeOf57 (by omega)) ?_) | (refine LW.v rfl rfl (Val.indexAddr rfl rfl Try.underlying48 Try.sizeOf57 (by omega) (by omega)) ?_)
        refine LW.v rfl rfl (Val.fieldAddr 0 rfl Try.underlying57 rfl rfl Try.sizeOf3) ?_
        refine LW.v rfl rfl (Val.loadO rfl Try.isAgg3 hb (by simp [ids]) (h k.1 s hs 0 _ rfl)) ?_
        refine LW.nil ?_
        refine PQ.seq ?_
        refine CW.block ?_
        refine CW.seq ?_
        refine CW.region ?_
        refine LW.v rfl rfl (Val.cmp rfl rfl rfl) ?_
        refine LW.v rfl rfl (Val.assign rfl) ?_
        refine LW.nil ?_
        refine PQ.seq ?_
        refine CW.cond rfl (fun h38 => ?_) (fun h38 => ?_)
        · replace h38 := bT h38
          refine CW.region ?_
          refine LW.v rfl rfl (Val.move rfl) ?_
          refine LW.v rfl rfl (Val.move rfl) ?_
          refine LW.v rfl rfl (Val.move rfl) ?_
          first | (refine LW.v rfl rfl (Val.indexAddrN rfl rfl Try.underlying48 Try.sizeOf57 (by omega)) ?_) | (refine LW.v rfl rfl (Val.indexAddr rfl rfl Try.underlying48 Try.sizeOf57 (by omega) (by omega)) ?_)
          refine LW.v rfl rfl (Val.fieldAddr 1 rfl Try.underlying57 rfl rfl Try.sizeOf3) ?_
          refine LW.v rfl rfl (Val.loadO rfl Try.isAgg3 hb (by simp [ids]) (h k.1 s hs 1 _ rfl)) ?_
          refine LW.e rfl rfl (Eff.callM (rdG b a k.2.1 k.2.2) (by repeat (first | exact .nil | apply Pick.cons | exact .here | apply Ext.there)) rfl Try.call29 (fun w hw hs => enter_c b a k.2.1 k.2.2 s.t w hs)) ?_
          intro _ _
          refine LW.nil ?_
          refine PQ.in_normal ?_
          refine PQ.joinedC ((k.2.1, (enF k.2.1 k.2.2 s.t).1)) (⟨by rw [en_length]; exact hI1, en_le _ _ _ (by omega) hI2, hI3, by omega⟩) (by repeat (first | exact trivial | refine ⟨rfl, ?_⟩)) (by repeat (first | exact .nil | apply Pick.cons | exact .here | apply Ext.there))
        · replace h38 := bF h38
          refine CW.seq ?_
          refine CW.region ?_
          refine LW.v rfl rfl (Val.cmp rfl rfl rfl) ?_
          refine LW.v rfl rfl (Val.assign rfl) ?_
          refine LW.nil ?_
          refine PQ.seq ?_
          refine CW.cond rfl (fun h47 => ?_) (fun h47 => ?_)
          · replace h47 := bT h47
            refine CW.region ?_
            refine LW.v rfl rfl (Val.move rfl) ?_
            refine LW.v rfl rfl (Val.move rfl) ?_
            refine LW.v rfl rfl (Val.move rfl) ?_
            first | (refine LW.v rfl rfl (Val.indexAddrN rfl rfl Try.underlying48 Try.sizeOf57 (by omega)) ?_) | (refine LW.v rfl rfl (Val.indexAddr rfl rfl Try.underlying48 Try.sizeOf57 (by omega) (by omega)) ?_)
            refine LW.v rfl rfl (Val.fieldAddr 1 rfl Try.underlying57 rfl rfl Try.sizeOf3) ?_
            refine LW.v rfl rfl (Val.loadO rfl Try.isAgg3 hb (by simp [ids]) (h k.1 s hs 1 _ rfl)) ?_
            refine LW.e rfl rfl (Eff.callM (rdG b a k.2.1 k.2.2) (by repeat (first | exact .nil | apply Pick.cons | exact .here | apply Ext.there)) rfl Try.call31 (fun w hw hs => leave_c b a k.2.1 k.2.2 s.t w hs)) ?_
            intro _ _
            refine LW.nil ?_
            refine PQ.in_normal ?_
            refine PQ.joinedC ((k.2.1, (leF k.2.2 s.t).1)) (⟨by rw [le_length]; exact hI1, le_le _ _ _ (by omega) hI2, hI3, by omega⟩) (by repeat (first | exact trivial | refine ⟨rfl, ?_⟩)) (by repeat (first | exact .nil | apply Pick.cons | exact .here | apply Ext.there))
          · replace h47 := bF h47
            refine CW.seq ?_
            refine CW.region ?_
            refine LW.v rfl rfl (Val.cmp rfl rfl rfl) ?_
            refine LW.v rfl rfl (Val.assign rfl) ?_
            refine LW.nil ?_
            refine PQ.seq ?_
            refine CW.cond rfl (fun h56 => ?_) (fun h56 => ?_)
            · replace h56 := bT h56
              refine CW.region ?_
              refine LW.v rfl rfl (Val.move rfl) ?_
              refine LW.e rfl rfl (Eff.callM (rdG b a k.2.1 k.2.2) (by repeat (first | exact .nil | apply Pick.cons | exact .here | apply Ext.there)) rfl Try.call33 (fun w hw hs => adv_c b a k.2.1 k.2.2 w hs (by omega))) ?_
              intro _ _
              refine LW.nil ?_
              refine PQ.in_normal ?_
              refine PQ.joinedC ((k.2.1 + 1, k.2.2)) (⟨hI1, fun y hy => by have := hI2 y hy; simp only; omega, by simp only; omega, by simp only; omega⟩) (by repeat (first | exact trivial | refine ⟨rfl, ?_⟩)) (by repeat (first | exact .nil | apply Pick.cons | exact .here | apply Ext.there))
            · replace h56 := bF h56
              refine CW.skip ?_
              refine PQ.in_normal ?_
              refine PQ.joinedC ((k.2.1, k.2.2)) (⟨hI1, hI2, hI3, by omega⟩) (by repeat (first | exact trivial | refine ⟨rfl, ?_⟩)) (by repeat (first | exact .nil | apply Pick.cons | exact .here | apply Ext.there))
      · rintro x ⟨hx1, hx2, hx3, hx4⟩
        have hnn : ∀ y ∈ x.2, 0 ≤ y := fun y hy => (hx2 y hy).1
        have hlt : ∀ y ∈ x.2, y ≠ 0 → (lsF x.2).1 ≤ y := fun y hy hy0 => by
          rcases lsF_spec x.2 hnn with ⟨_, h2⟩ | ⟨_, _, _, h4⟩
          · exact absurd (h2 y hy) hy0
          · exact h4 y hy hy0
        refine PQ.seq ?_
        refine CW.seq ?_
        refine CW.region ?_
        refine LW.v rfl rfl (Val.move rfl) ?_
        refine LW.e rfl rfl (Eff.callV rfl Try.call39 (fun w hw => least_c b a x.1 x.2 w (hw.sat.pick (ss := rdG b a x.1 x.2) (by repeat (first | exact .nil | apply Pick.cons | exact .here | apply Ext.there))) (by omega))) ?_
        intro _ _
        refine LW.v rfl rfl (Val.move rfl) ?_
        refine LW.v rfl rfl (Val.extract rfl rfl) ?_
        refine LW.v rfl rfl (Val.extract rfl rfl) ?_
        refine LW.v rfl rfl (Val.assign rfl) ?_
        refine LW.v rfl rfl (Val.assign rfl) ?_
        refine LW.nil ?_
        refine PQ.seq ?_
        refine CW.seq ?_
        refine CW.region ?_
        refine LW.v rfl rfl (Val.assign rfl) ?_
        refine LW.v rfl rfl (Val.assign rfl) ?_
        refine LW.nil ?_
        refine PQ.seq ?_
        refine CW.seq ?_
        refine CW.seq ?_
        refine CW.region ?_
        refine LW.v rfl rfl (Val.assign rfl) ?_
        refine LW.nil ?_
        refine PQ.seq ?_
        refine CW.block ?_
        refine CW.loop (γ := Nat) (fun j => [(0, .slice p n cap), (3, .pointer (some ⟨b, 0, none⟩)), (5, .int .i64 (k.1 : Nat)), (6, .int .u64 (lsF x.2).1), (7, .bool (lsF x.2).2), (8, .bool (soF x.2 j)), (9, .bool (meF x.2 (lsF x.2).1 j)), (10, .int .i64 (j : Nat))]) (fun _ => rdG b a x.1 x.2) (fun j => j ≤ 4) (fun j => 4 - j) (0) (Nat.zero_le _) (by repeat (first | exact trivial | refine ⟨rfl, ?_⟩)) (by repeat (first | exact .nil | apply Pick.cons | exact .here | apply Ext.there)) ?_
        intro j
        intro hj
        refine CW.seq ?_
        refine CW.seq ?_
        refine CW.region ?_
        refine LW.v rfl rfl (Val.move rfl) ?_
        refine LW.v rfl rfl (Val.cmp rfl rfl rfl) ?_
        refine LW.nil ?_
        refine PQ.seq ?_
        refine CW.cond rfl (fun h66 => ?_) (fun h66 => ?_)
        · replace h66 := bT h66
          refine CW.skip ?_
          refine PQ.seq ?_
          refine CW.seq ?_
          refine CW.block ?_
          refine CW.seq ?_
          refine CW.region ?_
          refine LW.v rfl rfl (Val.move rfl) ?_
          refine LW.v rfl rfl (Val.move rfl) ?_
          refine LW.e rfl rfl (Eff.callV rfl Try.call40 (fun w hw => inside_c b a x.1 x.2 j w (hw.sat.pick (ss := rdG b a x.1 x.2) (by repeat (first | exact .nil | apply Pick.cons | exact .here | apply Ext.there))))) ?_
          intro _ _
          refine LW.re 72 (.tuple #[.int .u64 (x.2.getD j 0), .bool (x.2.getD j 0 != 0)]) rfl (by rw [show inF x.2 (j : Int) = (x.2.getD j 0, x.2.getD j 0 != 0) from if_pos (by unfold inR; omega)]) ?_
          refine LW.v rfl rfl (Val.move rfl) ?_
          refine LW.v rfl rfl (Val.extract rfl rfl) ?_
          refine LW.v rfl rfl (Val.extract rfl rfl) ?_
          refine LW.v rfl rfl (Val.assign rfl) ?_
          refine LW.v rfl rfl (Val.assign rfl) ?_
          refine LW.nil ?_
          refine PQ.seq ?_
          refine CW.seq ?_
          refine CW.regJoin (fun y : Bool => y = soF x.2 (j + 1)) (fun y => [(0, .slice p n cap), (3, .pointer (some ⟨b, 0, none⟩)), (5, .int .i64 (k.1 : Nat)), (6, .int .u64 (lsF x.2).1), (7, .bool (lsF x.2).2), (8, .bool y), (9, .bool (meF x.2 (lsF x.2).1 j)), (10, .int .i64 (j : Nat)), (11, .int .u64 (x.2.getD j 0)), (12, .bool (x.2.getD j 0 != 0))]) (fun _ => rdG b a x.1 x.2) ?_ ?_
          · refine CW.region ?_
            refine LW.v rfl rfl (Val.move rfl) ?_
            refine LW.v rfl rfl (Val.move rfl) ?_
            refine LW.split (d := 76) rfl (fun h76 => ?_) (fun h76 => ?_)
            · replace h76 := bT h76
              refine LW.p rfl rfl ?_
              refine LW.v rfl rfl (Val.pick_t rfl rfl) ?_
              refine LW.v rfl rfl (Val.assign rfl) ?_
              refine LW.nil ?_
              refine PQ.joined (true) ((by rw [soF_succ (by omega), h76]; rfl)) (by repeat (first | exact trivial | refine ⟨rfl, ?_⟩)) (by repeat (first | exact .nil | apply Pick.cons | exact .here | apply Ext.there))
            · replace h76 := bF h76
              refine LW.v rfl rfl (Val.move rfl) ?_
              refine LW.v rfl rfl (Val.pick_f rfl rfl) ?_
              refine LW.v rfl rfl (Val.assign rfl) ?_
              refine LW.nil ?_
              refine PQ.joined ((x.2.getD j 0 != 0)) ((by rw [soF_succ (by omega), h76]; rfl)) (by repeat (first | exact trivial | refine ⟨rfl, ?_⟩)) (by repeat (first | exact .nil | apply Pick.cons | exact .here | apply Ext.there))
          · rintro _ rfl
            refine PQ.seq ?_
            refine CW.seq ?_
            refine CW.regJoin (fun y : Bool => y = meF x.2 (lsF x.2).1 (j + 1)) (fun y => [(0, .slice p n cap), (3, .pointer (some ⟨b, 0, none⟩)), (5, .int .i64 (k.1 : Nat)), (6, .int .u64 (lsF x.2).1), (7, .bool (lsF x.2).2), (8, .bool (soF x.2 (j + 1))), (9, .bool y), (10, .int .i64 (j : Nat)), (11, .int .u64 (x.2.getD j 0)), (12, .bool (x.2.getD j 0 != 0))]) (fun _ => rdG b a x.1 x.2) ?_ ?_
            · refine CW.region ?_
              refine LW.v rfl rfl (Val.move rfl) ?_
              refine LW.v rfl rfl (Val.move rfl) ?_
              refine LW.split (d := 80) rfl (fun h80 => ?_) (fun h80 => ?_)
              · replace h80 := bT h80
                refine LW.p rfl rfl ?_
                refine LW.p rfl rfl ?_
                refine LW.p rfl rfl ?_
                refine LW.p rfl rfl ?_
                refine LW.p rfl rfl ?_
                refine LW.p rfl rfl ?_
                refine LW.v rfl rfl (Val.pick_t rfl rfl) ?_
                refine LW.v rfl rfl (Val.assign rfl) ?_
                refine LW.nil ?_
                refine PQ.joined (true) ((by rw [meF_succ (by omega), h80]; rfl)) (by repeat (first | exact trivial | refine ⟨rfl, ?_⟩)) (by repeat (first | exact .nil | apply Pick.cons | exact .here | apply Ext.there))
              · replace h80 := bF h80
                refine LW.v rfl rfl (Val.move rfl) ?_
                refine LW.v rfl rfl (Val.move rfl) ?_
                refine LW.split (d := 82) rfl (fun h82 => ?_) (fun h82 => ?_)
                · replace h82 := bT h82
                  refine LW.v rfl rfl (Val.move rfl) ?_
                  refine LW.v rfl rfl (Val.move rfl) ?_
                  refine LW.v rfl rfl (Val.cmp rfl rfl rfl) ?_
                  refine LW.v rfl rfl (Val.pick_t rfl rfl) ?_
                  refine LW.v rfl rfl (Val.pick_f rfl rfl) ?_
                  refine LW.v rfl rfl (Val.assign rfl) ?_
                  refine LW.nil ?_
                  refine PQ.joined ((x.2.getD j 0 == (lsF x.2).1)) ((by rw [meF_succ (by omega), h80, show (x.2.getD j 0 != 0) = true from bne_iff_ne.2 h82]; rfl)) (by repeat (first | exact trivial | refine ⟨rfl, ?_⟩)) (by repeat (first | exact .nil | apply Pick.cons | exact .here | apply Ext.there))
                · replace h82 := bF h82
                  refine LW.p rfl rfl ?_
                  refine LW.p rfl rfl ?_
                  refine LW.p rfl rfl ?_
                  refine LW.v rfl rfl (Val.pick_f rfl rfl) ?_
                  refine LW.v rfl rfl (Val.pick_f rfl rfl) ?_
                  refine LW.v rfl rfl (Val.assign rfl) ?_
                  refine LW.nil ?_
                  refine PQ.joined (false) ((by rw [meF_succ (by omega), h80, show (x.2.getD j 0 != 0) = false from by rw [h82]; rfl]; rfl)) (by repeat (first | exact trivial | refine ⟨rfl, ?_⟩)) (by repeat (first | exact .nil | apply Pick.cons | exact .here | apply Ext.there))
            · rintro _ rfl
              refine PQ.seq ?_
              refine CW.seq ?_
              refine CW.region ?_
              refine LW.v rfl rfl (Val.move rfl) ?_
              refine LW.v rfl rfl (Val.move rfl) ?_
              refine LW.split (d := 89) rfl (fun h89 => ?_) (fun h89 => ?_)
              · replace h89 := bT h89
                refine LW.v rfl rfl (Val.move rfl) ?_
                refine LW.v rfl rfl (Val.move rfl) ?_
                refine LW.v rfl rfl (Val.cmp rfl rfl rfl) ?_
                refine LW.v rfl rfl (Val.move rfl) ?_
                refine LW.split (d := 93) rfl (fun h93 => ?_) (fun h93 => ?_)
                · exact absurd (bT h93) (by have := hlt _ (getD_mem (l := x.2) (t := j) (by omega)) h89; omega)
                · replace h93 := bF h93
                  refine LW.v rfl rfl (Val.move rfl) ?_
                  refine LW.v rfl rfl (Val.move rfl) ?_
                  refine LW.e rfl rfl (Eff.callV rfl Try.call36 (fun w hw => now_c b a x.1 x.2 w (hw.sat.pick (ss := rdG b a x.1 x.2) (by repeat (first | exact .nil | apply Pick.cons | exact .here | apply Ext.there))))) ?_
                  intro _ _
                  refine LW.v rfl rfl (Val.cmp rfl rfl rfl) ?_
                  refine LW.re 97 (.bool false) rfl (by rw [decide_eq_false (by have := (hx2 _ (getD_mem (l := x.2) (t := j) (by omega))).2; omega)]) ?_
                  refine LW.v rfl rfl (Val.pick_f rfl rfl) ?_
                  refine LW.v rfl rfl (Val.pick_t rfl rfl) ?_
                  refine LW.nil ?_
                  refine PQ.seq ?_
                  refine CW.cond_f rfl ?_
                  refine CW.skip ?_
                  refine PQ.in_normal ?_
                  refine PQ.seq ?_
                  refine CW.region ?_
                  refine LW.v rfl rfl (Val.move rfl) ?_
                  refine LW.v rfl rfl (Val.ar rfl rfl rfl (IntWalk.i64_in _ (by omega))) ?_
                  refine LW.v rfl rfl (Val.assign rfl) ?_
                  refine LW.nil ?_
                  refine PQ.round (j + 1) (by omega) (by omega) (by repeat (first | exact trivial | refine ⟨rfl, ?_⟩)) (by repeat (first | exact .nil | apply Pick.cons | exact .here | apply Ext.there))
              · replace h89 := bF h89
                refine LW.p rfl rfl ?_
                refine LW.p rfl rfl ?_
                refine LW.p rfl rfl ?_
                refine LW.p rfl rfl ?_
                refine LW.p rfl rfl ?_
                refine LW.p rfl rfl ?_
                refine LW.p rfl rfl ?_
                refine LW.p rfl rfl ?_
                refine LW.p rfl rfl ?_
                refine LW.v rfl rfl (Val.pick_f rfl rfl) ?_
                refine LW.nil ?_
                refine PQ.seq ?_
                refine CW.cond_f rfl ?_
                refine CW.skip ?_
                refine PQ.in_normal ?_
                refine PQ.seq ?_
                refine CW.region ?_
                refine LW.v rfl rfl (Val.move rfl) ?_
                refine LW.v rfl rfl (Val.ar rfl rfl rfl (IntWalk.i64_in _ (by omega))) ?_
                refine LW.v rfl rfl (Val.assign rfl) ?_
                refine LW.nil ?_
                refine PQ.round (j + 1) (by omega) (by omega) (by repeat (first | exact trivial | refine ⟨rfl, ?_⟩)) (by repeat (first | exact .nil | apply Pick.cons | exact .here | apply Ext.there))
        · replace h66 := bF h66
          refine CW.exit ?_
          refine PQ.then_exit ?_
          refine PQ.then_exit ?_
          refine PQ.in_here ?_
          refine PQ.seq ?_
          refine CW.seq ?_
          rcases lsF_spec x.2 hnn with ⟨his, hall⟩ | ⟨his, hmem, hpos, hle⟩
          · refine CW.re 7 (.bool false) rfl (by rw [his]) ?_
            refine CW.re 8 (.bool false) rfl (by congr 1; (have hj4 : j = 4 := (by omega)); subst hj4; unfold soF; rw [List.take_of_length_le (by omega)]; simpa using hall) ?_
            refine CW.re 9 (.bool false) rfl (by congr 1; (have hj4 : j = 4 := (by omega)); subst hj4; unfold meF; rw [List.take_of_length_le (by omega)]; simp only [List.any_eq_false]; intro y hy; simp [hall y hy]) ?_
            refine CW.region ?_
            refine LW.v rfl rfl (Val.move rfl) ?_
            refine LW.v rfl rfl (Val.move rfl) ?_
            refine LW.v rfl rfl (Val.neB rfl rfl Try.underlying4) ?_
            refine LW.re 102 (.bool false) rfl (by rfl) ?_
            refine LW.v rfl rfl (Val.move rfl) ?_
            refine LW.v rfl rfl (Val.move rfl) ?_
            refine LW.v rfl rfl (Val.move rfl) ?_
            refine LW.v rfl rfl (Val.neB rfl rfl Try.underlying4) ?_
            refine LW.re 106 (.bool false) rfl (by rfl) ?_
            refine LW.v rfl rfl (Val.pick_f rfl rfl) ?_
            refine LW.v rfl rfl (Val.move rfl) ?_
            refine LW.v rfl rfl (Val.move rfl) ?_
            refine LW.v rfl rfl (Val.move rfl) ?_
            refine LW.p rfl rfl ?_
            refine LW.p rfl rfl ?_
            refine LW.p rfl rfl ?_
            refine LW.v rfl rfl (Val.pick_f rfl rfl) ?_
            refine LW.v rfl rfl (Val.pick_f rfl rfl) ?_
            refine LW.v rfl rfl (Val.move rfl) ?_
            refine LW.v rfl rfl (Val.move rfl) ?_
            refine LW.v rfl rfl (Val.move rfl) ?_
            refine LW.p rfl rfl ?_
            refine LW.p rfl rfl ?_
            refine LW.p rfl rfl ?_
            refine LW.p rfl rfl ?_
            refine LW.p rfl rfl ?_
            refine LW.v rfl rfl (Val.pick_f rfl rfl) ?_
            refine LW.v rfl rfl (Val.pick_f rfl rfl) ?_
            refine LW.v rfl rfl (Val.move rfl) ?_
            refine LW.v rfl rfl (Val.move rfl) ?_
            refine LW.v rfl rfl (Val.not rfl) ?_
            refine LW.v rfl rfl (Val.move rfl) ?_
            refine LW.v rfl rfl (Val.move rfl) ?_
            refine LW.e rfl rfl (Eff.callV rfl Try.call38 (fun w hw => quiet_c b a x.1 x.2 18446744073709551615 w (hw.sat.pick (ss := rdG b a x.1 x.2) (by repeat (first | exact .nil | apply Pick.cons | exact .here | apply Ext.there))) (by omega) hnn)) ?_
            intro _ _
            refine LW.re 131 (.bool true) rfl (by rw [quF_yes (fun y hy => .inl (by rw [hall y hy]; decide))]) ?_
            refine LW.v rfl rfl (Val.not rfl) ?_
            refine LW.v rfl rfl (Val.pick_t rfl rfl) ?_
            refine LW.v rfl rfl (Val.pick_f rfl rfl) ?_
            refine LW.nil ?_
            refine PQ.seq ?_
            refine CW.cond_f rfl ?_
            refine CW.skip ?_
            refine PQ.in_normal ?_
            refine PQ.seq ?_
            refine CW.region ?_
            refine LW.v rfl rfl (Val.move rfl) ?_
            refine LW.v rfl rfl (Val.ar rfl rfl rfl (IntWalk.i64_in _ (by omega))) ?_
            refine LW.v rfl rfl (Val.assign rfl) ?_
            refine LW.nil ?_
            refine PQ.round ((k.1 + 1, x.1, x.2)) ⟨by simp only; omega, hx1, hx2, hx3, hx4⟩ (by simp only; omega) (by repeat (first | exact trivial | refine ⟨rfl, ?_⟩)) (by repeat (first | exact .nil | apply Pick.cons | exact .here | apply Ext.there))
          · have hup := (hx2 _ hmem).2
            refine CW.re 7 (.bool true) rfl (by rw [his]) ?_
            refine CW.re 8 (.bool true) rfl (by congr 1; (have hj4 : j = 4 := (by omega)); subst hj4; unfold soF; rw [List.take_of_length_le (by omega)]; simp only [List.any_eq_true]; exact ⟨_, hmem, by simp; omega⟩) ?_
            refine CW.re 9 (.bool true) rfl (by congr 1; (have hj4 : j = 4 := (by omega)); subst hj4; unfold meF; rw [List.take_of_length_le (by omega)]; simp only [List.any_eq_true]; exact ⟨_, hmem, by simp; omega⟩) ?_
            refine CW.region ?_
            refine LW.v rfl rfl (Val.move rfl) ?_
            refine LW.v rfl rfl (Val.move rfl) ?_
            refine LW.v rfl rfl (Val.neB rfl rfl Try.underlying4) ?_
            refine LW.re 102 (.bool false) rfl (by rfl) ?_
            refine LW.v rfl rfl (Val.move rfl) ?_
            refine LW.v rfl rfl (Val.move rfl) ?_
            refine LW.v rfl rfl (Val.move rfl) ?_
            refine LW.v rfl rfl (Val.neB rfl rfl Try.underlying4) ?_
            refine LW.re 106 (.bool false) rfl (by rfl) ?_
            refine LW.v rfl rfl (Val.pick_f rfl rfl) ?_
            refine LW.v rfl rfl (Val.move rfl) ?_
            refine LW.v rfl rfl (Val.move rfl) ?_
            refine LW.v rfl rfl (Val.move rfl) ?_
            refine LW.v rfl rfl (Val.move rfl) ?_
            refine LW.v rfl rfl (Val.move rfl) ?_
            refine LW.e rfl rfl (Eff.callV rfl Try.call38 (fun w hw => quiet_c b a x.1 x.2 (lsF x.2).1 w (hw.sat.pick (ss := rdG b a x.1 x.2) (by repeat (first | exact .nil | apply Pick.cons | exact .here | apply Ext.there))) (by omega) hnn)) ?_
            intro _ _
            refine LW.re 113 (.bool false) rfl (by rw [quF_no hmem hpos (Int.le_refl _)]) ?_
            refine LW.v rfl rfl (Val.pick_t rfl rfl) ?_
            refine LW.v rfl rfl (Val.pick_f rfl rfl) ?_
            refine LW.v rfl rfl (Val.move rfl) ?_
            refine LW.v rfl rfl (Val.move rfl) ?_
            refine LW.v rfl rfl (Val.move rfl) ?_
            refine LW.v rfl rfl (Val.move rfl) ?_
            refine LW.v rfl rfl (Val.move rfl) ?_
            refine LW.v rfl rfl (Val.ar rfl rfl rfl (IntWalk.u64_in _ (by omega))) ?_
            refine LW.e rfl rfl (Eff.callV rfl Try.call38 (fun w hw => quiet_c b a x.1 x.2 ((lsF x.2).1 - 1) w (hw.sat.pick (ss := rdG b a x.1 x.2) (by repeat (first | exact .nil | apply Pick.cons | exact .here | apply Ext.there))) (by omega) hnn)) ?_
            intro _ _
            refine LW.re 122 (.bool true) rfl (by rw [quF_yes (fun y hy => by by_cases hy0 : y = 0; (exact .inl (by omega)); exact .inr (by have := hle y hy hy0; omega))]) ?_
            refine LW.v rfl rfl (Val.not rfl) ?_
            refine LW.v rfl rfl (Val.pick_t rfl rfl) ?_
            refine LW.v rfl rfl (Val.pick_f rfl rfl) ?_
            refine LW.v rfl rfl (Val.move rfl) ?_
            refine LW.v rfl rfl (Val.move rfl) ?_
            refine LW.v rfl rfl (Val.not rfl) ?_
            refine LW.v rfl rfl (Val.move rfl) ?_
            refine LW.p rfl rfl ?_
            refine LW.p rfl rfl ?_
            refine LW.p rfl rfl ?_
            refine LW.v rfl rfl (Val.pick_f rfl rfl) ?_
            refine LW.v rfl rfl (Val.pick_f rfl rfl) ?_
            refine LW.nil ?_
            refine PQ.seq ?_
            refine CW.cond_f rfl ?_
            refine CW.skip ?_
            refine PQ.in_normal ?_
            refine PQ.seq ?_
            refine CW.region ?_
            refine LW.v rfl rfl (Val.move rfl) ?_
            refine LW.v rfl rfl (Val.ar rfl rfl rfl (IntWalk.i64_in _ (by omega))) ?_
            refine LW.v rfl rfl (Val.assign rfl) ?_
            refine LW.nil ?_
            refine PQ.round ((k.1 + 1, x.1, x.2)) ⟨by simp only; omega, hx1, hx2, hx3, hx4⟩ (by simp only; omega) (by repeat (first | exact trivial | refine ⟨rfl, ?_⟩)) (by repeat (first | exact .nil | apply Pick.cons | exact .here | apply Ext.there))
    · replace h30 := bF h30
      refine CW.exit ?_
      refine PQ.then_exit ?_
      refine PQ.then_exit ?_
      refine PQ.in_here ?_
      refine PQ.seq ?_
      refine CW.seq ?_
      refine CW.region ?_
      refine LW.e rfl rfl (Eff.callV rfl Try.call25 (fun w hw => awake8_c w)) ?_
      intro _ _
      refine LW.v rfl rfl (Val.assign rfl) ?_
      refine LW.nil ?_
      refine PQ.seq ?_
      refine CW.ret ?_
      refine PQ.ret1 rfl rfl ?_
      intro w' hw; exact ⟨rfl, hw.below⟩
end Go.Proofs.Ytgeblajdjdcghaa
