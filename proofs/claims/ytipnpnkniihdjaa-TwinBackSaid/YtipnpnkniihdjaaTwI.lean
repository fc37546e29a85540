/- Good calls. -/
import Derived.Test.YtipnpnkniihdjaaTwH
import Derived.Lib.Hide
namespace Go.Proofs.Ytipnpnkniihdjaa
open Go Go.RowKit V
set_option linter.unusedVariables false
set_option maxRecDepth 100000
open V (str byC ownV ownG ownS ownOk)
def shB (c : Cl) : Bool := !(decide (c.ck = 2 ∨ c.ck = 3) && decide (c.key = []))
def loB (c : Cl) : Bool := if c.ck = 3 then decide (16 < c.key.length) else if c.ck = 2 then (decide (16 < c.key.length) || decide (400 < c.val.length)) else if c.ck = 4 then decide (400 < c.val.length) else false
/-- What is wrong with a call. -/
def gdF (c : Cl) : Int := if shB c = true then (if loB c = true then 5 else 0) else 1
/-- The four kinds of calls that Diff tells. -/
def K4 (c : Cl) : Prop := c.ck = 2 ∨ c.ck = 3 ∨ c.ck = 4 ∨ c.ck = 5
theorem keyed_c (k : Int) (w : World) : Calls Try.prog 52 [.int .i64 k].toArray w fun e w' => e = .returned (.bool (decide (k = 1 ∨ k = 2 ∨ k = 3))) ∧ Below w.heap.size w w' := by
  refine V.calls [] Try.func52 rfl Try.ntmps52 (Nat.le_of_ble_eq_true rfl) (V.sat_nil _) ?_
  refine CW.seq ?_
  refine CW.region ?_
  refine LW.v rfl rfl (Val.assign rfl) ?_
  refine LW.nil ?_
  refine PQ.seq ?_
  refine CW.seq ?_
  refine CW.region ?_
  refine LW.v rfl rfl (Val.move rfl) ?_
  refine LW.v rfl rfl (Val.cmp rfl rfl rfl) ?_
  refine LW.v rfl rfl (Val.move rfl) ?_
  refine LW.split (d := 5) rfl (fun h5 => ?_) (fun h5 => ?_)
  · replace h5 := bT h5
    refine LW.p rfl rfl ?_
    refine LW.p rfl rfl ?_
    refine LW.v rfl rfl (Val.pick_t rfl rfl) ?_
    refine LW.v rfl rfl (Val.move rfl) ?_
    refine LW.p rfl rfl ?_
    refine LW.p rfl rfl ?_
    refine LW.v rfl rfl (Val.pick_t rfl rfl) ?_
    refine LW.v rfl rfl (Val.assign rfl) ?_
    refine LW.nil ?_
    refine PQ.seq ?_
    refine CW.ret ?_
    refine PQ.ret1 rfl rfl ?_
    intro w' hw; exact ⟨by congr 2; first | (simp_all; done) | (simp; omega), hw.below⟩
  · replace h5 := bF h5
    refine LW.v rfl rfl (Val.move rfl) ?_
    refine LW.v rfl rfl (Val.cmp rfl rfl rfl) ?_
    refine LW.v rfl rfl (Val.pick_f rfl rfl) ?_
    refine LW.v rfl rfl (Val.move rfl) ?_
    refine LW.split (d := 9) rfl (fun h9 => ?_) (fun h9 => ?_)
    · replace h9 := bT h9
      refine LW.p rfl rfl ?_
      refine LW.p rfl rfl ?_
      refine LW.v rfl rfl (Val.pick_t rfl rfl) ?_
      refine LW.v rfl rfl (Val.assign rfl) ?_
      refine LW.nil ?_
      refine PQ.seq ?_
      refine CW.ret ?_
      refine PQ.ret1 rfl rfl ?_
      intro w' hw; exact ⟨by congr 2; first | (simp_all; done) | (simp; omega), hw.below⟩
    · replace h9 := bF h9
      refine LW.v rfl rfl (Val.move rfl) ?_
      refine LW.v rfl rfl (Val.cmp rfl rfl rfl) ?_
      refine LW.split (d := 11) rfl (fun h11 => ?_) (fun h11 => ?_)
      · replace h11 := bT h11
        refine LW.v rfl rfl (Val.pick_f rfl rfl) ?_
        refine LW.v rfl rfl (Val.assign rfl) ?_
        refine LW.nil ?_
        refine PQ.seq ?_
        refine CW.ret ?_
        refine PQ.ret1 rfl rfl ?_
        intro w' hw; exact ⟨by congr 2; first | (simp_all; done) | (simp; omega), hw.below⟩
      · replace h11 := bF h11
        refine LW.v rfl rfl (Val.pick_f rfl rfl) ?_
        refine LW.v rfl rfl (Val.assign rfl) ?_
        refine LW.nil ?_
        refine PQ.seq ?_
        refine CW.ret ?_
        refine PQ.ret1 rfl rfl ?_
        intro w' hw; exact ⟨by congr 2; first | (simp_all; done) | (simp; omega), hw.below⟩
theorem shape_c (c : Cl) (hk : K4 c) (w : World) : Calls Try.prog 31 [.agg (clC c).toArray].toArray w fun e w' => e = .returned (.bool (shB c)) ∧ Below w.heap.size w w' := by
  obtain ⟨ck, key, val⟩ := c
  unfold K4 at hk
  simp only at hk
  rcases hk with rfl | rfl | rfl | rfl
  · refine V.calls [] Try.func31 rfl Try.ntmps31 (Nat.le_of_ble_eq_true rfl) (V.sat_nil _) ?_
    refine CW.seq ?_
    refine CW.region ?_
    refine LW.e rfl rfl (Eff.boxA rfl) ?_
    intro b1 _
    refine LW.v rfl rfl (Val.assign rfl) ?_
    refine LW.nil ?_
    refine PQ.seq ?_
    refine CW.seq ?_
    refine CW.seq ?_
    refine CW.region ?_
    refine LW.v rfl rfl (Val.fieldAddr 0 rfl Try.underlying38 rfl rfl Try.sizeOf3) ?_
    refine LW.v rfl rfl (Val.load rfl Try.isAgg3 (by repeat (first | exact .here | exact .inner .here | exact .inner (.inner .here) | refine .there ?_)) (by rfl)) ?_
    refine LW.v rfl rfl (Val.cmp rfl rfl rfl) ?_
    refine LW.re 9 (.bool false) rfl (by rfl) ?_
    refine LW.v rfl rfl (Val.move rfl) ?_
    refine LW.v rfl rfl (Val.fieldAddr 0 rfl Try.underlying38 rfl rfl Try.sizeOf3) ?_
    refine LW.v rfl rfl (Val.load rfl Try.isAgg3 (by repeat (first | exact .here | exact .inner .here | exact .inner (.inner .here) | refine .there ?_)) (by rfl)) ?_
    refine LW.v rfl rfl (Val.cmp rfl rfl rfl) ?_
    refine LW.re 13 (.bool false) rfl (by rfl) ?_
    refine LW.v rfl rfl (Val.pick_f rfl rfl) ?_
    refine LW.v rfl rfl (Val.move rfl) ?_
    refine LW.v rfl rfl (Val.fieldAddr 0 rfl Try.underlying38 rfl rfl Try.sizeOf3) ?_
    refine LW.v rfl rfl (Val.load rfl Try.isAgg3 (by repeat (first | exact .here | exact .inner .here | exact .inner (.inner .here) | refine .there ?_)) (by rfl)) ?_
    refine LW.e rfl rfl (Eff.callV rfl Try.call52 (fun w hw => keyed_c 2 w)) ?_
    intro _ _
    refine LW.re 18 (.bool true) rfl (by rfl) ?_
    refine LW.v rfl rfl (Val.move rfl) ?_
    refine LW.v rfl rfl (Val.fieldAddr 1 rfl Try.underlying38 rfl rfl Try.sizeOf9) ?_
    refine LW.v rfl rfl (Val.load rfl Try.isAgg9 (by repeat (first | exact .here | exact .inner .here | exact .inner (.inner .here) | refine .there ?_)) (by rfl)) ?_
    refine LW.v rfl rfl (Val.eqStr rfl rfl) ?_
    refine LW.v rfl rfl (Val.pick_t rfl rfl) ?_
    refine LW.v rfl rfl (Val.pick_f rfl rfl) ?_
    refine LW.nil ?_
    refine PQ.seq ?_
    refine CW.cond rfl (fun h24 => ?_) (fun h24 => ?_)
    · replace h24 := bT h24
      refine CW.seq ?_
      refine CW.region ?_
      refine LW.v rfl rfl (Val.assign rfl) ?_
      refine LW.nil ?_
      refine PQ.seq ?_
      refine CW.ret ?_
      refine PQ.then_ret ?_
      refine PQ.ret1 rfl rfl ?_
      intro w' hw; exact ⟨by unfold shB; simp_all, hw.below⟩
    · replace h24 := bF h24
      refine CW.skip ?_
      refine PQ.seq ?_
      refine CW.seq ?_
      refine CW.seq ?_
      refine CW.region ?_
      refine LW.v rfl rfl (Val.fieldAddr 0 rfl Try.underlying38 rfl rfl Try.sizeOf3) ?_
      refine LW.v rfl rfl (Val.load rfl Try.isAgg3 (by repeat (first | exact .here | exact .inner .here | exact .inner (.inner .here) | refine .there ?_)) (by rfl)) ?_
      refine LW.v rfl rfl (Val.cmp rfl rfl rfl) ?_
      refine LW.re 27 (.bool true) rfl (by rfl) ?_
      refine LW.nil ?_
      refine PQ.seq ?_
      refine CW.cond_t rfl ?_
      refine CW.seq ?_
      refine CW.region ?_
      refine LW.v rfl rfl (Val.assign rfl) ?_
      refine LW.nil ?_
      refine PQ.seq ?_
      refine CW.ret ?_
      refine PQ.then_ret ?_
      refine PQ.ret1 rfl rfl ?_
      intro w' hw; exact ⟨by unfold shB; simp_all, hw.below⟩
  · refine V.calls [] Try.func31 rfl Try.ntmps31 (Nat.le_of_ble_eq_true rfl) (V.sat_nil _) ?_
    refine CW.seq ?_
    refine CW.region ?_
    refine LW.e rfl rfl (Eff.boxA rfl) ?_
    intro b1 _
    refine LW.v rfl rfl (Val.assign rfl) ?_
    refine LW.nil ?_
    refine PQ.seq ?_
    refine CW.seq ?_
    refine CW.seq ?_
    refine CW.region ?_
    refine LW.v rfl rfl (Val.fieldAddr 0 rfl Try.underlying38 rfl rfl Try.sizeOf3) ?_
    refine LW.v rfl rfl (Val.load rfl Try.isAgg3 (by repeat (first | exact .here | exact .inner .here | exact .inner (.inner .here) | refine .there ?_)) (by rfl)) ?_
    refine LW.v rfl rfl (Val.cmp rfl rfl rfl) ?_
    refine LW.re 9 (.bool false) rfl (by rfl) ?_
    refine LW.v rfl rfl (Val.move rfl) ?_
    refine LW.v rfl rfl (Val.fieldAddr 0 rfl Try.underlying38 rfl rfl Try.sizeOf3) ?_
    refine LW.v rfl rfl (Val.load rfl Try.isAgg3 (by repeat (first | exact .here | exact .inner .here | exact .inner (.inner .here) | refine .there ?_)) (by rfl)) ?_
    refine LW.v rfl rfl (Val.cmp rfl rfl rfl) ?_
    refine LW.re 13 (.bool false) rfl (by rfl) ?_
    refine LW.v rfl rfl (Val.pick_f rfl rfl) ?_
    refine LW.v rfl rfl (Val.move rfl) ?_
    refine LW.v rfl rfl (Val.fieldAddr 0 rfl Try.underlying38 rfl rfl Try.sizeOf3) ?_
    refine LW.v rfl rfl (Val.load rfl Try.isAgg3 (by repeat (first | exact .here | exact .inner .here | exact .inner (.inner .here) | refine .there ?_)) (by rfl)) ?_
    refine LW.e rfl rfl (Eff.callV rfl Try.call52 (fun w hw => keyed_c 3 w)) ?_
    intro _ _
    refine LW.re 18 (.bool true) rfl (by rfl) ?_
    refine LW.v rfl rfl (Val.move rfl) ?_
    refine LW.v rfl rfl (Val.fieldAddr 1 rfl Try.underlying38 rfl rfl Try.sizeOf9) ?_
    refine LW.v rfl rfl (Val.load rfl Try.isAgg9 (by repeat (first | exact .here | exact .inner .here | exact .inner (.inner .here) | refine .there ?_)) (by rfl)) ?_
    refine LW.v rfl rfl (Val.eqStr rfl rfl) ?_
    refine LW.v rfl rfl (Val.pick_t rfl rfl) ?_
    refine LW.v rfl rfl (Val.pick_f rfl rfl) ?_
    refine LW.nil ?_
    refine PQ.seq ?_
    refine CW.cond rfl (fun h24 => ?_) (fun h24 => ?_)
    · replace h24 := bT h24
      refine CW.seq ?_
      refine CW.region ?_
      refine LW.v rfl rfl (Val.assign rfl) ?_
      refine LW.nil ?_
      refine PQ.seq ?_
      refine CW.ret ?_
      refine PQ.then_ret ?_
      refine PQ.ret1 rfl rfl ?_
      intro w' hw; exact ⟨by unfold shB; simp_all, hw.below⟩
    · replace h24 := bF h24
      refine CW.skip ?_
      refine PQ.seq ?_
      refine CW.seq ?_
      refine CW.seq ?_
      refine CW.region ?_
      refine LW.v rfl rfl (Val.fieldAddr 0 rfl Try.underlying38 rfl rfl Try.sizeOf3) ?_
      refine LW.v rfl rfl (Val.load rfl Try.isAgg3 (by repeat (first | exact .here | exact .inner .here | exact .inner (.inner .here) | refine .there ?_)) (by rfl)) ?_
      refine LW.v rfl rfl (Val.cmp rfl rfl rfl) ?_
      refine LW.re 27 (.bool true) rfl (by rfl) ?_
      refine LW.nil ?_
      refine PQ.seq ?_
      refine CW.cond_t rfl ?_
      refine CW.seq ?_
      refine CW.region ?_
      refine LW.v rfl rfl (Val.assign rfl) ?_
      refine LW.nil ?_
      refine PQ.seq ?_
      refine CW.ret ?_
      refine PQ.then_ret ?_
      refine PQ.ret1 rfl rfl ?_
      intro w' hw; exact ⟨by unfold shB; simp_all, hw.below⟩
  · refine V.calls [] Try.func31 rfl Try.ntmps31 (Nat.le_of_ble_eq_true rfl) (V.sat_nil _) ?_
    refine CW.seq ?_
    refine CW.region ?_
    refine LW.e rfl rfl (Eff.boxA rfl) ?_
    intro b1 _
    refine LW.v rfl rfl (Val.assign rfl) ?_
    refine LW.nil ?_
    refine PQ.seq ?_
    refine CW.seq ?_
    refine CW.seq ?_
    refine CW.region ?_
    refine LW.v rfl rfl (Val.fieldAddr 0 rfl Try.underlying38 rfl rfl Try.sizeOf3) ?_
    refine LW.v rfl rfl (Val.load rfl Try.isAgg3 (by repeat (first | exact .here | exact .inner .here | exact .inner (.inner .here) | refine .there ?_)) (by rfl)) ?_
    refine LW.v rfl rfl (Val.cmp rfl rfl rfl) ?_
    refine LW.re 9 (.bool false) rfl (by rfl) ?_
    refine LW.v rfl rfl (Val.move rfl) ?_
    refine LW.v rfl rfl (Val.fieldAddr 0 rfl Try.underlying38 rfl rfl Try.sizeOf3) ?_
    refine LW.v rfl rfl (Val.load rfl Try.isAgg3 (by repeat (first | exact .here | exact .inner .here | exact .inner (.inner .here) | refine .there ?_)) (by rfl)) ?_
    refine LW.v rfl rfl (Val.cmp rfl rfl rfl) ?_
    refine LW.re 13 (.bool false) rfl (by rfl) ?_
    refine LW.v rfl rfl (Val.pick_f rfl rfl) ?_
    refine LW.v rfl rfl (Val.move rfl) ?_
    refine LW.v rfl rfl (Val.fieldAddr 0 rfl Try.underlying38 rfl rfl Try.sizeOf3) ?_
    refine LW.v rfl rfl (Val.load rfl Try.isAgg3 (by repeat (first | exact .here | exact .inner .here | exact .inner (.inner .here) | refine .there ?_)) (by rfl)) ?_
    refine LW.e rfl rfl (Eff.callV rfl Try.call52 (fun w hw => keyed_c 4 w)) ?_
    intro _ _
    refine LW.re 18 (.bool false) rfl (by rfl) ?_
    refine LW.v rfl rfl (Val.move rfl) ?_
    refine LW.p rfl rfl ?_
    refine LW.p rfl rfl ?_
    refine LW.p rfl rfl ?_
    refine LW.v rfl rfl (Val.pick_f rfl rfl) ?_
    refine LW.v rfl rfl (Val.pick_f rfl rfl) ?_
    refine LW.nil ?_
    refine PQ.seq ?_
    refine CW.cond_f rfl ?_
    refine CW.skip ?_
    refine PQ.seq ?_
    refine CW.seq ?_
    refine CW.seq ?_
    refine CW.region ?_
    refine LW.v rfl rfl (Val.fieldAddr 0 rfl Try.underlying38 rfl rfl Try.sizeOf3) ?_
    refine LW.v rfl rfl (Val.load rfl Try.isAgg3 (by repeat (first | exact .here | exact .inner .here | exact .inner (.inner .here) | refine .there ?_)) (by rfl)) ?_
    refine LW.v rfl rfl (Val.cmp rfl rfl rfl) ?_
    refine LW.re 27 (.bool true) rfl (by rfl) ?_
    refine LW.nil ?_
    refine PQ.seq ?_
    refine CW.cond_t rfl ?_
    refine CW.seq ?_
    refine CW.region ?_
    refine LW.v rfl rfl (Val.assign rfl) ?_
    refine LW.nil ?_
    refine PQ.seq ?_
    refine CW.ret ?_
    refine PQ.then_ret ?_
    refine PQ.ret1 rfl rfl ?_
    intro w' hw; exact ⟨by unfold shB; simp_all, hw.below⟩
  · refine V.calls [] Try.func31 rfl Try.ntmps31 (Nat.le_of_ble_eq_true rfl) (V.sat_nil _) ?_
    refine CW.seq ?_
    refine CW.region ?_
    refine LW.e rfl rfl (Eff.boxA rfl) ?_
    intro b1 _
    refine LW.v rfl rfl (Val.assign rfl) ?_
    refine LW.nil ?_
    refine PQ.seq ?_
    refine CW.seq ?_
    refine CW.seq ?_
    refine CW.region ?_
    refine LW.v rfl rfl (Val.fieldAddr 0 rfl Try.underlying38 rfl rfl Try.sizeOf3) ?_
    refine LW.v rfl rfl (Val.load rfl Try.isAgg3 (by repeat (first | exact .here | exact .inner .here | exact .inner (.inner .here) | refine .there ?_)) (by rfl)) ?_
    refine LW.v rfl rfl (Val.cmp rfl rfl rfl) ?_
    refine LW.re 9 (.bool false) rfl (by rfl) ?_
    refine LW.v rfl rfl (Val.move rfl) ?_
    refine LW.v rfl rfl (Val.fieldAddr 0 rfl Try.underlying38 rfl rfl Try.sizeOf3) ?_
    refine LW.v rfl rfl (Val.load rfl Try.isAgg3 (by repeat (first | exact .here | exact .inner .here | exact .inner (.inner .here) | refine .there ?_)) (by rfl)) ?_
    refine LW.v rfl rfl (Val.cmp rfl rfl rfl) ?_
    refine LW.re 13 (.bool false) rfl (by rfl) ?_
    refine LW.v rfl rfl (Val.pick_f rfl rfl) ?_
    refine LW.v rfl rfl (Val.move rfl) ?_
    refine LW.v rfl rfl (Val.fieldAddr 0 rfl Try.underlying38 rfl rfl Try.sizeOf3) ?_
    refine LW.v rfl rfl (Val.load rfl Try.isAgg3 (by repeat (first | exact .here | exact .inner .here | exact .inner (.inner .here) | refine .there ?_)) (by rfl)) ?_
    refine LW.e rfl rfl (Eff.callV rfl Try.call52 (fun w hw => keyed_c 5 w)) ?_
    intro _ _
    refine LW.re 18 (.bool false) rfl (by rfl) ?_
    refine LW.v rfl rfl (Val.move rfl) ?_
    refine LW.p rfl rfl ?_
    refine LW.p rfl rfl ?_
    refine LW.p rfl rfl ?_
    refine LW.v rfl rfl (Val.pick_f rfl rfl) ?_
    refine LW.v rfl rfl (Val.pick_f rfl rfl) ?_
    refine LW.nil ?_
    refine PQ.seq ?_
    refine CW.cond_f rfl ?_
    refine CW.skip ?_
    refine PQ.seq ?_
    refine CW.seq ?_
    refine CW.seq ?_
    refine CW.region ?_
    refine LW.v rfl rfl (Val.fieldAddr 0 rfl Try.underlying38 rfl rfl Try.sizeOf3) ?_
    refine LW.v rfl rfl (Val.load rfl Try.isAgg3 (by repeat (first | exact .here | exact .inner .here | exact .inner (.inner .here) | refine .there ?_)) (by rfl)) ?_
    refine LW.v rfl rfl (Val.cmp rfl rfl rfl) ?_
    refine LW.re 27 (.bool true) rfl (by rfl) ?_
    refine LW.nil ?_
    refine PQ.seq ?_
    refine CW.cond_t rfl ?_
    refine CW.seq ?_
    refine CW.region ?_
    refine LW.v rfl rfl (Val.assign rfl) ?_
    refine LW.nil ?_
    refine PQ.seq ?_
    refine CW.ret ?_
    refine PQ.then_ret ?_
    refine PQ.ret1 rfl rfl ?_
    intro w' hw; exact ⟨by unfold shB; simp_all, hw.below⟩
theorem long_c (c : Cl) (hk : K4 c) (w : World) : Calls Try.prog 32 [.agg (clC c).toArray].toArray w fun e w' => e = .returned (.bool (loB c)) ∧ Below w.heap.size w w' := by
  obtain ⟨ck, key, val⟩ := c
  unfold K4 at hk
  simp only at hk
  rcases hk with rfl | rfl | rfl | rfl
  · refine V.calls [] Try.func32 rfl Try.ntmps32 (Nat.le_of_ble_eq_true rfl) (V.sat_nil _) ?_
    refine CW.seq ?_
    refine CW.region ?_
    refine LW.e rfl rfl (Eff.boxA rfl) ?_
    intro b1 _
    refine LW.v rfl rfl (Val.assign rfl) ?_
    refine LW.nil ?_
    refine PQ.seq ?_
    refine CW.seq ?_
    refine CW.seq ?_
    refine CW.region ?_
    refine LW.v rfl rfl (Val.fieldAddr 0 rfl Try.underlying38 rfl rfl Try.sizeOf3) ?_
    refine LW.v rfl rfl (Val.load rfl Try.isAgg3 (by repeat (first | exact .here | exact .inner .here | exact .inner (.inner .here) | refine .there ?_)) (by rfl)) ?_
    refine LW.nil ?_
    refine PQ.seq ?_
    refine CW.block ?_
    refine CW.seq ?_
    refine CW.seq ?_
    refine CW.region ?_
    refine LW.v rfl rfl (Val.cmp rfl rfl rfl) ?_
    refine LW.re 6 (.bool false) rfl (by rfl) ?_
    refine LW.v rfl rfl (Val.assign rfl) ?_
    refine LW.nil ?_
    refine PQ.seq ?_
    refine CW.cond_f rfl ?_
    refine CW.region ?_
    refine LW.v rfl rfl (Val.cmp rfl rfl rfl) ?_
    refine LW.re 7 (.bool false) rfl (by rfl) ?_
    refine LW.v rfl rfl (Val.assign rfl) ?_
    refine LW.nil ?_
    refine PQ.seq ?_
    refine CW.cond_f rfl ?_
    refine CW.seq ?_
    refine CW.region ?_
    refine LW.v rfl rfl (Val.cmp rfl rfl rfl) ?_
    refine LW.re 13 (.bool true) rfl (by rfl) ?_
    refine LW.v rfl rfl (Val.assign rfl) ?_
    refine LW.nil ?_
    refine PQ.seq ?_
    refine CW.cond_t rfl ?_
    refine CW.seq ?_
    refine CW.region ?_
    refine LW.v rfl rfl (Val.fieldAddr 1 rfl Try.underlying38 rfl rfl Try.sizeOf9) ?_
    refine LW.v rfl rfl (Val.load rfl Try.isAgg9 (by repeat (first | exact .here | exact .inner .here | exact .inner (.inner .here) | refine .there ?_)) (by rfl)) ?_
    refine LW.v rfl rfl (Val.lenStr rfl Try.underlying9) ?_
    refine LW.v rfl rfl (Val.cmp rfl rfl rfl) ?_
    refine LW.v rfl rfl (Val.move rfl) ?_
    refine LW.split (d := 18) rfl (fun h18 => ?_) (fun h18 => ?_)
    · replace h18 := bT h18
      have h18 : 16 < (key.length : Int) := h18
      refine LW.p rfl rfl ?_
      refine LW.p rfl rfl ?_
      refine LW.p rfl rfl ?_
      refine LW.p rfl rfl ?_
      refine LW.v rfl rfl (Val.pick_t rfl rfl) ?_
      refine LW.v rfl rfl (Val.assign rfl) ?_
      refine LW.nil ?_
      refine PQ.seq ?_
      refine CW.ret ?_
      refine PQ.in_ret ?_
      refine PQ.then_ret ?_
      refine PQ.ret1 rfl rfl ?_
      intro w' hw; exact ⟨by unfold loB; first | (simp_all; done) | (simp_all; omega) | (congr 2; rw [Bool.eq_iff_iff]; simp; omega), hw.below⟩
    · replace h18 := bF h18
      have h18 : (key.length : Int) ≤ 16 := h18
      refine LW.v rfl rfl (Val.fieldAddr 2 rfl Try.underlying38 rfl rfl Try.sizeOf9) ?_
      refine LW.v rfl rfl (Val.load rfl Try.isAgg9 (by repeat (first | exact .here | exact .inner .here | exact .inner (.inner .here) | refine .there ?_)) (by rfl)) ?_
      refine LW.v rfl rfl (Val.lenStr rfl Try.underlying9) ?_
      refine LW.v rfl rfl (Val.cmp rfl rfl rfl) ?_
      refine LW.v rfl rfl (Val.pick_f rfl rfl) ?_
      refine LW.v rfl rfl (Val.assign rfl) ?_
      refine LW.nil ?_
      refine PQ.seq ?_
      refine CW.ret ?_
      refine PQ.in_ret ?_
      refine PQ.then_ret ?_
      refine PQ.ret1 rfl rfl ?_
      intro w' hw; exact ⟨by unfold loB; first | (simp_all; done) | (simp_all; omega) | (congr 2; rw [Bool.eq_iff_iff]; simp; omega), hw.below⟩
  · refine V.calls [] Try.func32 rfl Try.ntmps32 (Nat.le_of_ble_eq_true rfl) (V.sat_nil _) ?_
    refine CW.seq ?_
    refine CW.region ?_
    refine LW.e rfl rfl (Eff.boxA rfl) ?_
    intro b1 _
    refine LW.v rfl rfl (Val.assign rfl) ?_
    refine LW.nil ?_
    refine PQ.seq ?_
    refine CW.seq ?_
    refine CW.seq ?_
    refine CW.region ?_
    refine LW.v rfl rfl (Val.fieldAddr 0 rfl Try.underlying38 rfl rfl Try.sizeOf3) ?_
    refine LW.v rfl rfl (Val.load rfl Try.isAgg3 (by repeat (first | exact .here | exact .inner .here | exact .inner (.inner .here) | refine .there ?_)) (by rfl)) ?_
    refine LW.nil ?_
    refine PQ.seq ?_
    refine CW.block ?_
    refine CW.seq ?_
    refine CW.seq ?_
    refine CW.region ?_
    refine LW.v rfl rfl (Val.cmp rfl rfl rfl) ?_
    refine LW.re 6 (.bool false) rfl (by rfl) ?_
    refine LW.v rfl rfl (Val.assign rfl) ?_
    refine LW.nil ?_
    refine PQ.seq ?_
    refine CW.cond_f rfl ?_
    refine CW.region ?_
    refine LW.v rfl rfl (Val.cmp rfl rfl rfl) ?_
    refine LW.re 7 (.bool true) rfl (by rfl) ?_
    refine LW.v rfl rfl (Val.assign rfl) ?_
    refine LW.nil ?_
    refine PQ.seq ?_
    refine CW.cond_t rfl ?_
    refine CW.seq ?_
    refine CW.region ?_
    refine LW.v rfl rfl (Val.fieldAddr 1 rfl Try.underlying38 rfl rfl Try.sizeOf9) ?_
    refine LW.v rfl rfl (Val.load rfl Try.isAgg9 (by repeat (first | exact .here | exact .inner .here | exact .inner (.inner .here) | refine .there ?_)) (by rfl)) ?_
    refine LW.v rfl rfl (Val.lenStr rfl Try.underlying9) ?_
    refine LW.v rfl rfl (Val.cmp rfl rfl rfl) ?_
    refine LW.v rfl rfl (Val.assign rfl) ?_
    refine LW.nil ?_
    refine PQ.seq ?_
    refine CW.ret ?_
    refine PQ.in_ret ?_
    refine PQ.then_ret ?_
    refine PQ.ret1 rfl rfl ?_
    intro w' hw; exact ⟨by unfold loB; first | (simp_all; done) | (simp_all; omega) | (congr 2; rw [Bool.eq_iff_iff]; simp; omega), hw.below⟩
  · refine V.calls [] Try.func32 rfl Try.ntmps32 (Nat.le_of_ble_eq_true rfl) (V.sat_nil _) ?_
    refine CW.seq ?_
    refine CW.region ?_
    refine LW.e rfl rfl (Eff.boxA rfl) ?_
    intro b1 _
    refine LW.v rfl rfl (Val.assign rfl) ?_
    refine LW.nil ?_
    refine PQ.seq ?_
    refine CW.seq ?_
    refine CW.seq ?_
    refine CW.region ?_
    refine LW.v rfl rfl (Val.fieldAddr 0 rfl Try.underlying38 rfl rfl Try.sizeOf3) ?_
    refine LW.v rfl rfl (Val.load rfl Try.isAgg3 (by repeat (first | exact .here | exact .inner .here | exact .inner (.inner .here) | refine .there ?_)) (by rfl)) ?_
    refine LW.nil ?_
    refine PQ.seq ?_
    refine CW.block ?_
    refine CW.seq ?_
    refine CW.seq ?_
    refine CW.region ?_
    refine LW.v rfl rfl (Val.cmp rfl rfl rfl) ?_
    refine LW.re 6 (.bool false) rfl (by rfl) ?_
    refine LW.v rfl rfl (Val.assign rfl) ?_
    refine LW.nil ?_
    refine PQ.seq ?_
    refine CW.cond_f rfl ?_
    refine CW.region ?_
    refine LW.v rfl rfl (Val.cmp rfl rfl rfl) ?_
    refine LW.re 7 (.bool false) rfl (by rfl) ?_
    refine LW.v rfl rfl (Val.assign rfl) ?_
    refine LW.nil ?_
    refine PQ.seq ?_
    refine CW.cond_f rfl ?_
    refine CW.seq ?_
    refine CW.region ?_
    refine LW.v rfl rfl (Val.cmp rfl rfl rfl) ?_
    refine LW.re 13 (.bool false) rfl (by rfl) ?_
    refine LW.v rfl rfl (Val.assign rfl) ?_
    refine LW.nil ?_
    refine PQ.seq ?_
    refine CW.cond_f rfl ?_
    refine CW.seq ?_
    refine CW.region ?_
    refine LW.v rfl rfl (Val.cmp rfl rfl rfl) ?_
    refine LW.re 25 (.bool true) rfl (by rfl) ?_
    refine LW.v rfl rfl (Val.assign rfl) ?_
    refine LW.nil ?_
    refine PQ.seq ?_
    refine CW.cond_t rfl ?_
    refine CW.seq ?_
    refine CW.region ?_
    refine LW.v rfl rfl (Val.fieldAddr 2 rfl Try.underlying38 rfl rfl Try.sizeOf9) ?_
    refine LW.v rfl rfl (Val.load rfl Try.isAgg9 (by repeat (first | exact .here | exact .inner .here | exact .inner (.inner .here) | refine .there ?_)) (by rfl)) ?_
    refine LW.v rfl rfl (Val.lenStr rfl Try.underlying9) ?_
    refine LW.v rfl rfl (Val.cmp rfl rfl rfl) ?_
    refine LW.v rfl rfl (Val.assign rfl) ?_
    refine LW.nil ?_
    refine PQ.seq ?_
    refine CW.ret ?_
    refine PQ.in_ret ?_
    refine PQ.then_ret ?_
    refine PQ.ret1 rfl rfl ?_
    intro w' hw; exact ⟨by unfold loB; first | (simp_all; done) | (simp_all; omega) | (congr 2; rw [Bool.eq_iff_iff]; simp; omega), hw.below⟩
  · refine V.calls [] Try.func32 rfl Try.ntmps32 (Nat.le_of_ble_eq_true rfl) (V.sat_nil _) ?_
    refine CW.seq ?_
    refine CW.region ?_
    refine LW.e rfl rfl (Eff.boxA rfl) ?_
    intro b1 _
    refine LW.v rfl rfl (Val.assign rfl) ?_
    refine LW.nil ?_
    refine PQ.seq ?_
    refine CW.seq ?_
    refine CW.seq ?_
    refine CW.region ?_
    refine LW.v rfl rfl (Val.fieldAddr 0 rfl Try.underlying38 rfl rfl Try.sizeOf3) ?_
    refine LW.v rfl rfl (Val.load rfl Try.isAgg3 (by repeat (first | exact .here | exact .inner .here | exact .inner (.inner .here) | refine .there ?_)) (by rfl)) ?_
    refine LW.nil ?_
    refine PQ.seq ?_
    refine CW.block ?_
    refine CW.seq ?_
    refine CW.seq ?_
    refine CW.region ?_
    refine LW.v rfl rfl (Val.cmp rfl rfl rfl) ?_
    refine LW.re 6 (.bool false) rfl (by rfl) ?_
    refine LW.v rfl rfl (Val.assign rfl) ?_
    refine LW.nil ?_
    refine PQ.seq ?_
    refine CW.cond_f rfl ?_
    refine CW.region ?_
    refine LW.v rfl rfl (Val.cmp rfl rfl rfl) ?_
    refine LW.re 7 (.bool false) rfl (by rfl) ?_
    refine LW.v rfl rfl (Val.assign rfl) ?_
    refine LW.nil ?_
    refine PQ.seq ?_
    refine CW.cond_f rfl ?_
    refine CW.seq ?_
    refine CW.region ?_
    refine LW.v rfl rfl (Val.cmp rfl rfl rfl) ?_
    refine LW.re 13 (.bool false) rfl (by rfl) ?_
    refine LW.v rfl rfl (Val.assign rfl) ?_
    refine LW.nil ?_
    refine PQ.seq ?_
    refine CW.cond_f rfl ?_
    refine CW.seq ?_
    refine CW.region ?_
    refine LW.v rfl rfl (Val.cmp rfl rfl rfl) ?_
    refine LW.re 25 (.bool false) rfl (by rfl) ?_
    refine LW.v rfl rfl (Val.assign rfl) ?_
    refine LW.nil ?_
    refine PQ.seq ?_
    refine CW.cond_f rfl ?_
    refine CW.seq ?_
    refine CW.region ?_
    refine LW.v rfl rfl (Val.cmp rfl rfl rfl) ?_
    refine LW.re 31 (.bool false) rfl (by rfl) ?_
    refine LW.v rfl rfl (Val.assign rfl) ?_
    refine LW.nil ?_
    refine PQ.seq ?_
    refine CW.cond_f rfl ?_
    refine CW.seq ?_
    refine CW.region ?_
    refine LW.v rfl rfl (Val.cmp rfl rfl rfl) ?_
    refine LW.re 43 (.bool false) rfl (by rfl) ?_
    refine LW.v rfl rfl (Val.assign rfl) ?_
    refine LW.nil ?_
    refine PQ.seq ?_
    refine CW.cond_f rfl ?_
    refine CW.skip ?_
    refine PQ.in_normal ?_
    refine PQ.seq ?_
    refine CW.seq ?_
    refine CW.region ?_
    refine LW.v rfl rfl (Val.assign rfl) ?_
    refine LW.nil ?_
    refine PQ.seq ?_
    refine CW.ret ?_
    refine PQ.ret1 rfl rfl ?_
    intro w' hw; exact ⟨by unfold loB; first | (simp_all; done) | (simp_all; omega) | (congr 2; rw [Bool.eq_iff_iff]; simp; omega), hw.below⟩
theorem good_c (c : Cl) (hk : K4 c) (w : World) : Calls Try.prog 19 [.agg (clC c).toArray].toArray w fun e w' => e = .returned (.int .i64 (gdF c)) ∧ Below w.heap.size w w' := by
  refine V.calls [] Try.func19 rfl Try.ntmps19 (Nat.le_of_ble_eq_true rfl) (V.sat_nil _) ?_
  refine CW.seq ?_
  refine CW.region ?_
  refine LW.e rfl rfl (Eff.boxA rfl) ?_
  intro b1 _
  refine LW.v rfl rfl (Val.assign rfl) ?_
  refine LW.nil ?_
  refine PQ.seq ?_
  refine CW.seq ?_
  refine CW.seq ?_
  refine CW.region ?_
  refine LW.v rfl rfl (Val.loadW (l := clC c) rfl Try.isAgg38 (by repeat (first | exact .here | exact .inner .here | exact .inner (.inner .here) | refine .there ?_)) (by exact Try.sizeOf38)) ?_
  refine LW.e rfl rfl (Eff.callV rfl Try.call31 (fun w hw => shape_c c hk w)) ?_
  intro _ _
  refine LW.v rfl rfl (Val.not rfl) ?_
  refine LW.nil ?_
  refine PQ.seq ?_
  refine CW.cond rfl (fun h5 => ?_) (fun h5 => ?_)
  · replace h5 := bT h5
    refine CW.seq ?_
    refine CW.region ?_
    refine LW.v rfl rfl (Val.assign rfl) ?_
    refine LW.nil ?_
    refine PQ.seq ?_
    refine CW.ret ?_
    refine PQ.then_ret ?_
    refine PQ.ret1 rfl rfl ?_
    intro w' hw; exact ⟨by unfold gdF; simp_all, hw.below⟩
  · replace h5 := bF h5
    refine CW.skip ?_
    refine PQ.seq ?_
    refine CW.seq ?_
    refine CW.seq ?_
    refine CW.region ?_
    refine LW.v rfl rfl (Val.loadW (l := clC c) rfl Try.isAgg38 (by repeat (first | exact .here | exact .inner .here | exact .inner (.inner .here) | refine .there ?_)) (by exact Try.sizeOf38)) ?_
    refine LW.e rfl rfl (Eff.callV rfl Try.call32 (fun w hw => long_c c hk w)) ?_
    intro _ _
    refine LW.nil ?_
    refine PQ.seq ?_
    refine CW.cond rfl (fun h7 => ?_) (fun h7 => ?_)
    · replace h7 := bT h7
      refine CW.seq ?_
      refine CW.region ?_
      refine LW.v rfl rfl (Val.assign rfl) ?_
      refine LW.nil ?_
      refine PQ.seq ?_
      refine CW.ret ?_
      refine PQ.then_ret ?_
      refine PQ.ret1 rfl rfl ?_
      intro w' hw; exact ⟨by unfold gdF; simp_all, hw.below⟩
    · replace h7 := bF h7
      refine CW.skip ?_
      refine PQ.seq ?_
      refine CW.seq ?_
      refine CW.region ?_
      refine LW.v rfl rfl (Val.assign rfl) ?_
      refine LW.nil ?_
      refine PQ.seq ?_
      refine CW.ret ?_
      refine PQ.ret1 rfl rfl ?_
      intro w' hw; exact ⟨by unfold gdF; simp_all, hw.below⟩
end Go.Proofs.Ytipnpnkniihdjaa
