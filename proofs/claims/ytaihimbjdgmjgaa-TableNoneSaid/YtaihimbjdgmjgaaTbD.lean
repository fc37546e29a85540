/- TableNone: the calls of no table; the walk of the law. -/
import Derived.Test.YtaihimbjdgmjgaaTbB
import Derived.Test.YtaihimbjdgmjgaaV14
import Derived.Lib.Hide
namespace Go.Proofs.Ytaihimbjdgmjgaa
open Go Go.RowKit V
set_option linter.unusedVariables false
set_option maxRecDepth 100000
theorem ofNil_c (k : ByteArray) (w : World) : Calls Try.prog 50 [.pointer none, .string k].toArray w fun e w' => e = .returned (.map none) ∧ Below w.heap.size w w' := by
  refine V.calls [] Try.func50 rfl Try.ntmps50 (Nat.le_of_ble_eq_true rfl) (V.sat_nil _) ?_
  refine CW.seq ?_
  refine CW.region ?_
  refine LW.v rfl rfl (Val.assign rfl) ?_
  refine LW.nil ?_
  refine PQ.seq ?_
  refine CW.seq ?_
  refine CW.seq ?_
  refine CW.region ?_
  refine LW.v rfl rfl (Val.move rfl) ?_
  refine LW.v rfl rfl (Val.eqP true rfl rfl Try.underlying39 (.inr ⟨rfl, rfl⟩)) ?_
  refine LW.nil ?_
  refine PQ.seq ?_
  refine CW.cond_t rfl ?_
  refine CW.seq ?_
  refine CW.region ?_
  refine LW.v rfl rfl (Val.assign rfl) ?_
  refine LW.nil ?_
  refine PQ.seq ?_
  refine CW.ret ?_
  refine PQ.then_ret ?_
  refine PQ.ret1 rfl rfl ?_
  intro w' hw; exact ⟨rfl, hw.below⟩
theorem getNil_c (k : ByteArray) (w : World) : Calls Try.prog 18 [.pointer none, .string k].toArray w fun e w' => e = .returned (.tuple #[lkV lk0, .bool false]) ∧ Below w.heap.size w w' := by
  refine V.calls [] Try.func18 rfl Try.ntmps18 (Nat.le_of_ble_eq_true rfl) (V.sat_nil _) ?_
  refine CW.seq ?_
  refine CW.region ?_
  refine LW.e rfl rfl (Eff.allocA (by exact Try.zeroValue44)) ?_
  intro b4 _
  refine LW.v rfl rfl (Val.assign rfl) ?_
  refine LW.nil ?_
  refine PQ.seq ?_
  refine CW.seq ?_
  refine CW.region ?_
  refine LW.v rfl rfl (Val.move rfl) ?_
  refine LW.v rfl rfl (Val.move rfl) ?_
  refine LW.e rfl rfl (Eff.callV rfl Try.call50 (fun w hw => ofNil_c k w)) ?_
  intro _ _
  refine LW.v rfl rfl (Val.move rfl) ?_
  refine LW.v rfl rfl (Val.lookupNil (z := .agg #[.string ⟨#[]⟩, .int .u64 0, .int .u64 0, .int .i64 0, .int .i64 0]) rfl rfl Try.underlying71 Try.underlying9 (by exact Try.zeroValue44)) ?_
  refine LW.v rfl rfl (Val.move rfl) ?_
  refine LW.v rfl rfl (Val.extract rfl rfl) ?_
  refine LW.v rfl rfl (Val.extract rfl rfl) ?_
  refine LW.e rfl rfl (Eff.allocA (by exact Try.zeroValue44)) ?_
  intro b6 _
  first | (refine LW.eN rfl (Eff.storeW rfl rfl (by repeat (first | exact .here | apply Upd.there)) (by rfl) Try.sizeOf44 (by rfl)) ?_) | (refine LW.eN rfl (Eff.storeA (l' := _) rfl rfl (by repeat (first | exact .here | apply Upd.there)) (by rfl) (by decide) Try.sizeOf44 (by rfl)) ?_)
  intro _ _
  refine LW.v rfl rfl (Val.assign rfl) ?_
  refine LW.nil ?_
  refine PQ.seq ?_
  refine CW.seq ?_
  refine CW.region ?_
  first | (refine LW.v rfl rfl (Val.loadW rfl Try.isAgg44 (by repeat (first | exact .here | refine .there ?_)) (by exact Try.sizeOf44)) ?_) | (refine LW.v rfl rfl (Val.loadA [_, _, _, _, _] rfl Try.isAgg44 (by repeat (first | exact .here | refine .there ?_)) (by rfl) Try.sizeOf44) ?_)
  refine LW.v rfl rfl (Val.move rfl) ?_
  first | (refine LW.eN rfl (Eff.storeW rfl rfl (by repeat (first | exact .here | apply Upd.there)) (by rfl) Try.sizeOf44 (by rfl)) ?_) | (refine LW.eN rfl (Eff.storeA (l' := _) rfl rfl (by repeat (first | exact .here | apply Upd.there)) (by rfl) (by decide) Try.sizeOf44 (by rfl)) ?_)
  intro _ _
  refine LW.v rfl rfl (Val.assign rfl) ?_
  refine LW.nil ?_
  refine PQ.seq ?_
  refine CW.ret ?_
  refine PQ.retCT rfl rfl rfl (by repeat (first | exact .here | refine .there ?_)) Try.isAgg44 (by exact Try.sizeOf44) ?_
  intro w' hw; exact ⟨rfl, hw.below⟩
theorem dropNil_c (k : ByteArray) (w : World) : Calls Try.prog 33 [.pointer none, .string k].toArray w fun e w' => e = .returned (.tuple #[lkV lk0, .bool false]) ∧ Below w.heap.size w w' := by
  refine V.calls [] Try.func33 rfl Try.ntmps33 (Nat.le_of_ble_eq_true rfl) (V.sat_nil _) ?_
  refine CW.seq ?_
  refine CW.region ?_
  refine LW.e rfl rfl (Eff.allocA (by exact Try.zeroValue44)) ?_
  intro b4 _
  refine LW.v rfl rfl (Val.assign rfl) ?_
  refine LW.nil ?_
  refine PQ.seq ?_
  refine CW.seq ?_
  refine CW.region ?_
  refine LW.v rfl rfl (Val.move rfl) ?_
  refine LW.v rfl rfl (Val.move rfl) ?_
  refine LW.e rfl rfl (Eff.callV rfl Try.call50 (fun w hw => ofNil_c k w)) ?_
  intro _ _
  refine LW.v rfl rfl (Val.assign rfl) ?_
  refine LW.nil ?_
  refine PQ.seq ?_
  refine CW.seq ?_
  refine CW.region ?_
  refine LW.v rfl rfl (Val.move rfl) ?_
  refine LW.v rfl rfl (Val.move rfl) ?_
  refine LW.v rfl rfl (Val.lookupNil (z := .agg #[.string ⟨#[]⟩, .int .u64 0, .int .u64 0, .int .i64 0, .int .i64 0]) rfl rfl Try.underlying71 Try.underlying9 (by exact Try.zeroValue44)) ?_
  refine LW.v rfl rfl (Val.move rfl) ?_
  refine LW.v rfl rfl (Val.extract rfl rfl) ?_
  refine LW.v rfl rfl (Val.extract rfl rfl) ?_
  refine LW.e rfl rfl (Eff.allocA (by exact Try.zeroValue44)) ?_
  intro b7 _
  first | (refine LW.eN rfl (Eff.storeW rfl rfl (by repeat (first | exact .here | apply Upd.there)) (by rfl) Try.sizeOf44 (by rfl)) ?_) | (refine LW.eN rfl (Eff.storeA (l' := _) rfl rfl (by repeat (first | exact .here | apply Upd.there)) (by rfl) (by decide) Try.sizeOf44 (by rfl)) ?_)
  intro _ _
  refine LW.v rfl rfl (Val.assign rfl) ?_
  refine LW.nil ?_
  refine PQ.seq ?_
  refine CW.seq ?_
  refine CW.region ?_
  refine LW.v rfl rfl (Val.move rfl) ?_
  refine LW.v rfl rfl (Val.move rfl) ?_
  refine LW.eN rfl (Eff.ofVal (Val.deleteNil rfl rfl Try.underlying71 Try.underlying9)) ?_
  intro _ _
  refine LW.nil ?_
  refine PQ.seq ?_
  refine CW.seq ?_
  refine CW.region ?_
  first | (refine LW.v rfl rfl (Val.loadW rfl Try.isAgg44 (by repeat (first | exact .here | refine .there ?_)) (by exact Try.sizeOf44)) ?_) | (refine LW.v rfl rfl (Val.loadA [_, _, _, _, _] rfl Try.isAgg44 (by repeat (first | exact .here | refine .there ?_)) (by rfl) Try.sizeOf44) ?_)
  refine LW.v rfl rfl (Val.move rfl) ?_
  first | (refine LW.eN rfl (Eff.storeW rfl rfl (by repeat (first | exact .here | apply Upd.there)) (by rfl) Try.sizeOf44 (by rfl)) ?_) | (refine LW.eN rfl (Eff.storeA (l' := _) rfl rfl (by repeat (first | exact .here | apply Upd.there)) (by rfl) (by decide) Try.sizeOf44 (by rfl)) ?_)
  intro _ _
  refine LW.v rfl rfl (Val.assign rfl) ?_
  refine LW.nil ?_
  refine PQ.seq ?_
  refine CW.ret ?_
  refine PQ.retCT rfl rfl rfl (by repeat (first | exact .here | refine .there ?_)) Try.isAgg44 (by exact Try.sizeOf44) ?_
  intro w' hw; exact ⟨rfl, hw.below⟩
theorem setNil_c (x : Lk) (w : World) : Calls Try.prog 31 [.pointer none, lkV x].toArray w fun e w' => e = .returned (.bool false) ∧ Below w.heap.size w w' := by
  refine V.calls [] Try.func31 rfl Try.ntmps31 (Nat.le_of_ble_eq_true rfl) (V.sat_nil _) ?_
  refine CW.seq ?_
  refine CW.region ?_
  refine LW.e rfl rfl (Eff.boxA rfl) ?_
  intro b3 _
  refine LW.v rfl rfl (Val.assign rfl) ?_
  refine LW.nil ?_
  refine PQ.seq ?_
  refine CW.seq ?_
  refine CW.region ?_
  refine LW.v rfl rfl (Val.move rfl) ?_
  refine LW.v rfl rfl (Val.fieldAddr 0 rfl Try.underlying44 rfl rfl Try.sizeOf9) ?_
  refine LW.v rfl rfl (Val.load rfl Try.isAgg9 (by repeat (first | exact .here | refine .there ?_)) (by rfl)) ?_
  refine LW.e rfl rfl (Eff.callV rfl Try.call50 (fun w hw => ofNil_c x.key w)) ?_
  intro _ _
  refine LW.v rfl rfl (Val.assign rfl) ?_
  refine LW.nil ?_
  refine PQ.seq ?_
  refine CW.seq ?_
  refine CW.seq ?_
  refine CW.region ?_
  refine LW.v rfl rfl (Val.move rfl) ?_
  refine LW.v rfl rfl (Val.eqM rfl rfl Try.underlying71) ?_
  refine LW.nil ?_
  refine PQ.seq ?_
  refine CW.cond_t rfl ?_
  refine CW.seq ?_
  refine CW.region ?_
  refine LW.v rfl rfl (Val.assign rfl) ?_
  refine LW.nil ?_
  refine PQ.seq ?_
  refine CW.ret ?_
  refine PQ.then_ret ?_
  refine PQ.ret1 rfl rfl ?_
  intro w' hw; exact ⟨rfl, hw.below⟩
theorem nextNil_c (b : Int) (k : ByteArray) (p : Bool) (w : World) : Calls Try.prog 17 [.pointer none, .int .i64 b, .string k, .bool p].toArray w fun e w' => e = .returned (.tuple #[lkV lk0, .bool false]) ∧ Below w.heap.size w w' := by
  refine V.calls [] Try.func17 rfl Try.ntmps17 (Nat.le_of_ble_eq_true rfl) (V.sat_nil _) ?_
  refine CW.seq ?_
  refine CW.region ?_
  refine LW.e rfl rfl (Eff.allocA (by exact Try.zeroValue44)) ?_
  intro b8 _
  refine LW.v rfl rfl (Val.assign rfl) ?_
  refine LW.nil ?_
  refine PQ.seq ?_
  refine CW.seq ?_
  refine CW.seq ?_
  refine CW.region ?_
  refine LW.v rfl rfl (Val.move rfl) ?_
  refine LW.v rfl rfl (Val.eqP true rfl rfl Try.underlying39 (.inr ⟨rfl, rfl⟩)) ?_
  refine LW.v rfl rfl (Val.move rfl) ?_
  refine LW.p rfl rfl ?_
  refine LW.p rfl rfl ?_
  refine LW.v rfl rfl (Val.pick_t rfl rfl) ?_
  refine LW.v rfl rfl (Val.move rfl) ?_
  refine LW.p rfl rfl ?_
  refine LW.p rfl rfl ?_
  refine LW.v rfl rfl (Val.pick_t rfl rfl) ?_
  refine LW.nil ?_
  refine PQ.seq ?_
  refine CW.cond_t rfl ?_
  refine CW.seq ?_
  refine CW.region ?_
  refine LW.v rfl rfl (Val.build [_, _, _, _, _] Try.zeroValue44 Try.underlying44 places44 rfl (by rfl)) ?_
  first | (refine LW.eN rfl (Eff.storeW rfl rfl (by repeat (first | exact .here | apply Upd.there)) (by rfl) Try.sizeOf44 (by rfl)) ?_) | (refine LW.eN rfl (Eff.storeA (l' := _) rfl rfl (by repeat (first | exact .here | apply Upd.there)) (by rfl) (by decide) Try.sizeOf44 (by rfl)) ?_)
  intro _ _
  refine LW.v rfl rfl (Val.assign rfl) ?_
  refine LW.nil ?_
  refine PQ.seq ?_
  refine CW.ret ?_
  refine PQ.then_ret ?_
  refine PQ.retCT rfl rfl rfl (by repeat (first | exact .here | refine .there ?_)) Try.isAgg44 (by exact Try.sizeOf44) ?_
  intro w' hw; exact ⟨rfl, hw.below⟩
theorem allNil_c (w : World) : Calls Try.prog 15 [.pointer none].toArray w fun e w' => e = .returned (.slice none 0 0) ∧ Below w.heap.size w w' := by
  refine V.calls [] Try.func15 rfl Try.ntmps15 (Nat.le_of_ble_eq_true rfl) (V.sat_nil _) ?_
  refine CW.seq ?_
  refine CW.region ?_
  refine LW.v rfl rfl (Val.assign rfl) ?_
  refine LW.nil ?_
  refine PQ.seq ?_
  refine CW.seq ?_
  refine CW.region ?_
  refine LW.v rfl rfl (Val.assign rfl) ?_
  refine LW.nil ?_
  refine PQ.seq ?_
  refine CW.seq ?_
  refine CW.seq ?_
  refine CW.region ?_
  refine LW.v rfl rfl (Val.move rfl) ?_
  refine LW.v rfl rfl (Val.eqP true rfl rfl Try.underlying39 (.inr ⟨rfl, rfl⟩)) ?_
  refine LW.nil ?_
  refine PQ.seq ?_
  refine CW.cond_t rfl ?_
  refine CW.seq ?_
  refine CW.region ?_
  refine LW.v rfl rfl (Val.move rfl) ?_
  refine LW.v rfl rfl (Val.assign rfl) ?_
  refine LW.nil ?_
  refine PQ.seq ?_
  refine CW.ret ?_
  refine PQ.then_ret ?_
  refine PQ.ret1 rfl rfl ?_
  intro w' hw; exact ⟨rfl, hw.below⟩
theorem lenNil_c (w : World) : Calls Try.prog 16 [.pointer none].toArray w fun e w' => e = .returned (.int .i64 0) ∧ Below w.heap.size w w' := by
  refine V.calls [] Try.func16 rfl Try.ntmps16 (Nat.le_of_ble_eq_true rfl) (V.sat_nil _) ?_
  refine CW.seq ?_
  refine CW.region ?_
  refine LW.v rfl rfl (Val.assign rfl) ?_
  refine LW.nil ?_
  refine PQ.seq ?_
  refine CW.seq ?_
  refine CW.region ?_
  refine LW.v rfl rfl (Val.assign rfl) ?_
  refine LW.nil ?_
  refine PQ.seq ?_
  refine CW.seq ?_
  refine CW.seq ?_
  refine CW.region ?_
  refine LW.v rfl rfl (Val.move rfl) ?_
  refine LW.v rfl rfl (Val.neP true rfl rfl Try.underlying39 (.inr ⟨rfl, rfl⟩)) ?_
  refine LW.nil ?_
  refine PQ.seq ?_
  refine CW.cond_f rfl ?_
  refine CW.skip ?_
  refine PQ.seq ?_
  refine CW.seq ?_
  refine CW.region ?_
  refine LW.v rfl rfl (Val.move rfl) ?_
  refine LW.v rfl rfl (Val.assign rfl) ?_
  refine LW.nil ?_
  refine PQ.seq ?_
  refine CW.ret ?_
  refine PQ.ret1 rfl rfl ?_
  intro w' hw; exact ⟨rfl, hw.below⟩
theorem tableNone_c (x : Lk) (b : Int) (w : World) : Calls Try.prog 8 [lkV x, .int .i64 b].toArray w fun e w' => e = .returned (.bool true) ∧ Below w.heap.size w w' := by
  refine V.calls [] Try.func8 rfl Try.ntmps8 (Nat.le_of_ble_eq_true rfl) (V.sat_nil _) ?_
  refine CW.seq ?_
  refine CW.region ?_
  refine LW.e rfl rfl (Eff.boxA rfl) ?_
  intro b2 _
  refine LW.v rfl rfl (Val.assign rfl) ?_
  refine LW.nil ?_
  refine PQ.seq ?_
  refine CW.seq ?_
  refine CW.region ?_
  refine LW.v rfl rfl (Val.assign rfl) ?_
  refine LW.nil ?_
  refine PQ.seq ?_
  refine CW.seq ?_
  refine CW.region ?_
  refine LW.v rfl rfl (Val.move rfl) ?_
  refine LW.v rfl rfl (Val.fieldAddr 0 rfl Try.underlying44 rfl rfl Try.sizeOf9) ?_
  refine LW.v rfl rfl (Val.load rfl Try.isAgg9 (by repeat (first | exact .here | refine .there ?_)) (by rfl)) ?_
  refine LW.e rfl rfl (Eff.callV rfl Try.call18 (fun w hw => getNil_c x.key w)) ?_
  intro _ _
  refine LW.v rfl rfl (Val.move rfl) ?_
  refine LW.v rfl rfl (Val.extract rfl rfl) ?_
  refine LW.v rfl rfl (Val.extract rfl rfl) ?_
  refine LW.e rfl rfl (Eff.allocA (by exact Try.zeroValue44)) ?_
  intro b6 _
  first | (refine LW.eN rfl (Eff.storeW rfl rfl (by repeat (first | exact .here | apply Upd.there)) (by rfl) Try.sizeOf44 (by rfl)) ?_) | (refine LW.eN rfl (Eff.storeA (l' := _) rfl rfl (by repeat (first | exact .here | apply Upd.there)) (by rfl) (by decide) Try.sizeOf44 (by rfl)) ?_)
  intro _ _
  refine LW.v rfl rfl (Val.assign rfl) ?_
  refine LW.nil ?_
  refine PQ.seq ?_
  refine CW.seq ?_
  refine CW.region ?_
  refine LW.v rfl rfl (Val.move rfl) ?_
  refine LW.v rfl rfl (Val.fieldAddr 0 rfl Try.underlying44 rfl rfl Try.sizeOf9) ?_
  refine LW.v rfl rfl (Val.load rfl Try.isAgg9 (by repeat (first | exact .here | refine .there ?_)) (by rfl)) ?_
  refine LW.e rfl rfl (Eff.callV rfl Try.call33 (fun w hw => dropNil_c x.key w)) ?_
  intro _ _
  refine LW.v rfl rfl (Val.move rfl) ?_
  refine LW.v rfl rfl (Val.extract rfl rfl) ?_
  refine LW.v rfl rfl (Val.extract rfl rfl) ?_
  refine LW.e rfl rfl (Eff.allocA (by exact Try.zeroValue44)) ?_
  intro b8 _
  first | (refine LW.eN rfl (Eff.storeW rfl rfl (by repeat (first | exact .here | apply Upd.there)) (by rfl) Try.sizeOf44 (by rfl)) ?_) | (refine LW.eN rfl (Eff.storeA (l' := _) rfl rfl (by repeat (first | exact .here | apply Upd.there)) (by rfl) (by decide) Try.sizeOf44 (by rfl)) ?_)
  intro _ _
  refine LW.v rfl rfl (Val.assign rfl) ?_
  refine LW.nil ?_
  refine PQ.seq ?_
  refine CW.seq ?_
  refine CW.region ?_
  refine LW.v rfl rfl (Val.move rfl) ?_
  refine LW.v rfl rfl (Val.move rfl) ?_
  refine LW.v rfl rfl (Val.fieldAddr 0 rfl Try.underlying44 rfl rfl Try.sizeOf9) ?_
  refine LW.v rfl rfl (Val.load rfl Try.isAgg9 (by repeat (first | exact .here | refine .there ?_)) (by rfl)) ?_
  refine LW.e rfl rfl (Eff.callV rfl Try.call17 (fun w hw => nextNil_c b x.key _ w)) ?_
  intro _ _
  refine LW.v rfl rfl (Val.move rfl) ?_
  refine LW.v rfl rfl (Val.extract rfl rfl) ?_
  refine LW.v rfl rfl (Val.extract rfl rfl) ?_
  refine LW.e rfl rfl (Eff.allocA (by exact Try.zeroValue44)) ?_
  intro b10 _
  first | (refine LW.eN rfl (Eff.storeW rfl rfl (by repeat (first | exact .here | apply Upd.there)) (by rfl) Try.sizeOf44 (by rfl)) ?_) | (refine LW.eN rfl (Eff.storeA (l' := _) rfl rfl (by repeat (first | exact .here | apply Upd.there)) (by rfl) (by decide) Try.sizeOf44 (by rfl)) ?_)
  intro _ _
  refine LW.v rfl rfl (Val.assign rfl) ?_
  refine LW.nil ?_
  refine PQ.seq ?_
  refine CW.seq ?_
  refine CW.region ?_
  first | (refine LW.v rfl rfl (Val.loadW rfl Try.isAgg44 (by repeat (first | exact .here | refine .there ?_)) (by exact Try.sizeOf44)) ?_) | (refine LW.v rfl rfl (Val.loadA [_, _, _, _, _] rfl Try.isAgg44 (by repeat (first | exact .here | refine .there ?_)) (by rfl) Try.sizeOf44) ?_)
  refine LW.v rfl rfl (Val.build [_, _, _, _, _] Try.zeroValue44 Try.underlying44 places44 rfl (by rfl)) ?_
  refine LW.v rfl rfl (Val.eqA rfl rfl (by kernel_rfl) Try.underlying44 (by kernel_rfl) (by exact (.str rfl rfl Try.isAgg9 Try.underlying9 (.int rfl rfl Try.isAgg32 Try.underlying32 (.int rfl rfl Try.isAgg32 Try.underlying32 (.int rfl rfl Try.isAgg3 Try.underlying3 (.int rfl rfl Try.isAgg3 Try.underlying3 .nil))))))) ?_
  refine LW.re 36 (.bool true) rfl (by simp [lk0]) ?_
  refine LW.v rfl rfl (Val.move rfl) ?_
  refine LW.v rfl rfl (Val.move rfl) ?_
  refine LW.v rfl rfl (Val.not rfl) ?_
  refine LW.v rfl rfl (Val.pick_t rfl rfl) ?_
  refine LW.v rfl rfl (Val.move rfl) ?_
  first | (refine LW.v rfl rfl (Val.loadW rfl Try.isAgg44 (by repeat (first | exact .here | refine .there ?_)) (by exact Try.sizeOf44)) ?_) | (refine LW.v rfl rfl (Val.loadA [_, _, _, _, _] rfl Try.isAgg44 (by repeat (first | exact .here | refine .there ?_)) (by rfl) Try.sizeOf44) ?_)
  refine LW.v rfl rfl (Val.build [_, _, _, _, _] Try.zeroValue44 Try.underlying44 places44 rfl (by rfl)) ?_
  refine LW.v rfl rfl (Val.eqA rfl rfl (by kernel_rfl) Try.underlying44 (by kernel_rfl) (by exact (.str rfl rfl Try.isAgg9 Try.underlying9 (.int rfl rfl Try.isAgg32 Try.underlying32 (.int rfl rfl Try.isAgg32 Try.underlying32 (.int rfl rfl Try.isAgg3 Try.underlying3 (.int rfl rfl Try.isAgg3 Try.underlying3 .nil))))))) ?_
  refine LW.re 44 (.bool true) rfl (by simp [lk0]) ?_
  refine LW.v rfl rfl (Val.pick_t rfl rfl) ?_
  refine LW.v rfl rfl (Val.move rfl) ?_
  refine LW.v rfl rfl (Val.move rfl) ?_
  refine LW.v rfl rfl (Val.not rfl) ?_
  refine LW.v rfl rfl (Val.pick_t rfl rfl) ?_
  refine LW.v rfl rfl (Val.move rfl) ?_
  first | (refine LW.v rfl rfl (Val.loadW rfl Try.isAgg44 (by repeat (first | exact .here | refine .there ?_)) (by exact Try.sizeOf44)) ?_) | (refine LW.v rfl rfl (Val.loadA [_, _, _, _, _] rfl Try.isAgg44 (by repeat (first | exact .here | refine .there ?_)) (by rfl) Try.sizeOf44) ?_)
  refine LW.v rfl rfl (Val.build [_, _, _, _, _] Try.zeroValue44 Try.underlying44 places44 rfl (by rfl)) ?_
  refine LW.v rfl rfl (Val.eqA rfl rfl (by kernel_rfl) Try.underlying44 (by kernel_rfl) (by exact (.str rfl rfl Try.isAgg9 Try.underlying9 (.int rfl rfl Try.isAgg32 Try.underlying32 (.int rfl rfl Try.isAgg32 Try.underlying32 (.int rfl rfl Try.isAgg3 Try.underlying3 (.int rfl rfl Try.isAgg3 Try.underlying3 .nil))))))) ?_
  refine LW.re 53 (.bool true) rfl (by simp [lk0]) ?_
  refine LW.v rfl rfl (Val.pick_t rfl rfl) ?_
  refine LW.v rfl rfl (Val.move rfl) ?_
  refine LW.v rfl rfl (Val.move rfl) ?_
  refine LW.v rfl rfl (Val.not rfl) ?_
  refine LW.v rfl rfl (Val.pick_t rfl rfl) ?_
  refine LW.v rfl rfl (Val.move rfl) ?_
  refine LW.v rfl rfl (Val.move rfl) ?_
  first | (refine LW.v rfl rfl (Val.loadW rfl Try.isAgg44 (by repeat (first | exact .here | refine .there ?_)) (by exact Try.sizeOf44)) ?_) | (refine LW.v rfl rfl (Val.loadA [_, _, _, _, _] rfl Try.isAgg44 (by repeat (first | exact .here | refine .there ?_)) (by rfl) Try.sizeOf44) ?_)
  refine LW.e rfl rfl (Eff.callV rfl Try.call31 (fun w hw => setNil_c x w)) ?_
  intro _ _
  refine LW.v rfl rfl (Val.not rfl) ?_
  refine LW.v rfl rfl (Val.pick_t rfl rfl) ?_
  refine LW.v rfl rfl (Val.move rfl) ?_
  refine LW.v rfl rfl (Val.move rfl) ?_
  refine LW.e rfl rfl (Eff.callV rfl Try.call15 (fun w hw => allNil_c w)) ?_
  intro _ _
  refine LW.v rfl rfl (Val.lenSl rfl Try.underlying41) ?_
  refine LW.v rfl rfl (Val.cmp rfl rfl rfl) ?_
  refine LW.v rfl rfl (Val.pick_t rfl rfl) ?_
  refine LW.v rfl rfl (Val.move rfl) ?_
  refine LW.v rfl rfl (Val.move rfl) ?_
  refine LW.e rfl rfl (Eff.callV rfl Try.call16 (fun w hw => lenNil_c w)) ?_
  intro _ _
  refine LW.v rfl rfl (Val.cmp rfl rfl rfl) ?_
  refine LW.v rfl rfl (Val.pick_t rfl rfl) ?_
  refine LW.v rfl rfl (Val.move rfl) ?_
  refine LW.e rfl rfl (Eff.callV rfl Try.call13 (fun w hw => awake12_c w)) ?_
  intro _ _
  refine LW.v rfl rfl (Val.pick_t rfl rfl) ?_
  refine LW.v rfl rfl (Val.assign rfl) ?_
  refine LW.nil ?_
  refine PQ.seq ?_
  refine CW.ret ?_
  refine PQ.ret1 rfl rfl ?_
  intro w' hw; exact ⟨rfl, hw.below⟩
end Go.Proofs.Ytaihimbjdgmjgaa
