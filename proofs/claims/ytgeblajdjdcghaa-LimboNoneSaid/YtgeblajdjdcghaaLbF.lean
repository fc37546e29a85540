/- LimboNone: the walk of the law. -/
import Derived.Test.YtgeblajdjdcghaaLbE
import Derived.Lib.Hide
namespace Go.Proofs.Ytgeblajdjdcghaa
open Go Go.RowKit V
set_option linter.unusedVariables false
set_option maxRecDepth 100000
theorem entriesNil_c (w : World) : Calls Try.prog 80 [.pointer none].toArray w fun e w' => ∃ cb : Nat, True ∧ e = .returned (.func (.func 83) #[] #[.pointer (some ⟨cb, 0, none⟩)]) ∧ Hp ⟨w, []⟩ [[(cb, .cells [.pointer none].toArray 76 (0, 0))]] w' := by
  refine V.calls [] Try.func80 rfl Try.ntmps80 (Nat.le_of_ble_eq_true rfl) (V.sat_nil _) ?_
  refine CW.seq ?_
  refine CW.region ?_
  refine LW.e rfl rfl (Eff.boxS rfl rfl) ?_
  intro b1 _
  refine LW.v rfl rfl (Val.assign rfl) ?_
  refine LW.nil ?_
  refine PQ.seq ?_
  refine CW.seq ?_
  refine CW.region ?_
  refine LW.v rfl rfl (Val.makeFunc rfl rfl) ?_
  refine LW.v rfl rfl (Val.assign rfl) ?_
  refine LW.nil ?_
  refine PQ.seq ?_
  refine CW.ret ?_
  refine PQ.ret1 rfl rfl ?_
  intro w' hw; exact ⟨b1, trivial, rfl, hw⟩
def itN (cb : Nat) : Sg := [[(cb, .cells [.pointer none].toArray 76 (0, 0))]] ++ []
theorem entNil_stops (cb : Nat) (K : List Nat) (w : World) (hs : Sat (itN cb) w) :
    SeqStopsK (Wd none) 1 Try.prog 83 [.pointer (some ⟨cb, 0, none⟩)].toArray (fun x => (eiV x).toArray) (KpK K) (fun xs => xs = enL []) (fun pre => pre <+: enL []) 0 w := by
  intro L J Jx W hb hJ hJx hY h0
  refine callsIn_wd.2 ?_
  have hs0 : Sat (itN cb) W := hs.below hb
  have hZ : ∀ k w w', J ((enL []).take k) w → Below w.heap.size w w' → J ((enL []).take k) w' := fun k w w' h hb => abides_below hJ h hb
  have e0 : (#[Value.func (.yield L) #[] #[]] ++ [Value.pointer (some ⟨cb, 0, none⟩)].toArray : Array Value) = [Value.func (.yield L) #[] #[], Value.pointer (some ⟨cb, 0, none⟩)].toArray := by simp
  rw [e0]
  refine V.callsI (H := fun w => J ((enL []).take 0) w ∧ Sat (itN cb) w) Try.func83 rfl Try.ntmps83 (Nat.le_of_ble_eq_true rfl) ⟨h0, hs0⟩ ?_
  refine CI.seq ?_
  refine CI.region ?_
  refine LI.z rfl rfl (fun w hz hs => Val.load rfl Try.isAgg76 (by repeat (first | exact .here | refine .there ?_)) (by rfl)) ?_
  refine LI.zc rfl rfl rfl Try.call44 (fun w w' h hb => hZ 0 w w' h hb) (fun w hs => llenNil_c w) ?_
  skip
  refine LI.z rfl rfl (fun w hz hs => Val.move rfl) ?_
  refine LI.nil ?_
  refine PI.seq ?_
  refine CI.block ?_
  refine CI.loop (γ := Unit) (fun k => (fun k => [(5, .int .i64 (0 : Nat)), (6, .int .i64 (k : Nat))]) 0) (fun k w => J [] w ∧ Sat (itN cb) w) (fun k => 0) () (by repeat (first | exact trivial | refine ⟨rfl, ?_⟩)) (fun w h => h) ?_
  rintro ⟨⟩
  simp only
  refine CI.seq ?_
  refine CI.region ?_
  refine LI.z rfl rfl (fun w hz hs => Val.cmp rfl rfl rfl) ?_
  refine LI.nil ?_
  refine PI.seq ?_
  refine CI.seq ?_
  refine CI.cond rfl (fun h7 => ?_) (fun h7 => ?_)
  · exact absurd (bT h7) (by simp)
  · replace h7 := bF h7
    refine CI.exit ?_
    refine PI.then_exit ?_
    refine PI.then_exit ?_
    refine PI.in_here ?_
    refine PI.end0 rfl ?_
    rintro w' ⟨hj, _⟩; refine ⟨⟨_, rfl⟩, .inl ⟨_, rfl, ?_⟩⟩
    exact hj
theorem findNil_c (rb : Nat) (du : Int) (w : World) : Calls Try.prog 67 [.pointer none, .pointer (some ⟨rb, 0, none⟩), .int .u64 du].toArray w fun e w' => e = .returned (.int .i64 (-1)) ∧ Below w.heap.size w w' := by
  refine V.callsM [] Try.func67 rfl Try.ntmps67 (Nat.le_of_ble_eq_true rfl) (V.sat_nil _) ?_
  refine CW.seq ?_
  refine CW.region ?_
  refine LW.e rfl rfl (Eff.boxS rfl rfl) ?_
  intro b4 _
  refine LW.e rfl rfl (Eff.boxS rfl rfl) ?_
  intro b5 _
  refine LW.e rfl rfl (Eff.allocS (v := .int .i64 0) rfl (by exact Try.zeroValue3)) ?_
  intro b6 _
  refine LW.nil ?_
  refine PQ.seq ?_
  refine CW.seq ?_
  refine CW.seq ?_
  refine CW.region ?_
  refine LW.v rfl rfl (Val.load rfl Try.isAgg49 (by repeat (first | exact .here | refine .there ?_)) (by rfl)) ?_
  refine LW.v rfl rfl (Val.eqP false rfl rfl Try.underlying49 (.inr ⟨rfl, rfl⟩)) ?_
  refine LW.nil ?_
  refine PQ.seq ?_
  refine CW.cond_f rfl ?_
  refine CW.skip ?_
  refine PQ.seq ?_
  refine CW.seq ?_
  refine CW.seq ?_
  refine CW.region ?_
  refine LW.v rfl rfl (Val.move rfl) ?_
  refine LW.e rfl rfl (Eff.callM ([]) (by repeat (first | exact .nil | apply Pick.cons | exact .here | apply Ext.there)) rfl Try.call80 (fun w hw hs => entriesNil_c w)) ?_
  intro cb _
  refine LW.nil ?_
  refine PQ.seq ?_
  refine CW.block ?_
  refine V.CW.rangeFunc (α := Int × En) eiV (fun xs => xs = enL []) (fun pre => pre <+: enL []) (fun _ => True) (fun _ => False) 0 (ids (itN cb)) (fun pre => [[(b4, .cells [.pointer (some ⟨rb, 0, none⟩)].toArray 49 (0, 0))], [(b5, .cells [.int .u64 du].toArray 28 (0, 0))], [(b6, .cells [.int .i64 0].toArray 3 (0, 0))]]) (fun pre => [[(b4, .cells [.pointer (some ⟨rb, 0, none⟩)].toArray 49 (0, 0))], [(b5, .cells [.int .u64 du].toArray 28 (0, 0))], [(b6, .cells [.int .i64 0].toArray 3 (0, 0))]]) (fun x y => [(4, .pointer (some ⟨b4, 0, none⟩)), (5, .pointer (some ⟨b5, 0, none⟩)), (6, .pointer (some ⟨b6, 0, none⟩)), (7, .int .i64 x.1), (8, .pointer (some ⟨y, 0, none⟩))]) (fun x => .cells (enC x.2).toArray 80 (0, 0)) rfl Try.call83 (fun _ => rfl) rfl (fun w' hw => entNil_stops cb _ w' (by have h1 := hw.sat_old (sgC := [[(cb, .cells [.pointer none].toArray 76 (0, 0))]]) (by repeat (first | exact .nil | apply Pick.cons | exact .here | apply Ext.there)) (V.sat_nil w); exact h1)) (fun w' hw => hw.apart (sgA := [[(b4, .cells [.pointer (some ⟨rb, 0, none⟩)].toArray 49 (0, 0))], [(b5, .cells [.int .u64 du].toArray 28 (0, 0))], [(b6, .cells [.int .i64 0].toArray 3 (0, 0))]]) (sgC := [[(cb, .cells [.pointer none].toArray 76 (0, 0))]]) (by repeat (first | exact .nil | apply Pick.cons | exact .here | apply Ext.there)) (V.sat_nil w)) (by repeat (first | exact .nil | apply Pick.cons | exact .here | apply Ext.there)) (fun _ => rfl) (fun _ => V.cellsOnly_of rfl) (fun _ => rfl) (fun _ => V.cellsOnly_of rfl) (fun _ => rfl) trivial ?_ ?_ ?_ ?_
  · intro lp pre x W hW
    refine CI.seq ?_
    refine CI.region ?_
    refine LI.v rfl rfl (Val.assign rfl) ?_
    refine LI.nil ?_
    first | refine PI.seq ?_ | refine PI.seqW ?_
    refine CI.region ?_
    refine LI.e rfl rfl (Eff.allocA (by exact Try.zeroValue80)) ?_
    intro b8 _
    first | (refine LI.eN rfl (Eff.storeW rfl rfl (by repeat (first | exact .here | apply Upd.there)) (by rfl) Try.sizeOf80 (by rfl)) ?_) | (refine LI.eN rfl (Eff.storeA (l' := _) rfl rfl (by repeat (first | exact .here | apply Upd.there)) (by rfl) (by decide) Try.sizeOf80 (by rfl)) ?_)
    intro _ _
    refine LI.nil ?_
    refine V.PI.assigned b8 (by repeat (first | exact trivial | refine ⟨rfl, ?_⟩)) (by repeat (first | exact .nil | apply Pick.cons | exact .here | apply Ext.there))
  · intro lp pre x y W hW hPp hlen
    exact absurd hlen (Nat.not_lt_zero _)
  · rintro D xs rfl hP
    refine PI.in_normal ?_
    first | refine PI.seq ?_ | refine PI.seqW ?_
    refine CI.seq ?_
    refine CI.region ?_
    refine LI.eN rfl (Eff.store rfl rfl rfl (by repeat (first | exact .here | apply Upd.there)) (by rfl) (by rfl) Try.sizeOf3) ?_
    intro _ _
    refine LI.nil ?_
    first | refine PI.seq ?_ | refine PI.seqW ?_
    refine CI.ret ?_
    refine V.PI.retM (v := .int .i64 (-1)) (by repeat (first | exact .here | apply Upd.there)) (fun a w ha hw => V.results_c1 rfl ha hw rfl (by repeat (first | exact .here | refine .there ?_)) Try.isAgg3) ?_
    intro w' hw; exact ⟨rfl, hw.below⟩
  · intro D pre hS hP
    exact hP.elim
theorem lreadyNil_c (rb : Nat) (du : Int) (w : World) : Calls Try.prog 46 [.pointer none, .pointer (some ⟨rb, 0, none⟩), .int .u64 du].toArray w fun e w' => e = .returned (.tuple #[enV en0, .bool false]) ∧ Below w.heap.size w w' := by
  refine V.calls [] Try.func46 rfl Try.ntmps46 (Nat.le_of_ble_eq_true rfl) (V.sat_nil _) ?_
  refine CW.seq ?_
  refine CW.region ?_
  refine LW.e rfl rfl (Eff.allocA (by exact Try.zeroValue80)) ?_
  intro b6 _
  refine LW.v rfl rfl (Val.assign rfl) ?_
  refine LW.nil ?_
  refine PQ.seq ?_
  refine CW.seq ?_
  refine CW.region ?_
  refine LW.v rfl rfl (Val.move rfl) ?_
  refine LW.v rfl rfl (Val.move rfl) ?_
  refine LW.v rfl rfl (Val.move rfl) ?_
  refine LW.e rfl rfl (Eff.callV rfl Try.call67 (fun w hw => findNil_c rb du w)) ?_
  intro _ _
  refine LW.v rfl rfl (Val.assign rfl) ?_
  refine LW.nil ?_
  refine PQ.seq ?_
  refine CW.seq ?_
  refine CW.seq ?_
  refine CW.region ?_
  refine LW.v rfl rfl (Val.move rfl) ?_
  refine LW.v rfl rfl (Val.cmp rfl rfl rfl) ?_
  refine LW.nil ?_
  refine PQ.seq ?_
  refine CW.cond_t rfl ?_
  refine CW.seq ?_
  refine CW.region ?_
  refine LW.v rfl rfl (Val.build [_, _, _, _, _] Try.zeroValue80 Try.underlying80 places80 rfl (by rfl)) ?_
  first | (refine LW.eN rfl (Eff.storeW rfl rfl (by repeat (first | exact .here | apply Upd.there)) (by rfl) Try.sizeOf80 (by rfl)) ?_) | (refine LW.eN rfl (Eff.storeA (l' := _) rfl rfl (by repeat (first | exact .here | apply Upd.there)) (by rfl) (by decide) Try.sizeOf80 (by rfl)) ?_)
  intro _ _
  refine LW.v rfl rfl (Val.assign rfl) ?_
  refine LW.nil ?_
  refine PQ.seq ?_
  refine CW.ret ?_
  refine PQ.then_ret ?_
  refine PQ.retCT rfl rfl rfl (by repeat (first | exact .here | refine .there ?_)) Try.isAgg80 (by exact Try.sizeOf80) ?_
  intro w' hw; exact ⟨rfl, hw.below⟩
theorem lpopNil_c (rb : Nat) (du : Int) (w : World) : Calls Try.prog 47 [.pointer none, .pointer (some ⟨rb, 0, none⟩), .int .u64 du].toArray w fun e w' => e = .returned (.tuple #[enV en0, .bool false]) ∧ Below w.heap.size w w' := by
  refine V.calls [] Try.func47 rfl Try.ntmps47 (Nat.le_of_ble_eq_true rfl) (V.sat_nil _) ?_
  refine CW.seq ?_
  refine CW.region ?_
  refine LW.e rfl rfl (Eff.allocA (by exact Try.zeroValue80)) ?_
  intro b6 _
  refine LW.v rfl rfl (Val.assign rfl) ?_
  refine LW.nil ?_
  refine PQ.seq ?_
  refine CW.seq ?_
  refine CW.region ?_
  refine LW.v rfl rfl (Val.move rfl) ?_
  refine LW.v rfl rfl (Val.move rfl) ?_
  refine LW.v rfl rfl (Val.move rfl) ?_
  refine LW.e rfl rfl (Eff.callV rfl Try.call67 (fun w hw => findNil_c rb du w)) ?_
  intro _ _
  refine LW.v rfl rfl (Val.assign rfl) ?_
  refine LW.nil ?_
  refine PQ.seq ?_
  refine CW.seq ?_
  refine CW.seq ?_
  refine CW.region ?_
  refine LW.v rfl rfl (Val.move rfl) ?_
  refine LW.v rfl rfl (Val.cmp rfl rfl rfl) ?_
  refine LW.nil ?_
  refine PQ.seq ?_
  refine CW.cond_t rfl ?_
  refine CW.seq ?_
  refine CW.region ?_
  refine LW.v rfl rfl (Val.build [_, _, _, _, _] Try.zeroValue80 Try.underlying80 places80 rfl (by rfl)) ?_
  first | (refine LW.eN rfl (Eff.storeW rfl rfl (by repeat (first | exact .here | apply Upd.there)) (by rfl) Try.sizeOf80 (by rfl)) ?_) | (refine LW.eN rfl (Eff.storeA (l' := _) rfl rfl (by repeat (first | exact .here | apply Upd.there)) (by rfl) (by decide) Try.sizeOf80 (by rfl)) ?_)
  intro _ _
  refine LW.v rfl rfl (Val.assign rfl) ?_
  refine LW.nil ?_
  refine PQ.seq ?_
  refine CW.ret ?_
  refine PQ.then_ret ?_
  refine PQ.retCT rfl rfl rfl (by repeat (first | exact .here | refine .there ?_)) Try.isAgg80 (by exact Try.sizeOf80) ?_
  intro w' hw; exact ⟨rfl, hw.below⟩
theorem limboNone_c (x : En) (w : World) : Calls Try.prog 11 [enV x].toArray w fun e w' => e = .returned (.bool true) ∧ Below w.heap.size w w' := by
  refine V.calls [] Try.func11 rfl Try.ntmps11 (Nat.le_of_ble_eq_true rfl) (V.sat_nil _) ?_
  refine CW.seq ?_
  refine CW.region ?_
  refine LW.e rfl rfl (Eff.boxA rfl) ?_
  intro b1 _
  refine LW.v rfl rfl (Val.assign rfl) ?_
  refine LW.nil ?_
  refine PQ.seq ?_
  refine CW.seq ?_
  refine CW.region ?_
  refine LW.v rfl rfl (Val.assign rfl) ?_
  refine LW.nil ?_
  refine PQ.seq ?_
  refine CW.seq ?_
  refine CW.region ?_
  refine LW.e rfl rfl (Eff.callM ([]) (by repeat (first | exact .nil | apply Pick.cons | exact .here | apply Ext.there)) rfl Try.call26 (fun w hw hs => new_c 1 w (by omega))) ?_
  rintro ⟨rb, ra⟩ _
  refine LW.v rfl rfl (Val.move rfl) ?_
  refine LW.v rfl rfl (Val.extract rfl rfl) ?_
  refine LW.v rfl rfl (Val.extract rfl rfl) ?_
  refine LW.v rfl rfl (Val.assign rfl) ?_
  refine LW.v rfl rfl (Val.assign rfl) ?_
  refine LW.nil ?_
  refine PQ.seq ?_
  refine CW.seq ?_
  refine CW.region ?_
  refine LW.v rfl rfl (Val.move rfl) ?_
  refine LW.v rfl rfl (Val.move rfl) ?_
  refine LW.e rfl rfl (Eff.callV rfl Try.call46 (fun w hw => lreadyNil_c rb 9 w)) ?_
  intro _ _
  refine LW.v rfl rfl (Val.move rfl) ?_
  refine LW.v rfl rfl (Val.extract rfl rfl) ?_
  refine LW.v rfl rfl (Val.extract rfl rfl) ?_
  refine LW.e rfl rfl (Eff.allocA (by exact Try.zeroValue80)) ?_
  intro b6 _
  first | (refine LW.eN rfl (Eff.storeW rfl rfl (by repeat (first | exact .here | apply Upd.there)) (by rfl) Try.sizeOf80 (by rfl)) ?_) | (refine LW.eN rfl (Eff.storeA (l' := _) rfl rfl (by repeat (first | exact .here | apply Upd.there)) (by rfl) (by decide) Try.sizeOf80 (by rfl)) ?_)
  intro _ _
  refine LW.v rfl rfl (Val.assign rfl) ?_
  refine LW.nil ?_
  refine PQ.seq ?_
  refine CW.seq ?_
  refine CW.region ?_
  refine LW.v rfl rfl (Val.move rfl) ?_
  refine LW.v rfl rfl (Val.move rfl) ?_
  refine LW.e rfl rfl (Eff.callV rfl Try.call47 (fun w hw => lpopNil_c rb 9 w)) ?_
  intro _ _
  refine LW.v rfl rfl (Val.move rfl) ?_
  refine LW.v rfl rfl (Val.extract rfl rfl) ?_
  refine LW.v rfl rfl (Val.extract rfl rfl) ?_
  refine LW.e rfl rfl (Eff.allocA (by exact Try.zeroValue80)) ?_
  intro b8 _
  first | (refine LW.eN rfl (Eff.storeW rfl rfl (by repeat (first | exact .here | apply Upd.there)) (by rfl) Try.sizeOf80 (by rfl)) ?_) | (refine LW.eN rfl (Eff.storeA (l' := _) rfl rfl (by repeat (first | exact .here | apply Upd.there)) (by rfl) (by decide) Try.sizeOf80 (by rfl)) ?_)
  intro _ _
  refine LW.v rfl rfl (Val.assign rfl) ?_
  refine LW.nil ?_
  refine PQ.seq ?_
  refine CW.seq ?_
  refine CW.region ?_
  refine LW.v rfl rfl (Val.move rfl) ?_
  first | (refine LW.v rfl rfl (Val.loadW rfl Try.isAgg80 (by repeat (first | exact .here | refine .there ?_)) (by exact Try.sizeOf80)) ?_) | (refine LW.v rfl rfl (Val.loadA [_, _, _, _, _] rfl Try.isAgg80 (by repeat (first | exact .here | refine .there ?_)) (by rfl) Try.sizeOf80) ?_)
  refine LW.e rfl rfl (Eff.callV rfl Try.call42 (fun w hw => lputNil_c x w)) ?_
  intro _ _
  refine LW.v rfl rfl (Val.cmp rfl rfl rfl) ?_
  refine LW.re 29 (.bool true) rfl (by rfl) ?_
  refine LW.v rfl rfl (Val.move rfl) ?_
  first | (refine LW.v rfl rfl (Val.loadW rfl Try.isAgg80 (by repeat (first | exact .here | refine .there ?_)) (by exact Try.sizeOf80)) ?_) | (refine LW.v rfl rfl (Val.loadA [_, _, _, _, _] rfl Try.isAgg80 (by repeat (first | exact .here | refine .there ?_)) (by rfl) Try.sizeOf80) ?_)
  refine LW.v rfl rfl (Val.build [_, _, _, _, _] Try.zeroValue80 Try.underlying80 places80 rfl (by rfl)) ?_
  refine LW.v rfl rfl (Val.eqA rfl rfl (by kernel_rfl) Try.underlying80 (by kernel_rfl) (by exact (.int rfl rfl Try.isAgg3 Try.underlying3 (.int rfl rfl Try.isAgg3 Try.underlying3 (.int rfl rfl Try.isAgg28 Try.underlying28 (.int rfl rfl Try.isAgg28 Try.underlying28 (.int rfl rfl Try.isAgg3 Try.underlying3 .nil))))))) ?_
  refine LW.re 33 (.bool true) rfl (by rfl) ?_
  refine LW.v rfl rfl (Val.pick_t rfl rfl) ?_
  refine LW.v rfl rfl (Val.move rfl) ?_
  refine LW.v rfl rfl (Val.move rfl) ?_
  refine LW.v rfl rfl (Val.not rfl) ?_
  refine LW.re 37 (.bool true) rfl (by rfl) ?_
  refine LW.v rfl rfl (Val.pick_t rfl rfl) ?_
  refine LW.v rfl rfl (Val.move rfl) ?_
  first | (refine LW.v rfl rfl (Val.loadW rfl Try.isAgg80 (by repeat (first | exact .here | refine .there ?_)) (by exact Try.sizeOf80)) ?_) | (refine LW.v rfl rfl (Val.loadA [_, _, _, _, _] rfl Try.isAgg80 (by repeat (first | exact .here | refine .there ?_)) (by rfl) Try.sizeOf80) ?_)
  refine LW.v rfl rfl (Val.build [_, _, _, _, _] Try.zeroValue80 Try.underlying80 places80 rfl (by rfl)) ?_
  refine LW.v rfl rfl (Val.eqA rfl rfl (by kernel_rfl) Try.underlying80 (by kernel_rfl) (by exact (.int rfl rfl Try.isAgg3 Try.underlying3 (.int rfl rfl Try.isAgg3 Try.underlying3 (.int rfl rfl Try.isAgg28 Try.underlying28 (.int rfl rfl Try.isAgg28 Try.underlying28 (.int rfl rfl Try.isAgg3 Try.underlying3 .nil))))))) ?_
  refine LW.re 42 (.bool true) rfl (by rfl) ?_
  refine LW.v rfl rfl (Val.pick_t rfl rfl) ?_
  refine LW.v rfl rfl (Val.move rfl) ?_
  refine LW.v rfl rfl (Val.move rfl) ?_
  refine LW.v rfl rfl (Val.not rfl) ?_
  refine LW.re 46 (.bool true) rfl (by rfl) ?_
  refine LW.v rfl rfl (Val.pick_t rfl rfl) ?_
  refine LW.v rfl rfl (Val.move rfl) ?_
  refine LW.v rfl rfl (Val.move rfl) ?_
  refine LW.e rfl rfl (Eff.callV rfl Try.call48 (fun w hw => lallNil_c w)) ?_
  intro _ _
  refine LW.v rfl rfl (Val.lenSl rfl Try.underlying86) ?_
  refine LW.v rfl rfl (Val.cmp rfl rfl rfl) ?_
  refine LW.re 52 (.bool true) rfl (by rfl) ?_
  refine LW.v rfl rfl (Val.pick_t rfl rfl) ?_
  refine LW.v rfl rfl (Val.move rfl) ?_
  refine LW.v rfl rfl (Val.move rfl) ?_
  refine LW.e rfl rfl (Eff.callV rfl Try.call44 (fun w hw => llenNil_c w)) ?_
  intro _ _
  refine LW.v rfl rfl (Val.cmp rfl rfl rfl) ?_
  refine LW.re 57 (.bool true) rfl (by rfl) ?_
  refine LW.v rfl rfl (Val.pick_t rfl rfl) ?_
  refine LW.v rfl rfl (Val.move rfl) ?_
  refine LW.e rfl rfl (Eff.callV rfl Try.call45 (fun w hw => awake10_c w)) ?_
  intro _ _
  refine LW.v rfl rfl (Val.pick_t rfl rfl) ?_
  refine LW.v rfl rfl (Val.assign rfl) ?_
  refine LW.nil ?_
  refine PQ.seq ?_
  refine CW.ret ?_
  refine PQ.ret1 rfl rfl ?_
  intro w' hw; exact ⟨rfl, hw.below⟩
end Go.Proofs.Ytgeblajdjdcghaa
