/- LimboFull, LimboNone: the walks of the laws. -/
import Derived.Test.YtgeblajdjdcghaaLbD
import Derived.Test.YtgeblajdjdcghaaRdD
import Derived.Lib.Hide
namespace Go.Proofs.Ytgeblajdjdcghaa
open Go Go.RowKit V
set_option linter.unusedVariables false
set_option maxRecDepth 100000
theorem u64_nonneg (a : Int) : 0 ≤ IntKind.u64.wrap a := by
  have h := Int.emod_nonneg a (show (18446744073709551616 : Int) ≠ 0 by decide)
  have e : IntKind.u64.wrap a = a % 18446744073709551616 := by first | rfl | (simp [IntKind.wrap]; done) | (unfold IntKind.wrap; rfl)
  rw [e]; exact h
theorem low_c (a m : Int) (hm : 0 < m ∧ m ≤ 1000) (w : World) : Calls Try.prog 37 [.int .i64 a, .int .i64 m].toArray w fun e w' => ∃ v : Nat, v < m ∧ e = .returned (.int .i64 (v : Nat)) ∧ Below w.heap.size w w' := by
  have hm1 : IntKind.u64.wrap m = m := IntWalk.u64_in _ (by omega)
  have h0 := u64_nonneg a
  refine V.calls [] Try.func37 rfl Try.ntmps37 (Nat.le_of_ble_eq_true rfl) (V.sat_nil _) ?_
  refine CW.seq ?_
  refine CW.region ?_
  refine LW.v rfl rfl (Val.assign rfl) ?_
  refine LW.nil ?_
  refine PQ.seq ?_
  refine CW.seq ?_
  refine CW.region ?_
  refine LW.v rfl rfl (Val.move rfl) ?_
  refine LW.v rfl rfl (Val.convI rfl Try.underlying3 Try.underlying90) ?_
  refine LW.v rfl rfl (Val.move rfl) ?_
  refine LW.v rfl rfl (Val.convI rfl Try.underlying3 Try.underlying90) ?_
  refine LW.re 8 (.int .u64 m) rfl (by rw [hm1]) ?_
  refine LW.v rfl rfl (Val.rem rfl rfl (by omega)) ?_
  refine LW.v rfl rfl (Val.convI rfl Try.underlying90 Try.underlying3) ?_
  refine LW.v rfl rfl (Val.assign rfl) ?_
  refine LW.nil ?_
  refine PQ.seq ?_
  refine CW.ret ?_
  refine PQ.ret1 rfl rfl ?_
  intro w' hw
  have h1 : 0 ≤ (IntKind.u64.wrap a).tmod m := Int.tmod_nonneg m h0
  have h2 : (IntKind.u64.wrap a).tmod m < m := Int.tmod_lt_of_pos _ hm.1
  refine ⟨((IntKind.u64.wrap a).tmod m).toNat, by omega, ?_, hw.below⟩
  have h3 : IntKind.i64.wrap ((IntKind.u64.wrap a).tmod m) = (((IntKind.u64.wrap a).tmod m).toNat : Nat) := by rw [IntWalk.i64_in _ (by omega)]; omega
  rw [← h3]
theorem limboFull_c (many : Int) (w : World) : Calls Try.prog 10 [.int .i64 many].toArray w fun e w' => e = .returned (.bool true) ∧ Below w.heap.size w w' := by
  refine V.calls [] Try.func10 rfl Try.ntmps10 (Nat.le_of_ble_eq_true rfl) (V.sat_nil _) ?_
  refine CW.seq ?_
  refine CW.region ?_
  refine LW.v rfl rfl (Val.assign rfl) ?_
  refine LW.nil ?_
  refine PQ.seq ?_
  refine CW.seq ?_
  refine CW.region ?_
  refine LW.v rfl rfl (Val.move rfl) ?_
  refine LW.e rfl rfl (Eff.callR rfl Try.call37 (fun w hw => low_c many 300 (by omega) w)) ?_
  intro n hn
  refine LW.v rfl rfl (Val.assign rfl) ?_
  refine LW.nil ?_
  refine PQ.seq ?_
  refine CW.seq ?_
  refine CW.region ?_
  refine LW.e rfl rfl (Eff.callM ([]) (by repeat (first | exact .nil | apply Pick.cons | exact .here | apply Ext.there)) rfl Try.call41 (fun w hw hs => lnewP_c w)) ?_
  intro b _
  refine LW.v rfl rfl (Val.assign rfl) ?_
  refine LW.nil ?_
  refine PQ.seq ?_
  refine CW.seq ?_
  refine CW.seq ?_
  refine CW.region ?_
  refine LW.v rfl rfl (Val.move rfl) ?_
  refine LW.v rfl rfl (Val.eqP false rfl rfl Try.underlying76 (.inr ⟨rfl, rfl⟩)) ?_
  refine LW.nil ?_
  refine PQ.seq ?_
  refine CW.cond_f rfl ?_
  refine CW.skip ?_
  refine PQ.seq ?_
  refine CW.seq ?_
  refine CW.seq ?_
  refine CW.region ?_
  refine LW.v rfl rfl (Val.assign rfl) ?_
  refine LW.nil ?_
  refine PQ.seq ?_
  refine CW.block ?_
  refine CW.loop (γ := Nat × Option (Nat × List Value × Nat) × List En) (fun k => [(3, .int .i64 (n : Nat)), (4, .pointer (some ⟨b, 0, none⟩)), (5, .int .i64 (k.1 : Nat))]) (fun k => bgP 124 b k.2.1 k.2.2) (fun k => k.1 ≤ n ∧ bgOk k.2.1 k.2.2 ∧ ((k.2.2.length = k.1 ∧ k.1 ≤ 258) ∨ (k.2.2.length = 258 ∧ 258 < k.1))) (fun k => n - k.1) ((0, none, [])) ⟨Nat.zero_le _, rfl, .inl ⟨rfl, by omega⟩⟩ (by repeat (first | exact trivial | refine ⟨rfl, ?_⟩)) (by repeat (first | exact .nil | apply Pick.cons | exact .here | apply Ext.there)) ?_
  intro k
  rintro ⟨hkn, hk, hl⟩
  refine CW.seq ?_
  refine CW.seq ?_
  refine CW.region ?_
  refine LW.v rfl rfl (Val.move rfl) ?_
  refine LW.v rfl rfl (Val.move rfl) ?_
  refine LW.v rfl rfl (Val.cmp rfl rfl rfl) ?_
  refine LW.nil ?_
  refine PQ.seq ?_
  refine CW.cond rfl (fun h14 => ?_) (fun h14 => ?_)
  · replace h14 := bT h14
    refine CW.skip ?_
    refine PQ.seq ?_
    refine CW.seq ?_
    refine CW.block ?_
    refine CW.seq ?_
    refine CW.region ?_
    refine LW.v rfl rfl (Val.move rfl) ?_
    refine LW.v rfl rfl (Val.move rfl) ?_
    refine LW.v rfl rfl (Val.convI rfl Try.underlying3 Try.underlying28) ?_
    refine LW.e rfl rfl (Eff.callV rfl Try.call43 (fun w hw => plain_c (IntKind.u64.wrap (k.1 : Nat)) 1 w)) ?_
    intro _ _
    refine LW.e rfl rfl (Eff.callM (bgP 124 b k.2.1 k.2.2) (by repeat (first | exact .nil | apply Pick.cons | exact .here | apply Ext.there)) rfl Try.call42 (fun w hw hs => putAny_c b k.2.1 k.2.2 hk (by omega) (plE _ 1) (plE_may _ 1) w hs)) ?_
    rintro ⟨o2, l2, v⟩ ⟨hk2, h2⟩
    simp only at hk2 h2
    refine LW.v rfl rfl (Val.assign rfl) ?_
    refine LW.nil ?_
    refine PQ.seq ?_
    refine CW.seq ?_
    refine CW.region ?_
    refine LW.v rfl rfl (Val.move rfl) ?_
    refine LW.v rfl rfl (Val.cmp rfl rfl rfl) ?_
    refine LW.v rfl rfl (Val.move rfl) ?_
    refine LW.v rfl rfl (Val.cmp rfl rfl rfl) ?_
    refine LW.v rfl rfl (Val.neB rfl rfl Try.underlying4) ?_
    refine LW.re 26 (.bool false) rfl (by rcases h2 with ⟨h3, rfl, h4⟩ | ⟨h3, rfl, h4⟩ <;> simp <;> omega) ?_
    refine LW.v rfl rfl (Val.move rfl) ?_
    refine LW.v rfl rfl (Val.move rfl) ?_
    refine LW.v rfl rfl (Val.cmp rfl rfl rfl) ?_
    refine LW.v rfl rfl (Val.move rfl) ?_
    refine LW.split (d := 30) rfl (fun h30 => ?_) (fun h30 => ?_)
    · replace h30 := bT h30
      refine LW.v rfl rfl (Val.move rfl) ?_
      refine LW.v rfl rfl (Val.cmp rfl rfl rfl) ?_
      refine LW.re 32 (.bool false) rfl (by rcases h2 with ⟨h3, rfl, h4⟩ | ⟨h3, rfl, h4⟩ <;> simp_all) ?_
      refine LW.v rfl rfl (Val.pick_t rfl rfl) ?_
      refine LW.v rfl rfl (Val.pick_f rfl rfl) ?_
      refine LW.nil ?_
      refine PQ.seq ?_
      refine CW.cond_f rfl ?_
      refine CW.skip ?_
      refine PQ.in_normal ?_
      refine PQ.seq ?_
      refine CW.region ?_
      refine LW.v rfl rfl (Val.move rfl) ?_
      refine LW.v rfl rfl (Val.ar rfl rfl rfl (IntWalk.i64_in _ (by omega))) ?_
      refine LW.v rfl rfl (Val.assign rfl) ?_
      refine LW.nil ?_
      refine PQ.round ((k.1 + 1, o2, l2)) ⟨by simp only; omega, hk2, by simp only; omega⟩ (by simp only; omega) (by repeat (first | exact trivial | refine ⟨rfl, ?_⟩)) (by repeat (first | exact .nil | apply Pick.cons | exact .here | apply Ext.there))
    · replace h30 := bF h30
      refine LW.p rfl rfl ?_
      refine LW.p rfl rfl ?_
      refine LW.v rfl rfl (Val.pick_f rfl rfl) ?_
      refine LW.v rfl rfl (Val.pick_f rfl rfl) ?_
      refine LW.nil ?_
      refine PQ.seq ?_
      refine CW.cond_f rfl ?_
      refine CW.skip ?_
      refine PQ.in_normal ?_
      refine PQ.seq ?_
      refine CW.region ?_
      refine LW.v rfl rfl (Val.move rfl) ?_
      refine LW.v rfl rfl (Val.ar rfl rfl rfl (IntWalk.i64_in _ (by omega))) ?_
      refine LW.v rfl rfl (Val.assign rfl) ?_
      refine LW.nil ?_
      refine PQ.round ((k.1 + 1, o2, l2)) ⟨by simp only; omega, hk2, by simp only; omega⟩ (by simp only; omega) (by repeat (first | exact trivial | refine ⟨rfl, ?_⟩)) (by repeat (first | exact .nil | apply Pick.cons | exact .here | apply Ext.there))
  · replace h14 := bF h14
    refine CW.exit ?_
    refine PQ.then_exit ?_
    refine PQ.then_exit ?_
    refine PQ.in_here ?_
    refine PQ.seq ?_
    refine CW.seq ?_
    refine CW.region ?_
    refine LW.v rfl rfl (Val.move rfl) ?_
    refine LW.e rfl rfl (Eff.callV rfl Try.call44 (fun w hw => blenP_c b k.2.1 k.2.2 hk w (hw.sat.pick (ss := bgP 124 b k.2.1 k.2.2) (by repeat (first | exact .nil | apply Pick.cons | exact .here | apply Ext.there))))) ?_
    intro _ _
    refine LW.v rfl rfl (Val.move rfl) ?_
    refine LW.v rfl rfl (Val.minI rfl rfl) ?_
    refine LW.v rfl rfl (Val.cmp rfl rfl rfl) ?_
    refine LW.re 39 (.bool true) rfl (by simp; omega) ?_
    refine LW.v rfl rfl (Val.move rfl) ?_
    refine LW.e rfl rfl (Eff.callV rfl Try.call45 (fun w hw => awake10_c w)) ?_
    intro _ _
    refine LW.v rfl rfl (Val.pick_t rfl rfl) ?_
    refine LW.v rfl rfl (Val.assign rfl) ?_
    refine LW.nil ?_
    refine PQ.seq ?_
    refine CW.ret ?_
    refine PQ.ret1 rfl rfl ?_
    intro w' hw; exact ⟨rfl, hw.below⟩
theorem lentriesNil_c : True := trivial
theorem lputNil_c (x : En) (w : World) : Calls Try.prog 42 [.pointer none, enV x].toArray w fun e w' => e = .returned (.int .i64 1) ∧ Below w.heap.size w w' := by
  refine V.calls [] Try.func42 rfl Try.ntmps42 (Nat.le_of_ble_eq_true rfl) (V.sat_nil _) ?_
  refine CW.seq ?_
  refine CW.region ?_
  refine LW.e rfl rfl (Eff.boxA rfl) ?_
  intro b3 _
  refine LW.v rfl rfl (Val.assign rfl) ?_
  refine LW.nil ?_
  refine PQ.seq ?_
  refine CW.seq ?_
  refine CW.seq ?_
  refine CW.region ?_
  refine LW.v rfl rfl (Val.move rfl) ?_
  refine LW.v rfl rfl (Val.eqP true rfl rfl Try.underlying76 (.inr ⟨rfl, rfl⟩)) ?_
  refine LW.v rfl rfl (Val.move rfl) ?_
  refine LW.p rfl rfl ?_
  refine LW.p rfl rfl ?_
  refine LW.p rfl rfl ?_
  refine LW.v rfl rfl (Val.pick_t rfl rfl) ?_
  refine LW.nil ?_
  refine PQ.seq ?_
  refine CW.cond_t rfl ?_
  refine CW.seq ?_
  refine CW.region ?_
  refine LW.v rfl rfl (Val.assign rfl) ?_
  refine LW.nil ?_
  refine PQ.seq ?_
  refine CW.ret ?_
  refine PQ.then_ret ?_
  refine PQ.ret1 rfl rfl ?_
  intro w' hw; exact ⟨rfl, hw.below⟩
theorem llenNil_c (w : World) : Calls Try.prog 44 [.pointer none].toArray w fun e w' => e = .returned (.int .i64 0) ∧ Below w.heap.size w w' := by
  refine V.calls [] Try.func44 rfl Try.ntmps44 (Nat.le_of_ble_eq_true rfl) (V.sat_nil _) ?_
  refine CW.seq ?_
  refine CW.region ?_
  refine LW.v rfl rfl (Val.assign rfl) ?_
  refine LW.nil ?_
  refine PQ.seq ?_
  refine CW.seq ?_
  refine CW.seq ?_
  refine CW.region ?_
  refine LW.v rfl rfl (Val.move rfl) ?_
  refine LW.v rfl rfl (Val.eqP true rfl rfl Try.underlying76 (.inr ⟨rfl, rfl⟩)) ?_
  refine LW.nil ?_
  refine PQ.seq ?_
  refine CW.cond_t rfl ?_
  refine CW.seq ?_
  refine CW.region ?_
  refine LW.v rfl rfl (Val.assign rfl) ?_
  refine LW.nil ?_
  refine PQ.seq ?_
  refine CW.ret ?_
  refine PQ.then_ret ?_
  refine PQ.ret1 rfl rfl ?_
  intro w' hw; exact ⟨rfl, hw.below⟩
theorem lallNil_c (w : World) : Calls Try.prog 48 [.pointer none].toArray w fun e w' => e = .returned (.slice none 0 0) ∧ Below w.heap.size w w' := by
  refine V.calls [] Try.func48 rfl Try.ntmps48 (Nat.le_of_ble_eq_true rfl) (V.sat_nil _) ?_
  refine CW.seq ?_
  refine CW.region ?_
  refine LW.v rfl rfl (Val.assign rfl) ?_
  refine LW.nil ?_
  refine PQ.seq ?_
  refine CW.seq ?_
  refine CW.seq ?_
  refine CW.region ?_
  refine LW.v rfl rfl (Val.move rfl) ?_
  refine LW.v rfl rfl (Val.eqP true rfl rfl Try.underlying76 (.inr ⟨rfl, rfl⟩)) ?_
  refine LW.nil ?_
  refine PQ.seq ?_
  refine CW.cond_t rfl ?_
  refine CW.seq ?_
  refine CW.region ?_
  refine LW.v rfl rfl (Val.assign rfl) ?_
  refine LW.nil ?_
  refine PQ.seq ?_
  refine CW.ret ?_
  refine PQ.then_ret ?_
  refine PQ.ret1 rfl rfl ?_
  intro w' hw; exact ⟨rfl, hw.below⟩
end Go.Proofs.Ytgeblajdjdcghaa
