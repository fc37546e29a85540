/- What the functions of the readers' reference and of their law do to a symbolic state. -/
import Derived.Test.YtgeblajdjdcghaaRdA
import Derived.Lib.Hide
namespace Go.Proofs.Ytgeblajdjdcghaa
open Go Go.RowKit V
set_option linter.unusedVariables false
set_option maxRecDepth 100000
theorem pos_ne {x : Int} (h : 0 ≤ x) : decide (0 < x) = (x != 0) := by rw [Bool.eq_iff_iff]; simp; omega
theorem q_no {x e : Int} (h1 : 0 < x) (h2 : x ≤ e) : ¬ ((!(decide (0 < x) && decide (x ≤ e))) = true) := by simp [h1, h2]
theorem q_yes {x e : Int} (h : x ≤ 0 ∨ e < x) : (!(decide (0 < x) && decide (x ≤ e))) = true := by simp; omega
theorem num_c (e0 : Int) (w : World) : Calls Try.prog 28 [.int .i64 e0].toArray w fun e w' => e = .returned (.int .i64 e0) ∧ Below w.heap.size w w' := by
  refine V.calls [] Try.func28 rfl Try.ntmps28 (Nat.le_of_ble_eq_true rfl) (V.sat_nil _) ?_
  refine CW.seq ?_
  refine CW.region ?_
  refine LW.v rfl rfl (Val.assign rfl) ?_
  refine LW.nil ?_
  refine PQ.seq ?_
  refine CW.seq ?_
  refine CW.region ?_
  refine LW.v rfl rfl (Val.move rfl) ?_
  refine LW.v rfl rfl (Val.assign rfl) ?_
  refine LW.nil ?_
  refine PQ.seq ?_
  refine CW.ret ?_
  refine PQ.ret1 rfl rfl ?_
  intro w' hw; exact ⟨rfl, hw.below⟩
theorem refEnter_c (b a : Nat) (now : Int) (l : List Int) (t : Int) (w : World) (hs : Sat (rfG b a now l) w) (hp : ∀ x ∈ l, 0 ≤ x) : Calls Try.prog 30 [.pointer (some ⟨b, 0, none⟩), .int .i64 t].toArray w fun e w' => ∃ _u : Unit, True ∧ e = .returned (.tuple #[.int .u64 (enF now l t).2.1, .int .i64 (enF now l t).2.2]) ∧ Hp ⟨w, ids (rfG b a now l)⟩ (rfG b a now (enF now l t).1) w' := by
  by_cases ht : inR l t
  · by_cases h0 : l.getD t.toNat 0 = 0
    · rw [show enF now l t = (l.set t.toNat now, now, 0) from (if_pos ht).trans (if_pos h0)]
      refine V.calls (rfG b a now l) Try.func30 rfl Try.ntmps30 (Nat.le_of_ble_eq_true rfl) hs ?_
      refine CW.seq ?_
      refine CW.region ?_
      refine LW.v rfl rfl (Val.assign rfl) ?_
      refine LW.v rfl rfl (Val.assign rfl) ?_
      refine LW.nil ?_
      refine PQ.seq ?_
      refine CW.seq ?_
      refine CW.seq ?_
      refine CW.region ?_
      refine LW.v rfl rfl (Val.move rfl) ?_
      refine LW.v rfl rfl (Val.cmp rfl rfl rfl) ?_
      refine LW.v rfl rfl (Val.move rfl) ?_
      refine LW.split (d := 8) rfl (fun h8 => ?_) (fun h8 => ?_)
      · exact absurd (bT h8) (by unfold inR at ht; omega)
      · replace h8 := bF h8
        refine LW.v rfl rfl (Val.move rfl) ?_
        refine LW.v rfl rfl (Val.move rfl) ?_
        refine LW.v rfl rfl (Val.nilCheck rfl) ?_
        refine LW.v rfl rfl (Val.fieldAddr 0 rfl Try.underlying118 rfl rfl Try.sizeOf116) ?_
        refine LW.v rfl rfl (Val.load rfl Try.isAgg116 (by repeat (first | exact .here | refine .there ?_)) (by rfl)) ?_
        refine LW.v rfl rfl (Val.lenSl rfl Try.underlying116) ?_
        refine LW.v rfl rfl (Val.cmp rfl rfl rfl) ?_
        refine LW.v rfl rfl (Val.pick_f rfl rfl) ?_
        refine LW.nil ?_
        refine PQ.seq ?_
        refine CW.cond rfl (fun h16 => ?_) (fun h16 => ?_)
        · exact absurd (bT h16) (by unfold inR at ht; omega)
        · replace h16 := bF h16
          refine CW.skip ?_
          refine PQ.seq ?_
          refine CW.seq ?_
          refine CW.seq ?_
          refine CW.region ?_
          refine LW.v rfl rfl (Val.move rfl) ?_
          refine LW.v rfl rfl (Val.nilCheck rfl) ?_
          refine LW.v rfl rfl (Val.fieldAddr 0 rfl Try.underlying118 rfl rfl Try.sizeOf116) ?_
          refine LW.v rfl rfl (Val.load rfl Try.isAgg116 (by repeat (first | exact .here | refine .there ?_)) (by rfl)) ?_
          refine LW.v rfl rfl (Val.move rfl) ?_
          first | (refine LW.v rfl rfl (Val.indexAddrN rfl rfl Try.underlying116 Try.sizeOf28 (by omega)) ?_) | (refine LW.v rfl rfl (Val.indexAddr rfl rfl Try.underlying116 Try.sizeOf28 (by omega) (by omega)) ?_)
          refine LW.v rfl rfl (Val.load rfl Try.isAgg28 (by repeat (first | exact .here | refine .there ?_)) (v := .int .u64 (l.getD t.toNat 0)) (by simpa using getD_map (by first | (unfold inR at ht; omega) | omega))) ?_
          refine LW.v rfl rfl (Val.cmp rfl rfl rfl) ?_
          refine LW.nil ?_
          refine PQ.seq ?_
          refine CW.cond rfl (fun h24 => ?_) (fun h24 => ?_)
          · exact absurd (bT h24) (by omega)
          · replace h24 := bF h24
            refine CW.skip ?_
            refine PQ.seq ?_
            refine CW.seq ?_
            refine CW.drawn ([[(b, rfB now a l.length)]]) mixed (by repeat (first | exact .nil | apply Pick.cons | exact .here | apply Ext.there)) ?_
            refine RW.v 0 rfl (by kernel_rfl) (by kernel_rfl) (by kernel_rfl) (fun _ _ _ h => h) rfl rfl (Val.move rfl) ?_
            refine RW.v 1 rfl (by kernel_rfl) (by kernel_rfl) (by kernel_rfl) (fun _ _ _ h => h) rfl rfl (Val.nilCheck rfl) ?_
            refine RW.v 2 rfl (by kernel_rfl) (by kernel_rfl) (by kernel_rfl) (fun _ _ _ h => h) rfl rfl (Val.fieldAddr 0 rfl Try.underlying118 rfl rfl Try.sizeOf116) ?_
            refine RW.v 3 rfl (by kernel_rfl) (by kernel_rfl) (by kernel_rfl) (fun _ _ _ h => h) rfl rfl (Val.load rfl Try.isAgg116 (by repeat (first | exact .here | refine .there ?_)) (by rfl)) ?_
            refine RW.v 4 rfl (by kernel_rfl) (by kernel_rfl) (by kernel_rfl) (fun _ _ _ h => h) rfl rfl (Val.move rfl) ?_
            refine RW.v 5 rfl (by kernel_rfl) (by kernel_rfl) (by kernel_rfl) (fun _ _ _ h => h) rfl rfl (Val.move rfl) ?_
            refine RW.v 6 rfl (by kernel_rfl) (by kernel_rfl) (by kernel_rfl) (fun _ _ _ h => h) rfl rfl (Val.nilCheck rfl) ?_
            refine RW.v 7 rfl (by kernel_rfl) (by kernel_rfl) (by kernel_rfl) (fun _ _ _ h => h) rfl rfl (Val.fieldAddr 1 rfl Try.underlying118 rfl rfl Try.sizeOf28) ?_
            refine RW.v 8 rfl (by kernel_rfl) (by kernel_rfl) (by kernel_rfl) (fun _ _ _ h => h) rfl rfl (Val.load rfl Try.isAgg28 (by repeat (first | exact .here | refine .there ?_)) (by rfl)) ?_
            first | (refine RW.v 9 rfl (by kernel_rfl) (by kernel_rfl) (by kernel_rfl) (fun _ _ _ h => h) rfl rfl (Val.indexAddrN rfl rfl Try.underlying116 Try.sizeOf28 (by omega)) ?_) | (refine RW.v 9 rfl (by kernel_rfl) (by kernel_rfl) (by kernel_rfl) (fun _ _ _ h => h) rfl rfl (Val.indexAddr rfl rfl Try.underlying116 Try.sizeOf28 (by omega) (by omega)) ?_)
            refine RW.eN 10 rfl (by kernel_rfl) rfl (Eff.storeX (l' := (l.set t.toNat now).map (Value.int .u64)) rfl rfl rfl (by repeat (first | exact .here | apply Upd.there)) (by rw [Nat.zero_add, Nat.mul_one]; exact set_map l t.toNat now) (by unfold inR at ht; simp; omega) Try.sizeOf28) (fun x => ⟨_, (by repeat (first | exact .nil | apply Pick.cons | exact .here | apply Ext.there))⟩) ?_
            intro _ _
            refine RW.done (by kernel_rfl) ?_
            refine PQ.seq ?_
            refine CW.seq ?_
            refine CW.region ?_
            refine LW.v rfl rfl (Val.move rfl) ?_
            refine LW.v rfl rfl (Val.nilCheck rfl) ?_
            refine LW.v rfl rfl (Val.fieldAddr 1 rfl Try.underlying118 rfl rfl Try.sizeOf28) ?_
            refine LW.v rfl rfl (Val.load rfl Try.isAgg28 (by repeat (first | exact .here | refine .there ?_)) (by rfl)) ?_
            refine LW.v rfl rfl (Val.assign rfl) ?_
            refine LW.v rfl rfl (Val.assign rfl) ?_
            refine LW.nil ?_
            refine PQ.seq ?_
            refine CW.ret ?_
            refine PQ.ret2 rfl rfl rfl ?_
            intro w' hw; refine ⟨(), trivial, rfl, ?_⟩
            have h2 := hw.pick (ss := [[(b, rfB now a l.length)], [(a, rfA (l.set t.toNat now))]]) (by repeat (first | exact .nil | apply Pick.cons | exact .here | apply Ext.there))
            unfold rfG
            rw [List.length_set]
            exact h2
    · rw [show enF now l t = (l, 0, 7) from (if_pos ht).trans (if_neg h0)]
      have hge := hp _ (getD_mem (l := l) (t := t.toNat) (by unfold inR at ht; omega))
      refine V.calls (rfG b a now l) Try.func30 rfl Try.ntmps30 (Nat.le_of_ble_eq_true rfl) hs ?_
      refine CW.seq ?_
      refine CW.region ?_
      refine LW.v rfl rfl (Val.assign rfl) ?_
      refine LW.v rfl rfl (Val.assign rfl) ?_
      refine LW.nil ?_
      refine PQ.seq ?_
      refine CW.seq ?_
      refine CW.seq ?_
      refine CW.region ?_
      refine LW.v rfl rfl (Val.move rfl) ?_
      refine LW.v rfl rfl (Val.cmp rfl rfl rfl) ?_
      refine LW.v rfl rfl (Val.move rfl) ?_
      refine LW.split (d := 8) rfl (fun h8 => ?_) (fun h8 => ?_)
      · exact absurd (bT h8) (by unfold inR at ht; omega)
      · replace h8 := bF h8
        refine LW.v rfl rfl (Val.move rfl) ?_
        refine LW.v rfl rfl (Val.move rfl) ?_
        refine LW.v rfl rfl (Val.nilCheck rfl) ?_
        refine LW.v rfl rfl (Val.fieldAddr 0 rfl Try.underlying118 rfl rfl Try.sizeOf116) ?_
        refine LW.v rfl rfl (Val.load rfl Try.isAgg116 (by repeat (first | exact .here | refine .there ?_)) (by rfl)) ?_
        refine LW.v rfl rfl (Val.lenSl rfl Try.underlying116) ?_
        refine LW.v rfl rfl (Val.cmp rfl rfl rfl) ?_
        refine LW.v rfl rfl (Val.pick_f rfl rfl) ?_
        refine LW.nil ?_
        refine PQ.seq ?_
        refine CW.cond rfl (fun h16 => ?_) (fun h16 => ?_)
        · exact absurd (bT h16) (by unfold inR at ht; omega)
        · replace h16 := bF h16
          refine CW.skip ?_
          refine PQ.seq ?_
          refine CW.seq ?_
          refine CW.seq ?_
          refine CW.region ?_
          refine LW.v rfl rfl (Val.move rfl) ?_
          refine LW.v rfl rfl (Val.nilCheck rfl) ?_
          refine LW.v rfl rfl (Val.fieldAddr 0 rfl Try.underlying118 rfl rfl Try.sizeOf116) ?_
          refine LW.v rfl rfl (Val.load rfl Try.isAgg116 (by repeat (first | exact .here | refine .there ?_)) (by rfl)) ?_
          refine LW.v rfl rfl (Val.move rfl) ?_
          first | (refine LW.v rfl rfl (Val.indexAddrN rfl rfl Try.underlying116 Try.sizeOf28 (by omega)) ?_) | (refine LW.v rfl rfl (Val.indexAddr rfl rfl Try.underlying116 Try.sizeOf28 (by omega) (by omega)) ?_)
          refine LW.v rfl rfl (Val.load rfl Try.isAgg28 (by repeat (first | exact .here | refine .there ?_)) (v := .int .u64 (l.getD t.toNat 0)) (by simpa using getD_map (by first | (unfold inR at ht; omega) | omega))) ?_
          refine LW.v rfl rfl (Val.cmp rfl rfl rfl) ?_
          refine LW.nil ?_
          refine PQ.seq ?_
          refine CW.cond rfl (fun h24 => ?_) (fun h24 => ?_)
          · replace h24 := bT h24
            refine CW.seq ?_
            refine CW.region ?_
            refine LW.v rfl rfl (Val.assign rfl) ?_
            refine LW.v rfl rfl (Val.assign rfl) ?_
            refine LW.nil ?_
            refine PQ.seq ?_
            refine CW.ret ?_
            refine PQ.then_ret ?_
            refine PQ.ret2 rfl rfl rfl ?_
            intro w' hw; exact ⟨(), trivial, rfl, hw.pick (by repeat (first | exact .nil | apply Pick.cons | exact .here | apply Ext.there))⟩
          · exact absurd (bF h24) (by omega)
  · rw [show enF now l t = (l, 0, 1) from if_neg ht]
    refine V.calls (rfG b a now l) Try.func30 rfl Try.ntmps30 (Nat.le_of_ble_eq_true rfl) hs ?_
    refine CW.seq ?_
    refine CW.region ?_
    refine LW.v rfl rfl (Val.assign rfl) ?_
    refine LW.v rfl rfl (Val.assign rfl) ?_
    refine LW.nil ?_
    refine PQ.seq ?_
    refine CW.seq ?_
    refine CW.seq ?_
    refine CW.region ?_
    refine LW.v rfl rfl (Val.move rfl) ?_
    refine LW.v rfl rfl (Val.cmp rfl rfl rfl) ?_
    refine LW.v rfl rfl (Val.move rfl) ?_
    refine LW.split (d := 8) rfl (fun h8 => ?_) (fun h8 => ?_)
    · replace h8 := bT h8
      refine LW.p rfl rfl ?_
      refine LW.p rfl rfl ?_
      refine LW.p rfl rfl ?_
      refine LW.p rfl rfl ?_
      refine LW.p rfl rfl ?_
      refine LW.p rfl rfl ?_
      refine LW.p rfl rfl ?_
      refine LW.v rfl rfl (Val.pick_t rfl rfl) ?_
      refine LW.nil ?_
      refine PQ.seq ?_
      refine CW.cond_t rfl ?_
      refine CW.seq ?_
      refine CW.region ?_
      refine LW.v rfl rfl (Val.assign rfl) ?_
      refine LW.v rfl rfl (Val.assign rfl) ?_
      refine LW.nil ?_
      refine PQ.seq ?_
      refine CW.ret ?_
      refine PQ.then_ret ?_
      refine PQ.ret2 rfl rfl rfl ?_
      intro w' hw; exact ⟨(), trivial, rfl, hw.pick (by repeat (first | exact .nil | apply Pick.cons | exact .here | apply Ext.there))⟩
    · replace h8 := bF h8
      refine LW.v rfl rfl (Val.move rfl) ?_
      refine LW.v rfl rfl (Val.move rfl) ?_
      refine LW.v rfl rfl (Val.nilCheck rfl) ?_
      refine LW.v rfl rfl (Val.fieldAddr 0 rfl Try.underlying118 rfl rfl Try.sizeOf116) ?_
      refine LW.v rfl rfl (Val.load rfl Try.isAgg116 (by repeat (first | exact .here | refine .there ?_)) (by rfl)) ?_
      refine LW.v rfl rfl (Val.lenSl rfl Try.underlying116) ?_
      refine LW.v rfl rfl (Val.cmp rfl rfl rfl) ?_
      refine LW.v rfl rfl (Val.pick_f rfl rfl) ?_
      refine LW.nil ?_
      refine PQ.seq ?_
      refine CW.cond rfl (fun h16 => ?_) (fun h16 => ?_)
      · replace h16 := bT h16
        refine CW.seq ?_
        refine CW.region ?_
        refine LW.v rfl rfl (Val.assign rfl) ?_
        refine LW.v rfl rfl (Val.assign rfl) ?_
        refine LW.nil ?_
        refine PQ.seq ?_
        refine CW.ret ?_
        refine PQ.then_ret ?_
        refine PQ.ret2 rfl rfl rfl ?_
        intro w' hw; exact ⟨(), trivial, rfl, hw.pick (by repeat (first | exact .nil | apply Pick.cons | exact .here | apply Ext.there))⟩
      · exact absurd (bF h16) (by unfold inR at ht; omega)
theorem refLeave_c (b a : Nat) (now : Int) (l : List Int) (t : Int) (w : World) (hs : Sat (rfG b a now l) w) : Calls Try.prog 32 [.pointer (some ⟨b, 0, none⟩), .int .i64 t].toArray w fun e w' => ∃ _u : Unit, True ∧ e = .returned (.int .i64 (leF l t).2) ∧ Hp ⟨w, ids (rfG b a now l)⟩ (rfG b a now (leF l t).1) w' := by
  by_cases ht : inR l t
  · by_cases h0 : l.getD t.toNat 0 = 0
    · rw [show leF l t = (l, 12) from (if_pos ht).trans (if_pos h0)]
      refine V.calls (rfG b a now l) Try.func32 rfl Try.ntmps32 (Nat.le_of_ble_eq_true rfl) hs ?_
      refine CW.seq ?_
      refine CW.region ?_
      refine LW.v rfl rfl (Val.assign rfl) ?_
      refine LW.nil ?_
      refine PQ.seq ?_
      refine CW.seq ?_
      refine CW.seq ?_
      refine CW.region ?_
      refine LW.v rfl rfl (Val.move rfl) ?_
      refine LW.v rfl rfl (Val.cmp rfl rfl rfl) ?_
      refine LW.v rfl rfl (Val.move rfl) ?_
      refine LW.split (d := 7) rfl (fun h7 => ?_) (fun h7 => ?_)
      · exact absurd (bT h7) (by unfold inR at ht; omega)
      · replace h7 := bF h7
        refine LW.v rfl rfl (Val.move rfl) ?_
        refine LW.v rfl rfl (Val.move rfl) ?_
        refine LW.v rfl rfl (Val.nilCheck rfl) ?_
        refine LW.v rfl rfl (Val.fieldAddr 0 rfl Try.underlying118 rfl rfl Try.sizeOf116) ?_
        refine LW.v rfl rfl (Val.load rfl Try.isAgg116 (by repeat (first | exact .here | refine .there ?_)) (by rfl)) ?_
        refine LW.v rfl rfl (Val.lenSl rfl Try.underlying116) ?_
        refine LW.v rfl rfl (Val.cmp rfl rfl rfl) ?_
        refine LW.v rfl rfl (Val.pick_f rfl rfl) ?_
        refine LW.nil ?_
        refine PQ.seq ?_
        refine CW.cond rfl (fun h15 => ?_) (fun h15 => ?_)
        · exact absurd (bT h15) (by unfold inR at ht; omega)
        · replace h15 := bF h15
          refine CW.skip ?_
          refine PQ.seq ?_
          refine CW.seq ?_
          refine CW.seq ?_
          refine CW.region ?_
          refine LW.v rfl rfl (Val.move rfl) ?_
          refine LW.v rfl rfl (Val.nilCheck rfl) ?_
          refine LW.v rfl rfl (Val.fieldAddr 0 rfl Try.underlying118 rfl rfl Try.sizeOf116) ?_
          refine LW.v rfl rfl (Val.load rfl Try.isAgg116 (by repeat (first | exact .here | refine .there ?_)) (by rfl)) ?_
          refine LW.v rfl rfl (Val.move rfl) ?_
          first | (refine LW.v rfl rfl (Val.indexAddrN rfl rfl Try.underlying116 Try.sizeOf28 (by omega)) ?_) | (refine LW.v rfl rfl (Val.indexAddr rfl rfl Try.underlying116 Try.sizeOf28 (by omega) (by omega)) ?_)
          refine LW.v rfl rfl (Val.load rfl Try.isAgg28 (by repeat (first | exact .here | refine .there ?_)) (v := .int .u64 (l.getD t.toNat 0)) (by simpa using getD_map (by first | (unfold inR at ht; omega) | omega))) ?_
          refine LW.v rfl rfl (Val.cmp rfl rfl rfl) ?_
          refine LW.nil ?_
          refine PQ.seq ?_
          refine CW.cond rfl (fun h23 => ?_) (fun h23 => ?_)
          · replace h23 := bT h23
            refine CW.seq ?_
            refine CW.region ?_
            refine LW.v rfl rfl (Val.assign rfl) ?_
            refine LW.nil ?_
            refine PQ.seq ?_
            refine CW.ret ?_
            refine PQ.then_ret ?_
            refine PQ.ret1 rfl rfl ?_
            intro w' hw; exact ⟨(), trivial, rfl, hw.pick (by repeat (first | exact .nil | apply Pick.cons | exact .here | apply Ext.there))⟩
          · exact absurd (bF h23) (by simpa using h0)
    · rw [show leF l t = (l.set t.toNat 0, 0) from (if_pos ht).trans (if_neg h0)]
      refine V.calls (rfG b a now l) Try.func32 rfl Try.ntmps32 (Nat.le_of_ble_eq_true rfl) hs ?_
      refine CW.seq ?_
      refine CW.region ?_
      refine LW.v rfl rfl (Val.assign rfl) ?_
      refine LW.nil ?_
      refine PQ.seq ?_
      refine CW.seq ?_
      refine CW.seq ?_
      refine CW.region ?_
      refine LW.v rfl rfl (Val.move rfl) ?_
      refine LW.v rfl rfl (Val.cmp rfl rfl rfl) ?_
      refine LW.v rfl rfl (Val.move rfl) ?_
      refine LW.split (d := 7) rfl (fun h7 => ?_) (fun h7 => ?_)
      · exact absurd (bT h7) (by unfold inR at ht; omega)
      · replace h7 := bF h7
        refine LW.v rfl rfl (Val.move rfl) ?_
        refine LW.v rfl rfl (Val.move rfl) ?_
        refine LW.v rfl rfl (Val.nilCheck rfl) ?_
        refine LW.v rfl rfl (Val.fieldAddr 0 rfl Try.underlying118 rfl rfl Try.sizeOf116) ?_
        refine LW.v rfl rfl (Val.load rfl Try.isAgg116 (by repeat (first | exact .here | refine .there ?_)) (by rfl)) ?_
        refine LW.v rfl rfl (Val.lenSl rfl Try.underlying116) ?_
        refine LW.v rfl rfl (Val.cmp rfl rfl rfl) ?_
        refine LW.v rfl rfl (Val.pick_f rfl rfl) ?_
        refine LW.nil ?_
        refine PQ.seq ?_
        refine CW.cond rfl (fun h15 => ?_) (fun h15 => ?_)
        · exact absurd (bT h15) (by unfold inR at ht; omega)
        · replace h15 := bF h15
          refine CW.skip ?_
          refine PQ.seq ?_
          refine CW.seq ?_
          refine CW.seq ?_
          refine CW.region ?_
          refine LW.v rfl rfl (Val.move rfl) ?_
          refine LW.v rfl rfl (Val.nilCheck rfl) ?_
          refine LW.v rfl rfl (Val.fieldAddr 0 rfl Try.underlying118 rfl rfl Try.sizeOf116) ?_
          refine LW.v rfl rfl (Val.load rfl Try.isAgg116 (by repeat (first | exact .here | refine .there ?_)) (by rfl)) ?_
          refine LW.v rfl rfl (Val.move rfl) ?_
          first | (refine LW.v rfl rfl (Val.indexAddrN rfl rfl Try.underlying116 Try.sizeOf28 (by omega)) ?_) | (refine LW.v rfl rfl (Val.indexAddr rfl rfl Try.underlying116 Try.sizeOf28 (by omega) (by omega)) ?_)
          refine LW.v rfl rfl (Val.load rfl Try.isAgg28 (by repeat (first | exact .here | refine .there ?_)) (v := .int .u64 (l.getD t.toNat 0)) (by simpa using getD_map (by first | (unfold inR at ht; omega) | omega))) ?_
          refine LW.v rfl rfl (Val.cmp rfl rfl rfl) ?_
          refine LW.nil ?_
          refine PQ.seq ?_
          refine CW.cond rfl (fun h23 => ?_) (fun h23 => ?_)
          · exact absurd (bT h23) h0
          · replace h23 := bF h23
            refine CW.skip ?_
            refine PQ.seq ?_
            refine CW.seq ?_
            refine CW.region ?_
            refine LW.v rfl rfl (Val.move rfl) ?_
            refine LW.v rfl rfl (Val.nilCheck rfl) ?_
            refine LW.v rfl rfl (Val.fieldAddr 0 rfl Try.underlying118 rfl rfl Try.sizeOf116) ?_
            refine LW.v rfl rfl (Val.load rfl Try.isAgg116 (by repeat (first | exact .here | refine .there ?_)) (by rfl)) ?_
            refine LW.v rfl rfl (Val.move rfl) ?_
            first | (refine LW.v rfl rfl (Val.indexAddrN rfl rfl Try.underlying116 Try.sizeOf28 (by omega)) ?_) | (refine LW.v rfl rfl (Val.indexAddr rfl rfl Try.underlying116 Try.sizeOf28 (by omega) (by omega)) ?_)
            refine LW.eN rfl (Eff.storeX (l' := (l.set t.toNat 0).map (Value.int .u64)) rfl rfl rfl (by repeat (first | exact .here | apply Upd.there)) (by rw [Nat.zero_add, Nat.mul_one]; exact set_map l t.toNat 0) (by unfold inR at ht; simp; omega) Try.sizeOf28) ?_
            intro _ _
            refine LW.nil ?_
            refine PQ.seq ?_
            refine CW.seq ?_
            refine CW.region ?_
            refine LW.v rfl rfl (Val.assign rfl) ?_
            refine LW.nil ?_
            refine PQ.seq ?_
            refine CW.ret ?_
            refine PQ.ret1 rfl rfl ?_
            intro w' hw; refine ⟨(), trivial, rfl, ?_⟩
            have h2 := hw.pick (ss := [[(b, rfB now a l.length)], [(a, rfA (l.set t.toNat 0))]]) (by repeat (first | exact .nil | apply Pick.cons | exact .here | apply Ext.there))
            unfold rfG
            rw [List.length_set]
            exact h2
  · rw [show leF l t = (l, 1) from if_neg ht]
    refine V.calls (rfG b a now l) Try.func32 rfl Try.ntmps32 (Nat.le_of_ble_eq_true rfl) hs ?_
    refine CW.seq ?_
    refine CW.region ?_
    refine LW.v rfl rfl (Val.assign rfl) ?_
    refine LW.nil ?_
    refine PQ.seq ?_
    refine CW.seq ?_
    refine CW.seq ?_
    refine CW.region ?_
    refine LW.v rfl rfl (Val.move rfl) ?_
    refine LW.v rfl rfl (Val.cmp rfl rfl rfl) ?_
    refine LW.v rfl rfl (Val.move rfl) ?_
    refine LW.split (d := 7) rfl (fun h7 => ?_) (fun h7 => ?_)
    · replace h7 := bT h7
      refine LW.p rfl rfl ?_
      refine LW.p rfl rfl ?_
      refine LW.p rfl rfl ?_
      refine LW.p rfl rfl ?_
      refine LW.p rfl rfl ?_
      refine LW.p rfl rfl ?_
      refine LW.p rfl rfl ?_
      refine LW.v rfl rfl (Val.pick_t rfl rfl) ?_
      refine LW.nil ?_
      refine PQ.seq ?_
      refine CW.cond_t rfl ?_
      refine CW.seq ?_
      refine CW.region ?_
      refine LW.v rfl rfl (Val.assign rfl) ?_
      refine LW.nil ?_
      refine PQ.seq ?_
      refine CW.ret ?_
      refine PQ.then_ret ?_
      refine PQ.ret1 rfl rfl ?_
      intro w' hw; exact ⟨(), trivial, rfl, hw.pick (by repeat (first | exact .nil | apply Pick.cons | exact .here | apply Ext.there))⟩
    · replace h7 := bF h7
      refine LW.v rfl rfl (Val.move rfl) ?_
      refine LW.v rfl rfl (Val.move rfl) ?_
      refine LW.v rfl rfl (Val.nilCheck rfl) ?_
      refine LW.v rfl rfl (Val.fieldAddr 0 rfl Try.underlying118 rfl rfl Try.sizeOf116) ?_
      refine LW.v rfl rfl (Val.load rfl Try.isAgg116 (by repeat (first | exact .here | refine .there ?_)) (by rfl)) ?_
      refine LW.v rfl rfl (Val.lenSl rfl Try.underlying116) ?_
      refine LW.v rfl rfl (Val.cmp rfl rfl rfl) ?_
      refine LW.v rfl rfl (Val.pick_f rfl rfl) ?_
      refine LW.nil ?_
      refine PQ.seq ?_
      refine CW.cond rfl (fun h15 => ?_) (fun h15 => ?_)
      · replace h15 := bT h15
        refine CW.seq ?_
        refine CW.region ?_
        refine LW.v rfl rfl (Val.assign rfl) ?_
        refine LW.nil ?_
        refine PQ.seq ?_
        refine CW.ret ?_
        refine PQ.then_ret ?_
        refine PQ.ret1 rfl rfl ?_
        intro w' hw; exact ⟨(), trivial, rfl, hw.pick (by repeat (first | exact .nil | apply Pick.cons | exact .here | apply Ext.there))⟩
      · exact absurd (bF h15) (by unfold inR at ht; omega)
theorem refAdv_c (b a : Nat) (now : Int) (l : List Int) (w : World) (hs : Sat (rfG b a now l) w) (hin : 0 ≤ now ∧ now < 18446744073709551615) : Calls Try.prog 34 [.pointer (some ⟨b, 0, none⟩)].toArray w fun e w' => ∃ _u : Unit, True ∧ e = .returned (.int .u64 (now + 1)) ∧ Hp ⟨w, ids (rfG b a now l)⟩ (rfG b a (now + 1) l) w' := by
  refine V.calls (rfG b a now l) Try.func34 rfl Try.ntmps34 (Nat.le_of_ble_eq_true rfl) hs ?_
  refine CW.seq ?_
  refine CW.region ?_
  refine LW.v rfl rfl (Val.assign rfl) ?_
  refine LW.nil ?_
  refine PQ.seq ?_
  refine CW.seq ?_
  refine CW.region ?_
  refine LW.v rfl rfl (Val.move rfl) ?_
  refine LW.v rfl rfl (Val.nilCheck rfl) ?_
  refine LW.v rfl rfl (Val.fieldAddr 1 rfl Try.underlying118 rfl rfl Try.sizeOf28) ?_
  refine LW.v rfl rfl (Val.load rfl Try.isAgg28 (by repeat (first | exact .here | refine .there ?_)) (by rfl)) ?_
  refine LW.v rfl rfl (Val.ar rfl rfl rfl (IntWalk.u64_in _ (by omega))) ?_
  refine LW.v rfl rfl (Val.nilCheck rfl) ?_
  refine LW.v rfl rfl (Val.fieldAddr 1 rfl Try.underlying118 rfl rfl Try.sizeOf28) ?_
  refine LW.eN rfl (Eff.store rfl rfl rfl (by repeat (first | exact .here | apply Upd.there)) (by rfl) (by rfl) Try.sizeOf28) ?_
  intro _ _
  refine LW.nil ?_
  refine PQ.seq ?_
  refine CW.seq ?_
  refine CW.region ?_
  refine LW.v rfl rfl (Val.move rfl) ?_
  refine LW.v rfl rfl (Val.nilCheck rfl) ?_
  refine LW.v rfl rfl (Val.fieldAddr 1 rfl Try.underlying118 rfl rfl Try.sizeOf28) ?_
  refine LW.v rfl rfl (Val.load rfl Try.isAgg28 (by repeat (first | exact .here | refine .there ?_)) (by rfl)) ?_
  refine LW.v rfl rfl (Val.assign rfl) ?_
  refine LW.nil ?_
  refine PQ.seq ?_
  refine CW.ret ?_
  refine PQ.ret1 rfl rfl ?_
  intro w' hw; exact ⟨(), trivial, rfl, hw.pick (by repeat (first | exact .nil | apply Pick.cons | exact .here | apply Ext.there))⟩
theorem refInside_c (b a : Nat) (now : Int) (l : List Int) (t : Int) (w : World) (hs : Sat (rfG b a now l) w) (hp : ∀ x ∈ l, 0 ≤ x) : Calls Try.prog 64 [.pointer (some ⟨b, 0, none⟩), .int .i64 t].toArray w fun e w' => e = .returned (.tuple #[.int .u64 (inF l t).1, .bool (inF l t).2]) ∧ Below w.heap.size w w' := by
  by_cases ht : inR l t
  · rw [show inF l t = (l.getD t.toNat 0, l.getD t.toNat 0 != 0) from if_pos ht]
    have hge := hp _ (getD_mem (l := l) (t := t.toNat) (by unfold inR at ht; omega))
    refine V.calls (rfG b a now l) Try.func64 rfl Try.ntmps64 (Nat.le_of_ble_eq_true rfl) hs ?_
    refine CW.seq ?_
    refine CW.region ?_
    refine LW.v rfl rfl (Val.assign rfl) ?_
    refine LW.v rfl rfl (Val.assign rfl) ?_
    refine LW.nil ?_
    refine PQ.seq ?_
    refine CW.seq ?_
    refine CW.seq ?_
    refine CW.region ?_
    refine LW.v rfl rfl (Val.move rfl) ?_
    refine LW.v rfl rfl (Val.cmp rfl rfl rfl) ?_
    refine LW.v rfl rfl (Val.move rfl) ?_
    refine LW.split (d := 8) rfl (fun h8 => ?_) (fun h8 => ?_)
    · exact absurd (bT h8) (by unfold inR at ht; omega)
    · replace h8 := bF h8
      refine LW.v rfl rfl (Val.move rfl) ?_
      refine LW.v rfl rfl (Val.move rfl) ?_
      refine LW.v rfl rfl (Val.nilCheck rfl) ?_
      refine LW.v rfl rfl (Val.fieldAddr 0 rfl Try.underlying118 rfl rfl Try.sizeOf116) ?_
      refine LW.v rfl rfl (Val.load rfl Try.isAgg116 (by repeat (first | exact .here | refine .there ?_)) (by rfl)) ?_
      refine LW.v rfl rfl (Val.lenSl rfl Try.underlying116) ?_
      refine LW.v rfl rfl (Val.cmp rfl rfl rfl) ?_
      refine LW.v rfl rfl (Val.pick_f rfl rfl) ?_
      refine LW.nil ?_
      refine PQ.seq ?_
      refine CW.cond rfl (fun h16 => ?_) (fun h16 => ?_)
      · exact absurd (bT h16) (by unfold inR at ht; omega)
      · replace h16 := bF h16
        refine CW.skip ?_
        refine PQ.seq ?_
        refine CW.seq ?_
        refine CW.quiet mixed (by kernel_rfl) ?_
        refine QW.v rfl rfl (Val.move rfl) ?_
        refine QW.v rfl rfl (Val.nilCheck rfl) ?_
        refine QW.v rfl rfl (Val.fieldAddr 0 rfl Try.underlying118 rfl rfl Try.sizeOf116) ?_
        refine QW.v rfl rfl (Val.load rfl Try.isAgg116 (by repeat (first | exact .here | refine .there ?_)) (by rfl)) ?_
        refine QW.v rfl rfl (Val.move rfl) ?_
        first | (refine QW.v rfl rfl (Val.indexAddrN rfl rfl Try.underlying116 Try.sizeOf28 (by omega)) ?_) | (refine QW.v rfl rfl (Val.indexAddr rfl rfl Try.underlying116 Try.sizeOf28 (by omega) (by omega)) ?_)
        refine QW.v rfl rfl (Val.load rfl Try.isAgg28 (by repeat (first | exact .here | refine .there ?_)) (v := .int .u64 (l.getD t.toNat 0)) (by simpa using getD_map (by first | (unfold inR at ht; omega) | omega))) ?_
        refine QW.v rfl rfl (Val.move rfl) ?_
        refine QW.v rfl rfl (Val.nilCheck rfl) ?_
        refine QW.v rfl rfl (Val.fieldAddr 0 rfl Try.underlying118 rfl rfl Try.sizeOf116) ?_
        refine QW.v rfl rfl (Val.load rfl Try.isAgg116 (by repeat (first | exact .here | refine .there ?_)) (by rfl)) ?_
        refine QW.v rfl rfl (Val.move rfl) ?_
        first | (refine QW.v rfl rfl (Val.indexAddrN rfl rfl Try.underlying116 Try.sizeOf28 (by omega)) ?_) | (refine QW.v rfl rfl (Val.indexAddr rfl rfl Try.underlying116 Try.sizeOf28 (by omega) (by omega)) ?_)
        refine QW.v rfl rfl (Val.load rfl Try.isAgg28 (by repeat (first | exact .here | refine .there ?_)) (v := .int .u64 (l.getD t.toNat 0)) (by simpa using getD_map (by first | (unfold inR at ht; omega) | omega))) ?_
        refine QW.v rfl rfl (Val.cmp rfl rfl rfl) ?_
        refine QW.v rfl rfl (Val.assign rfl) ?_
        refine QW.v rfl rfl (Val.assign rfl) ?_
        refine QW.nil ?_
        refine PQ.seq ?_
        refine CW.ret ?_
        refine PQ.ret2 rfl rfl rfl ?_
        intro w' hw; exact ⟨by rw [pos_ne hge], hw.ro (by repeat (first | exact .nil | apply Pick.cons | exact .here | apply Ext.there)) hs⟩
  · rw [show inF l t = (0, false) from if_neg ht]
    refine V.calls (rfG b a now l) Try.func64 rfl Try.ntmps64 (Nat.le_of_ble_eq_true rfl) hs ?_
    refine CW.seq ?_
    refine CW.region ?_
    refine LW.v rfl rfl (Val.assign rfl) ?_
    refine LW.v rfl rfl (Val.assign rfl) ?_
    refine LW.nil ?_
    refine PQ.seq ?_
    refine CW.seq ?_
    refine CW.seq ?_
    refine CW.region ?_
    refine LW.v rfl rfl (Val.move rfl) ?_
    refine LW.v rfl rfl (Val.cmp rfl rfl rfl) ?_
    refine LW.v rfl rfl (Val.move rfl) ?_
    refine LW.split (d := 8) rfl (fun h8 => ?_) (fun h8 => ?_)
    · replace h8 := bT h8
      refine LW.p rfl rfl ?_
      refine LW.p rfl rfl ?_
      refine LW.p rfl rfl ?_
      refine LW.p rfl rfl ?_
      refine LW.p rfl rfl ?_
      refine LW.p rfl rfl ?_
      refine LW.p rfl rfl ?_
      refine LW.v rfl rfl (Val.pick_t rfl rfl) ?_
      refine LW.nil ?_
      refine PQ.seq ?_
      refine CW.cond_t rfl ?_
      refine CW.seq ?_
      refine CW.region ?_
      refine LW.v rfl rfl (Val.assign rfl) ?_
      refine LW.v rfl rfl (Val.assign rfl) ?_
      refine LW.nil ?_
      refine PQ.seq ?_
      refine CW.ret ?_
      refine PQ.then_ret ?_
      refine PQ.ret2 rfl rfl rfl ?_
      intro w' hw; exact ⟨rfl, hw.ro (by repeat (first | exact .nil | apply Pick.cons | exact .here | apply Ext.there)) hs⟩
    · replace h8 := bF h8
      refine LW.v rfl rfl (Val.move rfl) ?_
      refine LW.v rfl rfl (Val.move rfl) ?_
      refine LW.v rfl rfl (Val.nilCheck rfl) ?_
      refine LW.v rfl rfl (Val.fieldAddr 0 rfl Try.underlying118 rfl rfl Try.sizeOf116) ?_
      refine LW.v rfl rfl (Val.load rfl Try.isAgg116 (by repeat (first | exact .here | refine .there ?_)) (by rfl)) ?_
      refine LW.v rfl rfl (Val.lenSl rfl Try.underlying116) ?_
      refine LW.v rfl rfl (Val.cmp rfl rfl rfl) ?_
      refine LW.v rfl rfl (Val.pick_f rfl rfl) ?_
      refine LW.nil ?_
      refine PQ.seq ?_
      refine CW.cond rfl (fun h16 => ?_) (fun h16 => ?_)
      · replace h16 := bT h16
        refine CW.seq ?_
        refine CW.region ?_
        refine LW.v rfl rfl (Val.assign rfl) ?_
        refine LW.v rfl rfl (Val.assign rfl) ?_
        refine LW.nil ?_
        refine PQ.seq ?_
        refine CW.ret ?_
        refine PQ.then_ret ?_
        refine PQ.ret2 rfl rfl rfl ?_
        intro w' hw; exact ⟨rfl, hw.ro (by repeat (first | exact .nil | apply Pick.cons | exact .here | apply Ext.there)) hs⟩
      · exact absurd (bF h16) (by unfold inR at ht; omega)
theorem refLeast_c (b a : Nat) (now : Int) (l : List Int) (w : World) (hs : Sat (rfG b a now l) w) (hp : ∀ x ∈ l, 0 ≤ x) (hm : l.length ≤ 1000) : Calls Try.prog 62 [.pointer (some ⟨b, 0, none⟩)].toArray w fun e w' => e = .returned (.tuple #[.int .u64 (lsF l).1, .bool (lsF l).2]) ∧ Below w.heap.size w w' := by
  have hstep : ∀ k, k < l.length → lsF (l.take (k + 1)) = lsStep (lsF (l.take k)) (l.getD k 0) := fun k hk => by
    rw [List.take_succ_eq_append_getElem hk, lsF_snoc]; simp [hk]
  refine V.calls (rfG b a now l) Try.func62 rfl Try.ntmps62 (Nat.le_of_ble_eq_true rfl) hs ?_
  refine CW.seq ?_
  refine CW.region ?_
  refine LW.v rfl rfl (Val.assign rfl) ?_
  refine LW.v rfl rfl (Val.assign rfl) ?_
  refine LW.nil ?_
  refine PQ.seq ?_
  refine CW.seq ?_
  refine CW.region ?_
  refine LW.v rfl rfl (Val.assign rfl) ?_
  refine LW.v rfl rfl (Val.assign rfl) ?_
  refine LW.nil ?_
  refine PQ.seq ?_
  refine CW.seq ?_
  refine CW.seq ?_
  refine CW.region ?_
  refine LW.v rfl rfl (Val.assign rfl) ?_
  refine LW.nil ?_
  refine PQ.seq ?_
  refine CW.block ?_
  refine CW.loop (γ := Nat) (fun k => [(0, .pointer (some ⟨b, 0, none⟩)), (4, .int .u64 (lsF (l.take k)).1), (5, .bool (lsF (l.take k)).2), (6, .int .i64 (k : Nat))]) (fun _ => rfG b a now l) (fun k => k ≤ l.length) (fun k => l.length - k) (0) (Nat.zero_le _) (by repeat (first | exact trivial | refine ⟨rfl, ?_⟩)) (by repeat (first | exact .nil | apply Pick.cons | exact .here | apply Ext.there)) ?_
  intro k
  intro hJ
  refine CW.seq ?_
  refine CW.seq ?_
  refine CW.region ?_
  refine LW.v rfl rfl (Val.move rfl) ?_
  refine LW.v rfl rfl (Val.move rfl) ?_
  refine LW.v rfl rfl (Val.nilCheck rfl) ?_
  refine LW.v rfl rfl (Val.fieldAddr 0 rfl Try.underlying118 rfl rfl Try.sizeOf116) ?_
  refine LW.v rfl rfl (Val.load rfl Try.isAgg116 (by repeat (first | exact .here | refine .there ?_)) (by rfl)) ?_
  refine LW.v rfl rfl (Val.lenSl rfl Try.underlying116) ?_
  refine LW.v rfl rfl (Val.cmp rfl rfl rfl) ?_
  refine LW.nil ?_
  refine PQ.seq ?_
  refine CW.cond rfl (fun h13 => ?_) (fun h13 => ?_)
  · replace h13 := bT h13
    refine CW.skip ?_
    refine PQ.seq ?_
    refine CW.seq ?_
    refine CW.block ?_
    refine CW.seq ?_
    refine CW.region ?_
    refine LW.v rfl rfl (Val.move rfl) ?_
    refine LW.v rfl rfl (Val.nilCheck rfl) ?_
    refine LW.v rfl rfl (Val.fieldAddr 0 rfl Try.underlying118 rfl rfl Try.sizeOf116) ?_
    refine LW.v rfl rfl (Val.load rfl Try.isAgg116 (by repeat (first | exact .here | refine .there ?_)) (by rfl)) ?_
    have hge := hp _ (getD_mem (l := l) (t := k) (by omega))
    refine LW.v rfl rfl (Val.move rfl) ?_
    first | (refine LW.v rfl rfl (Val.indexAddrN rfl rfl Try.underlying116 Try.sizeOf28 (by omega)) ?_) | (refine LW.v rfl rfl (Val.indexAddr rfl rfl Try.underlying116 Try.sizeOf28 (by omega) (by omega)) ?_)
    refine LW.v rfl rfl (Val.load rfl Try.isAgg28 (by repeat (first | exact .here | refine .there ?_)) (v := .int .u64 (l.getD k 0)) (by simpa using getD_map (by omega))) ?_
    refine LW.v rfl rfl (Val.cmp rfl rfl rfl) ?_
    refine LW.v rfl rfl (Val.move rfl) ?_
    refine LW.split (d := 24) rfl (fun h24 => ?_) (fun h24 => ?_)
    · replace h24 := bT h24
      refine LW.v rfl rfl (Val.move rfl) ?_
      refine LW.v rfl rfl (Val.not rfl) ?_
      refine LW.v rfl rfl (Val.move rfl) ?_
      refine LW.split (d := 27) rfl (fun h27 => ?_) (fun h27 => ?_)
      · replace h27 := bT h27
        refine LW.p rfl rfl ?_
        refine LW.p rfl rfl ?_
        refine LW.p rfl rfl ?_
        refine LW.p rfl rfl ?_
        refine LW.p rfl rfl ?_
        refine LW.p rfl rfl ?_
        refine LW.p rfl rfl ?_
        refine LW.p rfl rfl ?_
        refine LW.p rfl rfl ?_
        refine LW.v rfl rfl (Val.pick_t rfl rfl) ?_
        refine LW.v rfl rfl (Val.pick_t rfl rfl) ?_
        refine LW.nil ?_
        refine PQ.seq ?_
        refine CW.cond_t rfl ?_
        refine CW.seq ?_
        refine CW.region ?_
        refine LW.v rfl rfl (Val.move rfl) ?_
        refine LW.v rfl rfl (Val.nilCheck rfl) ?_
        refine LW.v rfl rfl (Val.fieldAddr 0 rfl Try.underlying118 rfl rfl Try.sizeOf116) ?_
        refine LW.v rfl rfl (Val.load rfl Try.isAgg116 (by repeat (first | exact .here | refine .there ?_)) (by rfl)) ?_
        refine LW.v rfl rfl (Val.move rfl) ?_
        first | (refine LW.v rfl rfl (Val.indexAddrN rfl rfl Try.underlying116 Try.sizeOf28 (by omega)) ?_) | (refine LW.v rfl rfl (Val.indexAddr rfl rfl Try.underlying116 Try.sizeOf28 (by omega) (by omega)) ?_)
        refine LW.v rfl rfl (Val.load rfl Try.isAgg28 (by repeat (first | exact .here | refine .there ?_)) (v := .int .u64 (l.getD k 0)) (by simpa using getD_map (by omega))) ?_
        refine LW.v rfl rfl (Val.assign rfl) ?_
        refine LW.nil ?_
        refine PQ.seq ?_
        refine CW.region ?_
        refine LW.v rfl rfl (Val.assign rfl) ?_
        refine LW.nil ?_
        refine PQ.in_normal ?_
        refine PQ.seq ?_
        refine CW.region ?_
        refine LW.v rfl rfl (Val.move rfl) ?_
        refine LW.v rfl rfl (Val.ar rfl rfl rfl (IntWalk.i64_in _ (by omega))) ?_
        refine LW.v rfl rfl (Val.assign rfl) ?_
        refine LW.nil ?_
        have hv : lsF (l.take (k + 1)) = (l.getD k 0, true) := by rw [hstep k (by omega)]; unfold lsStep; exact if_pos ⟨by omega, by first | exact .inl h27 | exact .inr h38⟩
        refine PQ.round (k + 1) (by omega) (by omega) ⟨rfl, by rw [hv]; rfl, by rw [hv]; rfl, rfl, trivial⟩ (by repeat (first | exact .nil | apply Pick.cons | exact .here | apply Ext.there))
      · replace h27 := bF h27
        refine LW.v rfl rfl (Val.move rfl) ?_
        refine LW.v rfl rfl (Val.nilCheck rfl) ?_
        refine LW.v rfl rfl (Val.fieldAddr 0 rfl Try.underlying118 rfl rfl Try.sizeOf116) ?_
        refine LW.v rfl rfl (Val.load rfl Try.isAgg116 (by repeat (first | exact .here | refine .there ?_)) (by rfl)) ?_
        refine LW.v rfl rfl (Val.move rfl) ?_
        first | (refine LW.v rfl rfl (Val.indexAddrN rfl rfl Try.underlying116 Try.sizeOf28 (by omega)) ?_) | (refine LW.v rfl rfl (Val.indexAddr rfl rfl Try.underlying116 Try.sizeOf28 (by omega) (by omega)) ?_)
        refine LW.v rfl rfl (Val.load rfl Try.isAgg28 (by repeat (first | exact .here | refine .there ?_)) (v := .int .u64 (l.getD k 0)) (by simpa using getD_map (by omega))) ?_
        refine LW.v rfl rfl (Val.move rfl) ?_
        refine LW.v rfl rfl (Val.cmp rfl rfl rfl) ?_
        refine LW.v rfl rfl (Val.pick_f rfl rfl) ?_
        refine LW.v rfl rfl (Val.pick_t rfl rfl) ?_
        refine LW.nil ?_
        refine PQ.seq ?_
        refine CW.cond rfl (fun h38 => ?_) (fun h38 => ?_)
        · replace h38 := bT h38
          refine CW.seq ?_
          refine CW.region ?_
          refine LW.v rfl rfl (Val.move rfl) ?_
          refine LW.v rfl rfl (Val.nilCheck rfl) ?_
          refine LW.v rfl rfl (Val.fieldAddr 0 rfl Try.underlying118 rfl rfl Try.sizeOf116) ?_
          refine LW.v rfl rfl (Val.load rfl Try.isAgg116 (by repeat (first | exact .here | refine .there ?_)) (by rfl)) ?_
          refine LW.v rfl rfl (Val.move rfl) ?_
          first | (refine LW.v rfl rfl (Val.indexAddrN rfl rfl Try.underlying116 Try.sizeOf28 (by omega)) ?_) | (refine LW.v rfl rfl (Val.indexAddr rfl rfl Try.underlying116 Try.sizeOf28 (by omega) (by omega)) ?_)
          refine LW.v rfl rfl (Val.load rfl Try.isAgg28 (by repeat (first | exact .here | refine .there ?_)) (v := .int .u64 (l.getD k 0)) (by simpa using getD_map (by omega))) ?_
          refine LW.v rfl rfl (Val.assign rfl) ?_
          refine LW.nil ?_
          refine PQ.seq ?_
          refine CW.region ?_
          refine LW.v rfl rfl (Val.assign rfl) ?_
          refine LW.nil ?_
          refine PQ.in_normal ?_
          refine PQ.seq ?_
          refine CW.region ?_
          refine LW.v rfl rfl (Val.move rfl) ?_
          refine LW.v rfl rfl (Val.ar rfl rfl rfl (IntWalk.i64_in _ (by omega))) ?_
          refine LW.v rfl rfl (Val.assign rfl) ?_
          refine LW.nil ?_
          have hv : lsF (l.take (k + 1)) = (l.getD k 0, true) := by rw [hstep k (by omega)]; unfold lsStep; exact if_pos ⟨by omega, by first | exact .inl h27 | exact .inr h38⟩
          refine PQ.round (k + 1) (by omega) (by omega) ⟨rfl, by rw [hv]; rfl, by rw [hv]; rfl, rfl, trivial⟩ (by repeat (first | exact .nil | apply Pick.cons | exact .here | apply Ext.there))
        · replace h38 := bF h38
          refine CW.skip ?_
          refine PQ.in_normal ?_
          refine PQ.seq ?_
          refine CW.region ?_
          refine LW.v rfl rfl (Val.move rfl) ?_
          refine LW.v rfl rfl (Val.ar rfl rfl rfl (IntWalk.i64_in _ (by omega))) ?_
          refine LW.v rfl rfl (Val.assign rfl) ?_
          refine LW.nil ?_
          have hv : lsF (l.take (k + 1)) = lsF (l.take k) := by rw [hstep k (by omega)]; unfold lsStep; exact if_neg (fun hc => by rcases hc.2 with h | h; (rw [h27] at h; cases h); omega)
          refine PQ.round (k + 1) (by omega) (by omega) ⟨rfl, by rw [hv]; rfl, by rw [hv]; rfl, rfl, trivial⟩ (by repeat (first | exact .nil | apply Pick.cons | exact .here | apply Ext.there))
    · replace h24 := bF h24
      refine LW.p rfl rfl ?_
      refine LW.p rfl rfl ?_
      refine LW.p rfl rfl ?_
      refine LW.p rfl rfl ?_
      refine LW.p rfl rfl ?_
      refine LW.p rfl rfl ?_
      refine LW.p rfl rfl ?_
      refine LW.p rfl rfl ?_
      refine LW.p rfl rfl ?_
      refine LW.p rfl rfl ?_
      refine LW.p rfl rfl ?_
      refine LW.p rfl rfl ?_
      refine LW.p rfl rfl ?_
      refine LW.v rfl rfl (Val.pick_f rfl rfl) ?_
      refine LW.nil ?_
      refine PQ.seq ?_
      refine CW.cond_f rfl ?_
      refine CW.skip ?_
      refine PQ.in_normal ?_
      refine PQ.seq ?_
      refine CW.region ?_
      refine LW.v rfl rfl (Val.move rfl) ?_
      refine LW.v rfl rfl (Val.ar rfl rfl rfl (IntWalk.i64_in _ (by omega))) ?_
      refine LW.v rfl rfl (Val.assign rfl) ?_
      refine LW.nil ?_
      have hv : lsF (l.take (k + 1)) = lsF (l.take k) := by rw [hstep k (by omega)]; unfold lsStep; exact if_neg (fun hc => hc.1 (by omega))
      refine PQ.round (k + 1) (by omega) (by omega) ⟨rfl, by rw [hv]; rfl, by rw [hv]; rfl, rfl, trivial⟩ (by repeat (first | exact .nil | apply Pick.cons | exact .here | apply Ext.there))
  · replace h13 := bF h13
    refine CW.exit ?_
    refine PQ.then_exit ?_
    refine PQ.then_exit ?_
    refine PQ.in_here ?_
    refine PQ.seq ?_
    refine CW.seq ?_
    refine CW.region ?_
    refine LW.v rfl rfl (Val.move rfl) ?_
    refine LW.v rfl rfl (Val.move rfl) ?_
    refine LW.v rfl rfl (Val.assign rfl) ?_
    refine LW.v rfl rfl (Val.assign rfl) ?_
    refine LW.nil ?_
    refine PQ.seq ?_
    refine CW.ret ?_
    refine PQ.ret2 rfl rfl rfl ?_
    intro w' hw; exact ⟨by rw [List.take_of_length_le (by omega)], hw.ro (by repeat (first | exact .nil | apply Pick.cons | exact .here | apply Ext.there)) hs⟩
theorem refQuiet_c (b a : Nat) (now : Int) (l : List Int) (e : Int) (w : World) (hs : Sat (rfG b a now l) w) (hm : l.length ≤ 1000) : Calls Try.prog 63 [.pointer (some ⟨b, 0, none⟩), .int .u64 e].toArray w fun r w' => r = .returned (.bool (quF l e)) ∧ Below w.heap.size w w' := by
  refine V.calls (rfG b a now l) Try.func63 rfl Try.ntmps63 (Nat.le_of_ble_eq_true rfl) hs ?_
  refine CW.seq ?_
  refine CW.region ?_
  refine LW.v rfl rfl (Val.assign rfl) ?_
  refine LW.nil ?_
  refine PQ.seq ?_
  refine CW.seq ?_
  refine CW.seq ?_
  refine CW.region ?_
  refine LW.v rfl rfl (Val.assign rfl) ?_
  refine LW.nil ?_
  refine PQ.seq ?_
  refine CW.block ?_
  refine CW.loop (γ := Nat) (fun k => [(0, .pointer (some ⟨b, 0, none⟩)), (1, .int .u64 e), (5, .int .i64 (k : Nat))]) (fun _ => rfG b a now l) (fun k => k ≤ l.length ∧ ∀ i, i < k → (!(decide (0 < l.getD i 0) && decide (l.getD i 0 ≤ e))) = true) (fun k => l.length - k) (0) ⟨Nat.zero_le _, fun i hi => by omega⟩ (by repeat (first | exact trivial | refine ⟨rfl, ?_⟩)) (by repeat (first | exact .nil | apply Pick.cons | exact .here | apply Ext.there)) ?_
  intro k
  intro hJ
  refine CW.seq ?_
  refine CW.seq ?_
  refine CW.region ?_
  refine LW.v rfl rfl (Val.move rfl) ?_
  refine LW.v rfl rfl (Val.move rfl) ?_
  refine LW.v rfl rfl (Val.nilCheck rfl) ?_
  refine LW.v rfl rfl (Val.fieldAddr 0 rfl Try.underlying118 rfl rfl Try.sizeOf116) ?_
  refine LW.v rfl rfl (Val.load rfl Try.isAgg116 (by repeat (first | exact .here | refine .there ?_)) (by rfl)) ?_
  refine LW.v rfl rfl (Val.lenSl rfl Try.underlying116) ?_
  refine LW.v rfl rfl (Val.cmp rfl rfl rfl) ?_
  refine LW.nil ?_
  refine PQ.seq ?_
  refine CW.cond rfl (fun h12 => ?_) (fun h12 => ?_)
  · replace h12 := bT h12
    refine CW.skip ?_
    refine PQ.seq ?_
    refine CW.seq ?_
    refine CW.block ?_
    refine CW.seq ?_
    refine CW.region ?_
    refine LW.v rfl rfl (Val.move rfl) ?_
    refine LW.v rfl rfl (Val.nilCheck rfl) ?_
    refine LW.v rfl rfl (Val.fieldAddr 0 rfl Try.underlying118 rfl rfl Try.sizeOf116) ?_
    refine LW.v rfl rfl (Val.load rfl Try.isAgg116 (by repeat (first | exact .here | refine .there ?_)) (by rfl)) ?_
    refine LW.v rfl rfl (Val.move rfl) ?_
    first | (refine LW.v rfl rfl (Val.indexAddrN rfl rfl Try.underlying116 Try.sizeOf28 (by omega)) ?_) | (refine LW.v rfl rfl (Val.indexAddr rfl rfl Try.underlying116 Try.sizeOf28 (by omega) (by omega)) ?_)
    refine LW.v rfl rfl (Val.load rfl Try.isAgg28 (by repeat (first | exact .here | refine .there ?_)) (v := .int .u64 (l.getD k 0)) (by simpa using getD_map (by omega))) ?_
    refine LW.v rfl rfl (Val.cmp rfl rfl rfl) ?_
    refine LW.v rfl rfl (Val.move rfl) ?_
    refine LW.split (d := 23) rfl (fun h23 => ?_) (fun h23 => ?_)
    · replace h23 := bT h23
      refine LW.v rfl rfl (Val.move rfl) ?_
      refine LW.v rfl rfl (Val.nilCheck rfl) ?_
      refine LW.v rfl rfl (Val.fieldAddr 0 rfl Try.underlying118 rfl rfl Try.sizeOf116) ?_
      refine LW.v rfl rfl (Val.load rfl Try.isAgg116 (by repeat (first | exact .here | refine .there ?_)) (by rfl)) ?_
      refine LW.v rfl rfl (Val.move rfl) ?_
      first | (refine LW.v rfl rfl (Val.indexAddrN rfl rfl Try.underlying116 Try.sizeOf28 (by omega)) ?_) | (refine LW.v rfl rfl (Val.indexAddr rfl rfl Try.underlying116 Try.sizeOf28 (by omega) (by omega)) ?_)
      refine LW.v rfl rfl (Val.load rfl Try.isAgg28 (by repeat (first | exact .here | refine .there ?_)) (v := .int .u64 (l.getD k 0)) (by simpa using getD_map (by omega))) ?_
      refine LW.v rfl rfl (Val.move rfl) ?_
      refine LW.v rfl rfl (Val.cmp rfl rfl rfl) ?_
      refine LW.v rfl rfl (Val.pick_t rfl rfl) ?_
      refine LW.nil ?_
      refine PQ.seq ?_
      refine CW.cond rfl (fun h33 => ?_) (fun h33 => ?_)
      · replace h33 := bT h33
        refine CW.seq ?_
        refine CW.region ?_
        refine LW.v rfl rfl (Val.assign rfl) ?_
        refine LW.nil ?_
        refine PQ.seq ?_
        refine CW.ret ?_
        refine PQ.in_ret ?_
        refine PQ.then_ret ?_
        refine PQ.then_ret ?_
        refine PQ.in_ret ?_
        refine PQ.then_ret ?_
        refine PQ.ret1 rfl rfl ?_
        intro w' hw; exact ⟨by rw [show quF l e = false from List.all_eq_false.2 ⟨_, getD_mem (l := l) (t := k) (by omega), q_no h23 h33⟩], hw.ro (by repeat (first | exact .nil | apply Pick.cons | exact .here | apply Ext.there)) hs⟩
      · replace h33 := bF h33
        refine CW.skip ?_
        refine PQ.in_normal ?_
        refine PQ.seq ?_
        refine CW.region ?_
        refine LW.v rfl rfl (Val.move rfl) ?_
        refine LW.v rfl rfl (Val.ar rfl rfl rfl (IntWalk.i64_in _ (by omega))) ?_
        refine LW.v rfl rfl (Val.assign rfl) ?_
        refine LW.nil ?_
        refine PQ.round (k + 1) ⟨by omega, fun i hi => by by_cases e0 : i = k; (subst e0; exact q_yes (by first | exact .inl h23 | exact .inr h33)); exact hJ.2 i (by omega)⟩ (by omega) (by repeat (first | exact trivial | refine ⟨rfl, ?_⟩)) (by repeat (first | exact .nil | apply Pick.cons | exact .here | apply Ext.there))
    · replace h23 := bF h23
      refine LW.p rfl rfl ?_
      refine LW.p rfl rfl ?_
      refine LW.p rfl rfl ?_
      refine LW.p rfl rfl ?_
      refine LW.p rfl rfl ?_
      refine LW.p rfl rfl ?_
      refine LW.p rfl rfl ?_
      refine LW.p rfl rfl ?_
      refine LW.p rfl rfl ?_
      refine LW.v rfl rfl (Val.pick_f rfl rfl) ?_
      refine LW.nil ?_
      refine PQ.seq ?_
      refine CW.cond_f rfl ?_
      refine CW.skip ?_
      refine PQ.in_normal ?_
      refine PQ.seq ?_
      refine CW.region ?_
      refine LW.v rfl rfl (Val.move rfl) ?_
      refine LW.v rfl rfl (Val.ar rfl rfl rfl (IntWalk.i64_in _ (by omega))) ?_
      refine LW.v rfl rfl (Val.assign rfl) ?_
      refine LW.nil ?_
      refine PQ.round (k + 1) ⟨by omega, fun i hi => by by_cases e0 : i = k; (subst e0; exact q_yes (by first | exact .inl h23 | exact .inr h33)); exact hJ.2 i (by omega)⟩ (by omega) (by repeat (first | exact trivial | refine ⟨rfl, ?_⟩)) (by repeat (first | exact .nil | apply Pick.cons | exact .here | apply Ext.there))
  · replace h12 := bF h12
    refine CW.exit ?_
    refine PQ.then_exit ?_
    refine PQ.then_exit ?_
    refine PQ.in_here ?_
    refine PQ.seq ?_
    refine CW.seq ?_
    refine CW.region ?_
    refine LW.v rfl rfl (Val.assign rfl) ?_
    refine LW.nil ?_
    refine PQ.seq ?_
    refine CW.ret ?_
    refine PQ.ret1 rfl rfl ?_
    intro w' hw; exact ⟨by rw [show quF l e = true from List.all_eq_true.2 (fun x hx => by obtain ⟨i, hi, rfl⟩ := List.getElem_of_mem hx; have := hJ.2 i (by omega); simpa [hi] using this)], hw.ro (by repeat (first | exact .nil | apply Pick.cons | exact .here | apply Ext.there)) hs⟩
theorem refNewBad_c (n : Int) (w : World) (hn : n < 1 ∨ 4 < n) : Calls Try.prog 27 [.int .i64 n].toArray w fun e w' => e = .returned (.tuple #[.pointer none, .int .i64 2]) ∧ Below w.heap.size w w' := by
  refine V.calls [] Try.func27 rfl Try.ntmps27 (Nat.le_of_ble_eq_true rfl) (V.sat_nil _) ?_
  refine CW.seq ?_
  refine CW.region ?_
  refine LW.v rfl rfl (Val.assign rfl) ?_
  refine LW.v rfl rfl (Val.assign rfl) ?_
  refine LW.nil ?_
  refine PQ.seq ?_
  refine CW.seq ?_
  refine CW.seq ?_
  refine CW.region ?_
  refine LW.v rfl rfl (Val.move rfl) ?_
  refine LW.v rfl rfl (Val.cmp rfl rfl rfl) ?_
  refine LW.v rfl rfl (Val.move rfl) ?_
  refine LW.split (d := 6) rfl (fun h6 => ?_) (fun h6 => ?_)
  · replace h6 := bT h6
    refine LW.p rfl rfl ?_
    refine LW.p rfl rfl ?_
    refine LW.v rfl rfl (Val.pick_t rfl rfl) ?_
    refine LW.nil ?_
    refine PQ.seq ?_
    refine CW.cond_t rfl ?_
    refine CW.seq ?_
    refine CW.region ?_
    refine LW.v rfl rfl (Val.assign rfl) ?_
    refine LW.v rfl rfl (Val.assign rfl) ?_
    refine LW.nil ?_
    refine PQ.seq ?_
    refine CW.ret ?_
    refine PQ.then_ret ?_
    refine PQ.ret2 rfl rfl rfl ?_
    intro w' hw; exact ⟨rfl, hw.below⟩
  · replace h6 := bF h6
    refine LW.v rfl rfl (Val.move rfl) ?_
    refine LW.v rfl rfl (Val.cmp rfl rfl rfl) ?_
    refine LW.v rfl rfl (Val.pick_f rfl rfl) ?_
    refine LW.nil ?_
    refine PQ.seq ?_
    refine CW.cond rfl (fun h9 => ?_) (fun h9 => ?_)
    · replace h9 := bT h9
      refine CW.seq ?_
      refine CW.region ?_
      refine LW.v rfl rfl (Val.assign rfl) ?_
      refine LW.v rfl rfl (Val.assign rfl) ?_
      refine LW.nil ?_
      refine PQ.seq ?_
      refine CW.ret ?_
      refine PQ.then_ret ?_
      refine PQ.ret2 rfl rfl rfl ?_
      intro w' hw; exact ⟨rfl, hw.below⟩
    · exact absurd (bF h9) (by omega)
theorem places118 : ∀ w, ((Array.mapM (fun (f : Field) => do pure (f.offset, ← sizeOf f.type)) (Try.prog.fieldsOf 118) : Sem (Array (Nat × Nat)))).run Try.prog w = .ok [(0, 1), (1, 1)].toArray w := by
  intro w; kernel_rfl
theorem refNew_c (n : Nat) (w : World) (hn : 1 ≤ n ∧ n ≤ 4) : Calls Try.prog 27 [.int .i64 (n : Nat)].toArray w fun e w' => ∃ x : Nat × Nat, True ∧ e = .returned (.tuple #[.pointer (some ⟨x.1, 0, none⟩), .int .i64 0]) ∧ Hp ⟨w, []⟩ (rfG x.1 x.2 1 (List.replicate n 0)) w' := by
  refine V.calls [] Try.func27 rfl Try.ntmps27 (Nat.le_of_ble_eq_true rfl) (V.sat_nil _) ?_
  refine CW.seq ?_
  refine CW.region ?_
  refine LW.v rfl rfl (Val.assign rfl) ?_
  refine LW.v rfl rfl (Val.assign rfl) ?_
  refine LW.nil ?_
  refine PQ.seq ?_
  refine CW.seq ?_
  refine CW.seq ?_
  refine CW.region ?_
  refine LW.v rfl rfl (Val.move rfl) ?_
  refine LW.v rfl rfl (Val.cmp rfl rfl rfl) ?_
  refine LW.v rfl rfl (Val.move rfl) ?_
  refine LW.split (d := 6) rfl (fun h6 => ?_) (fun h6 => ?_)
  · exact absurd (bT h6) (by first | (simp; done) | omega)
  · replace h6 := bF h6
    refine LW.v rfl rfl (Val.move rfl) ?_
    refine LW.v rfl rfl (Val.cmp rfl rfl rfl) ?_
    refine LW.v rfl rfl (Val.pick_f rfl rfl) ?_
    refine LW.nil ?_
    refine PQ.seq ?_
    refine CW.cond rfl (fun h9 => ?_) (fun h9 => ?_)
    · exact absurd (bT h9) (by first | (simp; done) | omega)
    · replace h9 := bF h9
      refine CW.skip ?_
      refine PQ.seq ?_
      refine CW.seq ?_
      refine CW.region ?_
      refine LW.v rfl rfl (Val.move rfl) ?_
      refine LW.e rfl rfl (Eff.makeSlice (by_ := 8) rfl rfl Try.underlying116 (by kernel_rfl) Try.sizeOf28 (by exact Try.zeroValue28) rfl rfl (by omega) (by omega) (by omega)) ?_
      intro b11 _
      refine LW.v rfl rfl (Val.build [_, _] Try.zeroValue118 Try.underlying118 places118 rfl (by rfl)) ?_
      refine LW.e rfl rfl (Eff.boxA rfl) ?_
      intro b13 _
      refine LW.v rfl rfl (Val.assign rfl) ?_
      refine LW.v rfl rfl (Val.assign rfl) ?_
      refine LW.nil ?_
      refine PQ.seq ?_
      refine CW.ret ?_
      refine PQ.ret2 rfl rfl rfl ?_
      intro w' hw; refine ⟨(b13, b11), trivial, rfl, ?_⟩
      have h2 := hw.pick (ss := [[(b13, rfB 1 b11 n)], [(b11, .cells (V.repL [.int .u64 0] n).toArray 28 (0, 0))]]) (by repeat (first | exact .nil | apply Pick.cons | exact .here | apply Ext.there))
      rw [V.repL_one] at h2
      unfold rfG rfA
      rw [List.map_replicate, List.length_replicate]
      exact h2
theorem awake8_c (w : World) : Calls Try.prog 25 [].toArray w fun e w' => e = .returned (.bool true) ∧ Below w.heap.size w w' := by
  refine V.calls [] Try.func25 rfl Try.ntmps25 (Nat.le_of_ble_eq_true rfl) (V.sat_nil _) ?_
  refine CW.seq ?_
  refine CW.region ?_
  refine LW.v rfl rfl (Val.assign rfl) ?_
  refine LW.nil ?_
  refine PQ.seq ?_
  refine CW.seq ?_
  refine CW.region ?_
  refine LW.e rfl rfl (Eff.callM ([]) (by repeat (first | exact .nil | apply Pick.cons | exact .here | apply Ext.there)) rfl Try.call26 (fun w hw hs => new_c 2 w (by omega))) ?_
  rintro ⟨b, a⟩ _
  refine LW.v rfl rfl (Val.move rfl) ?_
  refine LW.v rfl rfl (Val.extract rfl rfl) ?_
  refine LW.v rfl rfl (Val.extract rfl rfl) ?_
  refine LW.v rfl rfl (Val.assign rfl) ?_
  refine LW.v rfl rfl (Val.assign rfl) ?_
  refine LW.nil ?_
  refine PQ.seq ?_
  refine CW.seq ?_
  refine CW.seq ?_
  refine CW.region ?_
  refine LW.v rfl rfl (Val.move rfl) ?_
  refine LW.v rfl rfl (Val.cmp rfl rfl rfl) ?_
  refine LW.re 10 (.bool false) rfl (by rfl) ?_
  refine LW.v rfl rfl (Val.move rfl) ?_
  refine LW.v rfl rfl (Val.move rfl) ?_
  refine LW.v rfl rfl (Val.eqP false rfl rfl Try.underlying49 (.inr ⟨rfl, rfl⟩)) ?_
  refine LW.v rfl rfl (Val.pick_f rfl rfl) ?_
  refine LW.nil ?_
  refine PQ.seq ?_
  refine CW.cond_f rfl ?_
  refine CW.skip ?_
  refine PQ.seq ?_
  refine CW.seq ?_
  refine CW.region ?_
  refine LW.v rfl rfl (Val.move rfl) ?_
  refine LW.e rfl rfl (Eff.callM (rdG b a 1 (List.replicate 2 0)) (by repeat (first | exact .nil | apply Pick.cons | exact .here | apply Ext.there)) rfl Try.call29 (fun w hw hs => enter_c b a 1 (List.replicate 2 0) 0 w hs)) ?_
  intro _ _
  refine LW.re 17 (.tuple #[.int .u64 1, .int .i64 0]) rfl (by rfl) ?_
  refine LW.v rfl rfl (Val.move rfl) ?_
  refine LW.v rfl rfl (Val.extract rfl rfl) ?_
  refine LW.v rfl rfl (Val.extract rfl rfl) ?_
  refine LW.v rfl rfl (Val.assign rfl) ?_
  refine LW.v rfl rfl (Val.assign rfl) ?_
  refine LW.nil ?_
  refine PQ.seq ?_
  refine CW.seq ?_
  refine CW.region ?_
  refine LW.v rfl rfl (Val.move rfl) ?_
  refine LW.v rfl rfl (Val.cmp rfl rfl rfl) ?_
  refine LW.re 21 (.bool true) rfl (by rfl) ?_
  refine LW.v rfl rfl (Val.move rfl) ?_
  refine LW.v rfl rfl (Val.move rfl) ?_
  refine LW.v rfl rfl (Val.cmp rfl rfl rfl) ?_
  refine LW.re 24 (.bool true) rfl (by rfl) ?_
  refine LW.v rfl rfl (Val.pick_t rfl rfl) ?_
  refine LW.v rfl rfl (Val.move rfl) ?_
  refine LW.v rfl rfl (Val.move rfl) ?_
  refine LW.e rfl rfl (Eff.callM (rdG b a 1 (enF 1 (List.replicate 2 0) 0).1) (by repeat (first | exact .nil | apply Pick.cons | exact .here | apply Ext.there)) rfl Try.call33 (fun w hw hs => adv_c b a 1 (enF 1 (List.replicate 2 0) 0).1 w hs (by omega))) ?_
  intro _ _
  refine LW.v rfl rfl (Val.cmp rfl rfl rfl) ?_
  refine LW.re 29 (.bool true) rfl (by rfl) ?_
  refine LW.v rfl rfl (Val.pick_t rfl rfl) ?_
  refine LW.v rfl rfl (Val.move rfl) ?_
  refine LW.v rfl rfl (Val.move rfl) ?_
  refine LW.e rfl rfl (Eff.callV rfl Try.call38 (fun w hw => quiet_c b a (1 + 1) (enF 1 (List.replicate 2 0) 0).1 1 w (hw.sat.pick (ss := rdG b a (1 + 1) (enF 1 (List.replicate 2 0) 0).1) (by repeat (first | exact .nil | apply Pick.cons | exact .here | apply Ext.there))) (by decide) (by decide))) ?_
  intro _ _
  refine LW.re 33 (.bool false) rfl (by rfl) ?_
  refine LW.v rfl rfl (Val.not rfl) ?_
  refine LW.v rfl rfl (Val.pick_t rfl rfl) ?_
  refine LW.v rfl rfl (Val.move rfl) ?_
  refine LW.v rfl rfl (Val.move rfl) ?_
  refine LW.e rfl rfl (Eff.callV rfl Try.call38 (fun w hw => quiet_c b a (1 + 1) (enF 1 (List.replicate 2 0) 0).1 0 w (hw.sat.pick (ss := rdG b a (1 + 1) (enF 1 (List.replicate 2 0) 0).1) (by repeat (first | exact .nil | apply Pick.cons | exact .here | apply Ext.there))) (by decide) (by decide))) ?_
  intro _ _
  refine LW.re 38 (.bool true) rfl (by rfl) ?_
  refine LW.v rfl rfl (Val.pick_t rfl rfl) ?_
  refine LW.v rfl rfl (Val.assign rfl) ?_
  refine LW.nil ?_
  refine PQ.seq ?_
  refine CW.ret ?_
  refine PQ.ret1 rfl rfl ?_
  intro w' hw; exact ⟨rfl, hw.below⟩
theorem alike_c (b a c d : Nat) (now : Int) (l : List Int) (e : Int) (w : World) (hs : Sat (rdG b a now l ++ rfG c d now l) w) (hp : ∀ x ∈ l, 0 ≤ x) (hm : l.length ≤ 1000) : Calls Try.prog 35 [.pointer (some ⟨b, 0, none⟩), .pointer (some ⟨c, 0, none⟩), .int .u64 e].toArray w fun r w' => r = .returned (.bool true) ∧ Below w.heap.size w w' := by
  refine V.calls (rdG b a now l ++ rfG c d now l) Try.func35 rfl Try.ntmps35 (Nat.le_of_ble_eq_true rfl) hs ?_
  refine CW.seq ?_
  refine CW.region ?_
  refine LW.v rfl rfl (Val.assign rfl) ?_
  refine LW.nil ?_
  refine PQ.seq ?_
  refine CW.seq ?_
  refine CW.region ?_
  refine LW.v rfl rfl (Val.move rfl) ?_
  refine LW.e rfl rfl (Eff.callV rfl Try.call39 (fun w hw => least_c b a now l w (hw.sat.pick (ss := rdG b a now l) (by repeat (first | exact .nil | apply Pick.cons | exact .here | apply Ext.there))) hm)) ?_
  intro _ _
  refine LW.v rfl rfl (Val.move rfl) ?_
  refine LW.v rfl rfl (Val.extract rfl rfl) ?_
  refine LW.v rfl rfl (Val.extract rfl rfl) ?_
  refine LW.v rfl rfl (Val.assign rfl) ?_
  refine LW.v rfl rfl (Val.assign rfl) ?_
  refine LW.nil ?_
  refine PQ.seq ?_
  refine CW.seq ?_
  refine CW.region ?_
  refine LW.v rfl rfl (Val.move rfl) ?_
  refine LW.e rfl rfl (Eff.callV rfl Try.call62 (fun w hw => refLeast_c c d now l w (hw.sat.pick (ss := rfG c d now l) (by repeat (first | exact .nil | apply Pick.cons | exact .here | apply Ext.there))) hp hm)) ?_
  intro _ _
  refine LW.v rfl rfl (Val.move rfl) ?_
  refine LW.v rfl rfl (Val.extract rfl rfl) ?_
  refine LW.v rfl rfl (Val.extract rfl rfl) ?_
  refine LW.v rfl rfl (Val.assign rfl) ?_
  refine LW.v rfl rfl (Val.assign rfl) ?_
  refine LW.nil ?_
  refine PQ.seq ?_
  refine CW.seq ?_
  refine CW.seq ?_
  refine CW.quiet mixed (by kernel_rfl) ?_
  refine QW.v rfl rfl (Val.move rfl) ?_
  refine QW.v rfl rfl (Val.move rfl) ?_
  refine QW.v rfl rfl (Val.cmp rfl rfl rfl) ?_
  refine QW.re 28 (.bool false) rfl (by simp) ?_
  refine QW.v rfl rfl (Val.move rfl) ?_
  refine QW.v rfl rfl (Val.move rfl) ?_
  refine QW.v rfl rfl (Val.move rfl) ?_
  refine QW.v rfl rfl (Val.neB rfl rfl Try.underlying4) ?_
  refine QW.re 32 (.bool false) rfl (by simp) ?_
  refine QW.v rfl rfl (Val.pick_f rfl rfl) ?_
  refine QW.v rfl rfl (Val.move rfl) ?_
  refine QW.v rfl rfl (Val.move rfl) ?_
  refine QW.c rfl rfl (Qcall.of rfl Try.call36 (fun w hw => now_c b a now l w (hw.sat.pick (ss := rdG b a now l) (by repeat (first | exact .nil | apply Pick.cons | exact .here | apply Ext.there))))) ?_
  refine QW.v rfl rfl (Val.move rfl) ?_
  refine QW.v rfl rfl (Val.nilCheck rfl) ?_
  refine QW.v rfl rfl (Val.fieldAddr 1 rfl Try.underlying118 rfl rfl Try.sizeOf28) ?_
  refine QW.v rfl rfl (Val.load rfl Try.isAgg28 (by repeat (first | exact .here | refine .there ?_)) (by rfl)) ?_
  refine QW.v rfl rfl (Val.cmp rfl rfl rfl) ?_
  refine QW.re 41 (.bool false) rfl (by simp) ?_
  refine QW.v rfl rfl (Val.pick_f rfl rfl) ?_
  refine QW.v rfl rfl (Val.move rfl) ?_
  refine QW.v rfl rfl (Val.move rfl) ?_
  refine QW.v rfl rfl (Val.move rfl) ?_
  refine QW.c rfl rfl (Qcall.of rfl Try.call38 (fun w hw => quiet_c b a now l e w (hw.sat.pick (ss := rdG b a now l) (by repeat (first | exact .nil | apply Pick.cons | exact .here | apply Ext.there))) hm hp)) ?_
  refine QW.v rfl rfl (Val.move rfl) ?_
  refine QW.v rfl rfl (Val.move rfl) ?_
  refine QW.c rfl rfl (Qcall.of rfl Try.call63 (fun w hw => refQuiet_c c d now l e w (hw.sat.pick (ss := rfG c d now l) (by repeat (first | exact .nil | apply Pick.cons | exact .here | apply Ext.there))) hm)) ?_
  refine QW.v rfl rfl (Val.neB rfl rfl Try.underlying4) ?_
  refine QW.re 50 (.bool false) rfl (by simp) ?_
  refine QW.v rfl rfl (Val.pick_f rfl rfl) ?_
  refine QW.v rfl rfl (Val.move rfl) ?_
  refine QW.v rfl rfl (Val.move rfl) ?_
  refine QW.v rfl rfl (Val.move rfl) ?_
  refine QW.v rfl rfl (Val.nilCheck rfl) ?_
  refine QW.v rfl rfl (Val.fieldAddr 1 rfl Try.underlying118 rfl rfl Try.sizeOf28) ?_
  refine QW.v rfl rfl (Val.load rfl Try.isAgg28 (by repeat (first | exact .here | refine .there ?_)) (by rfl)) ?_
  refine QW.c rfl rfl (Qcall.of rfl Try.call38 (fun w hw => quiet_c b a now l now w (hw.sat.pick (ss := rdG b a now l) (by repeat (first | exact .nil | apply Pick.cons | exact .here | apply Ext.there))) hm hp)) ?_
  refine QW.v rfl rfl (Val.move rfl) ?_
  refine QW.v rfl rfl (Val.move rfl) ?_
  refine QW.v rfl rfl (Val.nilCheck rfl) ?_
  refine QW.v rfl rfl (Val.fieldAddr 1 rfl Try.underlying118 rfl rfl Try.sizeOf28) ?_
  refine QW.v rfl rfl (Val.load rfl Try.isAgg28 (by repeat (first | exact .here | refine .there ?_)) (by rfl)) ?_
  refine QW.c rfl rfl (Qcall.of rfl Try.call63 (fun w hw => refQuiet_c c d now l now w (hw.sat.pick (ss := rfG c d now l) (by repeat (first | exact .nil | apply Pick.cons | exact .here | apply Ext.there))) hm)) ?_
  refine QW.v rfl rfl (Val.neB rfl rfl Try.underlying4) ?_
  refine QW.re 65 (.bool false) rfl (by simp) ?_
  refine QW.v rfl rfl (Val.pick_f rfl rfl) ?_
  refine QW.nil ?_
  refine PQ.seq ?_
  refine CW.cond_f rfl ?_
  refine CW.skip ?_
  refine PQ.seq ?_
  refine CW.seq ?_
  refine CW.seq ?_
  refine CW.region ?_
  refine LW.v rfl rfl (Val.assign rfl) ?_
  refine LW.nil ?_
  refine PQ.seq ?_
  refine CW.block ?_
  refine CW.loop (γ := Nat) (fun k => [(0, .pointer (some ⟨b, 0, none⟩)), (1, .pointer (some ⟨c, 0, none⟩)), (11, .int .i64 ((k : Nat) - 1))]) (fun _ => rdG b a now l ++ rfG c d now l) (fun k => k ≤ l.length + 2) (fun k => l.length + 2 - k) (0) (Nat.zero_le _) (by repeat (first | exact trivial | refine ⟨rfl, ?_⟩)) (by repeat (first | exact .nil | apply Pick.cons | exact .here | apply Ext.there)) ?_
  intro k
  intro hJ
  refine CW.seq ?_
  refine CW.seq ?_
  refine CW.region ?_
  refine LW.v rfl rfl (Val.move rfl) ?_
  refine LW.v rfl rfl (Val.move rfl) ?_
  refine LW.v rfl rfl (Val.nilCheck rfl) ?_
  refine LW.v rfl rfl (Val.fieldAddr 0 rfl Try.underlying118 rfl rfl Try.sizeOf116) ?_
  refine LW.v rfl rfl (Val.load rfl Try.isAgg116 (by repeat (first | exact .here | refine .there ?_)) (by rfl)) ?_
  refine LW.v rfl rfl (Val.lenSl rfl Try.underlying116) ?_
  refine LW.v rfl rfl (Val.cmp rfl rfl rfl) ?_
  refine LW.nil ?_
  refine PQ.seq ?_
  refine CW.cond rfl (fun h73 => ?_) (fun h73 => ?_)
  · replace h73 := bT h73
    refine CW.skip ?_
    refine PQ.seq ?_
    refine CW.seq ?_
    refine CW.block ?_
    refine CW.seq ?_
    refine CW.region ?_
    refine LW.v rfl rfl (Val.move rfl) ?_
    refine LW.v rfl rfl (Val.move rfl) ?_
    refine LW.e rfl rfl (Eff.callV rfl Try.call40 (fun w hw => inside_c b a now l (k - 1) w (hw.sat.pick (ss := rdG b a now l) (by repeat (first | exact .nil | apply Pick.cons | exact .here | apply Ext.there))))) ?_
    intro _ _
    refine LW.v rfl rfl (Val.move rfl) ?_
    refine LW.v rfl rfl (Val.extract rfl rfl) ?_
    refine LW.v rfl rfl (Val.extract rfl rfl) ?_
    refine LW.v rfl rfl (Val.assign rfl) ?_
    refine LW.v rfl rfl (Val.assign rfl) ?_
    refine LW.nil ?_
    refine PQ.seq ?_
    refine CW.seq ?_
    refine CW.region ?_
    refine LW.v rfl rfl (Val.move rfl) ?_
    refine LW.v rfl rfl (Val.move rfl) ?_
    refine LW.e rfl rfl (Eff.callV rfl Try.call64 (fun w hw => refInside_c c d now l (k - 1) w (hw.sat.pick (ss := rfG c d now l) (by repeat (first | exact .nil | apply Pick.cons | exact .here | apply Ext.there))) hp)) ?_
    intro _ _
    refine LW.v rfl rfl (Val.move rfl) ?_
    refine LW.v rfl rfl (Val.extract rfl rfl) ?_
    refine LW.v rfl rfl (Val.extract rfl rfl) ?_
    refine LW.v rfl rfl (Val.assign rfl) ?_
    refine LW.v rfl rfl (Val.assign rfl) ?_
    refine LW.nil ?_
    refine PQ.seq ?_
    refine CW.seq ?_
    refine CW.region ?_
    refine LW.v rfl rfl (Val.move rfl) ?_
    refine LW.v rfl rfl (Val.move rfl) ?_
    refine LW.v rfl rfl (Val.cmp rfl rfl rfl) ?_
    refine LW.re 90 (.bool false) rfl (by simp) ?_
    refine LW.v rfl rfl (Val.move rfl) ?_
    refine LW.v rfl rfl (Val.move rfl) ?_
    refine LW.v rfl rfl (Val.move rfl) ?_
    refine LW.v rfl rfl (Val.neB rfl rfl Try.underlying4) ?_
    refine LW.re 94 (.bool false) rfl (by simp) ?_
    refine LW.v rfl rfl (Val.pick_f rfl rfl) ?_
    refine LW.nil ?_
    refine PQ.seq ?_
    refine CW.cond_f rfl ?_
    refine CW.skip ?_
    refine PQ.in_normal ?_
    refine PQ.seq ?_
    refine CW.region ?_
    refine LW.v rfl rfl (Val.move rfl) ?_
    refine LW.v rfl rfl (Val.ar rfl rfl rfl (IntWalk.i64_in _ (by omega))) ?_
    refine LW.re 75 (.int .i64 (((k + 1 : Nat) : Int) - 1)) rfl (by congr 1; omega) ?_
    refine LW.v rfl rfl (Val.assign rfl) ?_
    refine LW.nil ?_
    refine PQ.round (k + 1) (by omega) (by omega) (by repeat (first | exact trivial | refine ⟨rfl, ?_⟩)) (by repeat (first | exact .nil | apply Pick.cons | exact .here | apply Ext.there))
  · replace h73 := bF h73
    refine CW.exit ?_
    refine PQ.then_exit ?_
    refine PQ.then_exit ?_
    refine PQ.in_here ?_
    refine PQ.seq ?_
    refine CW.seq ?_
    refine CW.region ?_
    refine LW.v rfl rfl (Val.assign rfl) ?_
    refine LW.nil ?_
    refine PQ.seq ?_
    refine CW.ret ?_
    refine PQ.ret1 rfl rfl ?_
    intro w' hw; exact ⟨rfl, hw.ro (by repeat (first | exact .nil | apply Pick.cons | exact .here | apply Ext.there)) hs⟩
theorem en_nonneg {now : Int} {l : List Int} (h : ∀ x ∈ l, 0 ≤ x) (hn : 0 ≤ now) (t : Int) : ∀ x ∈ (enF now l t).1, 0 ≤ x := by
  intro x hx
  unfold enF at hx
  split at hx
  · split at hx
    · rcases List.mem_or_eq_of_mem_set hx with h' | h'
      · exact h x h'
      · omega
    · exact h x hx
  · exact h x hx
theorem en_length (now : Int) (l : List Int) (t : Int) : (enF now l t).1.length = l.length := by
  unfold enF
  split
  · split
    · simp
    · rfl
  · rfl
theorem le_nonneg {l : List Int} (h : ∀ x ∈ l, 0 ≤ x) (t : Int) : ∀ x ∈ (leF l t).1, 0 ≤ x := by
  intro x hx
  unfold leF at hx
  split at hx
  · split at hx
    · exact h x hx
    · rcases List.mem_or_eq_of_mem_set hx with h' | h'
      · exact h x h'
      · omega
  · exact h x hx
theorem le_length (l : List Int) (t : Int) : (leF l t).1.length = l.length := by
  unfold leF
  split
  · split
    · rfl
    · simp
  · rfl
end Go.Proofs.Ytgeblajdjdcghaa
