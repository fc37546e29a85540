/- OverEntries. -/
import Derived.Test.YtgeblajdjdcghaaLbN
import Derived.Lib.Hide
namespace Go.Proofs.Ytgeblajdjdcghaa
open Go Go.RowKit V
set_option linter.unusedVariables false
set_option maxRecDepth 100000
theorem overE_c (y : V.OwnO) (m : Nat) (xs : List Value) (hk : V.ownOk 5 m xs y) (hl : m ≤ 1000) (w : World) (hs : Sat (V.ownS 80 xs y) w) : Calls Try.prog 51 [V.ownV m y].toArray w fun e w' => ∃ _u : Unit, True ∧ e = .returned (.tuple #[]) ∧ Hp ⟨w, ids (V.ownS 80 xs y)⟩ [] w' := by
  rcases y with _ | ⟨g, rest, cap⟩
  · obtain ⟨hx, h0⟩ := hk
    simp only at h0
    subst h0
    obtain rfl : xs = [] := List.length_eq_zero_iff.1 (by omega)
    refine V.calls [] Try.func51 rfl Try.ntmps51 (Nat.le_of_ble_eq_true rfl) (V.sat_nil _) ?_
    refine CW.seq ?_
    refine CW.seq ?_
    refine CW.region ?_
    refine LW.v rfl rfl (Val.assign rfl) ?_
    refine LW.nil ?_
    refine PQ.seq ?_
    refine CW.block ?_
    refine CW.loop (γ := Nat) (fun k => [(0, .slice none 0 0), (2, .int .i64 (k : Nat))]) (fun _ => []) (fun k => k = 0) (fun k => 0) (0) rfl (by repeat (first | exact trivial | refine ⟨rfl, ?_⟩)) (by repeat (first | exact .nil | apply Pick.cons | exact .here | apply Ext.there)) ?_
    intro k
    intro hJ
    refine CW.seq ?_
    refine CW.seq ?_
    refine CW.region ?_
    refine LW.v rfl rfl (Val.move rfl) ?_
    refine LW.v rfl rfl (Val.move rfl) ?_
    refine LW.v rfl rfl (Val.lenSl rfl Try.underlying86) ?_
    refine LW.v rfl rfl (Val.cmp rfl rfl rfl) ?_
    refine LW.nil ?_
    refine PQ.seq ?_
    refine CW.cond rfl (fun h6 => ?_) (fun h6 => ?_)
    · exact absurd (bT h6) (by omega)
    · replace h6 := bF h6
      refine CW.exit ?_
      refine PQ.then_exit ?_
      refine PQ.then_exit ?_
      refine PQ.in_here ?_
      refine PQ.seq ?_
      refine CW.region ?_
      refine LW.v rfl rfl (Val.move rfl) ?_
      refine LW.v rfl rfl (Val.build [_, _, _, _, _] Try.zeroValue80 Try.underlying80 places80 rfl (by rfl)) ?_
      refine LW.e rfl rfl (Eff.buildSlice (rfl) [_, _, _, _, _] Try.underlying86 Try.sizeOf80 (by exact Try.zeroValue80) rfl rfl rfl rfl (by rfl)) ?_
      intro b15 _
      refine LW.e rfl rfl (Eff.appendAny ([.int .i64 (-8), .int .i64 0, .int .u64 0, .int .u64 0, .int .i64 0]) (sz := 5) (bytes := 40) (z := .agg #[.int .i64 0, .int .i64 0, .int .u64 0, .int .u64 0, .int .i64 0]) (xs := []) (m0 := 0) (o := none) (m := 1) (pk := []) rfl rfl Try.underlying86 (by kernel_rfl) rfl (by omega) .nil rfl ⟨rfl, rfl⟩ rfl (fun hm0 => ⟨b15, 0, rfl, fun w hw => V.range_of_block (o := 0) (cs := [.int .i64 (-8), .int .i64 0, .int .u64 0, .int .u64 0, .int .i64 0]) (r := []) (hw.own _ (show InS (b15, .cells ([.int .i64 (-8), .int .i64 0, .int .u64 0, .int .u64 0, .int .i64 0]).toArray 80 (0, 0)) _ from (by repeat (first | exact .here | refine .there ?_))).mem) rfl⟩) rfl (by omega) (by omega)) ?_
      intro _ _
      refine LW.nil ?_
      refine PQ.end0 rfl ?_
      intro w' hw; exact ⟨(), trivial, rfl, hw.pick (ss := []) .nil⟩
  · obtain ⟨hx, hcap⟩ := hk
    simp only at hcap
    obtain ⟨cs, hcs⟩ : ∃ cs, cs = xs ++ rest := ⟨_, rfl⟩
    have hlen : cs.length = cap * 5 := by rw [hcs, List.length_append]; exact hcap
    have hmc : m ≤ cap := by omega
    refine V.calls [[(g, .cells cs.toArray 80 (0, 0))]] Try.func51 rfl Try.ntmps51 (Nat.le_of_ble_eq_true rfl) (by rw [hcs]; exact hs) ?_
    refine CW.seq ?_
    refine CW.seq ?_
    refine CW.region ?_
    refine LW.v rfl rfl (Val.assign rfl) ?_
    refine LW.nil ?_
    refine PQ.seq ?_
    refine CW.block ?_
    refine CW.loop (γ := Nat × List Value) (fun k => [(0, .slice (some ⟨g, 0, none⟩) m cap), (2, .int .i64 (k.1 : Nat))]) (fun k => [[(g, .cells k.2.toArray 80 (0, 0))]]) (fun k => k.1 ≤ m ∧ k.2.length = cap * 5) (fun k => m - k.1) ((0, cs)) ⟨Nat.zero_le _, hlen⟩ (by repeat (first | exact trivial | refine ⟨rfl, ?_⟩)) (by repeat (first | exact .nil | apply Pick.cons | exact .here | apply Ext.there)) ?_
    intro k
    rintro ⟨hj1, hj2⟩
    refine CW.seq ?_
    refine CW.seq ?_
    refine CW.region ?_
    refine LW.v rfl rfl (Val.move rfl) ?_
    refine LW.v rfl rfl (Val.move rfl) ?_
    refine LW.v rfl rfl (Val.lenSl rfl Try.underlying86) ?_
    refine LW.v rfl rfl (Val.cmp rfl rfl rfl) ?_
    refine LW.nil ?_
    refine PQ.seq ?_
    refine CW.cond rfl (fun h6 => ?_) (fun h6 => ?_)
    · replace h6 := bT h6
      refine CW.skip ?_
      refine PQ.seq ?_
      refine CW.seq ?_
      refine CW.block ?_
      refine CW.region ?_
      refine LW.v rfl rfl (Val.move rfl) ?_
      refine LW.v rfl rfl (Val.move rfl) ?_
      refine LW.v rfl rfl (Val.build [_, _, _, _, _] Try.zeroValue80 Try.underlying80 places80 rfl (by rfl)) ?_
      first | (refine LW.v rfl rfl (Val.indexAddrN rfl rfl Try.underlying86 Try.sizeOf80 (by omega)) ?_) | (refine LW.v rfl rfl (Val.indexAddr rfl rfl Try.underlying86 Try.sizeOf80 (by omega) (by omega)) ?_)
      refine LW.eN rfl (Eff.storeA (cs := [.int .i64 (-9), .int .i64 0, .int .u64 0, .int .u64 0, .int .i64 0]) rfl rfl (by repeat (first | exact .here | apply Upd.there)) rfl (by simp only [List.length_cons, List.length_nil]; omega) Try.sizeOf80 rfl) ?_
      intro _ _
      refine LW.nil ?_
      refine PQ.in_normal ?_
      refine PQ.seq ?_
      refine CW.region ?_
      refine LW.v rfl rfl (Val.move rfl) ?_
      refine LW.v rfl rfl (Val.ar rfl rfl rfl (IntWalk.i64_in _ (by omega))) ?_
      refine LW.v rfl rfl (Val.assign rfl) ?_
      refine LW.nil ?_
      refine PQ.round ((k.1 + 1, V.splice k.2 (0 + k.1 * 5) ([.int .i64 (-9), .int .i64 0, .int .u64 0, .int .u64 0, .int .i64 0]))) ⟨by simp only; omega, by rw [V.length_splice]; exact hj2⟩ (by simp only; omega) (by repeat (first | exact trivial | refine ⟨rfl, ?_⟩)) (by repeat (first | exact .nil | apply Pick.cons | exact .here | apply Ext.there))
    · replace h6 := bF h6
      refine CW.exit ?_
      refine PQ.then_exit ?_
      refine PQ.then_exit ?_
      refine PQ.in_here ?_
      refine PQ.seq ?_
      refine CW.region ?_
      refine LW.v rfl rfl (Val.move rfl) ?_
      refine LW.v rfl rfl (Val.build [_, _, _, _, _] Try.zeroValue80 Try.underlying80 places80 rfl (by rfl)) ?_
      refine LW.e rfl rfl (Eff.buildSlice (rfl) [_, _, _, _, _] Try.underlying86 Try.sizeOf80 (by exact Try.zeroValue80) rfl rfl rfl rfl (by rfl)) ?_
      intro b15 _
      refine LW.e rfl rfl (Eff.appendAny ([.int .i64 (-8), .int .i64 0, .int .u64 0, .int .u64 0, .int .i64 0]) (sz := 5) (bytes := 40) (z := .agg #[.int .i64 0, .int .i64 0, .int .u64 0, .int .u64 0, .int .i64 0]) (xs := k.2.take (m * 5)) (m0 := m) (o := (some (g, k.2.drop (m * 5), cap))) (m := 1) (pk := [[(g, .cells k.2.toArray 80 (0, 0))]]) rfl rfl Try.underlying86 (by kernel_rfl) rfl (by omega) (by repeat (first | exact .nil | apply Pick.cons | exact .here | apply Ext.there)) (by simp [V.ownG_some, List.take_append_drop]) ⟨by rw [List.length_take]; omega, by show (k.2.take (m * 5)).length + (k.2.drop (m * 5)).length = cap * 5; rw [← List.length_append, List.take_append_drop]; exact hj2⟩ rfl (fun hm0 => ⟨b15, 0, rfl, fun w hw => V.range_of_block (o := 0) (cs := [.int .i64 (-8), .int .i64 0, .int .u64 0, .int .u64 0, .int .i64 0]) (r := []) (hw.own _ (show InS (b15, .cells ([.int .i64 (-8), .int .i64 0, .int .u64 0, .int .u64 0, .int .i64 0]).toArray 80 (0, 0)) _ from (by repeat (first | exact .here | refine .there ?_))).mem) rfl⟩) rfl (by omega) (by omega)) ?_
      intro _ _
      refine LW.nil ?_
      refine PQ.end0 rfl ?_
      intro w' hw; refine ⟨(), trivial, rfl, ?_⟩
      have h6 := hw.pick (ss := []) .nil
      rw [hcs] at h6
      exact h6
end Go.Proofs.Ytgeblajdjdcghaa
