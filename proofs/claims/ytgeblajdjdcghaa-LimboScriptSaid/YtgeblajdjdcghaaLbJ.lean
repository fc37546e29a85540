/- slices.Clone, All: what they do to a symbolic state. -/
import Derived.Test.YtgeblajdjdcghaaLbI
import Derived.Test.YtgeblajdjdcghaaV11
import Derived.Lib.Hide
namespace Go.Proofs.Ytgeblajdjdcghaa
open Go Go.RowKit V
set_option linter.unusedVariables false
set_option maxRecDepth 100000
theorem hone (l : List En) : (l.flatMap enC).all (·.oneCell') = true := by
  induction l with
  | nil => rfl
  | cons y t ih => simp only [List.flatMap_cons, List.all_append, ih, Bool.and_true]; rfl
/-- What All hands back: entries in a block of their own, or nil. -/
theorem clone_c (o : Option (Nat × List Value × Nat)) (l : List En) (hk : bgOk o l) (hl : l.length ≤ 1000) (w : World) (hs : Sat (bgA l o) w) : Calls Try.prog 69 [bgV l o].toArray w fun e w' => ∃ y : Option (Nat × List Value × Nat), bgOk y l ∧ e = .returned (bgV l y) ∧ Hp ⟨w, []⟩ (bgA l y) w' := by
  rcases o with _ | ⟨g, rest, cap⟩
  · obtain rfl : l = [] := hk
    refine V.calls [] Try.func69 rfl Try.ntmps69 (Nat.le_of_ble_eq_true rfl) (V.sat_nil _) ?_
    refine CW.seq ?_
    refine CW.region ?_
    refine LW.v rfl rfl (Val.assign rfl) ?_
    refine LW.nil ?_
    refine PQ.seq ?_
    refine CW.seq ?_
    refine CW.seq ?_
    refine CW.region ?_
    refine LW.v rfl rfl (Val.move rfl) ?_
    refine LW.v rfl rfl (Val.eqSlNil rfl rfl Try.underlying86) ?_
    refine LW.nil ?_
    refine PQ.seq ?_
    refine CW.cond_t rfl ?_
    refine CW.seq ?_
    refine CW.region ?_
    refine LW.v rfl rfl (Val.assign rfl) ?_
    refine LW.nil ?_
    refine PQ.seq ?_
    refine CW.ret ?_
    refine PQ.then_ret ?_
    refine PQ.ret1 rfl rfl ?_
    intro w' hw; exact ⟨none, rfl, rfl, hw⟩
  · have hcap : l.length * 5 + rest.length = cap * 5 := hk
    by_cases h0 : l.length = 0
    · obtain rfl : l = [] := List.length_eq_zero_iff.1 h0
      refine V.calls [] Try.func69 rfl Try.ntmps69 (Nat.le_of_ble_eq_true rfl) (V.sat_nil _) ?_
      refine CW.seq ?_
      refine CW.region ?_
      refine LW.v rfl rfl (Val.assign rfl) ?_
      refine LW.nil ?_
      refine PQ.seq ?_
      refine CW.seq ?_
      refine CW.seq ?_
      refine CW.region ?_
      refine LW.v rfl rfl (Val.move rfl) ?_
      refine LW.v rfl rfl (Val.eqSlNil rfl rfl Try.underlying86) ?_
      refine LW.nil ?_
      refine PQ.seq ?_
      refine CW.cond_f rfl ?_
      refine CW.skip ?_
      refine PQ.seq ?_
      refine CW.seq ?_
      refine CW.region ?_
      refine LW.e rfl rfl (Eff.buildSlice0 Try.underlying86 Try.sizeOf80) ?_
      intro b5 _
      refine LW.v rfl rfl (Val.move rfl) ?_
      refine LW.v rfl rfl (Val.append0 (sz := 5) (bytes := 40) (z := .agg #[.int .i64 0, .int .i64 0, .int .u64 0, .int .u64 0, .int .i64 0]) rfl rfl Try.underlying86 (by kernel_rfl) (by decide)) ?_
      refine LW.v rfl rfl (Val.assign rfl) ?_
      refine LW.nil ?_
      refine PQ.seq ?_
      refine CW.ret ?_
      refine PQ.ret1 rfl rfl ?_
      intro w' hw; exact ⟨some (b5, [], 0), rfl, rfl, hw⟩
    · refine V.calls [] Try.func69 rfl Try.ntmps69 (Nat.le_of_ble_eq_true rfl) (V.sat_nil _) ?_
      refine CW.seq ?_
      refine CW.region ?_
      refine LW.v rfl rfl (Val.assign rfl) ?_
      refine LW.nil ?_
      refine PQ.seq ?_
      refine CW.seq ?_
      refine CW.seq ?_
      refine CW.region ?_
      refine LW.v rfl rfl (Val.move rfl) ?_
      refine LW.v rfl rfl (Val.eqSlNil rfl rfl Try.underlying86) ?_
      refine LW.nil ?_
      refine PQ.seq ?_
      refine CW.cond_f rfl ?_
      refine CW.skip ?_
      refine PQ.seq ?_
      refine CW.seq ?_
      refine CW.region ?_
      refine LW.e rfl rfl (Eff.buildSlice0 Try.underlying86 Try.sizeOf80) ?_
      intro b5 _
      refine LW.v rfl rfl (Val.move rfl) ?_
      refine LW.e rfl rfl (Eff.append (l.flatMap enC) (sz := 5) (bytes := 40) (z := .agg #[.int .i64 0, .int .i64 0, .int .u64 0, .int .u64 0, .int .i64 0]) (xs := []) (m0 := 0) (o := some (b5, [], 0)) (m := l.length) rfl rfl Try.underlying86 (by kernel_rfl) rfl (by omega) (by repeat (first | exact .nil | apply Pick.cons | exact .here | apply Ext.there)) ⟨rfl, rfl⟩ (by omega) (flat_length l) (fun w' hw => (by have h1 := hw.below; exact V.range_of_block (o := 0) (cs := l.flatMap enC) (r := rest) ((hs.below h1).own (g, .cells (enCs l rest).toArray 80 (0, 0)) (by simp [bgA])) rfl)) (hone l) (by omega) (by omega)) ?_
      rintro o2 ⟨ho2, hs2⟩
      obtain ⟨⟨g2, rest2, cap2⟩, rfl⟩ := Option.isSome_iff_exists.1 hs2
      refine LW.v rfl rfl (Val.assign rfl) ?_
      refine LW.nil ?_
      refine PQ.seq ?_
      refine CW.ret ?_
      refine PQ.ret1 rfl rfl ?_
      intro w' hw
      have h2 : V.ownOk 5 l.length (l.flatMap enC) (some (g2, rest2, cap2)) := by have := ho2; rwa [Nat.zero_add, List.nil_append] at this
      refine ⟨some (g2, rest2, cap2), bg_of_own h2, by show Ending.returned (Value.slice (some ⟨g2, 0, none⟩) (0 + l.length) cap2) = Ending.returned (Value.slice (some ⟨g2, 0, none⟩) l.length cap2); rw [Nat.zero_add], ?_⟩
      exact hw.pick (by repeat (first | exact .nil | apply Pick.cons | exact .here | apply Ext.there))
theorem all_c (b : Nat) (o : Option (Nat × List Value × Nat)) (l : List En) (hk : bgOk o l) (hl : l.length ≤ 1000) (w : World) (hs : Sat (bgG 124 b o l) w) : Calls Try.prog 48 [.pointer (some ⟨b, 0, none⟩)].toArray w fun e w' => ∃ y : Option (Nat × List Value × Nat), bgOk y l ∧ e = .returned (bgV l y) ∧ Hp ⟨w, []⟩ (bgA l y) w' := by
  have hsA : Sat (bgA l o) w := ⟨fun p hp => hs.own p (by simp [bgG, hp]), by have := hs.nd; simp only [bgG, List.flatten_cons, List.map_append, List.nodup_append] at this; exact this.2.1⟩
  refine V.calls [] Try.func48 rfl Try.ntmps48 (Nat.le_of_ble_eq_true rfl) (V.sat_nil _) ?_
  refine CW.seq ?_
  refine CW.region ?_
  refine LW.v rfl rfl (Val.assign rfl) ?_
  refine LW.nil ?_
  refine PQ.seq ?_
  refine CW.seq ?_
  refine CW.seq ?_
  refine CW.region ?_
  refine LW.v rfl rfl (Val.move rfl) ?_
  refine LW.v rfl rfl (Val.eqP false rfl rfl Try.underlying76 (.inr ⟨rfl, rfl⟩)) ?_
  refine LW.nil ?_
  refine PQ.seq ?_
  refine CW.cond_f rfl ?_
  refine CW.skip ?_
  refine PQ.seq ?_
  refine CW.seq ?_
  refine CW.region ?_
  refine LW.v rfl rfl (Val.move rfl) ?_
  refine LW.v rfl rfl (Val.nilCheck rfl) ?_
  refine LW.v rfl rfl (Val.fieldAddr 0 rfl Try.underlying124 rfl rfl Try.sizeOf86) ?_
  refine LW.v rfl rfl (Val.loadO rfl Try.isAgg86 (hs.lt (k := b) (by simp [bgG, ids])) (by simp [ids]) (V.cell_of_block (o := 0) (hs.own (b, .cells [bgV l o].toArray 124 (0, 0)) (by simp [bgG])) rfl)) ?_
  refine LW.e rfl rfl (Eff.callM ([]) (by repeat (first | exact .nil | apply Pick.cons | exact .here | apply Ext.there)) rfl Try.call69 (fun w hw hs => clone_c o l hk hl w (hsA.below hw.below))) ?_
  intro y hy
  refine LW.v rfl rfl (Val.assign rfl) ?_
  refine LW.nil ?_
  refine PQ.seq ?_
  refine CW.ret ?_
  refine PQ.ret1 rfl rfl ?_
  intro w' hw; exact ⟨y, hy, rfl, hw.perm (by simp)⟩
end Go.Proofs.Ytgeblajdjdcghaa
