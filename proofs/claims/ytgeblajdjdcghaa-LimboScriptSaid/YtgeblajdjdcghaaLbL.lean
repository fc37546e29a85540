/- The reference's bag; SameEntries, OverEntries. -/
import Derived.Test.YtgeblajdjdcghaaLbK
import Derived.Lib.Hide
namespace Go.Proofs.Ytgeblajdjdcghaa
open Go Go.RowKit V
set_option linter.unusedVariables false
set_option maxRecDepth 100000
theorem same_c (y z : Option (Nat × List Value × Nat)) (l : List En) (hy : bgOk y l) (hz : bgOk z l) (hl : l.length ≤ 1000) (w : World) (hs : Sat (bgA l y) w) (hs2 : Sat (bgA l z) w) : Calls Try.prog 50 [.slice (ownP y) l.length (ownC y), .slice (ownP z) l.length (ownC z)].toArray w fun e w' => e = .returned (.bool true) ∧ Below w.heap.size w w' := by
  refine V.calls [] Try.func50 rfl Try.ntmps50 (Nat.le_of_ble_eq_true rfl) (V.sat_nil _) ?_
  refine CW.seq ?_
  refine CW.region ?_
  refine LW.v rfl rfl (Val.assign rfl) ?_
  refine LW.nil ?_
  refine PQ.seq ?_
  refine CW.seq ?_
  refine CW.seq ?_
  refine CW.region ?_
  refine LW.v rfl rfl (Val.move rfl) ?_
  refine LW.v rfl rfl (Val.lenSl rfl Try.underlying86) ?_
  refine LW.v rfl rfl (Val.move rfl) ?_
  refine LW.v rfl rfl (Val.lenSl rfl Try.underlying86) ?_
  refine LW.v rfl rfl (Val.cmp rfl rfl rfl) ?_
  refine LW.re 10 (.bool false) rfl (by simp) ?_
  refine LW.nil ?_
  refine PQ.seq ?_
  refine CW.cond_f rfl ?_
  refine CW.skip ?_
  refine PQ.seq ?_
  refine CW.seq ?_
  refine CW.seq ?_
  refine CW.region ?_
  refine LW.v rfl rfl (Val.assign rfl) ?_
  refine LW.nil ?_
  refine PQ.seq ?_
  refine CW.block ?_
  refine CW.loop (γ := Nat) (fun k => [(0, .slice (ownP y) l.length (ownC y)), (1, .slice (ownP z) l.length (ownC z)), (5, .int .i64 (k : Nat))]) (fun _ => []) (fun k => k ≤ l.length) (fun k => l.length - k) (0) (Nat.zero_le _) (by repeat (first | exact trivial | refine ⟨rfl, ?_⟩)) (by repeat (first | exact .nil | apply Pick.cons | exact .here | apply Ext.there)) ?_
  intro k
  intro hJ
  refine CW.seq ?_
  refine CW.seq ?_
  refine CW.region ?_
  refine LW.v rfl rfl (Val.move rfl) ?_
  refine LW.v rfl rfl (Val.move rfl) ?_
  refine LW.v rfl rfl (Val.lenSl rfl Try.underlying86) ?_
  refine LW.v rfl rfl (Val.cmp rfl rfl rfl) ?_
  refine LW.nil ?_
  refine PQ.seq ?_
  refine CW.cond rfl (fun h14 => ?_) (fun h14 => ?_)
  · replace h14 := bT h14
    refine CW.skip ?_
    refine PQ.seq ?_
    refine CW.seq ?_
    refine CW.block ?_
    refine CW.seq ?_
    refine CW.quiet mixed (by kernel_rfl) ?_
    refine QW.v rfl rfl (Val.move rfl) ?_
    obtain ⟨⟨g1, rest1, cap1⟩, rfl⟩ := bg_some hy (by omega)
    obtain ⟨⟨g2, rest2, cap2⟩, rfl⟩ := bg_some hz (by omega)
    obtain ⟨x, hx⟩ : ∃ x, l[k]? = some x := ⟨l[k]'(by omega), by simp⟩
    obtain ⟨q1, hq1⟩ := ent_drop rest1 hx
    obtain ⟨q2, hq2⟩ := ent_drop rest2 hx
    refine QW.v rfl rfl (Val.move rfl) ?_
    first | (refine QW.v rfl rfl (Val.indexAddrN rfl rfl Try.underlying86 Try.sizeOf80 (by omega)) ?_) | (refine QW.v rfl rfl (Val.indexAddr rfl rfl Try.underlying86 Try.sizeOf80 (by omega) (by omega)) ?_)
    refine QW.v rfl rfl (Val.loadOA (cs := enC x) rfl Try.isAgg80 (hs.lt (k := g1) (by simp [bgA, ids])) (by simp [ids]) (V.range_of_block (hs.own (g1, .cells (enCs l rest1).toArray 80 (0, 0)) (by simp [bgA])) hq1) (by exact Try.sizeOf80)) ?_
    refine QW.v rfl rfl (Val.move rfl) ?_
    refine QW.v rfl rfl (Val.move rfl) ?_
    first | (refine QW.v rfl rfl (Val.indexAddrN rfl rfl Try.underlying86 Try.sizeOf80 (by omega)) ?_) | (refine QW.v rfl rfl (Val.indexAddr rfl rfl Try.underlying86 Try.sizeOf80 (by omega) (by omega)) ?_)
    refine QW.v rfl rfl (Val.loadOA (cs := enC x) rfl Try.isAgg80 (hs2.lt (k := g2) (by simp [bgA, ids])) (by simp [ids]) (V.range_of_block (hs2.own (g2, .cells (enCs l rest2).toArray 80 (0, 0)) (by simp [bgA])) hq2) (by exact Try.sizeOf80)) ?_
    refine QW.v rfl rfl (Val.neA rfl rfl (by kernel_rfl) Try.underlying80 (by kernel_rfl) (by exact (.int rfl rfl Try.isAgg3 Try.underlying3 (.int rfl rfl Try.isAgg3 Try.underlying3 (.int rfl rfl Try.isAgg28 Try.underlying28 (.int rfl rfl Try.isAgg28 Try.underlying28 (.int rfl rfl Try.isAgg3 Try.underlying3 .nil))))))) ?_
    refine QW.re 25 (.bool false) rfl (by simp) ?_
    refine QW.nil ?_
    refine PQ.seq ?_
    refine CW.cond_f rfl ?_
    refine CW.skip ?_
    refine PQ.in_normal ?_
    refine PQ.seq ?_
    refine CW.region ?_
    refine LW.v rfl rfl (Val.move rfl) ?_
    refine LW.v rfl rfl (Val.ar rfl rfl rfl (IntWalk.i64_in _ (by omega))) ?_
    refine LW.v rfl rfl (Val.assign rfl) ?_
    refine LW.nil ?_
    refine PQ.round (k + 1) (by first | omega | (simp only; omega)) (by omega) (by repeat (first | exact trivial | refine ⟨rfl, ?_⟩)) (by repeat (first | exact .nil | apply Pick.cons | exact .here | apply Ext.there))
  · replace h14 := bF h14
    refine CW.exit ?_
    refine PQ.then_exit ?_
    refine PQ.then_exit ?_
    refine PQ.in_here ?_
    refine PQ.seq ?_
    refine CW.seq ?_
    refine CW.region ?_
    refine LW.v rfl rfl (Val.assign rfl) ?_
    refine LW.nil ?_
    refine PQ.seq ?_
    refine CW.ret ?_
    refine PQ.ret1 rfl rfl ?_
    intro w' hw; exact ⟨rfl, hw.below⟩
theorem rfirst_c (b : Nat) (o : Option (Nat × List Value × Nat)) (l : List En) (rb ra : Nat) (now : Int) (rl : List Int) (hk : bgOk o l) (hl : l.length ≤ 1000) (h0 : ∀ x ∈ rl, 0 ≤ x) (hm : rl.length ≤ 1000) (du : Int) (w : World) (hsb : Sat (bgG 95 b o l) w) (hsr : Sat (rfG rb ra now rl) w) : Calls Try.prog 81 [.pointer (some ⟨b, 0, none⟩), .pointer (some ⟨rb, 0, none⟩), .int .u64 du].toArray w fun e w' => e = .returned (.int .i64 (findF rl du l)) ∧ Below w.heap.size w w' := by
  refine V.calls [] Try.func81 rfl Try.ntmps81 (Nat.le_of_ble_eq_true rfl) (V.sat_nil _) ?_
  refine CW.seq ?_
  refine CW.region ?_
  refine LW.v rfl rfl (Val.assign rfl) ?_
  refine LW.nil ?_
  refine PQ.seq ?_
  refine CW.seq ?_
  refine CW.seq ?_
  refine CW.region ?_
  refine LW.v rfl rfl (Val.assign rfl) ?_
  refine LW.nil ?_
  refine PQ.seq ?_
  refine CW.block ?_
  refine CW.loop (γ := Nat) (fun k => [(0, .pointer (some ⟨b, 0, none⟩)), (1, .pointer (some ⟨rb, 0, none⟩)), (2, .int .u64 du), (7, .int .i64 (k : Nat))]) (fun _ => []) (fun k => k ≤ l.length ∧ ∀ y ∈ l.take k, rdy rl du y = false) (fun k => l.length - k) (0) ⟨Nat.zero_le _, by simp⟩ (by repeat (first | exact trivial | refine ⟨rfl, ?_⟩)) (by repeat (first | exact .nil | apply Pick.cons | exact .here | apply Ext.there)) ?_
  intro k
  rintro ⟨hj1, hj2⟩
  refine CW.seq ?_
  refine CW.seq ?_
  refine CW.region ?_
  refine LW.v rfl rfl (Val.move rfl) ?_
  refine LW.v rfl rfl (Val.move rfl) ?_
  refine LW.v rfl rfl (Val.nilCheck rfl) ?_
  refine LW.v rfl rfl (Val.fieldAddr 0 rfl Try.underlying95 rfl rfl Try.sizeOf86) ?_
  refine LW.v rfl rfl (Val.loadO rfl Try.isAgg86 (hsb.lt (k := b) (by simp [bgG, ids])) (by simp [ids]) (V.cell_of_block (o := 0) (hsb.own (b, .cells [bgV l o].toArray 95 (0, 0)) (by simp [bgG])) rfl)) ?_
  refine LW.re 12 (.slice (ownP o) l.length (ownC o)) rfl (bgV_form hk) ?_
  refine LW.v rfl rfl (Val.lenSl rfl Try.underlying86) ?_
  refine LW.v rfl rfl (Val.cmp rfl rfl rfl) ?_
  refine LW.nil ?_
  refine PQ.seq ?_
  refine CW.cond rfl (fun h14 => ?_) (fun h14 => ?_)
  · replace h14 := bT h14
    refine CW.skip ?_
    refine PQ.seq ?_
    refine CW.seq ?_
    refine CW.block ?_
    refine CW.seq ?_
    refine CW.region ?_
    refine LW.v rfl rfl (Val.move rfl) ?_
    refine LW.v rfl rfl (Val.neP false rfl rfl Try.underlying52 (.inr ⟨rfl, rfl⟩)) ?_
    refine LW.v rfl rfl (Val.move rfl) ?_
    refine LW.v rfl rfl (Val.move rfl) ?_
    refine LW.v rfl rfl (Val.move rfl) ?_
    obtain ⟨⟨g, rest, cap⟩, rfl⟩ := bg_some hk (by omega)
    obtain ⟨x, hx⟩ : ∃ x, l[k]? = some x := ⟨l[k]'(by omega), by simp⟩
    refine LW.v rfl rfl (Val.nilCheck rfl) ?_
    refine LW.v rfl rfl (Val.fieldAddr 0 rfl Try.underlying95 rfl rfl Try.sizeOf86) ?_
    refine LW.v rfl rfl (Val.loadO rfl Try.isAgg86 (hsb.lt (k := b) (by simp [bgG, ids])) (by simp [ids]) (V.cell_of_block (o := 0) (hsb.own (b, .cells [bgV l (some (g, rest, cap))].toArray 95 (0, 0)) (by simp [bgG])) rfl)) ?_
    refine LW.re 24 (.slice (some ⟨g, 0, none⟩) l.length cap) rfl rfl ?_
    refine LW.v rfl rfl (Val.move rfl) ?_
    first | (refine LW.v rfl rfl (Val.indexAddrN rfl rfl Try.underlying86 Try.sizeOf80 (by omega)) ?_) | (refine LW.v rfl rfl (Val.indexAddr rfl rfl Try.underlying86 Try.sizeOf80 (by omega) (by omega)) ?_)
    refine LW.v rfl rfl (Val.fieldAddr 2 rfl Try.underlying80 rfl rfl Try.sizeOf28) ?_
    refine LW.v rfl rfl (Val.loadO rfl Try.isAgg28 (hsb.lt (k := g) (by simp [bgG, bgA, ids])) (by simp [ids]) (V.cell_of_block (hsb.own (g, .cells (enCs l rest).toArray 80 (0, 0)) (by simp [bgG, bgA])) (ent_cell rest hx 2 rfl))) ?_
    refine LW.e rfl rfl (Eff.callV rfl Try.call63 (fun w hw => refQuiet_c rb ra now rl x.r w (hsr.below hw.below) hm)) ?_
    intro _ _
    refine LW.v rfl rfl (Val.pick_t rfl rfl) ?_
    refine LW.v rfl rfl (Val.move rfl) ?_
    refine LW.split (d := 31) rfl (fun h31 => ?_) (fun h31 => ?_)
    · replace h31 := bT h31
      refine LW.v rfl rfl (Val.move rfl) ?_
      refine LW.v rfl rfl (Val.nilCheck rfl) ?_
      refine LW.v rfl rfl (Val.fieldAddr 0 rfl Try.underlying95 rfl rfl Try.sizeOf86) ?_
      refine LW.v rfl rfl (Val.loadO rfl Try.isAgg86 (hsb.lt (k := b) (by simp [bgG, ids])) (by simp [ids]) (V.cell_of_block (o := 0) (hsb.own (b, .cells [bgV l (some (g, rest, cap))].toArray 95 (0, 0)) (by simp [bgG])) rfl)) ?_
      refine LW.re 35 (.slice (some ⟨g, 0, none⟩) l.length cap) rfl rfl ?_
      refine LW.v rfl rfl (Val.move rfl) ?_
      first | (refine LW.v rfl rfl (Val.indexAddrN rfl rfl Try.underlying86 Try.sizeOf80 (by omega)) ?_) | (refine LW.v rfl rfl (Val.indexAddr rfl rfl Try.underlying86 Try.sizeOf80 (by omega) (by omega)) ?_)
      refine LW.v rfl rfl (Val.fieldAddr 3 rfl Try.underlying80 rfl rfl Try.sizeOf28) ?_
      refine LW.v rfl rfl (Val.loadO rfl Try.isAgg28 (hsb.lt (k := g) (by simp [bgG, bgA, ids])) (by simp [ids]) (V.cell_of_block (hsb.own (g, .cells (enCs l rest).toArray 80 (0, 0)) (by simp [bgG, bgA])) (ent_cell rest hx 3 rfl))) ?_
      refine LW.v rfl rfl (Val.move rfl) ?_
      refine LW.v rfl rfl (Val.cmp rfl rfl rfl) ?_
      refine LW.v rfl rfl (Val.pick_t rfl rfl) ?_
      refine LW.nil ?_
      refine PQ.seq ?_
      refine CW.cond rfl (fun h42 => ?_) (fun h42 => ?_)
      · replace h42 := bT h42
        refine CW.seq ?_
        refine CW.region ?_
        refine LW.v rfl rfl (Val.move rfl) ?_
        refine LW.v rfl rfl (Val.assign rfl) ?_
        refine LW.nil ?_
        refine PQ.seq ?_
        refine CW.ret ?_
        refine PQ.in_ret ?_
        refine PQ.then_ret ?_
        refine PQ.then_ret ?_
        refine PQ.in_ret ?_
        refine PQ.then_ret ?_
        refine PQ.ret1 rfl rfl ?_
        intro w' hw; exact ⟨by rw [show findF rl du l = (k : Int) from by have := findI_some (rdy rl du) l 0 k x hj2 hx (by simp [rdy, h31, h42]); simpa [findF] using this], hw.below⟩
      · replace h42 := bF h42
        refine CW.skip ?_
        refine PQ.in_normal ?_
        refine PQ.seq ?_
        refine CW.region ?_
        refine LW.v rfl rfl (Val.move rfl) ?_
        refine LW.v rfl rfl (Val.ar rfl rfl rfl (IntWalk.i64_in _ (by omega))) ?_
        refine LW.v rfl rfl (Val.assign rfl) ?_
        refine LW.nil ?_
        refine PQ.round (k + 1) ⟨by omega, take_no hx (by unfold rdy; first | (simp [h31]; done) | (simp only [Bool.and_eq_false_iff, decide_eq_false_iff_not]; omega)) hj2⟩ (by omega) (by repeat (first | exact trivial | refine ⟨rfl, ?_⟩)) (by repeat (first | exact .nil | apply Pick.cons | exact .here | apply Ext.there))
    · replace h31 := bF h31
      refine LW.p rfl rfl ?_
      refine LW.p rfl rfl ?_
      refine LW.p rfl rfl ?_
      refine LW.p rfl rfl ?_
      refine LW.p rfl rfl ?_
      refine LW.p rfl rfl ?_
      refine LW.p rfl rfl ?_
      refine LW.p rfl rfl ?_
      refine LW.p rfl rfl ?_
      refine LW.p rfl rfl ?_
      refine LW.v rfl rfl (Val.pick_f rfl rfl) ?_
      refine LW.nil ?_
      refine PQ.seq ?_
      refine CW.cond_f rfl ?_
      refine CW.skip ?_
      refine PQ.in_normal ?_
      refine PQ.seq ?_
      refine CW.region ?_
      refine LW.v rfl rfl (Val.move rfl) ?_
      refine LW.v rfl rfl (Val.ar rfl rfl rfl (IntWalk.i64_in _ (by omega))) ?_
      refine LW.v rfl rfl (Val.assign rfl) ?_
      refine LW.nil ?_
      refine PQ.round (k + 1) ⟨by omega, take_no hx (by unfold rdy; first | (simp [h31]; done) | (simp only [Bool.and_eq_false_iff, decide_eq_false_iff_not]; omega)) hj2⟩ (by omega) (by repeat (first | exact trivial | refine ⟨rfl, ?_⟩)) (by repeat (first | exact .nil | apply Pick.cons | exact .here | apply Ext.there))
  · replace h14 := bF h14
    refine CW.exit ?_
    refine PQ.then_exit ?_
    refine PQ.then_exit ?_
    refine PQ.in_here ?_
    refine PQ.seq ?_
    refine CW.seq ?_
    refine CW.region ?_
    refine LW.v rfl rfl (Val.assign rfl) ?_
    refine LW.nil ?_
    refine PQ.seq ?_
    refine CW.ret ?_
    refine PQ.ret1 rfl rfl ?_
    intro w' hw; exact ⟨by rw [show findF rl du l = -1 from findI_none _ _ _ (fun y hy => hj2 y (by rw [List.take_of_length_le (by omega)]; exact hy))], hw.below⟩
theorem rready_c (b : Nat) (o : Option (Nat × List Value × Nat)) (l : List En) (rb ra : Nat) (now : Int) (rl : List Int) (hk : bgOk o l) (hl : l.length ≤ 1000) (h0 : ∀ x ∈ rl, 0 ≤ x) (hm : rl.length ≤ 1000) (du : Int) (w : World) (hsb : Sat (bgG 95 b o l) w) (hsr : Sat (rfG rb ra now rl) w) : Calls Try.prog 72 [.pointer (some ⟨b, 0, none⟩), .pointer (some ⟨rb, 0, none⟩), .int .u64 du].toArray w fun e w' => e = .returned (.tuple #[enV ((readyF rl du l).getD en0), .bool (readyF rl du l).isSome]) ∧ Below w.heap.size w w' := by
  rcases findI_spec (rdy rl du) l 0 with ⟨hf, hall⟩ | ⟨k, x, hf, hx, hp, hbe⟩
  · rw [readyF_none hall]
    refine V.calls [] Try.func72 rfl Try.ntmps72 (Nat.le_of_ble_eq_true rfl) (V.sat_nil _) ?_
    refine CW.seq ?_
    refine CW.region ?_
    refine LW.e rfl rfl (Eff.allocA (by exact Try.zeroValue80)) ?_
    intro b6 _
    refine LW.v rfl rfl (Val.assign rfl) ?_
    refine LW.nil ?_
    refine PQ.seq ?_
    refine CW.seq ?_
    refine CW.region ?_
    refine LW.v rfl rfl (Val.move rfl) ?_
    refine LW.v rfl rfl (Val.move rfl) ?_
    refine LW.v rfl rfl (Val.move rfl) ?_
    refine LW.e rfl rfl (Eff.callV rfl Try.call81 (fun w hw => rfirst_c b o l rb ra now rl hk hl h0 hm du w (hsb.below hw.below) (hsr.below hw.below))) ?_
    intro _ _
    refine LW.re 12 (.int .i64 (-1)) rfl (by rw [show findF rl du l = -1 from hf]) ?_
    refine LW.v rfl rfl (Val.assign rfl) ?_
    refine LW.nil ?_
    refine PQ.seq ?_
    refine CW.seq ?_
    refine CW.seq ?_
    refine CW.region ?_
    refine LW.v rfl rfl (Val.move rfl) ?_
    refine LW.v rfl rfl (Val.cmp rfl rfl rfl) ?_
    refine LW.nil ?_
    refine PQ.seq ?_
    refine CW.cond_t rfl ?_
    refine CW.seq ?_
    refine CW.region ?_
    refine LW.v rfl rfl (Val.build [_, _, _, _, _] Try.zeroValue80 Try.underlying80 places80 rfl (by rfl)) ?_
    first | (refine LW.eN rfl (Eff.storeW rfl rfl (by repeat (first | exact .here | apply Upd.there)) (by rfl) Try.sizeOf80 (by rfl)) ?_) | (refine LW.eN rfl (Eff.storeA (l' := _) rfl rfl (by repeat (first | exact .here | apply Upd.there)) (by rfl) (by decide) Try.sizeOf80 (by rfl)) ?_)
    intro _ _
    refine LW.v rfl rfl (Val.assign rfl) ?_
    refine LW.nil ?_
    refine PQ.seq ?_
    refine CW.ret ?_
    refine PQ.then_ret ?_
    refine PQ.retCT rfl rfl rfl (by repeat (first | exact .here | refine .there ?_)) Try.isAgg80 (by exact Try.sizeOf80) ?_
    intro w' hw; exact ⟨rfl, hw.below⟩
  · have hlt := (List.getElem?_eq_some_iff.1 hx).1
    rw [readyF_some hx hp hbe]
    rcases o with _ | ⟨g, rest, cap⟩
    · have : l = [] := hk
      subst this; simp at hx
    obtain ⟨r, hr⟩ := ent_drop rest hx
    refine V.calls [] Try.func72 rfl Try.ntmps72 (Nat.le_of_ble_eq_true rfl) (V.sat_nil _) ?_
    refine CW.seq ?_
    refine CW.region ?_
    refine LW.e rfl rfl (Eff.allocA (by exact Try.zeroValue80)) ?_
    intro b6 _
    refine LW.v rfl rfl (Val.assign rfl) ?_
    refine LW.nil ?_
    refine PQ.seq ?_
    refine CW.seq ?_
    refine CW.region ?_
    refine LW.v rfl rfl (Val.move rfl) ?_
    refine LW.v rfl rfl (Val.move rfl) ?_
    refine LW.v rfl rfl (Val.move rfl) ?_
    refine LW.e rfl rfl (Eff.callV rfl Try.call81 (fun w hw => rfirst_c b (some (g, rest, cap)) l rb ra now rl hk hl h0 hm du w (hsb.below hw.below) (hsr.below hw.below))) ?_
    intro _ _
    refine LW.re 12 (.int .i64 (k : Nat)) rfl (by rw [show findF rl du l = _ from hf, Nat.zero_add]) ?_
    refine LW.v rfl rfl (Val.assign rfl) ?_
    refine LW.nil ?_
    refine PQ.seq ?_
    refine CW.seq ?_
    refine CW.seq ?_
    refine CW.region ?_
    refine LW.v rfl rfl (Val.move rfl) ?_
    refine LW.v rfl rfl (Val.cmp rfl rfl rfl) ?_
    refine LW.nil ?_
    refine PQ.seq ?_
    refine CW.cond rfl (fun h14 => ?_) (fun h14 => ?_)
    · exact absurd (bT h14) (by first | (simp; done) | omega)
    · replace h14 := bF h14
      refine CW.skip ?_
      refine PQ.seq ?_
      refine CW.seq ?_
      refine CW.region ?_
      refine LW.v rfl rfl (Val.move rfl) ?_
      refine LW.v rfl rfl (Val.nilCheck rfl) ?_
      refine LW.v rfl rfl (Val.fieldAddr 0 rfl Try.underlying95 rfl rfl Try.sizeOf86) ?_
      refine LW.v rfl rfl (Val.loadO rfl Try.isAgg86 (hsb.lt (k := b) (by simp [bgG, ids])) (by simp [ids]) (V.cell_of_block (o := 0) (hsb.own (b, .cells [bgV l (some (g, rest, cap))].toArray 95 (0, 0)) (by simp [bgG])) rfl)) ?_
      refine LW.v rfl rfl (Val.move rfl) ?_
      first | (refine LW.v rfl rfl (Val.indexAddrN rfl rfl Try.underlying86 Try.sizeOf80 (by omega)) ?_) | (refine LW.v rfl rfl (Val.indexAddr rfl rfl Try.underlying86 Try.sizeOf80 (by omega) (by omega)) ?_)
      refine LW.v rfl rfl (Val.loadOA (cs := enC x) rfl Try.isAgg80 (hsb.lt (k := g) (by simp [bgG, bgA, ids])) (by simp [ids]) (V.range_of_block (hsb.own (g, .cells (enCs l rest).toArray 80 (0, 0)) (by simp [bgG, bgA])) hr) (by exact Try.sizeOf80)) ?_
      first | (refine LW.eN rfl (Eff.storeW rfl rfl (by repeat (first | exact .here | apply Upd.there)) (by rfl) Try.sizeOf80 (by rfl)) ?_) | (refine LW.eN rfl (Eff.storeA (l' := _) rfl rfl (by repeat (first | exact .here | apply Upd.there)) (by rfl) (by decide) Try.sizeOf80 (by rfl)) ?_)
      intro _ _
      refine LW.v rfl rfl (Val.assign rfl) ?_
      refine LW.nil ?_
      refine PQ.seq ?_
      refine CW.ret ?_
      refine PQ.retCT rfl rfl rfl (by repeat (first | exact .here | refine .there ?_)) Try.isAgg80 (by exact Try.sizeOf80) ?_
      intro w' hw; exact ⟨rfl, hw.below⟩
end Go.Proofs.Ytgeblajdjdcghaa
