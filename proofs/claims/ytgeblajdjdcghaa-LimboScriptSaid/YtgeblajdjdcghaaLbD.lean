/- Ready; what every program answers that is one; LimboFull. -/
import Derived.Test.YtgeblajdjdcghaaLbC
import Derived.Lib.Hide
namespace Go.Proofs.Ytgeblajdjdcghaa
open Go Go.RowKit V
set_option linter.unusedVariables false
set_option maxRecDepth 100000
def readyF (rl : List Int) (du : Int) (l : List En) : Option En := l.find? (rdy rl du)
theorem readyF_none {rl : List Int} {du : Int} {l : List En} (h : ∀ x ∈ l, rdy rl du x = false) : readyF rl du l = none := by
  unfold readyF; rw [List.find?_eq_none]; intro x hx; simp [h x hx]
theorem readyF_some {rl : List Int} {du : Int} {l : List En} {k : Nat} {x : En} (hx : l[k]? = some x) (hp : rdy rl du x = true) (hb : ∀ y ∈ l.take k, rdy rl du y = false) : readyF rl du l = some x := by
  have hlt := (List.getElem?_eq_some_iff.1 hx).1
  unfold readyF
  have e : l = l.take k ++ l.drop k := (List.take_append_drop k l).symm
  rw [e, List.find?_append]
  have h1 : (l.take k).find? (rdy rl du) = none := by rw [List.find?_eq_none]; intro y hy; simp [hb y hy]
  have h2 : l.drop k = x :: l.drop (k + 1) := by
    rw [List.drop_eq_getElem_cons hlt]
    congr 1
    have := List.getElem?_eq_getElem hlt
    rw [hx] at this
    exact (Option.some.inj this).symm
  rw [h1, h2]
  simp [hp]
theorem ready_c (b : Nat) (o : Option (Nat × List Value × Nat)) (l : List En) (rb ra : Nat) (now : Int) (rl : List Int) (hk : bgOk o l) (hl : l.length ≤ 1000) (h0 : ∀ x ∈ rl, 0 ≤ x) (hm : rl.length ≤ 1000) (du : Int) (w : World) (hsb : Sat (bgG 124 b o l) w) (hsr : Sat (rdG rb ra now rl) w) : Calls Try.prog 46 [.pointer (some ⟨b, 0, none⟩), .pointer (some ⟨rb, 0, none⟩), .int .u64 du].toArray w fun e w' => e = .returned (.tuple #[enV ((readyF rl du l).getD en0), .bool (readyF rl du l).isSome]) ∧ Below w.heap.size w w' := by
  rcases findI_spec (rdy rl du) l 0 with ⟨hf, hall⟩ | ⟨k, x, hf, hx, hp, hbe⟩
  · rw [readyF_none hall]
    refine V.calls [] Try.func46 rfl Try.ntmps46 (Nat.le_of_ble_eq_true rfl) (V.sat_nil _) ?_
    refine CW.seq ?_
    refine CW.region ?_
    refine LW.e rfl rfl (Eff.allocA (by exact Try.zeroValue80)) ?_
    intro b6 _
    refine LW.v rfl rfl (Val.assign rfl) ?_
    refine LW.nil ?_
    refine PQ.seq ?_
    refine CW.seq ?_
    refine CW.region ?_
    refine LW.v rfl rfl (Val.move rfl) ?_
    refine LW.v rfl rfl (Val.move rfl) ?_
    refine LW.v rfl rfl (Val.move rfl) ?_
    refine LW.e rfl rfl (Eff.callV rfl Try.call67 (fun w hw => find_c b o l rb ra now rl hk hl h0 hm du w (hsb.below hw.below) (hsr.below hw.below))) ?_
    intro _ _
    refine LW.re 12 (.int .i64 (-1)) rfl (by rw [show findF rl du l = -1 from hf]) ?_
    refine LW.v rfl rfl (Val.assign rfl) ?_
    refine LW.nil ?_
    refine PQ.seq ?_
    refine CW.seq ?_
    refine CW.seq ?_
    refine CW.region ?_
    refine LW.v rfl rfl (Val.move rfl) ?_
    refine LW.v rfl rfl (Val.cmp rfl rfl rfl) ?_
    refine LW.nil ?_
    refine PQ.seq ?_
    refine CW.cond_t rfl ?_
    refine CW.seq ?_
    refine CW.region ?_
    refine LW.v rfl rfl (Val.build [_, _, _, _, _] Try.zeroValue80 Try.underlying80 places80 rfl (by rfl)) ?_
    first | (refine LW.eN rfl (Eff.storeW rfl rfl (by repeat (first | exact .here | apply Upd.there)) (by rfl) Try.sizeOf80 (by rfl)) ?_) | (refine LW.eN rfl (Eff.storeA (l' := _) rfl rfl (by repeat (first | exact .here | apply Upd.there)) (by rfl) (by decide) Try.sizeOf80 (by rfl)) ?_)
    intro _ _
    refine LW.v rfl rfl (Val.assign rfl) ?_
    refine LW.nil ?_
    refine PQ.seq ?_
    refine CW.ret ?_
    refine PQ.then_ret ?_
    refine PQ.retCT rfl rfl rfl (by repeat (first | exact .here | refine .there ?_)) Try.isAgg80 (by exact Try.sizeOf80) ?_
    intro w' hw; exact ⟨rfl, hw.below⟩
  · have hlt := (List.getElem?_eq_some_iff.1 hx).1
    rw [readyF_some hx hp hbe]
    rcases o with _ | ⟨g, rest, cap⟩
    · have : l = [] := hk
      subst this; simp at hx
    obtain ⟨r, hr⟩ := ent_drop rest hx
    refine V.calls [] Try.func46 rfl Try.ntmps46 (Nat.le_of_ble_eq_true rfl) (V.sat_nil _) ?_
    refine CW.seq ?_
    refine CW.region ?_
    refine LW.e rfl rfl (Eff.allocA (by exact Try.zeroValue80)) ?_
    intro b6 _
    refine LW.v rfl rfl (Val.assign rfl) ?_
    refine LW.nil ?_
    refine PQ.seq ?_
    refine CW.seq ?_
    refine CW.region ?_
    refine LW.v rfl rfl (Val.move rfl) ?_
    refine LW.v rfl rfl (Val.move rfl) ?_
    refine LW.v rfl rfl (Val.move rfl) ?_
    refine LW.e rfl rfl (Eff.callV rfl Try.call67 (fun w hw => find_c b (some (g, rest, cap)) l rb ra now rl hk hl h0 hm du w (hsb.below hw.below) (hsr.below hw.below))) ?_
    intro _ _
    refine LW.re 12 (.int .i64 (k : Nat)) rfl (by rw [show findF rl du l = _ from hf, Nat.zero_add]) ?_
    refine LW.v rfl rfl (Val.assign rfl) ?_
    refine LW.nil ?_
    refine PQ.seq ?_
    refine CW.seq ?_
    refine CW.seq ?_
    refine CW.region ?_
    refine LW.v rfl rfl (Val.move rfl) ?_
    refine LW.v rfl rfl (Val.cmp rfl rfl rfl) ?_
    refine LW.nil ?_
    refine PQ.seq ?_
    refine CW.cond rfl (fun h14 => ?_) (fun h14 => ?_)
    · exact absurd (bT h14) (by first | (simp; done) | omega)
    · replace h14 := bF h14
      refine CW.skip ?_
      refine PQ.seq ?_
      refine CW.seq ?_
      refine CW.region ?_
      refine LW.v rfl rfl (Val.move rfl) ?_
      refine LW.v rfl rfl (Val.nilCheck rfl) ?_
      refine LW.v rfl rfl (Val.fieldAddr 0 rfl Try.underlying124 rfl rfl Try.sizeOf86) ?_
      refine LW.v rfl rfl (Val.loadO rfl Try.isAgg86 (hsb.lt (k := b) (by simp [bgG, ids])) (by simp [ids]) (V.cell_of_block (o := 0) (hsb.own (b, .cells [bgV l (some (g, rest, cap))].toArray 124 (0, 0)) (by simp [bgG])) rfl)) ?_
      refine LW.v rfl rfl (Val.move rfl) ?_
      first | (refine LW.v rfl rfl (Val.indexAddrN rfl rfl Try.underlying86 Try.sizeOf80 (by omega)) ?_) | (refine LW.v rfl rfl (Val.indexAddr rfl rfl Try.underlying86 Try.sizeOf80 (by omega) (by omega)) ?_)
      refine LW.v rfl rfl (Val.loadOA (cs := enC x) rfl Try.isAgg80 (hsb.lt (k := g) (by simp [bgG, bgA, ids])) (by simp [ids]) (V.range_of_block (hsb.own (g, .cells (enCs l rest).toArray 80 (0, 0)) (by simp [bgG, bgA])) hr) (by exact Try.sizeOf80)) ?_
      first | (refine LW.eN rfl (Eff.storeW rfl rfl (by repeat (first | exact .here | apply Upd.there)) (by rfl) Try.sizeOf80 (by rfl)) ?_) | (refine LW.eN rfl (Eff.storeA (l' := _) rfl rfl (by repeat (first | exact .here | apply Upd.there)) (by rfl) (by decide) Try.sizeOf80 (by rfl)) ?_)
      intro _ _
      refine LW.v rfl rfl (Val.assign rfl) ?_
      refine LW.nil ?_
      refine PQ.seq ?_
      refine CW.ret ?_
      refine PQ.retCT rfl rfl rfl (by repeat (first | exact .here | refine .there ?_)) Try.isAgg80 (by exact Try.sizeOf80) ?_
      intro w' hw; exact ⟨rfl, hw.below⟩
/-- The bag as one segment. -/
def bgP (T b : Nat) (o : Option (Nat × List Value × Nat)) (l : List En) : Sg := [(bgG T b o l).flatten]
theorem bgP_flat (T b : Nat) (o : Option (Nat × List Value × Nat)) (l : List En) : (bgP T b o l).flatten = (bgG T b o l).flatten := by simp [bgP]
theorem bgP_sat {T b : Nat} {o : Option (Nat × List Value × Nat)} {l : List En} {w : World} (h : Sat (bgP T b o l) w) : Sat (bgG T b o l) w := ⟨fun p hp => h.own p (by rw [bgP_flat]; exact hp), by have := h.nd; rwa [bgP_flat] at this⟩
theorem bgP_hp {B : V.Base} {T b : Nat} {o : Option (Nat × List Value × Nat)} {l : List En} {w : World} (h : Hp B (bgG T b o l) w) : Hp B (bgP T b o l) w := h.perm (by rw [bgP_flat])
theorem bgP_ids (T b : Nat) (o : Option (Nat × List Value × Nat)) (l : List En) : ids (bgP T b o l) = ids (bgG T b o l) := by unfold ids; rw [bgP_flat]
theorem lnewP_c (w : World) : Calls Try.prog 41 [].toArray w fun e w' => ∃ b : Nat, True ∧ e = .returned (.pointer (some ⟨b, 0, none⟩)) ∧ Hp ⟨w, []⟩ (bgP 124 b none []) w' := (lnew_c w).mono fun e w' ⟨b, h1, h2, h3⟩ => ⟨b, h1, h2, bgP_hp h3⟩
theorem blenP_c (b : Nat) (o : Option (Nat × List Value × Nat)) (l : List En) (hk : bgOk o l) (w : World) (hs : Sat (bgP 124 b o l) w) : Calls Try.prog 44 [.pointer (some ⟨b, 0, none⟩)].toArray w fun e w' => e = .returned (.int .i64 (l.length : Nat)) ∧ Below w.heap.size w w' := blen_c b o l hk w (bgP_sat hs)
theorem putP_c (b : Nat) (o : Option (Nat × List Value × Nat)) (l : List En) (hk : bgOk o l) (hl : l.length ≤ 1000) (x : En) (w : World) (hs : Sat (bgP 124 b o l) w) : Calls Try.prog 42 [.pointer (some ⟨b, 0, none⟩), enV x].toArray w fun e w' => ∃ o' : Option (Nat × List Value × Nat), bgOk o' (putF x l).1 ∧ e = .returned (.int .i64 (putF x l).2) ∧ Hp ⟨w, ids (bgP 124 b o l)⟩ (bgP 124 b o' (putF x l).1) w' :=
  (put_c b o l hk hl x w (bgP_sat hs)).mono fun e w' ⟨o', h1, h2, h3⟩ => ⟨o', h1, h2, by rw [bgP_ids]; exact bgP_hp h3⟩
theorem putOk_c (b : Nat) (o : Option (Nat × List Value × Nat)) (l : List En) (hk : bgOk o l) (hl : l.length < 258) (x : En) (hx : May x) (w : World) (hs : Sat (bgP 124 b o l) w) : Calls Try.prog 42 [.pointer (some ⟨b, 0, none⟩), enV x].toArray w fun e w' => ∃ o' : Option (Nat × List Value × Nat), bgOk o' (l ++ [x]) ∧ e = .returned (.int .i64 0) ∧ Hp ⟨w, ids (bgP 124 b o l)⟩ (bgP 124 b o' (l ++ [x])) w' :=
  (putP_c b o l hk (by omega) x w hs).mono fun e w' h => by
    rw [show putF x l = (l ++ [x], 0) from (if_pos hx).trans (if_pos hl)] at h
    exact h
theorem putAny_c (b : Nat) (o : Option (Nat × List Value × Nat)) (l : List En) (hk : bgOk o l) (hl : l.length ≤ 258) (x : En) (hx : May x) (w : World) (hs : Sat (bgP 124 b o l) w) : Calls Try.prog 42 [.pointer (some ⟨b, 0, none⟩), enV x].toArray w fun e w' => ∃ y : Option (Nat × List Value × Nat) × List En × Int,
    (bgOk y.1 y.2.1 ∧ ((l.length < 258 ∧ y.2.2 = 0 ∧ y.2.1.length = l.length + 1) ∨ (258 ≤ l.length ∧ y.2.2 = 11 ∧ y.2.1.length = l.length))) ∧ e = .returned (.int .i64 y.2.2) ∧ Hp ⟨w, ids (bgP 124 b o l)⟩ (bgP 124 b y.1 y.2.1) w' :=
  (putP_c b o l hk (by omega) x w hs).mono fun e w' ⟨o', h1, h2, h3⟩ => by
    by_cases hl2 : l.length < 258
    · rw [show putF x l = (l ++ [x], 0) from (if_pos hx).trans (if_pos hl2)] at h1 h2 h3
      exact ⟨(o', l ++ [x], 0), ⟨h1, .inl ⟨hl2, rfl, by simp⟩⟩, h2, h3⟩
    · rw [show putF x l = (l, 11) from (if_pos hx).trans (if_neg hl2)] at h1 h2 h3
      exact ⟨(o', l, 11), ⟨h1, .inr ⟨by omega, rfl, rfl⟩⟩, h2, h3⟩
theorem awake10_c (w : World) : Calls Try.prog 45 [].toArray w fun e w' => e = .returned (.bool true) ∧ Below w.heap.size w w' := by
  refine V.calls [] Try.func45 rfl Try.ntmps45 (Nat.le_of_ble_eq_true rfl) (V.sat_nil _) ?_
  refine CW.seq ?_
  refine CW.region ?_
  refine LW.v rfl rfl (Val.assign rfl) ?_
  refine LW.nil ?_
  refine PQ.seq ?_
  refine CW.seq ?_
  refine CW.region ?_
  refine LW.e rfl rfl (Eff.callM ([]) (by repeat (first | exact .nil | apply Pick.cons | exact .here | apply Ext.there)) rfl Try.call41 (fun w hw hs => lnewP_c w)) ?_
  intro b _
  refine LW.v rfl rfl (Val.assign rfl) ?_
  refine LW.nil ?_
  refine PQ.seq ?_
  refine CW.seq ?_
  refine CW.region ?_
  refine LW.e rfl rfl (Eff.callM ([]) (by repeat (first | exact .nil | apply Pick.cons | exact .here | apply Ext.there)) rfl Try.call26 (fun w hw hs => new_c 1 w (by omega))) ?_
  rintro ⟨rb, ra⟩ _
  refine LW.v rfl rfl (Val.move rfl) ?_
  refine LW.v rfl rfl (Val.extract rfl rfl) ?_
  refine LW.v rfl rfl (Val.extract rfl rfl) ?_
  refine LW.v rfl rfl (Val.assign rfl) ?_
  refine LW.v rfl rfl (Val.assign rfl) ?_
  refine LW.nil ?_
  refine PQ.seq ?_
  refine CW.seq ?_
  refine CW.seq ?_
  refine CW.region ?_
  refine LW.v rfl rfl (Val.move rfl) ?_
  refine LW.v rfl rfl (Val.eqP false rfl rfl Try.underlying76 (.inr ⟨rfl, rfl⟩)) ?_
  refine LW.v rfl rfl (Val.move rfl) ?_
  refine LW.v rfl rfl (Val.move rfl) ?_
  refine LW.v rfl rfl (Val.cmp rfl rfl rfl) ?_
  refine LW.v rfl rfl (Val.pick_f rfl rfl) ?_
  refine LW.v rfl rfl (Val.move rfl) ?_
  refine LW.v rfl rfl (Val.move rfl) ?_
  refine LW.e rfl rfl (Eff.callV rfl Try.call43 (fun w hw => plain_c 1 3 w)) ?_
  intro _ _
  refine LW.e rfl rfl (Eff.callM (bgP 124 b none []) (by repeat (first | exact .nil | apply Pick.cons | exact .here | apply Ext.there)) rfl Try.call42 (fun w hw hs => putOk_c b none [] rfl (by decide) (plE 1 3) (plE_may 1 3) w hs)) ?_
  intro o1 ho1
  refine LW.v rfl rfl (Val.cmp rfl rfl rfl) ?_
  refine LW.v rfl rfl (Val.pick_f rfl rfl) ?_
  refine LW.v rfl rfl (Val.move rfl) ?_
  refine LW.v rfl rfl (Val.move rfl) ?_
  refine LW.e rfl rfl (Eff.callV rfl Try.call43 (fun w hw => plain_c 2 2 w)) ?_
  intro _ _
  refine LW.e rfl rfl (Eff.callM (bgP 124 b o1 [plE 1 3]) (by repeat (first | exact .nil | apply Pick.cons | exact .here | apply Ext.there)) rfl Try.call42 (fun w hw hs => putOk_c b o1 [plE 1 3] ho1 (by simp) (plE 2 2) (plE_may 2 2) w hs)) ?_
  intro o2 ho2
  refine LW.v rfl rfl (Val.cmp rfl rfl rfl) ?_
  refine LW.v rfl rfl (Val.pick_f rfl rfl) ?_
  refine LW.v rfl rfl (Val.move rfl) ?_
  refine LW.v rfl rfl (Val.move rfl) ?_
  refine LW.e rfl rfl (Eff.callV rfl Try.call44 (fun w hw => blenP_c b o2 [plE 1 3, plE 2 2] ho2 w (hw.sat.pick (ss := bgP 124 b o2 [plE 1 3, plE 2 2]) (by repeat (first | exact .nil | apply Pick.cons | exact .here | apply Ext.there))))) ?_
  intro _ _
  refine LW.v rfl rfl (Val.cmp rfl rfl rfl) ?_
  refine LW.v rfl rfl (Val.pick_f rfl rfl) ?_
  refine LW.nil ?_
  refine PQ.seq ?_
  refine CW.cond_f rfl ?_
  refine CW.skip ?_
  refine PQ.seq ?_
  refine CW.seq ?_
  refine CW.region ?_
  refine LW.v rfl rfl (Val.move rfl) ?_
  refine LW.v rfl rfl (Val.move rfl) ?_
  refine LW.e rfl rfl (Eff.callV rfl Try.call46 (fun w hw => ready_c b o2 [plE 1 3, plE 2 2] rb ra 1 [0] ho2 (by decide) (by simp) (by decide) 2 w (bgP_sat (hw.sat.pick (ss := bgP 124 b o2 [plE 1 3, plE 2 2]) (by repeat (first | exact .nil | apply Pick.cons | exact .here | apply Ext.there)))) (hw.sat.pick (ss := rdG rb ra 1 [0]) (by repeat (first | exact .nil | apply Pick.cons | exact .here | apply Ext.there))))) ?_
  intro _ _
  refine LW.re 37 (.tuple [enV (plE 2 2), .bool true].toArray) rfl (by rfl) ?_
  refine LW.v rfl rfl (Val.move rfl) ?_
  refine LW.v rfl rfl (Val.extract rfl rfl) ?_
  refine LW.v rfl rfl (Val.extract rfl rfl) ?_
  refine LW.e rfl rfl (Eff.allocA (by exact Try.zeroValue80)) ?_
  intro b4 _
  first | (refine LW.eN rfl (Eff.storeW rfl rfl (by repeat (first | exact .here | apply Upd.there)) (by rfl) Try.sizeOf80 (by rfl)) ?_) | (refine LW.eN rfl (Eff.storeA (l' := _) rfl rfl (by repeat (first | exact .here | apply Upd.there)) (by rfl) (by decide) Try.sizeOf80 (by rfl)) ?_)
  intro _ _
  refine LW.v rfl rfl (Val.assign rfl) ?_
  refine LW.nil ?_
  refine PQ.seq ?_
  refine CW.seq ?_
  refine CW.quiet mixed (by kernel_rfl) ?_
  refine QW.v rfl rfl (Val.move rfl) ?_
  refine QW.v rfl rfl (Val.move rfl) ?_
  first | (refine QW.v rfl rfl (Val.loadW rfl Try.isAgg80 (by repeat (first | exact .here | refine .there ?_)) (by exact Try.sizeOf80)) ?_) | (refine QW.v rfl rfl (Val.loadA [_, _, _, _, _] rfl Try.isAgg80 (by repeat (first | exact .here | refine .there ?_)) (by rfl) Try.sizeOf80) ?_)
  refine QW.c rfl rfl (Qcall.of rfl Try.call43 (fun w hw => plain_c 2 2 w)) ?_
  refine QW.v rfl rfl (Val.eqA rfl rfl (by kernel_rfl) Try.underlying80 (by kernel_rfl) (by exact (.int rfl rfl Try.isAgg3 Try.underlying3 (.int rfl rfl Try.isAgg3 Try.underlying3 (.int rfl rfl Try.isAgg28 Try.underlying28 (.int rfl rfl Try.isAgg28 Try.underlying28 (.int rfl rfl Try.isAgg3 Try.underlying3 .nil))))))) ?_
  refine QW.v rfl rfl (Val.pick_t rfl rfl) ?_
  refine QW.v rfl rfl (Val.assign rfl) ?_
  refine QW.nil ?_
  refine PQ.seq ?_
  refine CW.ret ?_
  refine PQ.ret1 rfl rfl ?_
  intro w' hw; exact ⟨rfl, hw.below⟩
end Go.Proofs.Ytgeblajdjdcghaa
