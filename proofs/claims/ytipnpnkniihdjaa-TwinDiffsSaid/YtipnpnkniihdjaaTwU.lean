/- A call done to a store: the program. -/
import Derived.Test.YtipnpnkniihdjaaTwT
import Derived.Test.YtipnpnkniihdjaaV27
import Derived.Lib.Hide
namespace Go.Proofs.Ytipnpnkniihdjaa
open Go Go.RowKit V
set_option linter.unusedVariables false
set_option maxRecDepth 100000
open V (str byC ownV ownG ownS ownOk)
def doF (A : ShA) (c : Cl) : ShA := if c.ck = 2 then (putF A.1 c.key c.val, A.2) else if c.ck = 3 then (delF A.1 c.key, A.2) else if c.ck = 4 then (A.1, A.2 ++ [c.val]) else (A.1, A.2.drop 1)
/-- A store behind a call. -/
def apF (A : ShA) (c : Cl) : ShA := if gdF c = 0 then doF A c else A
def apOk (A : ShA) (r : V.OwnO × OffO × Bool × List UInt8) : Prop := ownOk 2 A.1.length (A.1.flatMap prC) r.1 ∧ offOk A.2.length r.2.1
def apV (A : ShA) (r : V.OwnO × OffO × Bool × List UInt8) : List Value := [ownV A.1.length r.1, offV A.2.length r.2.1]
theorem apply_c (s : Sf) (A : ShA) (c : Cl) (hk : K4 c) (w : World) (hA : SfR w s A) (hl : A.1.length ≤ 1000 ∧ A.2.length ≤ 1000) : Calls Try.prog 10 [.agg s.cells.toArray, .agg (clC c).toArray].toArray w fun e w' => ∃ r : V.OwnO × OffO × Bool × List UInt8, apOk (apF A c) r ∧ e = .returned (.tuple #[.agg (apV (apF A c) r).toArray, .agg (ansC (gdF c) r.2.2.1 r.2.2.2).toArray]) ∧ Hp ⟨w, []⟩ [ownG 45 ((apF A c).1.flatMap prC) r.1, offG 9 ((apF A c).2.flatMap stE) r.2.1] w' := by
  obtain ⟨l, q⟩ := A
  obtain ⟨ck, key, val⟩ := c
  unfold K4 at hk
  simp only at hk hl
  rcases hk with rfl | rfl | rfl | rfl
  · refine V.calls [] Try.func10 rfl Try.ntmps10 (Nat.le_of_ble_eq_true rfl) (V.sat_nil _) ?_
    refine CW.seq ?_
    refine CW.region ?_
    refine LW.e rfl rfl (Eff.boxA rfl) ?_
    intro b2 _
    refine LW.e rfl rfl (Eff.boxA rfl) ?_
    intro b3 _
    refine LW.e rfl rfl (Eff.allocA (by exact Try.zeroValue25)) ?_
    intro b4 _
    refine LW.e rfl rfl (Eff.allocA (by exact Try.zeroValue34)) ?_
    intro b5 _
    refine LW.nil ?_
    refine PQ.seq ?_
    refine CW.seq ?_
    refine CW.region ?_
    first | (refine LW.v rfl rfl (Val.loadW rfl Try.isAgg25 (by repeat (first | exact .here | exact .inner .here | exact .inner (.inner .here) | refine .there ?_)) (by exact Try.sizeOf25)) ?_) | (refine LW.v rfl rfl (Val.loadA [_, _] rfl Try.isAgg25 (by repeat (first | exact .here | exact .inner .here | exact .inner (.inner .here) | refine .there ?_)) (by rfl) Try.sizeOf25) ?_)
    refine LW.e rfl rfl (Eff.callM ([]) .nil rfl Try.call21 (fun w hw hs => copied_c s (l, q) w (hA.hp hw (by simp [ids])) hl)) ?_
    rintro ⟨yp, yq⟩ ⟨hyp, hyq⟩
    refine LW.e rfl rfl (Eff.allocA (by exact Try.zeroValue25)) ?_
    intro b6 _
    refine LW.eN rfl (Eff.storeW (cs := owC (l, q) (yp, yq)) rfl rfl (by repeat (first | exact .here | exact .inner .here | exact .inner (.inner .here) | apply Upd.there)) (by rfl) Try.sizeOf25 (by simp [owC, V.ownV_one])) ?_
    intro _ _
    refine LW.nil ?_
    refine PQ.seq ?_
    refine CW.seq ?_
    refine CW.region ?_
    first | (refine LW.v rfl rfl (Val.loadW rfl Try.isAgg38 (by repeat (first | exact .here | exact .inner .here | exact .inner (.inner .here) | refine .there ?_)) (by exact Try.sizeOf38)) ?_) | (refine LW.v rfl rfl (Val.loadA [_, _, _, _, _] rfl Try.isAgg38 (by repeat (first | exact .here | exact .inner .here | exact .inner (.inner .here) | refine .there ?_)) (by rfl) Try.sizeOf38) ?_)
    refine LW.e rfl rfl (Eff.callV rfl Try.call19 (fun w hw => good_c ⟨2, key, val⟩ (by unfold K4; simp) w)) ?_
    intro _ _
    refine LW.v rfl rfl (Val.build (ansC (gdF (Cl.mk 2 key val)) false []) Try.zeroValue34 Try.underlying34 places34 rfl (by rfl)) ?_
    refine LW.e rfl rfl (Eff.allocA (by exact Try.zeroValue34)) ?_
    intro b7 _
    first | (refine LW.eN rfl (Eff.storeW rfl rfl (by repeat (first | exact .here | exact .inner .here | exact .inner (.inner .here) | apply Upd.there)) (by rfl) Try.sizeOf34 (by rfl)) ?_) | (refine LW.eN rfl (Eff.storeA (l' := _) rfl rfl (by repeat (first | exact .here | exact .inner .here | exact .inner (.inner .here) | apply Upd.there)) (by rfl) (by decide) Try.sizeOf34 (by rfl)) ?_)
    intro _ _
    refine LW.nil ?_
    refine PQ.seq ?_
    refine CW.seq ?_
    refine CW.seq ?_
    refine CW.region ?_
    refine LW.v rfl rfl (Val.fieldAddr 0 rfl Try.underlying34 rfl rfl Try.sizeOf30) ?_
    refine LW.v rfl rfl (Val.load rfl Try.isAgg30 (by repeat (first | exact .here | exact .inner .here | exact .inner (.inner .here) | refine .there ?_)) (by rfl)) ?_
    refine LW.v rfl rfl (Val.cmp rfl rfl rfl) ?_
    refine LW.nil ?_
    refine PQ.seq ?_
    refine CW.cond rfl (fun h19 => ?_) (fun h19 => ?_)
    · replace h19 := bT h19
      have h19 : gdF (Cl.mk 2 key val) ≠ 0 := h19
      have hap : apF (l, q) (Cl.mk 2 key val) = (l, q) := by unfold apF; rw [if_neg h19]
      rw [hap]
      refine CW.seq ?_
      refine CW.drawn ([[(b6, .cells _ 25 (0, 0))], [(b7, .cells _ 34 (0, 0))]]) mixed (by repeat (first | exact .nil | apply Pick.cons | exact .here | apply Ext.there)) ?_
      refine RW.v 0 rfl (by kernel_rfl) (by kernel_rfl) (by kernel_rfl) (fun _ _ _ h => h) rfl rfl (Val.loadW (l := [ownV l.length yp, ownV q.length yq]) rfl Try.isAgg25 (by repeat (first | exact .here | exact .inner .here | exact .inner (.inner .here) | refine .there ?_)) (by exact Try.sizeOf25)) ?_
      refine RW.v 1 rfl (by kernel_rfl) (by kernel_rfl) (by kernel_rfl) (fun _ _ _ h => h) rfl rfl (Val.loadW (l := ansC (gdF (Cl.mk 2 key val)) false []) rfl Try.isAgg34 (by repeat (first | exact .here | exact .inner .here | exact .inner (.inner .here) | refine .there ?_)) (by exact Try.sizeOf34)) ?_
      first | (refine RW.eN 2 rfl (by kernel_rfl) rfl (Eff.storeW (cs := [ownV l.length yp, ownV q.length yq]) rfl rfl (by repeat (first | exact .here | exact .inner .here | exact .inner (.inner .here) | apply Upd.there)) (by rfl) Try.sizeOf25 (by simp [V.ownV_one])) (fun x => ⟨_, (by repeat (first | exact .nil | apply Pick.cons | exact .here | apply Ext.there))⟩) ?_) | (refine RW.eN 2 rfl (by kernel_rfl) rfl (Eff.storeW (cs := [ownV (putF l key val).length x.1, offV q.length x.2.1]) rfl rfl (by repeat (first | exact .here | exact .inner .here | exact .inner (.inner .here) | apply Upd.there)) (by rfl) Try.sizeOf25 (by simp [V.ownV_one, offV_one])) (fun x => ⟨_, (by repeat (first | exact .nil | apply Pick.cons | exact .here | apply Ext.there))⟩) ?_)
      intro _ _
      first | (refine RW.eN 3 rfl (by kernel_rfl) rfl (Eff.storeW rfl rfl (by repeat (first | exact .here | exact .inner .here | exact .inner (.inner .here) | apply Upd.there)) (by rfl) Try.sizeOf34 (by rfl)) (fun x => ⟨_, (by repeat (first | exact .nil | apply Pick.cons | exact .here | apply Ext.there))⟩) ?_) | (refine RW.eN 3 rfl (by kernel_rfl) rfl (Eff.storeA (l' := _) rfl rfl (by repeat (first | exact .here | exact .inner .here | exact .inner (.inner .here) | apply Upd.there)) (by rfl) (by decide) Try.sizeOf34 (by rfl)) (fun x => ⟨_, (by repeat (first | exact .nil | apply Pick.cons | exact .here | apply Ext.there))⟩) ?_)
      intro _ _
      refine RW.done (by kernel_rfl) ?_
      refine PQ.seq ?_
      refine CW.ret ?_
      refine PQ.then_ret ?_
      refine V.PQ.retCC rfl rfl rfl (by repeat (first | exact .here | exact .inner .here | exact .inner (.inner .here) | refine .there ?_)) Try.isAgg25 (by exact Try.sizeOf25) (by repeat (first | exact .here | exact .inner .here | exact .inner (.inner .here) | refine .there ?_)) Try.isAgg34 (by exact Try.sizeOf34) ?_
      intro w' hw
      exact ⟨(yp, offOf yq, false, []), ⟨hyp, offOf_ok hyq⟩, by unfold apV; rw [offOf_V], (by show Hp _ [ownG 45 (l.flatMap prC) yp, offG 9 (q.flatMap stE) (offOf yq)] w'; rw [offOf_G]; exact hw.pick (by repeat (first | exact .nil | apply Pick.cons | exact .here | apply Ext.there)))⟩
    · replace h19 := bF h19
      have h19 : gdF (Cl.mk 2 key val) = 0 := h19
      have hap : apF (l, q) (Cl.mk 2 key val) = ((putF l key val), q) := by unfold apF; rw [if_pos h19]; rfl
      rw [hap, h19]
      refine CW.skip ?_
      refine PQ.seq ?_
      refine CW.seq ?_
      refine CW.region ?_
      refine LW.e rfl rfl (Eff.callM ([]) .nil rfl Try.call22 (fun w hw hs => doings_c w)) ?_
      intro b8 _
      refine LW.v rfl rfl (Val.assign rfl) ?_
      refine LW.nil ?_
      refine PQ.seq ?_
      refine CW.seq ?_
      refine CW.seq ?_
      refine CW.region ?_
      refine LW.v rfl rfl (Val.fieldAddr 0 rfl Try.underlying38 rfl rfl Try.sizeOf3) ?_
      refine LW.v rfl rfl (Val.load rfl Try.isAgg3 (by repeat (first | exact .here | exact .inner .here | exact .inner (.inner .here) | refine .there ?_)) (by rfl)) ?_
      refine LW.v rfl rfl (Val.cmp rfl rfl rfl) ?_
      refine LW.re 25 (.bool true) rfl (by rfl) ?_
      refine LW.nil ?_
      refine PQ.seq ?_
      refine CW.cond_t rfl ?_
      refine CW.seq ?_
      refine CW.region ?_
      refine LW.v rfl rfl (Val.move rfl) ?_
      refine LW.v rfl rfl (Val.fieldAddr 0 rfl Try.underlying38 rfl rfl Try.sizeOf3) ?_
      refine LW.v rfl rfl (Val.load rfl Try.isAgg3 (by repeat (first | exact .here | exact .inner .here | exact .inner (.inner .here) | refine .there ?_)) (by rfl)) ?_
      refine LW.v rfl rfl (Val.ilookup1 (E := doE) (c := 7) rfl rfl Try.underlying48 Try.underlying3 (by exact Try.zeroValue51) (by repeat (first | exact .here | exact .inner .here | exact .inner (.inner .here) | refine .there ?_))) ?_
      refine LW.re 29 (.func (.func 37) #[] #[]) rfl (by rfl) ?_
      first | (refine LW.v rfl rfl (Val.loadW rfl Try.isAgg38 (by repeat (first | exact .here | exact .inner .here | exact .inner (.inner .here) | refine .there ?_)) (by exact Try.sizeOf38)) ?_) | (refine LW.v rfl rfl (Val.loadA [_, _, _, _, _] rfl Try.isAgg38 (by repeat (first | exact .here | exact .inner .here | exact .inner (.inner .here) | refine .there ?_)) (by rfl) Try.sizeOf38) ?_)
      refine LW.e rfl rfl (Eff.callFM (f := 37) (caps := []) ([[(b6, .cells [ownV l.length yp, ownV q.length yq].toArray 25 (0, 0))], ownG 45 (l.flatMap prC) yp, ownG 9 (q.flatMap stE) yq, [(b7, .cells (ansC 0 false []).toArray 34 (0, 0))]]) (by repeat (first | exact .nil | apply Pick.cons | exact .here | apply Ext.there)) rfl rfl Try.call37 (fun w hw hs => do2_c l yp q yq b6 b7 ⟨2, key, val⟩ w hyp hyq hl hs)) ?_
      intro x hx
      refine LW.nil ?_
      refine PQ.seq ?_
      refine CW.seq ?_
      refine CW.drawn ([[(b6, .cells _ 25 (0, 0))], [(b7, .cells _ 34 (0, 0))]]) mixed (by repeat (first | exact .nil | apply Pick.cons | exact .here | apply Ext.there)) ?_
      refine RW.v 0 rfl (by kernel_rfl) (by kernel_rfl) (by kernel_rfl) (fun _ _ _ h => h) rfl rfl (Val.loadW (l := [ownV (putF l key val).length x.1, offV q.length x.2.1]) rfl Try.isAgg25 (by repeat (first | exact .here | exact .inner .here | exact .inner (.inner .here) | refine .there ?_)) (by exact Try.sizeOf25)) ?_
      refine RW.v 1 rfl (by kernel_rfl) (by kernel_rfl) (by kernel_rfl) (fun _ _ _ h => h) rfl rfl (Val.loadW (l := ansC 0 x.2.2.1 x.2.2.2) rfl Try.isAgg34 (by repeat (first | exact .here | exact .inner .here | exact .inner (.inner .here) | refine .there ?_)) (by exact Try.sizeOf34)) ?_
      first | (refine RW.eN 2 rfl (by kernel_rfl) rfl (Eff.storeW (cs := [ownV l.length yp, ownV q.length yq]) rfl rfl (by repeat (first | exact .here | exact .inner .here | exact .inner (.inner .here) | apply Upd.there)) (by rfl) Try.sizeOf25 (by simp [V.ownV_one])) (fun x => ⟨_, (by repeat (first | exact .nil | apply Pick.cons | exact .here | apply Ext.there))⟩) ?_) | (refine RW.eN 2 rfl (by kernel_rfl) rfl (Eff.storeW (cs := [ownV (putF l key val).length x.1, offV q.length x.2.1]) rfl rfl (by repeat (first | exact .here | exact .inner .here | exact .inner (.inner .here) | apply Upd.there)) (by rfl) Try.sizeOf25 (by simp [V.ownV_one, offV_one])) (fun x => ⟨_, (by repeat (first | exact .nil | apply Pick.cons | exact .here | apply Ext.there))⟩) ?_)
      intro _ _
      first | (refine RW.eN 3 rfl (by kernel_rfl) rfl (Eff.storeW rfl rfl (by repeat (first | exact .here | exact .inner .here | exact .inner (.inner .here) | apply Upd.there)) (by rfl) Try.sizeOf34 (by rfl)) (fun x => ⟨_, (by repeat (first | exact .nil | apply Pick.cons | exact .here | apply Ext.there))⟩) ?_) | (refine RW.eN 3 rfl (by kernel_rfl) rfl (Eff.storeA (l' := _) rfl rfl (by repeat (first | exact .here | exact .inner .here | exact .inner (.inner .here) | apply Upd.there)) (by rfl) (by decide) Try.sizeOf34 (by rfl)) (fun x => ⟨_, (by repeat (first | exact .nil | apply Pick.cons | exact .here | apply Ext.there))⟩) ?_)
      intro _ _
      refine RW.done (by kernel_rfl) ?_
      refine PQ.seq ?_
      refine CW.ret ?_
      refine PQ.then_ret ?_
      refine V.PQ.retCC rfl rfl rfl (by repeat (first | exact .here | exact .inner .here | exact .inner (.inner .here) | refine .there ?_)) Try.isAgg25 (by exact Try.sizeOf25) (by repeat (first | exact .here | exact .inner .here | exact .inner (.inner .here) | refine .there ?_)) Try.isAgg34 (by exact Try.sizeOf34) ?_
      intro w' hw
      exact ⟨x, hx, rfl, hw.pick (by repeat (first | exact .nil | apply Pick.cons | exact .here | apply Ext.there))⟩
  · refine V.calls [] Try.func10 rfl Try.ntmps10 (Nat.le_of_ble_eq_true rfl) (V.sat_nil _) ?_
    refine CW.seq ?_
    refine CW.region ?_
    refine LW.e rfl rfl (Eff.boxA rfl) ?_
    intro b2 _
    refine LW.e rfl rfl (Eff.boxA rfl) ?_
    intro b3 _
    refine LW.e rfl rfl (Eff.allocA (by exact Try.zeroValue25)) ?_
    intro b4 _
    refine LW.e rfl rfl (Eff.allocA (by exact Try.zeroValue34)) ?_
    intro b5 _
    refine LW.nil ?_
    refine PQ.seq ?_
    refine CW.seq ?_
    refine CW.region ?_
    first | (refine LW.v rfl rfl (Val.loadW rfl Try.isAgg25 (by repeat (first | exact .here | exact .inner .here | exact .inner (.inner .here) | refine .there ?_)) (by exact Try.sizeOf25)) ?_) | (refine LW.v rfl rfl (Val.loadA [_, _] rfl Try.isAgg25 (by repeat (first | exact .here | exact .inner .here | exact .inner (.inner .here) | refine .there ?_)) (by rfl) Try.sizeOf25) ?_)
    refine LW.e rfl rfl (Eff.callM ([]) .nil rfl Try.call21 (fun w hw hs => copied_c s (l, q) w (hA.hp hw (by simp [ids])) hl)) ?_
    rintro ⟨yp, yq⟩ ⟨hyp, hyq⟩
    refine LW.e rfl rfl (Eff.allocA (by exact Try.zeroValue25)) ?_
    intro b6 _
    refine LW.eN rfl (Eff.storeW (cs := owC (l, q) (yp, yq)) rfl rfl (by repeat (first | exact .here | exact .inner .here | exact .inner (.inner .here) | apply Upd.there)) (by rfl) Try.sizeOf25 (by simp [owC, V.ownV_one])) ?_
    intro _ _
    refine LW.nil ?_
    refine PQ.seq ?_
    refine CW.seq ?_
    refine CW.region ?_
    first | (refine LW.v rfl rfl (Val.loadW rfl Try.isAgg38 (by repeat (first | exact .here | exact .inner .here | exact .inner (.inner .here) | refine .there ?_)) (by exact Try.sizeOf38)) ?_) | (refine LW.v rfl rfl (Val.loadA [_, _, _, _, _] rfl Try.isAgg38 (by repeat (first | exact .here | exact .inner .here | exact .inner (.inner .here) | refine .there ?_)) (by rfl) Try.sizeOf38) ?_)
    refine LW.e rfl rfl (Eff.callV rfl Try.call19 (fun w hw => good_c ⟨3, key, val⟩ (by unfold K4; simp) w)) ?_
    intro _ _
    refine LW.v rfl rfl (Val.build (ansC (gdF (Cl.mk 3 key val)) false []) Try.zeroValue34 Try.underlying34 places34 rfl (by rfl)) ?_
    refine LW.e rfl rfl (Eff.allocA (by exact Try.zeroValue34)) ?_
    intro b7 _
    first | (refine LW.eN rfl (Eff.storeW rfl rfl (by repeat (first | exact .here | exact .inner .here | exact .inner (.inner .here) | apply Upd.there)) (by rfl) Try.sizeOf34 (by rfl)) ?_) | (refine LW.eN rfl (Eff.storeA (l' := _) rfl rfl (by repeat (first | exact .here | exact .inner .here | exact .inner (.inner .here) | apply Upd.there)) (by rfl) (by decide) Try.sizeOf34 (by rfl)) ?_)
    intro _ _
    refine LW.nil ?_
    refine PQ.seq ?_
    refine CW.seq ?_
    refine CW.seq ?_
    refine CW.region ?_
    refine LW.v rfl rfl (Val.fieldAddr 0 rfl Try.underlying34 rfl rfl Try.sizeOf30) ?_
    refine LW.v rfl rfl (Val.load rfl Try.isAgg30 (by repeat (first | exact .here | exact .inner .here | exact .inner (.inner .here) | refine .there ?_)) (by rfl)) ?_
    refine LW.v rfl rfl (Val.cmp rfl rfl rfl) ?_
    refine LW.nil ?_
    refine PQ.seq ?_
    refine CW.cond rfl (fun h19 => ?_) (fun h19 => ?_)
    · replace h19 := bT h19
      have h19 : gdF (Cl.mk 3 key val) ≠ 0 := h19
      have hap : apF (l, q) (Cl.mk 3 key val) = (l, q) := by unfold apF; rw [if_neg h19]
      rw [hap]
      refine CW.seq ?_
      refine CW.drawn ([[(b6, .cells _ 25 (0, 0))], [(b7, .cells _ 34 (0, 0))]]) mixed (by repeat (first | exact .nil | apply Pick.cons | exact .here | apply Ext.there)) ?_
      refine RW.v 0 rfl (by kernel_rfl) (by kernel_rfl) (by kernel_rfl) (fun _ _ _ h => h) rfl rfl (Val.loadW (l := [ownV l.length yp, ownV q.length yq]) rfl Try.isAgg25 (by repeat (first | exact .here | exact .inner .here | exact .inner (.inner .here) | refine .there ?_)) (by exact Try.sizeOf25)) ?_
      refine RW.v 1 rfl (by kernel_rfl) (by kernel_rfl) (by kernel_rfl) (fun _ _ _ h => h) rfl rfl (Val.loadW (l := ansC (gdF (Cl.mk 3 key val)) false []) rfl Try.isAgg34 (by repeat (first | exact .here | exact .inner .here | exact .inner (.inner .here) | refine .there ?_)) (by exact Try.sizeOf34)) ?_
      first | (refine RW.eN 2 rfl (by kernel_rfl) rfl (Eff.storeW (cs := [ownV l.length yp, ownV q.length yq]) rfl rfl (by repeat (first | exact .here | exact .inner .here | exact .inner (.inner .here) | apply Upd.there)) (by rfl) Try.sizeOf25 (by simp [V.ownV_one])) (fun x => ⟨_, (by repeat (first | exact .nil | apply Pick.cons | exact .here | apply Ext.there))⟩) ?_) | (refine RW.eN 2 rfl (by kernel_rfl) rfl (Eff.storeW (cs := [ownV (delF l key).length x.1, offV q.length x.2.1]) rfl rfl (by repeat (first | exact .here | exact .inner .here | exact .inner (.inner .here) | apply Upd.there)) (by rfl) Try.sizeOf25 (by simp [V.ownV_one, offV_one])) (fun x => ⟨_, (by repeat (first | exact .nil | apply Pick.cons | exact .here | apply Ext.there))⟩) ?_)
      intro _ _
      first | (refine RW.eN 3 rfl (by kernel_rfl) rfl (Eff.storeW rfl rfl (by repeat (first | exact .here | exact .inner .here | exact .inner (.inner .here) | apply Upd.there)) (by rfl) Try.sizeOf34 (by rfl)) (fun x => ⟨_, (by repeat (first | exact .nil | apply Pick.cons | exact .here | apply Ext.there))⟩) ?_) | (refine RW.eN 3 rfl (by kernel_rfl) rfl (Eff.storeA (l' := _) rfl rfl (by repeat (first | exact .here | exact .inner .here | exact .inner (.inner .here) | apply Upd.there)) (by rfl) (by decide) Try.sizeOf34 (by rfl)) (fun x => ⟨_, (by repeat (first | exact .nil | apply Pick.cons | exact .here | apply Ext.there))⟩) ?_)
      intro _ _
      refine RW.done (by kernel_rfl) ?_
      refine PQ.seq ?_
      refine CW.ret ?_
      refine PQ.then_ret ?_
      refine V.PQ.retCC rfl rfl rfl (by repeat (first | exact .here | exact .inner .here | exact .inner (.inner .here) | refine .there ?_)) Try.isAgg25 (by exact Try.sizeOf25) (by repeat (first | exact .here | exact .inner .here | exact .inner (.inner .here) | refine .there ?_)) Try.isAgg34 (by exact Try.sizeOf34) ?_
      intro w' hw
      exact ⟨(yp, offOf yq, false, []), ⟨hyp, offOf_ok hyq⟩, by unfold apV; rw [offOf_V], (by show Hp _ [ownG 45 (l.flatMap prC) yp, offG 9 (q.flatMap stE) (offOf yq)] w'; rw [offOf_G]; exact hw.pick (by repeat (first | exact .nil | apply Pick.cons | exact .here | apply Ext.there)))⟩
    · replace h19 := bF h19
      have h19 : gdF (Cl.mk 3 key val) = 0 := h19
      have hap : apF (l, q) (Cl.mk 3 key val) = ((delF l key), q) := by unfold apF; rw [if_pos h19]; rfl
      rw [hap, h19]
      refine CW.skip ?_
      refine PQ.seq ?_
      refine CW.seq ?_
      refine CW.region ?_
      refine LW.e rfl rfl (Eff.callM ([]) .nil rfl Try.call22 (fun w hw hs => doings_c w)) ?_
      intro b8 _
      refine LW.v rfl rfl (Val.assign rfl) ?_
      refine LW.nil ?_
      refine PQ.seq ?_
      refine CW.seq ?_
      refine CW.seq ?_
      refine CW.region ?_
      refine LW.v rfl rfl (Val.fieldAddr 0 rfl Try.underlying38 rfl rfl Try.sizeOf3) ?_
      refine LW.v rfl rfl (Val.load rfl Try.isAgg3 (by repeat (first | exact .here | exact .inner .here | exact .inner (.inner .here) | refine .there ?_)) (by rfl)) ?_
      refine LW.v rfl rfl (Val.cmp rfl rfl rfl) ?_
      refine LW.re 25 (.bool true) rfl (by rfl) ?_
      refine LW.nil ?_
      refine PQ.seq ?_
      refine CW.cond_t rfl ?_
      refine CW.seq ?_
      refine CW.region ?_
      refine LW.v rfl rfl (Val.move rfl) ?_
      refine LW.v rfl rfl (Val.fieldAddr 0 rfl Try.underlying38 rfl rfl Try.sizeOf3) ?_
      refine LW.v rfl rfl (Val.load rfl Try.isAgg3 (by repeat (first | exact .here | exact .inner .here | exact .inner (.inner .here) | refine .there ?_)) (by rfl)) ?_
      refine LW.v rfl rfl (Val.ilookup1 (E := doE) (c := 7) rfl rfl Try.underlying48 Try.underlying3 (by exact Try.zeroValue51) (by repeat (first | exact .here | exact .inner .here | exact .inner (.inner .here) | refine .there ?_))) ?_
      refine LW.re 29 (.func (.func 39) #[] #[]) rfl (by rfl) ?_
      first | (refine LW.v rfl rfl (Val.loadW rfl Try.isAgg38 (by repeat (first | exact .here | exact .inner .here | exact .inner (.inner .here) | refine .there ?_)) (by exact Try.sizeOf38)) ?_) | (refine LW.v rfl rfl (Val.loadA [_, _, _, _, _] rfl Try.isAgg38 (by repeat (first | exact .here | exact .inner .here | exact .inner (.inner .here) | refine .there ?_)) (by rfl) Try.sizeOf38) ?_)
      refine LW.e rfl rfl (Eff.callFM (f := 39) (caps := []) ([[(b6, .cells [ownV l.length yp, ownV q.length yq].toArray 25 (0, 0))], ownG 45 (l.flatMap prC) yp, ownG 9 (q.flatMap stE) yq, [(b7, .cells (ansC 0 false []).toArray 34 (0, 0))]]) (by repeat (first | exact .nil | apply Pick.cons | exact .here | apply Ext.there)) rfl rfl Try.call39 (fun w hw hs => do3_c l yp q yq b6 b7 ⟨3, key, val⟩ w hyp hyq hl hs)) ?_
      intro x hx
      refine LW.nil ?_
      refine PQ.seq ?_
      refine CW.seq ?_
      refine CW.drawn ([[(b6, .cells _ 25 (0, 0))], [(b7, .cells _ 34 (0, 0))]]) mixed (by repeat (first | exact .nil | apply Pick.cons | exact .here | apply Ext.there)) ?_
      refine RW.v 0 rfl (by kernel_rfl) (by kernel_rfl) (by kernel_rfl) (fun _ _ _ h => h) rfl rfl (Val.loadW (l := [ownV (delF l key).length x.1, offV q.length x.2.1]) rfl Try.isAgg25 (by repeat (first | exact .here | exact .inner .here | exact .inner (.inner .here) | refine .there ?_)) (by exact Try.sizeOf25)) ?_
      refine RW.v 1 rfl (by kernel_rfl) (by kernel_rfl) (by kernel_rfl) (fun _ _ _ h => h) rfl rfl (Val.loadW (l := ansC 0 x.2.2.1 x.2.2.2) rfl Try.isAgg34 (by repeat (first | exact .here | exact .inner .here | exact .inner (.inner .here) | refine .there ?_)) (by exact Try.sizeOf34)) ?_
      first | (refine RW.eN 2 rfl (by kernel_rfl) rfl (Eff.storeW (cs := [ownV l.length yp, ownV q.length yq]) rfl rfl (by repeat (first | exact .here | exact .inner .here | exact .inner (.inner .here) | apply Upd.there)) (by rfl) Try.sizeOf25 (by simp [V.ownV_one])) (fun x => ⟨_, (by repeat (first | exact .nil | apply Pick.cons | exact .here | apply Ext.there))⟩) ?_) | (refine RW.eN 2 rfl (by kernel_rfl) rfl (Eff.storeW (cs := [ownV (delF l key).length x.1, offV q.length x.2.1]) rfl rfl (by repeat (first | exact .here | exact .inner .here | exact .inner (.inner .here) | apply Upd.there)) (by rfl) Try.sizeOf25 (by simp [V.ownV_one, offV_one])) (fun x => ⟨_, (by repeat (first | exact .nil | apply Pick.cons | exact .here | apply Ext.there))⟩) ?_)
      intro _ _
      first | (refine RW.eN 3 rfl (by kernel_rfl) rfl (Eff.storeW rfl rfl (by repeat (first | exact .here | exact .inner .here | exact .inner (.inner .here) | apply Upd.there)) (by rfl) Try.sizeOf34 (by rfl)) (fun x => ⟨_, (by repeat (first | exact .nil | apply Pick.cons | exact .here | apply Ext.there))⟩) ?_) | (refine RW.eN 3 rfl (by kernel_rfl) rfl (Eff.storeA (l' := _) rfl rfl (by repeat (first | exact .here | exact .inner .here | exact .inner (.inner .here) | apply Upd.there)) (by rfl) (by decide) Try.sizeOf34 (by rfl)) (fun x => ⟨_, (by repeat (first | exact .nil | apply Pick.cons | exact .here | apply Ext.there))⟩) ?_)
      intro _ _
      refine RW.done (by kernel_rfl) ?_
      refine PQ.seq ?_
      refine CW.ret ?_
      refine PQ.then_ret ?_
      refine V.PQ.retCC rfl rfl rfl (by repeat (first | exact .here | exact .inner .here | exact .inner (.inner .here) | refine .there ?_)) Try.isAgg25 (by exact Try.sizeOf25) (by repeat (first | exact .here | exact .inner .here | exact .inner (.inner .here) | refine .there ?_)) Try.isAgg34 (by exact Try.sizeOf34) ?_
      intro w' hw
      exact ⟨x, hx, rfl, hw.pick (by repeat (first | exact .nil | apply Pick.cons | exact .here | apply Ext.there))⟩
  · refine V.calls [] Try.func10 rfl Try.ntmps10 (Nat.le_of_ble_eq_true rfl) (V.sat_nil _) ?_
    refine CW.seq ?_
    refine CW.region ?_
    refine LW.e rfl rfl (Eff.boxA rfl) ?_
    intro b2 _
    refine LW.e rfl rfl (Eff.boxA rfl) ?_
    intro b3 _
    refine LW.e rfl rfl (Eff.allocA (by exact Try.zeroValue25)) ?_
    intro b4 _
    refine LW.e rfl rfl (Eff.allocA (by exact Try.zeroValue34)) ?_
    intro b5 _
    refine LW.nil ?_
    refine PQ.seq ?_
    refine CW.seq ?_
    refine CW.region ?_
    first | (refine LW.v rfl rfl (Val.loadW rfl Try.isAgg25 (by repeat (first | exact .here | exact .inner .here | exact .inner (.inner .here) | refine .there ?_)) (by exact Try.sizeOf25)) ?_) | (refine LW.v rfl rfl (Val.loadA [_, _] rfl Try.isAgg25 (by repeat (first | exact .here | exact .inner .here | exact .inner (.inner .here) | refine .there ?_)) (by rfl) Try.sizeOf25) ?_)
    refine LW.e rfl rfl (Eff.callM ([]) .nil rfl Try.call21 (fun w hw hs => copied_c s (l, q) w (hA.hp hw (by simp [ids])) hl)) ?_
    rintro ⟨yp, yq⟩ ⟨hyp, hyq⟩
    refine LW.e rfl rfl (Eff.allocA (by exact Try.zeroValue25)) ?_
    intro b6 _
    refine LW.eN rfl (Eff.storeW (cs := owC (l, q) (yp, yq)) rfl rfl (by repeat (first | exact .here | exact .inner .here | exact .inner (.inner .here) | apply Upd.there)) (by rfl) Try.sizeOf25 (by simp [owC, V.ownV_one])) ?_
    intro _ _
    refine LW.nil ?_
    refine PQ.seq ?_
    refine CW.seq ?_
    refine CW.region ?_
    first | (refine LW.v rfl rfl (Val.loadW rfl Try.isAgg38 (by repeat (first | exact .here | exact .inner .here | exact .inner (.inner .here) | refine .there ?_)) (by exact Try.sizeOf38)) ?_) | (refine LW.v rfl rfl (Val.loadA [_, _, _, _, _] rfl Try.isAgg38 (by repeat (first | exact .here | exact .inner .here | exact .inner (.inner .here) | refine .there ?_)) (by rfl) Try.sizeOf38) ?_)
    refine LW.e rfl rfl (Eff.callV rfl Try.call19 (fun w hw => good_c ⟨4, key, val⟩ (by unfold K4; simp) w)) ?_
    intro _ _
    refine LW.v rfl rfl (Val.build (ansC (gdF (Cl.mk 4 key val)) false []) Try.zeroValue34 Try.underlying34 places34 rfl (by rfl)) ?_
    refine LW.e rfl rfl (Eff.allocA (by exact Try.zeroValue34)) ?_
    intro b7 _
    first | (refine LW.eN rfl (Eff.storeW rfl rfl (by repeat (first | exact .here | exact .inner .here | exact .inner (.inner .here) | apply Upd.there)) (by rfl) Try.sizeOf34 (by rfl)) ?_) | (refine LW.eN rfl (Eff.storeA (l' := _) rfl rfl (by repeat (first | exact .here | exact .inner .here | exact .inner (.inner .here) | apply Upd.there)) (by rfl) (by decide) Try.sizeOf34 (by rfl)) ?_)
    intro _ _
    refine LW.nil ?_
    refine PQ.seq ?_
    refine CW.seq ?_
    refine CW.seq ?_
    refine CW.region ?_
    refine LW.v rfl rfl (Val.fieldAddr 0 rfl Try.underlying34 rfl rfl Try.sizeOf30) ?_
    refine LW.v rfl rfl (Val.load rfl Try.isAgg30 (by repeat (first | exact .here | exact .inner .here | exact .inner (.inner .here) | refine .there ?_)) (by rfl)) ?_
    refine LW.v rfl rfl (Val.cmp rfl rfl rfl) ?_
    refine LW.nil ?_
    refine PQ.seq ?_
    refine CW.cond rfl (fun h19 => ?_) (fun h19 => ?_)
    · replace h19 := bT h19
      have h19 : gdF (Cl.mk 4 key val) ≠ 0 := h19
      have hap : apF (l, q) (Cl.mk 4 key val) = (l, q) := by unfold apF; rw [if_neg h19]
      rw [hap]
      refine CW.seq ?_
      refine CW.drawn ([[(b6, .cells _ 25 (0, 0))], [(b7, .cells _ 34 (0, 0))]]) mixed (by repeat (first | exact .nil | apply Pick.cons | exact .here | apply Ext.there)) ?_
      refine RW.v 0 rfl (by kernel_rfl) (by kernel_rfl) (by kernel_rfl) (fun _ _ _ h => h) rfl rfl (Val.loadW (l := [ownV l.length yp, ownV q.length yq]) rfl Try.isAgg25 (by repeat (first | exact .here | exact .inner .here | exact .inner (.inner .here) | refine .there ?_)) (by exact Try.sizeOf25)) ?_
      refine RW.v 1 rfl (by kernel_rfl) (by kernel_rfl) (by kernel_rfl) (fun _ _ _ h => h) rfl rfl (Val.loadW (l := ansC (gdF (Cl.mk 4 key val)) false []) rfl Try.isAgg34 (by repeat (first | exact .here | exact .inner .here | exact .inner (.inner .here) | refine .there ?_)) (by exact Try.sizeOf34)) ?_
      first | (refine RW.eN 2 rfl (by kernel_rfl) rfl (Eff.storeW (cs := [ownV l.length yp, ownV q.length yq]) rfl rfl (by repeat (first | exact .here | exact .inner .here | exact .inner (.inner .here) | apply Upd.there)) (by rfl) Try.sizeOf25 (by simp [V.ownV_one])) (fun x => ⟨_, (by repeat (first | exact .nil | apply Pick.cons | exact .here | apply Ext.there))⟩) ?_) | (refine RW.eN 2 rfl (by kernel_rfl) rfl (Eff.storeW (cs := [ownV l.length x.1, offV (q ++ [val]).length x.2.1]) rfl rfl (by repeat (first | exact .here | exact .inner .here | exact .inner (.inner .here) | apply Upd.there)) (by rfl) Try.sizeOf25 (by simp [V.ownV_one, offV_one])) (fun x => ⟨_, (by repeat (first | exact .nil | apply Pick.cons | exact .here | apply Ext.there))⟩) ?_)
      intro _ _
      first | (refine RW.eN 3 rfl (by kernel_rfl) rfl (Eff.storeW rfl rfl (by repeat (first | exact .here | exact .inner .here | exact .inner (.inner .here) | apply Upd.there)) (by rfl) Try.sizeOf34 (by rfl)) (fun x => ⟨_, (by repeat (first | exact .nil | apply Pick.cons | exact .here | apply Ext.there))⟩) ?_) | (refine RW.eN 3 rfl (by kernel_rfl) rfl (Eff.storeA (l' := _) rfl rfl (by repeat (first | exact .here | exact .inner .here | exact .inner (.inner .here) | apply Upd.there)) (by rfl) (by decide) Try.sizeOf34 (by rfl)) (fun x => ⟨_, (by repeat (first | exact .nil | apply Pick.cons | exact .here | apply Ext.there))⟩) ?_)
      intro _ _
      refine RW.done (by kernel_rfl) ?_
      refine PQ.seq ?_
      refine CW.ret ?_
      refine PQ.then_ret ?_
      refine V.PQ.retCC rfl rfl rfl (by repeat (first | exact .here | exact .inner .here | exact .inner (.inner .here) | refine .there ?_)) Try.isAgg25 (by exact Try.sizeOf25) (by repeat (first | exact .here | exact .inner .here | exact .inner (.inner .here) | refine .there ?_)) Try.isAgg34 (by exact Try.sizeOf34) ?_
      intro w' hw
      exact ⟨(yp, offOf yq, false, []), ⟨hyp, offOf_ok hyq⟩, by unfold apV; rw [offOf_V], (by show Hp _ [ownG 45 (l.flatMap prC) yp, offG 9 (q.flatMap stE) (offOf yq)] w'; rw [offOf_G]; exact hw.pick (by repeat (first | exact .nil | apply Pick.cons | exact .here | apply Ext.there)))⟩
    · replace h19 := bF h19
      have h19 : gdF (Cl.mk 4 key val) = 0 := h19
      have hap : apF (l, q) (Cl.mk 4 key val) = (l, (q ++ [val])) := by unfold apF; rw [if_pos h19]; rfl
      rw [hap, h19]
      refine CW.skip ?_
      refine PQ.seq ?_
      refine CW.seq ?_
      refine CW.region ?_
      refine LW.e rfl rfl (Eff.callM ([]) .nil rfl Try.call22 (fun w hw hs => doings_c w)) ?_
      intro b8 _
      refine LW.v rfl rfl (Val.assign rfl) ?_
      refine LW.nil ?_
      refine PQ.seq ?_
      refine CW.seq ?_
      refine CW.seq ?_
      refine CW.region ?_
      refine LW.v rfl rfl (Val.fieldAddr 0 rfl Try.underlying38 rfl rfl Try.sizeOf3) ?_
      refine LW.v rfl rfl (Val.load rfl Try.isAgg3 (by repeat (first | exact .here | exact .inner .here | exact .inner (.inner .here) | refine .there ?_)) (by rfl)) ?_
      refine LW.v rfl rfl (Val.cmp rfl rfl rfl) ?_
      refine LW.re 25 (.bool true) rfl (by rfl) ?_
      refine LW.nil ?_
      refine PQ.seq ?_
      refine CW.cond_t rfl ?_
      refine CW.seq ?_
      refine CW.region ?_
      refine LW.v rfl rfl (Val.move rfl) ?_
      refine LW.v rfl rfl (Val.fieldAddr 0 rfl Try.underlying38 rfl rfl Try.sizeOf3) ?_
      refine LW.v rfl rfl (Val.load rfl Try.isAgg3 (by repeat (first | exact .here | exact .inner .here | exact .inner (.inner .here) | refine .there ?_)) (by rfl)) ?_
      refine LW.v rfl rfl (Val.ilookup1 (E := doE) (c := 7) rfl rfl Try.underlying48 Try.underlying3 (by exact Try.zeroValue51) (by repeat (first | exact .here | exact .inner .here | exact .inner (.inner .here) | refine .there ?_))) ?_
      refine LW.re 29 (.func (.func 41) #[] #[]) rfl (by rfl) ?_
      first | (refine LW.v rfl rfl (Val.loadW rfl Try.isAgg38 (by repeat (first | exact .here | exact .inner .here | exact .inner (.inner .here) | refine .there ?_)) (by exact Try.sizeOf38)) ?_) | (refine LW.v rfl rfl (Val.loadA [_, _, _, _, _] rfl Try.isAgg38 (by repeat (first | exact .here | exact .inner .here | exact .inner (.inner .here) | refine .there ?_)) (by rfl) Try.sizeOf38) ?_)
      refine LW.e rfl rfl (Eff.callFM (f := 41) (caps := []) ([[(b6, .cells [ownV l.length yp, ownV q.length yq].toArray 25 (0, 0))], ownG 45 (l.flatMap prC) yp, ownG 9 (q.flatMap stE) yq, [(b7, .cells (ansC 0 false []).toArray 34 (0, 0))]]) (by repeat (first | exact .nil | apply Pick.cons | exact .here | apply Ext.there)) rfl rfl Try.call41 (fun w hw hs => do4_c l yp q yq b6 b7 ⟨4, key, val⟩ w hyp hyq hl hs)) ?_
      intro x hx
      refine LW.nil ?_
      refine PQ.seq ?_
      refine CW.seq ?_
      refine CW.drawn ([[(b6, .cells _ 25 (0, 0))], [(b7, .cells _ 34 (0, 0))]]) mixed (by repeat (first | exact .nil | apply Pick.cons | exact .here | apply Ext.there)) ?_
      refine RW.v 0 rfl (by kernel_rfl) (by kernel_rfl) (by kernel_rfl) (fun _ _ _ h => h) rfl rfl (Val.loadW (l := [ownV l.length x.1, offV (q ++ [val]).length x.2.1]) rfl Try.isAgg25 (by repeat (first | exact .here | exact .inner .here | exact .inner (.inner .here) | refine .there ?_)) (by exact Try.sizeOf25)) ?_
      refine RW.v 1 rfl (by kernel_rfl) (by kernel_rfl) (by kernel_rfl) (fun _ _ _ h => h) rfl rfl (Val.loadW (l := ansC 0 x.2.2.1 x.2.2.2) rfl Try.isAgg34 (by repeat (first | exact .here | exact .inner .here | exact .inner (.inner .here) | refine .there ?_)) (by exact Try.sizeOf34)) ?_
      first | (refine RW.eN 2 rfl (by kernel_rfl) rfl (Eff.storeW (cs := [ownV l.length yp, ownV q.length yq]) rfl rfl (by repeat (first | exact .here | exact .inner .here | exact .inner (.inner .here) | apply Upd.there)) (by rfl) Try.sizeOf25 (by simp [V.ownV_one])) (fun x => ⟨_, (by repeat (first | exact .nil | apply Pick.cons | exact .here | apply Ext.there))⟩) ?_) | (refine RW.eN 2 rfl (by kernel_rfl) rfl (Eff.storeW (cs := [ownV l.length x.1, offV (q ++ [val]).length x.2.1]) rfl rfl (by repeat (first | exact .here | exact .inner .here | exact .inner (.inner .here) | apply Upd.there)) (by rfl) Try.sizeOf25 (by simp [V.ownV_one, offV_one])) (fun x => ⟨_, (by repeat (first | exact .nil | apply Pick.cons | exact .here | apply Ext.there))⟩) ?_)
      intro _ _
      first | (refine RW.eN 3 rfl (by kernel_rfl) rfl (Eff.storeW rfl rfl (by repeat (first | exact .here | exact .inner .here | exact .inner (.inner .here) | apply Upd.there)) (by rfl) Try.sizeOf34 (by rfl)) (fun x => ⟨_, (by repeat (first | exact .nil | apply Pick.cons | exact .here | apply Ext.there))⟩) ?_) | (refine RW.eN 3 rfl (by kernel_rfl) rfl (Eff.storeA (l' := _) rfl rfl (by repeat (first | exact .here | exact .inner .here | exact .inner (.inner .here) | apply Upd.there)) (by rfl) (by decide) Try.sizeOf34 (by rfl)) (fun x => ⟨_, (by repeat (first | exact .nil | apply Pick.cons | exact .here | apply Ext.there))⟩) ?_)
      intro _ _
      refine RW.done (by kernel_rfl) ?_
      refine PQ.seq ?_
      refine CW.ret ?_
      refine PQ.then_ret ?_
      refine V.PQ.retCC rfl rfl rfl (by repeat (first | exact .here | exact .inner .here | exact .inner (.inner .here) | refine .there ?_)) Try.isAgg25 (by exact Try.sizeOf25) (by repeat (first | exact .here | exact .inner .here | exact .inner (.inner .here) | refine .there ?_)) Try.isAgg34 (by exact Try.sizeOf34) ?_
      intro w' hw
      exact ⟨x, hx, rfl, hw.pick (by repeat (first | exact .nil | apply Pick.cons | exact .here | apply Ext.there))⟩
  · refine V.calls [] Try.func10 rfl Try.ntmps10 (Nat.le_of_ble_eq_true rfl) (V.sat_nil _) ?_
    refine CW.seq ?_
    refine CW.region ?_
    refine LW.e rfl rfl (Eff.boxA rfl) ?_
    intro b2 _
    refine LW.e rfl rfl (Eff.boxA rfl) ?_
    intro b3 _
    refine LW.e rfl rfl (Eff.allocA (by exact Try.zeroValue25)) ?_
    intro b4 _
    refine LW.e rfl rfl (Eff.allocA (by exact Try.zeroValue34)) ?_
    intro b5 _
    refine LW.nil ?_
    refine PQ.seq ?_
    refine CW.seq ?_
    refine CW.region ?_
    first | (refine LW.v rfl rfl (Val.loadW rfl Try.isAgg25 (by repeat (first | exact .here | exact .inner .here | exact .inner (.inner .here) | refine .there ?_)) (by exact Try.sizeOf25)) ?_) | (refine LW.v rfl rfl (Val.loadA [_, _] rfl Try.isAgg25 (by repeat (first | exact .here | exact .inner .here | exact .inner (.inner .here) | refine .there ?_)) (by rfl) Try.sizeOf25) ?_)
    refine LW.e rfl rfl (Eff.callM ([]) .nil rfl Try.call21 (fun w hw hs => copied_c s (l, q) w (hA.hp hw (by simp [ids])) hl)) ?_
    rintro ⟨yp, yq⟩ ⟨hyp, hyq⟩
    refine LW.e rfl rfl (Eff.allocA (by exact Try.zeroValue25)) ?_
    intro b6 _
    refine LW.eN rfl (Eff.storeW (cs := owC (l, q) (yp, yq)) rfl rfl (by repeat (first | exact .here | exact .inner .here | exact .inner (.inner .here) | apply Upd.there)) (by rfl) Try.sizeOf25 (by simp [owC, V.ownV_one])) ?_
    intro _ _
    refine LW.nil ?_
    refine PQ.seq ?_
    refine CW.seq ?_
    refine CW.region ?_
    first | (refine LW.v rfl rfl (Val.loadW rfl Try.isAgg38 (by repeat (first | exact .here | exact .inner .here | exact .inner (.inner .here) | refine .there ?_)) (by exact Try.sizeOf38)) ?_) | (refine LW.v rfl rfl (Val.loadA [_, _, _, _, _] rfl Try.isAgg38 (by repeat (first | exact .here | exact .inner .here | exact .inner (.inner .here) | refine .there ?_)) (by rfl) Try.sizeOf38) ?_)
    refine LW.e rfl rfl (Eff.callV rfl Try.call19 (fun w hw => good_c ⟨5, key, val⟩ (by unfold K4; simp) w)) ?_
    intro _ _
    refine LW.v rfl rfl (Val.build (ansC (gdF (Cl.mk 5 key val)) false []) Try.zeroValue34 Try.underlying34 places34 rfl (by rfl)) ?_
    refine LW.e rfl rfl (Eff.allocA (by exact Try.zeroValue34)) ?_
    intro b7 _
    first | (refine LW.eN rfl (Eff.storeW rfl rfl (by repeat (first | exact .here | exact .inner .here | exact .inner (.inner .here) | apply Upd.there)) (by rfl) Try.sizeOf34 (by rfl)) ?_) | (refine LW.eN rfl (Eff.storeA (l' := _) rfl rfl (by repeat (first | exact .here | exact .inner .here | exact .inner (.inner .here) | apply Upd.there)) (by rfl) (by decide) Try.sizeOf34 (by rfl)) ?_)
    intro _ _
    refine LW.nil ?_
    refine PQ.seq ?_
    refine CW.seq ?_
    refine CW.seq ?_
    refine CW.region ?_
    refine LW.v rfl rfl (Val.fieldAddr 0 rfl Try.underlying34 rfl rfl Try.sizeOf30) ?_
    refine LW.v rfl rfl (Val.load rfl Try.isAgg30 (by repeat (first | exact .here | exact .inner .here | exact .inner (.inner .here) | refine .there ?_)) (by rfl)) ?_
    refine LW.v rfl rfl (Val.cmp rfl rfl rfl) ?_
    refine LW.nil ?_
    refine PQ.seq ?_
    refine CW.cond rfl (fun h19 => ?_) (fun h19 => ?_)
    · replace h19 := bT h19
      have h19 : gdF (Cl.mk 5 key val) ≠ 0 := h19
      have hap : apF (l, q) (Cl.mk 5 key val) = (l, q) := by unfold apF; rw [if_neg h19]
      rw [hap]
      refine CW.seq ?_
      refine CW.drawn ([[(b6, .cells _ 25 (0, 0))], [(b7, .cells _ 34 (0, 0))]]) mixed (by repeat (first | exact .nil | apply Pick.cons | exact .here | apply Ext.there)) ?_
      refine RW.v 0 rfl (by kernel_rfl) (by kernel_rfl) (by kernel_rfl) (fun _ _ _ h => h) rfl rfl (Val.loadW (l := [ownV l.length yp, ownV q.length yq]) rfl Try.isAgg25 (by repeat (first | exact .here | exact .inner .here | exact .inner (.inner .here) | refine .there ?_)) (by exact Try.sizeOf25)) ?_
      refine RW.v 1 rfl (by kernel_rfl) (by kernel_rfl) (by kernel_rfl) (fun _ _ _ h => h) rfl rfl (Val.loadW (l := ansC (gdF (Cl.mk 5 key val)) false []) rfl Try.isAgg34 (by repeat (first | exact .here | exact .inner .here | exact .inner (.inner .here) | refine .there ?_)) (by exact Try.sizeOf34)) ?_
      first | (refine RW.eN 2 rfl (by kernel_rfl) rfl (Eff.storeW (cs := [ownV l.length yp, ownV q.length yq]) rfl rfl (by repeat (first | exact .here | exact .inner .here | exact .inner (.inner .here) | apply Upd.there)) (by rfl) Try.sizeOf25 (by simp [V.ownV_one])) (fun x => ⟨_, (by repeat (first | exact .nil | apply Pick.cons | exact .here | apply Ext.there))⟩) ?_) | (refine RW.eN 2 rfl (by kernel_rfl) rfl (Eff.storeW (cs := [ownV l.length x.1, offV (q.drop 1).length x.2.1]) rfl rfl (by repeat (first | exact .here | exact .inner .here | exact .inner (.inner .here) | apply Upd.there)) (by rfl) Try.sizeOf25 (by simp [V.ownV_one, offV_one])) (fun x => ⟨_, (by repeat (first | exact .nil | apply Pick.cons | exact .here | apply Ext.there))⟩) ?_)
      intro _ _
      first | (refine RW.eN 3 rfl (by kernel_rfl) rfl (Eff.storeW rfl rfl (by repeat (first | exact .here | exact .inner .here | exact .inner (.inner .here) | apply Upd.there)) (by rfl) Try.sizeOf34 (by rfl)) (fun x => ⟨_, (by repeat (first | exact .nil | apply Pick.cons | exact .here | apply Ext.there))⟩) ?_) | (refine RW.eN 3 rfl (by kernel_rfl) rfl (Eff.storeA (l' := _) rfl rfl (by repeat (first | exact .here | exact .inner .here | exact .inner (.inner .here) | apply Upd.there)) (by rfl) (by decide) Try.sizeOf34 (by rfl)) (fun x => ⟨_, (by repeat (first | exact .nil | apply Pick.cons | exact .here | apply Ext.there))⟩) ?_)
      intro _ _
      refine RW.done (by kernel_rfl) ?_
      refine PQ.seq ?_
      refine CW.ret ?_
      refine PQ.then_ret ?_
      refine V.PQ.retCC rfl rfl rfl (by repeat (first | exact .here | exact .inner .here | exact .inner (.inner .here) | refine .there ?_)) Try.isAgg25 (by exact Try.sizeOf25) (by repeat (first | exact .here | exact .inner .here | exact .inner (.inner .here) | refine .there ?_)) Try.isAgg34 (by exact Try.sizeOf34) ?_
      intro w' hw
      exact ⟨(yp, offOf yq, false, []), ⟨hyp, offOf_ok hyq⟩, by unfold apV; rw [offOf_V], (by show Hp _ [ownG 45 (l.flatMap prC) yp, offG 9 (q.flatMap stE) (offOf yq)] w'; rw [offOf_G]; exact hw.pick (by repeat (first | exact .nil | apply Pick.cons | exact .here | apply Ext.there)))⟩
    · replace h19 := bF h19
      have h19 : gdF (Cl.mk 5 key val) = 0 := h19
      have hap : apF (l, q) (Cl.mk 5 key val) = (l, (q.drop 1)) := by unfold apF; rw [if_pos h19]; rfl
      rw [hap, h19]
      refine CW.skip ?_
      refine PQ.seq ?_
      refine CW.seq ?_
      refine CW.region ?_
      refine LW.e rfl rfl (Eff.callM ([]) .nil rfl Try.call22 (fun w hw hs => doings_c w)) ?_
      intro b8 _
      refine LW.v rfl rfl (Val.assign rfl) ?_
      refine LW.nil ?_
      refine PQ.seq ?_
      refine CW.seq ?_
      refine CW.seq ?_
      refine CW.region ?_
      refine LW.v rfl rfl (Val.fieldAddr 0 rfl Try.underlying38 rfl rfl Try.sizeOf3) ?_
      refine LW.v rfl rfl (Val.load rfl Try.isAgg3 (by repeat (first | exact .here | exact .inner .here | exact .inner (.inner .here) | refine .there ?_)) (by rfl)) ?_
      refine LW.v rfl rfl (Val.cmp rfl rfl rfl) ?_
      refine LW.re 25 (.bool true) rfl (by rfl) ?_
      refine LW.nil ?_
      refine PQ.seq ?_
      refine CW.cond_t rfl ?_
      refine CW.seq ?_
      refine CW.region ?_
      refine LW.v rfl rfl (Val.move rfl) ?_
      refine LW.v rfl rfl (Val.fieldAddr 0 rfl Try.underlying38 rfl rfl Try.sizeOf3) ?_
      refine LW.v rfl rfl (Val.load rfl Try.isAgg3 (by repeat (first | exact .here | exact .inner .here | exact .inner (.inner .here) | refine .there ?_)) (by rfl)) ?_
      refine LW.v rfl rfl (Val.ilookup1 (E := doE) (c := 7) rfl rfl Try.underlying48 Try.underlying3 (by exact Try.zeroValue51) (by repeat (first | exact .here | exact .inner .here | exact .inner (.inner .here) | refine .there ?_))) ?_
      refine LW.re 29 (.func (.func 42) #[] #[]) rfl (by rfl) ?_
      first | (refine LW.v rfl rfl (Val.loadW rfl Try.isAgg38 (by repeat (first | exact .here | exact .inner .here | exact .inner (.inner .here) | refine .there ?_)) (by exact Try.sizeOf38)) ?_) | (refine LW.v rfl rfl (Val.loadA [_, _, _, _, _] rfl Try.isAgg38 (by repeat (first | exact .here | exact .inner .here | exact .inner (.inner .here) | refine .there ?_)) (by rfl) Try.sizeOf38) ?_)
      refine LW.e rfl rfl (Eff.callFM (f := 42) (caps := []) ([[(b6, .cells [ownV l.length yp, ownV q.length yq].toArray 25 (0, 0))], ownG 45 (l.flatMap prC) yp, ownG 9 (q.flatMap stE) yq, [(b7, .cells (ansC 0 false []).toArray 34 (0, 0))]]) (by repeat (first | exact .nil | apply Pick.cons | exact .here | apply Ext.there)) rfl rfl Try.call42 (fun w hw hs => do5_c l yp q yq b6 b7 ⟨5, key, val⟩ w hyp hyq hl hs)) ?_
      intro x hx
      refine LW.nil ?_
      refine PQ.seq ?_
      refine CW.seq ?_
      refine CW.drawn ([[(b6, .cells _ 25 (0, 0))], [(b7, .cells _ 34 (0, 0))]]) mixed (by repeat (first | exact .nil | apply Pick.cons | exact .here | apply Ext.there)) ?_
      refine RW.v 0 rfl (by kernel_rfl) (by kernel_rfl) (by kernel_rfl) (fun _ _ _ h => h) rfl rfl (Val.loadW (l := [ownV l.length x.1, offV (q.drop 1).length x.2.1]) rfl Try.isAgg25 (by repeat (first | exact .here | exact .inner .here | exact .inner (.inner .here) | refine .there ?_)) (by exact Try.sizeOf25)) ?_
      refine RW.v 1 rfl (by kernel_rfl) (by kernel_rfl) (by kernel_rfl) (fun _ _ _ h => h) rfl rfl (Val.loadW (l := ansC 0 x.2.2.1 x.2.2.2) rfl Try.isAgg34 (by repeat (first | exact .here | exact .inner .here | exact .inner (.inner .here) | refine .there ?_)) (by exact Try.sizeOf34)) ?_
      first | (refine RW.eN 2 rfl (by kernel_rfl) rfl (Eff.storeW (cs := [ownV l.length yp, ownV q.length yq]) rfl rfl (by repeat (first | exact .here | exact .inner .here | exact .inner (.inner .here) | apply Upd.there)) (by rfl) Try.sizeOf25 (by simp [V.ownV_one])) (fun x => ⟨_, (by repeat (first | exact .nil | apply Pick.cons | exact .here | apply Ext.there))⟩) ?_) | (refine RW.eN 2 rfl (by kernel_rfl) rfl (Eff.storeW (cs := [ownV l.length x.1, offV (q.drop 1).length x.2.1]) rfl rfl (by repeat (first | exact .here | exact .inner .here | exact .inner (.inner .here) | apply Upd.there)) (by rfl) Try.sizeOf25 (by simp [V.ownV_one, offV_one])) (fun x => ⟨_, (by repeat (first | exact .nil | apply Pick.cons | exact .here | apply Ext.there))⟩) ?_)
      intro _ _
      first | (refine RW.eN 3 rfl (by kernel_rfl) rfl (Eff.storeW rfl rfl (by repeat (first | exact .here | exact .inner .here | exact .inner (.inner .here) | apply Upd.there)) (by rfl) Try.sizeOf34 (by rfl)) (fun x => ⟨_, (by repeat (first | exact .nil | apply Pick.cons | exact .here | apply Ext.there))⟩) ?_) | (refine RW.eN 3 rfl (by kernel_rfl) rfl (Eff.storeA (l' := _) rfl rfl (by repeat (first | exact .here | exact .inner .here | exact .inner (.inner .here) | apply Upd.there)) (by rfl) (by decide) Try.sizeOf34 (by rfl)) (fun x => ⟨_, (by repeat (first | exact .nil | apply Pick.cons | exact .here | apply Ext.there))⟩) ?_)
      intro _ _
      refine RW.done (by kernel_rfl) ?_
      refine PQ.seq ?_
      refine CW.ret ?_
      refine PQ.then_ret ?_
      refine V.PQ.retCC rfl rfl rfl (by repeat (first | exact .here | exact .inner .here | exact .inner (.inner .here) | refine .there ?_)) Try.isAgg25 (by exact Try.sizeOf25) (by repeat (first | exact .here | exact .inner .here | exact .inner (.inner .here) | refine .there ?_)) Try.isAgg34 (by exact Try.sizeOf34) ?_
      intro w' hw
      exact ⟨x, hx, rfl, hw.pick (by repeat (first | exact .nil | apply Pick.cons | exact .here | apply Ext.there))⟩
end Go.Proofs.Ytipnpnkniihdjaa
