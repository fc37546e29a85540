/- The document's store: a key taken away. -/
import Derived.Test.YtipnpnkniihdjaaTwK
import Derived.Lib.Hide
namespace Go.Proofs.Ytipnpnkniihdjaa
open Go Go.RowKit V
set_option linter.unusedVariables false
set_option maxRecDepth 100000
open V (str byC ownV ownG ownS ownOk)
def delF (l : List Pr) (k : List UInt8) : List Pr := l.filter fun x => !decide (x.key = k)
theorem del_no {l : List Pr} {j : Nat} {x : Pr} {k : List UInt8} (hx : l[j]? = some x) (h : x.key ≠ k) : delF (l.take (j + 1)) k = delF (l.take j) k ++ [x] := by unfold delF; rw [List.take_add_one, hx, List.filter_append]; simp [h]
theorem del_yes {l : List Pr} {j : Nat} {x : Pr} {k : List UInt8} (hx : l[j]? = some x) (h : x.key = k) : delF (l.take (j + 1)) k = delF (l.take j) k := by unfold delF; rw [List.take_add_one, hx, List.filter_append]; simp [h]
theorem rdel_c (s : Sf) (A : ShA) (ky : List UInt8) (w : World) (hA : SfR w s A) (hl : A.1.length ≤ 1000 ∧ A.2.length ≤ 1000) : Calls Try.prog 49 [.agg s.cells.toArray, str ky].toArray w fun e w' => ∃ y : V.OwnO × V.OwnO, OwSh (delF A.1 ky, A.2) y ∧ e = .returned (.agg (owC (delF A.1 ky, A.2) y).toArray) ∧ Hp ⟨w, []⟩ [ownG 45 ((delF A.1 ky).flatMap prC) y.1, ownG 9 (A.2.flatMap stE) y.2] w' := by
  obtain ⟨⟨pa, pn, pc⟩, ⟨qa, qn, qc⟩⟩ := s
  obtain ⟨l, q⟩ := A
  obtain ⟨⟨hn1, h1⟩, ⟨hn2, h2⟩, hcp, hcq⟩ := hA
  simp only at hn1 h1 hn2 h2 hcp hcq hl ⊢
  subst hn1; subst hn2
  refine V.calls [] Try.func49 rfl Try.ntmps49 (Nat.le_of_ble_eq_true rfl) (V.sat_nil _) ?_
  refine CW.seq ?_
  refine CW.region ?_
  refine LW.e rfl rfl (Eff.boxA rfl) ?_
  intro b2 _
  refine LW.e rfl rfl (Eff.allocA (by exact Try.zeroValue25)) ?_
  intro b4 _
  refine LW.nil ?_
  refine PQ.seq ?_
  refine CW.seq ?_
  refine CW.region ?_
  refine LW.v rfl rfl (Val.fieldAddr 1 rfl Try.underlying25 rfl rfl Try.sizeOf23) ?_
  refine LW.v rfl rfl (Val.load rfl Try.isAgg23 (by repeat (first | exact .here | exact .inner .here | exact .inner (.inner .here) | refine .there ?_)) (by rfl)) ?_
  refine LW.e rfl rfl (Eff.appendAny (q.flatMap stE) (sz := 1) (bytes := 16) (z := .string ⟨#[]⟩) (xs := []) (m0 := 0) (o := none) (m := q.length) (pk := []) rfl rfl Try.underlying23 (by kernel_rfl) rfl (by omega) .nil rfl ⟨rfl, rfl⟩ (V.flatMap_len stE_len _) (fun hm0 => by obtain ⟨b8, o8, h8, h9⟩ := sl_range stE_len h2 hm0; exact ⟨b8, o8, h8, fun w hw => h9 w hw⟩) (all_one stE_one _) (by omega) (by omega)) ?_
  intro yq hyq0
  have hyq : ownOk 1 q.length (q.flatMap stE) yq := by simpa using hyq0
  rw [List.nil_append, Nat.zero_add]
  refine LW.v rfl rfl (Val.build [.slice none 0 0, ownV q.length yq] Try.zeroValue25 Try.underlying25 places25 rfl (by rcases yq with _ | ⟨_, _, _⟩ <;> rfl)) ?_
  refine LW.e rfl rfl (Eff.allocA (by exact Try.zeroValue25)) ?_
  intro b5 _
  refine LW.eN rfl (Eff.storeW (cs := [.slice none 0 0, ownV q.length yq]) rfl rfl (by repeat (first | exact .here | exact .inner .here | exact .inner (.inner .here) | apply Upd.there)) (by rfl) Try.sizeOf25 (by simp [V.ownV_one]; rfl)) ?_
  intro _ _
  refine LW.nil ?_
  refine PQ.seq ?_
  refine CW.seq ?_
  refine CW.seq ?_
  refine CW.region ?_
  refine LW.v rfl rfl (Val.assign rfl) ?_
  refine LW.nil ?_
  refine PQ.seq ?_
  refine CW.block ?_
  refine V.CW.addOwn 45 ?_
  refine CW.loop (γ := Nat × V.OwnO) (fun k => [(1, str ky), (2, .pointer (some ⟨b2, 0, none⟩)), (4, .pointer (some ⟨b4, 0, none⟩)), (5, .pointer (some ⟨b5, 0, none⟩)), (6, .int .i64 (k.1 : Nat))]) (fun k => [[(b2, .cells [.slice pa l.length pc, .slice qa q.length qc].toArray 25 (0, 0))], [(b4, .cells [.slice none 0 0, .slice none 0 0].toArray 25 (0, 0))], [(b5, .cells [ownV (delF (l.take k.1) ky).length k.2, ownV q.length yq].toArray 25 (0, 0))], ownG 45 ((delF (l.take k.1) ky).flatMap prC) k.2, ownG 9 (q.flatMap stE) yq]) (fun k => k.1 ≤ l.length ∧ ownOk 2 (delF (l.take k.1) ky).length ((delF (l.take k.1) ky).flatMap prC) k.2) (fun k => l.length - k.1) ((0, none)) ⟨Nat.zero_le _, ⟨rfl, rfl⟩⟩ (by repeat (first | exact trivial | refine ⟨rfl, ?_⟩)) (by repeat (first | exact .nil | apply Pick.cons | exact .here | apply Ext.there)) ?_
  intro k
  rintro ⟨hk1, hk2⟩
  refine CW.seq ?_
  refine CW.seq ?_
  refine CW.region ?_
  refine LW.v rfl rfl (Val.move rfl) ?_
  refine LW.v rfl rfl (Val.fieldAddr 0 rfl Try.underlying25 rfl rfl Try.sizeOf22) ?_
  refine LW.v rfl rfl (Val.load rfl Try.isAgg22 (by repeat (first | exact .here | exact .inner .here | exact .inner (.inner .here) | refine .there ?_)) (by rfl)) ?_
  refine LW.v rfl rfl (Val.lenSl rfl Try.underlying22) ?_
  refine LW.v rfl rfl (Val.cmp rfl rfl rfl) ?_
  refine LW.nil ?_
  refine PQ.seq ?_
  refine CW.cond rfl (fun h15 => ?_) (fun h15 => ?_)
  · replace h15 := bT h15
    obtain ⟨bb1, o1, x, rfl, hb1, hx1, hr1⟩ := V.slAt_at h1 rfl (k := k.1) (by omega)
    have hxs : (delF (l.take k.1) ky).length ≤ 1000 := Nat.le_trans (List.length_filter_le _ _) (by rw [List.length_take]; omega)
    refine CW.skip ?_
    refine PQ.seq ?_
    refine CW.seq ?_
    refine CW.block ?_
    refine CW.seq ?_
    refine CW.region ?_
    refine LW.v rfl rfl (Val.fieldAddr 0 rfl Try.underlying25 rfl rfl Try.sizeOf22) ?_
    refine LW.v rfl rfl (Val.load rfl Try.isAgg22 (by repeat (first | exact .here | exact .inner .here | exact .inner (.inner .here) | refine .there ?_)) (by rfl)) ?_
    refine LW.v rfl rfl (Val.move rfl) ?_
    first | (refine LW.v rfl rfl (Val.indexAddrN rfl rfl Try.underlying22 Try.sizeOf45 (by omega)) ?_) | (refine LW.v rfl rfl (Val.indexAddr rfl rfl Try.underlying22 Try.sizeOf45 (by omega) (by omega)) ?_)
    refine LW.v rfl rfl (Val.fieldAddr 0 rfl Try.underlying45 rfl rfl Try.sizeOf9) ?_
    refine LW.v rfl rfl (Val.loadO rfl Try.isAgg9 hb1 (by simp [ids]) (hr1 k.1 x hx1 0 _ rfl)) ?_
    refine LW.v rfl rfl (Val.move rfl) ?_
    refine LW.v rfl rfl (Val.neStr rfl rfl) ?_
    refine LW.nil ?_
    refine PQ.seq ?_
    refine CW.cond rfl (fun h25 => ?_) (fun h25 => ?_)
    · replace h25 := bT h25
      have h25 : x.key ≠ ky := h25
      refine CW.regJoin (fun o9 : V.OwnO => ownOk 2 ((delF (l.take k.1) ky).length + 1) ((delF (l.take k.1) ky).flatMap prC ++ prC x) o9) (fun _ => [(1, str ky), (2, .pointer (some ⟨b2, 0, none⟩)), (4, .pointer (some ⟨b4, 0, none⟩)), (5, .pointer (some ⟨b5, 0, none⟩)), (6, .int .i64 (k.1 : Nat))]) (fun o9 => [[(b2, .cells [.slice (some ⟨bb1, o1, none⟩) l.length pc, .slice qa q.length qc].toArray 25 (0, 0))], [(b4, .cells [.slice none 0 0, .slice none 0 0].toArray 25 (0, 0))], [(b5, .cells [ownV ((delF (l.take k.1) ky).length + 1) o9, ownV q.length yq].toArray 25 (0, 0))], ownG 45 ((delF (l.take k.1) ky).flatMap prC ++ prC x) o9, ownG 9 (q.flatMap stE) yq]) ?_ ?_
      · refine CW.drawn ([[(b2, .cells _ 25 (0, 0))]]) mixed (by repeat (first | exact .nil | apply Pick.cons | exact .here | apply Ext.there)) ?_
        refine RW.v 0 rfl (by kernel_rfl) (by kernel_rfl) (by kernel_rfl) (fun _ _ _ h => h) rfl rfl (Val.fieldAddr 0 rfl Try.underlying25 rfl rfl Try.sizeOf22) ?_
        refine RW.v 2 rfl (by kernel_rfl) (by kernel_rfl) (by kernel_rfl) (fun _ _ _ h => h) rfl rfl (Val.fieldAddr 0 rfl Try.underlying25 rfl rfl Try.sizeOf22) ?_
        refine RW.v 3 rfl (by kernel_rfl) (by kernel_rfl) (by kernel_rfl) (fun _ _ _ h => h) rfl rfl (Val.load rfl Try.isAgg22 (by repeat (first | exact .here | exact .inner .here | exact .inner (.inner .here) | refine .there ?_)) (by rfl)) ?_
        refine RW.v 4 rfl (by kernel_rfl) (by kernel_rfl) (by kernel_rfl) (fun _ _ _ h => h) rfl rfl (Val.move rfl) ?_
        first | (refine RW.v 5 rfl (by kernel_rfl) (by kernel_rfl) (by kernel_rfl) (fun _ _ _ h => h) rfl rfl (Val.indexAddrN rfl rfl Try.underlying22 Try.sizeOf45 (by omega)) ?_) | (refine RW.v 5 rfl (by kernel_rfl) (by kernel_rfl) (by kernel_rfl) (fun _ _ _ h => h) rfl rfl (Val.indexAddr rfl rfl Try.underlying22 Try.sizeOf45 (by omega) (by omega)) ?_)
        refine RW.v 6 rfl (by kernel_rfl) (by kernel_rfl) (by kernel_rfl) (fun _ _ _ h => h) rfl rfl (Val.loadOA rfl Try.isAgg45 hb1 (by simp [ids]) (hr1 k.1 x hx1) Try.sizeOf45) ?_
        refine RW.any [1, 7] (by kernel_rfl) (by simp) ?_
        intro i hi
        simp only [List.mem_cons, List.not_mem_nil, or_false] at hi
        rcases hi with rfl | rfl
        · refine RO.e rfl rfl rfl (Eff.ofVal (Val.load (v := ownV (delF (l.take k.1) ky).length k.2) rfl Try.isAgg22 (by repeat (first | exact .here | exact .inner .here | exact .inner (.inner .here) | refine .there ?_)) (by rfl))) (fun x => ⟨_, (by repeat (first | exact .nil | apply Pick.cons | exact .here | apply Ext.there))⟩) ?_
          intro _ _
          refine RW.e 7 rfl (by kernel_rfl) rfl rfl (Eff.buildSlice (rfl) [_, _] Try.underlying22 Try.sizeOf45 (by exact Try.zeroValue45) rfl rfl rfl rfl (by rfl)) (fun x => ⟨_, (by repeat (first | exact .nil | apply Pick.cons | exact .here | apply Ext.there))⟩) ?_
          intro b33 _
          refine RW.e 8 rfl (by kernel_rfl) rfl rfl (Eff.appendAny (prC x) (sz := 2) (bytes := 32) (z := .agg #[.string ⟨#[]⟩, .string ⟨#[]⟩]) (xs := (delF (l.take k.1) ky).flatMap prC) (m0 := (delF (l.take k.1) ky).length) (o := k.2) (m := 1) (pk := [ownG 45 ((delF (l.take k.1) ky).flatMap prC) k.2]) rfl rfl Try.underlying22 (by kernel_rfl) rfl (by omega) (by repeat (first | exact .nil | apply Pick.cons | exact .here | apply Ext.there)) (by simp) hk2 (by rfl) (fun hm0 => ⟨b33, 0, rfl, fun w hw => V.range_of_block (o := 0) (cs := prC x) (r := []) (hw.own _ (show InS (b33, .cells (prC x).toArray 45 (0, 0)) _ from (by repeat (first | exact .here | exact .inner .here | exact .inner (.inner .here) | refine .there ?_))).mem) rfl⟩) (by rfl) (by omega) (by omega)) (fun x => ⟨_, (by repeat (first | exact .nil | apply Pick.cons | exact .here | apply Ext.there))⟩) ?_
          intro o9 ho9
          refine RW.v 9 rfl (by kernel_rfl) (by kernel_rfl) (by kernel_rfl) (fun _ _ _ h => h) rfl rfl (Val.fieldAddr 0 rfl Try.underlying25 rfl rfl Try.sizeOf22) ?_
          refine RW.eN 10 rfl (by kernel_rfl) rfl (Eff.store rfl rfl (V.ownV_one _ _) (by repeat (first | exact .here | exact .inner .here | exact .inner (.inner .here) | apply Upd.there)) (by rfl) (by rfl) Try.sizeOf22) (fun x => ⟨_, (by repeat (first | exact .nil | apply Pick.cons | exact .here | apply Ext.there))⟩) ?_
          intro _ _
          refine RW.done (by kernel_rfl) ?_
          refine PQ.joined (o9) (ho9) (by repeat (first | exact trivial | refine ⟨rfl, ?_⟩)) (by repeat (first | exact .nil | apply Pick.cons | exact .here | apply Ext.there))
        · refine RO.e rfl rfl rfl (Eff.buildSlice (rfl) [_, _] Try.underlying22 Try.sizeOf45 (by exact Try.zeroValue45) rfl rfl rfl rfl (by rfl)) (fun x => ⟨_, (by repeat (first | exact .nil | apply Pick.cons | exact .here | apply Ext.there))⟩) ?_
          intro b33 _
          refine RW.e 1 rfl (by kernel_rfl) rfl rfl (Eff.ofVal (Val.load (v := ownV (delF (l.take k.1) ky).length k.2) rfl Try.isAgg22 (by repeat (first | exact .here | exact .inner .here | exact .inner (.inner .here) | refine .there ?_)) (by rfl))) (fun x => ⟨_, (by repeat (first | exact .nil | apply Pick.cons | exact .here | apply Ext.there))⟩) ?_
          intro _ _
          refine RW.e 8 rfl (by kernel_rfl) rfl rfl (Eff.appendAny (prC x) (sz := 2) (bytes := 32) (z := .agg #[.string ⟨#[]⟩, .string ⟨#[]⟩]) (xs := (delF (l.take k.1) ky).flatMap prC) (m0 := (delF (l.take k.1) ky).length) (o := k.2) (m := 1) (pk := [ownG 45 ((delF (l.take k.1) ky).flatMap prC) k.2]) rfl rfl Try.underlying22 (by kernel_rfl) rfl (by omega) (by repeat (first | exact .nil | apply Pick.cons | exact .here | apply Ext.there)) (by simp) hk2 (by rfl) (fun hm0 => ⟨b33, 0, rfl, fun w hw => V.range_of_block (o := 0) (cs := prC x) (r := []) (hw.own _ (show InS (b33, .cells (prC x).toArray 45 (0, 0)) _ from (by repeat (first | exact .here | exact .inner .here | exact .inner (.inner .here) | refine .there ?_))).mem) rfl⟩) (by rfl) (by omega) (by omega)) (fun x => ⟨_, (by repeat (first | exact .nil | apply Pick.cons | exact .here | apply Ext.there))⟩) ?_
          intro o9 ho9
          refine RW.v 9 rfl (by kernel_rfl) (by kernel_rfl) (by kernel_rfl) (fun _ _ _ h => h) rfl rfl (Val.fieldAddr 0 rfl Try.underlying25 rfl rfl Try.sizeOf22) ?_
          refine RW.eN 10 rfl (by kernel_rfl) rfl (Eff.store rfl rfl (V.ownV_one _ _) (by repeat (first | exact .here | exact .inner .here | exact .inner (.inner .here) | apply Upd.there)) (by rfl) (by rfl) Try.sizeOf22) (fun x => ⟨_, (by repeat (first | exact .nil | apply Pick.cons | exact .here | apply Ext.there))⟩) ?_
          intro _ _
          refine RW.done (by kernel_rfl) ?_
          refine PQ.joined (o9) (ho9) (by repeat (first | exact trivial | refine ⟨rfl, ?_⟩)) (by repeat (first | exact .nil | apply Pick.cons | exact .here | apply Ext.there))
      · intro o9 ho9
        refine PQ.in_normal ?_
        refine PQ.seq ?_
        refine CW.region ?_
        refine LW.v rfl rfl (Val.move rfl) ?_
        refine LW.v rfl rfl (Val.ar rfl rfl rfl (IntWalk.i64_in _ (by omega))) ?_
        refine LW.v rfl rfl (Val.assign rfl) ?_
        refine LW.nil ?_
        rw [show (delF (l.take k.1) ky).flatMap prC ++ prC x = (delF (l.take (k.1 + 1)) ky).flatMap prC from by rw [del_no hx1 h25]; simp, show (delF (l.take k.1) ky).length + 1 = (delF (l.take (k.1 + 1)) ky).length from by rw [del_no hx1 h25]; simp]
        refine PQ.round ((k.1 + 1, o9)) ⟨by simp only; omega, by simp only; rw [del_no hx1 h25]; simpa using ho9⟩ (by simp only; omega) (by repeat (first | exact trivial | refine ⟨rfl, ?_⟩)) (by repeat (first | exact .nil | apply Pick.cons | exact .here | apply Ext.there))
    · replace h25 := bF h25
      have h25 : x.key = ky := h25
      refine CW.skip ?_
      refine PQ.in_normal ?_
      refine PQ.seq ?_
      refine CW.region ?_
      refine LW.v rfl rfl (Val.move rfl) ?_
      refine LW.v rfl rfl (Val.ar rfl rfl rfl (IntWalk.i64_in _ (by omega))) ?_
      refine LW.v rfl rfl (Val.assign rfl) ?_
      refine LW.nil ?_
      rw [← del_yes hx1 h25]
      refine PQ.round ((k.1 + 1, k.2)) ⟨by simp only; omega, by simp only; rw [del_yes hx1 h25]; exact hk2⟩ (by simp only; omega) (by repeat (first | exact trivial | refine ⟨rfl, ?_⟩)) (by repeat (first | exact .nil | apply Pick.cons | exact .here | apply Ext.there))
  · replace h15 := bF h15
    refine CW.exit ?_
    refine PQ.then_exit ?_
    refine PQ.then_exit ?_
    refine PQ.in_here ?_
    refine PQ.seq ?_
    refine CW.seq ?_
    refine CW.region ?_
    first | (refine LW.v rfl rfl (Val.loadW rfl Try.isAgg25 (by repeat (first | exact .here | exact .inner .here | exact .inner (.inner .here) | refine .there ?_)) (by exact Try.sizeOf25)) ?_) | (refine LW.v rfl rfl (Val.loadA [_, _] rfl Try.isAgg25 (by repeat (first | exact .here | exact .inner .here | exact .inner (.inner .here) | refine .there ?_)) (by rfl) Try.sizeOf25) ?_)
    refine LW.eN rfl (Eff.storeW (cs := [ownV (delF (l.take k.1) ky).length k.2, ownV q.length yq]) rfl rfl (by repeat (first | exact .here | exact .inner .here | exact .inner (.inner .here) | apply Upd.there)) (by rfl) Try.sizeOf25 (by simp [V.ownV_one])) ?_
    intro _ _
    refine LW.nil ?_
    refine PQ.seq ?_
    refine CW.ret ?_
    refine V.PQ.retC rfl rfl (by repeat (first | exact .here | exact .inner .here | exact .inner (.inner .here) | refine .there ?_)) Try.isAgg25 (by exact Try.sizeOf25) ?_
    have hte : l.take k.1 = l := List.take_of_length_le (by omega)
    rw [hte] at hk2 ⊢
    intro w' hw
    exact ⟨(k.2, yq), ⟨hk2, hyq⟩, rfl, hw.pick (by repeat (first | exact .nil | apply Pick.cons | exact .here | apply Ext.there))⟩
end Go.Proofs.Ytipnpnkniihdjaa
