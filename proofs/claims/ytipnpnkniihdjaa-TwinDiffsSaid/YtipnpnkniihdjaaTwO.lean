/- The document's store: a key's value set. -/
import Derived.Test.YtipnpnkniihdjaaTwN
import Derived.Lib.Hide
namespace Go.Proofs.Ytipnpnkniihdjaa
open Go Go.RowKit V
set_option linter.unusedVariables false
set_option maxRecDepth 100000
open V (str byC ownV ownG ownS ownOk)
theorem rput_c (s : Sf) (A : ShA) (ky v : List UInt8) (w : World) (hA : SfR w s A) (hl : A.1.length ≤ 1000 ∧ A.2.length ≤ 1000) : Calls Try.prog 48 [.agg s.cells.toArray, str ky, str v].toArray w fun e w' => ∃ y : V.OwnO × V.OwnO, OwSh (putF A.1 ky v, A.2) y ∧ e = .returned (.agg (owC (putF A.1 ky v, A.2) y).toArray) ∧ Hp ⟨w, []⟩ [ownG 45 ((putF A.1 ky v).flatMap prC) y.1, ownG 9 (A.2.flatMap stE) y.2] w' := by
  have hA0 := hA
  obtain ⟨⟨pa, pn, pc⟩, ⟨qa, qn, qc⟩⟩ := s
  obtain ⟨l, q⟩ := A
  obtain ⟨⟨hn1, h1⟩, ⟨hn2, h2⟩, hcp, hcq⟩ := hA
  simp only at hn1 h1 hn2 h2 hcp hcq hl ⊢
  subst hn1; subst hn2
  cases hs : (getF l ky).isSome
  · refine V.calls [] Try.func48 rfl Try.ntmps48 (Nat.le_of_ble_eq_true rfl) (V.sat_nil _) ?_
    refine CW.seq ?_
    refine CW.region ?_
    refine LW.e rfl rfl (Eff.boxA rfl) ?_
    intro b3 _
    refine LW.e rfl rfl (Eff.allocA (by exact Try.zeroValue25)) ?_
    intro b6 _
    refine LW.nil ?_
    refine PQ.seq ?_
    refine CW.seq ?_
    refine CW.region ?_
    first | (refine LW.v rfl rfl (Val.loadW rfl Try.isAgg25 (by repeat (first | exact .here | exact .inner .here | exact .inner (.inner .here) | refine .there ?_)) (by exact Try.sizeOf25)) ?_) | (refine LW.v rfl rfl (Val.loadA [_, _] rfl Try.isAgg25 (by repeat (first | exact .here | exact .inner .here | exact .inner (.inner .here) | refine .there ?_)) (by rfl) Try.sizeOf25) ?_)
    refine LW.v rfl rfl (Val.move rfl) ?_
    refine LW.e rfl rfl (Eff.callV rfl Try.call47 (fun w hw => rget_c _ (l, q) ky w (hA0.hp hw (by simp [ids])) hl)) ?_
    intro _ _
    refine LW.v rfl rfl (Val.move rfl) ?_
    refine LW.v rfl rfl (Val.extract rfl rfl) ?_
    refine LW.v rfl rfl (Val.extract rfl rfl) ?_
    refine LW.re 18 (.bool false) rfl (by rw [hs]) ?_
    refine LW.v rfl rfl (Val.assign rfl) ?_
    refine LW.v rfl rfl (Val.assign rfl) ?_
    refine LW.nil ?_
    refine PQ.seq ?_
    refine CW.seq ?_
    refine CW.region ?_
    refine LW.v rfl rfl (Val.fieldAddr 1 rfl Try.underlying25 rfl rfl Try.sizeOf23) ?_
    refine LW.v rfl rfl (Val.load rfl Try.isAgg23 (by repeat (first | exact .here | exact .inner .here | exact .inner (.inner .here) | refine .there ?_)) (by rfl)) ?_
    refine LW.e rfl rfl (Eff.appendAny (q.flatMap stE) (sz := 1) (bytes := 16) (z := .string ⟨#[]⟩) (xs := []) (m0 := 0) (o := none) (m := q.length) (pk := []) rfl rfl Try.underlying23 (by kernel_rfl) rfl (by omega) .nil rfl ⟨rfl, rfl⟩ (V.flatMap_len stE_len _) (fun hm0 => by obtain ⟨b8, o8, h8, h9⟩ := sl_range stE_len h2 hm0; exact ⟨b8, o8, h8, fun w hw => h9 w hw⟩) (all_one stE_one _) (by omega) (by omega)) ?_
    intro yq hyq0
    have hyq : ownOk 1 q.length (q.flatMap stE) yq := by simpa using hyq0
    rw [List.nil_append, Nat.zero_add]
    refine LW.v rfl rfl (Val.build [.slice none 0 0, ownV q.length yq] Try.zeroValue25 Try.underlying25 places25 rfl (by rcases yq with _ | ⟨_, _, _⟩ <;> rfl)) ?_
    refine LW.e rfl rfl (Eff.allocA (by exact Try.zeroValue25)) ?_
    intro b9 _
    refine LW.eN rfl (Eff.storeW (cs := [.slice none 0 0, ownV q.length yq]) rfl rfl (by repeat (first | exact .here | exact .inner .here | exact .inner (.inner .here) | apply Upd.there)) (by rfl) Try.sizeOf25 (by simp [V.ownV_one]; rfl)) ?_
    intro _ _
    refine LW.nil ?_
    refine PQ.seq ?_
    refine CW.seq ?_
    refine CW.region ?_
    refine LW.v rfl rfl (Val.assign rfl) ?_
    refine LW.nil ?_
    refine PQ.seq ?_
    refine CW.seq ?_
    refine CW.seq ?_
    refine CW.region ?_
    refine LW.v rfl rfl (Val.assign rfl) ?_
    refine LW.nil ?_
    refine PQ.seq ?_
    refine CW.block ?_
    refine V.CW.addOwn 45 ?_
    refine CW.loop (γ := Nat × List Pr × V.OwnO × Bool) (fun k => [(1, str ky), (2, str v), (3, .pointer (some ⟨b3, 0, none⟩)), (6, .pointer (some ⟨b6, 0, none⟩)), (8, .bool false), (9, .pointer (some ⟨b9, 0, none⟩)), (10, .bool k.2.2.2), (11, .int .i64 (k.1 : Nat))]) (fun k => [[(b3, .cells [.slice pa l.length pc, .slice qa q.length qc].toArray 25 (0, 0))], [(b6, .cells [.slice none 0 0, .slice none 0 0].toArray 25 (0, 0))], [(b9, .cells [ownV k.2.1.length k.2.2.1, ownV q.length yq].toArray 25 (0, 0))], ownG 45 (k.2.1.flatMap prC) k.2.2.1, ownG 9 (q.flatMap stE) yq]) (fun k => k.1 ≤ l.length ∧ ownOk 2 k.2.1.length (k.2.1.flatMap prC) k.2.2.1 ∧ k.2.1.length ≤ 2 * k.1 ∧ (k.2.2.2 = true → k.2.1 ++ l.drop k.1 = putF l ky v) ∧ (k.2.2.2 = false → k.2.1 ++ insF ky v (l.drop k.1) = putF l ky v ∧ (getF (l.drop k.1) ky).isSome = false)) (fun k => l.length - k.1) ((0, [], none, false)) ⟨Nat.zero_le _, ⟨rfl, rfl⟩, Nat.zero_le _, (fun h => by cases h), (fun _ => ⟨by unfold putF; simp [hs], by simpa using hs⟩)⟩ (by repeat (first | exact trivial | refine ⟨rfl, ?_⟩)) (by repeat (first | exact .nil | apply Pick.cons | exact .here | apply Ext.there)) ?_
    intro k
    rintro ⟨hk1, hk2, hk3, hk4, hk5⟩
    refine CW.seq ?_
    refine CW.seq ?_
    refine CW.region ?_
    refine LW.v rfl rfl (Val.move rfl) ?_
    refine LW.v rfl rfl (Val.fieldAddr 0 rfl Try.underlying25 rfl rfl Try.sizeOf22) ?_
    refine LW.v rfl rfl (Val.load rfl Try.isAgg22 (by repeat (first | exact .here | exact .inner .here | exact .inner (.inner .here) | refine .there ?_)) (by rfl)) ?_
    refine LW.v rfl rfl (Val.lenSl rfl Try.underlying22) ?_
    refine LW.v rfl rfl (Val.cmp rfl rfl rfl) ?_
    refine LW.nil ?_
    refine PQ.seq ?_
    refine CW.cond rfl (fun h27 => ?_) (fun h27 => ?_)
    · replace h27 := bT h27
      obtain ⟨bb1, o1, x, rfl, hb1, hx1, hr1⟩ := V.slAt_at h1 rfl (k := k.1) (by omega)
      refine CW.skip ?_
      refine PQ.seq ?_
      refine CW.seq ?_
      refine CW.block ?_
      refine CW.seq ?_
      refine CW.region ?_
      refine LW.v rfl rfl (Val.fieldAddr 0 rfl Try.underlying25 rfl rfl Try.sizeOf22) ?_
      refine LW.v rfl rfl (Val.load rfl Try.isAgg22 (by repeat (first | exact .here | exact .inner .here | exact .inner (.inner .here) | refine .there ?_)) (by rfl)) ?_
      refine LW.v rfl rfl (Val.move rfl) ?_
      first | (refine LW.v rfl rfl (Val.indexAddrN rfl rfl Try.underlying22 Try.sizeOf45 (by omega)) ?_) | (refine LW.v rfl rfl (Val.indexAddr rfl rfl Try.underlying22 Try.sizeOf45 (by omega) (by omega)) ?_)
      refine LW.v rfl rfl (Val.loadOA rfl Try.isAgg45 hb1 (by simp [ids]) (hr1 k.1 x hx1) Try.sizeOf45) ?_
      refine LW.e rfl rfl (Eff.allocA (by exact Try.zeroValue45)) ?_
      intro b12 _
      first | (refine LW.eN rfl (Eff.storeW rfl rfl (by repeat (first | exact .here | exact .inner .here | exact .inner (.inner .here) | apply Upd.there)) (by rfl) Try.sizeOf45 (by rfl)) ?_) | (refine LW.eN rfl (Eff.storeA (l' := _) rfl rfl (by repeat (first | exact .here | exact .inner .here | exact .inner (.inner .here) | apply Upd.there)) (by rfl) (by decide) Try.sizeOf45 (by rfl)) ?_)
      intro _ _
      refine LW.nil ?_
      refine PQ.seq ?_
      refine CW.seq ?_
      refine CW.seq ?_
      refine CW.region ?_
      refine LW.v rfl rfl (Val.move rfl) ?_
      refine LW.v rfl rfl (Val.move rfl) ?_
      refine LW.p rfl rfl ?_
      refine LW.p rfl rfl ?_
      refine LW.p rfl rfl ?_
      refine LW.p rfl rfl ?_
      refine LW.v rfl rfl (Val.pick_f rfl rfl) ?_
      refine LW.v rfl rfl (Val.move rfl) ?_
      refine LW.p rfl rfl ?_
      refine LW.p rfl rfl ?_
      refine LW.v rfl rfl (Val.pick_f rfl rfl) ?_
      refine LW.nil ?_
      refine PQ.seq ?_
      refine CW.cond_f rfl ?_
      refine CW.seq ?_
      refine CW.region ?_
      refine LW.v rfl rfl (Val.move rfl) ?_
      refine LW.v rfl rfl (Val.not rfl) ?_
      refine LW.v rfl rfl (Val.move rfl) ?_
      refine LW.v rfl rfl (Val.move rfl) ?_
      refine LW.v rfl rfl (Val.not rfl) ?_
      refine LW.v rfl rfl (Val.pick_t rfl rfl) ?_
      refine LW.v rfl rfl (Val.move rfl) ?_
      refine LW.split (d := 54) rfl (fun h54 => ?_) (fun h54 => ?_)
      · replace h54 := bT h54
        have h54 : k.2.2.2 = false := h54
        refine LW.v rfl rfl (Val.fieldAddr 0 rfl Try.underlying45 rfl rfl Try.sizeOf9) ?_
        refine LW.v rfl rfl (Val.load rfl Try.isAgg9 (by repeat (first | exact .here | exact .inner .here | exact .inner (.inner .here) | refine .there ?_)) (by rfl)) ?_
        refine LW.v rfl rfl (Val.move rfl) ?_
        refine LW.v rfl rfl (Val.gtStr rfl rfl) ?_
        refine LW.v rfl rfl (Val.pick_t rfl rfl) ?_
        refine LW.nil ?_
        refine PQ.seq ?_
        refine CW.cond rfl (fun h59 => ?_) (fun h59 => ?_)
        · replace h59 := bT h59
          have h59 : k.2.2.2 = false ∧ ky < x.key := ⟨h54, h59⟩
          refine CW.seq ?_
          refine CW.region ?_
          refine LW.v rfl rfl (Val.fieldAddr 0 rfl Try.underlying25 rfl rfl Try.sizeOf22) ?_
          refine LW.v rfl rfl (Val.load rfl Try.isAgg22 (by repeat (first | exact .here | exact .inner .here | exact .inner (.inner .here) | refine .there ?_)) (by rfl)) ?_
          refine LW.v rfl rfl (Val.move rfl) ?_
          refine LW.v rfl rfl (Val.move rfl) ?_
          refine LW.v rfl rfl (Val.build [_, _] Try.zeroValue45 Try.underlying45 places45 rfl (by rfl)) ?_
          refine LW.e rfl rfl (Eff.buildSlice (rfl) [_, _] Try.underlying22 Try.sizeOf45 (by exact Try.zeroValue45) rfl rfl rfl rfl (by rfl)) ?_
          intro b65 _
          refine LW.e rfl rfl (Eff.appendAny (prC (Pr.mk ky v)) (sz := 2) (bytes := 32) (z := .agg #[.string ⟨#[]⟩, .string ⟨#[]⟩]) (xs := k.2.1.flatMap prC) (m0 := k.2.1.length) (o := k.2.2.1) (m := 1) (pk := [ownG 45 (k.2.1.flatMap prC) k.2.2.1]) rfl rfl Try.underlying22 (by kernel_rfl) rfl (by omega) (by repeat (first | exact .nil | apply Pick.cons | exact .here | apply Ext.there)) (by simp) hk2 (by rfl) (fun hm0 => ⟨b65, 0, rfl, fun w hw => V.range_of_block (o := 0) (cs := prC (Pr.mk ky v)) (r := []) (hw.own _ (show InS (b65, .cells (prC (Pr.mk ky v)).toArray 45 (0, 0)) _ from (by repeat (first | exact .here | exact .inner .here | exact .inner (.inner .here) | refine .there ?_))).mem) rfl⟩) (by rfl) (by first | omega | (simp only [List.length_append, List.length_cons, List.length_nil]; omega)) (by first | omega | (simp only [List.length_append, List.length_cons, List.length_nil]; omega))) ?_
          intro o66 ho66
          have h66 : ownOk 2 (k.2.1 ++ [(Pr.mk ky v)]).length ((k.2.1 ++ [(Pr.mk ky v)]).flatMap prC) o66 := by simpa using ho66
          rw [show k.2.1.flatMap prC ++ prC (Pr.mk ky v) = (k.2.1 ++ [(Pr.mk ky v)]).flatMap prC from by simp, show k.2.1.length + 1 = (k.2.1 ++ [(Pr.mk ky v)]).length from by simp]
          refine LW.v rfl rfl (Val.fieldAddr 0 rfl Try.underlying25 rfl rfl Try.sizeOf22) ?_
          refine LW.eN rfl (Eff.store rfl rfl (V.ownV_one _ _) (by repeat (first | exact .here | exact .inner .here | exact .inner (.inner .here) | apply Upd.there)) (by rfl) (by rfl) Try.sizeOf22) ?_
          intro _ _
          refine LW.nil ?_
          refine PQ.seq ?_
          refine CW.region ?_
          refine LW.v rfl rfl (Val.assign rfl) ?_
          refine LW.nil ?_
          refine PQ.seq ?_
          refine CW.region ?_
          refine LW.v rfl rfl (Val.fieldAddr 0 rfl Try.underlying25 rfl rfl Try.sizeOf22) ?_
          refine LW.v rfl rfl (Val.load rfl Try.isAgg22 (by repeat (first | exact .here | exact .inner .here | exact .inner (.inner .here) | refine .there ?_)) (by rfl)) ?_
          first | (refine LW.v rfl rfl (Val.loadW rfl Try.isAgg45 (by repeat (first | exact .here | exact .inner .here | exact .inner (.inner .here) | refine .there ?_)) (by exact Try.sizeOf45)) ?_) | (refine LW.v rfl rfl (Val.loadA [_, _] rfl Try.isAgg45 (by repeat (first | exact .here | exact .inner .here | exact .inner (.inner .here) | refine .there ?_)) (by rfl) Try.sizeOf45) ?_)
          refine LW.e rfl rfl (Eff.buildSlice (rfl) [_, _] Try.underlying22 Try.sizeOf45 (by exact Try.zeroValue45) rfl rfl rfl rfl (by rfl)) ?_
          intro b71 _
          refine LW.e rfl rfl (Eff.appendAny (prC x) (sz := 2) (bytes := 32) (z := .agg #[.string ⟨#[]⟩, .string ⟨#[]⟩]) (xs := (k.2.1 ++ [(Pr.mk ky v)]).flatMap prC) (m0 := (k.2.1 ++ [(Pr.mk ky v)]).length) (o := o66) (m := 1) (pk := [ownG 45 ((k.2.1 ++ [(Pr.mk ky v)]).flatMap prC) o66]) rfl rfl Try.underlying22 (by kernel_rfl) rfl (by omega) (by repeat (first | exact .nil | apply Pick.cons | exact .here | apply Ext.there)) (by simp) h66 (by rfl) (fun hm0 => ⟨b71, 0, rfl, fun w hw => V.range_of_block (o := 0) (cs := prC x) (r := []) (hw.own _ (show InS (b71, .cells (prC x).toArray 45 (0, 0)) _ from (by repeat (first | exact .here | exact .inner .here | exact .inner (.inner .here) | refine .there ?_))).mem) rfl⟩) (by rfl) (by first | omega | (simp only [List.length_append, List.length_cons, List.length_nil]; omega)) (by first | omega | (simp only [List.length_append, List.length_cons, List.length_nil]; omega))) ?_
          intro o72 ho72
          have h72 : ownOk 2 ((k.2.1 ++ [(Pr.mk ky v)]) ++ [x]).length (((k.2.1 ++ [(Pr.mk ky v)]) ++ [x]).flatMap prC) o72 := by simpa using ho72
          rw [show (k.2.1 ++ [(Pr.mk ky v)]).flatMap prC ++ prC x = ((k.2.1 ++ [(Pr.mk ky v)]) ++ [x]).flatMap prC from by simp, show (k.2.1 ++ [(Pr.mk ky v)]).length + 1 = ((k.2.1 ++ [(Pr.mk ky v)]) ++ [x]).length from by simp]
          refine LW.v rfl rfl (Val.fieldAddr 0 rfl Try.underlying25 rfl rfl Try.sizeOf22) ?_
          refine LW.eN rfl (Eff.store rfl rfl (V.ownV_one _ _) (by repeat (first | exact .here | exact .inner .here | exact .inner (.inner .here) | apply Upd.there)) (by rfl) (by rfl) Try.sizeOf22) ?_
          intro _ _
          refine LW.nil ?_
          refine PQ.in_normal ?_
          refine PQ.seq ?_
          refine CW.region ?_
          refine LW.v rfl rfl (Val.move rfl) ?_
          refine LW.v rfl rfl (Val.ar rfl rfl rfl (IntWalk.i64_in _ (by omega))) ?_
          refine LW.v rfl rfl (Val.assign rfl) ?_
          refine LW.nil ?_
          refine PQ.round ((k.1 + 1, (k.2.1 ++ [(Pr.mk ky v)]) ++ [x], o72, true)) ⟨by simp only; omega, h72, by simp only [List.length_append, List.length_cons, List.length_nil]; omega, (fun _ => by rw [← (hk5 h59.1).1, insF_at hx1, if_pos h59.2]; simp), (fun h => by cases h)⟩ (by simp only; omega) (by repeat (first | exact trivial | refine ⟨rfl, ?_⟩)) (by repeat (first | exact .nil | apply Pick.cons | exact .here | apply Ext.there))
        · replace h59 := bF h59
          have hno : k.2.2.2 = false → ¬ ky < x.key := fun _ => by simpa using h59
          have hnk : k.2.2.2 = false → x.key ≠ ky := fun h => by
            have h8 := (hk5 h).2
            intro h9
            rw [getF_yes hx1 h9] at h8
            cases h8
          refine CW.skip ?_
          refine PQ.seq ?_
          refine CW.region ?_
          refine LW.v rfl rfl (Val.fieldAddr 0 rfl Try.underlying25 rfl rfl Try.sizeOf22) ?_
          refine LW.v rfl rfl (Val.load rfl Try.isAgg22 (by repeat (first | exact .here | exact .inner .here | exact .inner (.inner .here) | refine .there ?_)) (by rfl)) ?_
          first | (refine LW.v rfl rfl (Val.loadW rfl Try.isAgg45 (by repeat (first | exact .here | exact .inner .here | exact .inner (.inner .here) | refine .there ?_)) (by exact Try.sizeOf45)) ?_) | (refine LW.v rfl rfl (Val.loadA [_, _] rfl Try.isAgg45 (by repeat (first | exact .here | exact .inner .here | exact .inner (.inner .here) | refine .there ?_)) (by rfl) Try.sizeOf45) ?_)
          refine LW.e rfl rfl (Eff.buildSlice (rfl) [_, _] Try.underlying22 Try.sizeOf45 (by exact Try.zeroValue45) rfl rfl rfl rfl (by rfl)) ?_
          intro b71 _
          refine LW.e rfl rfl (Eff.appendAny (prC x) (sz := 2) (bytes := 32) (z := .agg #[.string ⟨#[]⟩, .string ⟨#[]⟩]) (xs := k.2.1.flatMap prC) (m0 := k.2.1.length) (o := k.2.2.1) (m := 1) (pk := [ownG 45 (k.2.1.flatMap prC) k.2.2.1]) rfl rfl Try.underlying22 (by kernel_rfl) rfl (by omega) (by repeat (first | exact .nil | apply Pick.cons | exact .here | apply Ext.there)) (by simp) hk2 (by rfl) (fun hm0 => ⟨b71, 0, rfl, fun w hw => V.range_of_block (o := 0) (cs := prC x) (r := []) (hw.own _ (show InS (b71, .cells (prC x).toArray 45 (0, 0)) _ from (by repeat (first | exact .here | exact .inner .here | exact .inner (.inner .here) | refine .there ?_))).mem) rfl⟩) (by rfl) (by first | omega | (simp only [List.length_append, List.length_cons, List.length_nil]; omega)) (by first | omega | (simp only [List.length_append, List.length_cons, List.length_nil]; omega))) ?_
          intro o72 ho72
          have h72 : ownOk 2 (k.2.1 ++ [x]).length ((k.2.1 ++ [x]).flatMap prC) o72 := by simpa using ho72
          rw [show k.2.1.flatMap prC ++ prC x = (k.2.1 ++ [x]).flatMap prC from by simp, show k.2.1.length + 1 = (k.2.1 ++ [x]).length from by simp]
          refine LW.v rfl rfl (Val.fieldAddr 0 rfl Try.underlying25 rfl rfl Try.sizeOf22) ?_
          refine LW.eN rfl (Eff.store rfl rfl (V.ownV_one _ _) (by repeat (first | exact .here | exact .inner .here | exact .inner (.inner .here) | apply Upd.there)) (by rfl) (by rfl) Try.sizeOf22) ?_
          intro _ _
          refine LW.nil ?_
          refine PQ.in_normal ?_
          refine PQ.seq ?_
          refine CW.region ?_
          refine LW.v rfl rfl (Val.move rfl) ?_
          refine LW.v rfl rfl (Val.ar rfl rfl rfl (IntWalk.i64_in _ (by omega))) ?_
          refine LW.v rfl rfl (Val.assign rfl) ?_
          refine LW.nil ?_
          refine PQ.round ((k.1 + 1, k.2.1 ++ [x], o72, k.2.2.2)) ⟨by simp only; omega, h72, by simp only [List.length_append, List.length_cons, List.length_nil]; omega, (fun h => by rw [← hk4 h, drop_at hx1]; simp), (fun h => ⟨by rw [← (hk5 h).1, insF_at hx1, if_neg (hno h)]; simp, by rw [← getF_no hx1 (hnk h)]; exact (hk5 h).2⟩)⟩ (by simp only; omega) (by repeat (first | exact trivial | refine ⟨rfl, ?_⟩)) (by repeat (first | exact .nil | apply Pick.cons | exact .here | apply Ext.there))
      · replace h54 := bF h54
        have h54 : k.2.2.2 = true := by simpa using h54
        have hno : k.2.2.2 = false → ¬ ky < x.key := fun h => by rw [h54] at h; cases h
        have hnk : k.2.2.2 = false → x.key ≠ ky := fun h => by
          have h8 := (hk5 h).2
          intro h9
          rw [getF_yes hx1 h9] at h8
          cases h8
        refine LW.p rfl rfl ?_
        refine LW.p rfl rfl ?_
        refine LW.p rfl rfl ?_
        refine LW.p rfl rfl ?_
        refine LW.v rfl rfl (Val.pick_f rfl rfl) ?_
        refine LW.nil ?_
        refine PQ.seq ?_
        refine CW.cond_f rfl ?_
        refine CW.skip ?_
        refine PQ.seq ?_
        refine CW.region ?_
        refine LW.v rfl rfl (Val.fieldAddr 0 rfl Try.underlying25 rfl rfl Try.sizeOf22) ?_
        refine LW.v rfl rfl (Val.load rfl Try.isAgg22 (by repeat (first | exact .here | exact .inner .here | exact .inner (.inner .here) | refine .there ?_)) (by rfl)) ?_
        first | (refine LW.v rfl rfl (Val.loadW rfl Try.isAgg45 (by repeat (first | exact .here | exact .inner .here | exact .inner (.inner .here) | refine .there ?_)) (by exact Try.sizeOf45)) ?_) | (refine LW.v rfl rfl (Val.loadA [_, _] rfl Try.isAgg45 (by repeat (first | exact .here | exact .inner .here | exact .inner (.inner .here) | refine .there ?_)) (by rfl) Try.sizeOf45) ?_)
        refine LW.e rfl rfl (Eff.buildSlice (rfl) [_, _] Try.underlying22 Try.sizeOf45 (by exact Try.zeroValue45) rfl rfl rfl rfl (by rfl)) ?_
        intro b71 _
        refine LW.e rfl rfl (Eff.appendAny (prC x) (sz := 2) (bytes := 32) (z := .agg #[.string ⟨#[]⟩, .string ⟨#[]⟩]) (xs := k.2.1.flatMap prC) (m0 := k.2.1.length) (o := k.2.2.1) (m := 1) (pk := [ownG 45 (k.2.1.flatMap prC) k.2.2.1]) rfl rfl Try.underlying22 (by kernel_rfl) rfl (by omega) (by repeat (first | exact .nil | apply Pick.cons | exact .here | apply Ext.there)) (by simp) hk2 (by rfl) (fun hm0 => ⟨b71, 0, rfl, fun w hw => V.range_of_block (o := 0) (cs := prC x) (r := []) (hw.own _ (show InS (b71, .cells (prC x).toArray 45 (0, 0)) _ from (by repeat (first | exact .here | exact .inner .here | exact .inner (.inner .here) | refine .there ?_))).mem) rfl⟩) (by rfl) (by first | omega | (simp only [List.length_append, List.length_cons, List.length_nil]; omega)) (by first | omega | (simp only [List.length_append, List.length_cons, List.length_nil]; omega))) ?_
        intro o72 ho72
        have h72 : ownOk 2 (k.2.1 ++ [x]).length ((k.2.1 ++ [x]).flatMap prC) o72 := by simpa using ho72
        rw [show k.2.1.flatMap prC ++ prC x = (k.2.1 ++ [x]).flatMap prC from by simp, show k.2.1.length + 1 = (k.2.1 ++ [x]).length from by simp]
        refine LW.v rfl rfl (Val.fieldAddr 0 rfl Try.underlying25 rfl rfl Try.sizeOf22) ?_
        refine LW.eN rfl (Eff.store rfl rfl (V.ownV_one _ _) (by repeat (first | exact .here | exact .inner .here | exact .inner (.inner .here) | apply Upd.there)) (by rfl) (by rfl) Try.sizeOf22) ?_
        intro _ _
        refine LW.nil ?_
        refine PQ.in_normal ?_
        refine PQ.seq ?_
        refine CW.region ?_
        refine LW.v rfl rfl (Val.move rfl) ?_
        refine LW.v rfl rfl (Val.ar rfl rfl rfl (IntWalk.i64_in _ (by omega))) ?_
        refine LW.v rfl rfl (Val.assign rfl) ?_
        refine LW.nil ?_
        refine PQ.round ((k.1 + 1, k.2.1 ++ [x], o72, k.2.2.2)) ⟨by simp only; omega, h72, by simp only [List.length_append, List.length_cons, List.length_nil]; omega, (fun h => by rw [← hk4 h, drop_at hx1]; simp), (fun h => ⟨by rw [← (hk5 h).1, insF_at hx1, if_neg (hno h)]; simp, by rw [← getF_no hx1 (hnk h)]; exact (hk5 h).2⟩)⟩ (by simp only; omega) (by repeat (first | exact trivial | refine ⟨rfl, ?_⟩)) (by repeat (first | exact .nil | apply Pick.cons | exact .here | apply Ext.there))
    · replace h27 := bF h27
      have hk8 : l.length ≤ k.1 := by omega
      refine CW.exit ?_
      refine PQ.then_exit ?_
      refine PQ.then_exit ?_
      refine PQ.in_here ?_
      refine PQ.seq ?_
      refine CW.seq ?_
      refine CW.seq ?_
      refine CW.region ?_
      refine LW.v rfl rfl (Val.move rfl) ?_
      refine LW.v rfl rfl (Val.not rfl) ?_
      refine LW.nil ?_
      refine PQ.seq ?_
      refine CW.cond rfl (fun h75 => ?_) (fun h75 => ?_)
      · replace h75 := bT h75
        have h75 : k.2.2.2 = false := h75
        refine CW.region ?_
        refine LW.v rfl rfl (Val.fieldAddr 0 rfl Try.underlying25 rfl rfl Try.sizeOf22) ?_
        refine LW.v rfl rfl (Val.load rfl Try.isAgg22 (by repeat (first | exact .here | exact .inner .here | exact .inner (.inner .here) | refine .there ?_)) (by rfl)) ?_
        refine LW.v rfl rfl (Val.move rfl) ?_
        refine LW.v rfl rfl (Val.move rfl) ?_
        refine LW.v rfl rfl (Val.build [_, _] Try.zeroValue45 Try.underlying45 places45 rfl (by rfl)) ?_
        refine LW.e rfl rfl (Eff.buildSlice (rfl) [_, _] Try.underlying22 Try.sizeOf45 (by exact Try.zeroValue45) rfl rfl rfl rfl (by rfl)) ?_
        intro b81 _
        refine LW.e rfl rfl (Eff.appendAny (prC (Pr.mk ky v)) (sz := 2) (bytes := 32) (z := .agg #[.string ⟨#[]⟩, .string ⟨#[]⟩]) (xs := k.2.1.flatMap prC) (m0 := k.2.1.length) (o := k.2.2.1) (m := 1) (pk := [ownG 45 (k.2.1.flatMap prC) k.2.2.1]) rfl rfl Try.underlying22 (by kernel_rfl) rfl (by omega) (by repeat (first | exact .nil | apply Pick.cons | exact .here | apply Ext.there)) (by simp) hk2 (by rfl) (fun hm0 => ⟨b81, 0, rfl, fun w hw => V.range_of_block (o := 0) (cs := prC (Pr.mk ky v)) (r := []) (hw.own _ (show InS (b81, .cells (prC (Pr.mk ky v)).toArray 45 (0, 0)) _ from (by repeat (first | exact .here | exact .inner .here | exact .inner (.inner .here) | refine .there ?_))).mem) rfl⟩) (by rfl) (by first | omega | (simp only [List.length_append, List.length_cons, List.length_nil]; omega)) (by first | omega | (simp only [List.length_append, List.length_cons, List.length_nil]; omega))) ?_
        intro o82 ho82
        have h82 : ownOk 2 (k.2.1 ++ [(Pr.mk ky v)]).length ((k.2.1 ++ [(Pr.mk ky v)]).flatMap prC) o82 := by simpa using ho82
        rw [show k.2.1.flatMap prC ++ prC (Pr.mk ky v) = (k.2.1 ++ [(Pr.mk ky v)]).flatMap prC from by simp, show k.2.1.length + 1 = (k.2.1 ++ [(Pr.mk ky v)]).length from by simp]
        refine LW.v rfl rfl (Val.fieldAddr 0 rfl Try.underlying25 rfl rfl Try.sizeOf22) ?_
        refine LW.eN rfl (Eff.store rfl rfl (V.ownV_one _ _) (by repeat (first | exact .here | exact .inner .here | exact .inner (.inner .here) | apply Upd.there)) (by rfl) (by rfl) Try.sizeOf22) ?_
        intro _ _
        refine LW.nil ?_
        refine PQ.seq ?_
        refine CW.seq ?_
        refine CW.region ?_
        first | (refine LW.v rfl rfl (Val.loadW rfl Try.isAgg25 (by repeat (first | exact .here | exact .inner .here | exact .inner (.inner .here) | refine .there ?_)) (by exact Try.sizeOf25)) ?_) | (refine LW.v rfl rfl (Val.loadA [_, _] rfl Try.isAgg25 (by repeat (first | exact .here | exact .inner .here | exact .inner (.inner .here) | refine .there ?_)) (by rfl) Try.sizeOf25) ?_)
        first | (refine LW.eN rfl (Eff.storeW (cs := [ownV k.2.1.length k.2.2.1, ownV q.length yq]) rfl rfl (by repeat (first | exact .here | exact .inner .here | exact .inner (.inner .here) | apply Upd.there)) (by rfl) Try.sizeOf25 (by simp [V.ownV_one])) ?_) | (refine LW.eN rfl (Eff.storeW (cs := [ownV (k.2.1 ++ [(Pr.mk ky v)]).length o82, ownV q.length yq]) rfl rfl (by repeat (first | exact .here | exact .inner .here | exact .inner (.inner .here) | apply Upd.there)) (by rfl) Try.sizeOf25 (by simp [V.ownV_one])) ?_)
        intro _ _
        refine LW.nil ?_
        refine PQ.seq ?_
        refine CW.ret ?_
        refine V.PQ.retC rfl rfl (by repeat (first | exact .here | exact .inner .here | exact .inner (.inner .here) | refine .there ?_)) Try.isAgg25 (by exact Try.sizeOf25) ?_
        have hd : l.drop k.1 = [] := List.drop_eq_nil_iff.2 (by omega)
        have hte : (k.2.1 ++ [(Pr.mk ky v)]) = putF l ky v := by rw [← (hk5 h75).1, hd]; rfl
        rw [hte] at h82 ⊢
        intro w' hw
        exact ⟨(o82, yq), ⟨h82, hyq⟩, rfl, hw.pick (by repeat (first | exact .nil | apply Pick.cons | exact .here | apply Ext.there))⟩
      · replace h75 := bF h75
        have h75 : k.2.2.2 = true := by simpa using h75
        refine CW.skip ?_
        refine PQ.seq ?_
        refine CW.seq ?_
        refine CW.region ?_
        first | (refine LW.v rfl rfl (Val.loadW rfl Try.isAgg25 (by repeat (first | exact .here | exact .inner .here | exact .inner (.inner .here) | refine .there ?_)) (by exact Try.sizeOf25)) ?_) | (refine LW.v rfl rfl (Val.loadA [_, _] rfl Try.isAgg25 (by repeat (first | exact .here | exact .inner .here | exact .inner (.inner .here) | refine .there ?_)) (by rfl) Try.sizeOf25) ?_)
        first | (refine LW.eN rfl (Eff.storeW (cs := [ownV k.2.1.length k.2.2.1, ownV q.length yq]) rfl rfl (by repeat (first | exact .here | exact .inner .here | exact .inner (.inner .here) | apply Upd.there)) (by rfl) Try.sizeOf25 (by simp [V.ownV_one])) ?_) | (refine LW.eN rfl (Eff.storeW (cs := [ownV (k.2.1 ++ [(Pr.mk ky v)]).length o82, ownV q.length yq]) rfl rfl (by repeat (first | exact .here | exact .inner .here | exact .inner (.inner .here) | apply Upd.there)) (by rfl) Try.sizeOf25 (by simp [V.ownV_one])) ?_)
        intro _ _
        refine LW.nil ?_
        refine PQ.seq ?_
        refine CW.ret ?_
        refine V.PQ.retC rfl rfl (by repeat (first | exact .here | exact .inner .here | exact .inner (.inner .here) | refine .there ?_)) Try.isAgg25 (by exact Try.sizeOf25) ?_
        have hd : l.drop k.1 = [] := List.drop_eq_nil_iff.2 (by omega)
        have hte : k.2.1 = putF l ky v := by rw [← hk4 h75, hd, List.append_nil]
        rw [hte] at hk2 ⊢
        intro w' hw
        exact ⟨(k.2.2.1, yq), ⟨hk2, hyq⟩, rfl, hw.pick (by repeat (first | exact .nil | apply Pick.cons | exact .here | apply Ext.there))⟩
  · refine V.calls [] Try.func48 rfl Try.ntmps48 (Nat.le_of_ble_eq_true rfl) (V.sat_nil _) ?_
    refine CW.seq ?_
    refine CW.region ?_
    refine LW.e rfl rfl (Eff.boxA rfl) ?_
    intro b3 _
    refine LW.e rfl rfl (Eff.allocA (by exact Try.zeroValue25)) ?_
    intro b6 _
    refine LW.nil ?_
    refine PQ.seq ?_
    refine CW.seq ?_
    refine CW.region ?_
    first | (refine LW.v rfl rfl (Val.loadW rfl Try.isAgg25 (by repeat (first | exact .here | exact .inner .here | exact .inner (.inner .here) | refine .there ?_)) (by exact Try.sizeOf25)) ?_) | (refine LW.v rfl rfl (Val.loadA [_, _] rfl Try.isAgg25 (by repeat (first | exact .here | exact .inner .here | exact .inner (.inner .here) | refine .there ?_)) (by rfl) Try.sizeOf25) ?_)
    refine LW.v rfl rfl (Val.move rfl) ?_
    refine LW.e rfl rfl (Eff.callV rfl Try.call47 (fun w hw => rget_c _ (l, q) ky w (hA0.hp hw (by simp [ids])) hl)) ?_
    intro _ _
    refine LW.v rfl rfl (Val.move rfl) ?_
    refine LW.v rfl rfl (Val.extract rfl rfl) ?_
    refine LW.v rfl rfl (Val.extract rfl rfl) ?_
    refine LW.re 18 (.bool true) rfl (by rw [hs]) ?_
    refine LW.v rfl rfl (Val.assign rfl) ?_
    refine LW.v rfl rfl (Val.assign rfl) ?_
    refine LW.nil ?_
    refine PQ.seq ?_
    refine CW.seq ?_
    refine CW.region ?_
    refine LW.v rfl rfl (Val.fieldAddr 1 rfl Try.underlying25 rfl rfl Try.sizeOf23) ?_
    refine LW.v rfl rfl (Val.load rfl Try.isAgg23 (by repeat (first | exact .here | exact .inner .here | exact .inner (.inner .here) | refine .there ?_)) (by rfl)) ?_
    refine LW.e rfl rfl (Eff.appendAny (q.flatMap stE) (sz := 1) (bytes := 16) (z := .string ⟨#[]⟩) (xs := []) (m0 := 0) (o := none) (m := q.length) (pk := []) rfl rfl Try.underlying23 (by kernel_rfl) rfl (by omega) .nil rfl ⟨rfl, rfl⟩ (V.flatMap_len stE_len _) (fun hm0 => by obtain ⟨b8, o8, h8, h9⟩ := sl_range stE_len h2 hm0; exact ⟨b8, o8, h8, fun w hw => h9 w hw⟩) (all_one stE_one _) (by omega) (by omega)) ?_
    intro yq hyq0
    have hyq : ownOk 1 q.length (q.flatMap stE) yq := by simpa using hyq0
    rw [List.nil_append, Nat.zero_add]
    refine LW.v rfl rfl (Val.build [.slice none 0 0, ownV q.length yq] Try.zeroValue25 Try.underlying25 places25 rfl (by rcases yq with _ | ⟨_, _, _⟩ <;> rfl)) ?_
    refine LW.e rfl rfl (Eff.allocA (by exact Try.zeroValue25)) ?_
    intro b9 _
    refine LW.eN rfl (Eff.storeW (cs := [.slice none 0 0, ownV q.length yq]) rfl rfl (by repeat (first | exact .here | exact .inner .here | exact .inner (.inner .here) | apply Upd.there)) (by rfl) Try.sizeOf25 (by simp [V.ownV_one]; rfl)) ?_
    intro _ _
    refine LW.nil ?_
    refine PQ.seq ?_
    refine CW.seq ?_
    refine CW.region ?_
    refine LW.v rfl rfl (Val.assign rfl) ?_
    refine LW.nil ?_
    refine PQ.seq ?_
    refine CW.seq ?_
    refine CW.seq ?_
    refine CW.region ?_
    refine LW.v rfl rfl (Val.assign rfl) ?_
    refine LW.nil ?_
    refine PQ.seq ?_
    refine CW.block ?_
    refine V.CW.addOwn 45 ?_
    refine CW.loop (γ := Nat × List Pr × V.OwnO × Bool) (fun k => [(1, str ky), (2, str v), (3, .pointer (some ⟨b3, 0, none⟩)), (6, .pointer (some ⟨b6, 0, none⟩)), (8, .bool true), (9, .pointer (some ⟨b9, 0, none⟩)), (10, .bool k.2.2.2), (11, .int .i64 (k.1 : Nat))]) (fun k => [[(b3, .cells [.slice pa l.length pc, .slice qa q.length qc].toArray 25 (0, 0))], [(b6, .cells [.slice none 0 0, .slice none 0 0].toArray 25 (0, 0))], [(b9, .cells [ownV k.2.1.length k.2.2.1, ownV q.length yq].toArray 25 (0, 0))], ownG 45 (k.2.1.flatMap prC) k.2.2.1, ownG 9 (q.flatMap stE) yq]) (fun k => k.1 ≤ l.length ∧ ownOk 2 k.2.1.length (k.2.1.flatMap prC) k.2.2.1 ∧ k.2.1.length ≤ 2 * k.1 ∧ (k.2.2.2 = true → k.2.1 ++ l.drop k.1 = putF l ky v) ∧ (k.2.2.2 = false → k.2.1 ++ repF ky v (l.drop k.1) = putF l ky v ∧ (getF (l.drop k.1) ky).isSome = true)) (fun k => l.length - k.1) ((0, [], none, false)) ⟨Nat.zero_le _, ⟨rfl, rfl⟩, Nat.zero_le _, (fun h => by cases h), (fun _ => ⟨by unfold putF; simp [hs], by simpa using hs⟩)⟩ (by repeat (first | exact trivial | refine ⟨rfl, ?_⟩)) (by repeat (first | exact .nil | apply Pick.cons | exact .here | apply Ext.there)) ?_
    intro k
    rintro ⟨hk1, hk2, hk3, hk4, hk5⟩
    refine CW.seq ?_
    refine CW.seq ?_
    refine CW.region ?_
    refine LW.v rfl rfl (Val.move rfl) ?_
    refine LW.v rfl rfl (Val.fieldAddr 0 rfl Try.underlying25 rfl rfl Try.sizeOf22) ?_
    refine LW.v rfl rfl (Val.load rfl Try.isAgg22 (by repeat (first | exact .here | exact .inner .here | exact .inner (.inner .here) | refine .there ?_)) (by rfl)) ?_
    refine LW.v rfl rfl (Val.lenSl rfl Try.underlying22) ?_
    refine LW.v rfl rfl (Val.cmp rfl rfl rfl) ?_
    refine LW.nil ?_
    refine PQ.seq ?_
    refine CW.cond rfl (fun h27 => ?_) (fun h27 => ?_)
    · replace h27 := bT h27
      obtain ⟨bb1, o1, x, rfl, hb1, hx1, hr1⟩ := V.slAt_at h1 rfl (k := k.1) (by omega)
      refine CW.skip ?_
      refine PQ.seq ?_
      refine CW.seq ?_
      refine CW.block ?_
      refine CW.seq ?_
      refine CW.region ?_
      refine LW.v rfl rfl (Val.fieldAddr 0 rfl Try.underlying25 rfl rfl Try.sizeOf22) ?_
      refine LW.v rfl rfl (Val.load rfl Try.isAgg22 (by repeat (first | exact .here | exact .inner .here | exact .inner (.inner .here) | refine .there ?_)) (by rfl)) ?_
      refine LW.v rfl rfl (Val.move rfl) ?_
      first | (refine LW.v rfl rfl (Val.indexAddrN rfl rfl Try.underlying22 Try.sizeOf45 (by omega)) ?_) | (refine LW.v rfl rfl (Val.indexAddr rfl rfl Try.underlying22 Try.sizeOf45 (by omega) (by omega)) ?_)
      refine LW.v rfl rfl (Val.loadOA rfl Try.isAgg45 hb1 (by simp [ids]) (hr1 k.1 x hx1) Try.sizeOf45) ?_
      refine LW.e rfl rfl (Eff.allocA (by exact Try.zeroValue45)) ?_
      intro b12 _
      first | (refine LW.eN rfl (Eff.storeW rfl rfl (by repeat (first | exact .here | exact .inner .here | exact .inner (.inner .here) | apply Upd.there)) (by rfl) Try.sizeOf45 (by rfl)) ?_) | (refine LW.eN rfl (Eff.storeA (l' := _) rfl rfl (by repeat (first | exact .here | exact .inner .here | exact .inner (.inner .here) | apply Upd.there)) (by rfl) (by decide) Try.sizeOf45 (by rfl)) ?_)
      intro _ _
      refine LW.nil ?_
      refine PQ.seq ?_
      refine CW.seq ?_
      refine CW.seq ?_
      refine CW.region ?_
      refine LW.v rfl rfl (Val.move rfl) ?_
      refine LW.v rfl rfl (Val.move rfl) ?_
      refine LW.v rfl rfl (Val.fieldAddr 0 rfl Try.underlying45 rfl rfl Try.sizeOf9) ?_
      refine LW.v rfl rfl (Val.load rfl Try.isAgg9 (by repeat (first | exact .here | exact .inner .here | exact .inner (.inner .here) | refine .there ?_)) (by rfl)) ?_
      refine LW.v rfl rfl (Val.move rfl) ?_
      refine LW.v rfl rfl (Val.eqStr rfl rfl) ?_
      refine LW.v rfl rfl (Val.pick_t rfl rfl) ?_
      refine LW.v rfl rfl (Val.move rfl) ?_
      refine LW.split (d := 42) rfl (fun h42 => ?_) (fun h42 => ?_)
      · replace h42 := bT h42
        have h42 : x.key = ky := h42
        refine LW.v rfl rfl (Val.move rfl) ?_
        refine LW.v rfl rfl (Val.not rfl) ?_
        refine LW.v rfl rfl (Val.pick_t rfl rfl) ?_
        refine LW.nil ?_
        refine PQ.seq ?_
        refine CW.cond rfl (fun h45 => ?_) (fun h45 => ?_)
        · replace h45 := bT h45
          have h45 : True ∧ k.2.2.2 = false := ⟨trivial, h45⟩
          refine CW.seq ?_
          refine CW.region ?_
          refine LW.v rfl rfl (Val.move rfl) ?_
          refine LW.v rfl rfl (Val.fieldAddr 1 rfl Try.underlying45 rfl rfl Try.sizeOf9) ?_
          refine LW.eN rfl (Eff.store rfl rfl rfl (by repeat (first | exact .here | exact .inner .here | exact .inner (.inner .here) | apply Upd.there)) (by rfl) (by rfl) Try.sizeOf9) ?_
          intro _ _
          refine LW.nil ?_
          refine PQ.seq ?_
          refine CW.region ?_
          refine LW.v rfl rfl (Val.assign rfl) ?_
          refine LW.nil ?_
          refine PQ.seq ?_
          refine CW.region ?_
          refine LW.v rfl rfl (Val.fieldAddr 0 rfl Try.underlying25 rfl rfl Try.sizeOf22) ?_
          refine LW.v rfl rfl (Val.load rfl Try.isAgg22 (by repeat (first | exact .here | exact .inner .here | exact .inner (.inner .here) | refine .there ?_)) (by rfl)) ?_
          first | (refine LW.v rfl rfl (Val.loadW rfl Try.isAgg45 (by repeat (first | exact .here | exact .inner .here | exact .inner (.inner .here) | refine .there ?_)) (by exact Try.sizeOf45)) ?_) | (refine LW.v rfl rfl (Val.loadA [_, _] rfl Try.isAgg45 (by repeat (first | exact .here | exact .inner .here | exact .inner (.inner .here) | refine .there ?_)) (by rfl) Try.sizeOf45) ?_)
          refine LW.e rfl rfl (Eff.buildSlice (rfl) [_, _] Try.underlying22 Try.sizeOf45 (by exact Try.zeroValue45) rfl rfl rfl rfl (by rfl)) ?_
          intro b71 _
          refine LW.e rfl rfl (Eff.appendAny (prC (Pr.mk x.key v)) (sz := 2) (bytes := 32) (z := .agg #[.string ⟨#[]⟩, .string ⟨#[]⟩]) (xs := k.2.1.flatMap prC) (m0 := k.2.1.length) (o := k.2.2.1) (m := 1) (pk := [ownG 45 (k.2.1.flatMap prC) k.2.2.1]) rfl rfl Try.underlying22 (by kernel_rfl) rfl (by omega) (by repeat (first | exact .nil | apply Pick.cons | exact .here | apply Ext.there)) (by simp) hk2 (by rfl) (fun hm0 => ⟨b71, 0, rfl, fun w hw => V.range_of_block (o := 0) (cs := prC (Pr.mk x.key v)) (r := []) (hw.own _ (show InS (b71, .cells (prC (Pr.mk x.key v)).toArray 45 (0, 0)) _ from (by repeat (first | exact .here | exact .inner .here | exact .inner (.inner .here) | refine .there ?_))).mem) rfl⟩) (by rfl) (by first | omega | (simp only [List.length_append, List.length_cons, List.length_nil]; omega)) (by first | omega | (simp only [List.length_append, List.length_cons, List.length_nil]; omega))) ?_
          intro o72 ho72
          have h72 : ownOk 2 (k.2.1 ++ [(Pr.mk x.key v)]).length ((k.2.1 ++ [(Pr.mk x.key v)]).flatMap prC) o72 := by simpa using ho72
          rw [show k.2.1.flatMap prC ++ prC (Pr.mk x.key v) = (k.2.1 ++ [(Pr.mk x.key v)]).flatMap prC from by simp, show k.2.1.length + 1 = (k.2.1 ++ [(Pr.mk x.key v)]).length from by simp]
          refine LW.v rfl rfl (Val.fieldAddr 0 rfl Try.underlying25 rfl rfl Try.sizeOf22) ?_
          refine LW.eN rfl (Eff.store rfl rfl (V.ownV_one _ _) (by repeat (first | exact .here | exact .inner .here | exact .inner (.inner .here) | apply Upd.there)) (by rfl) (by rfl) Try.sizeOf22) ?_
          intro _ _
          refine LW.nil ?_
          refine PQ.in_normal ?_
          refine PQ.seq ?_
          refine CW.region ?_
          refine LW.v rfl rfl (Val.move rfl) ?_
          refine LW.v rfl rfl (Val.ar rfl rfl rfl (IntWalk.i64_in _ (by omega))) ?_
          refine LW.v rfl rfl (Val.assign rfl) ?_
          refine LW.nil ?_
          refine PQ.round ((k.1 + 1, k.2.1 ++ [(Pr.mk x.key v)], o72, true)) ⟨by simp only; omega, h72, by simp only [List.length_append, List.length_cons, List.length_nil]; omega, (fun _ => by rw [← (hk5 h45.2).1, repF_at hx1, if_pos h42]; simp), (fun h => by cases h)⟩ (by simp only; omega) (by repeat (first | exact trivial | refine ⟨rfl, ?_⟩)) (by repeat (first | exact .nil | apply Pick.cons | exact .here | apply Ext.there))
        · replace h45 := bF h45
          have h45 : k.2.2.2 = true := h45
          have hno : k.2.2.2 = false → x.key ≠ ky := fun h => by rw [h45] at h; cases h
          have hnk : k.2.2.2 = false → x.key ≠ ky := hno
          refine CW.seq ?_
          refine CW.region ?_
          refine LW.v rfl rfl (Val.move rfl) ?_
          refine LW.v rfl rfl (Val.not rfl) ?_
          refine LW.v rfl rfl (Val.move rfl) ?_
          refine LW.p rfl rfl ?_
          refine LW.p rfl rfl ?_
          refine LW.v rfl rfl (Val.pick_f rfl rfl) ?_
          refine LW.v rfl rfl (Val.move rfl) ?_
          refine LW.p rfl rfl ?_
          refine LW.p rfl rfl ?_
          refine LW.p rfl rfl ?_
          refine LW.p rfl rfl ?_
          refine LW.v rfl rfl (Val.pick_f rfl rfl) ?_
          refine LW.nil ?_
          refine PQ.seq ?_
          refine CW.cond_f rfl ?_
          refine CW.skip ?_
          refine PQ.seq ?_
          refine CW.region ?_
          refine LW.v rfl rfl (Val.fieldAddr 0 rfl Try.underlying25 rfl rfl Try.sizeOf22) ?_
          refine LW.v rfl rfl (Val.load rfl Try.isAgg22 (by repeat (first | exact .here | exact .inner .here | exact .inner (.inner .here) | refine .there ?_)) (by rfl)) ?_
          first | (refine LW.v rfl rfl (Val.loadW rfl Try.isAgg45 (by repeat (first | exact .here | exact .inner .here | exact .inner (.inner .here) | refine .there ?_)) (by exact Try.sizeOf45)) ?_) | (refine LW.v rfl rfl (Val.loadA [_, _] rfl Try.isAgg45 (by repeat (first | exact .here | exact .inner .here | exact .inner (.inner .here) | refine .there ?_)) (by rfl) Try.sizeOf45) ?_)
          refine LW.e rfl rfl (Eff.buildSlice (rfl) [_, _] Try.underlying22 Try.sizeOf45 (by exact Try.zeroValue45) rfl rfl rfl rfl (by rfl)) ?_
          intro b71 _
          refine LW.e rfl rfl (Eff.appendAny (prC x) (sz := 2) (bytes := 32) (z := .agg #[.string ⟨#[]⟩, .string ⟨#[]⟩]) (xs := k.2.1.flatMap prC) (m0 := k.2.1.length) (o := k.2.2.1) (m := 1) (pk := [ownG 45 (k.2.1.flatMap prC) k.2.2.1]) rfl rfl Try.underlying22 (by kernel_rfl) rfl (by omega) (by repeat (first | exact .nil | apply Pick.cons | exact .here | apply Ext.there)) (by simp) hk2 (by rfl) (fun hm0 => ⟨b71, 0, rfl, fun w hw => V.range_of_block (o := 0) (cs := prC x) (r := []) (hw.own _ (show InS (b71, .cells (prC x).toArray 45 (0, 0)) _ from (by repeat (first | exact .here | exact .inner .here | exact .inner (.inner .here) | refine .there ?_))).mem) rfl⟩) (by rfl) (by first | omega | (simp only [List.length_append, List.length_cons, List.length_nil]; omega)) (by first | omega | (simp only [List.length_append, List.length_cons, List.length_nil]; omega))) ?_
          intro o72 ho72
          have h72 : ownOk 2 (k.2.1 ++ [x]).length ((k.2.1 ++ [x]).flatMap prC) o72 := by simpa using ho72
          rw [show k.2.1.flatMap prC ++ prC x = (k.2.1 ++ [x]).flatMap prC from by simp, show k.2.1.length + 1 = (k.2.1 ++ [x]).length from by simp]
          refine LW.v rfl rfl (Val.fieldAddr 0 rfl Try.underlying25 rfl rfl Try.sizeOf22) ?_
          refine LW.eN rfl (Eff.store rfl rfl (V.ownV_one _ _) (by repeat (first | exact .here | exact .inner .here | exact .inner (.inner .here) | apply Upd.there)) (by rfl) (by rfl) Try.sizeOf22) ?_
          intro _ _
          refine LW.nil ?_
          refine PQ.in_normal ?_
          refine PQ.seq ?_
          refine CW.region ?_
          refine LW.v rfl rfl (Val.move rfl) ?_
          refine LW.v rfl rfl (Val.ar rfl rfl rfl (IntWalk.i64_in _ (by omega))) ?_
          refine LW.v rfl rfl (Val.assign rfl) ?_
          refine LW.nil ?_
          refine PQ.round ((k.1 + 1, k.2.1 ++ [x], o72, k.2.2.2)) ⟨by simp only; omega, h72, by simp only [List.length_append, List.length_cons, List.length_nil]; omega, (fun h => by rw [← hk4 h, drop_at hx1]; simp), (fun h => ⟨by rw [← (hk5 h).1, repF_at hx1, if_neg (hno h)]; simp, by rw [← getF_no hx1 (hnk h)]; exact (hk5 h).2⟩)⟩ (by simp only; omega) (by repeat (first | exact trivial | refine ⟨rfl, ?_⟩)) (by repeat (first | exact .nil | apply Pick.cons | exact .here | apply Ext.there))
      · replace h42 := bF h42
        have h42 : x.key ≠ ky := h42
        have hno : k.2.2.2 = false → x.key ≠ ky := fun _ => h42
        have hnk : k.2.2.2 = false → x.key ≠ ky := fun _ => h42
        refine LW.p rfl rfl ?_
        refine LW.p rfl rfl ?_
        refine LW.v rfl rfl (Val.pick_f rfl rfl) ?_
        refine LW.nil ?_
        refine PQ.seq ?_
        refine CW.cond_f rfl ?_
        refine CW.seq ?_
        refine CW.region ?_
        refine LW.v rfl rfl (Val.move rfl) ?_
        refine LW.v rfl rfl (Val.not rfl) ?_
        refine LW.v rfl rfl (Val.move rfl) ?_
        refine LW.p rfl rfl ?_
        refine LW.p rfl rfl ?_
        refine LW.v rfl rfl (Val.pick_f rfl rfl) ?_
        refine LW.v rfl rfl (Val.move rfl) ?_
        refine LW.p rfl rfl ?_
        refine LW.p rfl rfl ?_
        refine LW.p rfl rfl ?_
        refine LW.p rfl rfl ?_
        refine LW.v rfl rfl (Val.pick_f rfl rfl) ?_
        refine LW.nil ?_
        refine PQ.seq ?_
        refine CW.cond_f rfl ?_
        refine CW.skip ?_
        refine PQ.seq ?_
        refine CW.region ?_
        refine LW.v rfl rfl (Val.fieldAddr 0 rfl Try.underlying25 rfl rfl Try.sizeOf22) ?_
        refine LW.v rfl rfl (Val.load rfl Try.isAgg22 (by repeat (first | exact .here | exact .inner .here | exact .inner (.inner .here) | refine .there ?_)) (by rfl)) ?_
        first | (refine LW.v rfl rfl (Val.loadW rfl Try.isAgg45 (by repeat (first | exact .here | exact .inner .here | exact .inner (.inner .here) | refine .there ?_)) (by exact Try.sizeOf45)) ?_) | (refine LW.v rfl rfl (Val.loadA [_, _] rfl Try.isAgg45 (by repeat (first | exact .here | exact .inner .here | exact .inner (.inner .here) | refine .there ?_)) (by rfl) Try.sizeOf45) ?_)
        refine LW.e rfl rfl (Eff.buildSlice (rfl) [_, _] Try.underlying22 Try.sizeOf45 (by exact Try.zeroValue45) rfl rfl rfl rfl (by rfl)) ?_
        intro b71 _
        refine LW.e rfl rfl (Eff.appendAny (prC x) (sz := 2) (bytes := 32) (z := .agg #[.string ⟨#[]⟩, .string ⟨#[]⟩]) (xs := k.2.1.flatMap prC) (m0 := k.2.1.length) (o := k.2.2.1) (m := 1) (pk := [ownG 45 (k.2.1.flatMap prC) k.2.2.1]) rfl rfl Try.underlying22 (by kernel_rfl) rfl (by omega) (by repeat (first | exact .nil | apply Pick.cons | exact .here | apply Ext.there)) (by simp) hk2 (by rfl) (fun hm0 => ⟨b71, 0, rfl, fun w hw => V.range_of_block (o := 0) (cs := prC x) (r := []) (hw.own _ (show InS (b71, .cells (prC x).toArray 45 (0, 0)) _ from (by repeat (first | exact .here | exact .inner .here | exact .inner (.inner .here) | refine .there ?_))).mem) rfl⟩) (by rfl) (by first | omega | (simp only [List.length_append, List.length_cons, List.length_nil]; omega)) (by first | omega | (simp only [List.length_append, List.length_cons, List.length_nil]; omega))) ?_
        intro o72 ho72
        have h72 : ownOk 2 (k.2.1 ++ [x]).length ((k.2.1 ++ [x]).flatMap prC) o72 := by simpa using ho72
        rw [show k.2.1.flatMap prC ++ prC x = (k.2.1 ++ [x]).flatMap prC from by simp, show k.2.1.length + 1 = (k.2.1 ++ [x]).length from by simp]
        refine LW.v rfl rfl (Val.fieldAddr 0 rfl Try.underlying25 rfl rfl Try.sizeOf22) ?_
        refine LW.eN rfl (Eff.store rfl rfl (V.ownV_one _ _) (by repeat (first | exact .here | exact .inner .here | exact .inner (.inner .here) | apply Upd.there)) (by rfl) (by rfl) Try.sizeOf22) ?_
        intro _ _
        refine LW.nil ?_
        refine PQ.in_normal ?_
        refine PQ.seq ?_
        refine CW.region ?_
        refine LW.v rfl rfl (Val.move rfl) ?_
        refine LW.v rfl rfl (Val.ar rfl rfl rfl (IntWalk.i64_in _ (by omega))) ?_
        refine LW.v rfl rfl (Val.assign rfl) ?_
        refine LW.nil ?_
        refine PQ.round ((k.1 + 1, k.2.1 ++ [x], o72, k.2.2.2)) ⟨by simp only; omega, h72, by simp only [List.length_append, List.length_cons, List.length_nil]; omega, (fun h => by rw [← hk4 h, drop_at hx1]; simp), (fun h => ⟨by rw [← (hk5 h).1, repF_at hx1, if_neg (hno h)]; simp, by rw [← getF_no hx1 (hnk h)]; exact (hk5 h).2⟩)⟩ (by simp only; omega) (by repeat (first | exact trivial | refine ⟨rfl, ?_⟩)) (by repeat (first | exact .nil | apply Pick.cons | exact .here | apply Ext.there))
    · replace h27 := bF h27
      have hk8 : l.length ≤ k.1 := by omega
      refine CW.exit ?_
      refine PQ.then_exit ?_
      refine PQ.then_exit ?_
      refine PQ.in_here ?_
      refine PQ.seq ?_
      refine CW.seq ?_
      refine CW.seq ?_
      refine CW.region ?_
      refine LW.v rfl rfl (Val.move rfl) ?_
      refine LW.v rfl rfl (Val.not rfl) ?_
      refine LW.nil ?_
      refine PQ.seq ?_
      refine CW.cond rfl (fun h75 => ?_) (fun h75 => ?_)
      · exact absurd (hk5 (bT h75)).2 (by rw [List.drop_eq_nil_iff.2 hk8]; simp [getF])
      · replace h75 := bF h75
        have h75 : k.2.2.2 = true := by simpa using h75
        refine CW.skip ?_
        refine PQ.seq ?_
        refine CW.seq ?_
        refine CW.region ?_
        first | (refine LW.v rfl rfl (Val.loadW rfl Try.isAgg25 (by repeat (first | exact .here | exact .inner .here | exact .inner (.inner .here) | refine .there ?_)) (by exact Try.sizeOf25)) ?_) | (refine LW.v rfl rfl (Val.loadA [_, _] rfl Try.isAgg25 (by repeat (first | exact .here | exact .inner .here | exact .inner (.inner .here) | refine .there ?_)) (by rfl) Try.sizeOf25) ?_)
        first | (refine LW.eN rfl (Eff.storeW (cs := [ownV k.2.1.length k.2.2.1, ownV q.length yq]) rfl rfl (by repeat (first | exact .here | exact .inner .here | exact .inner (.inner .here) | apply Upd.there)) (by rfl) Try.sizeOf25 (by simp [V.ownV_one])) ?_) | (refine LW.eN rfl (Eff.storeW (cs := [ownV (k.2.1 ++ [(Pr.mk ky v)]).length o82, ownV q.length yq]) rfl rfl (by repeat (first | exact .here | exact .inner .here | exact .inner (.inner .here) | apply Upd.there)) (by rfl) Try.sizeOf25 (by simp [V.ownV_one])) ?_)
        intro _ _
        refine LW.nil ?_
        refine PQ.seq ?_
        refine CW.ret ?_
        refine V.PQ.retC rfl rfl (by repeat (first | exact .here | exact .inner .here | exact .inner (.inner .here) | refine .there ?_)) Try.isAgg25 (by exact Try.sizeOf25) ?_
        have hd : l.drop k.1 = [] := List.drop_eq_nil_iff.2 (by omega)
        have hte : k.2.1 = putF l ky v := by rw [← hk4 h75, hd, List.append_nil]
        rw [hte] at hk2 ⊢
        intro w' hw
        exact ⟨(k.2.2.1, yq), ⟨hk2, hyq⟩, rfl, hw.pick (by repeat (first | exact .nil | apply Pick.cons | exact .here | apply Ext.there))⟩
end Go.Proofs.Ytipnpnkniihdjaa
