/- The document's store: what waits, pushed. -/
import Derived.Test.YtipnpnkniihdjaaTwL
import Derived.Lib.Hide
namespace Go.Proofs.Ytipnpnkniihdjaa
open Go Go.RowKit V
set_option linter.unusedVariables false
set_option maxRecDepth 100000
open V (str byC ownV ownG ownS ownOk)
theorem rpush_c (s : Sf) (A : ShA) (v : List UInt8) (w : World) (hA : SfR w s A) (hl : A.1.length ≤ 1000 ∧ A.2.length ≤ 1000) : Calls Try.prog 50 [.agg s.cells.toArray, str v].toArray w fun e w' => ∃ y : V.OwnO × V.OwnO, OwSh (A.1, A.2 ++ [v]) y ∧ e = .returned (.agg (owC (A.1, A.2 ++ [v]) y).toArray) ∧ Hp ⟨w, []⟩ [ownG 45 (A.1.flatMap prC) y.1, ownG 9 ((A.2 ++ [v]).flatMap stE) y.2] w' := by
  obtain ⟨⟨pa, pn, pc⟩, ⟨qa, qn, qc⟩⟩ := s
  obtain ⟨l, q⟩ := A
  obtain ⟨⟨hn1, h1⟩, ⟨hn2, h2⟩, hcp, hcq⟩ := hA
  simp only at hn1 h1 hn2 h2 hcp hcq hl ⊢
  subst hn1; subst hn2
  refine V.calls [] Try.func50 rfl Try.ntmps50 (Nat.le_of_ble_eq_true rfl) (V.sat_nil _) ?_
  refine CW.seq ?_
  refine CW.region ?_
  refine LW.e rfl rfl (Eff.boxA rfl) ?_
  intro b2 _
  refine LW.e rfl rfl (Eff.allocA (by exact Try.zeroValue25)) ?_
  intro b4 _
  refine LW.nil ?_
  refine PQ.seq ?_
  refine CW.seq ?_
  refine CW.regJoin (fun y : V.OwnO × V.OwnO => OwSh (l, (q ++ [v])) y) (fun _ => [(4, .pointer (some ⟨b4, 0, none⟩))]) (fun y => [[(b4, .cells (owC (l, (q ++ [v])) y).toArray 25 (0, 0))], ownG 45 (l.flatMap prC) y.1, ownG 9 ((q ++ [v]).flatMap stE) y.2]) ?_ ?_
  · refine CW.drawn ([[(b2, .cells [.slice pa l.length pc, .slice qa q.length qc].toArray 25 (0, 0))]]) mixed (by repeat (first | exact .nil | apply Pick.cons | exact .here | apply Ext.there)) ?_
    refine RW.v 0 rfl (by kernel_rfl) (by kernel_rfl) (by kernel_rfl) (fun _ _ _ h => h) rfl rfl (Val.fieldAddr 0 rfl Try.underlying25 rfl rfl Try.sizeOf22) ?_
    refine RW.v 1 rfl (by kernel_rfl) (by kernel_rfl) (by kernel_rfl) (fun _ _ _ h => h) rfl rfl (Val.load rfl Try.isAgg22 (by repeat (first | exact .here | exact .inner .here | exact .inner (.inner .here) | refine .there ?_)) (by rfl)) ?_
    refine RW.v 3 rfl (by kernel_rfl) (by kernel_rfl) (by kernel_rfl) (fun _ _ _ h => h) rfl rfl (Val.fieldAddr 1 rfl Try.underlying25 rfl rfl Try.sizeOf23) ?_
    refine RW.v 4 rfl (by kernel_rfl) (by kernel_rfl) (by kernel_rfl) (fun _ _ _ h => h) rfl rfl (Val.load rfl Try.isAgg23 (by repeat (first | exact .here | exact .inner .here | exact .inner (.inner .here) | refine .there ?_)) (by rfl)) ?_
    refine RW.v 6 rfl (by kernel_rfl) (by kernel_rfl) (by kernel_rfl) (fun _ _ _ h => h) rfl rfl (Val.move rfl) ?_
    refine RW.any [2, 7] (by kernel_rfl) (by simp) ?_
    intro i hi
    simp only [List.mem_cons, List.not_mem_nil, or_false] at hi
    rcases hi with rfl | rfl
    · refine RO.e rfl rfl rfl (Eff.appendAny (l.flatMap prC) (sz := 2) (bytes := 32) (z := .agg #[.string ⟨#[]⟩, .string ⟨#[]⟩]) (xs := []) (m0 := 0) (o := none) (m := l.length) (pk := []) rfl rfl Try.underlying22 (by kernel_rfl) rfl (by omega) .nil rfl ⟨rfl, rfl⟩ (V.flatMap_len prC_len _) (fun hm0 => by obtain ⟨b8, o8, h8, h9⟩ := sl_range prC_len h1 hm0; exact ⟨b8, o8, h8, fun w hw => h9 w hw⟩) (all_one prC_one _) (by omega) (by omega)) (fun x => ⟨_, (by repeat (first | exact .nil | apply Pick.cons | exact .here | apply Ext.there))⟩) ?_
      intro yp hyp0
      have hyp : ownOk 2 l.length (l.flatMap prC) yp := by simpa using hyp0
      rw [List.nil_append, Nat.zero_add]
      refine RW.any [5, 7] (by kernel_rfl) (by simp) ?_
      intro i hi
      simp only [List.mem_cons, List.not_mem_nil, or_false] at hi
      rcases hi with rfl | rfl
      · refine RO.e rfl rfl rfl (Eff.appendAny (q.flatMap stE) (sz := 1) (bytes := 16) (z := .string ⟨#[]⟩) (xs := []) (m0 := 0) (o := none) (m := q.length) (pk := []) rfl rfl Try.underlying23 (by kernel_rfl) rfl (by omega) .nil rfl ⟨rfl, rfl⟩ (V.flatMap_len stE_len _) (fun hm0 => by obtain ⟨b8, o8, h8, h9⟩ := sl_range stE_len h2 hm0; exact ⟨b8, o8, h8, fun w hw => h9 w hw⟩) (all_one stE_one _) (by omega) (by omega)) (fun x => ⟨_, (by repeat (first | exact .nil | apply Pick.cons | exact .here | apply Ext.there))⟩) ?_
        intro yq hyq0
        have hyq : ownOk 1 q.length (q.flatMap stE) yq := by simpa using hyq0
        rw [List.nil_append, Nat.zero_add]
        refine RW.e 7 rfl (by kernel_rfl) rfl rfl (Eff.buildSlice (rfl) [_] Try.underlying23 Try.sizeOf9 (by exact Try.zeroValue9) rfl rfl rfl rfl (by rfl)) (fun x => ⟨_, (by repeat (first | exact .nil | apply Pick.cons | exact .here | apply Ext.there))⟩) ?_
        intro b12 _
        refine RW.e 8 rfl (by kernel_rfl) rfl rfl (Eff.appendAny (stE v) (sz := 1) (bytes := 16) (z := .string ⟨#[]⟩) (xs := q.flatMap stE) (m0 := q.length) (o := yq) (m := 1) (pk := [ownG 9 (q.flatMap stE) yq]) rfl rfl Try.underlying23 (by kernel_rfl) rfl (by omega) (by repeat (first | exact .nil | apply Pick.cons | exact .here | apply Ext.there)) (by simp) hyq (by rfl) (fun hm0 => ⟨b12, 0, rfl, fun w hw => V.range_of_block (o := 0) (cs := stE v) (r := []) (hw.own _ (show InS (b12, .cells (stE v).toArray 9 (0, 0)) _ from (by repeat (first | exact .here | exact .inner .here | exact .inner (.inner .here) | refine .there ?_))).mem) rfl⟩) (by rfl) (by omega) (by omega)) (fun x => ⟨_, (by repeat (first | exact .nil | apply Pick.cons | exact .here | apply Ext.there))⟩) ?_
        intro o9 ho90
        have ho9 : ownOk 1 (q ++ [v]).length ((q ++ [v]).flatMap stE) o9 := by simpa using ho90
        rw [show q.flatMap stE ++ stE v = (q ++ [v]).flatMap stE from by simp, show q.length + 1 = (q ++ [v]).length from by simp]
        refine RW.v 9 rfl (by kernel_rfl) (by kernel_rfl) (by kernel_rfl) (fun _ _ _ h => h) rfl rfl (Val.build [ownV l.length yp, ownV (q ++ [v]).length o9] Try.zeroValue25 Try.underlying25 places25 rfl (by rcases yp with _ | ⟨_, _, _⟩ <;> rcases o9 with _ | ⟨_, _, _⟩ <;> rfl)) ?_
        refine RW.eN 10 rfl (by kernel_rfl) rfl (Eff.storeW (cs := owC (l, (q ++ [v])) (yp, o9)) rfl rfl (by repeat (first | exact .here | exact .inner .here | exact .inner (.inner .here) | apply Upd.there)) (by rfl) Try.sizeOf25 (by simp [owC, V.ownV_one])) (fun x => ⟨_, (by repeat (first | exact .nil | apply Pick.cons | exact .here | apply Ext.there))⟩) ?_
        intro _ _
        refine RW.done (by kernel_rfl) ?_
        refine PQ.joined ((yp, o9)) (⟨hyp, ho9⟩) (by repeat (first | exact trivial | refine ⟨rfl, ?_⟩)) (by repeat (first | exact .nil | apply Pick.cons | exact .here | apply Ext.there))
      · refine RO.e rfl rfl rfl (Eff.buildSlice (rfl) [_] Try.underlying23 Try.sizeOf9 (by exact Try.zeroValue9) rfl rfl rfl rfl (by rfl)) (fun x => ⟨_, (by repeat (first | exact .nil | apply Pick.cons | exact .here | apply Ext.there))⟩) ?_
        intro b12 _
        refine RW.e 5 rfl (by kernel_rfl) rfl rfl (Eff.appendAny (q.flatMap stE) (sz := 1) (bytes := 16) (z := .string ⟨#[]⟩) (xs := []) (m0 := 0) (o := none) (m := q.length) (pk := []) rfl rfl Try.underlying23 (by kernel_rfl) rfl (by omega) .nil rfl ⟨rfl, rfl⟩ (V.flatMap_len stE_len _) (fun hm0 => by obtain ⟨b8, o8, h8, h9⟩ := sl_range stE_len h2 hm0; exact ⟨b8, o8, h8, fun w hw => h9 w hw⟩) (all_one stE_one _) (by omega) (by omega)) (fun x => ⟨_, (by repeat (first | exact .nil | apply Pick.cons | exact .here | apply Ext.there))⟩) ?_
        intro yq hyq0
        have hyq : ownOk 1 q.length (q.flatMap stE) yq := by simpa using hyq0
        rw [List.nil_append, Nat.zero_add]
        refine RW.e 8 rfl (by kernel_rfl) rfl rfl (Eff.appendAny (stE v) (sz := 1) (bytes := 16) (z := .string ⟨#[]⟩) (xs := q.flatMap stE) (m0 := q.length) (o := yq) (m := 1) (pk := [ownG 9 (q.flatMap stE) yq]) rfl rfl Try.underlying23 (by kernel_rfl) rfl (by omega) (by repeat (first | exact .nil | apply Pick.cons | exact .here | apply Ext.there)) (by simp) hyq (by rfl) (fun hm0 => ⟨b12, 0, rfl, fun w hw => V.range_of_block (o := 0) (cs := stE v) (r := []) (hw.own _ (show InS (b12, .cells (stE v).toArray 9 (0, 0)) _ from (by repeat (first | exact .here | exact .inner .here | exact .inner (.inner .here) | refine .there ?_))).mem) rfl⟩) (by rfl) (by omega) (by omega)) (fun x => ⟨_, (by repeat (first | exact .nil | apply Pick.cons | exact .here | apply Ext.there))⟩) ?_
        intro o9 ho90
        have ho9 : ownOk 1 (q ++ [v]).length ((q ++ [v]).flatMap stE) o9 := by simpa using ho90
        rw [show q.flatMap stE ++ stE v = (q ++ [v]).flatMap stE from by simp, show q.length + 1 = (q ++ [v]).length from by simp]
        refine RW.v 9 rfl (by kernel_rfl) (by kernel_rfl) (by kernel_rfl) (fun _ _ _ h => h) rfl rfl (Val.build [ownV l.length yp, ownV (q ++ [v]).length o9] Try.zeroValue25 Try.underlying25 places25 rfl (by rcases yp with _ | ⟨_, _, _⟩ <;> rcases o9 with _ | ⟨_, _, _⟩ <;> rfl)) ?_
        refine RW.eN 10 rfl (by kernel_rfl) rfl (Eff.storeW (cs := owC (l, (q ++ [v])) (yp, o9)) rfl rfl (by repeat (first | exact .here | exact .inner .here | exact .inner (.inner .here) | apply Upd.there)) (by rfl) Try.sizeOf25 (by simp [owC, V.ownV_one])) (fun x => ⟨_, (by repeat (first | exact .nil | apply Pick.cons | exact .here | apply Ext.there))⟩) ?_
        intro _ _
        refine RW.done (by kernel_rfl) ?_
        refine PQ.joined ((yp, o9)) (⟨hyp, ho9⟩) (by repeat (first | exact trivial | refine ⟨rfl, ?_⟩)) (by repeat (first | exact .nil | apply Pick.cons | exact .here | apply Ext.there))
    · refine RO.e rfl rfl rfl (Eff.buildSlice (rfl) [_] Try.underlying23 Try.sizeOf9 (by exact Try.zeroValue9) rfl rfl rfl rfl (by rfl)) (fun x => ⟨_, (by repeat (first | exact .nil | apply Pick.cons | exact .here | apply Ext.there))⟩) ?_
      intro b12 _
      refine RW.e 2 rfl (by kernel_rfl) rfl rfl (Eff.appendAny (l.flatMap prC) (sz := 2) (bytes := 32) (z := .agg #[.string ⟨#[]⟩, .string ⟨#[]⟩]) (xs := []) (m0 := 0) (o := none) (m := l.length) (pk := []) rfl rfl Try.underlying22 (by kernel_rfl) rfl (by omega) .nil rfl ⟨rfl, rfl⟩ (V.flatMap_len prC_len _) (fun hm0 => by obtain ⟨b8, o8, h8, h9⟩ := sl_range prC_len h1 hm0; exact ⟨b8, o8, h8, fun w hw => h9 w hw⟩) (all_one prC_one _) (by omega) (by omega)) (fun x => ⟨_, (by repeat (first | exact .nil | apply Pick.cons | exact .here | apply Ext.there))⟩) ?_
      intro yp hyp0
      have hyp : ownOk 2 l.length (l.flatMap prC) yp := by simpa using hyp0
      rw [List.nil_append, Nat.zero_add]
      refine RW.e 5 rfl (by kernel_rfl) rfl rfl (Eff.appendAny (q.flatMap stE) (sz := 1) (bytes := 16) (z := .string ⟨#[]⟩) (xs := []) (m0 := 0) (o := none) (m := q.length) (pk := []) rfl rfl Try.underlying23 (by kernel_rfl) rfl (by omega) .nil rfl ⟨rfl, rfl⟩ (V.flatMap_len stE_len _) (fun hm0 => by obtain ⟨b8, o8, h8, h9⟩ := sl_range stE_len h2 hm0; exact ⟨b8, o8, h8, fun w hw => h9 w hw⟩) (all_one stE_one _) (by omega) (by omega)) (fun x => ⟨_, (by repeat (first | exact .nil | apply Pick.cons | exact .here | apply Ext.there))⟩) ?_
      intro yq hyq0
      have hyq : ownOk 1 q.length (q.flatMap stE) yq := by simpa using hyq0
      rw [List.nil_append, Nat.zero_add]
      refine RW.e 8 rfl (by kernel_rfl) rfl rfl (Eff.appendAny (stE v) (sz := 1) (bytes := 16) (z := .string ⟨#[]⟩) (xs := q.flatMap stE) (m0 := q.length) (o := yq) (m := 1) (pk := [ownG 9 (q.flatMap stE) yq]) rfl rfl Try.underlying23 (by kernel_rfl) rfl (by omega) (by repeat (first | exact .nil | apply Pick.cons | exact .here | apply Ext.there)) (by simp) hyq (by rfl) (fun hm0 => ⟨b12, 0, rfl, fun w hw => V.range_of_block (o := 0) (cs := stE v) (r := []) (hw.own _ (show InS (b12, .cells (stE v).toArray 9 (0, 0)) _ from (by repeat (first | exact .here | exact .inner .here | exact .inner (.inner .here) | refine .there ?_))).mem) rfl⟩) (by rfl) (by omega) (by omega)) (fun x => ⟨_, (by repeat (first | exact .nil | apply Pick.cons | exact .here | apply Ext.there))⟩) ?_
      intro o9 ho90
      have ho9 : ownOk 1 (q ++ [v]).length ((q ++ [v]).flatMap stE) o9 := by simpa using ho90
      rw [show q.flatMap stE ++ stE v = (q ++ [v]).flatMap stE from by simp, show q.length + 1 = (q ++ [v]).length from by simp]
      refine RW.v 9 rfl (by kernel_rfl) (by kernel_rfl) (by kernel_rfl) (fun _ _ _ h => h) rfl rfl (Val.build [ownV l.length yp, ownV (q ++ [v]).length o9] Try.zeroValue25 Try.underlying25 places25 rfl (by rcases yp with _ | ⟨_, _, _⟩ <;> rcases o9 with _ | ⟨_, _, _⟩ <;> rfl)) ?_
      refine RW.eN 10 rfl (by kernel_rfl) rfl (Eff.storeW (cs := owC (l, (q ++ [v])) (yp, o9)) rfl rfl (by repeat (first | exact .here | exact .inner .here | exact .inner (.inner .here) | apply Upd.there)) (by rfl) Try.sizeOf25 (by simp [owC, V.ownV_one])) (fun x => ⟨_, (by repeat (first | exact .nil | apply Pick.cons | exact .here | apply Ext.there))⟩) ?_
      intro _ _
      refine RW.done (by kernel_rfl) ?_
      refine PQ.joined ((yp, o9)) (⟨hyp, ho9⟩) (by repeat (first | exact trivial | refine ⟨rfl, ?_⟩)) (by repeat (first | exact .nil | apply Pick.cons | exact .here | apply Ext.there))
  · rintro ⟨yp, o9⟩ ⟨hyp, ho9⟩
    refine PQ.seq ?_
    refine CW.ret ?_
    refine V.PQ.retC rfl rfl (by repeat (first | exact .here | exact .inner .here | exact .inner (.inner .here) | refine .there ?_)) Try.isAgg25 (by exact Try.sizeOf25) ?_
    intro w' hw; exact ⟨(yp, o9), ⟨hyp, ho9⟩, rfl, hw.pick (by repeat (first | exact .nil | apply Pick.cons | exact .here | apply Ext.there))⟩
theorem rpop_c (s : Sf) (A : ShA) (w : World) (hA : SfR w s A) (hl : A.1.length ≤ 1000 ∧ A.2.length ≤ 1000) : Calls Try.prog 51 [.agg s.cells.toArray].toArray w fun e w' => ∃ y : V.OwnO × V.OwnO, OwSh (A.1, A.2.drop 1) y ∧ e = .returned (.agg (owC (A.1, A.2.drop 1) y).toArray) ∧ Hp ⟨w, []⟩ [ownG 45 (A.1.flatMap prC) y.1, ownG 9 ((A.2.drop 1).flatMap stE) y.2] w' := by
  obtain ⟨⟨pa, pn, pc⟩, ⟨qa, qn, qc⟩⟩ := s
  obtain ⟨l, q⟩ := A
  obtain ⟨⟨hn1, h1⟩, ⟨hn2, h2⟩, hcp, hcq⟩ := hA
  simp only at hn1 h1 hn2 h2 hcp hcq hl ⊢
  subst hn1; subst hn2
  refine V.calls [] Try.func51 rfl Try.ntmps51 (Nat.le_of_ble_eq_true rfl) (V.sat_nil _) ?_
  refine CW.seq ?_
  refine CW.region ?_
  refine LW.e rfl rfl (Eff.boxA rfl) ?_
  intro b1 _
  refine LW.e rfl rfl (Eff.allocA (by exact Try.zeroValue25)) ?_
  intro b2 _
  refine LW.nil ?_
  refine PQ.seq ?_
  refine CW.seq ?_
  refine CW.region ?_
  refine LW.v rfl rfl (Val.fieldAddr 0 rfl Try.underlying25 rfl rfl Try.sizeOf22) ?_
  refine LW.v rfl rfl (Val.load rfl Try.isAgg22 (by repeat (first | exact .here | exact .inner .here | exact .inner (.inner .here) | refine .there ?_)) (by rfl)) ?_
  refine LW.e rfl rfl (Eff.appendAny (l.flatMap prC) (sz := 2) (bytes := 32) (z := .agg #[.string ⟨#[]⟩, .string ⟨#[]⟩]) (xs := []) (m0 := 0) (o := none) (m := l.length) (pk := []) rfl rfl Try.underlying22 (by kernel_rfl) rfl (by omega) .nil rfl ⟨rfl, rfl⟩ (V.flatMap_len prC_len _) (fun hm0 => by obtain ⟨b8, o8, h8, h9⟩ := sl_range prC_len h1 hm0; exact ⟨b8, o8, h8, fun w hw => h9 w hw⟩) (all_one prC_one _) (by omega) (by omega)) ?_
  intro yp hyp0
  have hyp : ownOk 2 l.length (l.flatMap prC) yp := by simpa using hyp0
  rw [List.nil_append, Nat.zero_add]
  refine LW.v rfl rfl (Val.build [ownV l.length yp, .slice none 0 0] Try.zeroValue25 Try.underlying25 places25 rfl (by rcases yp with _ | ⟨_, _, _⟩ <;> rfl)) ?_
  refine LW.e rfl rfl (Eff.allocA (by exact Try.zeroValue25)) ?_
  intro b3 _
  refine LW.eN rfl (Eff.storeW (cs := [ownV l.length yp, .slice none 0 0]) rfl rfl (by repeat (first | exact .here | exact .inner .here | exact .inner (.inner .here) | apply Upd.there)) (by rfl) Try.sizeOf25 (by simp [V.ownV_one]; rfl)) ?_
  intro _ _
  refine LW.nil ?_
  refine PQ.seq ?_
  refine CW.seq ?_
  refine CW.seq ?_
  refine CW.region ?_
  refine LW.v rfl rfl (Val.fieldAddr 1 rfl Try.underlying25 rfl rfl Try.sizeOf23) ?_
  refine LW.v rfl rfl (Val.load rfl Try.isAgg23 (by repeat (first | exact .here | exact .inner .here | exact .inner (.inner .here) | refine .there ?_)) (by rfl)) ?_
  refine LW.v rfl rfl (Val.lenSl rfl Try.underlying23) ?_
  refine LW.v rfl rfl (Val.cmp rfl rfl rfl) ?_
  refine LW.nil ?_
  refine PQ.seq ?_
  refine CW.cond rfl (fun h11 => ?_) (fun h11 => ?_)
  · replace h11 := bT h11
    have h11 : (0 : Int) < (q.length : Int) := h11
    have hqd : (q.drop 1).length = q.length - 1 := by rw [List.length_drop]
    refine CW.region ?_
    refine LW.v rfl rfl (Val.fieldAddr 1 rfl Try.underlying25 rfl rfl Try.sizeOf23) ?_
    refine LW.v rfl rfl (Val.load rfl Try.isAgg23 (by repeat (first | exact .here | exact .inner .here | exact .inner (.inner .here) | refine .there ?_)) (by rfl)) ?_
    refine LW.v rfl rfl (Val.sliceG 1 q.length qc rfl Try.underlying23 Try.sizeOf9 ⟨_, rfl⟩ rfl rfl (fun _ => rfl) (by omega) hcq (Nat.le_refl _)) ?_
    refine LW.re 14 (.slice (if qc = 1 then qa else qa.map (·.add (1 * 1))) (q.drop 1).length (qc - 1)) rfl (by rw [List.length_drop]) ?_
    refine LW.e rfl rfl (Eff.appendAny ((q.drop 1).flatMap stE) (sz := 1) (bytes := 16) (z := .string ⟨#[]⟩) (xs := []) (m0 := 0) (o := none) (m := (q.drop 1).length) (pk := []) rfl rfl Try.underlying23 (by kernel_rfl) rfl (by omega) .nil rfl ⟨rfl, rfl⟩ (V.flatMap_len stE_len _) (fun hm0 => by obtain ⟨b8, o8, h8, h9⟩ := sl_range stE_len (V.slAt_drop (c := qc) (k := 1) h2 (by omega) hcq) hm0; exact ⟨b8, o8, h8, fun w hw => h9 w hw⟩) (all_one stE_one _) (by omega) (by omega)) ?_
    intro yq hyq0
    have hyq : ownOk 1 (q.drop 1).length ((q.drop 1).flatMap stE) yq := by simpa using hyq0
    rw [List.nil_append, Nat.zero_add]
    refine LW.v rfl rfl (Val.fieldAddr 1 rfl Try.underlying25 rfl rfl Try.sizeOf23) ?_
    refine LW.eN rfl (Eff.store rfl rfl (V.ownV_one _ _) (by repeat (first | exact .here | exact .inner .here | exact .inner (.inner .here) | apply Upd.there)) (by rfl) (by rfl) Try.sizeOf23) ?_
    intro _ _
    refine LW.nil ?_
    refine PQ.seq ?_
    refine CW.seq ?_
    refine CW.region ?_
    first | (refine LW.v rfl rfl (Val.loadW rfl Try.isAgg25 (by repeat (first | exact .here | exact .inner .here | exact .inner (.inner .here) | refine .there ?_)) (by exact Try.sizeOf25)) ?_) | (refine LW.v rfl rfl (Val.loadA [_, _] rfl Try.isAgg25 (by repeat (first | exact .here | exact .inner .here | exact .inner (.inner .here) | refine .there ?_)) (by rfl) Try.sizeOf25) ?_)
    first | (refine LW.eN rfl (Eff.storeW (cs := owC (l, (q.drop 1)) (yp, yq)) rfl rfl (by repeat (first | exact .here | exact .inner .here | exact .inner (.inner .here) | apply Upd.there)) (by rfl) Try.sizeOf25 (by simp [owC, V.ownV_one])) ?_) | (refine LW.eN rfl (Eff.storeW (cs := [ownV l.length yp, .slice none 0 0]) rfl rfl (by repeat (first | exact .here | exact .inner .here | exact .inner (.inner .here) | apply Upd.there)) (by rfl) Try.sizeOf25 (by simp [V.ownV_one]; rfl)) ?_)
    intro _ _
    refine LW.nil ?_
    refine PQ.seq ?_
    refine CW.ret ?_
    refine V.PQ.retC rfl rfl (by repeat (first | exact .here | exact .inner .here | exact .inner (.inner .here) | refine .there ?_)) Try.isAgg25 (by exact Try.sizeOf25) ?_
    intro w' hw; exact ⟨(yp, yq), ⟨hyp, hyq⟩, rfl, hw.pick (by repeat (first | exact .nil | apply Pick.cons | exact .here | apply Ext.there))⟩
  · replace h11 := bF h11
    have h11 : (q.length : Int) ≤ 0 := h11
    refine CW.skip ?_
    refine PQ.seq ?_
    refine CW.seq ?_
    refine CW.region ?_
    first | (refine LW.v rfl rfl (Val.loadW rfl Try.isAgg25 (by repeat (first | exact .here | exact .inner .here | exact .inner (.inner .here) | refine .there ?_)) (by exact Try.sizeOf25)) ?_) | (refine LW.v rfl rfl (Val.loadA [_, _] rfl Try.isAgg25 (by repeat (first | exact .here | exact .inner .here | exact .inner (.inner .here) | refine .there ?_)) (by rfl) Try.sizeOf25) ?_)
    first | (refine LW.eN rfl (Eff.storeW (cs := owC (l, (q.drop 1)) (yp, yq)) rfl rfl (by repeat (first | exact .here | exact .inner .here | exact .inner (.inner .here) | apply Upd.there)) (by rfl) Try.sizeOf25 (by simp [owC, V.ownV_one])) ?_) | (refine LW.eN rfl (Eff.storeW (cs := [ownV l.length yp, .slice none 0 0]) rfl rfl (by repeat (first | exact .here | exact .inner .here | exact .inner (.inner .here) | apply Upd.there)) (by rfl) Try.sizeOf25 (by simp [V.ownV_one]; rfl)) ?_)
    intro _ _
    refine LW.nil ?_
    refine PQ.seq ?_
    refine CW.ret ?_
    refine V.PQ.retC rfl rfl (by repeat (first | exact .here | exact .inner .here | exact .inner (.inner .here) | refine .there ?_)) Try.isAgg25 (by exact Try.sizeOf25) ?_
    have hq0 : q = [] := List.length_eq_zero_iff.1 (by omega)
    subst hq0
    intro w' hw; exact ⟨(yp, none), ⟨hyp, ⟨rfl, rfl⟩⟩, rfl, (hw.pick (ss := [ownG 45 (l.flatMap prC) yp]) (by repeat (first | exact .nil | apply Pick.cons | exact .here | apply Ext.there))).perm (by simp [V.ownG, V.ownS])⟩
end Go.Proofs.Ytipnpnkniihdjaa
