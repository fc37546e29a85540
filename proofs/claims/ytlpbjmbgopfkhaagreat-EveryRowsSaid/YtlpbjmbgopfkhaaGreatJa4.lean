import Derived.Test.YtlpbjmbgopfkhaaGreatJa3
import Derived.Test.YtlpbjmbgopfkhaaGreatV27
import Derived.Lib.Hide
/- The document's store: a key's value, a key taken away, what waits pushed and popped, a key's value set. -/
namespace Go.Proofs.YtlpbjmbgopfkhaaGreat
open Go Go.RowKit V
set_option linter.unusedVariables false
set_option maxRecDepth 100000
namespace I
instance : V.Cal Tryz.prog 58 := ⟨Tryz.call58⟩
instance : V.Cal Tryz.prog 97 := ⟨Tryz.call97⟩
instance : V.Cal Tryz.prog 98 := ⟨Tryz.call98⟩
open V (str byC ownV ownG ownS ownOk)
theorem rget_c (s : Sf) (A : ShA) (k : List UInt8) (w : World) (hA : SfR w s A) (hl : A.1.length ≤ 1000 ∧ A.2.length ≤ 1000) : Calls Tryz.prog 58 [.agg s.cells.toArray, str k].toArray w fun e w' => e = .returned (.tuple #[str ((getF A.1 k).getD []), .bool (getF A.1 k).isSome]) ∧ Below w.heap.size w w' := by
  obtain ⟨⟨pa, pn, pc⟩, ⟨qa, qn, qc⟩⟩ := s
  obtain ⟨l, q⟩ := A
  obtain ⟨⟨hn1, h1⟩, ⟨hn2, h2⟩, hcp, hcq⟩ := hA
  simp only at hn1 h1 hn2 h2 hcp hcq hl ⊢
  subst hn1; subst hn2
  refine V.calls [] Tryz.func58 rfl Tryz.ntmps58 (Nat.le_of_ble_eq_true rfl) (V.sat_nil _) <| Sq <| Rg <| Le XA fun b2 _ => Lv Av <| Lv Av <| Nl <| Ps <| Sq <| Sq <| Rg <| Lv Av <| Nl <| Ps <| Bk <| loopA (γ := Nat) (fun j => [(1, str k), (2, .pointer (some ⟨b2, 0, none⟩)), (6, .int .i64 (j : Nat))]) (fun _ => [[(b2, .cells [.slice pa l.length pc, .slice qa q.length qc].toArray 34 (0, 0))]]) (fun j => j ≤ l.length ∧ getF l k = getF (l.drop j) k) (fun j => l.length - j) (0) ⟨Nat.zero_le _, by simp⟩ fun j => ?_
  rintro ⟨hj1, hj2⟩
  refine Sq <| Sq <| Rg <| Lv Mv <| Lv (Fa 0 31) <| Lv Ld <| Lv Ln <| Lv Cm <| Nl <| Ps ?_
  refine CW.cond rfl (fun h11 => ?_) (fun h11 => ?_)
  · replace h11 := bT h11
    obtain ⟨bb1, o1, x, rfl, hb1, hx1, hr1⟩ := V.slAt_at h1 rfl (k := j) (by omega)
    refine Sk <| Ps <| Sq <| Bk <| Sq <| Rg <| Lv (Fa 0 31) <| Lv Ld <| Lv Mv <| Lv Ix <| Lv (Fa 0 9) <| Lv (Val.loadO rfl Tryz.isAgg9 hb1 (by simp [ids]) (hr1 j x hx1 0 _ rfl)) <| Lv Mv <| Lv ES <| Nl <| Ps ?_
    refine CW.cond rfl (fun h21 => ?_) (fun h21 => ?_)
    · replace h21 := bT h21
      have h21 : x.key = k := h21
      refine Sq <| Rg <| Lv (Fa 0 31) <| Lv Ld <| Lv Mv <| Lv Ix <| Lv (Fa 1 9) <| Lv (Val.loadO rfl Tryz.isAgg9 hb1 (by simp [ids]) (hr1 j x hx1 1 _ rfl)) <| Lv Av <| Lv Av <| Nl <| Ps <| Rt <| Br <| Tr <| Tr <| Br <| Tr <| Rt2 ?_
      intro w' hw; exact ⟨by rw [hj2, getF_yes hx1 h21]; rfl, hw.below⟩
    · replace h21 := bF h21
      have h21 : x.key ≠ k := h21
      refine Sk <| Bn <| Ps <| Rg <| Lv Mv <| Lv Ar <| Lv Av <| Nl ?_
      exact roundA (j + 1) ⟨by omega, by rw [hj2, getF_no hx1 h21]⟩ (by omega)
  · replace h11 := bF h11
    refine Xt <| Te <| Te <| Bh <| Ps <| Sq <| Rg <| Lv Av <| Lv Av <| Nl <| Ps <| Rt <| Rt2 ?_
    intro w' hw; exact ⟨by rw [hj2, show l.drop j = [] from List.drop_eq_nil_iff.2 (by omega)]; rfl, hw.below⟩
theorem rdel_c (s : Sf) (A : ShA) (ky : List UInt8) (w : World) (hA : SfR w s A) (hl : A.1.length ≤ 1000 ∧ A.2.length ≤ 1000) : Calls Tryz.prog 60 [.agg s.cells.toArray, str ky].toArray w fun e w' => ∃ y : V.OwnO × V.OwnO, OwSh (delF A.1 ky, A.2) y ∧ e = .returned (.agg (owC (delF A.1 ky, A.2) y).toArray) ∧ Hp ⟨w, []⟩ [ownG 69 ((delF A.1 ky).flatMap prC) y.1, ownG 9 (A.2.flatMap stE) y.2] w' := by
  obtain ⟨⟨pa, pn, pc⟩, ⟨qa, qn, qc⟩⟩ := s
  obtain ⟨l, q⟩ := A
  obtain ⟨⟨hn1, h1⟩, ⟨hn2, h2⟩, hcp, hcq⟩ := hA
  simp only at hn1 h1 hn2 h2 hcp hcq hl ⊢
  subst hn1; subst hn2
  refine V.calls [] Tryz.func60 rfl Tryz.ntmps60 (Nat.le_of_ble_eq_true rfl) (V.sat_nil _) <| Sq <| Rg <| Le XA fun b2 _ => Le AA fun b4 _ => Nl <| Ps <| Sq <| Rg <| Lv (Fa 1 32) <| Lv Ld <| Le (Eff.appendAny (q.flatMap stE) (sz := 1) (bytes := 16) (z := .string ⟨#[]⟩) (xs := []) (m0 := 0) (o := none) (m := q.length) (pk := []) rfl rfl Tryz.underlying32 (by kernel_rfl) rfl (by omega) .nil rfl ⟨rfl, rfl⟩ (V.flatMap_len stE_len _) (fun hm0 => by obtain ⟨b8, o8, h8, h9⟩ := sl_range (F := []) stE_len h2 hm0 (by simp); exact ⟨b8, o8, h8, fun w hw => h9 w hw⟩) (all_one stE_one _) (by omega) (by omega)) fun yq hyq0 => ?_
  have hyq : ownOk 1 q.length (q.flatMap stE) yq := by simpa using hyq0
  rw [List.nil_append, Nat.zero_add]
  refine Lv (Val.build [.slice none 0 0, ownV q.length yq] Tryz.zeroValue34 Tryz.underlying34 places34 rfl (by rcases yq with _ | ⟨_, _, _⟩ <;> rfl)) <| Le AA fun b5 _ => LeN (StW (cs := [.slice none 0 0, ownV q.length yq]) (h1 := by simp [V.ownV_one]; rfl)) fun _ _ => Nl <| Ps <| Sq <| Sq <| Rg <| Lv Av <| Nl <| Ps <| Bk <| V.CW.addOwn 69 <| loopA (γ := Nat × V.OwnO) (fun k => [(1, str ky), (2, .pointer (some ⟨b2, 0, none⟩)), (4, .pointer (some ⟨b4, 0, none⟩)), (5, .pointer (some ⟨b5, 0, none⟩)), (6, .int .i64 (k.1 : Nat))]) (fun k => [[(b2, .cells [.slice pa l.length pc, .slice qa q.length qc].toArray 34 (0, 0))], [(b4, .cells [.slice none 0 0, .slice none 0 0].toArray 34 (0, 0))], [(b5, .cells [ownV (delF (l.take k.1) ky).length k.2, ownV q.length yq].toArray 34 (0, 0))], ownG 69 ((delF (l.take k.1) ky).flatMap prC) k.2, ownG 9 (q.flatMap stE) yq]) (fun k => k.1 ≤ l.length ∧ ownOk 2 (delF (l.take k.1) ky).length ((delF (l.take k.1) ky).flatMap prC) k.2) (fun k => l.length - k.1) ((0, none)) ⟨Nat.zero_le _, ⟨rfl, rfl⟩⟩ fun k => ?_
  rintro ⟨hk1, hk2⟩
  refine Sq <| Sq <| Rg <| Lv Mv <| Lv (Fa 0 31) <| Lv Ld <| Lv Ln <| Lv Cm <| Nl <| Ps ?_
  refine CW.cond rfl (fun h15 => ?_) (fun h15 => ?_)
  · replace h15 := bT h15
    obtain ⟨bb1, o1, x, rfl, hb1, hx1, hr1⟩ := V.slAt_at h1 rfl (k := k.1) (by omega)
    have hxs : (delF (l.take k.1) ky).length ≤ 1000 := Nat.le_trans (List.length_filter_le _ _) (by rw [List.length_take]; omega)
    refine Sk <| Ps <| Sq <| Bk <| Sq <| Rg <| Lv (Fa 0 31) <| Lv Ld <| Lv Mv <| Lv Ix <| Lv (Fa 0 9) <| Lv (Val.loadO rfl Tryz.isAgg9 hb1 (by simp [ids]) (hr1 k.1 x hx1 0 _ rfl)) <| Lv Mv <| Lv NS <| Nl <| Ps ?_
    refine CW.cond rfl (fun h25 => ?_) (fun h25 => ?_)
    · replace h25 := bT h25
      have h25 : x.key ≠ ky := h25
      refine CW.regJoin (fun o9 : V.OwnO => ownOk 2 ((delF (l.take k.1) ky).length + 1) ((delF (l.take k.1) ky).flatMap prC ++ prC x) o9) (fun _ => [(1, str ky), (2, .pointer (some ⟨b2, 0, none⟩)), (4, .pointer (some ⟨b4, 0, none⟩)), (5, .pointer (some ⟨b5, 0, none⟩)), (6, .int .i64 (k.1 : Nat))]) (fun o9 => [[(b2, .cells [.slice (some ⟨bb1, o1, none⟩) l.length pc, .slice qa q.length qc].toArray 34 (0, 0))], [(b4, .cells [.slice none 0 0, .slice none 0 0].toArray 34 (0, 0))], [(b5, .cells [ownV ((delF (l.take k.1) ky).length + 1) o9, ownV q.length yq].toArray 34 (0, 0))], ownG 69 ((delF (l.take k.1) ky).flatMap prC ++ prC x) o9, ownG 9 (q.flatMap stE) yq]) ?_ ?_
      · refine Dr ([[(b2, .cells _ 34 (0, 0))]]) ?_
        refine Rv 0 rfl (Fa 0 31) <| Rv 2 rfl (Fa 0 31) <| Rv 3 rfl Ld <| Rv 4 rfl Mv <| Rv 5 rfl Ix <| Rv 6 rfl (Val.loadOA rfl Tryz.isAgg69 hb1 (by simp [ids]) (hr1 k.1 x hx1) Tryz.sizeOf69) <| RW.any [1, 7] (by kernel_rfl) (by simp) fun i hi => ?_
        simp only [List.mem_cons, List.not_mem_nil, or_false] at hi
        rcases hi with rfl | rfl
        · refine Ro rfl (Eff.ofVal (Val.load (v := ownV (delF (l.take k.1) ky).length k.2) rfl Tryz.isAgg31 (by repeat (first | exact .here | exact .inner .here | exact .inner (.inner .here) | refine .there ?_)) (by rfl))) fun _ _ => Re 7 rfl (Eff.buildSlice (rfl) [_, _] Tryz.underlying31 Tryz.sizeOf69 (by exact Tryz.zeroValue69) rfl rfl rfl rfl (by rfl)) fun b33 _ => Re 8 rfl (Eff.appendAny (prC x) (sz := 2) (bytes := 32) (z := .agg #[.string ⟨#[]⟩, .string ⟨#[]⟩]) (xs := (delF (l.take k.1) ky).flatMap prC) (m0 := (delF (l.take k.1) ky).length) (o := k.2) (m := 1) (pk := [ownG 69 ((delF (l.take k.1) ky).flatMap prC) k.2]) rfl rfl Tryz.underlying31 (by kernel_rfl) rfl (by omega) (by repeat (first | exact .nil | apply Pick.cons | exact .here | apply Ext.there)) (by simp) hk2 (by rfl) (fun hm0 => ⟨b33, 0, rfl, fun w hw => V.range_of_block (o := 0) (cs := prC x) (r := []) (hw.own _ (show InS (b33, .cells (prC x).toArray 69 (0, 0)) _ from (by repeat (first | exact .here | exact .inner .here | exact .inner (.inner .here) | refine .there ?_))).mem) rfl⟩) (by rfl) (by omega) (by omega)) fun o9 ho9 => Rv 9 rfl (Fa 0 31) <| ReN 10 rfl (StS (h1 := V.ownV_one _ _)) fun _ _ => Rd ?_
          exact joinA (o9) (ho9)
        · refine Ro rfl (Eff.buildSlice (rfl) [_, _] Tryz.underlying31 Tryz.sizeOf69 (by exact Tryz.zeroValue69) rfl rfl rfl rfl (by rfl)) fun b33 _ => Re 1 rfl (Eff.ofVal (Val.load (v := ownV (delF (l.take k.1) ky).length k.2) rfl Tryz.isAgg31 (by repeat (first | exact .here | exact .inner .here | exact .inner (.inner .here) | refine .there ?_)) (by rfl))) fun _ _ => Re 8 rfl (Eff.appendAny (prC x) (sz := 2) (bytes := 32) (z := .agg #[.string ⟨#[]⟩, .string ⟨#[]⟩]) (xs := (delF (l.take k.1) ky).flatMap prC) (m0 := (delF (l.take k.1) ky).length) (o := k.2) (m := 1) (pk := [ownG 69 ((delF (l.take k.1) ky).flatMap prC) k.2]) rfl rfl Tryz.underlying31 (by kernel_rfl) rfl (by omega) (by repeat (first | exact .nil | apply Pick.cons | exact .here | apply Ext.there)) (by simp) hk2 (by rfl) (fun hm0 => ⟨b33, 0, rfl, fun w hw => V.range_of_block (o := 0) (cs := prC x) (r := []) (hw.own _ (show InS (b33, .cells (prC x).toArray 69 (0, 0)) _ from (by repeat (first | exact .here | exact .inner .here | exact .inner (.inner .here) | refine .there ?_))).mem) rfl⟩) (by rfl) (by omega) (by omega)) fun o9 ho9 => Rv 9 rfl (Fa 0 31) <| ReN 10 rfl (StS (h1 := V.ownV_one _ _)) fun _ _ => Rd ?_
          exact joinA (o9) (ho9)
      · intro o9 ho9
        refine Bn <| Ps <| Rg <| Lv Mv <| Lv Ar <| Lv Av <| Nl ?_
        rw [show (delF (l.take k.1) ky).flatMap prC ++ prC x = (delF (l.take (k.1 + 1)) ky).flatMap prC from by rw [del_no hx1 h25]; simp, show (delF (l.take k.1) ky).length + 1 = (delF (l.take (k.1 + 1)) ky).length from by rw [del_no hx1 h25]; simp]
        exact roundA ((k.1 + 1, o9)) ⟨by simp only; omega, by simp only; rw [del_no hx1 h25]; simpa using ho9⟩ (by simp only; omega)
    · replace h25 := bF h25
      have h25 : x.key = ky := h25
      refine Sk <| Bn <| Ps <| Rg <| Lv Mv <| Lv Ar <| Lv Av <| Nl ?_
      rw [← del_yes hx1 h25]
      exact roundA ((k.1 + 1, k.2)) ⟨by simp only; omega, by simp only; rw [del_yes hx1 h25]; exact hk2⟩ (by simp only; omega)
  · replace h15 := bF h15
    refine Xt <| Te <| Te <| Bh <| Ps <| Sq <| Rg ?_
    first | (refine LW.v rfl rfl (Val.loadW rfl Tryz.isAgg34 (by repeat (first | exact .here | exact .inner .here | exact .inner (.inner .here) | refine .there ?_)) (by exact Tryz.sizeOf34)) ?_) | (refine LW.v rfl rfl (Val.loadA [_, _] rfl Tryz.isAgg34 (by repeat (first | exact .here | exact .inner .here | exact .inner (.inner .here) | refine .there ?_)) (by rfl) Tryz.sizeOf34) ?_)
    refine LeN (StW (cs := [ownV (delF (l.take k.1) ky).length k.2, ownV q.length yq]) (h1 := by simp [V.ownV_one])) fun _ _ => Nl <| Ps <| Rt <| V.PQ.retC rfl rfl (by repeat (first | exact .here | exact .inner .here | exact .inner (.inner .here) | refine .there ?_)) Tryz.isAgg34 (by exact Tryz.sizeOf34) ?_
    have hte : l.take k.1 = l := List.take_of_length_le (by omega)
    rw [hte] at hk2 ⊢
    intro w' hw
    exact ⟨(k.2, yq), ⟨hk2, hyq⟩, rfl, hw.pick (by repeat (first | exact .nil | apply Pick.cons | exact .here | apply Ext.there))⟩
theorem rpush_c (s : Sf) (A : ShA) (v : List UInt8) (w : World) (hA : SfR w s A) (hl : A.1.length ≤ 1000 ∧ A.2.length ≤ 1000) : Calls Tryz.prog 61 [.agg s.cells.toArray, str v].toArray w fun e w' => ∃ y : V.OwnO × V.OwnO, OwSh (A.1, A.2 ++ [v]) y ∧ e = .returned (.agg (owC (A.1, A.2 ++ [v]) y).toArray) ∧ Hp ⟨w, []⟩ [ownG 69 (A.1.flatMap prC) y.1, ownG 9 ((A.2 ++ [v]).flatMap stE) y.2] w' := by
  obtain ⟨⟨pa, pn, pc⟩, ⟨qa, qn, qc⟩⟩ := s
  obtain ⟨l, q⟩ := A
  obtain ⟨⟨hn1, h1⟩, ⟨hn2, h2⟩, hcp, hcq⟩ := hA
  simp only at hn1 h1 hn2 h2 hcp hcq hl ⊢
  subst hn1; subst hn2
  refine V.calls [] Tryz.func61 rfl Tryz.ntmps61 (Nat.le_of_ble_eq_true rfl) (V.sat_nil _) <| Sq <| Rg <| Le XA fun b2 _ => Le AA fun b4 _ => Nl <| Ps <| Sq ?_
  refine CW.regJoin (fun y : V.OwnO × V.OwnO => OwSh (l, (q ++ [v])) y) (fun _ => [(4, .pointer (some ⟨b4, 0, none⟩))]) (fun y => [[(b4, .cells (owC (l, (q ++ [v])) y).toArray 34 (0, 0))], ownG 69 (l.flatMap prC) y.1, ownG 9 ((q ++ [v]).flatMap stE) y.2]) ?_ ?_
  · refine Dr ([[(b2, .cells [.slice pa l.length pc, .slice qa q.length qc].toArray 34 (0, 0))]]) <| Rv 0 rfl (Fa 0 31) <| Rv 1 rfl Ld <| Rv 3 rfl (Fa 1 32) <| Rv 4 rfl Ld <| Rv 6 rfl Mv <| RW.any [2, 7] (by kernel_rfl) (by simp) fun i hi => ?_
    simp only [List.mem_cons, List.not_mem_nil, or_false] at hi
    rcases hi with rfl | rfl
    · refine Ro rfl (Eff.appendAny (l.flatMap prC) (sz := 2) (bytes := 32) (z := .agg #[.string ⟨#[]⟩, .string ⟨#[]⟩]) (xs := []) (m0 := 0) (o := none) (m := l.length) (pk := []) rfl rfl Tryz.underlying31 (by kernel_rfl) rfl (by omega) .nil rfl ⟨rfl, rfl⟩ (V.flatMap_len prC_len _) (fun hm0 => by obtain ⟨b8, o8, h8, h9⟩ := sl_range (F := []) prC_len h1 hm0 (by simp); exact ⟨b8, o8, h8, fun w hw => h9 w hw⟩) (all_one prC_one _) (by omega) (by omega)) fun yp hyp0 => ?_
      have hyp : ownOk 2 l.length (l.flatMap prC) yp := by simpa using hyp0
      rw [List.nil_append, Nat.zero_add]
      refine RW.any [5, 7] (by kernel_rfl) (by simp) fun i hi => ?_
      simp only [List.mem_cons, List.not_mem_nil, or_false] at hi
      rcases hi with rfl | rfl
      · refine Ro rfl (Eff.appendAny (q.flatMap stE) (sz := 1) (bytes := 16) (z := .string ⟨#[]⟩) (xs := []) (m0 := 0) (o := none) (m := q.length) (pk := []) rfl rfl Tryz.underlying32 (by kernel_rfl) rfl (by omega) .nil rfl ⟨rfl, rfl⟩ (V.flatMap_len stE_len _) (fun hm0 => by obtain ⟨b8, o8, h8, h9⟩ := sl_range (F := []) stE_len h2 hm0 (by simp); exact ⟨b8, o8, h8, fun w hw => h9 w hw⟩) (all_one stE_one _) (by omega) (by omega)) fun yq hyq0 => ?_
        have hyq : ownOk 1 q.length (q.flatMap stE) yq := by simpa using hyq0
        rw [List.nil_append, Nat.zero_add]
        refine Re 7 rfl (Eff.buildSlice (rfl) [_] Tryz.underlying32 Tryz.sizeOf9 (by exact Tryz.zeroValue9) rfl rfl rfl rfl (by rfl)) fun b12 _ => Re 8 rfl (Eff.appendAny (stE v) (sz := 1) (bytes := 16) (z := .string ⟨#[]⟩) (xs := q.flatMap stE) (m0 := q.length) (o := yq) (m := 1) (pk := [ownG 9 (q.flatMap stE) yq]) rfl rfl Tryz.underlying32 (by kernel_rfl) rfl (by omega) (by repeat (first | exact .nil | apply Pick.cons | exact .here | apply Ext.there)) (by simp) hyq (by rfl) (fun hm0 => ⟨b12, 0, rfl, fun w hw => V.range_of_block (o := 0) (cs := stE v) (r := []) (hw.own _ (show InS (b12, .cells (stE v).toArray 9 (0, 0)) _ from (by repeat (first | exact .here | exact .inner .here | exact .inner (.inner .here) | refine .there ?_))).mem) rfl⟩) (by rfl) (by omega) (by omega)) fun o9 ho90 => ?_
        have ho9 : ownOk 1 (q ++ [v]).length ((q ++ [v]).flatMap stE) o9 := by simpa using ho90
        rw [show q.flatMap stE ++ stE v = (q ++ [v]).flatMap stE from by simp, show q.length + 1 = (q ++ [v]).length from by simp]
        refine Rv 9 rfl (Val.build [ownV l.length yp, ownV (q ++ [v]).length o9] Tryz.zeroValue34 Tryz.underlying34 places34 rfl (by rcases yp with _ | ⟨_, _, _⟩ <;> rcases o9 with _ | ⟨_, _, _⟩ <;> rfl)) <| ReN 10 rfl (StW (cs := owC (l, (q ++ [v])) (yp, o9)) (h1 := by simp [owC, V.ownV_one])) fun _ _ => Rd ?_
        exact joinA ((yp, o9)) (⟨hyp, ho9⟩)
      · refine Ro rfl (Eff.buildSlice (rfl) [_] Tryz.underlying32 Tryz.sizeOf9 (by exact Tryz.zeroValue9) rfl rfl rfl rfl (by rfl)) fun b12 _ => Re 5 rfl (Eff.appendAny (q.flatMap stE) (sz := 1) (bytes := 16) (z := .string ⟨#[]⟩) (xs := []) (m0 := 0) (o := none) (m := q.length) (pk := []) rfl rfl Tryz.underlying32 (by kernel_rfl) rfl (by omega) .nil rfl ⟨rfl, rfl⟩ (V.flatMap_len stE_len _) (fun hm0 => by obtain ⟨b8, o8, h8, h9⟩ := sl_range (F := []) stE_len h2 hm0 (by simp); exact ⟨b8, o8, h8, fun w hw => h9 w hw⟩) (all_one stE_one _) (by omega) (by omega)) fun yq hyq0 => ?_
        have hyq : ownOk 1 q.length (q.flatMap stE) yq := by simpa using hyq0
        rw [List.nil_append, Nat.zero_add]
        refine Re 8 rfl (Eff.appendAny (stE v) (sz := 1) (bytes := 16) (z := .string ⟨#[]⟩) (xs := q.flatMap stE) (m0 := q.length) (o := yq) (m := 1) (pk := [ownG 9 (q.flatMap stE) yq]) rfl rfl Tryz.underlying32 (by kernel_rfl) rfl (by omega) (by repeat (first | exact .nil | apply Pick.cons | exact .here | apply Ext.there)) (by simp) hyq (by rfl) (fun hm0 => ⟨b12, 0, rfl, fun w hw => V.range_of_block (o := 0) (cs := stE v) (r := []) (hw.own _ (show InS (b12, .cells (stE v).toArray 9 (0, 0)) _ from (by repeat (first | exact .here | exact .inner .here | exact .inner (.inner .here) | refine .there ?_))).mem) rfl⟩) (by rfl) (by omega) (by omega)) fun o9 ho90 => ?_
        have ho9 : ownOk 1 (q ++ [v]).length ((q ++ [v]).flatMap stE) o9 := by simpa using ho90
        rw [show q.flatMap stE ++ stE v = (q ++ [v]).flatMap stE from by simp, show q.length + 1 = (q ++ [v]).length from by simp]
        refine Rv 9 rfl (Val.build [ownV l.length yp, ownV (q ++ [v]).length o9] Tryz.zeroValue34 Tryz.underlying34 places34 rfl (by rcases yp with _ | ⟨_, _, _⟩ <;> rcases o9 with _ | ⟨_, _, _⟩ <;> rfl)) <| ReN 10 rfl (StW (cs := owC (l, (q ++ [v])) (yp, o9)) (h1 := by simp [owC, V.ownV_one])) fun _ _ => Rd ?_
        exact joinA ((yp, o9)) (⟨hyp, ho9⟩)
    · refine Ro rfl (Eff.buildSlice (rfl) [_] Tryz.underlying32 Tryz.sizeOf9 (by exact Tryz.zeroValue9) rfl rfl rfl rfl (by rfl)) fun b12 _ => Re 2 rfl (Eff.appendAny (l.flatMap prC) (sz := 2) (bytes := 32) (z := .agg #[.string ⟨#[]⟩, .string ⟨#[]⟩]) (xs := []) (m0 := 0) (o := none) (m := l.length) (pk := []) rfl rfl Tryz.underlying31 (by kernel_rfl) rfl (by omega) .nil rfl ⟨rfl, rfl⟩ (V.flatMap_len prC_len _) (fun hm0 => by obtain ⟨b8, o8, h8, h9⟩ := sl_range (F := []) prC_len h1 hm0 (by simp); exact ⟨b8, o8, h8, fun w hw => h9 w hw⟩) (all_one prC_one _) (by omega) (by omega)) fun yp hyp0 => ?_
      have hyp : ownOk 2 l.length (l.flatMap prC) yp := by simpa using hyp0
      rw [List.nil_append, Nat.zero_add]
      refine Re 5 rfl (Eff.appendAny (q.flatMap stE) (sz := 1) (bytes := 16) (z := .string ⟨#[]⟩) (xs := []) (m0 := 0) (o := none) (m := q.length) (pk := []) rfl rfl Tryz.underlying32 (by kernel_rfl) rfl (by omega) .nil rfl ⟨rfl, rfl⟩ (V.flatMap_len stE_len _) (fun hm0 => by obtain ⟨b8, o8, h8, h9⟩ := sl_range (F := []) stE_len h2 hm0 (by simp); exact ⟨b8, o8, h8, fun w hw => h9 w hw⟩) (all_one stE_one _) (by omega) (by omega)) fun yq hyq0 => ?_
      have hyq : ownOk 1 q.length (q.flatMap stE) yq := by simpa using hyq0
      rw [List.nil_append, Nat.zero_add]
      refine Re 8 rfl (Eff.appendAny (stE v) (sz := 1) (bytes := 16) (z := .string ⟨#[]⟩) (xs := q.flatMap stE) (m0 := q.length) (o := yq) (m := 1) (pk := [ownG 9 (q.flatMap stE) yq]) rfl rfl Tryz.underlying32 (by kernel_rfl) rfl (by omega) (by repeat (first | exact .nil | apply Pick.cons | exact .here | apply Ext.there)) (by simp) hyq (by rfl) (fun hm0 => ⟨b12, 0, rfl, fun w hw => V.range_of_block (o := 0) (cs := stE v) (r := []) (hw.own _ (show InS (b12, .cells (stE v).toArray 9 (0, 0)) _ from (by repeat (first | exact .here | exact .inner .here | exact .inner (.inner .here) | refine .there ?_))).mem) rfl⟩) (by rfl) (by omega) (by omega)) fun o9 ho90 => ?_
      have ho9 : ownOk 1 (q ++ [v]).length ((q ++ [v]).flatMap stE) o9 := by simpa using ho90
      rw [show q.flatMap stE ++ stE v = (q ++ [v]).flatMap stE from by simp, show q.length + 1 = (q ++ [v]).length from by simp]
      refine Rv 9 rfl (Val.build [ownV l.length yp, ownV (q ++ [v]).length o9] Tryz.zeroValue34 Tryz.underlying34 places34 rfl (by rcases yp with _ | ⟨_, _, _⟩ <;> rcases o9 with _ | ⟨_, _, _⟩ <;> rfl)) <| ReN 10 rfl (StW (cs := owC (l, (q ++ [v])) (yp, o9)) (h1 := by simp [owC, V.ownV_one])) fun _ _ => Rd ?_
      exact joinA ((yp, o9)) (⟨hyp, ho9⟩)
  · rintro ⟨yp, o9⟩ ⟨hyp, ho9⟩
    refine Ps <| Rt <| V.PQ.retC rfl rfl (by repeat (first | exact .here | exact .inner .here | exact .inner (.inner .here) | refine .there ?_)) Tryz.isAgg34 (by exact Tryz.sizeOf34) ?_
    intro w' hw; exact ⟨(yp, o9), ⟨hyp, ho9⟩, rfl, hw.pick (by repeat (first | exact .nil | apply Pick.cons | exact .here | apply Ext.there))⟩
theorem rpop_c (s : Sf) (A : ShA) (w : World) (hA : SfR w s A) (hl : A.1.length ≤ 1000 ∧ A.2.length ≤ 1000) : Calls Tryz.prog 62 [.agg s.cells.toArray].toArray w fun e w' => ∃ y : V.OwnO × V.OwnO, OwSh (A.1, A.2.drop 1) y ∧ e = .returned (.agg (owC (A.1, A.2.drop 1) y).toArray) ∧ Hp ⟨w, []⟩ [ownG 69 (A.1.flatMap prC) y.1, ownG 9 ((A.2.drop 1).flatMap stE) y.2] w' := by
  obtain ⟨⟨pa, pn, pc⟩, ⟨qa, qn, qc⟩⟩ := s
  obtain ⟨l, q⟩ := A
  obtain ⟨⟨hn1, h1⟩, ⟨hn2, h2⟩, hcp, hcq⟩ := hA
  simp only at hn1 h1 hn2 h2 hcp hcq hl ⊢
  subst hn1; subst hn2
  refine V.calls [] Tryz.func62 rfl Tryz.ntmps62 (Nat.le_of_ble_eq_true rfl) (V.sat_nil _) <| Sq <| Rg <| Le XA fun b1 _ => Le AA fun b2 _ => Nl <| Ps <| Sq <| Rg <| Lv (Fa 0 31) <| Lv Ld <| Le (Eff.appendAny (l.flatMap prC) (sz := 2) (bytes := 32) (z := .agg #[.string ⟨#[]⟩, .string ⟨#[]⟩]) (xs := []) (m0 := 0) (o := none) (m := l.length) (pk := []) rfl rfl Tryz.underlying31 (by kernel_rfl) rfl (by omega) .nil rfl ⟨rfl, rfl⟩ (V.flatMap_len prC_len _) (fun hm0 => by obtain ⟨b8, o8, h8, h9⟩ := sl_range (F := []) prC_len h1 hm0 (by simp); exact ⟨b8, o8, h8, fun w hw => h9 w hw⟩) (all_one prC_one _) (by omega) (by omega)) fun yp hyp0 => ?_
  have hyp : ownOk 2 l.length (l.flatMap prC) yp := by simpa using hyp0
  rw [List.nil_append, Nat.zero_add]
  refine Lv (Val.build [ownV l.length yp, .slice none 0 0] Tryz.zeroValue34 Tryz.underlying34 places34 rfl (by rcases yp with _ | ⟨_, _, _⟩ <;> rfl)) <| Le AA fun b3 _ => LeN (StW (cs := [ownV l.length yp, .slice none 0 0]) (h1 := by simp [V.ownV_one]; rfl)) fun _ _ => Nl <| Ps <| Sq <| Sq <| Rg <| Lv (Fa 1 32) <| Lv Ld <| Lv Ln <| Lv Cm <| Nl <| Ps ?_
  refine CW.cond rfl (fun h11 => ?_) (fun h11 => ?_)
  · replace h11 := bT h11
    have h11 : (0 : Int) < (q.length : Int) := h11
    have hqd : (q.drop 1).length = q.length - 1 := by rw [List.length_drop]
    refine Rg <| Lv (Fa 1 32) <| Lv Ld <| Lv (Val.sliceG 1 q.length qc rfl Tryz.underlying32 Tryz.sizeOf9 ⟨_, rfl⟩ rfl rfl (fun _ => rfl) (by omega) hcq (Nat.le_refl _)) <| LW.re 14 (.slice (if qc = 1 then qa else qa.map (·.add (1 * 1))) (q.drop 1).length (qc - 1)) rfl (by rw [List.length_drop]) <| Le (Eff.appendAny ((q.drop 1).flatMap stE) (sz := 1) (bytes := 16) (z := .string ⟨#[]⟩) (xs := []) (m0 := 0) (o := none) (m := (q.drop 1).length) (pk := []) rfl rfl Tryz.underlying32 (by kernel_rfl) rfl (by omega) .nil rfl ⟨rfl, rfl⟩ (V.flatMap_len stE_len _) (fun hm0 => by obtain ⟨b8, o8, h8, h9⟩ := sl_range (F := []) stE_len (V.slAt_drop (c := qc) (k := 1) h2 (by omega) hcq) hm0 (by simp); exact ⟨b8, o8, h8, fun w hw => h9 w hw⟩) (all_one stE_one _) (by omega) (by omega)) fun yq hyq0 => ?_
    have hyq : ownOk 1 (q.drop 1).length ((q.drop 1).flatMap stE) yq := by simpa using hyq0
    rw [List.nil_append, Nat.zero_add]
    refine Lv (Fa 1 32) <| LeN (StS (h1 := V.ownV_one _ _)) fun _ _ => Nl <| Ps <| Sq <| Rg ?_
    first | (refine LW.v rfl rfl (Val.loadW rfl Tryz.isAgg34 (by repeat (first | exact .here | exact .inner .here | exact .inner (.inner .here) | refine .there ?_)) (by exact Tryz.sizeOf34)) ?_) | (refine LW.v rfl rfl (Val.loadA [_, _] rfl Tryz.isAgg34 (by repeat (first | exact .here | exact .inner .here | exact .inner (.inner .here) | refine .there ?_)) (by rfl) Tryz.sizeOf34) ?_)
    first | (refine LW.eN rfl (Eff.storeW (cs := owC (l, (q.drop 1)) (yp, yq)) rfl rfl (by repeat (first | exact .here | exact .inner .here | exact .inner (.inner .here) | apply Upd.there)) (by rfl) Tryz.sizeOf34 (by simp [owC, V.ownV_one])) ?_) | (refine LW.eN rfl (Eff.storeW (cs := [ownV l.length yp, .slice none 0 0]) rfl rfl (by repeat (first | exact .here | exact .inner .here | exact .inner (.inner .here) | apply Upd.there)) (by rfl) Tryz.sizeOf34 (by simp [V.ownV_one]; rfl)) ?_)
    intro _ _
    refine Nl <| Ps <| Rt <| V.PQ.retC rfl rfl (by repeat (first | exact .here | exact .inner .here | exact .inner (.inner .here) | refine .there ?_)) Tryz.isAgg34 (by exact Tryz.sizeOf34) ?_
    intro w' hw; exact ⟨(yp, yq), ⟨hyp, hyq⟩, rfl, hw.pick (by repeat (first | exact .nil | apply Pick.cons | exact .here | apply Ext.there))⟩
  · replace h11 := bF h11
    have h11 : (q.length : Int) ≤ 0 := h11
    refine Sk <| Ps <| Sq <| Rg ?_
    first | (refine LW.v rfl rfl (Val.loadW rfl Tryz.isAgg34 (by repeat (first | exact .here | exact .inner .here | exact .inner (.inner .here) | refine .there ?_)) (by exact Tryz.sizeOf34)) ?_) | (refine LW.v rfl rfl (Val.loadA [_, _] rfl Tryz.isAgg34 (by repeat (first | exact .here | exact .inner .here | exact .inner (.inner .here) | refine .there ?_)) (by rfl) Tryz.sizeOf34) ?_)
    first | (refine LW.eN rfl (Eff.storeW (cs := owC (l, (q.drop 1)) (yp, yq)) rfl rfl (by repeat (first | exact .here | exact .inner .here | exact .inner (.inner .here) | apply Upd.there)) (by rfl) Tryz.sizeOf34 (by simp [owC, V.ownV_one])) ?_) | (refine LW.eN rfl (Eff.storeW (cs := [ownV l.length yp, .slice none 0 0]) rfl rfl (by repeat (first | exact .here | exact .inner .here | exact .inner (.inner .here) | apply Upd.there)) (by rfl) Tryz.sizeOf34 (by simp [V.ownV_one]; rfl)) ?_)
    intro _ _
    refine Nl <| Ps <| Rt <| V.PQ.retC rfl rfl (by repeat (first | exact .here | exact .inner .here | exact .inner (.inner .here) | refine .there ?_)) Tryz.isAgg34 (by exact Tryz.sizeOf34) ?_
    have hq0 : q = [] := List.length_eq_zero_iff.1 (by omega)
    subst hq0
    intro w' hw; exact ⟨(yp, none), ⟨hyp, ⟨rfl, rfl⟩⟩, rfl, (hw.pick (ss := [ownG 69 (l.flatMap prC) yp]) (by repeat (first | exact .nil | apply Pick.cons | exact .here | apply Ext.there))).perm (by simp [V.ownG, V.ownS])⟩
theorem rput_c (s : Sf) (A : ShA) (ky v : List UInt8) (w : World) (hA : SfR w s A) (hl : A.1.length ≤ 1000 ∧ A.2.length ≤ 1000) : Calls Tryz.prog 59 [.agg s.cells.toArray, str ky, str v].toArray w fun e w' => ∃ y : V.OwnO × V.OwnO, OwSh (putF A.1 ky v, A.2) y ∧ e = .returned (.agg (owC (putF A.1 ky v, A.2) y).toArray) ∧ Hp ⟨w, []⟩ [ownG 69 ((putF A.1 ky v).flatMap prC) y.1, ownG 9 (A.2.flatMap stE) y.2] w' := by
  have hA0 := hA
  obtain ⟨⟨pa, pn, pc⟩, ⟨qa, qn, qc⟩⟩ := s
  obtain ⟨l, q⟩ := A
  obtain ⟨⟨hn1, h1⟩, ⟨hn2, h2⟩, hcp, hcq⟩ := hA
  simp only at hn1 h1 hn2 h2 hcp hcq hl ⊢
  subst hn1; subst hn2
  cases hs : (getF l ky).isSome
  · refine V.calls [] Tryz.func59 rfl Tryz.ntmps59 (Nat.le_of_ble_eq_true rfl) (V.sat_nil _) <| Sq <| Rg <| Le XA fun b3 _ => Le AA fun b6 _ => Nl <| Ps <| Sq <| Rg ?_
    first | (refine LW.v rfl rfl (Val.loadW rfl Tryz.isAgg34 (by repeat (first | exact .here | exact .inner .here | exact .inner (.inner .here) | refine .there ?_)) (by exact Tryz.sizeOf34)) ?_) | (refine LW.v rfl rfl (Val.loadA [_, _] rfl Tryz.isAgg34 (by repeat (first | exact .here | exact .inner .here | exact .inner (.inner .here) | refine .there ?_)) (by rfl) Tryz.sizeOf34) ?_)
    refine Lv Mv <| Le (CV fun w hw => rget_c _ (l, q) ky w (hA0.hp hw (by simp [ids])) hl) fun _ _ => Lv Mv <| Lv Ex <| Lv Ex <| LW.re 18 (.bool false) rfl (by rw [hs]) <| Lv Av <| Lv Av <| Nl <| Ps <| Sq <| Rg <| Lv (Fa 1 32) <| Lv Ld <| Le (Eff.appendAny (q.flatMap stE) (sz := 1) (bytes := 16) (z := .string ⟨#[]⟩) (xs := []) (m0 := 0) (o := none) (m := q.length) (pk := []) rfl rfl Tryz.underlying32 (by kernel_rfl) rfl (by omega) .nil rfl ⟨rfl, rfl⟩ (V.flatMap_len stE_len _) (fun hm0 => by obtain ⟨b8, o8, h8, h9⟩ := sl_range (F := []) stE_len h2 hm0 (by simp); exact ⟨b8, o8, h8, fun w hw => h9 w hw⟩) (all_one stE_one _) (by omega) (by omega)) fun yq hyq0 => ?_
    have hyq : ownOk 1 q.length (q.flatMap stE) yq := by simpa using hyq0
    rw [List.nil_append, Nat.zero_add]
    refine Lv (Val.build [.slice none 0 0, ownV q.length yq] Tryz.zeroValue34 Tryz.underlying34 places34 rfl (by rcases yq with _ | ⟨_, _, _⟩ <;> rfl)) <| Le AA fun b9 _ => LeN (StW (cs := [.slice none 0 0, ownV q.length yq]) (h1 := by simp [V.ownV_one]; rfl)) fun _ _ => Nl <| Ps <| Sq <| Rg <| Lv Av <| Nl <| Ps <| Sq <| Sq <| Rg <| Lv Av <| Nl <| Ps <| Bk <| V.CW.addOwn 69 <| loopA (γ := Nat × List Pr × V.OwnO × Bool) (fun k => [(1, str ky), (2, str v), (3, .pointer (some ⟨b3, 0, none⟩)), (6, .pointer (some ⟨b6, 0, none⟩)), (8, .bool false), (9, .pointer (some ⟨b9, 0, none⟩)), (10, .bool k.2.2.2), (11, .int .i64 (k.1 : Nat))]) (fun k => [[(b3, .cells [.slice pa l.length pc, .slice qa q.length qc].toArray 34 (0, 0))], [(b6, .cells [.slice none 0 0, .slice none 0 0].toArray 34 (0, 0))], [(b9, .cells [ownV k.2.1.length k.2.2.1, ownV q.length yq].toArray 34 (0, 0))], ownG 69 (k.2.1.flatMap prC) k.2.2.1, ownG 9 (q.flatMap stE) yq]) (fun k => k.1 ≤ l.length ∧ ownOk 2 k.2.1.length (k.2.1.flatMap prC) k.2.2.1 ∧ k.2.1.length ≤ 2 * k.1 ∧ (k.2.2.2 = true → k.2.1 ++ l.drop k.1 = putF l ky v) ∧ (k.2.2.2 = false → k.2.1 ++ insF ky v (l.drop k.1) = putF l ky v ∧ (getF (l.drop k.1) ky).isSome = false)) (fun k => l.length - k.1) ((0, [], none, false)) ⟨Nat.zero_le _, ⟨rfl, rfl⟩, Nat.zero_le _, (fun h => by cases h), (fun _ => ⟨by unfold putF; simp [hs], by simpa using hs⟩)⟩ fun k => ?_
    rintro ⟨hk1, hk2, hk3, hk4, hk5⟩
    refine Sq <| Sq <| Rg <| Lv Mv <| Lv (Fa 0 31) <| Lv Ld <| Lv Ln <| Lv Cm <| Nl <| Ps ?_
    refine CW.cond rfl (fun h27 => ?_) (fun h27 => ?_)
    · replace h27 := bT h27
      obtain ⟨bb1, o1, x, rfl, hb1, hx1, hr1⟩ := V.slAt_at h1 rfl (k := k.1) (by omega)
      refine Sk <| Ps <| Sq <| Bk <| Sq <| Rg <| Lv (Fa 0 31) <| Lv Ld <| Lv Mv <| Lv Ix <| Lv (Val.loadOA rfl Tryz.isAgg69 hb1 (by simp [ids]) (hr1 k.1 x hx1) Tryz.sizeOf69) <| Le AA fun b12 _ => ?_
      first | (refine LW.eN rfl (Eff.storeW rfl rfl (by repeat (first | exact .here | exact .inner .here | exact .inner (.inner .here) | apply Upd.there)) (by rfl) Tryz.sizeOf69 (by rfl)) ?_) | (refine LW.eN rfl (Eff.storeA (l' := _) rfl rfl (by repeat (first | exact .here | exact .inner .here | exact .inner (.inner .here) | apply Upd.there)) (by rfl) (by decide) Tryz.sizeOf69 (by rfl)) ?_)
      intro _ _
      refine Nl <| Ps <| Sq <| Sq <| Rg <| Lv Mv <| Lv Mv <| Lp <| Lp <| Lp <| Lp <| Lv Pf <| Lv Mv <| Lp <| Lp <| Lv Pf <| Nl <| Ps <| Cf <| Sq <| Rg <| Lv Mv <| Lv Nt <| Lv Mv <| Lv Mv <| Lv Nt <| Lv Pt <| Lv Mv ?_
      refine LW.split (d := 54) rfl (fun h54 => ?_) (fun h54 => ?_)
      · replace h54 := bT h54
        have h54 : k.2.2.2 = false := h54
        refine Lv (Fa 0 9) <| Lv Ld <| Lv Mv <| Lv (Val.gtStr rfl rfl) <| Lv Pt <| Nl <| Ps ?_
        refine CW.cond rfl (fun h59 => ?_) (fun h59 => ?_)
        · replace h59 := bT h59
          have h59 : k.2.2.2 = false ∧ ky < x.key := ⟨h54, h59⟩
          refine Sq <| Rg <| Lv (Fa 0 31) <| Lv Ld <| Lv Mv <| Lv Mv <| Lv (Bd [_, _]) <| Le (Eff.buildSlice (rfl) [_, _] Tryz.underlying31 Tryz.sizeOf69 (by exact Tryz.zeroValue69) rfl rfl rfl rfl (by rfl)) fun b65 _ => Le (Eff.appendAny (prC (Pr.mk ky v)) (sz := 2) (bytes := 32) (z := .agg #[.string ⟨#[]⟩, .string ⟨#[]⟩]) (xs := k.2.1.flatMap prC) (m0 := k.2.1.length) (o := k.2.2.1) (m := 1) (pk := [ownG 69 (k.2.1.flatMap prC) k.2.2.1]) rfl rfl Tryz.underlying31 (by kernel_rfl) rfl (by omega) (by repeat (first | exact .nil | apply Pick.cons | exact .here | apply Ext.there)) (by simp) hk2 (by rfl) (fun hm0 => ⟨b65, 0, rfl, fun w hw => V.range_of_block (o := 0) (cs := prC (Pr.mk ky v)) (r := []) (hw.own _ (show InS (b65, .cells (prC (Pr.mk ky v)).toArray 69 (0, 0)) _ from (by repeat (first | exact .here | exact .inner .here | exact .inner (.inner .here) | refine .there ?_))).mem) rfl⟩) (by rfl) (by first | omega | (simp only [List.length_append, List.length_cons, List.length_nil]; omega)) (by first | omega | (simp only [List.length_append, List.length_cons, List.length_nil]; omega))) fun o66 ho66 => ?_
          have h66 : ownOk 2 (k.2.1 ++ [(Pr.mk ky v)]).length ((k.2.1 ++ [(Pr.mk ky v)]).flatMap prC) o66 := by simpa using ho66
          rw [show k.2.1.flatMap prC ++ prC (Pr.mk ky v) = (k.2.1 ++ [(Pr.mk ky v)]).flatMap prC from by simp, show k.2.1.length + 1 = (k.2.1 ++ [(Pr.mk ky v)]).length from by simp]
          refine Lv (Fa 0 31) <| LeN (StS (h1 := V.ownV_one _ _)) fun _ _ => Nl <| Ps <| Rg <| Lv Av <| Nl <| Ps <| Rg <| Lv (Fa 0 31) <| Lv Ld ?_
          first | (refine LW.v rfl rfl (Val.loadW rfl Tryz.isAgg69 (by repeat (first | exact .here | exact .inner .here | exact .inner (.inner .here) | refine .there ?_)) (by exact Tryz.sizeOf69)) ?_) | (refine LW.v rfl rfl (Val.loadA [_, _] rfl Tryz.isAgg69 (by repeat (first | exact .here | exact .inner .here | exact .inner (.inner .here) | refine .there ?_)) (by rfl) Tryz.sizeOf69) ?_)
          refine Le (Eff.buildSlice (rfl) [_, _] Tryz.underlying31 Tryz.sizeOf69 (by exact Tryz.zeroValue69) rfl rfl rfl rfl (by rfl)) fun b71 _ => Le (Eff.appendAny (prC x) (sz := 2) (bytes := 32) (z := .agg #[.string ⟨#[]⟩, .string ⟨#[]⟩]) (xs := (k.2.1 ++ [(Pr.mk ky v)]).flatMap prC) (m0 := (k.2.1 ++ [(Pr.mk ky v)]).length) (o := o66) (m := 1) (pk := [ownG 69 ((k.2.1 ++ [(Pr.mk ky v)]).flatMap prC) o66]) rfl rfl Tryz.underlying31 (by kernel_rfl) rfl (by omega) (by repeat (first | exact .nil | apply Pick.cons | exact .here | apply Ext.there)) (by simp) h66 (by rfl) (fun hm0 => ⟨b71, 0, rfl, fun w hw => V.range_of_block (o := 0) (cs := prC x) (r := []) (hw.own _ (show InS (b71, .cells (prC x).toArray 69 (0, 0)) _ from (by repeat (first | exact .here | exact .inner .here | exact .inner (.inner .here) | refine .there ?_))).mem) rfl⟩) (by rfl) (by first | omega | (simp only [List.length_append, List.length_cons, List.length_nil]; omega)) (by first | omega | (simp only [List.length_append, List.length_cons, List.length_nil]; omega))) fun o72 ho72 => ?_
          have h72 : ownOk 2 ((k.2.1 ++ [(Pr.mk ky v)]) ++ [x]).length (((k.2.1 ++ [(Pr.mk ky v)]) ++ [x]).flatMap prC) o72 := by simpa using ho72
          rw [show (k.2.1 ++ [(Pr.mk ky v)]).flatMap prC ++ prC x = ((k.2.1 ++ [(Pr.mk ky v)]) ++ [x]).flatMap prC from by simp, show (k.2.1 ++ [(Pr.mk ky v)]).length + 1 = ((k.2.1 ++ [(Pr.mk ky v)]) ++ [x]).length from by simp]
          refine Lv (Fa 0 31) <| LeN (StS (h1 := V.ownV_one _ _)) fun _ _ => Nl <| Bn <| Ps <| Rg <| Lv Mv <| Lv Ar <| Lv Av <| Nl ?_
          exact roundA ((k.1 + 1, (k.2.1 ++ [(Pr.mk ky v)]) ++ [x], o72, true)) ⟨by simp only; omega, h72, by simp only [List.length_append, List.length_cons, List.length_nil]; omega, (fun _ => by rw [← (hk5 h59.1).1, insF_at hx1, if_pos h59.2]; simp), (fun h => by cases h)⟩ (by simp only; omega)
        · replace h59 := bF h59
          have hno : k.2.2.2 = false → ¬ ky < x.key := fun _ => by simpa using h59
          have hnk : k.2.2.2 = false → x.key ≠ ky := fun h => by
            have h8 := (hk5 h).2
            intro h9
            rw [getF_yes hx1 h9] at h8
            cases h8
          refine Sk <| Ps <| Rg <| Lv (Fa 0 31) <| Lv Ld ?_
          first | (refine LW.v rfl rfl (Val.loadW rfl Tryz.isAgg69 (by repeat (first | exact .here | exact .inner .here | exact .inner (.inner .here) | refine .there ?_)) (by exact Tryz.sizeOf69)) ?_) | (refine LW.v rfl rfl (Val.loadA [_, _] rfl Tryz.isAgg69 (by repeat (first | exact .here | exact .inner .here | exact .inner (.inner .here) | refine .there ?_)) (by rfl) Tryz.sizeOf69) ?_)
          refine Le (Eff.buildSlice (rfl) [_, _] Tryz.underlying31 Tryz.sizeOf69 (by exact Tryz.zeroValue69) rfl rfl rfl rfl (by rfl)) fun b71 _ => Le (Eff.appendAny (prC x) (sz := 2) (bytes := 32) (z := .agg #[.string ⟨#[]⟩, .string ⟨#[]⟩]) (xs := k.2.1.flatMap prC) (m0 := k.2.1.length) (o := k.2.2.1) (m := 1) (pk := [ownG 69 (k.2.1.flatMap prC) k.2.2.1]) rfl rfl Tryz.underlying31 (by kernel_rfl) rfl (by omega) (by repeat (first | exact .nil | apply Pick.cons | exact .here | apply Ext.there)) (by simp) hk2 (by rfl) (fun hm0 => ⟨b71, 0, rfl, fun w hw => V.range_of_block (o := 0) (cs := prC x) (r := []) (hw.own _ (show InS (b71, .cells (prC x).toArray 69 (0, 0)) _ from (by repeat (first | exact .here | exact .inner .here | exact .inner (.inner .here) | refine .there ?_))).mem) rfl⟩) (by rfl) (by first | omega | (simp only [List.length_append, List.length_cons, List.length_nil]; omega)) (by first | omega | (simp only [List.length_append, List.length_cons, List.length_nil]; omega))) fun o72 ho72 => ?_
          have h72 : ownOk 2 (k.2.1 ++ [x]).length ((k.2.1 ++ [x]).flatMap prC) o72 := by simpa using ho72
          rw [show k.2.1.flatMap prC ++ prC x = (k.2.1 ++ [x]).flatMap prC from by simp, show k.2.1.length + 1 = (k.2.1 ++ [x]).length from by simp]
          refine Lv (Fa 0 31) <| LeN (StS (h1 := V.ownV_one _ _)) fun _ _ => Nl <| Bn <| Ps <| Rg <| Lv Mv <| Lv Ar <| Lv Av <| Nl ?_
          exact roundA ((k.1 + 1, k.2.1 ++ [x], o72, k.2.2.2)) ⟨by simp only; omega, h72, by simp only [List.length_append, List.length_cons, List.length_nil]; omega, (fun h => by rw [← hk4 h, drop_at hx1]; simp), (fun h => ⟨by rw [← (hk5 h).1, insF_at hx1, if_neg (hno h)]; simp, by rw [← getF_no hx1 (hnk h)]; exact (hk5 h).2⟩)⟩ (by simp only; omega)
      · replace h54 := bF h54
        have h54 : k.2.2.2 = true := by simpa using h54
        have hno : k.2.2.2 = false → ¬ ky < x.key := fun h => by rw [h54] at h; cases h
        have hnk : k.2.2.2 = false → x.key ≠ ky := fun h => by
          have h8 := (hk5 h).2
          intro h9
          rw [getF_yes hx1 h9] at h8
          cases h8
        refine Lp <| Lp <| Lp <| Lp <| Lv Pf <| Nl <| Ps <| Cf <| Sk <| Ps <| Rg <| Lv (Fa 0 31) <| Lv Ld ?_
        first | (refine LW.v rfl rfl (Val.loadW rfl Tryz.isAgg69 (by repeat (first | exact .here | exact .inner .here | exact .inner (.inner .here) | refine .there ?_)) (by exact Tryz.sizeOf69)) ?_) | (refine LW.v rfl rfl (Val.loadA [_, _] rfl Tryz.isAgg69 (by repeat (first | exact .here | exact .inner .here | exact .inner (.inner .here) | refine .there ?_)) (by rfl) Tryz.sizeOf69) ?_)
        refine Le (Eff.buildSlice (rfl) [_, _] Tryz.underlying31 Tryz.sizeOf69 (by exact Tryz.zeroValue69) rfl rfl rfl rfl (by rfl)) fun b71 _ => Le (Eff.appendAny (prC x) (sz := 2) (bytes := 32) (z := .agg #[.string ⟨#[]⟩, .string ⟨#[]⟩]) (xs := k.2.1.flatMap prC) (m0 := k.2.1.length) (o := k.2.2.1) (m := 1) (pk := [ownG 69 (k.2.1.flatMap prC) k.2.2.1]) rfl rfl Tryz.underlying31 (by kernel_rfl) rfl (by omega) (by repeat (first | exact .nil | apply Pick.cons | exact .here | apply Ext.there)) (by simp) hk2 (by rfl) (fun hm0 => ⟨b71, 0, rfl, fun w hw => V.range_of_block (o := 0) (cs := prC x) (r := []) (hw.own _ (show InS (b71, .cells (prC x).toArray 69 (0, 0)) _ from (by repeat (first | exact .here | exact .inner .here | exact .inner (.inner .here) | refine .there ?_))).mem) rfl⟩) (by rfl) (by first | omega | (simp only [List.length_append, List.length_cons, List.length_nil]; omega)) (by first | omega | (simp only [List.length_append, List.length_cons, List.length_nil]; omega))) fun o72 ho72 => ?_
        have h72 : ownOk 2 (k.2.1 ++ [x]).length ((k.2.1 ++ [x]).flatMap prC) o72 := by simpa using ho72
        rw [show k.2.1.flatMap prC ++ prC x = (k.2.1 ++ [x]).flatMap prC from by simp, show k.2.1.length + 1 = (k.2.1 ++ [x]).length from by simp]
        refine Lv (Fa 0 31) <| LeN (StS (h1 := V.ownV_one _ _)) fun _ _ => Nl <| Bn <| Ps <| Rg <| Lv Mv <| Lv Ar <| Lv Av <| Nl ?_
        exact roundA ((k.1 + 1, k.2.1 ++ [x], o72, k.2.2.2)) ⟨by simp only; omega, h72, by simp only [List.length_append, List.length_cons, List.length_nil]; omega, (fun h => by rw [← hk4 h, drop_at hx1]; simp), (fun h => ⟨by rw [← (hk5 h).1, insF_at hx1, if_neg (hno h)]; simp, by rw [← getF_no hx1 (hnk h)]; exact (hk5 h).2⟩)⟩ (by simp only; omega)
    · replace h27 := bF h27
      have hk8 : l.length ≤ k.1 := by omega
      refine Xt <| Te <| Te <| Bh <| Ps <| Sq <| Sq <| Rg <| Lv Mv <| Lv Nt <| Nl <| Ps ?_
      refine CW.cond rfl (fun h75 => ?_) (fun h75 => ?_)
      · replace h75 := bT h75
        have h75 : k.2.2.2 = false := h75
        refine Rg <| Lv (Fa 0 31) <| Lv Ld <| Lv Mv <| Lv Mv <| Lv (Bd [_, _]) <| Le (Eff.buildSlice (rfl) [_, _] Tryz.underlying31 Tryz.sizeOf69 (by exact Tryz.zeroValue69) rfl rfl rfl rfl (by rfl)) fun b81 _ => Le (Eff.appendAny (prC (Pr.mk ky v)) (sz := 2) (bytes := 32) (z := .agg #[.string ⟨#[]⟩, .string ⟨#[]⟩]) (xs := k.2.1.flatMap prC) (m0 := k.2.1.length) (o := k.2.2.1) (m := 1) (pk := [ownG 69 (k.2.1.flatMap prC) k.2.2.1]) rfl rfl Tryz.underlying31 (by kernel_rfl) rfl (by omega) (by repeat (first | exact .nil | apply Pick.cons | exact .here | apply Ext.there)) (by simp) hk2 (by rfl) (fun hm0 => ⟨b81, 0, rfl, fun w hw => V.range_of_block (o := 0) (cs := prC (Pr.mk ky v)) (r := []) (hw.own _ (show InS (b81, .cells (prC (Pr.mk ky v)).toArray 69 (0, 0)) _ from (by repeat (first | exact .here | exact .inner .here | exact .inner (.inner .here) | refine .there ?_))).mem) rfl⟩) (by rfl) (by first | omega | (simp only [List.length_append, List.length_cons, List.length_nil]; omega)) (by first | omega | (simp only [List.length_append, List.length_cons, List.length_nil]; omega))) fun o82 ho82 => ?_
        have h82 : ownOk 2 (k.2.1 ++ [(Pr.mk ky v)]).length ((k.2.1 ++ [(Pr.mk ky v)]).flatMap prC) o82 := by simpa using ho82
        rw [show k.2.1.flatMap prC ++ prC (Pr.mk ky v) = (k.2.1 ++ [(Pr.mk ky v)]).flatMap prC from by simp, show k.2.1.length + 1 = (k.2.1 ++ [(Pr.mk ky v)]).length from by simp]
        refine Lv (Fa 0 31) <| LeN (StS (h1 := V.ownV_one _ _)) fun _ _ => Nl <| Ps <| Sq <| Rg ?_
        first | (refine LW.v rfl rfl (Val.loadW rfl Tryz.isAgg34 (by repeat (first | exact .here | exact .inner .here | exact .inner (.inner .here) | refine .there ?_)) (by exact Tryz.sizeOf34)) ?_) | (refine LW.v rfl rfl (Val.loadA [_, _] rfl Tryz.isAgg34 (by repeat (first | exact .here | exact .inner .here | exact .inner (.inner .here) | refine .there ?_)) (by rfl) Tryz.sizeOf34) ?_)
        first | (refine LW.eN rfl (Eff.storeW (cs := [ownV k.2.1.length k.2.2.1, ownV q.length yq]) rfl rfl (by repeat (first | exact .here | exact .inner .here | exact .inner (.inner .here) | apply Upd.there)) (by rfl) Tryz.sizeOf34 (by simp [V.ownV_one])) ?_) | (refine LW.eN rfl (Eff.storeW (cs := [ownV (k.2.1 ++ [(Pr.mk ky v)]).length o82, ownV q.length yq]) rfl rfl (by repeat (first | exact .here | exact .inner .here | exact .inner (.inner .here) | apply Upd.there)) (by rfl) Tryz.sizeOf34 (by simp [V.ownV_one])) ?_)
        intro _ _
        refine Nl <| Ps <| Rt <| V.PQ.retC rfl rfl (by repeat (first | exact .here | exact .inner .here | exact .inner (.inner .here) | refine .there ?_)) Tryz.isAgg34 (by exact Tryz.sizeOf34) ?_
        have hd : l.drop k.1 = [] := List.drop_eq_nil_iff.2 (by omega)
        have hte : (k.2.1 ++ [(Pr.mk ky v)]) = putF l ky v := by rw [← (hk5 h75).1, hd]; rfl
        rw [hte] at h82 ⊢
        intro w' hw
        exact ⟨(o82, yq), ⟨h82, hyq⟩, rfl, hw.pick (by repeat (first | exact .nil | apply Pick.cons | exact .here | apply Ext.there))⟩
      · replace h75 := bF h75
        have h75 : k.2.2.2 = true := by simpa using h75
        refine Sk <| Ps <| Sq <| Rg ?_
        first | (refine LW.v rfl rfl (Val.loadW rfl Tryz.isAgg34 (by repeat (first | exact .here | exact .inner .here | exact .inner (.inner .here) | refine .there ?_)) (by exact Tryz.sizeOf34)) ?_) | (refine LW.v rfl rfl (Val.loadA [_, _] rfl Tryz.isAgg34 (by repeat (first | exact .here | exact .inner .here | exact .inner (.inner .here) | refine .there ?_)) (by rfl) Tryz.sizeOf34) ?_)
        first | (refine LW.eN rfl (Eff.storeW (cs := [ownV k.2.1.length k.2.2.1, ownV q.length yq]) rfl rfl (by repeat (first | exact .here | exact .inner .here | exact .inner (.inner .here) | apply Upd.there)) (by rfl) Tryz.sizeOf34 (by simp [V.ownV_one])) ?_) | (refine LW.eN rfl (Eff.storeW (cs := [ownV (k.2.1 ++ [(Pr.mk ky v)]).length o82, ownV q.length yq]) rfl rfl (by repeat (first | exact .here | exact .inner .here | exact .inner (.inner .here) | apply Upd.there)) (by rfl) Tryz.sizeOf34 (by simp [V.ownV_one])) ?_)
        intro _ _
        refine Nl <| Ps <| Rt <| V.PQ.retC rfl rfl (by repeat (first | exact .here | exact .inner .here | exact .inner (.inner .here) | refine .there ?_)) Tryz.isAgg34 (by exact Tryz.sizeOf34) ?_
        have hd : l.drop k.1 = [] := List.drop_eq_nil_iff.2 (by omega)
        have hte : k.2.1 = putF l ky v := by rw [← hk4 h75, hd, List.append_nil]
        rw [hte] at hk2 ⊢
        intro w' hw
        exact ⟨(k.2.2.1, yq), ⟨hk2, hyq⟩, rfl, hw.pick (by repeat (first | exact .nil | apply Pick.cons | exact .here | apply Ext.there))⟩
  · refine V.calls [] Tryz.func59 rfl Tryz.ntmps59 (Nat.le_of_ble_eq_true rfl) (V.sat_nil _) <| Sq <| Rg <| Le XA fun b3 _ => Le AA fun b6 _ => Nl <| Ps <| Sq <| Rg ?_
    first | (refine LW.v rfl rfl (Val.loadW rfl Tryz.isAgg34 (by repeat (first | exact .here | exact .inner .here | exact .inner (.inner .here) | refine .there ?_)) (by exact Tryz.sizeOf34)) ?_) | (refine LW.v rfl rfl (Val.loadA [_, _] rfl Tryz.isAgg34 (by repeat (first | exact .here | exact .inner .here | exact .inner (.inner .here) | refine .there ?_)) (by rfl) Tryz.sizeOf34) ?_)
    refine Lv Mv <| Le (CV fun w hw => rget_c _ (l, q) ky w (hA0.hp hw (by simp [ids])) hl) fun _ _ => Lv Mv <| Lv Ex <| Lv Ex <| LW.re 18 (.bool true) rfl (by rw [hs]) <| Lv Av <| Lv Av <| Nl <| Ps <| Sq <| Rg <| Lv (Fa 1 32) <| Lv Ld <| Le (Eff.appendAny (q.flatMap stE) (sz := 1) (bytes := 16) (z := .string ⟨#[]⟩) (xs := []) (m0 := 0) (o := none) (m := q.length) (pk := []) rfl rfl Tryz.underlying32 (by kernel_rfl) rfl (by omega) .nil rfl ⟨rfl, rfl⟩ (V.flatMap_len stE_len _) (fun hm0 => by obtain ⟨b8, o8, h8, h9⟩ := sl_range (F := []) stE_len h2 hm0 (by simp); exact ⟨b8, o8, h8, fun w hw => h9 w hw⟩) (all_one stE_one _) (by omega) (by omega)) fun yq hyq0 => ?_
    have hyq : ownOk 1 q.length (q.flatMap stE) yq := by simpa using hyq0
    rw [List.nil_append, Nat.zero_add]
    refine Lv (Val.build [.slice none 0 0, ownV q.length yq] Tryz.zeroValue34 Tryz.underlying34 places34 rfl (by rcases yq with _ | ⟨_, _, _⟩ <;> rfl)) <| Le AA fun b9 _ => LeN (StW (cs := [.slice none 0 0, ownV q.length yq]) (h1 := by simp [V.ownV_one]; rfl)) fun _ _ => Nl <| Ps <| Sq <| Rg <| Lv Av <| Nl <| Ps <| Sq <| Sq <| Rg <| Lv Av <| Nl <| Ps <| Bk <| V.CW.addOwn 69 <| loopA (γ := Nat × List Pr × V.OwnO × Bool) (fun k => [(1, str ky), (2, str v), (3, .pointer (some ⟨b3, 0, none⟩)), (6, .pointer (some ⟨b6, 0, none⟩)), (8, .bool true), (9, .pointer (some ⟨b9, 0, none⟩)), (10, .bool k.2.2.2), (11, .int .i64 (k.1 : Nat))]) (fun k => [[(b3, .cells [.slice pa l.length pc, .slice qa q.length qc].toArray 34 (0, 0))], [(b6, .cells [.slice none 0 0, .slice none 0 0].toArray 34 (0, 0))], [(b9, .cells [ownV k.2.1.length k.2.2.1, ownV q.length yq].toArray 34 (0, 0))], ownG 69 (k.2.1.flatMap prC) k.2.2.1, ownG 9 (q.flatMap stE) yq]) (fun k => k.1 ≤ l.length ∧ ownOk 2 k.2.1.length (k.2.1.flatMap prC) k.2.2.1 ∧ k.2.1.length ≤ 2 * k.1 ∧ (k.2.2.2 = true → k.2.1 ++ l.drop k.1 = putF l ky v) ∧ (k.2.2.2 = false → k.2.1 ++ repF ky v (l.drop k.1) = putF l ky v ∧ (getF (l.drop k.1) ky).isSome = true)) (fun k => l.length - k.1) ((0, [], none, false)) ⟨Nat.zero_le _, ⟨rfl, rfl⟩, Nat.zero_le _, (fun h => by cases h), (fun _ => ⟨by unfold putF; simp [hs], by simpa using hs⟩)⟩ fun k => ?_
    rintro ⟨hk1, hk2, hk3, hk4, hk5⟩
    refine Sq <| Sq <| Rg <| Lv Mv <| Lv (Fa 0 31) <| Lv Ld <| Lv Ln <| Lv Cm <| Nl <| Ps ?_
    refine CW.cond rfl (fun h27 => ?_) (fun h27 => ?_)
    · replace h27 := bT h27
      obtain ⟨bb1, o1, x, rfl, hb1, hx1, hr1⟩ := V.slAt_at h1 rfl (k := k.1) (by omega)
      refine Sk <| Ps <| Sq <| Bk <| Sq <| Rg <| Lv (Fa 0 31) <| Lv Ld <| Lv Mv <| Lv Ix <| Lv (Val.loadOA rfl Tryz.isAgg69 hb1 (by simp [ids]) (hr1 k.1 x hx1) Tryz.sizeOf69) <| Le AA fun b12 _ => ?_
      first | (refine LW.eN rfl (Eff.storeW rfl rfl (by repeat (first | exact .here | exact .inner .here | exact .inner (.inner .here) | apply Upd.there)) (by rfl) Tryz.sizeOf69 (by rfl)) ?_) | (refine LW.eN rfl (Eff.storeA (l' := _) rfl rfl (by repeat (first | exact .here | exact .inner .here | exact .inner (.inner .here) | apply Upd.there)) (by rfl) (by decide) Tryz.sizeOf69 (by rfl)) ?_)
      intro _ _
      refine Nl <| Ps <| Sq <| Sq <| Rg <| Lv Mv <| Lv Mv <| Lv (Fa 0 9) <| Lv Ld <| Lv Mv <| Lv ES <| Lv Pt <| Lv Mv ?_
      refine LW.split (d := 42) rfl (fun h42 => ?_) (fun h42 => ?_)
      · replace h42 := bT h42
        have h42 : x.key = ky := h42
        refine Lv Mv <| Lv Nt <| Lv Pt <| Nl <| Ps ?_
        refine CW.cond rfl (fun h45 => ?_) (fun h45 => ?_)
        · replace h45 := bT h45
          have h45 : True ∧ k.2.2.2 = false := ⟨trivial, h45⟩
          refine Sq <| Rg <| Lv Mv <| Lv (Fa 1 9) <| LeN StS fun _ _ => Nl <| Ps <| Rg <| Lv Av <| Nl <| Ps <| Rg <| Lv (Fa 0 31) <| Lv Ld ?_
          first | (refine LW.v rfl rfl (Val.loadW rfl Tryz.isAgg69 (by repeat (first | exact .here | exact .inner .here | exact .inner (.inner .here) | refine .there ?_)) (by exact Tryz.sizeOf69)) ?_) | (refine LW.v rfl rfl (Val.loadA [_, _] rfl Tryz.isAgg69 (by repeat (first | exact .here | exact .inner .here | exact .inner (.inner .here) | refine .there ?_)) (by rfl) Tryz.sizeOf69) ?_)
          refine Le (Eff.buildSlice (rfl) [_, _] Tryz.underlying31 Tryz.sizeOf69 (by exact Tryz.zeroValue69) rfl rfl rfl rfl (by rfl)) fun b71 _ => Le (Eff.appendAny (prC (Pr.mk x.key v)) (sz := 2) (bytes := 32) (z := .agg #[.string ⟨#[]⟩, .string ⟨#[]⟩]) (xs := k.2.1.flatMap prC) (m0 := k.2.1.length) (o := k.2.2.1) (m := 1) (pk := [ownG 69 (k.2.1.flatMap prC) k.2.2.1]) rfl rfl Tryz.underlying31 (by kernel_rfl) rfl (by omega) (by repeat (first | exact .nil | apply Pick.cons | exact .here | apply Ext.there)) (by simp) hk2 (by rfl) (fun hm0 => ⟨b71, 0, rfl, fun w hw => V.range_of_block (o := 0) (cs := prC (Pr.mk x.key v)) (r := []) (hw.own _ (show InS (b71, .cells (prC (Pr.mk x.key v)).toArray 69 (0, 0)) _ from (by repeat (first | exact .here | exact .inner .here | exact .inner (.inner .here) | refine .there ?_))).mem) rfl⟩) (by rfl) (by first | omega | (simp only [List.length_append, List.length_cons, List.length_nil]; omega)) (by first | omega | (simp only [List.length_append, List.length_cons, List.length_nil]; omega))) fun o72 ho72 => ?_
          have h72 : ownOk 2 (k.2.1 ++ [(Pr.mk x.key v)]).length ((k.2.1 ++ [(Pr.mk x.key v)]).flatMap prC) o72 := by simpa using ho72
          rw [show k.2.1.flatMap prC ++ prC (Pr.mk x.key v) = (k.2.1 ++ [(Pr.mk x.key v)]).flatMap prC from by simp, show k.2.1.length + 1 = (k.2.1 ++ [(Pr.mk x.key v)]).length from by simp]
          refine Lv (Fa 0 31) <| LeN (StS (h1 := V.ownV_one _ _)) fun _ _ => Nl <| Bn <| Ps <| Rg <| Lv Mv <| Lv Ar <| Lv Av <| Nl ?_
          exact roundA ((k.1 + 1, k.2.1 ++ [(Pr.mk x.key v)], o72, true)) ⟨by simp only; omega, h72, by simp only [List.length_append, List.length_cons, List.length_nil]; omega, (fun _ => by rw [← (hk5 h45.2).1, repF_at hx1, if_pos h42]; simp), (fun h => by cases h)⟩ (by simp only; omega)
        · replace h45 := bF h45
          have h45 : k.2.2.2 = true := h45
          have hno : k.2.2.2 = false → x.key ≠ ky := fun h => by rw [h45] at h; cases h
          have hnk : k.2.2.2 = false → x.key ≠ ky := hno
          refine Sq <| Rg <| Lv Mv <| Lv Nt <| Lv Mv <| Lp <| Lp <| Lv Pf <| Lv Mv <| Lp <| Lp <| Lp <| Lp <| Lv Pf <| Nl <| Ps <| Cf <| Sk <| Ps <| Rg <| Lv (Fa 0 31) <| Lv Ld ?_
          first | (refine LW.v rfl rfl (Val.loadW rfl Tryz.isAgg69 (by repeat (first | exact .here | exact .inner .here | exact .inner (.inner .here) | refine .there ?_)) (by exact Tryz.sizeOf69)) ?_) | (refine LW.v rfl rfl (Val.loadA [_, _] rfl Tryz.isAgg69 (by repeat (first | exact .here | exact .inner .here | exact .inner (.inner .here) | refine .there ?_)) (by rfl) Tryz.sizeOf69) ?_)
          refine Le (Eff.buildSlice (rfl) [_, _] Tryz.underlying31 Tryz.sizeOf69 (by exact Tryz.zeroValue69) rfl rfl rfl rfl (by rfl)) fun b71 _ => Le (Eff.appendAny (prC x) (sz := 2) (bytes := 32) (z := .agg #[.string ⟨#[]⟩, .string ⟨#[]⟩]) (xs := k.2.1.flatMap prC) (m0 := k.2.1.length) (o := k.2.2.1) (m := 1) (pk := [ownG 69 (k.2.1.flatMap prC) k.2.2.1]) rfl rfl Tryz.underlying31 (by kernel_rfl) rfl (by omega) (by repeat (first | exact .nil | apply Pick.cons | exact .here | apply Ext.there)) (by simp) hk2 (by rfl) (fun hm0 => ⟨b71, 0, rfl, fun w hw => V.range_of_block (o := 0) (cs := prC x) (r := []) (hw.own _ (show InS (b71, .cells (prC x).toArray 69 (0, 0)) _ from (by repeat (first | exact .here | exact .inner .here | exact .inner (.inner .here) | refine .there ?_))).mem) rfl⟩) (by rfl) (by first | omega | (simp only [List.length_append, List.length_cons, List.length_nil]; omega)) (by first | omega | (simp only [List.length_append, List.length_cons, List.length_nil]; omega))) fun o72 ho72 => ?_
          have h72 : ownOk 2 (k.2.1 ++ [x]).length ((k.2.1 ++ [x]).flatMap prC) o72 := by simpa using ho72
          rw [show k.2.1.flatMap prC ++ prC x = (k.2.1 ++ [x]).flatMap prC from by simp, show k.2.1.length + 1 = (k.2.1 ++ [x]).length from by simp]
          refine Lv (Fa 0 31) <| LeN (StS (h1 := V.ownV_one _ _)) fun _ _ => Nl <| Bn <| Ps <| Rg <| Lv Mv <| Lv Ar <| Lv Av <| Nl ?_
          exact roundA ((k.1 + 1, k.2.1 ++ [x], o72, k.2.2.2)) ⟨by simp only; omega, h72, by simp only [List.length_append, List.length_cons, List.length_nil]; omega, (fun h => by rw [← hk4 h, drop_at hx1]; simp), (fun h => ⟨by rw [← (hk5 h).1, repF_at hx1, if_neg (hno h)]; simp, by rw [← getF_no hx1 (hnk h)]; exact (hk5 h).2⟩)⟩ (by simp only; omega)
      · replace h42 := bF h42
        have h42 : x.key ≠ ky := h42
        have hno : k.2.2.2 = false → x.key ≠ ky := fun _ => h42
        have hnk : k.2.2.2 = false → x.key ≠ ky := fun _ => h42
        refine Lp <| Lp <| Lv Pf <| Nl <| Ps <| Cf <| Sq <| Rg <| Lv Mv <| Lv Nt <| Lv Mv <| Lp <| Lp <| Lv Pf <| Lv Mv <| Lp <| Lp <| Lp <| Lp <| Lv Pf <| Nl <| Ps <| Cf <| Sk <| Ps <| Rg <| Lv (Fa 0 31) <| Lv Ld ?_
        first | (refine LW.v rfl rfl (Val.loadW rfl Tryz.isAgg69 (by repeat (first | exact .here | exact .inner .here | exact .inner (.inner .here) | refine .there ?_)) (by exact Tryz.sizeOf69)) ?_) | (refine LW.v rfl rfl (Val.loadA [_, _] rfl Tryz.isAgg69 (by repeat (first | exact .here | exact .inner .here | exact .inner (.inner .here) | refine .there ?_)) (by rfl) Tryz.sizeOf69) ?_)
        refine Le (Eff.buildSlice (rfl) [_, _] Tryz.underlying31 Tryz.sizeOf69 (by exact Tryz.zeroValue69) rfl rfl rfl rfl (by rfl)) fun b71 _ => Le (Eff.appendAny (prC x) (sz := 2) (bytes := 32) (z := .agg #[.string ⟨#[]⟩, .string ⟨#[]⟩]) (xs := k.2.1.flatMap prC) (m0 := k.2.1.length) (o := k.2.2.1) (m := 1) (pk := [ownG 69 (k.2.1.flatMap prC) k.2.2.1]) rfl rfl Tryz.underlying31 (by kernel_rfl) rfl (by omega) (by repeat (first | exact .nil | apply Pick.cons | exact .here | apply Ext.there)) (by simp) hk2 (by rfl) (fun hm0 => ⟨b71, 0, rfl, fun w hw => V.range_of_block (o := 0) (cs := prC x) (r := []) (hw.own _ (show InS (b71, .cells (prC x).toArray 69 (0, 0)) _ from (by repeat (first | exact .here | exact .inner .here | exact .inner (.inner .here) | refine .there ?_))).mem) rfl⟩) (by rfl) (by first | omega | (simp only [List.length_append, List.length_cons, List.length_nil]; omega)) (by first | omega | (simp only [List.length_append, List.length_cons, List.length_nil]; omega))) fun o72 ho72 => ?_
        have h72 : ownOk 2 (k.2.1 ++ [x]).length ((k.2.1 ++ [x]).flatMap prC) o72 := by simpa using ho72
        rw [show k.2.1.flatMap prC ++ prC x = (k.2.1 ++ [x]).flatMap prC from by simp, show k.2.1.length + 1 = (k.2.1 ++ [x]).length from by simp]
        refine Lv (Fa 0 31) <| LeN (StS (h1 := V.ownV_one _ _)) fun _ _ => Nl <| Bn <| Ps <| Rg <| Lv Mv <| Lv Ar <| Lv Av <| Nl ?_
        exact roundA ((k.1 + 1, k.2.1 ++ [x], o72, k.2.2.2)) ⟨by simp only; omega, h72, by simp only [List.length_append, List.length_cons, List.length_nil]; omega, (fun h => by rw [← hk4 h, drop_at hx1]; simp), (fun h => ⟨by rw [← (hk5 h).1, repF_at hx1, if_neg (hno h)]; simp, by rw [← getF_no hx1 (hnk h)]; exact (hk5 h).2⟩)⟩ (by simp only; omega)
    · replace h27 := bF h27
      have hk8 : l.length ≤ k.1 := by omega
      refine Xt <| Te <| Te <| Bh <| Ps <| Sq <| Sq <| Rg <| Lv Mv <| Lv Nt <| Nl <| Ps ?_
      refine CW.cond rfl (fun h75 => ?_) (fun h75 => ?_)
      · exact absurd (hk5 (bT h75)).2 (by rw [List.drop_eq_nil_iff.2 hk8]; simp [getF])
      · replace h75 := bF h75
        have h75 : k.2.2.2 = true := by simpa using h75
        refine Sk <| Ps <| Sq <| Rg ?_
        first | (refine LW.v rfl rfl (Val.loadW rfl Tryz.isAgg34 (by repeat (first | exact .here | exact .inner .here | exact .inner (.inner .here) | refine .there ?_)) (by exact Tryz.sizeOf34)) ?_) | (refine LW.v rfl rfl (Val.loadA [_, _] rfl Tryz.isAgg34 (by repeat (first | exact .here | exact .inner .here | exact .inner (.inner .here) | refine .there ?_)) (by rfl) Tryz.sizeOf34) ?_)
        first | (refine LW.eN rfl (Eff.storeW (cs := [ownV k.2.1.length k.2.2.1, ownV q.length yq]) rfl rfl (by repeat (first | exact .here | exact .inner .here | exact .inner (.inner .here) | apply Upd.there)) (by rfl) Tryz.sizeOf34 (by simp [V.ownV_one])) ?_) | (refine LW.eN rfl (Eff.storeW (cs := [ownV (k.2.1 ++ [(Pr.mk ky v)]).length o82, ownV q.length yq]) rfl rfl (by repeat (first | exact .here | exact .inner .here | exact .inner (.inner .here) | apply Upd.there)) (by rfl) Tryz.sizeOf34 (by simp [V.ownV_one])) ?_)
        intro _ _
        refine Nl <| Ps <| Rt <| V.PQ.retC rfl rfl (by repeat (first | exact .here | exact .inner .here | exact .inner (.inner .here) | refine .there ?_)) Tryz.isAgg34 (by exact Tryz.sizeOf34) ?_
        have hd : l.drop k.1 = [] := List.drop_eq_nil_iff.2 (by omega)
        have hte : k.2.1 = putF l ky v := by rw [← hk4 h75, hd, List.append_nil]
        rw [hte] at hk2 ⊢
        intro w' hw
        exact ⟨(k.2.2.1, yq), ⟨hk2, hyq⟩, rfl, hw.pick (by repeat (first | exact .nil | apply Pick.cons | exact .here | apply Ext.there))⟩
end I
end Go.Proofs.YtlpbjmbgopfkhaaGreat

/- The document's Good: calls that are good. -/
namespace Go.Proofs.YtlpbjmbgopfkhaaGreat
open Go Go.RowKit V
set_option linter.unusedVariables false
set_option maxRecDepth 100000
namespace I
open V (str byC ownV ownG ownS ownOk)
theorem rshape1_c (x : Cal) (hk : x.ck = 2 ∨ x.ck = 3 ∨ x.ck = 4) (w : World) : Calls Tryz.prog 97 [.agg (calC x).toArray, .bool true].toArray w fun e w' => e = .returned (.int .i64 (if noKey x = true then 1 else 0)) ∧ Below w.heap.size w w' := by
  obtain ⟨ck, key, val, to, gp, gn, gc⟩ := x
  simp only at hk
  rcases hk with rfl | rfl | rfl
  · refine V.calls [] Tryz.func97 rfl Tryz.ntmps97 (Nat.le_of_ble_eq_true rfl) (V.sat_nil _) <| Sq <| Rg <| Le XA fun b2 _ => Lv Av <| Nl <| Ps <| Sq <| Sq <| Rg <| Lv (Fa 0 3) <| Lv Ld <| Nl <| Ps <| Bk <| Sq <| Sq <| Rg <| Lv Cm <| LW.re 11 (.bool false) rfl (by rfl) <| Lv Av <| Nl <| Ps <| Cf <| Sq <| Rg <| Lv Cm <| LW.re 12 (.bool true) rfl (by rfl) <| Lv Av <| Nl <| Ps <| Ct <| Sk <| Ps <| Ct <| Sq <| Rg <| Lv (Fa 1 9) <| Lv Ld <| Lv ES <| Nl <| Ps ?_
    refine CW.cond rfl (fun h16 => ?_) (fun h16 => ?_)
    · replace h16 := bT h16
      have h16 : key = [] := h16
      refine Sq <| Rg <| Lv Av <| Nl <| Ps <| Rt <| Br <| Tr <| Rt1 ?_
      intro w' hw; exact ⟨by unfold noKey keyB; simp_all, hw.below⟩
    · replace h16 := bF h16
      have h16 : key ≠ [] := h16
      refine Sk <| Bn <| Ps <| Sq <| Rg <| Lv Av <| Nl <| Ps <| Rt <| Rt1 ?_
      intro w' hw; exact ⟨by unfold noKey keyB; simp_all, hw.below⟩
  · refine V.calls [] Tryz.func97 rfl Tryz.ntmps97 (Nat.le_of_ble_eq_true rfl) (V.sat_nil _) <| Sq <| Rg <| Le XA fun b2 _ => Lv Av <| Nl <| Ps <| Sq <| Sq <| Rg <| Lv (Fa 0 3) <| Lv Ld <| Nl <| Ps <| Bk <| Sq <| Sq <| Rg <| Lv Cm <| LW.re 11 (.bool false) rfl (by rfl) <| Lv Av <| Nl <| Ps <| Cf <| Sq <| Rg <| Lv Cm <| LW.re 12 (.bool false) rfl (by rfl) <| Lv Av <| Nl <| Ps <| Cf <| Rg <| Lv Cm <| LW.re 13 (.bool true) rfl (by rfl) <| Lv Av <| Nl <| Ps <| Ct <| Sq <| Rg <| Lv (Fa 1 9) <| Lv Ld <| Lv ES <| Nl <| Ps ?_
    refine CW.cond rfl (fun h16 => ?_) (fun h16 => ?_)
    · replace h16 := bT h16
      have h16 : key = [] := h16
      refine Sq <| Rg <| Lv Av <| Nl <| Ps <| Rt <| Br <| Tr <| Rt1 ?_
      intro w' hw; exact ⟨by unfold noKey keyB; simp_all, hw.below⟩
    · replace h16 := bF h16
      have h16 : key ≠ [] := h16
      refine Sk <| Bn <| Ps <| Sq <| Rg <| Lv Av <| Nl <| Ps <| Rt <| Rt1 ?_
      intro w' hw; exact ⟨by unfold noKey keyB; simp_all, hw.below⟩
  · refine V.calls [] Tryz.func97 rfl Tryz.ntmps97 (Nat.le_of_ble_eq_true rfl) (V.sat_nil _) <| Sq <| Rg <| Le XA fun b2 _ => Lv Av <| Nl <| Ps <| Sq <| Sq <| Rg <| Lv (Fa 0 3) <| Lv Ld <| Nl <| Ps <| Bk <| Sq <| Sq <| Rg <| Lv Cm <| LW.re 11 (.bool false) rfl (by rfl) <| Lv Av <| Nl <| Ps <| Cf <| Sq <| Rg <| Lv Cm <| LW.re 12 (.bool false) rfl (by rfl) <| Lv Av <| Nl <| Ps <| Cf <| Rg <| Lv Cm <| LW.re 13 (.bool false) rfl (by rfl) <| Lv Av <| Nl <| Ps <| Cf <| Sq <| Sq <| Rg <| Lv Cm <| LW.re 18 (.bool true) rfl (by rfl) <| Lv Av <| Nl <| Ps <| Ct <| Sk <| Ps <| Ct <| Sk <| Bn <| Ps <| Sq <| Rg <| Lv Av <| Nl <| Ps <| Rt <| Rt1 ?_
    intro w' hw; exact ⟨by unfold noKey keyB; simp_all, hw.below⟩
theorem rshape_c (x : Cal) (L : List Cal) (hl : L.length ≤ 100000) (w : World) (hR : x.ck = 7 → CalR w x L) : Calls Tryz.prog 97 [.agg (calC x).toArray, .bool false].toArray w fun e w' => e = .returned (.int .i64 (if shapeB x L = true then 0 else 1)) ∧ Below w.heap.size w w' := by
  obtain ⟨ck, key, val, to, gp, gn, gc⟩ := x
  obtain rfl | rfl | rfl | rfl | rfl | rfl | rfl | hno | rfl : ck = 1 ∨ ck = 2 ∨ ck = 3 ∨ ck = 4 ∨ ck = 5 ∨ ck = 6 ∨ ck = 8 ∨ (ck < 1 ∨ 8 < ck) ∨ ck = 7 := by omega
  · refine V.calls [] Tryz.func97 rfl Tryz.ntmps97 (Nat.le_of_ble_eq_true rfl) (V.sat_nil _) <| Sq <| Rg <| Le XA fun b2 _ => Lv Av <| Nl <| Ps <| Sq <| Sq <| Rg <| Lv (Fa 0 3) <| Lv Ld <| Nl <| Ps <| Bk <| Sq <| Sq <| Rg <| Lv Cm <| LW.re 11 (.bool true) rfl (by rfl) <| Lv Av <| Nl <| Ps <| Ct <| Sk <| Ps <| Ct <| Sq <| Rg <| Lv (Fa 1 9) <| Lv Ld <| Lv ES <| Nl <| Ps ?_
    refine CW.cond rfl (fun h16 => ?_) (fun h16 => ?_)
    · replace h16 := bT h16
      have h16 : key = [] := h16
      refine Sq <| Rg <| Lv Av <| Nl <| Ps <| Rt <| Br <| Tr <| Rt1 ?_
      intro w' hw; exact ⟨by rw [show ∀ g n, shapeB (Cal.mk 1 key val to g n gc) L = false from fun g n => by unfold shapeB noKey keyB; simp [h16]]; rfl, hw.below⟩
    · replace h16 := bF h16
      have h16 : key ≠ [] := h16
      refine Sk <| Bn <| Ps <| Sq <| Rg <| Lv Av <| Nl <| Ps <| Rt <| Rt1 ?_
      intro w' hw; exact ⟨by rw [show ∀ g n, shapeB (Cal.mk 1 key val to g n gc) L = true from fun g n => by unfold shapeB noKey keyB; simp [h16]]; rfl, hw.below⟩
  · refine V.calls [] Tryz.func97 rfl Tryz.ntmps97 (Nat.le_of_ble_eq_true rfl) (V.sat_nil _) <| Sq <| Rg <| Le XA fun b2 _ => Lv Av <| Nl <| Ps <| Sq <| Sq <| Rg <| Lv (Fa 0 3) <| Lv Ld <| Nl <| Ps <| Bk <| Sq <| Sq <| Rg <| Lv Cm <| LW.re 11 (.bool false) rfl (by rfl) <| Lv Av <| Nl <| Ps <| Cf <| Sq <| Rg <| Lv Cm <| LW.re 12 (.bool true) rfl (by rfl) <| Lv Av <| Nl <| Ps <| Ct <| Sk <| Ps <| Ct <| Sq <| Rg <| Lv (Fa 1 9) <| Lv Ld <| Lv ES <| Nl <| Ps ?_
    refine CW.cond rfl (fun h16 => ?_) (fun h16 => ?_)
    · replace h16 := bT h16
      have h16 : key = [] := h16
      refine Sq <| Rg <| Lv Av <| Nl <| Ps <| Rt <| Br <| Tr <| Rt1 ?_
      intro w' hw; exact ⟨by rw [show ∀ g n, shapeB (Cal.mk 2 key val to g n gc) L = false from fun g n => by unfold shapeB noKey keyB; simp [h16]]; rfl, hw.below⟩
    · replace h16 := bF h16
      have h16 : key ≠ [] := h16
      refine Sk <| Bn <| Ps <| Sq <| Rg <| Lv Av <| Nl <| Ps <| Rt <| Rt1 ?_
      intro w' hw; exact ⟨by rw [show ∀ g n, shapeB (Cal.mk 2 key val to g n gc) L = true from fun g n => by unfold shapeB noKey keyB; simp [h16]]; rfl, hw.below⟩
  · refine V.calls [] Tryz.func97 rfl Tryz.ntmps97 (Nat.le_of_ble_eq_true rfl) (V.sat_nil _) <| Sq <| Rg <| Le XA fun b2 _ => Lv Av <| Nl <| Ps <| Sq <| Sq <| Rg <| Lv (Fa 0 3) <| Lv Ld <| Nl <| Ps <| Bk <| Sq <| Sq <| Rg <| Lv Cm <| LW.re 11 (.bool false) rfl (by rfl) <| Lv Av <| Nl <| Ps <| Cf <| Sq <| Rg <| Lv Cm <| LW.re 12 (.bool false) rfl (by rfl) <| Lv Av <| Nl <| Ps <| Cf <| Rg <| Lv Cm <| LW.re 13 (.bool true) rfl (by rfl) <| Lv Av <| Nl <| Ps <| Ct <| Sq <| Rg <| Lv (Fa 1 9) <| Lv Ld <| Lv ES <| Nl <| Ps ?_
    refine CW.cond rfl (fun h16 => ?_) (fun h16 => ?_)
    · replace h16 := bT h16
      have h16 : key = [] := h16
      refine Sq <| Rg <| Lv Av <| Nl <| Ps <| Rt <| Br <| Tr <| Rt1 ?_
      intro w' hw; exact ⟨by rw [show ∀ g n, shapeB (Cal.mk 3 key val to g n gc) L = false from fun g n => by unfold shapeB noKey keyB; simp [h16]]; rfl, hw.below⟩
    · replace h16 := bF h16
      have h16 : key ≠ [] := h16
      refine Sk <| Bn <| Ps <| Sq <| Rg <| Lv Av <| Nl <| Ps <| Rt <| Rt1 ?_
      intro w' hw; exact ⟨by rw [show ∀ g n, shapeB (Cal.mk 3 key val to g n gc) L = true from fun g n => by unfold shapeB noKey keyB; simp [h16]]; rfl, hw.below⟩
  · refine V.calls [] Tryz.func97 rfl Tryz.ntmps97 (Nat.le_of_ble_eq_true rfl) (V.sat_nil _) <| Sq <| Rg <| Le XA fun b2 _ => Lv Av <| Nl <| Ps <| Sq <| Sq <| Rg <| Lv (Fa 0 3) <| Lv Ld <| Nl <| Ps <| Bk <| Sq <| Sq <| Rg <| Lv Cm <| LW.re 11 (.bool false) rfl (by rfl) <| Lv Av <| Nl <| Ps <| Cf <| Sq <| Rg <| Lv Cm <| LW.re 12 (.bool false) rfl (by rfl) <| Lv Av <| Nl <| Ps <| Cf <| Rg <| Lv Cm <| LW.re 13 (.bool false) rfl (by rfl) <| Lv Av <| Nl <| Ps <| Cf <| Sq <| Sq <| Rg <| Lv Cm <| LW.re 18 (.bool true) rfl (by rfl) <| Lv Av <| Nl <| Ps <| Ct <| Sk <| Ps <| Ct <| Sk <| Bn <| Ps <| Sq <| Rg <| Lv Av <| Nl <| Ps <| Rt <| Rt1 ?_
    intro w' hw; exact ⟨by rw [show ∀ g n, shapeB (Cal.mk 4 key val to g n gc) L = true from fun g n => by unfold shapeB noKey keyB; simp]; rfl, hw.below⟩
  · refine V.calls [] Tryz.func97 rfl Tryz.ntmps97 (Nat.le_of_ble_eq_true rfl) (V.sat_nil _) <| Sq <| Rg <| Le XA fun b2 _ => Lv Av <| Nl <| Ps <| Sq <| Sq <| Rg <| Lv (Fa 0 3) <| Lv Ld <| Nl <| Ps <| Bk <| Sq <| Sq <| Rg <| Lv Cm <| LW.re 11 (.bool false) rfl (by rfl) <| Lv Av <| Nl <| Ps <| Cf <| Sq <| Rg <| Lv Cm <| LW.re 12 (.bool false) rfl (by rfl) <| Lv Av <| Nl <| Ps <| Cf <| Rg <| Lv Cm <| LW.re 13 (.bool false) rfl (by rfl) <| Lv Av <| Nl <| Ps <| Cf <| Sq <| Sq <| Rg <| Lv Cm <| LW.re 18 (.bool false) rfl (by rfl) <| Lv Av <| Nl <| Ps <| Cf <| Sq <| Rg <| Lv Cm <| LW.re 19 (.bool true) rfl (by rfl) <| Lv Av <| Nl <| Ps <| Ct <| Sk <| Ps <| Ct <| Sk <| Bn <| Ps <| Sq <| Rg <| Lv Av <| Nl <| Ps <| Rt <| Rt1 ?_
    intro w' hw; exact ⟨by rw [show ∀ g n, shapeB (Cal.mk 5 key val to g n gc) L = true from fun g n => by unfold shapeB noKey keyB; simp]; rfl, hw.below⟩
  · refine V.calls [] Tryz.func97 rfl Tryz.ntmps97 (Nat.le_of_ble_eq_true rfl) (V.sat_nil _) <| Sq <| Rg <| Le XA fun b2 _ => Lv Av <| Nl <| Ps <| Sq <| Sq <| Rg <| Lv (Fa 0 3) <| Lv Ld <| Nl <| Ps <| Bk <| Sq <| Sq <| Rg <| Lv Cm <| LW.re 11 (.bool false) rfl (by rfl) <| Lv Av <| Nl <| Ps <| Cf <| Sq <| Rg <| Lv Cm <| LW.re 12 (.bool false) rfl (by rfl) <| Lv Av <| Nl <| Ps <| Cf <| Rg <| Lv Cm <| LW.re 13 (.bool false) rfl (by rfl) <| Lv Av <| Nl <| Ps <| Cf <| Sq <| Sq <| Rg <| Lv Cm <| LW.re 18 (.bool false) rfl (by rfl) <| Lv Av <| Nl <| Ps <| Cf <| Sq <| Rg <| Lv Cm <| LW.re 19 (.bool false) rfl (by rfl) <| Lv Av <| Nl <| Ps <| Cf <| Sq <| Rg <| Lv Cm <| LW.re 20 (.bool true) rfl (by rfl) <| Lv Av <| Nl <| Ps <| Ct <| Sk <| Ps <| Ct <| Sk <| Bn <| Ps <| Sq <| Rg <| Lv Av <| Nl <| Ps <| Rt <| Rt1 ?_
    intro w' hw; exact ⟨by rw [show ∀ g n, shapeB (Cal.mk 6 key val to g n gc) L = true from fun g n => by unfold shapeB noKey keyB; simp]; rfl, hw.below⟩
  · refine V.calls [] Tryz.func97 rfl Tryz.ntmps97 (Nat.le_of_ble_eq_true rfl) (V.sat_nil _) <| Sq <| Rg <| Le XA fun b2 _ => Lv Av <| Nl <| Ps <| Sq <| Sq <| Rg <| Lv (Fa 0 3) <| Lv Ld <| Nl <| Ps <| Bk <| Sq <| Sq <| Rg <| Lv Cm <| LW.re 11 (.bool false) rfl (by rfl) <| Lv Av <| Nl <| Ps <| Cf <| Sq <| Rg <| Lv Cm <| LW.re 12 (.bool false) rfl (by rfl) <| Lv Av <| Nl <| Ps <| Cf <| Rg <| Lv Cm <| LW.re 13 (.bool false) rfl (by rfl) <| Lv Av <| Nl <| Ps <| Cf <| Sq <| Sq <| Rg <| Lv Cm <| LW.re 18 (.bool false) rfl (by rfl) <| Lv Av <| Nl <| Ps <| Cf <| Sq <| Rg <| Lv Cm <| LW.re 19 (.bool false) rfl (by rfl) <| Lv Av <| Nl <| Ps <| Cf <| Sq <| Rg <| Lv Cm <| LW.re 20 (.bool false) rfl (by rfl) <| Lv Av <| Nl <| Ps <| Cf <| Rg <| Lv Cm <| LW.re 21 (.bool true) rfl (by rfl) <| Lv Av <| Nl <| Ps <| Ct <| Sk <| Bn <| Ps <| Sq <| Rg <| Lv Av <| Nl <| Ps <| Rt <| Rt1 ?_
    intro w' hw; exact ⟨by rw [show ∀ g n, shapeB (Cal.mk 8 key val to g n gc) L = true from fun g n => by unfold shapeB noKey keyB; simp]; rfl, hw.below⟩
  · refine V.calls [] Tryz.func97 rfl Tryz.ntmps97 (Nat.le_of_ble_eq_true rfl) (V.sat_nil _) <| Sq <| Rg <| Le XA fun b2 _ => Lv Av <| Nl <| Ps <| Sq <| Sq <| Rg <| Lv (Fa 0 3) <| Lv Ld <| Nl <| Ps <| Bk <| Sq <| Sq <| Rg <| Lv Cm <| LW.re 11 (.bool false) rfl (by simp <;> omega) <| Lv Av <| Nl <| Ps <| Cf <| Sq <| Rg <| Lv Cm <| LW.re 12 (.bool false) rfl (by simp <;> omega) <| Lv Av <| Nl <| Ps <| Cf <| Rg <| Lv Cm <| LW.re 13 (.bool false) rfl (by simp <;> omega) <| Lv Av <| Nl <| Ps <| Cf <| Sq <| Sq <| Rg <| Lv Cm <| LW.re 18 (.bool false) rfl (by simp <;> omega) <| Lv Av <| Nl <| Ps <| Cf <| Sq <| Rg <| Lv Cm <| LW.re 19 (.bool false) rfl (by simp <;> omega) <| Lv Av <| Nl <| Ps <| Cf <| Sq <| Rg <| Lv Cm <| LW.re 20 (.bool false) rfl (by simp <;> omega) <| Lv Av <| Nl <| Ps <| Cf <| Rg <| Lv Cm <| LW.re 21 (.bool false) rfl (by simp <;> omega) <| Lv Av <| Nl <| Ps <| Cf <| Sq <| Rg <| Lv Cm <| LW.re 23 (.bool false) rfl (by simp <;> omega) <| Lv Av <| Nl <| Ps <| Cf <| Sq <| Rg <| Lv Av <| Nl <| Ps <| Rt <| Br <| Tr <| Rt1 ?_
    intro w' hw; exact ⟨by rw [show ∀ g n, shapeB (Cal.mk ck key val to g n gc) L = false from fun g n => by unfold shapeB noKey; simp <;> omega]; rfl, hw.below⟩
  · obtain ⟨⟨hn, hc⟩, hL⟩ := hR rfl
    simp only at hn hc hL
    subst hn
    refine V.calls [] Tryz.func97 rfl Tryz.ntmps97 (Nat.le_of_ble_eq_true rfl) (V.sat_nil _) <| Sq <| Rg <| Le XA fun b2 _ => Lv Av <| Nl <| Ps <| Sq <| Sq <| Rg <| Lv (Fa 0 3) <| Lv Ld <| Nl <| Ps <| Bk <| Sq <| Sq <| Rg <| Lv Cm <| LW.re 11 (.bool false) rfl (by rfl) <| Lv Av <| Nl <| Ps <| Cf <| Sq <| Rg <| Lv Cm <| LW.re 12 (.bool false) rfl (by rfl) <| Lv Av <| Nl <| Ps <| Cf <| Rg <| Lv Cm <| LW.re 13 (.bool false) rfl (by rfl) <| Lv Av <| Nl <| Ps <| Cf <| Sq <| Sq <| Rg <| Lv Cm <| LW.re 18 (.bool false) rfl (by rfl) <| Lv Av <| Nl <| Ps <| Cf <| Sq <| Rg <| Lv Cm <| LW.re 19 (.bool false) rfl (by rfl) <| Lv Av <| Nl <| Ps <| Cf <| Sq <| Rg <| Lv Cm <| LW.re 20 (.bool false) rfl (by rfl) <| Lv Av <| Nl <| Ps <| Cf <| Rg <| Lv Cm <| LW.re 21 (.bool false) rfl (by rfl) <| Lv Av <| Nl <| Ps <| Cf <| Sq <| Rg <| Lv Cm <| LW.re 23 (.bool true) rfl (by rfl) <| Lv Av <| Nl <| Ps <| Ct <| Sq <| Sq <| Rg <| Lv Mv <| Lv Mv ?_
    refine LW.split (d := 25) rfl (fun h25 => ?_) (fun h25 => ?_)
    · replace h25 := bT h25
      refine Lp <| Lp <| Lp <| Lp <| Lv Pt <| Lv Mv <| Lp <| Lp <| Lp <| Lp <| Lv Pt <| Nl <| Ps <| Ct <| Sq <| Rg <| Lv Av <| Nl <| Ps <| Rt <| Tr <| Br <| Tr <| Rt1 ?_
      intro w' hw; exact ⟨by rw [show ∀ g, shapeB (Cal.mk 7 key val to g L.length gc) L = false from fun g => by unfold shapeB noKey keyB; simp_all <;> omega]; rfl, hw.below⟩
    · replace h25 := bF h25
      refine Lv (Fa 4 22) <| Lv Ld <| Lv Ln <| Lv Cm ?_
      refine LW.split (d := 29) rfl (fun h29 => ?_) (fun h29 => ?_)
      · replace h29 := bT h29
        have h29 : (L.length : Int) < 1 := h29
        refine Lv Pf <| Lv Mv <| Lp <| Lp <| Lp <| Lp <| Lv Pt <| Nl <| Ps <| Ct <| Sq <| Rg <| Lv Av <| Nl <| Ps <| Rt <| Tr <| Br <| Tr <| Rt1 ?_
        intro w' hw; exact ⟨by rw [show ∀ g, shapeB (Cal.mk 7 key val to g L.length gc) L = false from fun g => by unfold shapeB noKey keyB; simp_all <;> omega]; rfl, hw.below⟩
      · replace h29 := bF h29
        have h29 : (1 : Int) ≤ L.length := h29
        refine Lv Pf <| Lv Mv <| Lv (Fa 4 22) <| Lv Ld <| Lv Ln <| Lv Cm <| Lv Pf <| Nl <| Ps ?_
        refine CW.cond rfl (fun h36 => ?_) (fun h36 => ?_)
        · replace h36 := bT h36
          have h36 : (L.length : Int) > 3 := h36
          refine Sq <| Rg <| Lv Av <| Nl <| Ps <| Rt <| Tr <| Br <| Tr <| Rt1 ?_
          intro w' hw; exact ⟨by rw [show ∀ g, shapeB (Cal.mk 7 key val to g L.length gc) L = false from fun g => by unfold shapeB noKey keyB; simp_all <;> omega]; rfl, hw.below⟩
        · replace h36 := bF h36
          have h36 : (L.length : Int) ≤ 3 := h36
          refine Sk <| Ps <| Sq <| Rg <| Lv Av <| Nl <| Ps <| Bk <| loopA (γ := Nat) (fun k => [(1, .bool false), (2, .pointer (some ⟨b2, 0, none⟩)), (5, .int .i64 (k : Nat))]) (fun _ => [[(b2, .cells (calC ⟨7, key, val, to, gp, L.length, gc⟩).toArray 52 (0, 0))]]) (fun k => k ≤ L.length ∧ gshB [] L = gshB (L.take k) (L.drop k) ∧ ∀ z ∈ L.take k, grpB z.ck = true) (fun k => L.length - k) (0) ⟨Nat.zero_le _, by simp, by simp⟩ fun k => ?_
          rintro ⟨hk1, hk2, hk3⟩
          refine Sq <| Sq <| Rg <| Lv Mv <| Lv (Fa 4 22) <| Lv Ld <| Lv Ln <| Lv Cm <| Nl <| Ps ?_
          refine CW.cond rfl (fun h41 => ?_) (fun h41 => ?_)
          · replace h41 := bT h41
            have h41 : (k : Int) < L.length := h41
            have hk9 : k < L.length := by omega
            obtain ⟨bb1, o1, y, rfl, hb1, hx1, hr1⟩ := V.slAt_at hL rfl (k := k) hk9
            refine Sk <| Ps <| Sq <| Bk <| Sq <| Rg <| Lv (Fa 4 22) <| Lv Ld <| Lv Mv <| Lv (Val.indexAddrN rfl rfl Tryz.underlying22 Tryz.sizeOf52 hk9) <| Lv (Fa 0 3) <| Lv (Val.loadO rfl Tryz.isAgg3 hb1 (by simp [ids]) (hr1 k y hx1 0 _ rfl)) <| Lv Av <| Nl <| Ps <| Sq <| Sq <| Rg <| Lv Mv <| Lv Cm ?_
            refine LW.split (d := 51) rfl (fun h51 => ?_) (fun h51 => ?_)
            · replace h51 := bT h51
              have h51 : y.ck ≠ 2 := by simpa using h51
              refine Lv Mv <| Lv Mv <| Lv Cm ?_
              refine LW.split (d := 54) rfl (fun h54 => ?_) (fun h54 => ?_)
              · replace h54 := bT h54
                have h54 : y.ck ≠ 3 := by simpa using h54
                refine Lv Pt <| Lv Mv <| Lv Mv <| Lv Cm ?_
                refine LW.split (d := 58) rfl (fun h58 => ?_) (fun h58 => ?_)
                · replace h58 := bT h58
                  have h58 : y.ck ≠ 4 := by simpa using h58
                  have hsub : subB (L.take k) y = false := by unfold subB grpB; simp_all
                  refine Lv Pt <| Lv Mv <| Lp <| Lp <| Lp <| Lp <| Lp <| Lp <| Lp <| Lv Pt <| Nl <| Ps <| Ct <| Sq <| Rg <| Lv Av <| Nl <| Ps <| Rt <| Tr <| Br <| Tr <| Tr <| Br <| Br <| Tr <| Rt1 ?_
                  intro w' hw; exact ⟨by rw [show ∀ g, shapeB (Cal.mk 7 key val to g L.length gc) L = false from fun g => by unfold shapeB; rw [gsh_no (y := y) (r := L.drop (k + 1)) (hk2.trans (by rw [drop_at hx1])) hsub]; simp_all]; rfl, hw.below⟩
                · replace h58 := bF h58
                  have h58 : y.ck = 4 := by simpa using h58
                  refine Lv Pt <| Lv Mv <| Lv (Fa 4 22) <| Lv Ld <| Lv Mv <| Lv (Val.indexAddrN rfl rfl Tryz.underlying22 Tryz.sizeOf52 hk9) <| Lv (Val.loadOA rfl Tryz.isAgg52 hb1 (by simp [ids]) (hr1 k y hx1) Tryz.sizeOf52) <| Le (CV fun w hw => rshape1_c y (by omega) w) fun _ _ => Lv Cm <| Lv Pf <| Nl <| Ps ?_
                  refine CW.cond rfl (fun h68 => ?_) (fun h68 => ?_)
                  · replace h68 := bT h68
                    have h67 : noKey y = true := by
                      by_cases h9 : noKey y = true
                      · exact h9
                      · rw [if_neg h9] at h68; simp at h68
                    have hsub : subB (L.take k) y = false := by unfold subB; simp_all
                    refine Sq <| Rg <| Lv Av <| Nl <| Ps <| Rt <| Tr <| Br <| Tr <| Tr <| Br <| Br <| Tr <| Rt1 ?_
                    intro w' hw; exact ⟨by rw [show ∀ g, shapeB (Cal.mk 7 key val to g L.length gc) L = false from fun g => by unfold shapeB; rw [gsh_no (y := y) (r := L.drop (k + 1)) (hk2.trans (by rw [drop_at hx1])) hsub]; simp_all]; rfl, hw.below⟩
                  · replace h68 := bF h68
                    have h67 : noKey y = false := by
                      cases h9 : noKey y
                      · rfl
                      · rw [if_pos h9] at h68; simp at h68
                    refine Sk <| Ps <| Sq <| Rg <| Lv Av <| Nl <| Ps <| Bk <| loopA (γ := Nat) (fun j => [(1, .bool false), (2, .pointer (some ⟨b2, 0, none⟩)), (5, .int .i64 (k : Nat)), (6, .int .i64 y.ck), (7, .int .i64 (j : Nat))]) (fun _ => [[(b2, .cells (calC ⟨7, key, val, to, (some ⟨bb1, o1, none⟩), L.length, gc⟩).toArray 52 (0, 0))]]) (fun j => j ≤ k ∧ grpB y.ck = true ∧ ∀ z ∈ L.take j, clashB y z = false) (fun j => k - j) (0) ⟨Nat.zero_le _, by unfold grpB; simp_all, by simp⟩ fun j => ?_
                    rintro ⟨hj1, hgy, hj2⟩
                    refine Sq <| Sq <| Rg <| Lv Mv <| Lv Mv <| Lv Cm <| Nl <| Ps ?_
                    refine CW.cond rfl (fun h71 => ?_) (fun h71 => ?_)
                    · replace h71 := bT h71
                      have hj9 : j < k := by omega
                      have hj8 : j < L.length := by omega
                      obtain ⟨z, hx2⟩ : ∃ z, L[j]? = some z := ⟨L[j]'(by omega), by simp⟩
                      have hgz := hk3 z (List.mem_iff_getElem?.2 ⟨j, by rw [List.getElem?_take_of_lt hj9]; exact hx2⟩)
                      refine Sk <| Ps <| Sq <| Bk <| Sq <| Qt <| Qv Mv <| Qv Cm ?_
                      refine QW.split (d := 75) rfl (fun h75 => ?_) (fun h75 => ?_)
                      · replace h75 := bT h75
                        have h75 : y.ck ≠ 4 := by simpa using h75
                        refine Qv Mv <| Qv (Fa 4 22) <| Qv Ld <| Qv Mv <| Qv (Val.indexAddrN rfl rfl Tryz.underlying22 Tryz.sizeOf52 hj8) <| Qv (Fa 0 3) <| Qv (Val.loadO rfl Tryz.isAgg3 hb1 (by simp [ids]) (hr1 j z hx2 0 _ rfl)) <| Qv Cm ?_
                        refine QW.split (d := 83) rfl (fun h83 => ?_) (fun h83 => ?_)
                        · replace h83 := bT h83
                          have h83 : z.ck ≠ 4 := by simpa using h83
                          refine Qv Pt <| Qv Mv <| Qv (Fa 4 22) <| Qv Ld <| Qv Mv <| Qv (Val.indexAddrN rfl rfl Tryz.underlying22 Tryz.sizeOf52 hk9) <| Qv (Fa 1 9) <| Qv (Val.loadO rfl Tryz.isAgg9 hb1 (by simp [ids]) (hr1 k y hx1 1 _ rfl)) <| Qv (Fa 4 22) <| Qv Ld <| Qv Mv <| Qv (Val.indexAddrN rfl rfl Tryz.underlying22 Tryz.sizeOf52 hj8) <| Qv (Fa 1 9) <| Qv (Val.loadO rfl Tryz.isAgg9 hb1 (by simp [ids]) (hr1 j z hx2 1 _ rfl)) <| Qv ES <| Qv Pt <| Ql <| Ps ?_
                          refine CW.cond rfl (fun h99 => ?_) (fun h99 => ?_)
                          · replace h99 := bT h99
                            have h98 : y.key = z.key := by simpa using h99
                            have hcl : clashB y z = true := by unfold clashB keyB; unfold grpB at hgz hgy; simp_all <;> omega
                            refine Sq <| Rg <| Lv Av <| Nl <| Ps <| Rt <| Br <| Tr <| Tr <| Br <| Br <| Tr <| Tr <| Br <| Br <| Tr <| Rt1 ?_
                            intro w' hw; exact ⟨by rw [show ∀ g, shapeB (Cal.mk 7 key val to g L.length gc) L = false from fun g => by unfold shapeB; rw [gsh_no (y := y) (r := L.drop (k + 1)) (hk2.trans (by rw [drop_at hx1])) (by unfold subB; simp only [Bool.and_eq_false_iff]; right; rw [List.all_eq_false]; exact ⟨z, by rw [List.mem_iff_getElem?]; exact ⟨j, by rw [List.getElem?_take_of_lt hj9]; exact hx2⟩, by rw [hcl]; decide⟩)]; simp_all]; rfl, hw.below⟩
                          · replace h99 := bF h99
                            have h98 : y.key ≠ z.key := by simpa using h99
                            refine Sk <| Bn <| Ps <| Rg <| Lv Mv <| Lv Ar <| Lv Av <| Nl ?_
                            refine PQ.round (j + 1) ⟨by omega, hgy, fun z9 hz9 => by
                              rw [List.take_add_one, hx2] at hz9
                              rcases List.mem_append.1 hz9 with h9 | h9
                              · exact hj2 z9 h9
                              · obtain rfl : z9 = z := by simpa using h9
                                unfold clashB keyB; simp_all⟩ (by omega) (by repeat (first | exact trivial | refine ⟨rfl, ?_⟩)) (by repeat (first | exact .nil | apply Pick.cons | exact .here | apply Ext.there))
                        · replace h83 := bF h83
                          have h83 : z.ck = 4 := by simpa using h83
                          refine Qv Pt <| Qv Mv <| Qp <| Qp <| Qp <| Qp <| Qp <| Qp <| Qp <| Qp <| Qp <| Qp <| Qp <| Qp <| Qp <| Qv Pf <| Ql <| Ps <| Cf <| Sk <| Bn <| Ps <| Rg <| Lv Mv <| Lv Ar <| Lv Av <| Nl ?_
                          refine PQ.round (j + 1) ⟨by omega, hgy, fun z9 hz9 => by
                            rw [List.take_add_one, hx2] at hz9
                            rcases List.mem_append.1 hz9 with h9 | h9
                            · exact hj2 z9 h9
                            · obtain rfl : z9 = z := by simpa using h9
                              unfold clashB keyB; simp_all⟩ (by omega) (by repeat (first | exact trivial | refine ⟨rfl, ?_⟩)) (by repeat (first | exact .nil | apply Pick.cons | exact .here | apply Ext.there))
                      · replace h75 := bF h75
                        have h75 : y.ck = 4 := by simpa using h75
                        refine Qv Mv <| Qp <| Qp <| Qp <| Qp <| Qp <| Qp <| Qp <| Qv Pf <| Qv Mv <| Qp <| Qp <| Qp <| Qp <| Qp <| Qp <| Qp <| Qp <| Qp <| Qp <| Qp <| Qp <| Qp <| Qv Pf <| Ql <| Ps <| Cf <| Sk <| Bn <| Ps <| Rg <| Lv Mv <| Lv Ar <| Lv Av <| Nl ?_
                        refine PQ.round (j + 1) ⟨by omega, hgy, fun z9 hz9 => by
                          rw [List.take_add_one, hx2] at hz9
                          rcases List.mem_append.1 hz9 with h9 | h9
                          · exact hj2 z9 h9
                          · obtain rfl : z9 = z := by simpa using h9
                            unfold clashB keyB; simp_all⟩ (by omega) (by repeat (first | exact trivial | refine ⟨rfl, ?_⟩)) (by repeat (first | exact .nil | apply Pick.cons | exact .here | apply Ext.there))
                    · replace h71 := bF h71
                      have hj9 : k ≤ j := by omega
                      refine Xt <| Te <| Te <| Bh <| Bn <| Ps <| Rg <| Lv Mv <| Lv Ar <| Lv Av <| Nl ?_
                      refine PQ.round (k + 1) ⟨by omega, by
                        rw [hk2, drop_at hx1, gshB, List.take_add_one, hx1]
                        have h9 : subB (L.take k) y = true := by
                          unfold subB
                          simp only [Bool.and_eq_true, List.all_eq_true]
                          refine ⟨by simp_all, fun z hz => by rw [hj2 z (by rw [show j = k by omega]; exact hz)]; rfl⟩
                        rw [h9]; rfl, fun z hz => by
                        rw [List.take_add_one, hx1] at hz
                        rcases List.mem_append.1 hz with h9 | h9
                        · exact hk3 z h9
                        · obtain rfl : z = y := by simpa using h9
                          exact hgy⟩ (by omega) (by repeat (first | exact trivial | refine ⟨rfl, ?_⟩)) (by repeat (first | exact .nil | apply Pick.cons | exact .here | apply Ext.there))
              · replace h54 := bF h54
                have h54 : y.ck = 3 := by simpa using h54
                refine Lv Pt <| Lv Mv <| Lp <| Lp <| Lv Pf <| Lv Mv <| Lv (Fa 4 22) <| Lv Ld <| Lv Mv <| Lv (Val.indexAddrN rfl rfl Tryz.underlying22 Tryz.sizeOf52 hk9) <| Lv (Val.loadOA rfl Tryz.isAgg52 hb1 (by simp [ids]) (hr1 k y hx1) Tryz.sizeOf52) <| Le (CV fun w hw => rshape1_c y (by omega) w) fun _ _ => Lv Cm <| Lv Pf <| Nl <| Ps ?_
                refine CW.cond rfl (fun h68 => ?_) (fun h68 => ?_)
                · replace h68 := bT h68
                  have h67 : noKey y = true := by
                    by_cases h9 : noKey y = true
                    · exact h9
                    · rw [if_neg h9] at h68; simp at h68
                  have hsub : subB (L.take k) y = false := by unfold subB; simp_all
                  refine Sq <| Rg <| Lv Av <| Nl <| Ps <| Rt <| Tr <| Br <| Tr <| Tr <| Br <| Br <| Tr <| Rt1 ?_
                  intro w' hw; exact ⟨by rw [show ∀ g, shapeB (Cal.mk 7 key val to g L.length gc) L = false from fun g => by unfold shapeB; rw [gsh_no (y := y) (r := L.drop (k + 1)) (hk2.trans (by rw [drop_at hx1])) hsub]; simp_all]; rfl, hw.below⟩
                · replace h68 := bF h68
                  have h67 : noKey y = false := by
                    cases h9 : noKey y
                    · rfl
                    · rw [if_pos h9] at h68; simp at h68
                  refine Sk <| Ps <| Sq <| Rg <| Lv Av <| Nl <| Ps <| Bk <| loopA (γ := Nat) (fun j => [(1, .bool false), (2, .pointer (some ⟨b2, 0, none⟩)), (5, .int .i64 (k : Nat)), (6, .int .i64 y.ck), (7, .int .i64 (j : Nat))]) (fun _ => [[(b2, .cells (calC ⟨7, key, val, to, (some ⟨bb1, o1, none⟩), L.length, gc⟩).toArray 52 (0, 0))]]) (fun j => j ≤ k ∧ grpB y.ck = true ∧ ∀ z ∈ L.take j, clashB y z = false) (fun j => k - j) (0) ⟨Nat.zero_le _, by unfold grpB; simp_all, by simp⟩ fun j => ?_
                  rintro ⟨hj1, hgy, hj2⟩
                  refine Sq <| Sq <| Rg <| Lv Mv <| Lv Mv <| Lv Cm <| Nl <| Ps ?_
                  refine CW.cond rfl (fun h71 => ?_) (fun h71 => ?_)
                  · replace h71 := bT h71
                    have hj9 : j < k := by omega
                    have hj8 : j < L.length := by omega
                    obtain ⟨z, hx2⟩ : ∃ z, L[j]? = some z := ⟨L[j]'(by omega), by simp⟩
                    have hgz := hk3 z (List.mem_iff_getElem?.2 ⟨j, by rw [List.getElem?_take_of_lt hj9]; exact hx2⟩)
                    refine Sk <| Ps <| Sq <| Bk <| Sq <| Qt <| Qv Mv <| Qv Cm ?_
                    refine QW.split (d := 75) rfl (fun h75 => ?_) (fun h75 => ?_)
                    · replace h75 := bT h75
                      have h75 : y.ck ≠ 4 := by simpa using h75
                      refine Qv Mv <| Qv (Fa 4 22) <| Qv Ld <| Qv Mv <| Qv (Val.indexAddrN rfl rfl Tryz.underlying22 Tryz.sizeOf52 hj8) <| Qv (Fa 0 3) <| Qv (Val.loadO rfl Tryz.isAgg3 hb1 (by simp [ids]) (hr1 j z hx2 0 _ rfl)) <| Qv Cm ?_
                      refine QW.split (d := 83) rfl (fun h83 => ?_) (fun h83 => ?_)
                      · replace h83 := bT h83
                        have h83 : z.ck ≠ 4 := by simpa using h83
                        refine Qv Pt <| Qv Mv <| Qv (Fa 4 22) <| Qv Ld <| Qv Mv <| Qv (Val.indexAddrN rfl rfl Tryz.underlying22 Tryz.sizeOf52 hk9) <| Qv (Fa 1 9) <| Qv (Val.loadO rfl Tryz.isAgg9 hb1 (by simp [ids]) (hr1 k y hx1 1 _ rfl)) <| Qv (Fa 4 22) <| Qv Ld <| Qv Mv <| Qv (Val.indexAddrN rfl rfl Tryz.underlying22 Tryz.sizeOf52 hj8) <| Qv (Fa 1 9) <| Qv (Val.loadO rfl Tryz.isAgg9 hb1 (by simp [ids]) (hr1 j z hx2 1 _ rfl)) <| Qv ES <| Qv Pt <| Ql <| Ps ?_
                        refine CW.cond rfl (fun h99 => ?_) (fun h99 => ?_)
                        · replace h99 := bT h99
                          have h98 : y.key = z.key := by simpa using h99
                          have hcl : clashB y z = true := by unfold clashB keyB; unfold grpB at hgz hgy; simp_all <;> omega
                          refine Sq <| Rg <| Lv Av <| Nl <| Ps <| Rt <| Br <| Tr <| Tr <| Br <| Br <| Tr <| Tr <| Br <| Br <| Tr <| Rt1 ?_
                          intro w' hw; exact ⟨by rw [show ∀ g, shapeB (Cal.mk 7 key val to g L.length gc) L = false from fun g => by unfold shapeB; rw [gsh_no (y := y) (r := L.drop (k + 1)) (hk2.trans (by rw [drop_at hx1])) (by unfold subB; simp only [Bool.and_eq_false_iff]; right; rw [List.all_eq_false]; exact ⟨z, by rw [List.mem_iff_getElem?]; exact ⟨j, by rw [List.getElem?_take_of_lt hj9]; exact hx2⟩, by rw [hcl]; decide⟩)]; simp_all]; rfl, hw.below⟩
                        · replace h99 := bF h99
                          have h98 : y.key ≠ z.key := by simpa using h99
                          refine Sk <| Bn <| Ps <| Rg <| Lv Mv <| Lv Ar <| Lv Av <| Nl ?_
                          refine PQ.round (j + 1) ⟨by omega, hgy, fun z9 hz9 => by
                            rw [List.take_add_one, hx2] at hz9
                            rcases List.mem_append.1 hz9 with h9 | h9
                            · exact hj2 z9 h9
                            · obtain rfl : z9 = z := by simpa using h9
                              unfold clashB keyB; simp_all⟩ (by omega) (by repeat (first | exact trivial | refine ⟨rfl, ?_⟩)) (by repeat (first | exact .nil | apply Pick.cons | exact .here | apply Ext.there))
                      · replace h83 := bF h83
                        have h83 : z.ck = 4 := by simpa using h83
                        refine Qv Pt <| Qv Mv <| Qp <| Qp <| Qp <| Qp <| Qp <| Qp <| Qp <| Qp <| Qp <| Qp <| Qp <| Qp <| Qp <| Qv Pf <| Ql <| Ps <| Cf <| Sk <| Bn <| Ps <| Rg <| Lv Mv <| Lv Ar <| Lv Av <| Nl ?_
                        refine PQ.round (j + 1) ⟨by omega, hgy, fun z9 hz9 => by
                          rw [List.take_add_one, hx2] at hz9
                          rcases List.mem_append.1 hz9 with h9 | h9
                          · exact hj2 z9 h9
                          · obtain rfl : z9 = z := by simpa using h9
                            unfold clashB keyB; simp_all⟩ (by omega) (by repeat (first | exact trivial | refine ⟨rfl, ?_⟩)) (by repeat (first | exact .nil | apply Pick.cons | exact .here | apply Ext.there))
                    · replace h75 := bF h75
                      have h75 : y.ck = 4 := by simpa using h75
                      refine Qv Mv <| Qp <| Qp <| Qp <| Qp <| Qp <| Qp <| Qp <| Qv Pf <| Qv Mv <| Qp <| Qp <| Qp <| Qp <| Qp <| Qp <| Qp <| Qp <| Qp <| Qp <| Qp <| Qp <| Qp <| Qv Pf <| Ql <| Ps <| Cf <| Sk <| Bn <| Ps <| Rg <| Lv Mv <| Lv Ar <| Lv Av <| Nl ?_
                      refine PQ.round (j + 1) ⟨by omega, hgy, fun z9 hz9 => by
                        rw [List.take_add_one, hx2] at hz9
                        rcases List.mem_append.1 hz9 with h9 | h9
                        · exact hj2 z9 h9
                        · obtain rfl : z9 = z := by simpa using h9
                          unfold clashB keyB; simp_all⟩ (by omega) (by repeat (first | exact trivial | refine ⟨rfl, ?_⟩)) (by repeat (first | exact .nil | apply Pick.cons | exact .here | apply Ext.there))
                  · replace h71 := bF h71
                    have hj9 : k ≤ j := by omega
                    refine Xt <| Te <| Te <| Bh <| Bn <| Ps <| Rg <| Lv Mv <| Lv Ar <| Lv Av <| Nl ?_
                    refine PQ.round (k + 1) ⟨by omega, by
                      rw [hk2, drop_at hx1, gshB, List.take_add_one, hx1]
                      have h9 : subB (L.take k) y = true := by
                        unfold subB
                        simp only [Bool.and_eq_true, List.all_eq_true]
                        refine ⟨by simp_all, fun z hz => by rw [hj2 z (by rw [show j = k by omega]; exact hz)]; rfl⟩
                      rw [h9]; rfl, fun z hz => by
                      rw [List.take_add_one, hx1] at hz
                      rcases List.mem_append.1 hz with h9 | h9
                      · exact hk3 z h9
                      · obtain rfl : z = y := by simpa using h9
                        exact hgy⟩ (by omega) (by repeat (first | exact trivial | refine ⟨rfl, ?_⟩)) (by repeat (first | exact .nil | apply Pick.cons | exact .here | apply Ext.there))
            · replace h51 := bF h51
              have h51 : y.ck = 2 := by simpa using h51
              refine Lv Mv <| Lp <| Lp <| Lv Pf <| Lv Mv <| Lp <| Lp <| Lv Pf <| Lv Mv <| Lv (Fa 4 22) <| Lv Ld <| Lv Mv <| Lv (Val.indexAddrN rfl rfl Tryz.underlying22 Tryz.sizeOf52 hk9) <| Lv (Val.loadOA rfl Tryz.isAgg52 hb1 (by simp [ids]) (hr1 k y hx1) Tryz.sizeOf52) <| Le (CV fun w hw => rshape1_c y (by omega) w) fun _ _ => Lv Cm <| Lv Pf <| Nl <| Ps ?_
              refine CW.cond rfl (fun h68 => ?_) (fun h68 => ?_)
              · replace h68 := bT h68
                have h67 : noKey y = true := by
                  by_cases h9 : noKey y = true
                  · exact h9
                  · rw [if_neg h9] at h68; simp at h68
                have hsub : subB (L.take k) y = false := by unfold subB; simp_all
                refine Sq <| Rg <| Lv Av <| Nl <| Ps <| Rt <| Tr <| Br <| Tr <| Tr <| Br <| Br <| Tr <| Rt1 ?_
                intro w' hw; exact ⟨by rw [show ∀ g, shapeB (Cal.mk 7 key val to g L.length gc) L = false from fun g => by unfold shapeB; rw [gsh_no (y := y) (r := L.drop (k + 1)) (hk2.trans (by rw [drop_at hx1])) hsub]; simp_all]; rfl, hw.below⟩
              · replace h68 := bF h68
                have h67 : noKey y = false := by
                  cases h9 : noKey y
                  · rfl
                  · rw [if_pos h9] at h68; simp at h68
                refine Sk <| Ps <| Sq <| Rg <| Lv Av <| Nl <| Ps <| Bk <| loopA (γ := Nat) (fun j => [(1, .bool false), (2, .pointer (some ⟨b2, 0, none⟩)), (5, .int .i64 (k : Nat)), (6, .int .i64 y.ck), (7, .int .i64 (j : Nat))]) (fun _ => [[(b2, .cells (calC ⟨7, key, val, to, (some ⟨bb1, o1, none⟩), L.length, gc⟩).toArray 52 (0, 0))]]) (fun j => j ≤ k ∧ grpB y.ck = true ∧ ∀ z ∈ L.take j, clashB y z = false) (fun j => k - j) (0) ⟨Nat.zero_le _, by unfold grpB; simp_all, by simp⟩ fun j => ?_
                rintro ⟨hj1, hgy, hj2⟩
                refine Sq <| Sq <| Rg <| Lv Mv <| Lv Mv <| Lv Cm <| Nl <| Ps ?_
                refine CW.cond rfl (fun h71 => ?_) (fun h71 => ?_)
                · replace h71 := bT h71
                  have hj9 : j < k := by omega
                  have hj8 : j < L.length := by omega
                  obtain ⟨z, hx2⟩ : ∃ z, L[j]? = some z := ⟨L[j]'(by omega), by simp⟩
                  have hgz := hk3 z (List.mem_iff_getElem?.2 ⟨j, by rw [List.getElem?_take_of_lt hj9]; exact hx2⟩)
                  refine Sk <| Ps <| Sq <| Bk <| Sq <| Qt <| Qv Mv <| Qv Cm ?_
                  refine QW.split (d := 75) rfl (fun h75 => ?_) (fun h75 => ?_)
                  · replace h75 := bT h75
                    have h75 : y.ck ≠ 4 := by simpa using h75
                    refine Qv Mv <| Qv (Fa 4 22) <| Qv Ld <| Qv Mv <| Qv (Val.indexAddrN rfl rfl Tryz.underlying22 Tryz.sizeOf52 hj8) <| Qv (Fa 0 3) <| Qv (Val.loadO rfl Tryz.isAgg3 hb1 (by simp [ids]) (hr1 j z hx2 0 _ rfl)) <| Qv Cm ?_
                    refine QW.split (d := 83) rfl (fun h83 => ?_) (fun h83 => ?_)
                    · replace h83 := bT h83
                      have h83 : z.ck ≠ 4 := by simpa using h83
                      refine Qv Pt <| Qv Mv <| Qv (Fa 4 22) <| Qv Ld <| Qv Mv <| Qv (Val.indexAddrN rfl rfl Tryz.underlying22 Tryz.sizeOf52 hk9) <| Qv (Fa 1 9) <| Qv (Val.loadO rfl Tryz.isAgg9 hb1 (by simp [ids]) (hr1 k y hx1 1 _ rfl)) <| Qv (Fa 4 22) <| Qv Ld <| Qv Mv <| Qv (Val.indexAddrN rfl rfl Tryz.underlying22 Tryz.sizeOf52 hj8) <| Qv (Fa 1 9) <| Qv (Val.loadO rfl Tryz.isAgg9 hb1 (by simp [ids]) (hr1 j z hx2 1 _ rfl)) <| Qv ES <| Qv Pt <| Ql <| Ps ?_
                      refine CW.cond rfl (fun h99 => ?_) (fun h99 => ?_)
                      · replace h99 := bT h99
                        have h98 : y.key = z.key := by simpa using h99
                        have hcl : clashB y z = true := by unfold clashB keyB; unfold grpB at hgz hgy; simp_all <;> omega
                        refine Sq <| Rg <| Lv Av <| Nl <| Ps <| Rt <| Br <| Tr <| Tr <| Br <| Br <| Tr <| Tr <| Br <| Br <| Tr <| Rt1 ?_
                        intro w' hw; exact ⟨by rw [show ∀ g, shapeB (Cal.mk 7 key val to g L.length gc) L = false from fun g => by unfold shapeB; rw [gsh_no (y := y) (r := L.drop (k + 1)) (hk2.trans (by rw [drop_at hx1])) (by unfold subB; simp only [Bool.and_eq_false_iff]; right; rw [List.all_eq_false]; exact ⟨z, by rw [List.mem_iff_getElem?]; exact ⟨j, by rw [List.getElem?_take_of_lt hj9]; exact hx2⟩, by rw [hcl]; decide⟩)]; simp_all]; rfl, hw.below⟩
                      · replace h99 := bF h99
                        have h98 : y.key ≠ z.key := by simpa using h99
                        refine Sk <| Bn <| Ps <| Rg <| Lv Mv <| Lv Ar <| Lv Av <| Nl ?_
                        refine PQ.round (j + 1) ⟨by omega, hgy, fun z9 hz9 => by
                          rw [List.take_add_one, hx2] at hz9
                          rcases List.mem_append.1 hz9 with h9 | h9
                          · exact hj2 z9 h9
                          · obtain rfl : z9 = z := by simpa using h9
                            unfold clashB keyB; simp_all⟩ (by omega) (by repeat (first | exact trivial | refine ⟨rfl, ?_⟩)) (by repeat (first | exact .nil | apply Pick.cons | exact .here | apply Ext.there))
                    · replace h83 := bF h83
                      have h83 : z.ck = 4 := by simpa using h83
                      refine Qv Pt <| Qv Mv <| Qp <| Qp <| Qp <| Qp <| Qp <| Qp <| Qp <| Qp <| Qp <| Qp <| Qp <| Qp <| Qp <| Qv Pf <| Ql <| Ps <| Cf <| Sk <| Bn <| Ps <| Rg <| Lv Mv <| Lv Ar <| Lv Av <| Nl ?_
                      refine PQ.round (j + 1) ⟨by omega, hgy, fun z9 hz9 => by
                        rw [List.take_add_one, hx2] at hz9
                        rcases List.mem_append.1 hz9 with h9 | h9
                        · exact hj2 z9 h9
                        · obtain rfl : z9 = z := by simpa using h9
                          unfold clashB keyB; simp_all⟩ (by omega) (by repeat (first | exact trivial | refine ⟨rfl, ?_⟩)) (by repeat (first | exact .nil | apply Pick.cons | exact .here | apply Ext.there))
                  · replace h75 := bF h75
                    have h75 : y.ck = 4 := by simpa using h75
                    refine Qv Mv <| Qp <| Qp <| Qp <| Qp <| Qp <| Qp <| Qp <| Qv Pf <| Qv Mv <| Qp <| Qp <| Qp <| Qp <| Qp <| Qp <| Qp <| Qp <| Qp <| Qp <| Qp <| Qp <| Qp <| Qv Pf <| Ql <| Ps <| Cf <| Sk <| Bn <| Ps <| Rg <| Lv Mv <| Lv Ar <| Lv Av <| Nl ?_
                    refine PQ.round (j + 1) ⟨by omega, hgy, fun z9 hz9 => by
                      rw [List.take_add_one, hx2] at hz9
                      rcases List.mem_append.1 hz9 with h9 | h9
                      · exact hj2 z9 h9
                      · obtain rfl : z9 = z := by simpa using h9
                        unfold clashB keyB; simp_all⟩ (by omega) (by repeat (first | exact trivial | refine ⟨rfl, ?_⟩)) (by repeat (first | exact .nil | apply Pick.cons | exact .here | apply Ext.there))
                · replace h71 := bF h71
                  have hj9 : k ≤ j := by omega
                  refine Xt <| Te <| Te <| Bh <| Bn <| Ps <| Rg <| Lv Mv <| Lv Ar <| Lv Av <| Nl ?_
                  refine PQ.round (k + 1) ⟨by omega, by
                    rw [hk2, drop_at hx1, gshB, List.take_add_one, hx1]
                    have h9 : subB (L.take k) y = true := by
                      unfold subB
                      simp only [Bool.and_eq_true, List.all_eq_true]
                      refine ⟨by simp_all, fun z hz => by rw [hj2 z (by rw [show j = k by omega]; exact hz)]; rfl⟩
                    rw [h9]; rfl, fun z hz => by
                    rw [List.take_add_one, hx1] at hz
                    rcases List.mem_append.1 hz with h9 | h9
                    · exact hk3 z h9
                    · obtain rfl : z = y := by simpa using h9
                      exact hgy⟩ (by omega) (by repeat (first | exact trivial | refine ⟨rfl, ?_⟩)) (by repeat (first | exact .nil | apply Pick.cons | exact .here | apply Ext.there))
          · replace h41 := bF h41
            have h41 : (L.length : Int) ≤ k := h41
            have hk9 : L.length ≤ k := by omega
            refine Xt <| Te <| Te <| Bh <| Bn <| Ps <| Sq <| Rg <| Lv Av <| Nl <| Ps <| Rt <| Rt1 ?_
            intro w' hw; exact ⟨by rw [show ∀ g, shapeB (Cal.mk 7 key val to g L.length gc) L = true from fun g => by unfold shapeB; rw [hk2, show L.drop k = [] from List.drop_eq_nil_iff.2 (by omega)]; unfold noKey keyB; simp_all [gshB] <;> omega]; rfl, hw.below⟩
end I
end Go.Proofs.YtlpbjmbgopfkhaaGreat

/- The document's Good: calls that are too long; good ones. -/
namespace Go.Proofs.YtlpbjmbgopfkhaaGreat
open Go Go.RowKit V
set_option linter.unusedVariables false
set_option maxRecDepth 100000
namespace I
open V (str byC ownV ownG ownS ownOk)
theorem rlong1_c (x : Cal) (hk : x.ck ≠ 7) (w : World) : Calls Tryz.prog 98 [.agg (calC x).toArray].toArray w fun e w' => e = .returned (.bool (long1 x)) ∧ Below w.heap.size w w' := by
  obtain ⟨ck, key, val, to, gp, gn, gc⟩ := x
  simp only at hk
  obtain rfl | rfl | rfl | rfl | rfl | hno : ck = 1 ∨ ck = 3 ∨ ck = 2 ∨ ck = 4 ∨ ck = 6 ∨ (ck ≠ 1 ∧ ck ≠ 2 ∧ ck ≠ 3 ∧ ck ≠ 4 ∧ ck ≠ 6) := by omega
  · refine V.calls [] Tryz.func98 rfl Tryz.ntmps98 (Nat.le_of_ble_eq_true rfl) (V.sat_nil _) <| Sq <| Rg <| Le XA fun b1 _ => Lv Av <| Nl <| Ps <| Sq <| Sq <| Rg <| Lv (Fa 0 3) <| Lv Ld <| Nl <| Ps <| Bk <| Sq <| Sq <| Rg <| Lv Cm <| LW.re 7 (.bool true) rfl (by rfl) <| Lv Av <| Nl <| Ps <| Ct <| Sk <| Ps <| Ct <| Sq <| Rg <| Lv (Fa 1 9) <| Lv Ld <| Lv LnS <| Lv Cm <| Lv Av <| Nl <| Ps <| Rt <| Br <| Tr <| Rt1 ?_
    intro w' hw; exact ⟨by unfold long1; first | (simp_all; done) | (congr 2; rw [Bool.eq_iff_iff]; simp; omega) | (congr 2; rw [Bool.eq_iff_iff]; simp_all; omega), hw.below⟩
  · refine V.calls [] Tryz.func98 rfl Tryz.ntmps98 (Nat.le_of_ble_eq_true rfl) (V.sat_nil _) <| Sq <| Rg <| Le XA fun b1 _ => Lv Av <| Nl <| Ps <| Sq <| Sq <| Rg <| Lv (Fa 0 3) <| Lv Ld <| Nl <| Ps <| Bk <| Sq <| Sq <| Rg <| Lv Cm <| LW.re 7 (.bool false) rfl (by rfl) <| Lv Av <| Nl <| Ps <| Cf <| Rg <| Lv Cm <| LW.re 8 (.bool true) rfl (by rfl) <| Lv Av <| Nl <| Ps <| Ct <| Sq <| Rg <| Lv (Fa 1 9) <| Lv Ld <| Lv LnS <| Lv Cm <| Lv Av <| Nl <| Ps <| Rt <| Br <| Tr <| Rt1 ?_
    intro w' hw; exact ⟨by unfold long1; first | (simp_all; done) | (congr 2; rw [Bool.eq_iff_iff]; simp; omega) | (congr 2; rw [Bool.eq_iff_iff]; simp_all; omega), hw.below⟩
  · refine V.calls [] Tryz.func98 rfl Tryz.ntmps98 (Nat.le_of_ble_eq_true rfl) (V.sat_nil _) <| Sq <| Rg <| Le XA fun b1 _ => Lv Av <| Nl <| Ps <| Sq <| Sq <| Rg <| Lv (Fa 0 3) <| Lv Ld <| Nl <| Ps <| Bk <| Sq <| Sq <| Rg <| Lv Cm <| LW.re 7 (.bool false) rfl (by rfl) <| Lv Av <| Nl <| Ps <| Cf <| Rg <| Lv Cm <| LW.re 8 (.bool false) rfl (by rfl) <| Lv Av <| Nl <| Ps <| Cf <| Sq <| Rg <| Lv Cm <| LW.re 14 (.bool true) rfl (by rfl) <| Lv Av <| Nl <| Ps <| Ct <| Sq <| Rg <| Lv (Fa 1 9) <| Lv Ld <| Lv LnS <| Lv Cm ?_
    refine LW.split (d := 18) rfl (fun h18 => ?_) (fun h18 => ?_)
    · replace h18 := bT h18
      have h18 : (16 : Int) < key.length := h18
      refine Lv Mv <| Lp <| Lp <| Lp <| Lp <| Lv Pt <| Lv Av <| Nl <| Ps <| Rt <| Br <| Tr <| Rt1 ?_
      intro w' hw; exact ⟨by unfold long1; first | (simp_all; done) | (congr 2; rw [Bool.eq_iff_iff]; simp; omega) | (congr 2; rw [Bool.eq_iff_iff]; simp_all; omega), hw.below⟩
    · replace h18 := bF h18
      have h18 : (key.length : Int) ≤ 16 := h18
      refine Lv Mv <| Lv (Fa 2 9) <| Lv Ld <| Lv LnS <| Lv Cm <| Lv Pf <| Lv Av <| Nl <| Ps <| Rt <| Br <| Tr <| Rt1 ?_
      intro w' hw; exact ⟨by unfold long1; first | (simp_all; done) | (congr 2; rw [Bool.eq_iff_iff]; simp; omega) | (congr 2; rw [Bool.eq_iff_iff]; simp_all; omega), hw.below⟩
  · refine V.calls [] Tryz.func98 rfl Tryz.ntmps98 (Nat.le_of_ble_eq_true rfl) (V.sat_nil _) <| Sq <| Rg <| Le XA fun b1 _ => Lv Av <| Nl <| Ps <| Sq <| Sq <| Rg <| Lv (Fa 0 3) <| Lv Ld <| Nl <| Ps <| Bk <| Sq <| Sq <| Rg <| Lv Cm <| LW.re 7 (.bool false) rfl (by rfl) <| Lv Av <| Nl <| Ps <| Cf <| Rg <| Lv Cm <| LW.re 8 (.bool false) rfl (by rfl) <| Lv Av <| Nl <| Ps <| Cf <| Sq <| Rg <| Lv Cm <| LW.re 14 (.bool false) rfl (by rfl) <| Lv Av <| Nl <| Ps <| Cf <| Sq <| Rg <| Lv Cm <| LW.re 26 (.bool true) rfl (by rfl) <| Lv Av <| Nl <| Ps <| Ct <| Sq <| Rg <| Lv (Fa 2 9) <| Lv Ld <| Lv LnS <| Lv Cm <| Lv Av <| Nl <| Ps <| Rt <| Br <| Tr <| Rt1 ?_
    intro w' hw; exact ⟨by unfold long1; first | (simp_all; done) | (congr 2; rw [Bool.eq_iff_iff]; simp; omega) | (congr 2; rw [Bool.eq_iff_iff]; simp_all; omega), hw.below⟩
  · refine V.calls [] Tryz.func98 rfl Tryz.ntmps98 (Nat.le_of_ble_eq_true rfl) (V.sat_nil _) <| Sq <| Rg <| Le XA fun b1 _ => Lv Av <| Nl <| Ps <| Sq <| Sq <| Rg <| Lv (Fa 0 3) <| Lv Ld <| Nl <| Ps <| Bk <| Sq <| Sq <| Rg <| Lv Cm <| LW.re 7 (.bool false) rfl (by rfl) <| Lv Av <| Nl <| Ps <| Cf <| Rg <| Lv Cm <| LW.re 8 (.bool false) rfl (by rfl) <| Lv Av <| Nl <| Ps <| Cf <| Sq <| Rg <| Lv Cm <| LW.re 14 (.bool false) rfl (by rfl) <| Lv Av <| Nl <| Ps <| Cf <| Sq <| Rg <| Lv Cm <| LW.re 26 (.bool false) rfl (by rfl) <| Lv Av <| Nl <| Ps <| Cf <| Sq <| Rg <| Lv Cm <| LW.re 32 (.bool true) rfl (by rfl) <| Lv Av <| Nl <| Ps <| Ct <| Sq <| Rg <| Lv (Fa 1 9) <| Lv Ld <| Lv LnS <| Lv Cm ?_
    refine LW.split (d := 36) rfl (fun h36 => ?_) (fun h36 => ?_)
    · replace h36 := bT h36
      have h36 : (16 : Int) < key.length := h36
      refine Lv Mv <| Lp <| Lp <| Lp <| Lp <| Lv Pt <| Lv Av <| Nl <| Ps <| Rt <| Br <| Tr <| Rt1 ?_
      intro w' hw; exact ⟨by unfold long1; first | (simp_all; done) | (congr 2; rw [Bool.eq_iff_iff]; simp; omega) | (congr 2; rw [Bool.eq_iff_iff]; simp_all; omega), hw.below⟩
    · replace h36 := bF h36
      have h36 : (key.length : Int) ≤ 16 := h36
      refine Lv Mv <| Lv (Fa 3 9) <| Lv Ld <| Lv LnS <| Lv Cm <| Lv Pf <| Lv Av <| Nl <| Ps <| Rt <| Br <| Tr <| Rt1 ?_
      intro w' hw; exact ⟨by unfold long1; first | (simp_all; done) | (congr 2; rw [Bool.eq_iff_iff]; simp; omega) | (congr 2; rw [Bool.eq_iff_iff]; simp_all; omega), hw.below⟩
  · refine V.calls [] Tryz.func98 rfl Tryz.ntmps98 (Nat.le_of_ble_eq_true rfl) (V.sat_nil _) <| Sq <| Rg <| Le XA fun b1 _ => Lv Av <| Nl <| Ps <| Sq <| Sq <| Rg <| Lv (Fa 0 3) <| Lv Ld <| Nl <| Ps <| Bk <| Sq <| Sq <| Rg <| Lv Cm <| LW.re 7 (.bool false) rfl (by simp <;> omega) <| Lv Av <| Nl <| Ps <| Cf <| Rg <| Lv Cm <| LW.re 8 (.bool false) rfl (by simp <;> omega) <| Lv Av <| Nl <| Ps <| Cf <| Sq <| Rg <| Lv Cm <| LW.re 14 (.bool false) rfl (by simp <;> omega) <| Lv Av <| Nl <| Ps <| Cf <| Sq <| Rg <| Lv Cm <| LW.re 26 (.bool false) rfl (by simp <;> omega) <| Lv Av <| Nl <| Ps <| Cf <| Sq <| Rg <| Lv Cm <| LW.re 32 (.bool false) rfl (by simp <;> omega) <| Lv Av <| Nl <| Ps <| Cf <| Sq <| Rg <| Lv Cm <| LW.re 44 (.bool false) rfl (by simp <;> omega) <| Lv Av <| Nl <| Ps <| Cf <| Sk <| Bn <| Ps <| Sq <| Rg <| Lv Av <| Nl <| Ps <| Rt <| Rt1 ?_
    intro w' hw; exact ⟨by unfold long1; first | (simp_all; done) | (congr 2; rw [Bool.eq_iff_iff]; simp; omega) | (congr 2; rw [Bool.eq_iff_iff]; simp_all; omega), hw.below⟩
theorem rlongG_c (x : Cal) (L : List Cal) (hk : x.ck = 7) (hL7 : ∀ y ∈ L, y.ck ≠ 7) (hl : L.length ≤ 1000) (w : World) (hR : CalR w x L) : Calls Tryz.prog 98 [.agg (calC x).toArray].toArray w fun e w' => e = .returned (.bool (L.any long1)) ∧ Below w.heap.size w w' := by
  obtain ⟨ck, key, val, to, gp, gn, gc⟩ := x
  obtain ⟨⟨hn, hc⟩, hL⟩ := hR
  simp only at hn hc hL hk
  subst hn; subst hk
  refine V.calls [] Tryz.func98 rfl Tryz.ntmps98 (Nat.le_of_ble_eq_true rfl) (V.sat_nil _) <| Sq <| Rg <| Le XA fun b1 _ => Lv Av <| Nl <| Ps <| Sq <| Sq <| Rg <| Lv (Fa 0 3) <| Lv Ld <| Nl <| Ps <| Bk <| Sq <| Sq <| Rg <| Lv Cm <| LW.re 7 (.bool false) rfl (by rfl) <| Lv Av <| Nl <| Ps <| Cf <| Rg <| Lv Cm <| LW.re 8 (.bool false) rfl (by rfl) <| Lv Av <| Nl <| Ps <| Cf <| Sq <| Rg <| Lv Cm <| LW.re 14 (.bool false) rfl (by rfl) <| Lv Av <| Nl <| Ps <| Cf <| Sq <| Rg <| Lv Cm <| LW.re 26 (.bool false) rfl (by rfl) <| Lv Av <| Nl <| Ps <| Cf <| Sq <| Rg <| Lv Cm <| LW.re 32 (.bool false) rfl (by rfl) <| Lv Av <| Nl <| Ps <| Cf <| Sq <| Rg <| Lv Cm <| LW.re 44 (.bool true) rfl (by rfl) <| Lv Av <| Nl <| Ps <| Ct <| Sq <| Rg <| Lv Av <| Nl <| Ps <| Bk <| loopA (γ := Nat) (fun k => [(1, .pointer (some ⟨b1, 0, none⟩)), (3, .int .i64 (k : Nat))]) (fun _ => [[(b1, .cells (calC ⟨7, key, val, to, gp, L.length, gc⟩).toArray 52 (0, 0))]]) (fun k => k ≤ L.length ∧ ∀ z ∈ L.take k, long1 z = false) (fun k => L.length - k) (0) ⟨Nat.zero_le _, by simp⟩ fun k => ?_
  rintro ⟨hk1, hk2⟩
  refine Sq <| Sq <| Rg <| Lv Mv <| Lv (Fa 4 22) <| Lv Ld <| Lv Ln <| Lv Cm <| Nl <| Ps ?_
  refine CW.cond rfl (fun h49 => ?_) (fun h49 => ?_)
  · replace h49 := bT h49
    have h49 : (k : Int) < L.length := h49
    have hk9 : k < L.length := by omega
    obtain ⟨bb1, o1, y, rfl, hb1, hx1, hr1⟩ := V.slAt_at hL rfl (k := k) hk9
    refine Sk <| Ps <| Sq <| Bk <| Sq <| Rg <| Lv (Fa 4 22) <| Lv Ld <| Lv Mv <| Lv (Val.indexAddrN rfl rfl Tryz.underlying22 Tryz.sizeOf52 hk9) <| Lv (Val.loadOA rfl Tryz.isAgg52 hb1 (by simp [ids]) (hr1 k y hx1) Tryz.sizeOf52) <| Le (CV fun w hw => rlong1_c y (hL7 y (List.mem_of_getElem? hx1)) w) fun _ _ => Nl <| Ps ?_
    refine CW.cond rfl (fun h57 => ?_) (fun h57 => ?_)
    · replace h57 := bT h57
      have h57 : long1 y = true := h57
      refine Sq <| Rg <| Lv Av <| Nl <| Ps <| Rt <| Br <| Tr <| Tr <| Br <| Br <| Tr <| Rt1 ?_
      intro w' hw; exact ⟨by rw [List.any_eq_true.2 ⟨y, List.mem_of_getElem? hx1, h57⟩], hw.below⟩
    · replace h57 := bF h57
      have h57 : long1 y = false := h57
      refine Sk <| Bn <| Ps <| Rg <| Lv Mv <| Lv Ar <| Lv Av <| Nl ?_
      refine PQ.round (k + 1) ⟨by omega, fun z hz => by
        rw [List.take_add_one, hx1] at hz
        rcases List.mem_append.1 hz with h9 | h9
        · exact hk2 z h9
        · obtain rfl : z = y := by simpa using h9
          exact h57⟩ (by omega) (by repeat (first | exact trivial | refine ⟨rfl, ?_⟩)) (by repeat (first | exact .nil | apply Pick.cons | exact .here | apply Ext.there))
  · replace h49 := bF h49
    have h49 : (L.length : Int) ≤ k := h49
    have hk9 : L.length ≤ k := by omega
    refine Xt <| Te <| Te <| Bh <| Bn <| Ps <| Sq <| Rg <| Lv Av <| Nl <| Ps <| Rt <| Rt1 ?_
    intro w' hw; exact ⟨by rw [List.any_eq_false.2 (fun z hz => by rw [hk2 z (by rw [List.take_of_length_le hk9]; exact hz)]; decide)], hw.below⟩
theorem rlongA_c (x : Cal) (L : List Cal) (hsh : shapeB x L = true) (hl : L.length ≤ 1000) (w : World) (hR : x.ck = 7 → CalR w x L) : Calls Tryz.prog 98 [.agg (calC x).toArray].toArray w fun e w' => e = .returned (.bool (longB x L)) ∧ Below w.heap.size w w' := by
  unfold longB
  by_cases h7 : x.ck = 7
  · rw [if_pos h7]; exact rlongG_c x L h7 (sub_kind (shape_sub hsh h7)) hl w (hR h7)
  · rw [if_neg h7]; exact rlong1_c x h7 w
theorem rgood_c (x : Cal) (L : List Cal) (hl : L.length ≤ 1000) (w : World) (hR : x.ck = 7 → CalR w x L) : Calls Tryz.prog 57 [.agg (calC x).toArray].toArray w fun e w' => e = .returned (.int .i64 (goodF x L)) ∧ Below w.heap.size w w' := by
  refine V.calls [] Tryz.func57 rfl Tryz.ntmps57 (Nat.le_of_ble_eq_true rfl) (V.sat_nil _) <| Sq <| Rg <| Le XA fun b1 _ => Lv Av <| Nl <| Ps <| Sq <| Rg <| Lv (Lw (l := calC x)) <| Le (CV fun w hw => rshape_c x L (by omega) w (fun h => (hR h).hp hw)) fun _ _ => Lv Av <| Nl <| Ps <| Sq <| Sq <| Rg <| Lv Mv <| Lv Cm ?_
  refine LW.split (d := 7) rfl (fun h7 => ?_) (fun h7 => ?_)
  · replace h7 := bT h7
    have hsh : shapeB x L = true := by
      cases h9 : shapeB x L
      · rw [h9] at h7; simp at h7
      · rfl
    refine Lv Mv <| Lv (Lw (l := calC x)) <| Le (CV fun w hw => rlongA_c x L hsh hl w (fun h => (hR h).hp hw)) fun _ _ => Lv Pt <| Nl <| Ps ?_
    refine CW.cond rfl (fun h11 => ?_) (fun h11 => ?_)
    · replace h11 := bT h11
      refine Rg <| Lv Av <| Nl <| Ps <| Sq <| Rg <| Lv Mv <| Lv Av <| Nl <| Ps <| Rt <| Rt1 ?_
      intro w' hw; exact ⟨by unfold goodF; simp_all, hw.below⟩
    · replace h11 := bF h11
      refine Sk <| Ps <| Sq <| Rg <| Lv Mv <| Lv Av <| Nl <| Ps <| Rt <| Rt1 ?_
      intro w' hw; exact ⟨by unfold goodF; simp_all, hw.below⟩
  · replace h7 := bF h7
    have hsh : shapeB x L = false := by
      cases h9 : shapeB x L
      · rfl
      · rw [h9] at h7; simp at h7
    refine Lv Mv <| Lp <| Lp <| Lv Pf <| Nl <| Ps <| Cf <| Sk <| Ps <| Sq <| Rg <| Lv Mv <| Lv Av <| Nl <| Ps <| Rt <| Rt1 ?_
    intro w' hw; exact ⟨by unfold goodF; simp_all, hw.below⟩
end I
end Go.Proofs.YtlpbjmbgopfkhaaGreat

