import Derived.Test.YtlpbjmbgopfkhaaGreatJn1
import Derived.Lib.Hide
import Derived.Test.YtlpbjmbgopfkhaaGreatV35
import Derived.Test.YtlpbjmbgopfkhaaGreatV22
import Derived.Test.YtlpbjmbgopfkhaaGreatV20
/- Copies of a device. -/
namespace Go.Proofs.YtlpbjmbgopfkhaaGreat
open Go Go.RowKit V
set_option linter.unusedVariables false
set_option maxRecDepth 100000
theorem places204 : ∀ w, ((Array.mapM (fun (f : Field) => do pure (f.offset, ← sizeOf f.type)) (Tryz.prog.fieldsOf 204) : Sem (Array (Nat × Nat)))).run Tryz.prog w = .ok [(0, 1), (1, 1), (2, 1), (3, 1), (4, 1)].toArray w := by
  intro w; kernel_rfl
instance : Und Tryz.prog 204 (dOf Tryz.underlying204) := ⟨Tryz.underlying204⟩
instance : Siz Tryz.prog 204 (kOf Tryz.sizeOf204) := ⟨Tryz.sizeOf204⟩
instance : AgT Tryz.prog 204 := ⟨Tryz.isAgg204⟩
instance : Zer Tryz.prog 204 (zOf Tryz.zeroValue204) := ⟨Tryz.zeroValue204⟩
instance : Plc Tryz.prog 204 (fOf Tryz.underlying204) (lOf (P := Tryz.prog) places204) := ⟨places204, Tryz.underlying204⟩
instance : Cal Tryz.prog 84 := ⟨Tryz.call84⟩
instance : Cal Tryz.prog 112 := ⟨Tryz.call112⟩
instance : Cal Tryz.prog 113 := ⟨Tryz.call113⟩
instance : Cal Tryz.prog 114 := ⟨Tryz.call114⟩
instance : Cal Tryz.prog 146 := ⟨Tryz.call146⟩
open V (str byC ownV ownG ownS ownOk)
theorem counts_c (db cb : Nat) (D : List Ce) (k : Cnt) (w : World) (hs : Sat (devS db cb D k) w) : Calls Tryz.prog 113 [.pointer (some ⟨db, 0, none⟩)].toArray w fun e w' => e = .returned (.agg (ctC k).toArray) ∧ Below w.heap.size w w' := by
  refine V.calls (devS db cb D k) Tryz.func113 rfl Tryz.ntmps113 (Nat.le_of_ble_eq_true rfl) hs <| Sq <| Rg <| Le AA fun b2 _ => Nl <| Ps <| Sq <| Sq <| Rg <| Lv Mv <| Lv EP <| Nl <| Ps <| Cf <| Sk <| Ps <| Sq <| Rg <| Lv Mv <| Lv Nz <| Lv (Fa 1 155) <| Lv Av <| Nl <| Ps <| Sq <| Dr ([[(db, .cells (dvC cb D k).toArray 157 (0, 0))]]) <| Rv 0 rfl Mv <| Rv 1 rfl Nz <| Rv 2 rfl (Fa 0 153) <| Rv 4 rfl Mv <| Rv 5 rfl Nz <| Rv 6 rfl (Fa 1 153) <| Rv 8 rfl Mv <| Rv 9 rfl Nz <| Rv 10 rfl (Fa 2 153) <| Rv 12 rfl Mv <| Rv 13 rfl Nz <| Rv 14 rfl (Fa 3 153) <| Rv 16 rfl Mv <| Rv 17 rfl Nz <| Rv 18 rfl (Fa 4 153) <| Re 3 rfl (CV fun w hw => iLd_c db 1 (dvC cb D k) 157 k.a w rfl hw.pk.sat) fun _ _ => Re 7 rfl (CV fun w hw => iLd_c db 2 (dvC cb D k) 157 k.b w rfl hw.pk.sat) fun _ _ => Re 11 rfl (CV fun w hw => iLd_c db 3 (dvC cb D k) 157 k.c w rfl hw.pk.sat) fun _ _ => Re 15 rfl (CV fun w hw => iLd_c db 4 (dvC cb D k) 157 k.d w rfl hw.pk.sat) fun _ _ => Re 19 rfl (CV fun w hw => iLd_c db 5 (dvC cb D k) 157 k.e w rfl hw.pk.sat) fun _ _ => Rv 20 rfl (Bd [_, _, _, _, _]) <| ReN 21 rfl StW fun _ _ => Rd <| Ps <| Rt <| PQ.retC (l := ctC k) rfl rfl (by repeat (first | exact .here | exact .inner .here | exact .inner (.inner .here) | refine .there ?_)) Tryz.isAgg204 (by exact Tryz.sizeOf204) ?_
  intro w' hw; exact ⟨rfl, hw.ro (by repeat (first | exact .nil | apply Pick.cons | exact .here | apply Ext.there)) hs⟩
/-- A device's copy: its cells lie in a slice of its own. -/
abbrev cpS (p : Nat) (o : V.OwnO) (D : List Ce) (k : Cnt) : Sg := [[(p, .cells (ownV D.length o :: ctC k).toArray 157 (0, 0))], ownG 141 (D.flatMap ceC) o]
theorem copy_c (db cb : Nat) (D : List Ce) (k : Cnt) (hD : D.length ≤ 1000) (w : World) (hs : Sat (devS db cb D k) w) : Calls Tryz.prog 83 [.pointer (some ⟨db, 0, none⟩)].toArray w fun e w' => ∃ x : Nat × V.OwnO, ownOk 193 D.length (D.flatMap ceC) x.2 ∧ e = .returned (.pointer (some ⟨x.1, 0, none⟩)) ∧ Hp ⟨w, V.ids (devS db cb D k)⟩ (cpS x.1 x.2 D k ++ (devS db cb D k)) w' := by
  refine V.calls (devS db cb D k) Tryz.func83 rfl Tryz.ntmps83 (Nat.le_of_ble_eq_true rfl) hs <| Sq <| Rg <| Lv Av <| Nl <| Ps <| Sq <| Sq <| Rg <| Lv Mv <| Lv EP <| Nl <| Ps <| Cf <| Sk <| Ps <| Sq <| Rg <| Lv Mv <| Lv Nz <| Lv (Fa 0 148) <| Lv (Ld (v := .slice (some ⟨cb, 0, none⟩) D.length D.length)) <| Le (CM [] fun w hw hs => cloneC_c D _ D.length D.length rfl hD w (V.slAt_flat (r := []) hw ceC_len (by rw [List.append_nil]) (show InS (cb, .cells (D.flatMap ceC).toArray 141 (0, 0)) _ from (by repeat (first | exact .here | exact .inner .here | exact .inner (.inner .here) | refine .there ?_))))) fun o ho => Lv (Val.build (ownV D.length o :: [.int .i64 0, .int .i64 0, .int .i64 0, .int .i64 0, .int .i64 0]) Tryz.zeroValue157 Tryz.underlying157 places157 rfl (by cases o <;> rfl)) <| Le XA fun b13 _ => Lv Av <| Nl <| Ps <| Sq <| Rg <| Lv Mv <| Le (CV fun w hw => counts_c db cb D k w hw.pk.sat) fun _ _ => Le AA fun b4 _ => LeN StW fun _ _ => Nl <| Ps <| Sq <| Dr ([[(b4, .cells (ctC k).toArray 204 (0, 0))]]) <| Rv 0 rfl Mv <| Rv 1 rfl Nz <| Rv 2 rfl (Fa 1 155) <| Rv 3 rfl (Fa 0 153) <| Rv 4 rfl (Fa 0 3) <| Rv 5 rfl Ld <| Re 6 rfl (CM ([[(b13, .cells (ownV D.length o :: [.int .i64 0, .int .i64 0, .int .i64 0, .int .i64 0, .int .i64 0]).toArray 157 (0, 0))]]) fun w hw hs => iSt_c b13 1 (ownV D.length o :: [.int .i64 0, .int .i64 0, .int .i64 0, .int .i64 0, .int .i64 0]) 157 _ k.a w rfl hs) fun _ _ => Rd <| Ps <| Sq <| Dr ([[(b4, .cells (ctC k).toArray 204 (0, 0))]]) <| Rv 0 rfl Mv <| Rv 1 rfl Nz <| Rv 2 rfl (Fa 1 155) <| Rv 3 rfl (Fa 1 153) <| Rv 4 rfl (Fa 1 3) <| Rv 5 rfl Ld <| Re 6 rfl (CM ([[(b13, .cells (ownV D.length o :: [.int .i64 k.a, .int .i64 0, .int .i64 0, .int .i64 0, .int .i64 0]).toArray 157 (0, 0))]]) fun w hw hs => iSt_c b13 2 (ownV D.length o :: [.int .i64 k.a, .int .i64 0, .int .i64 0, .int .i64 0, .int .i64 0]) 157 _ k.b w rfl hs) fun _ _ => Rd <| Ps <| Sq <| Dr ([[(b4, .cells (ctC k).toArray 204 (0, 0))]]) <| Rv 0 rfl Mv <| Rv 1 rfl Nz <| Rv 2 rfl (Fa 1 155) <| Rv 3 rfl (Fa 2 153) <| Rv 4 rfl (Fa 2 3) <| Rv 5 rfl Ld <| Re 6 rfl (CM ([[(b13, .cells (ownV D.length o :: [.int .i64 k.a, .int .i64 k.b, .int .i64 0, .int .i64 0, .int .i64 0]).toArray 157 (0, 0))]]) fun w hw hs => iSt_c b13 3 (ownV D.length o :: [.int .i64 k.a, .int .i64 k.b, .int .i64 0, .int .i64 0, .int .i64 0]) 157 _ k.c w rfl hs) ?_
  intro _ _
  refine Rd <| Ps <| Sq <| Dr ([[(b4, .cells (ctC k).toArray 204 (0, 0))]]) <| Rv 0 rfl Mv <| Rv 1 rfl Nz <| Rv 2 rfl (Fa 1 155) <| Rv 3 rfl (Fa 3 153) <| Rv 4 rfl (Fa 3 3) <| Rv 5 rfl Ld <| Re 6 rfl (CM ([[(b13, .cells (ownV D.length o :: [.int .i64 k.a, .int .i64 k.b, .int .i64 k.c, .int .i64 0, .int .i64 0]).toArray 157 (0, 0))]]) fun w hw hs => iSt_c b13 4 (ownV D.length o :: [.int .i64 k.a, .int .i64 k.b, .int .i64 k.c, .int .i64 0, .int .i64 0]) 157 _ k.d w rfl hs) fun _ _ => Rd <| Ps <| Sq <| Dr ([[(b4, .cells (ctC k).toArray 204 (0, 0))]]) <| Rv 0 rfl Mv <| Rv 1 rfl Nz <| Rv 2 rfl (Fa 1 155) <| Rv 3 rfl (Fa 4 153) <| Rv 4 rfl (Fa 4 3) <| Rv 5 rfl Ld <| Re 6 rfl (CM ([[(b13, .cells (ownV D.length o :: [.int .i64 k.a, .int .i64 k.b, .int .i64 k.c, .int .i64 k.d, .int .i64 0]).toArray 157 (0, 0))]]) fun w hw hs => iSt_c b13 5 (ownV D.length o :: [.int .i64 k.a, .int .i64 k.b, .int .i64 k.c, .int .i64 k.d, .int .i64 0]) 157 _ k.e w rfl hs) fun _ _ => Rd <| Ps <| Sq <| Rg <| Lv Mv <| Lv Av <| Nl <| Ps <| Rt <| Rt1 ?_
  intro w' hw; exact ⟨(b13, o), ho, rfl, hw.pick (by repeat (first | exact .nil | apply Pick.cons | exact .here | apply Ext.there))⟩
theorem linesG_c (db n c : Nat) (p : Option Addr) (r : List Value) (w : World) (hB : w.heap[db]? = some (.cells (.slice p n c :: r).toArray 157 (0, 0))) : Calls Tryz.prog 115 [.pointer (some ⟨db, 0, none⟩)].toArray w fun e w' => e = .returned (.int .i64 (n : Nat)) ∧ Below w.heap.size w w' := by
  refine V.calls [] Tryz.func115 rfl Tryz.ntmps115 (Nat.le_of_ble_eq_true rfl) (V.sat_nil _) <| Sq <| Rg <| Lv Av <| Nl <| Ps <| Sq <| Sq <| Rg <| Lv Mv <| Lv EP <| Nl <| Ps <| Cf <| Sk <| Ps <| Sq <| Rg <| Lv Mv <| Lv Nz <| Lv (Fa 0 148) <| Lv (Val.loadO rfl Tryz.isAgg148 (V.lt_of_some hB) (by simp [ids]) (V.cell_of_block hB rfl)) <| Lv Ln <| Lv Av <| Nl <| Ps <| Rt <| Rt1 ?_
  intro w hw; exact ⟨rfl, hw.below⟩
theorem thereG_c (db n c : Nat) (p : Option Addr) (r : List Value) (i : Nat) (hi : i < n) (w : World) (hB : w.heap[db]? = some (.cells (.slice p n c :: r).toArray 157 (0, 0))) : Calls Tryz.prog 88 [.pointer (some ⟨db, 0, none⟩), .int .i64 (i : Nat), .int .i64 0, .int .i64 0].toArray w fun e w' => e = .returned (.int .i64 0) ∧ Below w.heap.size w w' := by
  refine V.calls [] Tryz.func88 rfl Tryz.ntmps88 (Nat.le_of_ble_eq_true rfl) (V.sat_nil _) <| Sq <| Rg <| Lv Av <| Nl <| Ps <| Sq <| Sq <| Rg <| Lv Mv <| Lv EP <| Nl <| Ps <| Cf <| Sk <| Ps <| Sq <| Sq <| Rg <| Lv Mv <| Lv Cm <| LW.re 12 (.bool false) rfl (by first | rfl | (congr 1; simp; done) | (congr 1; simp <;> omega)) <| Lv Mv <| Lv Mv <| Lv Mv <| Lv Nz <| Lv (Fa 0 148) <| Lv (Val.loadO rfl Tryz.isAgg148 (V.lt_of_some hB) (by simp [ids]) (V.cell_of_block hB rfl)) <| Lv Ln <| Lv Cm <| LW.re 20 (.bool false) rfl (by first | rfl | (congr 1; simp <;> omega)) <| Lv Pf <| Lv Mv <| Lv Mv <| Lv Cm <| Lv Pf <| Lv Mv <| Lv Mv <| Lv Mv <| Lv Ar <| Lv Cm <| Lv Pf <| Nl <| Ps <| Cf <| Sk <| Ps <| Sq <| Rg <| Lv Av <| Nl <| Ps <| Rt <| Rt1 ?_
  intro w hw; exact ⟨rfl, hw.below⟩
theorem linesL_c (pb : Nat) (o : V.OwnO) (D : List Ce) (k : Cnt) (hcm : calm D) (h0 : 0 < D.length) (hD : D.length ≤ 1000) (ho : ownOk 193 D.length (D.flatMap ceC) o) (w : World) (hs : Sat (cpS pb o D k) w) : Calls Tryz.prog 84 [.pointer (some ⟨pb, 0, none⟩), .func (.func 85) #[] #[]].toArray w fun e w' => e = .returned (.slice none 0 0) ∧ Below w.heap.size w w' := by
  rcases o with _ | ⟨g, rest, cap⟩
  · exact absurd ho.2 (by omega)
  refine V.calls [[(pb, .cells (.slice (some ⟨g, 0, none⟩) D.length cap :: ctC k).toArray 157 (0, 0))], [(g, .cells (D.flatMap ceC ++ rest).toArray 141 (0, 0))]] Tryz.func84 rfl Tryz.ntmps84 (Nat.le_of_ble_eq_true rfl) hs <| Sq <| Rg <| Lv Av <| Nl <| Ps <| Sq <| Rg <| Lv Av <| Nl <| Ps <| Sq <| Sq <| Rg <| Lv Mv <| Le (CV fun w hw => linesG_c pb D.length cap (some ⟨g, 0, none⟩) (ctC k) w hw.at) fun _ _ => Lv Mv <| Nl <| Ps <| Bk <| loopA (γ := Nat) (fun j => [(0, .pointer (some ⟨pb, 0, none⟩)), (1, .func (.func 85) #[] #[]), (5, .slice none 0 0), (8, .int .i64 (D.length : Nat)), (9, .int .i64 (j : Nat))]) (fun j => [[(pb, .cells (.slice (some ⟨g, 0, none⟩) D.length cap :: ctC k).toArray 157 (0, 0))], [(g, .cells (D.flatMap ceC ++ rest).toArray 141 (0, 0))]]) (fun j => j ≤ D.length) (fun j => D.length - j) (0) (Nat.zero_le _) fun j hj => Sq <| Rg <| Lv Cm <| Nl <| Ps <| Sq ?_
  refine CW.cond rfl (fun h10 => ?_) (fun h10 => ?_)
  · replace h10 := bT h10
    have hi : j < D.length := by omega
    have hmul := Nat.mul_le_mul_right 193 (show j + 1 ≤ D.length from hi)
    obtain ⟨c, hc⟩ : ∃ c, D[j]? = some c := ⟨_, List.getElem?_eq_getElem hi⟩
    have hmem : c ∈ D := List.mem_of_getElem? hc
    obtain ⟨r2, hr2⟩ := fl_all hc
    have hr3 : (D.flatMap ceC ++ rest).drop (j * 193 + 0) = ceC c ++ (r2 ++ rest) := by
      rw [List.drop_append_of_le_length (by rw [V.flatMap_len ceC_len]; omega), hr2, List.append_assoc]
    refine Sk <| Ps <| Sq <| Bk <| Sq <| Rg <| Lv Mv <| Lv Av <| Nl <| Ps <| Sq <| Rg <| Lv Mv <| Lv Mv <| Lv Nz <| Lv (Fa 0 148) <| Lv (Ld (v := .slice (some ⟨g, 0, none⟩) D.length cap)) <| Lv Mv <| Lv (Val.indexAddrN rfl rfl Tryz.underlying148 Tryz.sizeOf141 hi) <| Lv (La (ceC c) (r := r2 ++ rest) (hl := by simpa using hr3) (hs := by rw [ceC_len]; exact Tryz.sizeOf141)) <| Le (Eff.callFV (f := 85) (caps := []) rfl rfl Tryz.call85 (fun w hw => loose_c c (hcm c hmem).1 w)) fun _ _ => Nl <| Ps <| Cf <| Sk <| Bn <| Ps <| Rg <| Lv Ar <| Lv Mv <| Nl ?_
    exact roundA (j + 1) (by first | omega | (simp only; omega)) (by omega)
  · replace h10 := bF h10
    refine Xt <| Te <| Te <| Bh <| Ps <| Sq <| Rg <| Lv Mv <| Lv Av <| Nl <| Ps <| Rt <| Rt1 ?_
    intro w' hw; exact ⟨rfl, hw.ro (by repeat (first | exact .nil | apply Pick.cons | exact .here | apply Ext.there)) hs⟩
theorem looseL_c (pb : Nat) (o : V.OwnO) (D : List Ce) (k : Cnt) (hcm : calm D) (h0 : 0 < D.length) (hD : D.length ≤ 1000) (ho : ownOk 193 D.length (D.flatMap ceC) o) (w : World) (hs : Sat (cpS pb o D k) w) : Calls Tryz.prog 46 [.pointer (some ⟨pb, 0, none⟩)].toArray w fun e w' => e = .returned (.slice none 0 0) ∧ Below w.heap.size w w' := by
  refine V.calls (cpS pb o D k) Tryz.func46 rfl Tryz.ntmps46 (Nat.le_of_ble_eq_true rfl) hs <| Sq <| Rg <| Lv Av <| Nl <| Ps <| Sq <| Rg <| Lv Mv <| Le (CV fun w hw => linesL_c pb o D k hcm h0 hD ho w hw.pk.sat) fun _ _ => Lv Av <| Nl <| Ps <| Rt <| Rt1 ?_
  intro w' hw; exact ⟨rfl, hw.ro (by repeat (first | exact .nil | apply Pick.cons | exact .here | apply Ext.there)) hs⟩
/-- Bytes in the midst of a block of the state. -/
theorem slAt_mid {B : V.Base} {sg : Sg} {w : World} {g off T : Nat} {cells : List Value} {l : List UInt8} {r : List Value} (hw : Hp B sg w) (hm : InS (g, .cells cells.toArray T (0, 0)) sg) (hd : cells.drop off = byC l ++ r) : V.slAt w (some ⟨g, off, none⟩) 1 byE l := by
  have hb := hw.own _ hm.mem
  simp only at hb
  refine .inr ⟨g, off, rfl, V.lt_of_some hb, fun i x hx => ?_⟩
  have hd2 : cells.drop (off + i * 1) = byE x ++ (byC (l.drop (i + 1)) ++ r) := by
    rw [Nat.mul_one, ← List.drop_drop, hd, List.drop_append_of_le_length (by rw [V.byC_len]; exact Nat.le_of_lt (List.getElem?_eq_some_iff.1 hx).1)]
    have h2 : (byC l).drop i = byC (l.drop i) := by unfold V.byC; exact (List.map_drop ..).symm
    rw [h2, List.drop_eq_getElem_cons (List.getElem?_eq_some_iff.1 hx).1, (List.getElem?_eq_some_iff.1 hx).2]
    rfl
  intro j v hv
  exact V.range_of_block hb hd2 j v hv
theorem durable_c (pb : Nat) (o : V.OwnO) (D : List Ce) (k : Cnt) (i : Nat) (c : Ce) (hc : D[i]? = some c) (ho : ownOk 193 D.length (D.flatMap ceC) o) (w : World) (hs : Sat (cpS pb o D k) w) : Calls Tryz.prog 50 [.pointer (some ⟨pb, 0, none⟩), .int .i64 (i : Nat)].toArray w fun e w' => ∃ y : V.OwnO, ownOk 1 64 (c.kept.1.flatMap byE) y ∧ e = .returned (.tuple #[ownV 64 y, .int .i64 0]) ∧ Hp ⟨w, V.ids (cpS pb o D k)⟩ (ownG 5 (c.kept.1.flatMap byE) y :: (cpS pb o D k)) w' := by
  have hi := (List.getElem?_eq_some_iff.1 hc).1
  rcases o with _ | ⟨g, rest, cap⟩
  · exact absurd ho.2 (by omega)
  have hmul := Nat.mul_le_mul_right 193 (show i + 1 ≤ D.length from hi)
  obtain ⟨r2, hr2⟩ := fl_kept hc
  have hr3 : (D.flatMap ceC ++ rest).drop (i * 193 + 64) = byC c.kept.1 ++ (r2 ++ rest) := by
    rw [List.drop_append_of_le_length (by rw [V.flatMap_len ceC_len]; omega), hr2, List.append_assoc]
  refine V.calls [[(pb, .cells (.slice (some ⟨g, 0, none⟩) D.length cap :: ctC k).toArray 157 (0, 0))], [(g, .cells (D.flatMap ceC ++ rest).toArray 141 (0, 0))]] Tryz.func50 rfl Tryz.ntmps50 (Nat.le_of_ble_eq_true rfl) hs <| Sq <| Rg <| Lv Av <| Lv Av <| Nl <| Ps <| Sq <| Sq <| Rg <| Lv Mv <| Lv Mv <| Le (CV fun w hw => thereG_c pb D.length cap (some ⟨g, 0, none⟩) (ctC k) i hi w hw.at) fun _ _ => Lv Av <| Nl <| Ps <| Sq <| Rg <| Lv Mv <| Lv Cm <| Nl <| Ps <| Cf <| Sk <| Ps <| Sq <| Rg <| Lv Mv <| Lv Nz <| Lv (Fa 0 148) <| Lv (Ld (v := .slice (some ⟨g, 0, none⟩) D.length cap)) <| Lv Mv <| Lv (Val.indexAddrN rfl rfl Tryz.underlying148 Tryz.sizeOf141 hi) <| Lv (Fa 64 139) <| Lv (Val.sliceArr 0 64 rfl Tryz.underlying139 Tryz.sizeOf5 rfl rfl (by omega) (by omega)) <| LW.re 20 (.slice (some ⟨g, i * 193 + 64, none⟩) 64 64) rfl (by simp) <| Le (CM [] fun w hw hs => cloneB_c c.kept.1 _ 64 64 c.kept.2.symm (by have := c.kept.2; omega) w (slAt_mid hw (show InS (g, .cells (D.flatMap ceC ++ rest).toArray 141 (0, 0)) _ from (by repeat (first | exact .here | exact .inner .here | exact .inner (.inner .here) | refine .there ?_))) hr3)) fun y hy => ?_
  rw [c.kept.2] at hy ⊢
  refine Lv Av <| Lv Av <| Nl <| Ps <| Rt <| Rt2 ?_
  intro w' hw; exact ⟨y, hy, rfl, hw.pick (by repeat (first | exact .nil | apply Pick.cons | exact .here | apply Ext.there))⟩
end Go.Proofs.YtlpbjmbgopfkhaaGreat

/- An arena over a device: made ready, and asked. -/
namespace Go.Proofs.YtlpbjmbgopfkhaaGreat
open Go Go.RowKit V
set_option linter.unusedVariables false
set_option maxRecDepth 100000
instance : Und Tryz.prog 251 (dOf Tryz.underlying251) := ⟨Tryz.underlying251⟩
instance : Siz Tryz.prog 251 (kOf Tryz.sizeOf251) := ⟨Tryz.sizeOf251⟩
instance : AgT Tryz.prog 251 := ⟨Tryz.isAgg251⟩
instance : Zer Tryz.prog 251 (zOf Tryz.zeroValue251) := ⟨Tryz.zeroValue251⟩
instance : Cal Tryz.prog 109 := ⟨Tryz.call109⟩
instance : Cal Tryz.prog 111 := ⟨Tryz.call111⟩
instance : Cal Tryz.prog 145 := ⟨Tryz.call145⟩
instance : Cal Tryz.prog 189 := ⟨Tryz.call189⟩
open V (str byC ownV ownG ownS ownOk)
abbrev pdO (pb dv : Nat) : Nat × Obj := (pb, .cells [.pointer (some ⟨dv, 0, none⟩)].toArray 178 (0, 0))
abbrev dvL (db : Nat) (dn st : Int) : List Value := [.pointer (some ⟨db, 0, none⟩), .int .u32 dn, .int .i32 st, .int .u32 0]
abbrev dvB (dv db : Nat) (dn st : Int) : Nat × Obj := (dv, .cells (dvL db dn st).toArray 201 (0, 0))
abbrev R10 : List Ce := List.replicate (8 + 2) ce0
theorem fmt1_c (pb dv db cb : Nat) (k : Cnt) (dn st : Int) (w : World) (hs : Sat ([pdO pb dv] :: [dvB dv db dn st] :: devS db cb R10 k) w) : Calls Tryz.prog 144 [.pointer (some ⟨pb, 0, none⟩)].toArray w fun e w' => ∃ k' : Cnt, True ∧ e = .returned (.tuple #[]) ∧ Hp ⟨w, V.ids ([pdO pb dv] :: [dvB dv db dn st] :: devS db cb R10 k)⟩ ([pdO pb dv] :: [dvB dv db dn st] :: devS db cb (fmtD 8) k') w' := by
  refine V.calls ([pdO pb dv] :: [dvB dv db dn st] :: devS db cb R10 k) Tryz.func144 rfl Tryz.ntmps144 (Nat.le_of_ble_eq_true rfl) hs <| Rg <| Lv Ld <| Lv Nz <| Lv (Fa 0 91) <| Lv Ld <| Le (CM (devS db cb R10 k) fun w hw hs => format_c db cb 8 k (by omega) w hs) fun k' _ => Nl <| PQ.end0 rfl ?_
  intro w' hw; exact ⟨k', trivial, rfl, hw.pick (by repeat (first | exact .nil | apply Pick.cons | exact .here | apply Ext.there))⟩
theorem slowF_c (pb dv db cb : Nat) (k : Cnt) (w : World) (hs : Sat ([pdO pb dv] :: [dvB dv db 0 0] :: devS db cb R10 k) w) : Calls Tryz.prog 173 [.pointer (some ⟨dv, 1, none⟩), .func (.func 144) #[] #[.pointer (some ⟨pb, 0, none⟩)]].toArray w fun e w' => ∃ k' : Cnt, True ∧ e = .returned (.tuple #[]) ∧ Hp ⟨w, V.ids ([pdO pb dv] :: [dvB dv db 0 0] :: devS db cb R10 k)⟩ ([pdO pb dv] :: [dvB dv db 1 0] :: devS db cb (fmtD 8) k') w' := by
  refine V.callsDf ([pdO pb dv] :: [dvB dv db 0 0] :: devS db cb R10 k) Tryz.func173 rfl Tryz.ntmps173 (Nat.le_of_ble_eq_true rfl) hs <| Sq <| Rg <| Lv Mv <| Lv Nz <| Lv (Fa 1 197) <| Le (CM ([[dvB dv db 0 0]]) fun w hw hs => lock_c dv 2 (dvL db 0 0) 201 w rfl hs) fun _ _ => Nl <| Ps <| Sq <| Rg <| Lv Mv <| Lv Nz <| Lv (Fa 1 197) <| LW.dfr rfl rfl <| CD.seq <| CD.region <| Lv Mv <| Lv Nz <| Lv (Fa 0 193) <| Le (CV fun w hw => bLoad_c 0 dv 1 (dvL db 0 1) 201 w rfl hw.pk.sat) fun _ _ => Lv Nt <| Nl <| PQ.seqD <| CD.cond_t rfl <| CD.seq <| CD.region <| Lv Mv <| Lv Nz <| Lv (Fa 0 193) <| LW.dfr2 rfl rfl <| CD.region <| Lv Mv <| Le (Eff.callFM (f := 144) (caps := [.pointer (some ⟨pb, 0, none⟩)]) ([pdO pb dv] :: [dvB dv db 0 1] :: devS db cb R10 k) (by repeat (first | exact .nil | apply Pick.cons | exact .here | apply Ext.there)) rfl rfl Tryz.call144 (fun w hw hs => fmt1_c pb dv db cb k 0 1 w hs)) fun k' _ => Nl <| PQ.endD fun ac w' ha hw => ?_
  skip
  refine Leaves.call (ss := [[dvB dv db 0 1]]) hw (by repeat (first | exact .nil | apply Pick.cons | exact .here | apply Ext.there)) Tryz.call205 (fun hs => sto_d _ dv 1 (dvL db 0 1) 201 w' rfl hs) fun _ w' _ hw => ?_
  skip
  refine Leaves.call (ss := [[dvB dv db 1 1]]) hw (by repeat (first | exact .nil | apply Pick.cons | exact .here | apply Ext.there)) Tryz.call204 (fun hs => unl_d dv 2 (dvL db 1 1) 201 w' rfl hs) fun _ w' _ hw => ?_
  skip
  exact Leaves.nil0 rfl ⟨k', trivial, rfl, hw.pick (by repeat (first | exact .nil | apply Pick.cons | exact .here | apply Ext.there))⟩
theorem doF_c (pb dv db cb : Nat) (k : Cnt) (w : World) (hs : Sat ([pdO pb dv] :: [dvB dv db 0 0] :: devS db cb R10 k) w) : Calls Tryz.prog 143 [.pointer (some ⟨dv, 1, none⟩), .func (.func 144) #[] #[.pointer (some ⟨pb, 0, none⟩)]].toArray w fun e w' => ∃ k' : Cnt, True ∧ e = .returned (.tuple #[]) ∧ Hp ⟨w, V.ids ([pdO pb dv] :: [dvB dv db 0 0] :: devS db cb R10 k)⟩ ([pdO pb dv] :: [dvB dv db 1 0] :: devS db cb (fmtD 8) k') w' := by
  refine V.calls ([pdO pb dv] :: [dvB dv db 0 0] :: devS db cb R10 k) Tryz.func143 rfl Tryz.ntmps143 (Nat.le_of_ble_eq_true rfl) hs <| Sq <| Rg <| Lv Mv <| Lv Nz <| Lv (Fa 0 193) <| Le (CV fun w hw => bLoad_c 0 dv 1 (dvL db 0 0) 201 w rfl hw.pk.sat) fun _ _ => Lv Nt <| Nl <| Ps <| Ct <| Rg <| Lv Mv <| Lv Mv <| Le (CM (([pdO pb dv] :: [dvB dv db 0 0] :: devS db cb R10 k)) fun w hw hs => slowF_c pb dv db cb k w hs) fun k' _ => Nl <| PQ.end0 rfl ?_
  intro w' hw; exact ⟨k', trivial, rfl, hw.pick (by repeat (first | exact .nil | apply Pick.cons | exact .here | apply Ext.there))⟩
theorem dfmt_c (dv db cb : Nat) (k : Cnt) (w : World) (hs : Sat ([dvB dv db 0 0] :: devS db cb R10 k) w) : Calls Tryz.prog 111 [.pointer (some ⟨dv, 0, none⟩)].toArray w fun e w' => ∃ k' : Cnt, True ∧ e = .returned (.tuple #[]) ∧ Hp ⟨w, V.ids ([dvB dv db 0 0] :: devS db cb R10 k)⟩ ([dvB dv db 1 0] :: devS db cb (fmtD 8) k') w' := by
  refine V.calls ([dvB dv db 0 0] :: devS db cb R10 k) Tryz.func111 rfl Tryz.ntmps111 (Nat.le_of_ble_eq_true rfl) hs <| Sq <| Rg <| Le XS fun b1 _ => Nl <| Ps <| Rg <| Lv Ld <| Lv Nz <| Lv (Fa 1 199) <| Lv Mf <| Le (CM (([pdO b1 dv] :: [dvB dv db 0 0] :: devS db cb R10 k)) fun w hw hs => doF_c b1 dv db cb k w hs) fun k' _ => Nl <| PQ.end0 rfl ?_
  intro w' hw; exact ⟨k', trivial, rfl, hw.pick (by repeat (first | exact .nil | apply Pick.cons | exact .here | apply Ext.there))⟩
theorem aNew_c (w : World) : Calls Tryz.prog 81 [.int .i64 10, .int .i64 1].toArray w fun e w' => ∃ y : Aren × (Nat × Nat) × Cnt, True ∧ e = .returned (.tuple #[.pointer (some ⟨y.1.a, 0, none⟩), .int .i64 0]) ∧ Hp ⟨w, []⟩ (arS y.1 y.2.1.1 1 0 ++ devS y.2.1.1 y.2.1.2 (fmtD 8) y.2.2) w' := by
  refine V.calls [] Tryz.func81 rfl Tryz.ntmps81 (Nat.le_of_ble_eq_true rfl) (V.sat_nil _) <| Sq <| Rg <| Lv Av <| Lv Av <| Nl <| Ps <| Sq <| Rg <| Lv Mv <| Le (CM [] fun w hw hs => newDev_c 10 (by omega) (by omega) w) fun p _ => Lv Mv <| Lv Ex <| Lv Ex <| Lv Av <| Lv Av <| Nl <| Ps <| Sq <| Sq <| Rg <| Lv Mv <| Lv Cm <| Nl <| Ps <| Cf <| Sk <| Ps <| Sq <| Rg <| Lv Mv <| Lv Mv <| Le (CM (devS p.1 p.2 R10 ct0) fun w hw hs => madeM_c p.1 p.2 R10 ct0 (by rfl) w hs) fun x _ => Lv Mv <| Lv Ex <| Lv Ex <| Lv Av <| Lv Av <| Nl <| Ps <| Sq <| Sq <| Rg <| Lv Mv <| Lv Cm <| Nl <| Ps <| Cf <| Sk <| Ps <| Sq <| Rg <| Lv Mv <| Lv Nz <| Lv (Fa 0 178) <| Lv Ld <| Le (CM (([dvB x.dv p.1 0 0] :: devS p.1 p.2 R10 ct0)) fun w hw hs => dfmt_c x.dv p.1 p.2 ct0 w hs) fun k' _ => Nl <| Ps <| Sq <| Rg <| Lv Mv <| Lv Av <| Lv Av <| Nl <| Ps <| Rt <| Rt2 ?_
  intro w' hw; exact ⟨(x, p, k'), trivial, rfl, hw.pick (by repeat (first | exact .nil | apply Pick.cons | exact .here | apply Ext.there))⟩
theorem aDev_c (x : Aren) (db : Nat) (dn st : Int) (w : World) (hs : Sat (arS x db dn st) w) : Calls Tryz.prog 82 [.pointer (some ⟨x.a, 0, none⟩)].toArray w fun e w' => e = .returned (.pointer (some ⟨db, 0, none⟩)) ∧ Below w.heap.size w w' := by
  refine V.calls (arS x db dn st) Tryz.func82 rfl Tryz.ntmps82 (Nat.le_of_ble_eq_true rfl) hs <| Sq <| Rg <| Lv Av <| Nl <| Ps <| Sq <| Sq <| Rg <| Lv Mv <| Lv EP <| Lv Mv <| Lv Mv <| Lv Nz <| Lv (Fa 0 178) <| Lv Ld <| Lv EP <| Lv Pf <| Nl <| Ps <| Cf <| Sk <| Ps <| Sq <| Rg <| Lv Mv <| Lv Nz <| Lv (Fa 0 178) <| Lv Ld <| Lv Nz <| Lv (Fa 0 91) <| Lv Ld <| Lv Av <| Nl <| Ps <| Rt <| Rt1 ?_
  intro w' hw; exact ⟨rfl, hw.ro (by repeat (first | exact .nil | apply Pick.cons | exact .here | apply Ext.there)) hs⟩
theorem aTable_c (x : Aren) (db : Nat) (dn st : Int) (w : World) (hs : Sat (arS x db dn st) w) : Calls Tryz.prog 125 [.pointer (some ⟨x.a, 0, none⟩)].toArray w fun e w' => e = .returned (.pointer (some ⟨x.t.b, 0, none⟩)) ∧ Below w.heap.size w w' := by
  refine V.calls (arS x db dn st) Tryz.func125 rfl Tryz.ntmps125 (Nat.le_of_ble_eq_true rfl) hs <| Sq <| Rg <| Lv Av <| Nl <| Ps <| Sq <| Sq <| Rg <| Lv Mv <| Lv EP <| Nl <| Ps <| Cf <| Sk <| Ps <| Sq <| Rg <| Lv Mv <| Lv Nz <| Lv (Fa 5 183) <| Lv Ld <| Lv Av <| Nl <| Ps <| Rt <| Rt1 ?_
  intro w' hw; exact ⟨rfl, hw.ro (by repeat (first | exact .nil | apply Pick.cons | exact .here | apply Ext.there)) hs⟩
theorem aLine_c (x : Aren) (db : Nat) (dn st : Int) (w : World) (hs : Sat (arS x db dn st) w) : Calls Tryz.prog 128 [.pointer (some ⟨x.a, 0, none⟩)].toArray w fun e w' => e = .returned (.pointer (some ⟨x.ff, 0, none⟩)) ∧ Below w.heap.size w w' := by
  refine V.calls (arS x db dn st) Tryz.func128 rfl Tryz.ntmps128 (Nat.le_of_ble_eq_true rfl) hs <| Sq <| Rg <| Lv Av <| Nl <| Ps <| Sq <| Sq <| Rg <| Lv Mv <| Lv EP <| Nl <| Ps <| Cf <| Sk <| Ps <| Sq <| Rg <| Lv Mv <| Lv Nz <| Lv (Fa 7 185) <| Lv Ld <| Lv Av <| Nl <| Ps <| Rt <| Rt1 ?_
  intro w' hw; exact ⟨rfl, hw.ro (by repeat (first | exact .nil | apply Pick.cons | exact .here | apply Ext.there)) hs⟩
theorem cloneE_c (w : World) : Calls Tryz.prog 189 [.slice none 0 0].toArray w fun e w' => e = .returned (.slice none 0 0) ∧ Below w.heap.size w w' := by
  refine V.calls [] Tryz.func189 rfl Tryz.ntmps189 (Nat.le_of_ble_eq_true rfl) (V.sat_nil _) <| Sq <| Rg <| Lv Av <| Nl <| Ps <| Sq <| Sq <| Rg <| Lv Mv <| Lv (Val.eqSlNil rfl rfl Tryz.underlying132) <| Nl <| Ps <| Ct <| Sq <| Rg <| Lv Av <| Nl <| Ps <| Rt <| Tr <| Rt1 ?_
  intro w' hw; exact ⟨rfl, hw.below⟩
theorem aEff_c (x : Aren) (db : Nat) (dn st : Int) (w : World) (hs : Sat (arS x db dn st) w) : Calls Tryz.prog 190 [.pointer (some ⟨x.a, 0, none⟩)].toArray w fun e w' => e = .returned (.slice none 0 0) ∧ Below w.heap.size w w' := by
  refine V.calls (arS x db dn st) Tryz.func190 rfl Tryz.ntmps190 (Nat.le_of_ble_eq_true rfl) hs <| Sq <| Rg <| Lv Av <| Nl <| Ps <| Sq <| Sq <| Rg <| Lv Mv <| Lv EP <| Nl <| Ps <| Cf <| Sk <| Ps <| Sq <| Rg <| Lv Mv <| Lv Nz <| Lv (Fa 10 132) <| Lv Ld <| Le (CV fun w hw => cloneE_c w) fun _ _ => Lv Av <| Nl <| Ps <| Rt <| Rt1 ?_
  intro w' hw; exact ⟨rfl, hw.ro (by repeat (first | exact .nil | apply Pick.cons | exact .here | apply Ext.there)) hs⟩
end Go.Proofs.YtlpbjmbgopfkhaaGreat

/- What an arena holds that holds nothing. -/
namespace Go.Proofs.YtlpbjmbgopfkhaaGreat
open Go Go.RowKit V
set_option linter.unusedVariables false
set_option maxRecDepth 100000
theorem places69 : ∀ w, ((Array.mapM (fun (f : Field) => do pure (f.offset, ← sizeOf f.type)) (Tryz.prog.fieldsOf 69) : Sem (Array (Nat × Nat)))).run Tryz.prog w = .ok [(0, 1), (1, 1)].toArray w := by
  intro w; kernel_rfl
instance : Und Tryz.prog 31 (dOf Tryz.underlying31) := ⟨Tryz.underlying31⟩
instance : Siz Tryz.prog 31 (kOf Tryz.sizeOf31) := ⟨Tryz.sizeOf31⟩
instance : AgF Tryz.prog 31 := ⟨Tryz.isAgg31⟩
instance : Zer Tryz.prog 31 (zOf Tryz.zeroValue31) := ⟨Tryz.zeroValue31⟩
instance : Und Tryz.prog 32 (dOf Tryz.underlying32) := ⟨Tryz.underlying32⟩
instance : Siz Tryz.prog 32 (kOf Tryz.sizeOf32) := ⟨Tryz.sizeOf32⟩
instance : AgF Tryz.prog 32 := ⟨Tryz.isAgg32⟩
instance : Zer Tryz.prog 32 (zOf Tryz.zeroValue32) := ⟨Tryz.zeroValue32⟩
instance : Und Tryz.prog 34 (dOf Tryz.underlying34) := ⟨Tryz.underlying34⟩
instance : Siz Tryz.prog 34 (kOf Tryz.sizeOf34) := ⟨Tryz.sizeOf34⟩
instance : AgT Tryz.prog 34 := ⟨Tryz.isAgg34⟩
instance : Zer Tryz.prog 34 (zOf Tryz.zeroValue34) := ⟨Tryz.zeroValue34⟩
instance : Und Tryz.prog 69 (dOf Tryz.underlying69) := ⟨Tryz.underlying69⟩
instance : Siz Tryz.prog 69 (kOf Tryz.sizeOf69) := ⟨Tryz.sizeOf69⟩
instance : AgT Tryz.prog 69 := ⟨Tryz.isAgg69⟩
instance : Zer Tryz.prog 69 (zOf Tryz.zeroValue69) := ⟨Tryz.zeroValue69⟩
instance : Und Tryz.prog 322 (dOf Tryz.underlying322) := ⟨Tryz.underlying322⟩
instance : Siz Tryz.prog 322 (kOf Tryz.sizeOf322) := ⟨Tryz.sizeOf322⟩
instance : AgF Tryz.prog 322 := ⟨Tryz.isAgg322⟩
instance : Zer Tryz.prog 322 (zOf Tryz.zeroValue322) := ⟨Tryz.zeroValue322⟩
instance : Und Tryz.prog 371 (dOf Tryz.underlying371) := ⟨Tryz.underlying371⟩
instance : Siz Tryz.prog 371 (kOf Tryz.sizeOf371) := ⟨Tryz.sizeOf371⟩
instance : AgF Tryz.prog 371 := ⟨Tryz.isAgg371⟩
instance : Zer Tryz.prog 371 (zOf Tryz.zeroValue371) := ⟨Tryz.zeroValue371⟩
instance : Plc Tryz.prog 69 (fOf Tryz.underlying69) (lOf (P := Tryz.prog) places69) := ⟨places69, Tryz.underlying69⟩
instance : Cal Tryz.prog 125 := ⟨Tryz.call125⟩
instance : Cal Tryz.prog 126 := ⟨Tryz.call126⟩
instance : Cal Tryz.prog 127 := ⟨Tryz.call127⟩
instance : Cal Tryz.prog 128 := ⟨Tryz.call128⟩
instance : Cal Tryz.prog 129 := ⟨Tryz.call129⟩
instance : Cal Tryz.prog 164 := ⟨Tryz.call164⟩
instance : Cal Tryz.prog 168 := ⟨Tryz.call168⟩
instance : Cal Tryz.prog 193 := ⟨Tryz.call193⟩
instance : Cal Tryz.prog 194 := ⟨Tryz.call194⟩
instance : Cal Tryz.prog 231 := ⟨Tryz.call231⟩
instance : Cal Tryz.prog 232 := ⟨Tryz.call232⟩
instance : Cal Tryz.prog 233 := ⟨Tryz.call233⟩
instance : Cal Tryz.prog 234 := ⟨Tryz.call234⟩
instance : Cal Tryz.prog 235 := ⟨Tryz.call235⟩
instance : Cal Tryz.prog 236 := ⟨Tryz.call236⟩
instance : Cal Tryz.prog 237 := ⟨Tryz.call237⟩
instance : Cal Tryz.prog 238 := ⟨Tryz.call238⟩
instance : Cal Tryz.prog 239 := ⟨Tryz.call239⟩
open V (str byC ownV ownG ownS ownOk)
theorem len64_c (w : World) : Calls Tryz.prog 239 [.int .u64 0].toArray w fun e w' => e = .returned (.int .i64 0) ∧ Below w.heap.size w w' := by
  refine V.calls [] Tryz.func239 rfl Tryz.ntmps239 (Nat.le_of_ble_eq_true rfl) (V.sat_nil _) <| Sq <| Rg <| Lv Av <| Nl <| Ps <| Sq <| Sq <| Rg <| Lv Mv <| Lv Cm <| Nl <| Ps <| Cf <| Sk <| Ps <| Sq <| Sq <| Rg <| Lv Mv <| Lv Cm <| Nl <| Ps <| Cf <| Sk <| Ps <| Sq <| Sq <| Rg <| Lv Mv <| Lv Cm <| Nl <| Ps <| Cf <| Sk <| Ps <| Sq <| Rg <| Lv Mv <| Lv Mv <| Lv Cv <| Lv (Val.indexS (i := 0) (u := 0) rfl rfl Tryz.underlying9 (by rfl)) <| LW.re 22 (.int .u8 0) rfl (by rfl) <| Lv Cv <| LW.re 23 (.int .i64 0) rfl (by rfl) <| Lv Ar <| Lv Av <| Nl <| Ps <| Rt <| Rt1 ?_
  intro w' hw; exact ⟨rfl, hw.below⟩
theorem blen_c (w : World) : Calls Tryz.prog 194 [.int .u64 0].toArray w fun e w' => e = .returned (.int .i64 0) ∧ Below w.heap.size w w' := by
  refine V.calls [] Tryz.func194 rfl Tryz.ntmps194 (Nat.le_of_ble_eq_true rfl) (V.sat_nil _) <| Sq <| Rg <| Lv Av <| Nl <| Ps <| Sq <| Cf <| Sk <| Ps <| Sq <| Rg <| Lv Mv <| Le (CV fun w hw => len64_c w) fun _ _ => Lv Av <| Nl <| Ps <| Rt <| Rt1 ?_
  intro w' hw; exact ⟨rfl, hw.below⟩
theorem pdq_c (v : Value) (w : World) : Calls Tryz.prog 193 [.slice none 0 0, .int .i64 0, .int .i64 0, .int .i64 0, v].toArray w fun e w' => e = .returned (.tuple #[]) ∧ Below w.heap.size w w' := by
  refine V.calls [] Tryz.func193 rfl Tryz.ntmps193 (Nat.le_of_ble_eq_true rfl) (V.sat_nil _) <| Sq <| Rg <| Lv Av <| Nl <| Ps <| Sq <| Rg <| Lv Av <| Nl <| Ps <| Bk <| CW.loopU 0 <| Bk <| Sq <| Rg <| Lv Mv <| Lv Mv <| Lv Ar <| Lv Av <| Nl <| Ps <| Sq <| Sq <| Rg <| Lv Mv <| Lv Cm <| Nl <| Ps <| Ct <| Sq <| Rg <| Lv Mv <| Lv Mv <| Lv Mv <| Lv Mv <| Le (CV fun w hw => ins_c v w) fun _ _ => Nl <| Ps <| Rt <| Tr <| Br <| Tr <| Br <| PQ.ret0 rfl ?_
  intro w' hw; exact ⟨rfl, hw.below⟩
theorem sortF_c (v : Value) (w : World) : Calls Tryz.prog 164 [.slice none 0 0, v].toArray w fun e w' => e = .returned (.tuple #[]) ∧ Below w.heap.size w w' := by
  refine V.calls [] Tryz.func164 rfl Tryz.ntmps164 (Nat.le_of_ble_eq_true rfl) (V.sat_nil _) <| Sq <| Rg <| Lv Mv <| Lv Ln <| Lv Av <| Nl <| Ps <| Rg <| Lv Mv <| Lv Mv <| Lv Mv <| Lv Cv <| LW.re 10 (.int .u64 0) rfl (by rfl) <| Le (CV fun w hw => blen_c w) fun _ _ => Lv Mv <| Le (CV fun w hw => pdq_c v w) fun _ _ => Nl <| PQ.end0 rfl ?_
  intro w' hw; exact ⟨rfl, hw.below⟩
theorem tAll_c (x : Tb) (w : World) (hs : Sat (tbS x) w) : Calls Tryz.prog 126 [.pointer (some ⟨x.b, 0, none⟩)].toArray w fun e w' => e = .returned (.slice none 0 0) ∧ Below w.heap.size w w' := by
  refine V.calls (tbS x) Tryz.func126 rfl Tryz.ntmps126 (Nat.le_of_ble_eq_true rfl) hs <| Sq <| Rg <| Lv Av <| Nl <| Ps <| Sq <| Rg <| Lv Av <| Nl <| Ps <| Sq <| Sq <| Rg <| Lv Mv <| Lv EP <| Nl <| Ps <| Cf <| Sk <| Ps <| Sq <| Sq <| Rg <| Lv Mv <| Lv Nz <| Lv (Fa 0 261) <| Lv (La [_, _, _, _, _, _, _, _]) <| Lv Mv <| Nl <| Ps <| Bk <| CW.loopU 8 <| Sq <| Rg <| Lv Cm <| Nl <| Ps <| Sq <| Ct <| Sk <| Ps <| Sq <| Bk <| Sq <| Rg <| Lv (Val.indexArr (i := 0) rfl rfl Tryz.underlying261 Tryz.sizeOf260 Tryz.isAgg260 (by decide) rfl) <| Lv Av <| Nl <| Ps <| Sq <| Rg <| Lv Mv <| Le (Eff.range (b := x.m0) (E := []) (c := 0) rfl Tryz.underlying260 (by repeat (first | exact .here | exact .inner .here | exact .inner (.inner .here) | refine .there ?_))) fun b19_0 _ => Nl <| Ps <| Bk <| CW.loopU 0 <| Sq <| Rg <| Le (Eff.next (b := x.m0) (E := []) (D := []) rfl (by repeat (first | exact .here | exact .inner .here | exact .inner (.inner .here) | refine .there ?_)) (V.Stp.nil 0) (fun e => (by repeat (first | exact .here | exact .inner .here | exact .inner (.inner .here) | apply Upd.there)))) fun oe he => ?_
  obtain rfl : oe = none := by cases oe with | none => rfl | some e => exact absurd he.1 (by simp)
  refine Lv Ex <| Nl <| Ps <| Sq <| Cf <| Xt <| Te <| Te <| Bh <| Bn <| Ps <| Rg <| Lv Ar <| Lv Mv <| Nl <| PQ.next <| Sq <| Rg <| Lv Cm <| Nl <| Ps <| Sq <| Ct <| Sk <| Ps <| Sq <| Bk <| Sq <| Rg <| Lv (Val.indexArr (i := 1) rfl rfl Tryz.underlying261 Tryz.sizeOf260 Tryz.isAgg260 (by decide) rfl) <| Lv Av <| Nl <| Ps <| Sq <| Rg <| Lv Mv <| Le (Eff.range (b := x.m1) (E := []) (c := 0) rfl Tryz.underlying260 (by repeat (first | exact .here | exact .inner .here | exact .inner (.inner .here) | refine .there ?_))) fun b19_1 _ => Nl <| Ps <| Bk <| CW.loopU 0 <| Sq <| Rg <| Le (Eff.next (b := x.m1) (E := []) (D := []) rfl (by repeat (first | exact .here | exact .inner .here | exact .inner (.inner .here) | refine .there ?_)) (V.Stp.nil 0) (fun e => (by repeat (first | exact .here | exact .inner .here | exact .inner (.inner .here) | apply Upd.there)))) fun oe he => ?_
  obtain rfl : oe = none := by cases oe with | none => rfl | some e => exact absurd he.1 (by simp)
  refine Lv Ex <| Nl <| Ps <| Sq <| Cf <| Xt <| Te <| Te <| Bh <| Bn <| Ps <| Rg <| Lv Ar <| Lv Mv <| Nl <| PQ.next <| Sq <| Rg <| Lv Cm <| Nl <| Ps <| Sq <| Ct <| Sk <| Ps <| Sq <| Bk <| Sq <| Rg <| Lv (Val.indexArr (i := 2) rfl rfl Tryz.underlying261 Tryz.sizeOf260 Tryz.isAgg260 (by decide) rfl) <| Lv Av <| Nl <| Ps <| Sq <| Rg <| Lv Mv <| Le (Eff.range (b := x.m2) (E := []) (c := 0) rfl Tryz.underlying260 (by repeat (first | exact .here | exact .inner .here | exact .inner (.inner .here) | refine .there ?_))) fun b19_2 _ => Nl <| Ps <| Bk <| CW.loopU 0 <| Sq <| Rg <| Le (Eff.next (b := x.m2) (E := []) (D := []) rfl (by repeat (first | exact .here | exact .inner .here | exact .inner (.inner .here) | refine .there ?_)) (V.Stp.nil 0) (fun e => (by repeat (first | exact .here | exact .inner .here | exact .inner (.inner .here) | apply Upd.there)))) fun oe he => ?_
  obtain rfl : oe = none := by cases oe with | none => rfl | some e => exact absurd he.1 (by simp)
  refine Lv Ex <| Nl <| Ps <| Sq <| Cf <| Xt <| Te <| Te <| Bh <| Bn <| Ps <| Rg <| Lv Ar <| Lv Mv <| Nl <| PQ.next <| Sq <| Rg <| Lv Cm <| Nl <| Ps <| Sq <| Ct <| Sk <| Ps <| Sq <| Bk <| Sq <| Rg <| Lv (Val.indexArr (i := 3) rfl rfl Tryz.underlying261 Tryz.sizeOf260 Tryz.isAgg260 (by decide) rfl) <| Lv Av <| Nl <| Ps <| Sq <| Rg <| Lv Mv <| Le (Eff.range (b := x.m3) (E := []) (c := 0) rfl Tryz.underlying260 (by repeat (first | exact .here | exact .inner .here | exact .inner (.inner .here) | refine .there ?_))) fun b19_3 _ => Nl <| Ps <| Bk <| CW.loopU 0 <| Sq <| Rg <| Le (Eff.next (b := x.m3) (E := []) (D := []) rfl (by repeat (first | exact .here | exact .inner .here | exact .inner (.inner .here) | refine .there ?_)) (V.Stp.nil 0) (fun e => (by repeat (first | exact .here | exact .inner .here | exact .inner (.inner .here) | apply Upd.there)))) fun oe he => ?_
  obtain rfl : oe = none := by cases oe with | none => rfl | some e => exact absurd he.1 (by simp)
  refine Lv Ex <| Nl <| Ps <| Sq <| Cf <| Xt <| Te <| Te <| Bh <| Bn <| Ps <| Rg <| Lv Ar <| Lv Mv <| Nl <| PQ.next <| Sq <| Rg <| Lv Cm <| Nl <| Ps <| Sq <| Ct <| Sk <| Ps <| Sq <| Bk <| Sq <| Rg <| Lv (Val.indexArr (i := 4) rfl rfl Tryz.underlying261 Tryz.sizeOf260 Tryz.isAgg260 (by decide) rfl) <| Lv Av <| Nl <| Ps <| Sq <| Rg <| Lv Mv <| Le (Eff.range (b := x.m4) (E := []) (c := 0) rfl Tryz.underlying260 (by repeat (first | exact .here | exact .inner .here | exact .inner (.inner .here) | refine .there ?_))) fun b19_4 _ => Nl <| Ps <| Bk <| CW.loopU 0 <| Sq <| Rg <| Le (Eff.next (b := x.m4) (E := []) (D := []) rfl (by repeat (first | exact .here | exact .inner .here | exact .inner (.inner .here) | refine .there ?_)) (V.Stp.nil 0) (fun e => (by repeat (first | exact .here | exact .inner .here | exact .inner (.inner .here) | apply Upd.there)))) fun oe he => ?_
  obtain rfl : oe = none := by cases oe with | none => rfl | some e => exact absurd he.1 (by simp)
  refine Lv Ex <| Nl <| Ps <| Sq <| Cf <| Xt <| Te <| Te <| Bh <| Bn <| Ps <| Rg <| Lv Ar <| Lv Mv <| Nl <| PQ.next <| Sq <| Rg <| Lv Cm <| Nl <| Ps <| Sq <| Ct <| Sk <| Ps <| Sq <| Bk <| Sq <| Rg <| Lv (Val.indexArr (i := 5) rfl rfl Tryz.underlying261 Tryz.sizeOf260 Tryz.isAgg260 (by decide) rfl) <| Lv Av <| Nl <| Ps <| Sq <| Rg <| Lv Mv <| Le (Eff.range (b := x.m5) (E := []) (c := 0) rfl Tryz.underlying260 (by repeat (first | exact .here | exact .inner .here | exact .inner (.inner .here) | refine .there ?_))) fun b19_5 _ => Nl <| Ps <| Bk <| CW.loopU 0 <| Sq <| Rg <| Le (Eff.next (b := x.m5) (E := []) (D := []) rfl (by repeat (first | exact .here | exact .inner .here | exact .inner (.inner .here) | refine .there ?_)) (V.Stp.nil 0) (fun e => (by repeat (first | exact .here | exact .inner .here | exact .inner (.inner .here) | apply Upd.there)))) fun oe he => ?_
  obtain rfl : oe = none := by cases oe with | none => rfl | some e => exact absurd he.1 (by simp)
  refine Lv Ex <| Nl <| Ps <| Sq <| Cf <| Xt <| Te <| Te <| Bh <| Bn <| Ps <| Rg <| Lv Ar <| Lv Mv <| Nl <| PQ.next <| Sq <| Rg <| Lv Cm <| Nl <| Ps <| Sq <| Ct <| Sk <| Ps <| Sq <| Bk <| Sq <| Rg <| Lv (Val.indexArr (i := 6) rfl rfl Tryz.underlying261 Tryz.sizeOf260 Tryz.isAgg260 (by decide) rfl) <| Lv Av <| Nl <| Ps <| Sq <| Rg <| Lv Mv <| Le (Eff.range (b := x.m6) (E := []) (c := 0) rfl Tryz.underlying260 (by repeat (first | exact .here | exact .inner .here | exact .inner (.inner .here) | refine .there ?_))) fun b19_6 _ => Nl <| Ps <| Bk <| CW.loopU 0 <| Sq <| Rg <| Le (Eff.next (b := x.m6) (E := []) (D := []) rfl (by repeat (first | exact .here | exact .inner .here | exact .inner (.inner .here) | refine .there ?_)) (V.Stp.nil 0) (fun e => (by repeat (first | exact .here | exact .inner .here | exact .inner (.inner .here) | apply Upd.there)))) fun oe he => ?_
  obtain rfl : oe = none := by cases oe with | none => rfl | some e => exact absurd he.1 (by simp)
  refine Lv Ex <| Nl <| Ps <| Sq <| Cf <| Xt <| Te <| Te <| Bh <| Bn <| Ps <| Rg <| Lv Ar <| Lv Mv <| Nl <| PQ.next <| Sq <| Rg <| Lv Cm <| Nl <| Ps <| Sq <| Ct <| Sk <| Ps <| Sq <| Bk <| Sq <| Rg <| Lv (Val.indexArr (i := 7) rfl rfl Tryz.underlying261 Tryz.sizeOf260 Tryz.isAgg260 (by decide) rfl) <| Lv Av <| Nl <| Ps <| Sq <| Rg <| Lv Mv <| Le (Eff.range (b := x.m7) (E := []) (c := 0) rfl Tryz.underlying260 (by repeat (first | exact .here | exact .inner .here | exact .inner (.inner .here) | refine .there ?_))) fun b19_7 _ => Nl <| Ps <| Bk <| CW.loopU 0 <| Sq <| Rg <| Le (Eff.next (b := x.m7) (E := []) (D := []) rfl (by repeat (first | exact .here | exact .inner .here | exact .inner (.inner .here) | refine .there ?_)) (V.Stp.nil 0) (fun e => (by repeat (first | exact .here | exact .inner .here | exact .inner (.inner .here) | apply Upd.there)))) fun oe he => ?_
  obtain rfl : oe = none := by cases oe with | none => rfl | some e => exact absurd he.1 (by simp)
  refine Lv Ex <| Nl <| Ps <| Sq <| Cf <| Xt <| Te <| Te <| Bh <| Bn <| Ps <| Rg <| Lv Ar <| Lv Mv <| Nl <| PQ.next <| Sq <| Rg <| Lv Cm <| Nl <| Ps <| Sq <| Cf <| Xt <| Te <| Te <| Bh <| Ps <| Sq <| Rg <| Lv Mv <| Le (CV fun w hw => sortF_c _ w) fun _ _ => Nl <| Ps <| Sq <| Rg <| Lv Mv <| Lv Av <| Nl <| Ps <| Rt <| Rt1 ?_
  intro w' hw; exact ⟨rfl, hw.ro (by repeat (first | exact .nil | apply Pick.cons | exact .here | apply Ext.there)) hs⟩
theorem rAll_c (b : Nat) (w : World) (hs : Sat (ffS b) w) : Calls Tryz.prog 168 [.pointer (some ⟨b, 0, none⟩)].toArray w fun e w' => e = .returned (.slice none 0 0) ∧ Below w.heap.size w w' := by
  refine V.calls (ffS b) Tryz.func168 rfl Tryz.ntmps168 (Nat.le_of_ble_eq_true rfl) hs <| Sq <| Rg <| Lv Av <| Nl <| Ps <| Sq <| Rg <| Lv Av <| Nl <| Ps <| Sq <| Sq <| Rg <| Lv Mv <| Lv Nz <| Lv (Fa 2 3) <| Lv Ld <| Lv Mv <| Nl <| Ps <| Bk <| CW.loopU 0 <| Sq <| Rg <| Lv Cm <| Nl <| Ps <| Sq <| Cf <| Xt <| Te <| Te <| Bh <| Ps <| Sq <| Rg <| Lv Mv <| Lv Av <| Nl <| Ps <| Rt <| Rt1 ?_
  intro w' hw; exact ⟨rfl, hw.ro (by repeat (first | exact .nil | apply Pick.cons | exact .here | apply Ext.there)) hs⟩
theorem fAll_c (b : Nat) (w : World) (hs : Sat (ffS b) w) : Calls Tryz.prog 129 [.pointer (some ⟨b, 0, none⟩)].toArray w fun e w' => e = .returned (.slice none 0 0) ∧ Below w.heap.size w w' := by
  refine V.calls (ffS b) Tryz.func129 rfl Tryz.ntmps129 (Nat.le_of_ble_eq_true rfl) hs <| Sq <| Rg <| Lv Av <| Nl <| Ps <| Sq <| Sq <| Rg <| Lv Mv <| Lv EP <| Nl <| Ps <| Cf <| Sk <| Ps <| Sq <| Rg <| Lv Mv <| Lv Nz <| Lv (Fa 0 272) <| LW.re 7 (.pointer (some ⟨b, 0, none⟩)) rfl rfl <| Le (CV fun w hw => rAll_c b w hw.pk.sat) fun _ _ => Lv Av <| Nl <| Ps <| Rt <| Rt1 ?_
  intro w' hw; exact ⟨rfl, hw.ro (by repeat (first | exact .nil | apply Pick.cons | exact .here | apply Ext.there)) hs⟩
theorem aShelf_c (x : Aren) (db : Nat) (dn st : Int) (w : World) (hs : Sat (arS x db dn st) w) : Calls Tryz.prog 95 [.pointer (some ⟨x.a, 0, none⟩)].toArray w fun e w' => e = .returned (.agg #[.slice none 0 0, .slice none 0 0]) ∧ Below w.heap.size w w' := by
  refine V.calls (arS x db dn st) Tryz.func95 rfl Tryz.ntmps95 (Nat.le_of_ble_eq_true rfl) hs <| Sq <| Rg <| Le AA fun b2 _ => Nl <| Ps <| Sq <| Rg <| Le AA fun b3 _ => Nl <| Ps <| Sq <| Sq <| Rg <| Lv Mv <| Le (CV fun w hw => aTable_c x db dn st w hw.pk.sat) fun _ _ => Le (CV fun w hw => tAll_c x.t w hw.pk.sat) fun _ _ => Lv Ln <| Lv Mv <| Nl <| Ps <| Bk <| CW.loopU 0 <| Sq <| Rg <| Lv Cm <| Nl <| Ps <| Sq <| Cf <| Xt <| Te <| Te <| Bh <| Ps <| Sq <| Sq <| Rg <| Lv Mv <| Le (CV fun w hw => aLine_c x db dn st w hw.pk.sat) fun _ _ => Le (CV fun w hw => fAll_c x.ff w hw.pk.sat) fun _ _ => Lv Ln <| Lv Mv <| Nl <| Ps <| Bk <| CW.loopU 0 <| Sq <| Rg <| Lv Cm <| Nl <| Ps <| Sq <| Cf <| Xt <| Te <| Te <| Bh <| Ps <| Sq <| Rg <| Lv Lw <| LeN StW fun _ _ => Nl <| Ps <| Rt <| PQ.retC (l := [.slice none 0 0, .slice none 0 0]) rfl rfl (by repeat (first | exact .here | exact .inner .here | exact .inner (.inner .here) | refine .there ?_)) Tryz.isAgg34 (by exact Tryz.sizeOf34) ?_
  intro w' hw; exact ⟨rfl, hw.ro (by repeat (first | exact .nil | apply Pick.cons | exact .here | apply Ext.there)) hs⟩
end Go.Proofs.YtlpbjmbgopfkhaaGreat

/- A world on an empty device: made, and asked. -/
namespace Go.Proofs.YtlpbjmbgopfkhaaGreat
open Go Go.RowKit V
set_option linter.unusedVariables false
set_option maxRecDepth 100000
theorem places122 : ∀ w, ((Array.mapM (fun (f : Field) => do pure (f.offset, ← sizeOf f.type)) (Tryz.prog.fieldsOf 122) : Sem (Array (Nat × Nat)))).run Tryz.prog w = .ok [(0, 1), (1, 1)].toArray w := by
  intro w; kernel_rfl
theorem places135 : ∀ w, ((Array.mapM (fun (f : Field) => do pure (f.offset, ← sizeOf f.type)) (Tryz.prog.fieldsOf 135) : Sem (Array (Nat × Nat)))).run Tryz.prog w = .ok [(0, 3), (3, 1), (4, 1), (5, 1), (6, 2), (8, 120), (128, 1), (129, 1), (130, 1), (131, 1)].toArray w := by
  intro w; kernel_rfl
instance : Und Tryz.prog 60 (dOf Tryz.underlying60) := ⟨Tryz.underlying60⟩
instance : Siz Tryz.prog 60 (kOf Tryz.sizeOf60) := ⟨Tryz.sizeOf60⟩
instance : AgT Tryz.prog 60 := ⟨Tryz.isAgg60⟩
instance : Zer Tryz.prog 60 (zOf Tryz.zeroValue60) := ⟨Tryz.zeroValue60⟩
instance : Und Tryz.prog 88 (dOf Tryz.underlying88) := ⟨Tryz.underlying88⟩
instance : Siz Tryz.prog 88 (kOf Tryz.sizeOf88) := ⟨Tryz.sizeOf88⟩
instance : AgF Tryz.prog 88 := ⟨Tryz.isAgg88⟩
instance : Zer Tryz.prog 88 (zOf Tryz.zeroValue88) := ⟨Tryz.zeroValue88⟩
instance : Und Tryz.prog 122 (dOf Tryz.underlying122) := ⟨Tryz.underlying122⟩
instance : Siz Tryz.prog 122 (kOf Tryz.sizeOf122) := ⟨Tryz.sizeOf122⟩
instance : AgT Tryz.prog 122 := ⟨Tryz.isAgg122⟩
instance : Zer Tryz.prog 122 (zOf Tryz.zeroValue122) := ⟨Tryz.zeroValue122⟩
instance : Und Tryz.prog 131 (dOf Tryz.underlying131) := ⟨Tryz.underlying131⟩
instance : Siz Tryz.prog 131 (kOf Tryz.sizeOf131) := ⟨Tryz.sizeOf131⟩
instance : AgT Tryz.prog 131 := ⟨Tryz.isAgg131⟩
instance : Zer Tryz.prog 131 (zOf Tryz.zeroValue131) := ⟨Tryz.zeroValue131⟩
instance : Und Tryz.prog 133 (dOf Tryz.underlying133) := ⟨Tryz.underlying133⟩
instance : Siz Tryz.prog 133 (kOf Tryz.sizeOf133) := ⟨Tryz.sizeOf133⟩
instance : AgF Tryz.prog 133 := ⟨Tryz.isAgg133⟩
instance : Zer Tryz.prog 133 (zOf Tryz.zeroValue133) := ⟨Tryz.zeroValue133⟩
instance : Und Tryz.prog 135 (dOf Tryz.underlying135) := ⟨Tryz.underlying135⟩
instance : Siz Tryz.prog 135 (kOf Tryz.sizeOf135) := ⟨Tryz.sizeOf135⟩
instance : AgT Tryz.prog 135 := ⟨Tryz.isAgg135⟩
instance : Zer Tryz.prog 135 (zOf Tryz.zeroValue135) := ⟨Tryz.zeroValue135⟩
instance : Und Tryz.prog 144 (dOf Tryz.underlying144) := ⟨Tryz.underlying144⟩
instance : Siz Tryz.prog 144 (kOf Tryz.sizeOf144) := ⟨Tryz.sizeOf144⟩
instance : AgF Tryz.prog 144 := ⟨Tryz.isAgg144⟩
instance : Zer Tryz.prog 144 (zOf Tryz.zeroValue144) := ⟨Tryz.zeroValue144⟩
instance : Plc Tryz.prog 122 (fOf Tryz.underlying122) (lOf (P := Tryz.prog) places122) := ⟨places122, Tryz.underlying122⟩
instance : Plc Tryz.prog 135 (fOf Tryz.underlying135) (lOf (P := Tryz.prog) places135) := ⟨places135, Tryz.underlying135⟩
instance : Cal Tryz.prog 81 := ⟨Tryz.call81⟩
instance : Cal Tryz.prog 82 := ⟨Tryz.call82⟩
instance : Cal Tryz.prog 83 := ⟨Tryz.call83⟩
instance : Cal Tryz.prog 94 := ⟨Tryz.call94⟩
instance : Cal Tryz.prog 95 := ⟨Tryz.call95⟩
instance : Cal Tryz.prog 188 := ⟨Tryz.call188⟩
instance : Cal Tryz.prog 190 := ⟨Tryz.call190⟩
open V (str byC ownV ownG ownS ownOk)
/-- Threads that do nothing. -/
noncomputable def thZ : List Value := Tryz.zeroCells131.toList
noncomputable abbrev wL (db : Nat) (a ag : Value) (n : Int) : List Value := .int .i64 10 :: .int .i64 1 :: .int .i64 0 :: .pointer (some ⟨db, 0, none⟩) :: a :: ag :: .int .i64 0 :: .int .i64 0 :: (thZ ++ [.int .i64 n, .int .i64 0, .slice none 0 0, .slice none 0 0])
noncomputable abbrev wO (wb db : Nat) (a ag : Value) (n : Int) : Nat × Obj := (wb, .cells (wL db a ag n).toArray 135 (0, 0))
theorem thZ_len : thZ.length = 120 := by decide +kernel
theorem thZ_one : thZ.all (·.oneCell') = true := by kernel_rfl
theorem zero_w (w : World) : (zeroValue 135).run Tryz.prog w = .ok (.agg (.int .i64 0 :: .int .i64 0 :: .int .i64 0 :: .pointer none :: .pointer none :: .pointer none :: .int .i64 0 :: .int .i64 0 :: (thZ ++ [.int .i64 0, .int .i64 0, .slice none 0 0, .slice none 0 0]) : List Value).toArray) w := (Tryz.zeroValue135 w).trans (by kernel_rfl)
theorem wNew_c (w : World) : Calls Tryz.prog 43 [.agg #[.int .i64 10, .int .i64 1, .int .i64 0]].toArray w fun e w' => ∃ y : (Nat × Aren) × (Nat × Nat) × Cnt, True ∧ e = .returned (.tuple #[.pointer (some ⟨y.1.1, 0, none⟩), .int .i64 0]) ∧ Hp ⟨w, []⟩ ([wO y.1.1 y.2.1.1 (.pointer (some ⟨y.1.2.a, 0, none⟩)) (.pointer none) 0] :: (arS y.1.2 y.2.1.1 1 0 ++ devS y.2.1.1 y.2.1.2 (fmtD 8) y.2.2)) w' := by
  refine V.calls [] Tryz.func43 rfl Tryz.ntmps43 (Nat.le_of_ble_eq_true rfl) (V.sat_nil _) <| Sq <| Rg <| Le XA fun b1 _ => Lv Av <| Lv Av <| Nl <| Ps <| Sq <| Sq <| Rg <| Lv (Fa 2 3) <| Lv Ld <| Lv Cm <| Lv Mv <| Lv (Fa 2 3) <| Lv Ld <| Lv Cm <| Lv Pf <| LW.re 13 (.bool false) rfl (by rfl) <| Nl <| Ps <| Cf <| Sk <| Ps <| Sq <| Rg <| Lv (Fa 0 3) <| Lv Ld <| Lv (Fa 1 3) <| Lv Ld <| Le (CM [] fun w hw hs => aNew_c w) fun y _ => Lv Mv <| Lv Ex <| Lv Ex <| Lv Av <| Lv Av <| Nl <| Ps <| Sq <| Sq <| Rg <| Lv Mv <| Lv Cm <| Nl <| Ps <| Cf <| Sk <| Ps <| Sq <| Dr ([[(b1, .cells [.int .i64 10, .int .i64 1, .int .i64 0].toArray 60 (0, 0))]]) <| Rv 0 rfl Lw <| Rv 1 rfl Mv <| Rv 3 rfl Mv <| Rv 4 rfl (Fa 2 3) <| Rv 5 rfl Ld <| Rv 6 rfl (Bd [_, _]) <| Re 2 rfl (CV fun w hw => aDev_c y.1 y.2.1.1 1 0 w hw.pk.sat) fun _ _ => Rv 7 rfl (Val.build (wL y.2.1.1 (.pointer (some ⟨y.1.a, 0, none⟩)) (.pointer none) 0) zero_w Tryz.underlying135 places135 rfl (by kernel_rfl)) <| Re 8 rfl XA fun b33 _ => Rv 9 rfl Av <| Rv 10 rfl Av <| Rd <| Ps <| Rt <| Rt2 ?_
  intro w' hw; exact ⟨((b33, y.1), y.2.1, y.2.2), trivial, rfl, hw.pick (by repeat (first | exact .nil | apply Pick.cons | exact .here | apply Ext.there))⟩
theorem upT_c (wb db xa : Nat) (ag : Value) (n : Int) (w : World) (hs : Sat [[wO wb db (.pointer (some ⟨xa, 0, none⟩)) ag n]] w) : Calls Tryz.prog 93 [.pointer (some ⟨wb, 0, none⟩)].toArray w fun e w' => e = .returned (.bool true) ∧ Below w.heap.size w w' := by
  refine V.calls [[wO wb db (.pointer (some ⟨xa, 0, none⟩)) ag n]] Tryz.func93 rfl Tryz.ntmps93 (Nat.le_of_ble_eq_true rfl) hs <| Sq <| Rg <| Lv Av <| Nl <| Ps <| Sq <| Rg <| Lv Mv <| Lv NP <| Lv Mv <| Lv Mv <| Lv Nz <| Lv (Fa 4 118) <| Lv Ld <| Lv NP <| Lv Pt <| Lv Av <| Nl <| Ps <| Rt <| Rt1 ?_
  intro w' hw; exact ⟨rfl, hw.ro (by repeat (first | exact .nil | apply Pick.cons | exact .here | apply Ext.there)) hs⟩
theorem upF_c (wb db xa : Nat) (ag : Value) (n : Int) (w : World) (hs : Sat [[wO wb db (.pointer none) ag n]] w) : Calls Tryz.prog 93 [.pointer (some ⟨wb, 0, none⟩)].toArray w fun e w' => e = .returned (.bool false) ∧ Below w.heap.size w w' := by
  refine V.calls [[wO wb db (.pointer none) ag n]] Tryz.func93 rfl Tryz.ntmps93 (Nat.le_of_ble_eq_true rfl) hs <| Sq <| Rg <| Lv Av <| Nl <| Ps <| Sq <| Rg <| Lv Mv <| Lv NP <| Lv Mv <| Lv Mv <| Lv Nz <| Lv (Fa 4 118) <| Lv Ld <| Lv NP0 <| Lv Pt <| Lv Av <| Nl <| Ps <| Rt <| Rt1 ?_
  intro w' hw; exact ⟨rfl, hw.ro (by repeat (first | exact .nil | apply Pick.cons | exact .here | apply Ext.there)) hs⟩
theorem wstore_c (wb db : Nat) (a ag : Value) (n : Int) (w : World) (hs : Sat [[wO wb db a ag n]] w) : Calls Tryz.prog 94 [.pointer (some ⟨wb, 0, none⟩)].toArray w fun e w' => e = .returned a ∧ Below w.heap.size w w' := by
  refine V.calls [[wO wb db a ag n]] Tryz.func94 rfl Tryz.ntmps94 (Nat.le_of_ble_eq_true rfl) hs <| Sq <| Rg <| Lv Av <| Nl <| Ps <| Sq <| Sq <| Rg <| Lv Mv <| Lv EP <| Nl <| Ps <| Cf <| Sk <| Ps <| Sq <| Rg <| Lv Mv <| Lv Nz <| Lv (Fa 4 118) <| Lv Ld <| Lv Av <| Nl <| Ps <| Rt <| Rt1 ?_
  intro w' hw; exact ⟨rfl, hw.ro (by repeat (first | exact .nil | apply Pick.cons | exact .here | apply Ext.there)) hs⟩
theorem wDev_c (wb db cb : Nat) (a ag : Value) (n : Int) (D : List Ce) (k : Cnt) (hD : D.length ≤ 1000) (w : World) (hs : Sat ([wO wb db a ag n] :: devS db cb D k) w) : Calls Tryz.prog 45 [.pointer (some ⟨wb, 0, none⟩)].toArray w fun e w' => ∃ x : Nat × V.OwnO, ownOk 193 D.length (D.flatMap ceC) x.2 ∧ e = .returned (.pointer (some ⟨x.1, 0, none⟩)) ∧ Hp ⟨w, V.ids ([wO wb db a ag n] :: devS db cb D k)⟩ (cpS x.1 x.2 D k ++ ([wO wb db a ag n] :: devS db cb D k)) w' := by
  refine V.calls ([wO wb db a ag n] :: devS db cb D k) Tryz.func45 rfl Tryz.ntmps45 (Nat.le_of_ble_eq_true rfl) hs <| Sq <| Rg <| Lv Av <| Nl <| Ps <| Sq <| Sq <| Rg <| Lv Mv <| Lv EP <| Nl <| Ps <| Cf <| Sk <| Ps <| Sq <| Rg <| Lv Mv <| Lv Nz <| Lv (Fa 3 91) <| Lv Ld <| Le (CM (devS db cb D k) fun w hw hs => copy_c db cb D k hD w hs) fun x hx => Lv Av <| Nl <| Ps <| Rt <| Rt1 ?_
  intro w' hw; exact ⟨x, hx, rfl, hw.pick (by repeat (first | exact .nil | apply Pick.cons | exact .here | apply Ext.there))⟩
theorem wEff_c (x : Aren) (wb db : Nat) (ag : Value) (dn st n : Int) (w : World) (hs : Sat ([wO wb db (.pointer (some ⟨x.a, 0, none⟩)) ag n] :: arS x db dn st) w) : Calls Tryz.prog 158 [.pointer (some ⟨wb, 0, none⟩)].toArray w fun e w' => e = .returned (.slice none 0 0) ∧ Below w.heap.size w w' := by
  refine V.calls ([wO wb db (.pointer (some ⟨x.a, 0, none⟩)) ag n] :: arS x db dn st) Tryz.func158 rfl Tryz.ntmps158 (Nat.le_of_ble_eq_true rfl) hs <| Sq <| Rg <| Lv Av <| Nl <| Ps <| Sq <| Sq <| Rg <| Lv Mv <| Lv EP <| Nl <| Ps <| Cf <| Sk <| Ps <| Sq <| Rg <| Lv Mv <| Lv Nz <| Lv (Fa 130 132) <| Lv Ld <| Le (CV fun w hw => cloneE_c w) fun _ _ => Lv Mv <| Le (CV fun w hw => wstore_c wb db (.pointer (some ⟨x.a, 0, none⟩)) ag n w hw.pk.sat) fun _ _ => Le (CV fun w hw => aEff_c x db dn st w hw.pk.sat) fun _ _ => Lv (Val.appendNil0 (z := .agg #[.int .i64 0, .string ⟨#[]⟩, .string ⟨#[]⟩, .int .u64 0, .int .u64 0, .int .u64 0, .int .i64 0]) (sz := 7) (bytes := 72) rfl rfl Tryz.underlying132 (by kernel_rfl)) <| Lv Av <| Nl <| Ps <| Rt <| Rt1 ?_
  intro w' hw; exact ⟨rfl, hw.ro (by repeat (first | exact .nil | apply Pick.cons | exact .here | apply Ext.there)) hs⟩
theorem wShelf_c (x : Aren) (wb db : Nat) (ag : Value) (dn st n : Int) (w : World) (hs : Sat ([wO wb db (.pointer (some ⟨x.a, 0, none⟩)) ag n] :: arS x db dn st) w) : Calls Tryz.prog 53 [.pointer (some ⟨wb, 0, none⟩)].toArray w fun e w' => e = .returned (.agg #[.slice none 0 0, .slice none 0 0]) ∧ Below w.heap.size w w' := by
  refine V.calls ([wO wb db (.pointer (some ⟨x.a, 0, none⟩)) ag n] :: arS x db dn st) Tryz.func53 rfl Tryz.ntmps53 (Nat.le_of_ble_eq_true rfl) hs <| Sq <| Rg <| Le AA fun b2 _ => Nl <| Ps <| Sq <| Rg <| Lv Mv <| Le (CV fun w hw => wstore_c wb db (.pointer (some ⟨x.a, 0, none⟩)) ag n w hw.pk.sat) fun _ _ => Le (CV fun w hw => aShelf_c x db dn st w hw.pk.sat) fun _ _ => LeN StW fun _ _ => Nl <| Ps <| Rt <| PQ.retC (l := [.slice none 0 0, .slice none 0 0]) rfl rfl (by repeat (first | exact .here | exact .inner .here | exact .inner (.inner .here) | refine .there ?_)) Tryz.isAgg34 (by exact Tryz.sizeOf34) ?_
  intro w' hw; exact ⟨rfl, hw.ro (by repeat (first | exact .nil | apply Pick.cons | exact .here | apply Ext.there)) hs⟩
theorem idxE_c (v : Value) (w : World) : Calls Tryz.prog 188 [.slice none 0 0, v].toArray w fun e w' => e = .returned (.int .i64 (-1)) ∧ Below w.heap.size w w' := by
  refine V.calls [] Tryz.func188 rfl Tryz.ntmps188 (Nat.le_of_ble_eq_true rfl) (V.sat_nil _) <| Sq <| Rg <| Lv Av <| Nl <| Ps <| Sq <| Sq <| Rg <| Lv Mv <| Lv Ln <| Lv Mv <| Nl <| Ps <| Bk <| CW.loopU 0 <| Sq <| Rg <| Lv Cm <| Nl <| Ps <| Sq <| Cf <| Xt <| Te <| Te <| Bh <| Ps <| Sq <| Rg <| Lv Av <| Nl <| Ps <| Rt <| Rt1 ?_
  intro w' hw; exact ⟨rfl, hw.below⟩
theorem delE_c (v : Value) (w : World) : Calls Tryz.prog 157 [.slice none 0 0, v].toArray w fun e w' => e = .returned (.slice none 0 0) ∧ Below w.heap.size w w' := by
  refine V.calls [] Tryz.func157 rfl Tryz.ntmps157 (Nat.le_of_ble_eq_true rfl) (V.sat_nil _) <| Sq <| Rg <| Lv Av <| Nl <| Ps <| Sq <| Rg <| Lv Mv <| Lv Mv <| Le (CV fun w hw => idxE_c v w) fun _ _ => Lv Av <| Nl <| Ps <| Sq <| Sq <| Rg <| Lv Mv <| Lv Cm <| Nl <| Ps <| Ct <| Sq <| Rg <| Lv Mv <| Lv Av <| Nl <| Ps <| Rt <| Tr <| Rt1 ?_
  intro w' hw; exact ⟨rfl, hw.below⟩
def doW : V.MI := [(0, 1, .func (.func 116) #[] #[]), (1, 2, .func (.func 117) #[] #[]), (2, 3, .func (.func 118) #[] #[]), (3, 4, .func (.func 119) #[] #[]), (4, 5, .func (.func 120) #[] #[]), (5, 6, .func (.func 121) #[] #[])]
theorem doings_c (w : World) : Calls Tryz.prog 87 [].toArray w fun e w' => ∃ b : Nat, True ∧ e = .returned (.map (some b)) ∧ Hp ⟨w, []⟩ [[(b, V.imO doW 6)]] w' := by
  refine V.calls [] Tryz.func87 rfl Tryz.ntmps87 (Nat.le_of_ble_eq_true rfl) (V.sat_nil _) <| Sq <| Rg <| Lv Av <| Nl <| Ps <| Sq <| Rg <| Le (Eff.imakeMap) fun b1 _ => LeN (Eff.insert rfl rfl rfl Tryz.underlying144 Tryz.underlying3 (by repeat (first | exact .here | exact .inner .here | exact .inner (.inner .here) | apply Upd.there)) (by rfl)) fun _ _ => LeN (Eff.insert rfl rfl rfl Tryz.underlying144 Tryz.underlying3 (by repeat (first | exact .here | exact .inner .here | exact .inner (.inner .here) | apply Upd.there)) (by rfl)) fun _ _ => LeN (Eff.insert rfl rfl rfl Tryz.underlying144 Tryz.underlying3 (by repeat (first | exact .here | exact .inner .here | exact .inner (.inner .here) | apply Upd.there)) (by rfl)) fun _ _ => LeN (Eff.insert rfl rfl rfl Tryz.underlying144 Tryz.underlying3 (by repeat (first | exact .here | exact .inner .here | exact .inner (.inner .here) | apply Upd.there)) (by rfl)) fun _ _ => LeN (Eff.insert rfl rfl rfl Tryz.underlying144 Tryz.underlying3 (by repeat (first | exact .here | exact .inner .here | exact .inner (.inner .here) | apply Upd.there)) (by rfl)) fun _ _ => LeN (Eff.insert rfl rfl rfl Tryz.underlying144 Tryz.underlying3 (by repeat (first | exact .here | exact .inner .here | exact .inner (.inner .here) | apply Upd.there)) (by rfl)) fun _ _ => Lv Mv <| Lv Av <| Nl <| Ps <| Rt <| Rt1 ?_
  intro w' hw; exact ⟨b1, trivial, rfl, hw⟩
end Go.Proofs.YtlpbjmbgopfkhaaGreat

/- What events do to a world on an empty device. -/
namespace Go.Proofs.YtlpbjmbgopfkhaaGreat
open Go Go.RowKit V
set_option linter.unusedVariables false
set_option maxRecDepth 100000
instance : Und Tryz.prog 52 (dOf Tryz.underlying52) := ⟨Tryz.underlying52⟩
instance : Siz Tryz.prog 52 (kOf Tryz.sizeOf52) := ⟨Tryz.sizeOf52⟩
instance : AgT Tryz.prog 52 := ⟨Tryz.isAgg52⟩
instance : Zer Tryz.prog 52 (zOf Tryz.zeroValue52) := ⟨Tryz.zeroValue52⟩
instance : Und Tryz.prog 62 (dOf Tryz.underlying62) := ⟨Tryz.underlying62⟩
instance : Siz Tryz.prog 62 (kOf Tryz.sizeOf62) := ⟨Tryz.sizeOf62⟩
instance : AgT Tryz.prog 62 := ⟨Tryz.isAgg62⟩
instance : Zer Tryz.prog 62 (zOf Tryz.zeroValue62) := ⟨Tryz.zeroValue62⟩
instance : Und Tryz.prog 130 (dOf Tryz.underlying130) := ⟨Tryz.underlying130⟩
instance : Siz Tryz.prog 130 (kOf Tryz.sizeOf130) := ⟨Tryz.sizeOf130⟩
instance : AgT Tryz.prog 130 := ⟨Tryz.isAgg130⟩
instance : Zer Tryz.prog 130 (zOf Tryz.zeroValue130) := ⟨Tryz.zeroValue130⟩
instance : Cal Tryz.prog 154 := ⟨Tryz.call154⟩
instance : Cal Tryz.prog 155 := ⟨Tryz.call155⟩
instance : Cal Tryz.prog 157 := ⟨Tryz.call157⟩
instance : Cal Tryz.prog 158 := ⟨Tryz.call158⟩
open V (str byC ownV ownG ownS ownOk)
abbrev evC (k : Int) : List Value := [.int .i64 k, .int .i64 0, .int .i64 0, .int .i64 0, .string ⟨#[]⟩, .string ⟨#[]⟩, .string ⟨#[]⟩, .slice none 0 0, .slice none 0 0]
theorem wback_c (wb db cb : Nat) (a ag : Value) (n : Int) (k : Cnt) (w : World) (hs : Sat ([wO wb db a ag n] :: devS db cb (fmtD 8) k) w) : Calls Tryz.prog 119 [.pointer (some ⟨wb, 0, none⟩), .agg (evC 4).toArray].toArray w fun e w' => ∃ k' : Cnt, True ∧ e = .returned (.int .i64 0) ∧ Hp ⟨w, V.ids ([wO wb db a ag n] :: devS db cb (fmtD 8) k)⟩ ([wO wb db a ag n] :: devS db cb (fmtD 8) k') w' := by
  refine V.calls ([wO wb db a ag n] :: devS db cb (fmtD 8) k) Tryz.func119 rfl Tryz.ntmps119 (Nat.le_of_ble_eq_true rfl) hs <| Sq <| Rg <| Le XA fun b3 _ => Lv Av <| Nl <| Ps <| Sq <| Dr ([[wO wb db a ag n], [(b3, .cells (evC 4).toArray 62 (0, 0))]]) <| Rv 0 rfl Mv <| Rv 1 rfl Nz <| Rv 2 rfl (Fa 3 91) <| Rv 3 rfl Ld <| Rv 4 rfl (Fa 2 3) <| Rv 5 rfl Ld <| Re 6 rfl (CM (devS db cb (fmtD 8) k) fun w hw hs => back_c db cb (fmtD 8) k 0 (frm (superB 10)) f8_0 w hs) fun k' _ => ?_
  rw [show (fmtD 8).set 0 (Ce.mk (frm (superB 10)).now (frm (superB 10)).now (frm (superB 10)).way false) = fmtD 8 from rfl]
  refine Rv 7 rfl Av <| Rd <| Ps <| Rt <| Rt1 ?_
  intro w' hw; exact ⟨k', trivial, rfl, hw.pick (by repeat (first | exact .nil | apply Pick.cons | exact .here | apply Ext.there))⟩
theorem wcut_c (x : Aren) (wb db cb : Nat) (dn st n : Int) (k : Cnt) (w : World) (hs : Sat ([wO wb db (.pointer (some ⟨x.a, 0, none⟩)) (.pointer none) n] :: (arS x db dn st ++ devS db cb (fmtD 8) k)) w) : Calls Tryz.prog 120 [.pointer (some ⟨wb, 0, none⟩), .agg (evC 5).toArray].toArray w fun e w' => ∃ k' : Cnt, True ∧ e = .returned (.int .i64 0) ∧ Hp ⟨w, V.ids ([wO wb db (.pointer (some ⟨x.a, 0, none⟩)) (.pointer none) n] :: (arS x db dn st ++ devS db cb (fmtD 8) k))⟩ ([wO wb db (.pointer none) (.pointer none) n] :: devS db cb (fmtD 8) k') w' := by
  refine V.calls ([wO wb db (.pointer (some ⟨x.a, 0, none⟩)) (.pointer none) n] :: (arS x db dn st ++ devS db cb (fmtD 8) k)) Tryz.func120 rfl Tryz.ntmps120 (Nat.le_of_ble_eq_true rfl) hs <| Sq <| Rg <| Le XA fun b3 _ => Lv Av <| Nl <| Ps <| Sq <| Sq <| Dr ([[wO wb db (.pointer (some ⟨x.a, 0, none⟩)) (.pointer none) n], [(b3, .cells (evC 5).toArray 62 (0, 0))]]) <| Rv 0 rfl Mv <| Rv 1 rfl Nz <| Rv 2 rfl (Fa 3 91) <| Rv 3 rfl Ld <| Rv 4 rfl (Fa 8 29) <| Rv 5 rfl Ld <| Re 6 rfl (CM (devS db cb (fmtD 8) k) fun w hw hs => cut_c db cb (fmtD 8) k f8_calm (by decide) w hs) fun k' _ => Rv 7 rfl Mv <| Rv 8 rfl Ex <| Rv 9 rfl Ex <| Rv 10 rfl Av <| Rv 11 rfl Av <| Rd <| Ps <| Sq <| Rg <| Lv Mv <| Lv Cm <| Nl <| Ps <| Cf <| Sk <| Ps <| Sq <| Rg <| Lv Mv <| Lv Nz <| Lv (Fa 3 91) <| Lv Ld <| Le (CM [] fun w hw hs => load_c db cb (fmtD 8) k' 1 (frm (clockB 0)) f8_1 w hw.pk.sat) fun o ho => ?_
  obtain ⟨p, cp, hv, hsl⟩ := own64 (frm (clockB 0)).now o ho
  refine Lv Mv <| Lv Ex <| LW.re 30 (.slice p 64 cp) rfl hv <| Lv Ex <| Lv Av <| Lv Av <| Nl <| Ps <| Sq <| Rg <| Lv Mv <| Le (CV fun w hw => isClock_c (frm (clockB 0)).now p cp w (hsl hw (by repeat (first | exact .nil | apply Pick.cons | exact .here | apply Ext.there)))) fun _ _ => Lv Mv <| Lv Ex <| Lv Ex <| Le AS fun b9 _ => LeN StS fun _ _ => Lv Av <| Nl <| Ps <| Sq <| Rg <| Lv Mv <| Lv Mv <| Le (CV fun w hw => wEff_c x wb db (.pointer none) dn st n w hw.pk.sat) fun _ _ => Lv Mf <| Le (CV fun w hw => delE_c _ w) fun _ _ => Lv Nz <| Lv (Fa 130 132) <| LeN StS fun _ _ => Nl <| Ps <| Sq <| Rg <| Lv Mv <| Lv Mv <| Lv Mv <| Lv (Bd [_, _]) <| Lv Nz <| Lv (Fa 4 118) <| LeN StS fun _ _ => Lv Nz <| Lv (Fa 5 123) <| LeN StS fun _ _ => Lv Nz <| Lv (Fa 6 122) <| LeN (Eff.storeA (cs := [.int .i64 0, .int .i64 0]) (l' := (wL db (.pointer none) (.pointer none) n)) rfl rfl (by repeat (first | exact .here | exact .inner .here | exact .inner (.inner .here) | apply Upd.there)) (by kernel_rfl) (by simp [thZ_len]) Tryz.sizeOf122 (by rfl)) fun _ _ => Nl <| Ps <| Sq <| Rg <| Lv Mv <| Lv (Val.buildArr thZ Tryz.zeroValue131 Tryz.underlying131 Tryz.sizeOf130 rfl (by rfl)) <| Lv Nz <| Lv (Fa 8 131) <| LeN (Eff.storeA (cs := thZ) (l := (wL db (.pointer none) (.pointer none) n)) (l' := (wL db (.pointer none) (.pointer none) n)) rfl rfl (by repeat (first | exact .here | exact .inner .here | exact .inner (.inner .here) | apply Upd.there)) (by kernel_rfl) (by simp [thZ_len]) (by rw [thZ_len]; exact Tryz.sizeOf131) thZ_one) fun _ _ => Nl <| Ps <| Sq <| Rg <| Lv Av <| Nl <| Ps <| Rt <| Rt1 ?_
  intro w' hw; exact ⟨k', trivial, rfl, hw.pick (by repeat (first | exact .nil | apply Pick.cons | exact .here | apply Ext.there))⟩
end Go.Proofs.YtlpbjmbgopfkhaaGreat

/- A world is revived, event by event. -/
namespace Go.Proofs.YtlpbjmbgopfkhaaGreat
open Go Go.RowKit V
set_option linter.unusedVariables false
set_option maxRecDepth 100000
instance : Cal Tryz.prog 87 := ⟨Tryz.call87⟩
instance : Cal Tryz.prog 160 := ⟨Tryz.call160⟩
instance : Cal Tryz.prog 161 := ⟨Tryz.call161⟩
instance : Cal Tryz.prog 162 := ⟨Tryz.call162⟩
open V (str byC ownV ownG ownS ownOk)
theorem arenaX_c (rb db : Nat) (th ph e0 nx dn st : Int) (s : Value) (why : Int) (w : World) (hs : Sat [[rvO rb db th ph e0 nx dn st s why]] w) (hph : ph ≠ 6) : Calls Tryz.prog 162 [.pointer (some ⟨rb, 0, none⟩)].toArray w fun e w' => e = .returned (.tuple #[.pointer none, .bool false]) ∧ Below w.heap.size w w' := by
  refine V.calls [[rvO rb db th ph e0 nx dn st s why]] Tryz.func162 rfl Tryz.ntmps162 (Nat.le_of_ble_eq_true rfl) hs <| Sq <| Rg <| Lv Av <| Lv Av <| Nl <| Ps <| Sq <| Sq <| Rg <| Lv Mv <| Lv EP <| Lv Mv <| Lv Mv <| Lv Nz <| Lv (Fa 2 3) <| Lv Ld <| Lv Cm <| LW.re 11 (.bool true) rfl (by simp [hph]) <| Lv Pf <| Nl <| Ps <| Ct <| Sq <| Rg <| Lv Av <| Lv Av <| Nl <| Ps <| Rt <| Tr <| Rt2 ?_
  intro w' hw; exact ⟨rfl, hw.ro (by repeat (first | exact .nil | apply Pick.cons | exact .here | apply Ext.there)) hs⟩
theorem phF_lt {i : Nat} (h : i < 12) : phF (i + 1) ≠ 6 := by
  simp only [phF]
  split
  · omega
  · split <;> omega
theorem wrev0_c (wb db cb : Nat) (n : Int) (k : Cnt) (w : World) (hs : Sat ([wO wb db (.pointer none) (.pointer none) n] :: devS db cb (fmtD 8) k) w) : Calls Tryz.prog 121 [.pointer (some ⟨wb, 0, none⟩), .agg (evC 6).toArray].toArray w fun e w' => ∃ y : Nat × Cnt, True ∧ e = .returned (.int .i64 0) ∧ Hp ⟨w, V.ids ([wO wb db (.pointer none) (.pointer none) n] :: devS db cb (fmtD 8) k)⟩ ([wO wb db (.pointer none) (.pointer (some ⟨y.1, 0, none⟩)) n] :: ST y.1 db cb 1 (.pointer none) y.2) w' := by
  refine V.calls ([wO wb db (.pointer none) (.pointer none) n] :: devS db cb (fmtD 8) k) Tryz.func121 rfl Tryz.ntmps121 (Nat.le_of_ble_eq_true rfl) hs <| Sq <| Rg <| Le XA fun b3 _ => Lv Av <| Nl <| Ps <| Sq <| Sq <| Rg <| Lv Mv <| Lv Nz <| Lv (Fa 4 118) <| Lv Ld <| Lv NP0 <| Nl <| Ps <| Cf <| Sk <| Ps <| Sq <| Sq <| Rg <| Lv Mv <| Lv Nz <| Lv (Fa 5 123) <| Lv Ld <| Lv EP0 <| Nl <| Ps <| Ct <| Dr ([]) <| Rv 0 rfl Mv <| Rv 1 rfl Mv <| Rv 2 rfl Nz <| Rv 3 rfl (Fa 3 91) <| Rv 5 rfl Mv <| Rv 6 rfl Nz <| Rv 7 rfl (Fa 0 60) <| Rv 8 rfl (Fa 1 3) <| RW.batch [(4, 23, _), (9, 28, _)] 7 rfl (by kernel_rfl) rfl rfl (by simp) (by simp) ⟨⟨_, rfl, rfl, rfl, Eff.ofVal (Val.load rfl Tryz.isAgg91 (by repeat (first | exact .here | exact .inner .here | exact .inner (.inner .here) | refine .there ?_)) (by rfl))⟩, ⟨_, rfl, rfl, rfl, Eff.ofVal (Val.load rfl Tryz.isAgg3 (by repeat (first | exact .here | exact .inner .here | exact .inner (.inner .here) | refine .there ?_)) (by rfl))⟩, trivial⟩ ⟨_, (by repeat (first | exact .nil | apply Pick.cons | exact .here | apply Ext.there))⟩ <| Re 10 rfl (CM [] fun w hw hs => rnew_c db 1 (by omega) w) fun rb _ => Rv 11 rfl Mv <| Rv 12 rfl Ex <| Rv 13 rfl Ex <| Rv 14 rfl Nz <| Rv 15 rfl (Fa 5 123) <| ReN 16 rfl StS fun _ _ => Rd <| Ps <| Sq <| Rg <| Lv Mv <| Lv Nz <| Lv (Fa 5 123) <| Lv Ld <| Le (CM ((ST rb db cb 0 (.pointer none) k)) fun w hw hs => rstep_c rb db cb 0 (by omega) k w hs) fun k' _ => Lv Av <| Nl <| Ps <| Sq <| Sq <| Rg <| Lv Mv <| Lv Nz <| Lv (Fa 5 123) <| Lv Ld <| Le (CV fun w hw => arenaX_c rb db 1 (phF (0 + 1)) 0 (nxF (0 + 1)) (dnF (0 + 1)) 0 (.pointer none) 0 w hw.pk.sat (phF_lt (by omega))) fun _ _ => Lv Mv <| Lv Ex <| Lv Ex <| Lv Av <| Lv Av <| Nl <| Ps <| Sq <| Rg <| Lv Mv <| Nl <| Ps <| Cf <| Sk <| Ps <| Sq <| Rg <| Lv Mv <| Lv Av <| Nl <| Ps <| Rt <| Rt1 ?_
  intro w' hw; exact ⟨(rb, k'), trivial, rfl, hw.pick (by repeat (first | exact .nil | apply Pick.cons | exact .here | apply Ext.there))⟩
theorem wrev1_c (wb rb db cb i : Nat) (hi : i < 12) (n : Int) (k : Cnt) (w : World) (hs : Sat ([wO wb db (.pointer none) (.pointer (some ⟨rb, 0, none⟩)) n] :: ST rb db cb i (.pointer none) k) w) : Calls Tryz.prog 121 [.pointer (some ⟨wb, 0, none⟩), .agg (evC 6).toArray].toArray w fun e w' => ∃ k' : Cnt, True ∧ e = .returned (.int .i64 0) ∧ Hp ⟨w, V.ids ([wO wb db (.pointer none) (.pointer (some ⟨rb, 0, none⟩)) n] :: ST rb db cb i (.pointer none) k)⟩ ([wO wb db (.pointer none) (.pointer (some ⟨rb, 0, none⟩)) n] :: ST rb db cb (i + 1) (.pointer none) k') w' := by
  refine V.calls ([wO wb db (.pointer none) (.pointer (some ⟨rb, 0, none⟩)) n] :: ST rb db cb i (.pointer none) k) Tryz.func121 rfl Tryz.ntmps121 (Nat.le_of_ble_eq_true rfl) hs <| Sq <| Rg <| Le XA fun b3 _ => Lv Av <| Nl <| Ps <| Sq <| Sq <| Rg <| Lv Mv <| Lv Nz <| Lv (Fa 4 118) <| Lv Ld <| Lv NP0 <| Nl <| Ps <| Cf <| Sk <| Ps <| Sq <| Sq <| Rg <| Lv Mv <| Lv Nz <| Lv (Fa 5 123) <| Lv Ld <| Lv EP <| Nl <| Ps <| Cf <| Sk <| Ps <| Sq <| Rg <| Lv Mv <| Lv Nz <| Lv (Fa 5 123) <| Lv Ld <| Le (CM ((ST rb db cb i (.pointer none) k)) fun w hw hs => rstep_c rb db cb i hi k w hs) fun k' _ => Lv Av <| Nl <| Ps <| Sq <| Sq <| Rg <| Lv Mv <| Lv Nz <| Lv (Fa 5 123) <| Lv Ld <| Le (CV fun w hw => arenaX_c rb db 1 (phF (i + 1)) 0 (nxF (i + 1)) (dnF (i + 1)) 0 (.pointer none) 0 w hw.pk.sat (phF_lt hi)) fun _ _ => Lv Mv <| Lv Ex <| Lv Ex <| Lv Av <| Lv Av <| Nl <| Ps <| Sq <| Rg <| Lv Mv <| Nl <| Ps <| Cf <| Sk <| Ps <| Sq <| Rg <| Lv Mv <| Lv Av <| Nl <| Ps <| Rt <| Rt1 ?_
  intro w' hw; exact ⟨k', trivial, rfl, hw.pick (by repeat (first | exact .nil | apply Pick.cons | exact .here | apply Ext.there))⟩
theorem wrev2_c (wb rb db cb : Nat) (n : Int) (k : Cnt) (w : World) (hs : Sat ([wO wb db (.pointer none) (.pointer (some ⟨rb, 0, none⟩)) n] :: ([rvO rb db 1 5 0 0 0 0 (.pointer none) 0] :: devS db cb (fmtD 8) k)) w) : Calls Tryz.prog 121 [.pointer (some ⟨wb, 0, none⟩), .agg (evC 6).toArray].toArray w fun e w' => ∃ x : Aren, True ∧ e = .returned (.int .i64 0) ∧ Hp ⟨w, V.ids ([wO wb db (.pointer none) (.pointer (some ⟨rb, 0, none⟩)) n] :: ([rvO rb db 1 5 0 0 0 0 (.pointer none) 0] :: devS db cb (fmtD 8) k))⟩ ([wO wb db (.pointer (some ⟨x.a, 0, none⟩)) (.pointer none) n] :: (arS x db 0 0 ++ devS db cb (fmtD 8) k)) w' := by
  refine V.calls ([wO wb db (.pointer none) (.pointer (some ⟨rb, 0, none⟩)) n] :: ([rvO rb db 1 5 0 0 0 0 (.pointer none) 0] :: devS db cb (fmtD 8) k)) Tryz.func121 rfl Tryz.ntmps121 (Nat.le_of_ble_eq_true rfl) hs <| Sq <| Rg <| Le XA fun b3 _ => Lv Av <| Nl <| Ps <| Sq <| Sq <| Rg <| Lv Mv <| Lv Nz <| Lv (Fa 4 118) <| Lv Ld <| Lv NP0 <| Nl <| Ps <| Cf <| Sk <| Ps <| Sq <| Sq <| Rg <| Lv Mv <| Lv Nz <| Lv (Fa 5 123) <| Lv Ld <| Lv EP <| Nl <| Ps <| Cf <| Sk <| Ps <| Sq <| Rg <| Lv Mv <| Lv Nz <| Lv (Fa 5 123) <| Lv Ld <| Le (CM (([rvO rb db 1 5 0 0 0 0 (.pointer none) 0] :: devS db cb (fmtD 8) k)) fun w hw hs => st_buildM rb db cb k w hs) fun x _ => Lv Av <| Nl <| Ps <| Sq <| Sq <| Rg <| Lv Mv <| Lv Nz <| Lv (Fa 5 123) <| Lv Ld <| Le (CV fun w hw => arena_c rb db 1 6 0 0 1 0 (.pointer (some ⟨x.a, 0, none⟩)) 0 w hw.pk.sat rfl) fun _ _ => Lv Mv <| Lv Ex <| Lv Ex <| Lv Av <| Lv Av <| Nl <| Ps <| Sq <| Rg <| Lv Mv <| Nl <| Ps <| Ct <| Sq <| Rg <| Lv Mv <| Lv Mv <| Lv Mv <| Lv Nz <| Lv (Fa 4 118) <| LeN StS fun _ _ => Lv Nz <| Lv (Fa 5 123) <| LeN StS fun _ _ => Nl <| Ps <| Rg <| Lv Mv <| Lv Mv <| Lv Nz <| Lv (Fa 0 60) <| Lv (Fa 2 3) <| Lv Ld <| Lv (Bd [_, _]) <| Lv Nz <| Lv (Fa 6 122) <| LeN (Eff.storeA (cs := [.int .i64 0, .int .i64 0]) (l' := wL db (.pointer (some ⟨x.a, 0, none⟩)) (.pointer none) n) rfl rfl (by repeat (first | exact .here | exact .inner .here | exact .inner (.inner .here) | apply Upd.there)) (by kernel_rfl) (by simp [thZ_len]) Tryz.sizeOf122 (by rfl)) fun _ _ => Nl <| Ps <| Sq <| Rg <| Lv Mv <| Lv Av <| Nl <| Ps <| Rt <| Rt1 ?_
  intro w' hw; exact ⟨x, trivial, rfl, hw.pick (by repeat (first | exact .nil | apply Pick.cons | exact .here | apply Ext.there))⟩
theorem dBack_c (wb db cb : Nat) (a ag : Value) (n : Nat) (hn : n ≤ 1000) (k : Cnt) (w : World) (hs : Sat ([wO wb db a ag ((n : Nat) : Int)] :: devS db cb (fmtD 8) k) w) : Calls Tryz.prog 48 [.pointer (some ⟨wb, 0, none⟩), .agg (evC 4).toArray].toArray w fun e w' => ∃ k' : Cnt, True ∧ e = .returned (.int .i64 0) ∧ Hp ⟨w, V.ids ([wO wb db a ag ((n : Nat) : Int)] :: devS db cb (fmtD 8) k)⟩ ([wO wb db a ag ((n + 1 : Nat) : Int)] :: devS db cb (fmtD 8) k') w' := by
  refine V.calls ([wO wb db a ag ((n : Nat) : Int)] :: devS db cb (fmtD 8) k) Tryz.func48 rfl Tryz.ntmps48 (Nat.le_of_ble_eq_true rfl) hs <| Sq <| Rg <| Le XA fun b3 _ => Lv Av <| Nl <| Ps <| Sq <| Dr ([[(b3, .cells (evC 4).toArray 62 (0, 0))]]) <| Rv 1 rfl (Fa 0 3) <| Rv 2 rfl Ld <| Re 0 rfl (CM [] fun w hw hs => doings_c w) fun mb _ => Re 3 rfl (Eff.ofVal (Val.ilookup (E := doW) (c := 6) (k := 4) (z := .nilFunc) rfl rfl Tryz.underlying144 Tryz.underlying3 Tryz.zeroValue142 (by repeat (first | exact .here | exact .inner .here | exact .inner (.inner .here) | refine .there ?_)))) fun _ _ => Rv 4 rfl Mv <| Rv 5 rfl Ex <| RW.re 13 (.func (.func 119) #[] #[]) rfl (by rfl) <| Rv 6 rfl Ex <| RW.re 14 (.bool true) rfl (by rfl) <| Rv 7 rfl Av <| Rv 8 rfl Av <| Rd <| Ps <| Sq <| Sq <| Rg <| Lv Mv <| Lv EP <| Lv Mv <| Lv Mv <| Lv Nt <| Lv Pf <| Nl <| Ps <| Cf <| Sk <| Ps <| Sq <| Rg <| Lv Mv <| Lv Mv <| Lv Lw <| Le (Eff.callFM (f := 119) (caps := []) (([wO wb db a ag ((n : Nat) : Int)] :: devS db cb (fmtD 8) k)) (by repeat (first | exact .nil | apply Pick.cons | exact .here | apply Ext.there)) rfl rfl Tryz.call119 (fun w hw hs => wback_c wb db cb a ag ((n : Nat) : Int) k w hs)) fun k' _ => Lv Av <| Nl <| Ps <| Sq <| Sq <| Rg <| Lv Mv <| Lv Cm <| Nl <| Ps <| Ct <| Rg <| Lv Mv <| Lv Nz <| Lv (Fa 128 3) <| Lv Ld <| Lv Ar <| LW.re 31 (.int .i64 ((n + 1 : Nat) : Int)) rfl (by first | rfl | (congr 1; omega)) <| Lv Nz <| Lv (Fa 128 3) <| LeN StS fun _ _ => Nl <| Ps <| Sq <| Rg <| Lv Mv <| Lv Av <| Nl <| Ps <| Rt <| Rt1 ?_
  intro w' hw; exact ⟨k', trivial, rfl, hw.pick (by repeat (first | exact .nil | apply Pick.cons | exact .here | apply Ext.there))⟩
theorem dCut_c (x : Aren) (wb db cb : Nat) (dn st : Int) (n : Nat) (hn : n ≤ 1000) (k : Cnt) (w : World) (hs : Sat ([wO wb db (.pointer (some ⟨x.a, 0, none⟩)) (.pointer none) ((n : Nat) : Int)] :: (arS x db dn st ++ devS db cb (fmtD 8) k)) w) : Calls Tryz.prog 48 [.pointer (some ⟨wb, 0, none⟩), .agg (evC 5).toArray].toArray w fun e w' => ∃ k' : Cnt, True ∧ e = .returned (.int .i64 0) ∧ Hp ⟨w, V.ids ([wO wb db (.pointer (some ⟨x.a, 0, none⟩)) (.pointer none) ((n : Nat) : Int)] :: (arS x db dn st ++ devS db cb (fmtD 8) k))⟩ ([wO wb db (.pointer none) (.pointer none) ((n + 1 : Nat) : Int)] :: devS db cb (fmtD 8) k') w' := by
  refine V.calls ([wO wb db (.pointer (some ⟨x.a, 0, none⟩)) (.pointer none) ((n : Nat) : Int)] :: (arS x db dn st ++ devS db cb (fmtD 8) k)) Tryz.func48 rfl Tryz.ntmps48 (Nat.le_of_ble_eq_true rfl) hs <| Sq <| Rg <| Le XA fun b3 _ => Lv Av <| Nl <| Ps <| Sq <| Dr ([[(b3, .cells (evC 5).toArray 62 (0, 0))]]) <| Rv 1 rfl (Fa 0 3) <| Rv 2 rfl Ld <| Re 0 rfl (CM [] fun w hw hs => doings_c w) fun mb _ => Re 3 rfl (Eff.ofVal (Val.ilookup (E := doW) (c := 6) (k := 5) (z := .nilFunc) rfl rfl Tryz.underlying144 Tryz.underlying3 Tryz.zeroValue142 (by repeat (first | exact .here | exact .inner .here | exact .inner (.inner .here) | refine .there ?_)))) fun _ _ => Rv 4 rfl Mv <| Rv 5 rfl Ex <| RW.re 13 (.func (.func 120) #[] #[]) rfl (by rfl) <| Rv 6 rfl Ex <| RW.re 14 (.bool true) rfl (by rfl) <| Rv 7 rfl Av <| Rv 8 rfl Av <| Rd <| Ps <| Sq <| Sq <| Rg <| Lv Mv <| Lv EP <| Lv Mv <| Lv Mv <| Lv Nt <| Lv Pf <| Nl <| Ps <| Cf <| Sk <| Ps <| Sq <| Rg <| Lv Mv <| Lv Mv <| Lv Lw <| Le (Eff.callFM (f := 120) (caps := []) (([wO wb db (.pointer (some ⟨x.a, 0, none⟩)) (.pointer none) ((n : Nat) : Int)] :: (arS x db dn st ++ devS db cb (fmtD 8) k))) (by repeat (first | exact .nil | apply Pick.cons | exact .here | apply Ext.there)) rfl rfl Tryz.call120 (fun w hw hs => wcut_c x wb db cb dn st ((n : Nat) : Int) k w hs)) fun k' _ => Lv Av <| Nl <| Ps <| Sq <| Sq <| Rg <| Lv Mv <| Lv Cm <| Nl <| Ps <| Ct <| Rg <| Lv Mv <| Lv Nz <| Lv (Fa 128 3) <| Lv Ld <| Lv Ar <| LW.re 31 (.int .i64 ((n + 1 : Nat) : Int)) rfl (by first | rfl | (congr 1; omega)) <| Lv Nz <| Lv (Fa 128 3) <| LeN StS fun _ _ => Nl <| Ps <| Sq <| Rg <| Lv Mv <| Lv Av <| Nl <| Ps <| Rt <| Rt1 ?_
  intro w' hw; exact ⟨k', trivial, rfl, hw.pick (by repeat (first | exact .nil | apply Pick.cons | exact .here | apply Ext.there))⟩
theorem dRev0_c (wb db cb : Nat) (n : Nat) (hn : n ≤ 1000) (k : Cnt) (w : World) (hs : Sat ([wO wb db (.pointer none) (.pointer none) ((n : Nat) : Int)] :: devS db cb (fmtD 8) k) w) : Calls Tryz.prog 48 [.pointer (some ⟨wb, 0, none⟩), .agg (evC 6).toArray].toArray w fun e w' => ∃ y : Nat × Cnt, True ∧ e = .returned (.int .i64 0) ∧ Hp ⟨w, V.ids ([wO wb db (.pointer none) (.pointer none) ((n : Nat) : Int)] :: devS db cb (fmtD 8) k)⟩ ([wO wb db (.pointer none) (.pointer (some ⟨y.1, 0, none⟩)) ((n + 1 : Nat) : Int)] :: ST y.1 db cb 1 (.pointer none) y.2) w' := by
  refine V.calls ([wO wb db (.pointer none) (.pointer none) ((n : Nat) : Int)] :: devS db cb (fmtD 8) k) Tryz.func48 rfl Tryz.ntmps48 (Nat.le_of_ble_eq_true rfl) hs <| Sq <| Rg <| Le XA fun b3 _ => Lv Av <| Nl <| Ps <| Sq <| Dr ([[(b3, .cells (evC 6).toArray 62 (0, 0))]]) <| Rv 1 rfl (Fa 0 3) <| Rv 2 rfl Ld <| Re 0 rfl (CM [] fun w hw hs => doings_c w) fun mb _ => Re 3 rfl (Eff.ofVal (Val.ilookup (E := doW) (c := 6) (k := 6) (z := .nilFunc) rfl rfl Tryz.underlying144 Tryz.underlying3 Tryz.zeroValue142 (by repeat (first | exact .here | exact .inner .here | exact .inner (.inner .here) | refine .there ?_)))) fun _ _ => Rv 4 rfl Mv <| Rv 5 rfl Ex <| RW.re 13 (.func (.func 121) #[] #[]) rfl (by rfl) <| Rv 6 rfl Ex <| RW.re 14 (.bool true) rfl (by rfl) <| Rv 7 rfl Av <| Rv 8 rfl Av <| Rd <| Ps <| Sq <| Sq <| Rg <| Lv Mv <| Lv EP <| Lv Mv <| Lv Mv <| Lv Nt <| Lv Pf <| Nl <| Ps <| Cf <| Sk <| Ps <| Sq <| Rg <| Lv Mv <| Lv Mv <| Lv Lw <| Le (Eff.callFM (f := 121) (caps := []) (([wO wb db (.pointer none) (.pointer none) ((n : Nat) : Int)] :: devS db cb (fmtD 8) k)) (by repeat (first | exact .nil | apply Pick.cons | exact .here | apply Ext.there)) rfl rfl Tryz.call121 (fun w hw hs => wrev0_c wb db cb ((n : Nat) : Int) k w hs)) fun y _ => Lv Av <| Nl <| Ps <| Sq <| Sq <| Rg <| Lv Mv <| Lv Cm <| Nl <| Ps <| Ct <| Rg <| Lv Mv <| Lv Nz <| Lv (Fa 128 3) <| Lv Ld <| Lv Ar <| LW.re 31 (.int .i64 ((n + 1 : Nat) : Int)) rfl (by first | rfl | (congr 1; omega)) <| Lv Nz <| Lv (Fa 128 3) <| LeN StS fun _ _ => Nl <| Ps <| Sq <| Rg <| Lv Mv <| Lv Av <| Nl <| Ps <| Rt <| Rt1 ?_
  intro w' hw; exact ⟨y, trivial, rfl, hw.pick (by repeat (first | exact .nil | apply Pick.cons | exact .here | apply Ext.there))⟩
theorem dRev1_c (wb rb db cb i : Nat) (hi : i < 12) (n : Nat) (hn : n ≤ 1000) (k : Cnt) (w : World) (hs : Sat ([wO wb db (.pointer none) (.pointer (some ⟨rb, 0, none⟩)) ((n : Nat) : Int)] :: ST rb db cb i (.pointer none) k) w) : Calls Tryz.prog 48 [.pointer (some ⟨wb, 0, none⟩), .agg (evC 6).toArray].toArray w fun e w' => ∃ k' : Cnt, True ∧ e = .returned (.int .i64 0) ∧ Hp ⟨w, V.ids ([wO wb db (.pointer none) (.pointer (some ⟨rb, 0, none⟩)) ((n : Nat) : Int)] :: ST rb db cb i (.pointer none) k)⟩ ([wO wb db (.pointer none) (.pointer (some ⟨rb, 0, none⟩)) ((n + 1 : Nat) : Int)] :: ST rb db cb (i + 1) (.pointer none) k') w' := by
  refine V.calls ([wO wb db (.pointer none) (.pointer (some ⟨rb, 0, none⟩)) ((n : Nat) : Int)] :: ST rb db cb i (.pointer none) k) Tryz.func48 rfl Tryz.ntmps48 (Nat.le_of_ble_eq_true rfl) hs <| Sq <| Rg <| Le XA fun b3 _ => Lv Av <| Nl <| Ps <| Sq <| Dr ([[(b3, .cells (evC 6).toArray 62 (0, 0))]]) <| Rv 1 rfl (Fa 0 3) <| Rv 2 rfl Ld <| Re 0 rfl (CM [] fun w hw hs => doings_c w) fun mb _ => Re 3 rfl (Eff.ofVal (Val.ilookup (E := doW) (c := 6) (k := 6) (z := .nilFunc) rfl rfl Tryz.underlying144 Tryz.underlying3 Tryz.zeroValue142 (by repeat (first | exact .here | exact .inner .here | exact .inner (.inner .here) | refine .there ?_)))) fun _ _ => Rv 4 rfl Mv <| Rv 5 rfl Ex <| RW.re 13 (.func (.func 121) #[] #[]) rfl (by rfl) <| Rv 6 rfl Ex <| RW.re 14 (.bool true) rfl (by rfl) <| Rv 7 rfl Av <| Rv 8 rfl Av <| Rd <| Ps <| Sq <| Sq <| Rg <| Lv Mv <| Lv EP <| Lv Mv <| Lv Mv <| Lv Nt <| Lv Pf <| Nl <| Ps <| Cf <| Sk <| Ps <| Sq <| Rg <| Lv Mv <| Lv Mv <| Lv Lw <| Le (Eff.callFM (f := 121) (caps := []) (([wO wb db (.pointer none) (.pointer (some ⟨rb, 0, none⟩)) ((n : Nat) : Int)] :: ST rb db cb i (.pointer none) k)) (by repeat (first | exact .nil | apply Pick.cons | exact .here | apply Ext.there)) rfl rfl Tryz.call121 (fun w hw hs => wrev1_c wb rb db cb i hi ((n : Nat) : Int) k w hs)) fun k' _ => Lv Av <| Nl <| Ps <| Sq <| Sq <| Rg <| Lv Mv <| Lv Cm <| Nl <| Ps <| Ct <| Rg <| Lv Mv <| Lv Nz <| Lv (Fa 128 3) <| Lv Ld <| Lv Ar <| LW.re 31 (.int .i64 ((n + 1 : Nat) : Int)) rfl (by first | rfl | (congr 1; omega)) <| Lv Nz <| Lv (Fa 128 3) <| LeN StS fun _ _ => Nl <| Ps <| Sq <| Rg <| Lv Mv <| Lv Av <| Nl <| Ps <| Rt <| Rt1 ?_
  intro w' hw; exact ⟨k', trivial, rfl, hw.pick (by repeat (first | exact .nil | apply Pick.cons | exact .here | apply Ext.there))⟩
theorem dRev2_c (wb rb db cb : Nat) (n : Nat) (hn : n ≤ 1000) (k : Cnt) (w : World) (hs : Sat ([wO wb db (.pointer none) (.pointer (some ⟨rb, 0, none⟩)) ((n : Nat) : Int)] :: ([rvO rb db 1 5 0 0 0 0 (.pointer none) 0] :: devS db cb (fmtD 8) k)) w) : Calls Tryz.prog 48 [.pointer (some ⟨wb, 0, none⟩), .agg (evC 6).toArray].toArray w fun e w' => ∃ x : Aren, True ∧ e = .returned (.int .i64 0) ∧ Hp ⟨w, V.ids ([wO wb db (.pointer none) (.pointer (some ⟨rb, 0, none⟩)) ((n : Nat) : Int)] :: ([rvO rb db 1 5 0 0 0 0 (.pointer none) 0] :: devS db cb (fmtD 8) k))⟩ ([wO wb db (.pointer (some ⟨x.a, 0, none⟩)) (.pointer none) ((n + 1 : Nat) : Int)] :: (arS x db 0 0 ++ devS db cb (fmtD 8) k)) w' := by
  refine V.calls ([wO wb db (.pointer none) (.pointer (some ⟨rb, 0, none⟩)) ((n : Nat) : Int)] :: ([rvO rb db 1 5 0 0 0 0 (.pointer none) 0] :: devS db cb (fmtD 8) k)) Tryz.func48 rfl Tryz.ntmps48 (Nat.le_of_ble_eq_true rfl) hs <| Sq <| Rg <| Le XA fun b3 _ => Lv Av <| Nl <| Ps <| Sq <| Dr ([[(b3, .cells (evC 6).toArray 62 (0, 0))]]) <| Rv 1 rfl (Fa 0 3) <| Rv 2 rfl Ld <| Re 0 rfl (CM [] fun w hw hs => doings_c w) fun mb _ => Re 3 rfl (Eff.ofVal (Val.ilookup (E := doW) (c := 6) (k := 6) (z := .nilFunc) rfl rfl Tryz.underlying144 Tryz.underlying3 Tryz.zeroValue142 (by repeat (first | exact .here | exact .inner .here | exact .inner (.inner .here) | refine .there ?_)))) fun _ _ => Rv 4 rfl Mv <| Rv 5 rfl Ex <| RW.re 13 (.func (.func 121) #[] #[]) rfl (by rfl) <| Rv 6 rfl Ex <| RW.re 14 (.bool true) rfl (by rfl) <| Rv 7 rfl Av <| Rv 8 rfl Av <| Rd <| Ps <| Sq <| Sq <| Rg <| Lv Mv <| Lv EP <| Lv Mv <| Lv Mv <| Lv Nt <| Lv Pf <| Nl <| Ps <| Cf <| Sk <| Ps <| Sq <| Rg <| Lv Mv <| Lv Mv <| Lv Lw <| Le (Eff.callFM (f := 121) (caps := []) (([wO wb db (.pointer none) (.pointer (some ⟨rb, 0, none⟩)) ((n : Nat) : Int)] :: ([rvO rb db 1 5 0 0 0 0 (.pointer none) 0] :: devS db cb (fmtD 8) k))) (by repeat (first | exact .nil | apply Pick.cons | exact .here | apply Ext.there)) rfl rfl Tryz.call121 (fun w hw hs => wrev2_c wb rb db cb ((n : Nat) : Int) k w hs)) fun x _ => Lv Av <| Nl <| Ps <| Sq <| Sq <| Rg <| Lv Mv <| Lv Cm <| Nl <| Ps <| Ct <| Rg <| Lv Mv <| Lv Nz <| Lv (Fa 128 3) <| Lv Ld <| Lv Ar <| LW.re 31 (.int .i64 ((n + 1 : Nat) : Int)) rfl (by first | rfl | (congr 1; omega)) <| Lv Nz <| Lv (Fa 128 3) <| LeN StS fun _ _ => Nl <| Ps <| Sq <| Rg <| Lv Mv <| Lv Av <| Nl <| Ps <| Rt <| Rt1 ?_
  intro w' hw; exact ⟨x, trivial, rfl, hw.pick (by repeat (first | exact .nil | apply Pick.cons | exact .here | apply Ext.there))⟩
end Go.Proofs.YtlpbjmbgopfkhaaGreat

/- A world that was cut is revived to the end; a world behind a few events. -/
namespace Go.Proofs.YtlpbjmbgopfkhaaGreat
open Go Go.RowKit V
set_option linter.unusedVariables false
set_option maxRecDepth 100000
theorem places62 : ∀ w, ((Array.mapM (fun (f : Field) => do pure (f.offset, ← sizeOf f.type)) (Tryz.prog.fieldsOf 62) : Sem (Array (Nat × Nat)))).run Tryz.prog w = .ok [(0, 1), (1, 1), (2, 1), (3, 5), (8, 1)].toArray w := by
  intro w; kernel_rfl
instance : Plc Tryz.prog 62 (fOf Tryz.underlying62) (lOf (P := Tryz.prog) places62) := ⟨places62, Tryz.underlying62⟩
instance : Cal Tryz.prog 48 := ⟨Tryz.call48⟩
instance : Cal Tryz.prog 93 := ⟨Tryz.call93⟩
open V (str byC ownV ownG ownS ownOk)
/-- A world, so many rounds into its revival. -/
structure RevW where (i : Nat) (rb : Nat) (k : Cnt) (x : Option Aren)
noncomputable def rvS (wb db cb n : Nat) (y : RevW) : Sg := match y.x with
  | some x => [wO wb db (.pointer (some ⟨x.a, 0, none⟩)) (.pointer none) ((n + y.i : Nat) : Int)] :: (arS x db 0 0 ++ devS db cb (fmtD 8) y.k)
  | none => match y.i with
    | 0 => [wO wb db (.pointer none) (.pointer none) ((n + 0 : Nat) : Int)] :: devS db cb (fmtD 8) y.k
    | i + 1 => [wO wb db (.pointer none) (.pointer (some ⟨y.rb, 0, none⟩)) ((n + (i + 1) : Nat) : Int)] :: ST y.rb db cb (i + 1) (.pointer none) y.k
def rvOk (y : RevW) : Prop := (y.x = none ∧ y.i ≤ 12) ∨ (y.x.isSome ∧ y.i = 13)
theorem dRev_c (wb db cb n : Nat) (hn : n ≤ 900) (y : RevW) (hy : y.x = none ∧ y.i ≤ 12) (w : World) (hs : Sat (rvS wb db cb n y) w) : Calls Tryz.prog 48 [.pointer (some ⟨wb, 0, none⟩), .agg (evC 6).toArray].toArray w fun e w' => ∃ z : RevW, (rvOk z ∧ z.i = y.i + 1) ∧ e = .returned (.int .i64 0) ∧ Hp ⟨w, V.ids (rvS wb db cb n y)⟩ (rvS wb db cb n z) w' := by
  obtain ⟨i, rb, k, x⟩ := y
  obtain ⟨rfl, hi⟩ := hy
  simp only at hi
  match i, hi with
  | 0, _ => exact (dRev0_c wb db cb (n + 0) (by omega) k w hs).mono fun e w' ⟨y, _, he, hp⟩ => ⟨⟨1, y.1, y.2, none⟩, ⟨.inl ⟨rfl, by simp⟩, rfl⟩, he, hp⟩
  | i + 1, hi =>
    by_cases h11 : i + 1 < 12
    · exact (dRev1_c wb rb db cb (i + 1) h11 (n + (i + 1)) (by omega) k w hs).mono fun e w' ⟨k', _, he, hp⟩ => ⟨⟨i + 2, rb, k', none⟩, ⟨.inl ⟨rfl, by simp only; omega⟩, rfl⟩, he, hp⟩
    · obtain rfl : i = 11 := by omega
      exact (dRev2_c wb rb db cb (n + 12) (by omega) k w hs).mono fun e w' ⟨x, _, he, hp⟩ => ⟨⟨13, rb, k, some x⟩, ⟨.inr ⟨rfl, rfl⟩, rfl⟩, he, hp⟩
theorem up_c (wb db cb n : Nat) (y : RevW) (hy : rvOk y) (w : World) (hs : Sat (rvS wb db cb n y) w) : Calls Tryz.prog 93 [.pointer (some ⟨wb, 0, none⟩)].toArray w fun e w' => e = .returned (.bool y.x.isSome) ∧ Below w.heap.size w w' := by
  obtain ⟨i, rb, k, x⟩ := y
  cases x with
  | some x => exact upT_c wb db x.a _ _ w (hs.pick (ss := [[wO wb db (.pointer (some ⟨x.a, 0, none⟩)) (.pointer none) ((n + i : Nat) : Int)]]) (Pick.cons .here .nil))
  | none => match i with
    | 0 => exact upF_c wb db 0 _ _ w (hs.pick (ss := [[wO wb db (.pointer none) (.pointer none) ((n + 0 : Nat) : Int)]]) (Pick.cons .here .nil))
    | i + 1 => exact upF_c wb db 0 _ _ w (hs.pick (ss := [[wO wb db (.pointer none) (.pointer (some ⟨rb, 0, none⟩)) ((n + (i + 1) : Nat) : Int)]]) (Pick.cons .here .nil))
theorem pick_self : ∀ sg : Sg, Pick sg sg []
  | [] => .nil
  | s :: r => .cons .here (pick_self r)
theorem revived_c (wb db cb n : Nat) (hn : n ≤ 900) (k : Cnt) (w : World) (hs : Sat (rvS wb db cb n ⟨0, 0, k, none⟩) w) : Calls Tryz.prog 52 [.pointer (some ⟨wb, 0, none⟩)].toArray w fun e w' => ∃ y : Aren × Cnt, True ∧ e = .returned (.tuple #[]) ∧ Hp ⟨w, V.ids (rvS wb db cb n ⟨0, 0, k, none⟩)⟩ ([wO wb db (.pointer (some ⟨y.1.a, 0, none⟩)) (.pointer none) ((n + 13 : Nat) : Int)] :: (arS y.1 db 0 0 ++ devS db cb (fmtD 8) y.2)) w' := by
  refine V.calls (rvS wb db cb n ⟨0, 0, k, none⟩) Tryz.func52 rfl Tryz.ntmps52 (Nat.le_of_ble_eq_true rfl) hs <| Bk <| CW.loop (γ := RevW) (fun y => [(0, .pointer (some ⟨wb, 0, none⟩))]) (fun y => rvS wb db cb n y) (fun y => rvOk y) (fun y => 13 - y.i) (⟨0, 0, k, none⟩) (.inl ⟨rfl, by simp⟩) (by repeat (first | exact trivial | refine ⟨rfl, ?_⟩)) (pick_self _) fun y hy => Sq <| Sq <| Rg <| Lv Mv <| Le (CV fun w hw => up_c wb db cb n y hy w hw.sat) fun _ _ => Lv Nt <| Nl <| Ps ?_
  refine CW.cond rfl (fun h4 => ?_) (fun h4 => ?_)
  · replace h4 := bT h4
    have hyn : y.x = none ∧ y.i ≤ 12 := by
      rcases hy with h | ⟨h, _⟩
      · exact h
      · rw [h] at h4; simp at h4
    refine Sk <| Ps <| Bk <| Sq <| Rg <| Lv Mv <| Lv (Bd [_, _, _, _, _, _, _, _, _]) <| Le (Eff.callM ((rvS wb db cb n y)) (pick_self _) rfl Tryz.call48 (fun w hw hs => dRev_c wb db cb n hn y hyn w hs)) fun z hz => Lv Cm <| Nl <| Ps <| Cf <| Sk <| Bn ?_
    refine PQ.round (z) hz.1 (by have := hz.2; have := hyn.2; omega) (by repeat (first | exact trivial | refine ⟨rfl, ?_⟩)) (by rw [List.append_nil]; exact pick_self _)
  · replace h4 := bF h4
    have hys : y.x.isSome = true := by simpa using h4
    obtain ⟨x, hx⟩ := Option.isSome_iff_exists.1 hys
    have hi13 : y.i = 13 := by
      rcases hy with ⟨h, _⟩ | ⟨_, h⟩
      · rw [h] at hx; cases hx
      · exact h
    obtain ⟨yi, yr, yk, yx⟩ := y
    simp only at hx hi13
    subst hx hi13
    refine Xt <| Te <| Te <| Bh <| PQ.end0 rfl ?_
    intro w' hw; exact ⟨(x, yk), trivial, rfl, hw⟩
end Go.Proofs.YtlpbjmbgopfkhaaGreat

/- A world behind no event, and behind one. -/
namespace Go.Proofs.YtlpbjmbgopfkhaaGreat
open Go Go.RowKit V
set_option linter.unusedVariables false
set_option maxRecDepth 100000
instance : Und Tryz.prog 63 (dOf Tryz.underlying63) := ⟨Tryz.underlying63⟩
instance : Siz Tryz.prog 63 (kOf Tryz.sizeOf63) := ⟨Tryz.sizeOf63⟩
instance : AgF Tryz.prog 63 := ⟨Tryz.isAgg63⟩
instance : Zer Tryz.prog 63 (zOf Tryz.zeroValue63) := ⟨Tryz.zeroValue63⟩
instance : Cal Tryz.prog 43 := ⟨Tryz.call43⟩
open V (str byC ownV ownG ownS ownOk)
/-- A world on an empty device, behind n events that leave it so. -/
noncomputable abbrev bwS (y : (Nat × Aren) × (Nat × Nat) × Cnt) (n : Int) : Sg := [wO y.1.1 y.2.1.1 (.pointer (some ⟨y.1.2.a, 0, none⟩)) (.pointer none) n] :: (arS y.1.2 y.2.1.1 1 0 ++ devS y.2.1.1 y.2.1.2 (fmtD 8) y.2.2)
theorem behind0_c (p : Option Addr) (c : Nat) (w : World) : Calls Tryz.prog 44 [.agg #[.int .i64 10, .int .i64 1, .int .i64 0], .slice p 0 c].toArray w fun e w' => ∃ y : (Nat × Aren) × (Nat × Nat) × Cnt, True ∧ e = .returned (.pointer (some ⟨y.1.1, 0, none⟩)) ∧ Hp ⟨w, []⟩ (bwS y 0) w' := by
  refine V.calls [] Tryz.func44 rfl Tryz.ntmps44 (Nat.le_of_ble_eq_true rfl) (V.sat_nil _) <| Sq <| Rg <| Le XA fun b2 _ => Lv Av <| Nl <| Ps <| Sq <| Rg <| Lv Lw <| Le (CM [] fun w hw hs => wNew_c w) fun y _ => Lv Mv <| Lv Ex <| Lv Ex <| Lv Av <| Lv Av <| Nl <| Ps <| Sq <| Sq <| Rg <| Lv Mv <| Lv Ln <| Lv Mv <| Nl <| Ps <| Bk <| CW.loopU 0 <| Sq <| Rg <| Lv Cm <| Nl <| Ps <| Sq <| Cf <| Xt <| Te <| Te <| Bh <| Ps <| Sq <| Rg <| Lv Mv <| Lv Av <| Nl <| Ps <| Rt <| Rt1 ?_
  intro w' hw; exact ⟨y, trivial, rfl, hw.pick (by repeat (first | exact .nil | apply Pick.cons | exact .here | apply Ext.there))⟩
theorem behind1_c (eb c : Nat) (w : World) (hs : Sat [[(eb, .cells (evC 4).toArray 62 (0, 0))]] w) : Calls Tryz.prog 44 [.agg #[.int .i64 10, .int .i64 1, .int .i64 0], .slice (some ⟨eb, 0, none⟩) 1 c].toArray w fun e w' => ∃ y : (Nat × Aren) × (Nat × Nat) × Cnt, True ∧ e = .returned (.pointer (some ⟨y.1.1, 0, none⟩)) ∧ Hp ⟨w, V.ids [[(eb, .cells (evC 4).toArray 62 (0, 0))]]⟩ (bwS y 1 ++ [[(eb, .cells (evC 4).toArray 62 (0, 0))]]) w' := by
  refine V.calls [[(eb, .cells (evC 4).toArray 62 (0, 0))]] Tryz.func44 rfl Tryz.ntmps44 (Nat.le_of_ble_eq_true rfl) hs <| Sq <| Rg <| Le XA fun b2 _ => Lv Av <| Nl <| Ps <| Sq <| Rg <| Lv Lw <| Le (CM [] fun w hw hs => wNew_c w) fun y _ => Lv Mv <| Lv Ex <| Lv Ex <| Lv Av <| Lv Av <| Nl <| Ps <| Sq <| Sq <| Rg <| Lv Mv <| Lv Ln <| Lv Mv <| Nl <| Ps <| Bk <| CW.loopU 1 <| Sq <| Rg <| Lv Cm <| Nl <| Ps <| Sq <| Ct <| Sk <| Ps <| Sq <| Bk <| Sq <| Rg <| Lv (Val.indexAddrN (i := 0) rfl rfl Tryz.underlying63 Tryz.sizeOf62 (by decide)) <| Lv (La [_, _, _, _, _, _, _, _, _]) <| Le AA fun b8 _ => LeN StW fun _ _ => Nl <| Ps <| Rg <| Lv Mv <| Lv Lw <| Le (CM (([wO y.1.1 y.2.1.1 (.pointer (some ⟨y.1.2.a, 0, none⟩)) (.pointer none) ((0 : Nat) : Int)] :: devS y.2.1.1 y.2.1.2 (fmtD 8) y.2.2)) fun w hw hs => dBack_c y.1.1 y.2.1.1 y.2.1.2 (.pointer (some ⟨y.1.2.a, 0, none⟩)) (.pointer none) 0 (by omega) y.2.2 w hs) fun k' _ => Nl <| Bn <| Ps <| Rg <| Lv Ar <| Lv Mv <| Nl <| PQ.next <| Sq <| Rg <| Lv Cm <| Nl <| Ps <| Sq <| Cf <| Xt <| Te <| Te <| Bh <| Ps <| Sq <| Rg <| Lv Mv <| Lv Av <| Nl <| Ps <| Rt <| Rt1 ?_
  intro w' hw; exact ⟨(y.1, y.2.1, k'), trivial, rfl, hw.pick (by repeat (first | exact .nil | apply Pick.cons | exact .here | apply Ext.there))⟩
end Go.Proofs.YtlpbjmbgopfkhaaGreat

/- The one subset of none. -/
namespace Go.Proofs.YtlpbjmbgopfkhaaGreat
open Go Go.RowKit V
set_option linter.unusedVariables false
set_option maxRecDepth 100000
open V (str byC ownV ownG ownS ownOk)
theorem subs_c (c : Nat) (w : World) : Calls Tryz.prog 47 [.slice none 0 c].toArray w fun e w' => ∃ b : Nat, True ∧ e = .returned (.func (.func 86) #[] #[.pointer (some ⟨b, 0, none⟩)]) ∧ Hp ⟨w, []⟩ [[(b, .cells [.slice none 0 c].toArray 29 (0, 0))]] w' := by
  refine V.calls [] Tryz.func47 rfl Tryz.ntmps47 (Nat.le_of_ble_eq_true rfl) (V.sat_nil _) <| Sq <| Rg <| Le XS fun b1 _ => Lv Av <| Nl <| Ps <| Sq <| Rg <| Lv Mf <| Lv Av <| Nl <| Ps <| Rt <| Rt1 ?_
  intro w' hw; exact ⟨b1, trivial, rfl, hw.pick (by repeat (first | exact .nil | apply Pick.cons | exact .here | apply Ext.there))⟩
def nilV : Unit → List Value := fun _ => [.slice none 0 0]
theorem subs_seq (cb : Nat) (w : World) (hs : Sat [[(cb, .cells [.slice none 0 0].toArray 29 (0, 0))]] w) :
    V.SeqM Tryz.prog 86 [.pointer (some ⟨cb, 0, none⟩)].toArray nilV (fun _ => []) (fun _ => True) (fun xs => xs = [()]) 1 [cb] w := by
  intro L J W hb hJ hY h0
  have hs0 : Sat [[(cb, .cells [.slice none 0 0].toArray 29 (0, 0))]] W := hs.below hb
  have e0 : (#[Value.func (.yield L) #[] #[]] ++ [Value.pointer (some ⟨cb, 0, none⟩)].toArray : Array Value) = [Value.func (.yield L) #[] #[], Value.pointer (some ⟨cb, 0, none⟩)].toArray := by simp
  rw [e0]
  refine V.callsI (H := fun w => J [] [cb] w ∧ Sat [[(cb, .cells [.slice none 0 0].toArray 29 (0, 0))]] w) Tryz.func86 rfl Tryz.ntmps86 (Nat.le_of_ble_eq_true rfl) ⟨h0, hs0⟩ <| CI.seq <| CI.region <| LI.z rfl rfl (fun w hz hs => Val.load rfl Tryz.isAgg29 (by repeat (first | exact .here | exact .inner .here | exact .inner (.inner .here) | refine .there ?_)) (by rfl)) <| LI.z rfl rfl (fun w hz hs => Val.lenSl rfl Tryz.underlying29) <| LI.z rfl rfl (fun w hz hs => Val.shl rfl rfl (by omega)) <| LI.re 9 (.int .i64 1) rfl (by rfl) <| LI.z rfl rfl (fun w hz hs => Val.move rfl) <| LI.nil <| PI.seq <| CI.block <| CI.loop (γ := Bool) (fun k => [(0, .func (.yield L) #[] #[]), (1, .pointer (some ⟨cb, 0, none⟩)), (9, .int .i64 1), (10, .int .i64 (if k then 1 else 0))]) (fun k w => J (if k then [()] else []) [cb] w ∧ Sat [[(cb, .cells [.slice none 0 0].toArray 29 (0, 0))]] w) (fun k => if k then 0 else 1) false (by repeat (first | exact trivial | refine ⟨rfl, ?_⟩)) (fun w h => h) ?_
  rintro k
  simp only
  refine CI.seq <| CI.region <| LI.z rfl rfl (fun w hz hs => Val.cmp rfl rfl rfl) <| LI.nil <| PI.seq <| CI.seq ?_
  refine CI.cond rfl (fun h11 => ?_) (fun h11 => ?_)
  · replace h11 := bT h11
    obtain rfl : k = false := by cases k <;> simp at h11 ⊢
    refine CI.skip <| PI.seq <| CI.seq <| CI.block <| CI.seq <| CI.region <| LI.z rfl rfl (fun w hz hs => Val.move rfl) <| LI.z rfl rfl (fun w hz hs => Val.assign rfl) <| LI.nil <| PI.seq <| CI.seq <| CI.region <| LI.z rfl rfl (fun w hz hs => Val.assign rfl) <| LI.nil <| PI.seq <| CI.seq <| CI.seq <| CI.region <| LI.z rfl rfl (fun w hz hs => Val.load rfl Tryz.isAgg29 (by repeat (first | exact .here | exact .inner .here | exact .inner (.inner .here) | refine .there ?_)) (by rfl)) <| LI.z rfl rfl (fun w hz hs => Val.lenSl rfl Tryz.underlying29) <| LI.z rfl rfl (fun w hz hs => Val.move rfl) <| LI.nil <| PI.seq <| CI.block <| CI.loop (γ := Unit) (fun k => [(0, .func (.yield L) #[] #[]), (1, .pointer (some ⟨cb, 0, none⟩)), (4, Value.slice none 0 0), (9, .int .i64 1), (10, .int .i64 0), (14, .int .i64 0), (15, .int .i64 0)]) (fun k w => J [] [cb] w ∧ Sat [[(cb, .cells [Value.slice none 0 0].toArray 29 (0, 0))]] w) (fun k => 0) () (by repeat (first | exact trivial | refine ⟨rfl, ?_⟩)) (fun w h => by simpa using h) ?_
    rintro ⟨⟩
    refine CI.seq <| CI.region <| LI.z rfl rfl (fun w hz hs => Val.cmp rfl rfl rfl) <| LI.nil <| PI.seq <| CI.seq <| CI.cond_f rfl <| CI.exit <| PI.then_exit <| PI.then_exit <| PI.in_here <| PI.seq <| CI.seq <| CI.region <| LI.z rfl rfl (fun w hz hs => Val.move rfl) <| LI.z rfl rfl (fun w hz hs => Val.move rfl) ?_
    refine LI.y (Hy := fun c w => (c = true ∧ J [()] [cb] w) ∧ Sat [[(cb, .cells [.slice none 0 0].toArray 29 (0, 0))]] w) rfl rfl rfl rfl ?_ ?_
    · rintro w ⟨hj, hs⟩
      obtain ⟨fn, tm, ac, bd, hr, hR⟩ := hY _ () [cb] w w hj (Below.refl _ _) (V.sat_nil _) (by simp [ids]) trivial (by simp)
      refine ⟨fn, tm, ac, bd, hr, hR.mono ?_⟩
      rintro e w' ⟨rfl, hj', hkp⟩
      exact ⟨true, rfl, ⟨rfl, hj'⟩, ⟨fun p hp => (hkp p.1 (by simp at hp; simp [hp])).trans (hs.own p hp), hs.nd⟩⟩
    intro c
    refine LI.split (d := 32) rfl (fun h32 => ?_) (fun h32 => ?_)
    · replace h32 := bT h32
      subst h32
      refine LI.z rfl rfl (fun w hz hs => Val.not rfl) <| LI.nil <| PI.seq <| CI.cond_f rfl <| CI.skip <| PI.in_normal <| PI.seq <| CI.region <| LI.z rfl rfl (fun w hz hs => Val.ar rfl rfl rfl (IntWalk.i64_in _ (by omega))) <| LI.z rfl rfl (fun w hz hs => Val.move rfl) <| LI.nil ?_
      refine PI.round true (by simp) (by repeat (first | exact trivial | refine ⟨rfl, ?_⟩)) (fun w h => ⟨h.1.2, h.2⟩)
    · replace h32 := bF h32
      subst h32
      refine LI.z rfl rfl (fun w hz hs => Val.not rfl) <| LI.nil <| PI.seq <| CI.cond_t rfl <| CI.ret <| PI.in_ret <| PI.then_ret <| PI.then_ret <| PI.in_ret <| PI.ret0 rfl ?_
      rintro w' ⟨⟨hc, _⟩, _⟩; cases hc
  · replace h11 := bF h11
    obtain rfl : k = true := by cases k <;> simp at h11 ⊢
    refine CI.exit <| PI.then_exit <| PI.then_exit <| PI.in_here <| PI.end0 rfl ?_
    rintro w' ⟨hj, _⟩; exact ⟨⟨_, rfl⟩, _, _, rfl, hj⟩
end Go.Proofs.YtlpbjmbgopfkhaaGreat

/- All cuts of a short script on an empty device. -/
namespace Go.Proofs.YtlpbjmbgopfkhaaGreat
open Go Go.RowKit V
set_option linter.unusedVariables false
set_option maxRecDepth 100000
theorem places41 : ∀ w, ((Array.mapM (fun (f : Field) => do pure (f.offset, ← sizeOf f.type)) (Tryz.prog.fieldsOf 41) : Sem (Array (Nat × Nat)))).run Tryz.prog w = .ok [(0, 1), (1, 1), (2, 1), (3, 2)].toArray w := by
  intro w; kernel_rfl
instance : Und Tryz.prog 38 (dOf Tryz.underlying38) := ⟨Tryz.underlying38⟩
instance : Siz Tryz.prog 38 (kOf Tryz.sizeOf38) := ⟨Tryz.sizeOf38⟩
instance : AgF Tryz.prog 38 := ⟨Tryz.isAgg38⟩
instance : Zer Tryz.prog 38 (zOf Tryz.zeroValue38) := ⟨Tryz.zeroValue38⟩
instance : Und Tryz.prog 41 (dOf Tryz.underlying41) := ⟨Tryz.underlying41⟩
instance : Siz Tryz.prog 41 (kOf Tryz.sizeOf41) := ⟨Tryz.sizeOf41⟩
instance : AgT Tryz.prog 41 := ⟨Tryz.isAgg41⟩
instance : Zer Tryz.prog 41 (zOf Tryz.zeroValue41) := ⟨Tryz.zeroValue41⟩
instance : Plc Tryz.prog 41 (fOf Tryz.underlying41) (lOf (P := Tryz.prog) places41) := ⟨places41, Tryz.underlying41⟩
instance : Cal Tryz.prog 44 := ⟨Tryz.call44⟩
instance : Cal Tryz.prog 45 := ⟨Tryz.call45⟩
instance : Cal Tryz.prog 46 := ⟨Tryz.call46⟩
instance : Cal Tryz.prog 47 := ⟨Tryz.call47⟩
instance : Cal Tryz.prog 49 := ⟨Tryz.call49⟩
instance : Cal Tryz.prog 50 := ⟨Tryz.call50⟩
instance : Cal Tryz.prog 52 := ⟨Tryz.call52⟩
instance : Cal Tryz.prog 53 := ⟨Tryz.call53⟩
open V (str byC ownV ownG ownS ownOk)
theorem cloneI0_c (w : World) : Calls Tryz.prog 49 [.slice none 0 0].toArray w fun e w' => e = .returned (.slice none 0 0) ∧ Below w.heap.size w w' := by
  refine V.calls [] Tryz.func49 rfl Tryz.ntmps49 (Nat.le_of_ble_eq_true rfl) (V.sat_nil _) <| Sq <| Rg <| Lv Av <| Nl <| Ps <| Sq <| Sq <| Rg <| Lv Mv <| Lv (Val.eqSlNil rfl rfl Tryz.underlying29) <| Nl <| Ps <| Ct <| Sq <| Rg <| Lv Av <| Nl <| Ps <| Rt <| Tr <| Rt1 ?_
  intro w' hw; exact ⟨rfl, hw.below⟩
theorem behindK_c (eb ec k : Nat) (hk : k < 2) (w : World) (hs : Sat [[(eb, .cells (evC 4).toArray 62 (0, 0))]] w) : Calls Tryz.prog 44 [.agg #[.int .i64 10, .int .i64 1, .int .i64 0], .slice (some ⟨eb, 0, none⟩) k ec].toArray w fun e w' => ∃ y : (Nat × Aren) × (Nat × Nat) × Cnt, True ∧ e = .returned (.pointer (some ⟨y.1.1, 0, none⟩)) ∧ Hp ⟨w, V.ids [[(eb, .cells (evC 4).toArray 62 (0, 0))]]⟩ (bwS y (k : Nat) ++ [[(eb, .cells (evC 4).toArray 62 (0, 0))]]) w' := by
  rcases k with _ | _ | k
  · exact (behind0_c _ _ w).mono fun e w' ⟨y, h1, h2, h3⟩ => ⟨y, h1, h2, (Hp.start hs).call .nil h3⟩
  · exact behind1_c eb ec w hs
  · omega
/-- What a cut left, behind so many events. -/
def leC (k : Nat) : List Value := [.int .i64 (k : Nat), .slice none 0 0, .int .u64 0, .slice none 0 0, .slice none 0 0]
def leO (k : Nat) : List Value := (List.range k).flatMap leC
theorem leO_succ (k : Nat) : leO (k + 1) = leO k ++ leC k := by unfold leO; rw [List.range_succ, List.flatMap_append]; simp
theorem clk0 : (isClockF (clockB 0)).1 = 0 := by decide +kernel
theorem cuts_c (eb ec : Nat) (hec : 1 ≤ ec) (w : World) (hs : Sat [[(eb, .cells (evC 4).toArray 62 (0, 0))]] w) : Calls Tryz.prog 23 [.agg #[.int .i64 10, .int .i64 1, .int .i64 0], .slice (some ⟨eb, 0, none⟩) 1 ec].toArray w fun e w' => ∃ o : V.OwnO, ownOk 5 2 (leO 2) o ∧ e = .returned (.tuple #[ownV 2 o, .int .i64 0]) ∧ Hp ⟨w, V.ids [[(eb, .cells (evC 4).toArray 62 (0, 0))]]⟩ (ownG 41 (leO 2) o :: [[(eb, .cells (evC 4).toArray 62 (0, 0))]]) w' := by
  refine V.callsM [[(eb, .cells (evC 4).toArray 62 (0, 0))]] Tryz.func23 rfl Tryz.ntmps23 (Nat.le_of_ble_eq_true rfl) hs <| Sq <| Rg <| Le XA fun b2 _ => Le XS fun b3 _ => Lv Av <| Lv Av <| Nl <| Ps <| Sq <| Sq <| Rg <| Lv (Lw (l := [.int .i64 10, .int .i64 1, .int .i64 0])) <| Le (CM [] fun w hw hs => wNew_c w) fun y0 _ => Lv Mv <| Lv Ex <| Lv Ex <| Lv Av <| Lv Av <| Nl <| Ps <| Sq <| Rg <| Lv Mv <| Lv Cm <| Nl <| Ps <| Cf <| Sk <| Ps <| Sq <| Sq <| Rg <| Lv Ld <| Lv Ln <| Lv Cm <| Nl <| Ps <| Cf <| Sk <| Ps <| Sq <| Rg <| Le AS fun b8 _ => Nl <| Ps <| Sq <| Sq <| Rg <| Lv Ld <| Lv Ln <| Lv Ar <| Lv Mv <| Nl <| Ps <| Bk <| V.CW.addOwn 41 ?_
  refine V.CW.pick (ss := [[(b8, .cells [ownV 0 none].toArray 38 (0, 0))], ownG 41 (leO 0) none, [(b2, .cells ([.int .i64 10, .int .i64 1, .int .i64 0] : List Value).toArray 60 (0, 0))], [(b3, .cells [.slice (some ⟨eb, 0, none⟩) 1 ec].toArray 63 (0, 0))], [(eb, .cells (evC 4).toArray 62 (0, 0))]]) ?_ (by repeat (first | exact .nil | apply Pick.cons | exact .here | apply Ext.there))
  refine V.CW.perm (sg' := V.mks [] :: [[(b8, .cells [ownV 0 none].toArray 38 (0, 0))], ownG 41 (leO 0) none, [(b2, .cells ([.int .i64 10, .int .i64 1, .int .i64 0] : List Value).toArray 60 (0, 0))], [(b3, .cells [.slice (some ⟨eb, 0, none⟩) 1 ec].toArray 63 (0, 0))], [(eb, .cells (evC 4).toArray 62 (0, 0))]]) ?_ (by exact .refl _)
  refine V.CW.toI <| V.CI.loopD (γ := {x : Nat × V.OwnO × List Nat // x.1 ≤ 2 ∧ ownOk 5 x.1 (leO x.1) x.2.1}) (fun x => [(2, .pointer (some ⟨b2, 0, none⟩)), (3, .pointer (some ⟨b3, 0, none⟩)), (8, .pointer (some ⟨b8, 0, none⟩)), (30, .int .i64 2), (31, .int .i64 (x.1.1 : Nat))]) (fun x => x.1.2.2.map V.mkD) (fun x => Hp ⟨w, V.ids [[(eb, .cells (evC 4).toArray 62 (0, 0))]]⟩ [V.mks x.1.2.2, [(b8, .cells [ownV x.1.1 x.1.2.1].toArray 38 (0, 0))], ownG 41 (leO x.1.1) x.1.2.1, [(b2, .cells ([.int .i64 10, .int .i64 1, .int .i64 0] : List Value).toArray 60 (0, 0))], [(b3, .cells [.slice (some ⟨eb, 0, none⟩) 1 ec].toArray 63 (0, 0))], [(eb, .cells (evC 4).toArray 62 (0, 0))]]) (fun x => 2 - x.1.1) ⟨(0, none, []), by simp, ⟨rfl, rfl⟩⟩ rfl (by repeat (first | exact trivial | refine ⟨rfl, ?_⟩)) (fun w h => h) ?_
  rintro ⟨⟨k, o, Ds⟩, hk, ho⟩
  simp only at hk ho ⊢
  refine CI.seq <| CI.region <| LI.v rfl rfl (Val.cmp rfl rfl rfl) <| LI.nil ?_
  first | refine PI.seq ?_ | refine PI.seqW ?_
  refine CI.seq ?_
  refine CI.cond rfl (fun h32 => ?_) (fun h32 => ?_)
  · replace h32 := bT h32
    have h32 : (k : Int) < 2 := h32
    refine CI.skip ?_
    first | refine PI.seq ?_ | refine PI.seqW ?_
    refine CI.seq <| CI.block <| CI.seq <| CI.region <| LI.v rfl rfl (Val.move rfl) <| LI.e rfl rfl (Eff.allocS (v := .int .i64 0) rfl (by exact Tryz.zeroValue3)) fun b9 _ => LI.eN rfl (Eff.store rfl rfl rfl (by repeat (first | exact .here | exact .inner .here | exact .inner (.inner .here) | apply Upd.there)) (by rfl) (by rfl) Tryz.sizeOf3) fun _ _ => LI.nil ?_
    first | refine PI.seq ?_ | refine PI.seqW ?_
    refine CI.seq <| CI.drawn ([[(b2, .cells ([.int .i64 10, .int .i64 1, .int .i64 0] : List Value).toArray 60 (0, 0))], [(b3, .cells [.slice (some ⟨eb, 0, none⟩) 1 ec].toArray 63 (0, 0))], [(b9, .cells [.int .i64 (k : Nat)].toArray 3 (0, 0))]]) mixed (by rfl) (by repeat (first | exact .nil | apply Pick.cons | exact .here | apply Ext.there)) <| Rv 0 rfl (Lw (l := [.int .i64 10, .int .i64 1, .int .i64 0])) <| Rv 1 rfl Ld <| Rv 2 rfl Ld <| Rv 3 rfl (Val.slice (sz := 9) 0 k ec rfl Tryz.underlying63 Tryz.sizeOf62 rfl ⟨_, rfl⟩ rfl (fun _ => rfl) (by omega) (by omega) (by omega)) <| RW.re 37 (.slice (some ⟨eb, 0, none⟩) k ec) rfl (by simp) <| Re 4 rfl (CM ([[(eb, .cells (evC 4).toArray 62 (0, 0))]]) fun w hw hs => behindK_c eb ec k (by omega) w hs) fun y _ => Re 5 rfl (CM (([wO y.1.1 y.2.1.1 (.pointer (some ⟨y.1.2.a, 0, none⟩)) (.pointer none) (k : Nat)] :: devS y.2.1.1 y.2.1.2 (fmtD 8) y.2.2)) fun w hw hs => wDev_c y.1.1 y.2.1.1 y.2.1.2 (.pointer (some ⟨y.1.2.a, 0, none⟩)) (.pointer none) (k : Nat) (fmtD 8) y.2.2 (by decide) w hs) ?_
    rintro ⟨pb, po⟩ hpo
    refine Re 6 rfl (CV fun w hw => looseL_c pb po (fmtD 8) y.2.2 f8_calm (by decide) (by decide) hpo w hw.pk.sat) fun _ _ => Rv 7 rfl Av <| Rd <| PQ.inRound ?_
    first | refine PI.seq ?_ | refine PI.seqW ?_
    refine CI.seq <| CI.region <| LI.v rfl rfl (Val.move rfl) <| LI.v rfl rfl (Val.move rfl) <| LI.v rfl rfl (Val.lenSl rfl Tryz.underlying29) <| LI.v rfl rfl (Val.minI rfl rfl) <| LI.re 44 (.int .i64 ((0 : Nat) : Int)) rfl (by rfl) <| LI.v rfl rfl (Val.sliceNil rfl Tryz.underlying29 Tryz.sizeOf3 rfl ⟨_, rfl⟩) <| LI.v rfl rfl (Val.assign rfl) <| LI.nil ?_
    first | refine PI.seq ?_ | refine PI.seqW ?_
    refine CI.seq <| CI.region <| LI.v rfl rfl (Val.move rfl) <| LI.e rfl rfl (Eff.callM ([]) .nil rfl Tryz.call47 (fun w hw hs => subs_c 0 w)) fun cb _ => LI.nil ?_
    first | refine PI.seq ?_ | refine PI.seqW ?_
    refine CI.block ?_
    refine V.CI.rangeFuncM (α := Unit) (γ := Nat × V.OwnO) nilV (fun _ => []) (fun _ => True) (fun xs => xs = [()]) 1 [cb] (fun pre g => g.1 = k + pre.length ∧ ownOk 5 g.1 (leO g.1) g.2) (fun g => [[(b8, .cells [ownV g.1 g.2].toArray 38 (0, 0))], ownG 41 (leO g.1) g.2, [(b2, .cells ([.int .i64 10, .int .i64 1, .int .i64 0] : List Value).toArray 60 (0, 0))], [(b3, .cells [.slice (some ⟨eb, 0, none⟩) 1 ec].toArray 63 (0, 0))], [(b9, .cells [.int .i64 (k : Nat)].toArray 3 (0, 0))], [(eb, .cells (evC 4).toArray 62 (0, 0))]]) (fun _ => [(2, .pointer (some ⟨b2, 0, none⟩)), (3, .pointer (some ⟨b3, 0, none⟩)), (8, .pointer (some ⟨b8, 0, none⟩)), (9, .pointer (some ⟨b9, 0, none⟩)), (11, .slice none 0 0)]) (k, o) [V.mks Ds] rfl Tryz.call86 (fun _ => rfl) rfl (fun w hw => subs_seq cb w (hw.sat.pick (by repeat (first | exact .nil | apply Pick.cons | exact .here | apply Ext.there)))) (fun w hw => hw.apart1 (o := .cells [.slice none 0 0].toArray 29 (0, 0)) (by repeat (first | exact .nil | apply Pick.cons | exact .here | apply Ext.there))) (by repeat (first | exact .nil | apply Pick.cons | exact .here | apply Ext.there)) (fun _ _ _ => (by repeat (first | exact V.cellsOnly_nil | refine V.cellsOnly_cons (by first | exact V.segCells_one | exact V.segCells_own) ?_))) (fun _ => V.cellsOnly_of rfl) ⟨rfl, ho⟩ ?_ ?_ ?_
    · intro lp pre x g W _ hG hW
      refine CI.region <| LI.v rfl rfl (Val.assign rfl) <| LI.nil ?_
      refine V.PI.assignedG (by repeat (first | exact trivial | refine ⟨rfl, ?_⟩)) (by repeat (first | exact .nil | apply Pick.cons | exact .here | apply Ext.there))
    · rintro lp pre ⟨⟩ ⟨k', o'⟩ W _ ⟨hk', ho'⟩ hW hlen
      obtain rfl : pre = [] := List.length_eq_zero_iff.1 (by omega)
      obtain rfl : k = k' := by simpa using hk'.symm
      simp only at ho' hW ⊢
      refine CI.block <| CI.seq <| CI.drawn ([[(b2, .cells ([.int .i64 10, .int .i64 1, .int .i64 0] : List Value).toArray 60 (0, 0))], [(b3, .cells [.slice (some ⟨eb, 0, none⟩) 1 ec].toArray 63 (0, 0))], [(b9, .cells [.int .i64 (k : Nat)].toArray 3 (0, 0))]]) mixed (by rfl) (by repeat (first | exact .nil | apply Pick.cons | exact .here | apply Ext.there)) <| Rv 0 rfl (Lw (l := [.int .i64 10, .int .i64 1, .int .i64 0])) <| Rv 1 rfl Ld <| Rv 2 rfl Ld <| Rv 3 rfl (Val.slice (sz := 9) 0 k ec rfl Tryz.underlying63 Tryz.sizeOf62 rfl ⟨_, rfl⟩ rfl (fun _ => rfl) (by omega) (by omega) (by omega)) <| RW.re 52 (.slice (some ⟨eb, 0, none⟩) k ec) rfl (by simp) <| Re 4 rfl (CM ([[(eb, .cells (evC 4).toArray 62 (0, 0))]]) fun w hw hs => behindK_c eb ec k (by omega) w hs) fun z _ => Rv 5 rfl Av <| Rd <| PQ.inRound ?_
      first | refine PI.seq ?_ | refine PI.seqW ?_
      refine CI.seq <| CI.region <| LI.v rfl rfl (Val.move rfl) <| LI.v rfl rfl (Val.move rfl) <| LI.e rfl rfl (Eff.callV rfl Tryz.call49 (fun w hw => cloneI0_c w)) fun _ _ => LI.v rfl rfl (Val.build (evC 5) Tryz.zeroValue62 Tryz.underlying62 places62 rfl (by rfl)) <| LI.e rfl rfl (Eff.callM (([wO z.1.1 z.2.1.1 (.pointer (some ⟨z.1.2.a, 0, none⟩)) (.pointer none) (k : Nat)] :: (arS z.1.2 z.2.1.1 1 0 ++ devS z.2.1.1 z.2.1.2 (fmtD 8) z.2.2))) (by repeat (first | exact .nil | apply Pick.cons | exact .here | apply Ext.there)) rfl Tryz.call48 (fun w hw hs => dCut_c z.1.2 z.1.1 z.2.1.1 z.2.1.2 1 0 k (by omega) z.2.2 w hs)) fun k1 _ => LI.nil ?_
      first | refine PI.seq ?_ | refine PI.seqW ?_
      refine CI.seq <| CI.region <| LI.v rfl rfl (Val.move rfl) <| LI.e rfl rfl (Eff.callM (([wO z.1.1 z.2.1.1 (.pointer none) (.pointer none) ((k + 1 : Nat) : Int)] :: devS z.2.1.1 z.2.1.2 (fmtD 8) k1)) (by repeat (first | exact .nil | apply Pick.cons | exact .here | apply Ext.there)) rfl Tryz.call45 (fun w hw hs => wDev_c z.1.1 z.2.1.1 z.2.1.2 (.pointer none) (.pointer none) ((k + 1 : Nat) : Int) (fmtD 8) k1 (by decide) w hs)) ?_
      rintro ⟨qb, qo⟩ hqo
      refine LI.e rfl rfl (Eff.callM ((cpS qb qo (fmtD 8) k1)) (by repeat (first | exact .nil | apply Pick.cons | exact .here | apply Ext.there)) rfl Tryz.call50 (fun w hw hs => durable_c qb qo (fmtD 8) k1 1 (frm (clockB 0)) f8_1 hqo w hs)) fun dy hdy => ?_
      obtain ⟨dp, dcp, hdv, hdsl⟩ := own64 (frm (clockB 0)).kept dy hdy
      refine LI.re 62 (.tuple #[.slice dp 64 dcp, .int .i64 0]) rfl (by rw [hdv]) <| LI.v rfl rfl (Val.move rfl) <| LI.v rfl rfl (Val.extract rfl rfl) <| LI.v rfl rfl (Val.extract rfl rfl) <| LI.v rfl rfl (Val.assign rfl) <| LI.v rfl rfl (Val.assign rfl) <| LI.nil ?_
      first | refine PI.seq ?_ | refine PI.seqW ?_
      refine CI.seq <| CI.region <| LI.v rfl rfl (Val.move rfl) <| LI.e rfl rfl (Eff.callV rfl Tryz.call51 (fun w hw => isClock_c (frm (clockB 0)).kept dp dcp w (hdsl hw (by repeat (first | exact .nil | apply Pick.cons | exact .here | apply Ext.there))))) fun _ _ => LI.v rfl rfl (Val.move rfl) <| LI.v rfl rfl (Val.extract rfl rfl) <| LI.v rfl rfl (Val.extract rfl rfl) <| LI.v rfl rfl (Val.assign rfl) <| LI.re 15 (.int .u64 0) rfl (by rw [show (frm (clockB 0)).kept = clockB 0 from rfl, clk0]) <| LI.v rfl rfl (Val.assign rfl) <| LI.nil ?_
      first | refine PI.seq ?_ | refine PI.seqW ?_
      refine CI.seq <| CI.region <| LI.v rfl rfl (Val.move rfl) <| LI.e rfl rfl (Eff.callM ((rvS z.1.1 z.2.1.1 z.2.1.2 (k + 1) ⟨0, 0, k1, none⟩)) (by repeat (first | exact .nil | apply Pick.cons | exact .here | apply Ext.there)) rfl Tryz.call52 (fun w hw hs => revived_c z.1.1 z.2.1.1 z.2.1.2 (k + 1) (by omega) k1 w hs)) fun v _ => LI.nil ?_
      first | refine PI.seq ?_ | refine PI.seqW ?_
      refine CI.drawn ([[(b9, .cells [.int .i64 (k : Nat)].toArray 3 (0, 0))]]) mixed (by rfl) (by repeat (first | exact .nil | apply Pick.cons | exact .here | apply Ext.there)) <| Rv 1 rfl Ld <| Rv 2 rfl Mv <| Rv 3 rfl Mv <| Rv 4 rfl Mv <| RW.any [0, 5] (by kernel_rfl) (by simp) fun i hi => ?_
      simp only [List.mem_cons, List.not_mem_nil, or_false] at hi
      rcases hi with rfl | rfl
      · refine Ro rfl (Eff.ofVal (Val.load (v := ownV k o') rfl Tryz.isAgg38 (by repeat (first | exact .here | exact .inner .here | exact .inner (.inner .here) | refine .there ?_)) (by rfl))) fun _ _ => Re 5 rfl (CV fun w hw => wShelf_c v.1 z.1.1 z.2.1.1 (.pointer none) 0 0 ((k + 1 + 13 : Nat) : Int) w hw.pk.sat) fun _ _ => Rv 6 rfl (Val.build (leC k) Tryz.zeroValue41 Tryz.underlying41 places41 rfl (by rfl)) <| Re 7 rfl (Eff.buildSlice (rfl) [_, _, _, _, _] Tryz.underlying38 Tryz.sizeOf41 (by exact Tryz.zeroValue41) rfl rfl rfl rfl (by rfl)) fun b79 _ => Re 8 rfl (Eff.appendAny (leC k) (sz := 5) (bytes := 88) (z := .agg #[.int .i64 0, .slice none 0 0, .int .u64 0, .slice none 0 0, .slice none 0 0]) (xs := leO k) (m0 := k) (o := o') (m := 1) (pk := [ownG 41 (leO k) o']) rfl rfl Tryz.underlying38 (by kernel_rfl) rfl (by omega) (by repeat (first | exact .nil | apply Pick.cons | exact .here | apply Ext.there)) (by simp) ho' (by rfl) (fun hm0 => ⟨b79, 0, rfl, fun w hw => V.range_of_block (o := 0) (cs := (leC k)) (r := []) (hw.own _ (show InS (b79, .cells (leC k).toArray 41 (0, 0)) _ from (by repeat (first | exact .here | exact .inner .here | exact .inner (.inner .here) | refine .there ?_))).mem) rfl⟩) (by rfl) (by omega) (by omega)) fun o9 ho9 => ?_
        rw [← leO_succ] at ho9 ⊢
        refine ReN 9 rfl (StS (h1 := V.ownV_one _ _)) fun _ _ => Rd <| PQ.inRound <| PI.in_normal ?_
        refine V.PI.rpm (k + 1, o9) ⟨rfl, ho9⟩ (by repeat (first | exact .nil | apply Pick.cons | exact .here | apply Ext.there))
      · refine Ro rfl (CV fun w hw => wShelf_c v.1 z.1.1 z.2.1.1 (.pointer none) 0 0 ((k + 1 + 13 : Nat) : Int) w hw.pk.sat) fun _ _ => Rv 6 rfl (Val.build (leC k) Tryz.zeroValue41 Tryz.underlying41 places41 rfl (by rfl)) <| RW.any [0, 7] (by kernel_rfl) (by simp) fun i hi => ?_
        simp only [List.mem_cons, List.not_mem_nil, or_false] at hi
        rcases hi with rfl | rfl
        · refine Ro rfl (Eff.ofVal (Val.load (v := ownV k o') rfl Tryz.isAgg38 (by repeat (first | exact .here | exact .inner .here | exact .inner (.inner .here) | refine .there ?_)) (by rfl))) fun _ _ => Re 7 rfl (Eff.buildSlice (rfl) [_, _, _, _, _] Tryz.underlying38 Tryz.sizeOf41 (by exact Tryz.zeroValue41) rfl rfl rfl rfl (by rfl)) fun b79 _ => Re 8 rfl (Eff.appendAny (leC k) (sz := 5) (bytes := 88) (z := .agg #[.int .i64 0, .slice none 0 0, .int .u64 0, .slice none 0 0, .slice none 0 0]) (xs := leO k) (m0 := k) (o := o') (m := 1) (pk := [ownG 41 (leO k) o']) rfl rfl Tryz.underlying38 (by kernel_rfl) rfl (by omega) (by repeat (first | exact .nil | apply Pick.cons | exact .here | apply Ext.there)) (by simp) ho' (by rfl) (fun hm0 => ⟨b79, 0, rfl, fun w hw => V.range_of_block (o := 0) (cs := (leC k)) (r := []) (hw.own _ (show InS (b79, .cells (leC k).toArray 41 (0, 0)) _ from (by repeat (first | exact .here | exact .inner .here | exact .inner (.inner .here) | refine .there ?_))).mem) rfl⟩) (by rfl) (by omega) (by omega)) fun o9 ho9 => ?_
          rw [← leO_succ] at ho9 ⊢
          refine ReN 9 rfl (StS (h1 := V.ownV_one _ _)) fun _ _ => Rd <| PQ.inRound <| PI.in_normal ?_
          refine V.PI.rpm (k + 1, o9) ⟨rfl, ho9⟩ (by repeat (first | exact .nil | apply Pick.cons | exact .here | apply Ext.there))
        · refine Ro rfl (Eff.buildSlice (rfl) [_, _, _, _, _] Tryz.underlying38 Tryz.sizeOf41 (by exact Tryz.zeroValue41) rfl rfl rfl rfl (by rfl)) fun b79 _ => Re 0 rfl (Eff.ofVal (Val.load (v := ownV k o') rfl Tryz.isAgg38 (by repeat (first | exact .here | exact .inner .here | exact .inner (.inner .here) | refine .there ?_)) (by rfl))) fun _ _ => Re 8 rfl (Eff.appendAny (leC k) (sz := 5) (bytes := 88) (z := .agg #[.int .i64 0, .slice none 0 0, .int .u64 0, .slice none 0 0, .slice none 0 0]) (xs := leO k) (m0 := k) (o := o') (m := 1) (pk := [ownG 41 (leO k) o']) rfl rfl Tryz.underlying38 (by kernel_rfl) rfl (by omega) (by repeat (first | exact .nil | apply Pick.cons | exact .here | apply Ext.there)) (by simp) ho' (by rfl) (fun hm0 => ⟨b79, 0, rfl, fun w hw => V.range_of_block (o := 0) (cs := (leC k)) (r := []) (hw.own _ (show InS (b79, .cells (leC k).toArray 41 (0, 0)) _ from (by repeat (first | exact .here | exact .inner .here | exact .inner (.inner .here) | refine .there ?_))).mem) rfl⟩) (by rfl) (by omega) (by omega)) fun o9 ho9 => ?_
          rw [← leO_succ] at ho9 ⊢
          refine ReN 9 rfl (StS (h1 := V.ownV_one _ _)) fun _ _ => Rd <| PQ.inRound <| PI.in_normal ?_
          refine V.PI.rpm (k + 1, o9) ⟨rfl, ho9⟩ (by repeat (first | exact .nil | apply Pick.cons | exact .here | apply Ext.there))
    · rintro D xs ⟨k', o'⟩ rfl ⟨hk', ho'⟩
      obtain rfl : k' = k + 1 := by simpa using hk'
      simp only at ho' ⊢
      refine PI.in_normal <| PI.in_normal ?_
      first | refine PI.seq ?_ | refine PI.seqW ?_
      refine CI.region <| LI.v rfl rfl (Val.ar rfl rfl rfl (IntWalk.i64_in _ (by omega))) <| LI.v rfl rfl (Val.move rfl) <| LI.nil ?_
      refine V.PI.roundD ⟨(k + 1, o', D :: Ds), by simp only; omega, ho'⟩ (by simp only; omega) rfl (by repeat (first | exact trivial | refine ⟨rfl, ?_⟩)) (fun w h => ?_)
      exact (h.pick (ss := [[(D, .deferred (some []))], V.mks Ds, [(b8, .cells [ownV (k + 1) o'].toArray 38 (0, 0))], ownG 41 (leO (k + 1)) o', [(b2, .cells ([.int .i64 10, .int .i64 1, .int .i64 0] : List Value).toArray 60 (0, 0))], [(b3, .cells [.slice (some ⟨eb, 0, none⟩) 1 ec].toArray 63 (0, 0))], [(eb, .cells (evC 4).toArray 62 (0, 0))]]) (by repeat (first | exact .nil | apply Pick.cons | exact .here | apply Ext.there))).perm (.refl _)
  · replace h32 := bF h32
    have h32 : (2 : Int) ≤ (k : Int) := h32
    obtain rfl : k = 2 := by omega
    refine CI.exit <| PI.then_exit <| PI.then_exit <| PI.in_here ?_
    first | refine PI.seq ?_ | refine PI.seqW ?_
    refine CI.seq <| CI.region <| LI.v rfl rfl (Val.load rfl Tryz.isAgg38 (by repeat (first | exact .here | exact .inner .here | exact .inner (.inner .here) | refine .there ?_)) (by rfl)) <| LI.v rfl rfl (Val.assign rfl) <| LI.v rfl rfl (Val.assign rfl) <| LI.nil ?_
    first | refine PI.seq ?_ | refine PI.seqW ?_
    refine CI.ret <| V.PI.retM2s (Ds := Ds) (sg' := [ownG 41 (leO 2) o, [(eb, .cells (evC 4).toArray 62 (0, 0))]]) rfl rfl rfl (by repeat (first | exact .nil | apply Pick.cons | exact .here | apply Ext.there)) ?_
    intro w' sm hw; exact ⟨o, ho, rfl, hw.pick (by repeat (first | exact .nil | apply Pick.cons | exact .here | apply Ext.there))⟩
end Go.Proofs.YtlpbjmbgopfkhaaGreat

