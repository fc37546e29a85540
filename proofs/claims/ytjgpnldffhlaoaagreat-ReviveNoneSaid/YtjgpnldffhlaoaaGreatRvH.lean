/- An arena is made over a device without blocks. -/
import Derived.Test.YtjgpnldffhlaoaaGreatRvG
import Derived.Lib.Hide
namespace Go.Proofs.YtjgpnldffhlaoaaGreat
open Go Go.RowKit V
set_option linter.unusedVariables false
set_option maxRecDepth 100000
theorem places124 : ∀ w, ((Array.mapM (fun (f : Field) => do pure (f.offset, ← sizeOf f.type)) (Tryz.prog.fieldsOf 124) : Sem (Array (Nat × Nat)))).run Tryz.prog w = .ok [(0, 1), (1, 1), (2, 1), (3, 1), (4, 1), (5, 1), (6, 1), (7, 1), (8, 1), (9, 1), (10, 1)].toArray w := by
  intro w; kernel_rfl
theorem places127 : ∀ w, ((Array.mapM (fun (f : Field) => do pure (f.offset, ← sizeOf f.type)) (Tryz.prog.fieldsOf 127) : Sem (Array (Nat × Nat)))).run Tryz.prog w = .ok [(0, 1), (1, 1), (2, 1), (3, 1), (4, 1)].toArray w := by
  intro w; kernel_rfl
theorem places157 : ∀ w, ((Array.mapM (fun (f : Field) => do pure (f.offset, ← sizeOf f.type)) (Tryz.prog.fieldsOf 157) : Sem (Array (Nat × Nat)))).run Tryz.prog w = .ok [(0, 1), (1, 3)].toArray w := by
  intro w; kernel_rfl
instance : Und Tryz.prog 9 (dOf Tryz.underlying9) := ⟨Tryz.underlying9⟩
instance : Siz Tryz.prog 9 (kOf Tryz.sizeOf9) := ⟨Tryz.sizeOf9⟩
instance : AgF Tryz.prog 9 := ⟨Tryz.isAgg9⟩
instance : Zer Tryz.prog 9 (zOf Tryz.zeroValue9) := ⟨Tryz.zeroValue9⟩
instance : Und Tryz.prog 31 (dOf Tryz.underlying31) := ⟨Tryz.underlying31⟩
instance : Siz Tryz.prog 31 (kOf Tryz.sizeOf31) := ⟨Tryz.sizeOf31⟩
instance : AgF Tryz.prog 31 := ⟨Tryz.isAgg31⟩
instance : Zer Tryz.prog 31 (zOf Tryz.zeroValue31) := ⟨Tryz.zeroValue31⟩
instance : Und Tryz.prog 52 (dOf Tryz.underlying52) := ⟨Tryz.underlying52⟩
instance : Siz Tryz.prog 52 (kOf Tryz.sizeOf52) := ⟨Tryz.sizeOf52⟩
instance : AgT Tryz.prog 52 := ⟨Tryz.isAgg52⟩
instance : Zer Tryz.prog 52 (zOf Tryz.zeroValue52) := ⟨Tryz.zeroValue52⟩
instance : Und Tryz.prog 60 (dOf Tryz.underlying60) := ⟨Tryz.underlying60⟩
instance : Siz Tryz.prog 60 (kOf Tryz.sizeOf60) := ⟨Tryz.sizeOf60⟩
instance : AgT Tryz.prog 60 := ⟨Tryz.isAgg60⟩
instance : Zer Tryz.prog 60 (zOf Tryz.zeroValue60) := ⟨Tryz.zeroValue60⟩
instance : Und Tryz.prog 62 (dOf Tryz.underlying62) := ⟨Tryz.underlying62⟩
instance : Siz Tryz.prog 62 (kOf Tryz.sizeOf62) := ⟨Tryz.sizeOf62⟩
instance : AgT Tryz.prog 62 := ⟨Tryz.isAgg62⟩
instance : Zer Tryz.prog 62 (zOf Tryz.zeroValue62) := ⟨Tryz.zeroValue62⟩
instance : Und Tryz.prog 110 (dOf Tryz.underlying110) := ⟨Tryz.underlying110⟩
instance : Siz Tryz.prog 110 (kOf Tryz.sizeOf110) := ⟨Tryz.sizeOf110⟩
instance : AgF Tryz.prog 110 := ⟨Tryz.isAgg110⟩
instance : Zer Tryz.prog 110 (zOf Tryz.zeroValue110) := ⟨Tryz.zeroValue110⟩
instance : Und Tryz.prog 112 (dOf Tryz.underlying112) := ⟨Tryz.underlying112⟩
instance : Siz Tryz.prog 112 (kOf Tryz.sizeOf112) := ⟨Tryz.sizeOf112⟩
instance : AgF Tryz.prog 112 := ⟨Tryz.isAgg112⟩
instance : Zer Tryz.prog 112 (zOf Tryz.zeroValue112) := ⟨Tryz.zeroValue112⟩
instance : Und Tryz.prog 113 (dOf Tryz.underlying113) := ⟨Tryz.underlying113⟩
instance : Siz Tryz.prog 113 (kOf Tryz.sizeOf113) := ⟨Tryz.sizeOf113⟩
instance : AgF Tryz.prog 113 := ⟨Tryz.isAgg113⟩
instance : Zer Tryz.prog 113 (zOf Tryz.zeroValue113) := ⟨Tryz.zeroValue113⟩
instance : Und Tryz.prog 114 (dOf Tryz.underlying114) := ⟨Tryz.underlying114⟩
instance : Siz Tryz.prog 114 (kOf Tryz.sizeOf114) := ⟨Tryz.sizeOf114⟩
instance : AgF Tryz.prog 114 := ⟨Tryz.isAgg114⟩
instance : Zer Tryz.prog 114 (zOf Tryz.zeroValue114) := ⟨Tryz.zeroValue114⟩
instance : Und Tryz.prog 115 (dOf Tryz.underlying115) := ⟨Tryz.underlying115⟩
instance : Siz Tryz.prog 115 (kOf Tryz.sizeOf115) := ⟨Tryz.sizeOf115⟩
instance : AgF Tryz.prog 115 := ⟨Tryz.isAgg115⟩
instance : Zer Tryz.prog 115 (zOf Tryz.zeroValue115) := ⟨Tryz.zeroValue115⟩
instance : Und Tryz.prog 116 (dOf Tryz.underlying116) := ⟨Tryz.underlying116⟩
instance : Siz Tryz.prog 116 (kOf Tryz.sizeOf116) := ⟨Tryz.sizeOf116⟩
instance : AgF Tryz.prog 116 := ⟨Tryz.isAgg116⟩
instance : Zer Tryz.prog 116 (zOf Tryz.zeroValue116) := ⟨Tryz.zeroValue116⟩
instance : Und Tryz.prog 117 (dOf Tryz.underlying117) := ⟨Tryz.underlying117⟩
instance : Siz Tryz.prog 117 (kOf Tryz.sizeOf117) := ⟨Tryz.sizeOf117⟩
instance : AgF Tryz.prog 117 := ⟨Tryz.isAgg117⟩
instance : Zer Tryz.prog 117 (zOf Tryz.zeroValue117) := ⟨Tryz.zeroValue117⟩
instance : Und Tryz.prog 118 (dOf Tryz.underlying118) := ⟨Tryz.underlying118⟩
instance : Siz Tryz.prog 118 (kOf Tryz.sizeOf118) := ⟨Tryz.sizeOf118⟩
instance : AgF Tryz.prog 118 := ⟨Tryz.isAgg118⟩
instance : Zer Tryz.prog 118 (zOf Tryz.zeroValue118) := ⟨Tryz.zeroValue118⟩
instance : Und Tryz.prog 119 (dOf Tryz.underlying119) := ⟨Tryz.underlying119⟩
instance : Siz Tryz.prog 119 (kOf Tryz.sizeOf119) := ⟨Tryz.sizeOf119⟩
instance : AgF Tryz.prog 119 := ⟨Tryz.isAgg119⟩
instance : Zer Tryz.prog 119 (zOf Tryz.zeroValue119) := ⟨Tryz.zeroValue119⟩
instance : Und Tryz.prog 122 (dOf Tryz.underlying122) := ⟨Tryz.underlying122⟩
instance : Siz Tryz.prog 122 (kOf Tryz.sizeOf122) := ⟨Tryz.sizeOf122⟩
instance : AgF Tryz.prog 122 := ⟨Tryz.isAgg122⟩
instance : Zer Tryz.prog 122 (zOf Tryz.zeroValue122) := ⟨Tryz.zeroValue122⟩
instance : Und Tryz.prog 124 (dOf Tryz.underlying124) := ⟨Tryz.underlying124⟩
instance : Siz Tryz.prog 124 (kOf Tryz.sizeOf124) := ⟨Tryz.sizeOf124⟩
instance : AgT Tryz.prog 124 := ⟨Tryz.isAgg124⟩
instance : Zer Tryz.prog 124 (zOf Tryz.zeroValue124) := ⟨Tryz.zeroValue124⟩
instance : Und Tryz.prog 127 (dOf Tryz.underlying127) := ⟨Tryz.underlying127⟩
instance : Siz Tryz.prog 127 (kOf Tryz.sizeOf127) := ⟨Tryz.sizeOf127⟩
instance : AgT Tryz.prog 127 := ⟨Tryz.isAgg127⟩
instance : Zer Tryz.prog 127 (zOf Tryz.zeroValue127) := ⟨Tryz.zeroValue127⟩
instance : Und Tryz.prog 157 (dOf Tryz.underlying157) := ⟨Tryz.underlying157⟩
instance : Siz Tryz.prog 157 (kOf Tryz.sizeOf157) := ⟨Tryz.sizeOf157⟩
instance : AgT Tryz.prog 157 := ⟨Tryz.isAgg157⟩
instance : Zer Tryz.prog 157 (zOf Tryz.zeroValue157) := ⟨Tryz.zeroValue157⟩
instance : Plc Tryz.prog 124 (fOf Tryz.underlying124) (lOf (P := Tryz.prog) places124) := ⟨places124, Tryz.underlying124⟩
instance : Plc Tryz.prog 127 (fOf Tryz.underlying127) (lOf (P := Tryz.prog) places127) := ⟨places127, Tryz.underlying127⟩
instance : Plc Tryz.prog 157 (fOf Tryz.underlying157) (lOf (P := Tryz.prog) places157) := ⟨places157, Tryz.underlying157⟩
instance : Cal Tryz.prog 56 := ⟨Tryz.call56⟩
instance : Cal Tryz.prog 57 := ⟨Tryz.call57⟩
instance : Cal Tryz.prog 58 := ⟨Tryz.call58⟩
instance : Cal Tryz.prog 59 := ⟨Tryz.call59⟩
instance : Cal Tryz.prog 60 := ⟨Tryz.call60⟩
instance : Cal Tryz.prog 62 := ⟨Tryz.call62⟩
instance : Cal Tryz.prog 63 := ⟨Tryz.call63⟩
instance : Cal Tryz.prog 65 := ⟨Tryz.call65⟩
instance : Cal Tryz.prog 82 := ⟨Tryz.call82⟩
instance : Cal Tryz.prog 83 := ⟨Tryz.call83⟩
instance : Cal Tryz.prog 84 := ⟨Tryz.call84⟩
instance : Cal Tryz.prog 85 := ⟨Tryz.call85⟩
instance : Cal Tryz.prog 86 := ⟨Tryz.call86⟩
instance : Cal Tryz.prog 87 := ⟨Tryz.call87⟩
instance : Cal Tryz.prog 88 := ⟨Tryz.call88⟩
instance : Cal Tryz.prog 100 := ⟨Tryz.call100⟩
instance : Cal Tryz.prog 118 := ⟨Tryz.call118⟩
instance : Cal Tryz.prog 119 := ⟨Tryz.call119⟩
open V (str byC ownV ownG ownS ownOk)
theorem made_c (db cb : Nat) (D : List Ce) (k : Cnt) (hL : D.length = 10) (w : World) (hs : Sat (devS db cb D k) w) : Calls Tryz.prog 56 [.pointer (some ⟨db, 0, none⟩), .int .i64 1, .int .u64 0].toArray w fun e w' => ∃ a : Nat, True ∧ e = .returned (.tuple #[.pointer (some ⟨a, 0, none⟩), .int .i64 0]) ∧ Below w.heap.size w w' := by
  refine V.calls (devS db cb D k) Tryz.func56 rfl Tryz.ntmps56 (Nat.le_of_ble_eq_true rfl) hs <| Sq <| Rg <| Lv Av <| Lv Av <| Nl <| Ps <| Sq <| Rg <| Lv Mv <| Le (CR fun w hw => rdNew_c w) fun a1 _ => Lv Mv <| Lv Ex <| Lv Ex <| Lv Av <| Lv Av <| Nl <| Ps <| Sq <| Sq <| Rg <| Lv Mv <| Lv Cm <| Lv Mv <| Lv Mv <| Le (CV fun w hw => lines_c db cb D k w hw.at) fun _ _ => LW.re 22 (.int .i64 10) rfl (by rw [hL]; rfl) <| Lv Cm <| Lv Pf <| LW.re 24 (.bool false) rfl (by rfl) <| Nl <| Ps <| Cf <| Sk <| Ps <| Sq <| Rg <| Lv Mv <| Lv Mv <| Le (CR fun w hw => clNew_c w) fun a2 _ => Lv Mv <| Lv Ex <| Lv Ex <| Lv Av <| Lv Av <| Nl <| Ps <| Sq <| Sq <| Rg <| Lv Mv <| Lv Cm <| Nl <| Ps <| Cf <| Sk <| Ps <| Sq <| Rg <| Lv Mv <| Le (CV fun w hw => lines_c db cb D k w hw.at) fun _ _ => LW.re 36 (.int .i64 10) rfl (by rw [hL]; rfl) <| Le (CV fun w hw => slabs_c 10 (by omega) w) fun _ _ => LW.re 37 (.int .i64 1) rfl (by rfl) <| Le (CR fun w hw => plNew_c w) fun a3 _ => Lv Mv <| Lv Ex <| Lv Ex <| Lv Av <| Lv Av <| Nl <| Ps <| Sq <| Rg <| Lv Mv <| Lv (Bd [_, _, _, _]) <| Le XA fun b43 _ => Lv Mv <| Lv Mv <| Lv Mv <| Le (CR fun w hw => lbNew_c w) fun a4 _ => Le (CR fun w hw => tbNew_c w) fun a5 _ => Le (CR fun w hw => orNew_c w) fun a6 _ => Le (CR fun w hw => ffNew_c w) fun a7 _ => Lv (Bd [_, _, _, _, _, _, _, _, _, _, _]) <| Le XA fun b52 _ => Lv Av <| Lv Av <| Nl <| Ps <| Rt <| Rt2 ?_
  intro w' hw; exact ⟨b52, trivial, rfl, hw.ro (by repeat (first | exact .nil | apply Pick.cons | exact .here | apply Ext.there)) hs⟩
theorem ins_c (v : Value) (w : World) : Calls Tryz.prog 118 [.slice none 0 0, .int .i64 0, .int .i64 0, v].toArray w fun e w' => e = .returned (.tuple #[]) ∧ Below w.heap.size w w' := by
  refine V.calls [] Tryz.func118 rfl Tryz.ntmps118 (Nat.le_of_ble_eq_true rfl) (V.sat_nil _) <| Sq <| Rg <| Lv Mv <| Lv Ar <| Lv Av <| Nl <| Ps <| Bk <| CW.loopU 0 <| Sq <| Sq <| Rg <| Lv Mv <| Lv Mv <| Lv Cm <| Nl <| Ps <| Cf <| Xt <| Te <| Te <| Bh <| PQ.end0 rfl ?_
  intro w' hw; exact ⟨rfl, hw.below⟩
theorem stab_c (v : Value) (w : World) : Calls Tryz.prog 100 [.slice none 0 0, .int .i64 0, v].toArray w fun e w' => e = .returned (.tuple #[]) ∧ Below w.heap.size w w' := by
  refine V.calls [] Tryz.func100 rfl Tryz.ntmps100 (Nat.le_of_ble_eq_true rfl) (V.sat_nil _) <| Sq <| Rg <| Lv Av <| Nl <| Ps <| Sq <| Rg <| Lv Mv <| Lv Av <| Lv Av <| Nl <| Ps <| Sq <| Bk <| CW.loopU 0 <| Sq <| Sq <| Rg <| Lv Mv <| Lv Mv <| Lv Cm <| Nl <| Ps <| Cf <| Xt <| Te <| Te <| Bh <| Ps <| Sq <| Rg <| Lv Mv <| Lv Mv <| Lv Mv <| Lv Mv <| Le (CV fun w hw => ins_c v w) fun _ _ => Nl <| Ps <| Bk <| CW.loopU 0 <| Sq <| Sq <| Rg <| Lv Mv <| Lv Mv <| Lv Cm <| Nl <| Ps <| Cf <| Xt <| Te <| Te <| Bh <| PQ.end0 rfl ?_
  intro w' hw; exact ⟨rfl, hw.below⟩
theorem sort_c (v : Value) (w : World) : Calls Tryz.prog 63 [.slice none 0 0, v].toArray w fun e w' => e = .returned (.tuple #[]) ∧ Below w.heap.size w w' := by
  refine V.calls [] Tryz.func63 rfl Tryz.ntmps63 (Nat.le_of_ble_eq_true rfl) (V.sat_nil _) <| Rg <| Lv Mv <| Lv Mv <| Lv Ln <| Lv Mv <| Le (CV fun w hw => stab_c v w) fun _ _ => Nl <| PQ.end0 rfl ?_
  intro w' hw; exact ⟨rfl, hw.below⟩
theorem over_c (db cb : Nat) (D : List Ce) (k : Cnt) (hL : D.length = 10) (w : World) (hs : Sat (devS db cb D k) w) : Calls Tryz.prog 36 [.pointer (some ⟨db, 0, none⟩), .int .i64 1, .int .u64 0, .slice none 0 0].toArray w fun e w' => ∃ a : Nat, True ∧ e = .returned (.tuple #[.pointer (some ⟨a, 0, none⟩), .int .i64 0]) ∧ Below w.heap.size w w' := by
  refine V.calls (devS db cb D k) Tryz.func36 rfl Tryz.ntmps36 (Nat.le_of_ble_eq_true rfl) hs <| Sq <| Rg <| Lv Av <| Lv Av <| Nl <| Ps <| Sq <| Sq <| Rg <| Lv Mv <| Lv EP <| Nl <| Ps <| Cf <| Sk <| Ps <| Sq <| Rg <| Lv Mv <| Lv Mv <| Lv Mv <| Le (CR fun w hw => made_c db cb D k hL w hw.pk.sat) fun a1 _ => Lv Mv <| Lv Ex <| Lv Ex <| Lv Av <| Lv Av <| Nl <| Ps <| Sq <| Sq <| Rg <| Lv Mv <| Lv Cm <| Nl <| Ps <| Cf <| Sk <| Ps <| Sq <| Sq <| Rg <| Lv Mv <| Lv Ln <| Lv Mv <| Nl <| Ps <| Bk <| CW.loopU 0 <| Sq <| Rg <| Lv Cm <| Nl <| Ps <| Sq <| Cf <| Xt <| Te <| Te <| Bh <| Ps <| Sq <| Rg <| Lv Av <| Nl <| Ps <| Sq <| Sq <| Rg <| Lv Mv <| Lv Ln <| Lv Mv <| Nl <| Ps <| Bk <| CW.loopU 0 <| Sq <| Rg <| Lv Cm <| Nl <| Ps <| Sq <| Cf <| Xt <| Te <| Te <| Bh <| Ps <| Sq <| Rg <| Lv Mv <| Le (CV fun w hw => sort_c _ w) fun _ _ => Nl <| Ps <| Sq <| Sq <| Rg <| Lv Mv <| Lv Ln <| Lv Mv <| Nl <| Ps <| Bk <| CW.loopU 0 <| Sq <| Rg <| Lv Cm <| Nl <| Ps <| Sq <| Cf <| Xt <| Te <| Te <| Bh <| Ps <| Sq <| Rg <| Lv Mv <| Lv Av <| Lv Av <| Nl <| Ps <| Rt <| Rt2 ?_
  intro w' hw; exact ⟨a1, trivial, rfl, hw.ro (by repeat (first | exact .nil | apply Pick.cons | exact .here | apply Ext.there)) hs⟩
end Go.Proofs.YtjgpnldffhlaoaaGreat
