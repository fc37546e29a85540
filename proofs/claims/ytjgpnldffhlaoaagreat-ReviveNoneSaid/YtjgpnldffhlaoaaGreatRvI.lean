/- Once: a flag, a lock, calls that are deferred. -/
import Derived.Test.YtjgpnldffhlaoaaGreatRvH
import Derived.Test.YtjgpnldffhlaoaaGreatV31
import Derived.Lib.Hide
namespace Go.Proofs.YtjgpnldffhlaoaaGreat
open Go Go.RowKit V
set_option linter.unusedVariables false
set_option maxRecDepth 100000
instance : Und Tryz.prog 21 (dOf Tryz.underlying21) := ⟨Tryz.underlying21⟩
instance : Siz Tryz.prog 21 (kOf Tryz.sizeOf21) := ⟨Tryz.sizeOf21⟩
instance : AgF Tryz.prog 21 := ⟨Tryz.isAgg21⟩
instance : Zer Tryz.prog 21 (zOf Tryz.zeroValue21) := ⟨Tryz.zeroValue21⟩
instance : Und Tryz.prog 42 (dOf Tryz.underlying42) := ⟨Tryz.underlying42⟩
instance : Siz Tryz.prog 42 (kOf Tryz.sizeOf42) := ⟨Tryz.sizeOf42⟩
instance : AgT Tryz.prog 42 := ⟨Tryz.isAgg42⟩
instance : Zer Tryz.prog 42 (zOf Tryz.zeroValue42) := ⟨Tryz.zeroValue42⟩
instance : Und Tryz.prog 46 (dOf Tryz.underlying46) := ⟨Tryz.underlying46⟩
instance : Siz Tryz.prog 46 (kOf Tryz.sizeOf46) := ⟨Tryz.sizeOf46⟩
instance : AgT Tryz.prog 46 := ⟨Tryz.isAgg46⟩
instance : Zer Tryz.prog 46 (zOf Tryz.zeroValue46) := ⟨Tryz.zeroValue46⟩
instance : Und Tryz.prog 48 (dOf Tryz.underlying48) := ⟨Tryz.underlying48⟩
instance : Siz Tryz.prog 48 (kOf Tryz.sizeOf48) := ⟨Tryz.sizeOf48⟩
instance : AgT Tryz.prog 48 := ⟨Tryz.isAgg48⟩
instance : Zer Tryz.prog 48 (zOf Tryz.zeroValue48) := ⟨Tryz.zeroValue48⟩
instance : Und Tryz.prog 50 (dOf Tryz.underlying50) := ⟨Tryz.underlying50⟩
instance : Siz Tryz.prog 50 (kOf Tryz.sizeOf50) := ⟨Tryz.sizeOf50⟩
instance : AgT Tryz.prog 50 := ⟨Tryz.isAgg50⟩
instance : Zer Tryz.prog 50 (zOf Tryz.zeroValue50) := ⟨Tryz.zeroValue50⟩
instance : Und Tryz.prog 226 (dOf Tryz.underlying226) := ⟨Tryz.underlying226⟩
instance : Siz Tryz.prog 226 (kOf Tryz.sizeOf226) := ⟨Tryz.sizeOf226⟩
instance : AgF Tryz.prog 226 := ⟨Tryz.isAgg226⟩
instance : Zer Tryz.prog 226 (zOf Tryz.zeroValue226) := ⟨Tryz.zeroValue226⟩
instance : Und Tryz.prog 230 (dOf Tryz.underlying230) := ⟨Tryz.underlying230⟩
instance : Siz Tryz.prog 230 (kOf Tryz.sizeOf230) := ⟨Tryz.sizeOf230⟩
instance : AgF Tryz.prog 230 := ⟨Tryz.isAgg230⟩
instance : Zer Tryz.prog 230 (zOf Tryz.zeroValue230) := ⟨Tryz.zeroValue230⟩
instance : Cal Tryz.prog 122 := ⟨Tryz.call122⟩
instance : Cal Tryz.prog 123 := ⟨Tryz.call123⟩
instance : Cal Tryz.prog 125 := ⟨Tryz.call125⟩
instance : Cal Tryz.prog 134 := ⟨Tryz.call134⟩
instance : Cal Tryz.prog 137 := ⟨Tryz.call137⟩
open V (str byC ownV ownG ownS ownOk)
theorem x_dis (w : World) : (callFunc 130 #[]).run Tryz.prog w = .ok (.value (.tuple #[])) w := run_call_mark0 Tryz.func130 (by kernel_rfl) (by kernel_rfl) (by kernel_rfl) .disable (by kernel_rfl) w
theorem x_en (w : World) : (callFunc 132 #[]).run Tryz.prog w = .ok (.value (.tuple #[])) w := run_call_mark0 Tryz.func132 (by kernel_rfl) (by kernel_rfl) (by kernel_rfl) .enable (by kernel_rfl) w
theorem x_acq (a : Addr) (w : World) : (callFunc 133 #[.pointer (some a)]).run Tryz.prog w = .ok (.value (.tuple #[])) w := run_call_marked Tryz.func133 (by kernel_rfl) (by kernel_rfl) (by kernel_rfl) .acquire (by kernel_rfl) a w
theorem x_rel (a : Addr) (w : World) : (callFunc 135 #[.pointer (some a)]).run Tryz.prog w = .ok (.value (.tuple #[])) w := run_call_marked Tryz.func135 (by kernel_rfl) (by kernel_rfl) (by kernel_rfl) .releaseMerge (by kernel_rfl) a w
theorem x_cas {a : Addr} {w : World} (hc : w.cell? a = some (.int .i32 0)) (hz : w.frozen? a = false) : (callFunc 131 #[.pointer (some a), .int .i32 0, .int .i32 1]).run Tryz.prog w = .ok (.value (.bool true)) (w.setCell a (.int .i32 1)) := run_call_cas_hit Tryz.func131 (by kernel_rfl) (by kernel_rfl) (by kernel_rfl) .i32 (by kernel_rfl) hc hz
theorem x_add32 {a : Addr} {w : World} (hc : w.cell? a = some (.int .i32 1)) (hz : w.frozen? a = false) : (callFunc 136 #[.pointer (some a), .int .i32 (-1)]).run Tryz.prog w = .ok (.value (.int .i32 0)) (w.setCell a (.int .i32 0)) := run_call_add Tryz.func136 (by kernel_rfl) (by kernel_rfl) (by kernel_rfl) .i32 (by kernel_rfl) (y := -1) (s := 0) hc hz (by simp [go_sem]; rfl)
theorem x_load32 {a : Addr} {x : Int} {w : World} (hc : w.cell? a = some (.int .u32 x)) : (callFunc 104 #[.pointer (some a)]).run Tryz.prog w = .ok (.value (.int .u32 x)) w := run_call_load Tryz.func104 (by kernel_rfl) (by kernel_rfl) (by kernel_rfl) .u32 (by kernel_rfl) hc
theorem x_store32 {a : Addr} {u : Value} {w : World} (hc : w.cell? a = some u) (hz : w.frozen? a = false) : (callFunc 124 #[.pointer (some a), .int .u32 1]).run Tryz.prog w = .ok (.value (.tuple #[])) (w.setCell a (.int .u32 1)) := run_call_store Tryz.func124 (by kernel_rfl) (by kernel_rfl) (by kernel_rfl) (by kernel_rfl) hc hz
theorem bLoad_c (x : Int) (b o : Nat) (l : List Value) (T : TypeId) (w : World) (hl : l[o]? = some (.int .u32 x)) (hs : Sat [[(b, .cells l.toArray T (0, 0))]] w) : Calls Tryz.prog 68 [.pointer (some ⟨b, o, none⟩)].toArray w fun e w' => e = .returned (.bool (!decide (x = 0))) ∧ Below w.heap.size w w' := by
  refine V.calls [[(b, .cells l.toArray T (0, 0))]] Tryz.func68 rfl Tryz.ntmps68 (Nat.le_of_ble_eq_true rfl) hs <| Sq <| Rg <| Lv Av <| Nl <| Ps <| Sq <| Rg <| Lv Mv <| Lv Nz <| Lv (Fa 0 44) <| LW.re 5 (.pointer (some ⟨b, o, none⟩)) rfl rfl <| Lv (Val.ext rfl (fun w hw => x_load32 (V.cell_of_block (hw.own _ InS.here.mem) (by exact hl)))) <| Lv Cm <| LW.re 7 (.bool (!decide (x = 0))) rfl (by rfl) <| Lv Av <| Nl <| Ps <| Rt <| Rt1 ?_
  intro w' hw; exact ⟨rfl, hw.ro (by repeat (first | exact .nil | apply Pick.cons | exact .here | apply Ext.there)) hs⟩
theorem b32_c (w : World) : Calls Tryz.prog 125 [.bool true].toArray w fun e w' => e = .returned (.int .u32 1) ∧ Below w.heap.size w w' := by
  refine V.calls [] Tryz.func125 rfl Tryz.ntmps125 (Nat.le_of_ble_eq_true rfl) (V.sat_nil _) <| Sq <| Rg <| Lv Av <| Nl <| Ps <| Sq <| Sq <| Rg <| Lv Mv <| Nl <| Ps <| Ct <| Sq <| Rg <| Lv Av <| Nl <| Ps <| Rt <| Tr <| Rt1 ?_
  intro w' hw; exact ⟨rfl, hw.below⟩
theorem lockI_c (b o : Nat) (l : List Value) (T : TypeId) (w : World) (hl : l[o]? = some (.int .i32 0)) (hs : Sat [[(b, .cells l.toArray T (0, 0))]] w) : Calls Tryz.prog 122 [.pointer (some ⟨b, o, none⟩)].toArray w fun e w' => ∃ _u : Unit, True ∧ e = .returned (.tuple #[]) ∧ Hp ⟨w, V.ids [[(b, .cells l.toArray T (0, 0))]]⟩ [[(b, .cells (l.set o (.int .i32 1)).toArray T (0, 0))]] w' := by
  have hl2 : (l.set o (.int .i32 1))[o]? = some (.int .i32 1) := by rw [List.getElem?_set_self ((List.getElem?_eq_some_iff.1 hl).1)]
  refine V.calls [[(b, .cells l.toArray T (0, 0))]] Tryz.func122 rfl Tryz.ntmps122 (Nat.le_of_ble_eq_true rfl) hs <| Sq <| Rg <| Lv (Val.callX rfl (fun w hw => x_dis w)) <| Nl <| Ps <| Sq <| Sq <| Rg <| Lv Mv <| Lv Nz <| Lv (Fa 0 21) <| LW.re 5 (.pointer (some ⟨b, o, none⟩)) rfl rfl <| Le (Eff.ext (l' := l.set o (.int .i32 1)) rfl .here rfl (fun w hb => x_cas (V.cell_of_block hb (by exact hl)) (V.frozen_of hb))) fun _ _ => Nl <| Ps <| Ct <| Sq <| Ct <| Sq <| Rg <| Lv (Val.callX rfl (fun w hw => x_en w)) <| Nl <| Ps <| Rg <| Lv Mv <| Lv (Val.toUns rfl Tryz.underlying226 Tryz.underlying230 (by kernel_rfl) (v := .int .i32 1) (fun w hw => V.cell_of_block (hw.own _ InS.here.mem) (by exact hl2))) <| Lv (Val.callX rfl (fun w hw => x_acq _ w)) <| Nl <| Ps <| Rt <| Tr <| PQ.ret0 rfl ?_
  intro w' hw; exact ⟨(), trivial, rfl, hw⟩
theorem lock_c (b o : Nat) (l : List Value) (T : TypeId) (w : World) (hl : l[o]? = some (.int .i32 0)) (hs : Sat [[(b, .cells l.toArray T (0, 0))]] w) : Calls Tryz.prog 105 [.pointer (some ⟨b, o, none⟩)].toArray w fun e w' => ∃ _u : Unit, True ∧ e = .returned (.tuple #[]) ∧ Hp ⟨w, V.ids [[(b, .cells l.toArray T (0, 0))]]⟩ [[(b, .cells (l.set o (.int .i32 1)).toArray T (0, 0))]] w' := by
  refine V.calls [[(b, .cells l.toArray T (0, 0))]] Tryz.func105 rfl Tryz.ntmps105 (Nat.le_of_ble_eq_true rfl) hs <| Rg <| Lv Mv <| Lv Nz <| Lv (Fa 0 48) <| LW.re 4 (.pointer (some ⟨b, o, none⟩)) rfl rfl <| Le (CM ([[(b, .cells l.toArray T (0, 0))]]) fun w hw hs => lockI_c b o l T w hl hs) fun _ _ => Nl <| PQ.end0 rfl ?_
  intro w' hw; exact ⟨(), trivial, rfl, hw⟩
theorem unlI_c (b o : Nat) (l : List Value) (T : TypeId) (w : World) (hl : l[o]? = some (.int .i32 1)) (hs : Sat [[(b, .cells l.toArray T (0, 0))]] w) : Calls Tryz.prog 123 [.pointer (some ⟨b, o, none⟩)].toArray w fun e w' => ∃ _u : Unit, True ∧ e = .returned (.tuple #[]) ∧ Hp ⟨w, V.ids [[(b, .cells l.toArray T (0, 0))]]⟩ [[(b, .cells (l.set o (.int .i32 0)).toArray T (0, 0))]] w' := by
  refine V.calls [[(b, .cells l.toArray T (0, 0))]] Tryz.func123 rfl Tryz.ntmps123 (Nat.le_of_ble_eq_true rfl) hs <| Sq <| Ct <| Sq <| Rg <| Lv Mv <| Lv Nz <| Lv (Fa 0 21) <| LW.re 5 (.pointer (some ⟨b, o, none⟩)) rfl rfl <| Lv (Val.load (v := .int .i32 1) rfl Tryz.isAgg21 (by repeat (first | exact .here | exact .inner .here | exact .inner (.inner .here) | refine .there ?_)) (by exact hl)) <| Nl <| Ps <| Sq <| Rg <| Lv Mv <| Lv (Val.toUns rfl Tryz.underlying226 Tryz.underlying230 (by kernel_rfl) (v := .int .i32 1) (fun w hw => V.cell_of_block (hw.own _ InS.here.mem) (by exact hl))) <| Lv (Val.callX rfl (fun w hw => x_rel _ w)) <| Nl <| Ps <| Rg <| Lv (Val.callX rfl (fun w hw => x_dis w)) <| Nl <| Ps <| Sq <| Rg <| Lv Mv <| Lv Nz <| Lv (Fa 0 21) <| LW.re 13 (.pointer (some ⟨b, o, none⟩)) rfl rfl <| Le (Eff.ext (l' := l.set o (.int .i32 0)) rfl .here rfl (fun w hb => x_add32 (V.cell_of_block hb (by exact hl)) (V.frozen_of hb))) fun _ _ => Lv Av <| Nl <| Ps <| Sq <| Sq <| Rg <| Lv Mv <| Lv Cm <| Nl <| Ps <| Cf <| Sk <| Ps <| Rg <| Lv (Val.callX rfl (fun w hw => x_en w)) <| Nl <| PQ.end0 rfl ?_
  intro w' hw; exact ⟨(), trivial, rfl, hw⟩
theorem unl_d (b o : Nat) (l : List Value) (T : TypeId) (w : World) (hl : l[o]? = some (.int .i32 1)) (hs : Sat [[(b, .cells l.toArray T (0, 0))]] w) : CallsD Tryz.prog 106 [.pointer (some ⟨b, o, none⟩)].toArray .returning w fun e u w' => u = .returning ∧ ∃ _u : Unit, True ∧ e = .returned (.tuple #[]) ∧ Hp ⟨w, V.ids [[(b, .cells l.toArray T (0, 0))]]⟩ [[(b, .cells (l.set o (.int .i32 0)).toArray T (0, 0))]] w' := by
  refine V.callsD [[(b, .cells l.toArray T (0, 0))]] Tryz.func106 rfl Tryz.ntmps106 (Nat.le_of_ble_eq_true rfl) hs <| Rg <| Lv Mv <| Lv Nz <| Lv (Fa 0 48) <| LW.re 4 (.pointer (some ⟨b, o, none⟩)) rfl rfl <| Le (CM ([[(b, .cells l.toArray T (0, 0))]]) fun w hw hs => unlI_c b o l T w hl hs) fun _ _ => Nl <| PQ.end0 rfl ?_
  intro w' hw; exact ⟨(), trivial, rfl, hw⟩
theorem sto_d (u : Value) (b o : Nat) (l : List Value) (T : TypeId) (w : World) (hl : l[o]? = some u) (hs : Sat [[(b, .cells l.toArray T (0, 0))]] w) : CallsD Tryz.prog 107 [.pointer (some ⟨b, o, none⟩), .bool true].toArray .returning w fun e u w' => u = .returning ∧ ∃ _u : Unit, True ∧ e = .returned (.tuple #[]) ∧ Hp ⟨w, V.ids [[(b, .cells l.toArray T (0, 0))]]⟩ [[(b, .cells (l.set o (.int .u32 1)).toArray T (0, 0))]] w' := by
  refine V.callsD [[(b, .cells l.toArray T (0, 0))]] Tryz.func107 rfl Tryz.ntmps107 (Nat.le_of_ble_eq_true rfl) hs <| Dr ([]) <| Rv 0 rfl Mv <| Rv 1 rfl Nz <| Rv 2 rfl (Fa 0 44) <| RW.re 6 (.pointer (some ⟨b, o, none⟩)) rfl rfl <| Rv 3 rfl Mv <| Re 4 rfl (CV fun w hw => b32_c w) fun _ _ => Re 5 rfl (Eff.ext (l' := l.set o (.int .u32 1)) rfl .here rfl (fun w hb => x_store32 (V.cell_of_block hb (by exact hl)) (V.frozen_of hb))) fun _ _ => Rd <| PQ.end0 rfl ?_
  intro w' hw; exact ⟨(), trivial, rfl, hw⟩
end Go.Proofs.YtjgpnldffhlaoaaGreat
