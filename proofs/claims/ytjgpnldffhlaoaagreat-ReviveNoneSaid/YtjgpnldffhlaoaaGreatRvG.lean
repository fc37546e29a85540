/- An arena is made. -/
import Derived.Test.YtjgpnldffhlaoaaGreatRvF
import Derived.Test.YtjgpnldffhlaoaaGreatV30
import Derived.Lib.Hide
namespace Go.Proofs.YtjgpnldffhlaoaaGreat
open Go Go.RowKit V
set_option linter.unusedVariables false
set_option maxRecDepth 100000
theorem places170 : ∀ w, ((Array.mapM (fun (f : Field) => do pure (f.offset, ← sizeOf f.type)) (Tryz.prog.fieldsOf 170) : Sem (Array (Nat × Nat)))).run Tryz.prog w = .ok [(0, 1)].toArray w := by
  intro w; kernel_rfl
theorem places180 : ∀ w, ((Array.mapM (fun (f : Field) => do pure (f.offset, ← sizeOf f.type)) (Tryz.prog.fieldsOf 180) : Sem (Array (Nat × Nat)))).run Tryz.prog w = .ok [(0, 4)].toArray w := by
  intro w; kernel_rfl
theorem places190 : ∀ w, ((Array.mapM (fun (f : Field) => do pure (f.offset, ← sizeOf f.type)) (Tryz.prog.fieldsOf 190) : Sem (Array (Nat × Nat)))).run Tryz.prog w = .ok [(0, 3)].toArray w := by
  intro w; kernel_rfl
theorem places200 : ∀ w, ((Array.mapM (fun (f : Field) => do pure (f.offset, ← sizeOf f.type)) (Tryz.prog.fieldsOf 200) : Sem (Array (Nat × Nat)))).run Tryz.prog w = .ok [(0, 1), (1, 1)].toArray w := by
  intro w; kernel_rfl
theorem places204 : ∀ w, ((Array.mapM (fun (f : Field) => do pure (f.offset, ← sizeOf f.type)) (Tryz.prog.fieldsOf 204) : Sem (Array (Nat × Nat)))).run Tryz.prog w = .ok [(0, 1), (1, 1), (2, 1), (3, 1), (4, 258), (262, 258), (520, 1)].toArray w := by
  intro w; kernel_rfl
theorem places207 : ∀ w, ((Array.mapM (fun (f : Field) => do pure (f.offset, ← sizeOf f.type)) (Tryz.prog.fieldsOf 207) : Sem (Array (Nat × Nat)))).run Tryz.prog w = .ok [(0, 1)].toArray w := by
  intro w; kernel_rfl
theorem places210 : ∀ w, ((Array.mapM (fun (f : Field) => do pure (f.offset, ← sizeOf f.type)) (Tryz.prog.fieldsOf 210) : Sem (Array (Nat × Nat)))).run Tryz.prog w = .ok [(0, 8)].toArray w := by
  intro w; kernel_rfl
instance : Und Tryz.prog 121 (dOf Tryz.underlying121) := ⟨Tryz.underlying121⟩
instance : Siz Tryz.prog 121 (kOf Tryz.sizeOf121) := ⟨Tryz.sizeOf121⟩
instance : AgT Tryz.prog 121 := ⟨Tryz.isAgg121⟩
instance : Zer Tryz.prog 121 (zOf Tryz.zeroValue121) := ⟨Tryz.zeroValue121⟩
instance : Und Tryz.prog 144 (dOf Tryz.underlying144) := ⟨Tryz.underlying144⟩
instance : Siz Tryz.prog 144 (kOf Tryz.sizeOf144) := ⟨Tryz.sizeOf144⟩
instance : AgF Tryz.prog 144 := ⟨Tryz.isAgg144⟩
instance : Zer Tryz.prog 144 (zOf Tryz.zeroValue144) := ⟨Tryz.zeroValue144⟩
instance : Und Tryz.prog 163 (dOf Tryz.underlying163) := ⟨Tryz.underlying163⟩
instance : Siz Tryz.prog 163 (kOf Tryz.sizeOf163) := ⟨Tryz.sizeOf163⟩
instance : AgF Tryz.prog 163 := ⟨Tryz.isAgg163⟩
instance : Zer Tryz.prog 163 (zOf Tryz.zeroValue163) := ⟨Tryz.zeroValue163⟩
instance : Und Tryz.prog 166 (dOf Tryz.underlying166) := ⟨Tryz.underlying166⟩
instance : Siz Tryz.prog 166 (kOf Tryz.sizeOf166) := ⟨Tryz.sizeOf166⟩
instance : AgT Tryz.prog 166 := ⟨Tryz.isAgg166⟩
instance : Zer Tryz.prog 166 (zOf Tryz.zeroValue166) := ⟨Tryz.zeroValue166⟩
instance : Und Tryz.prog 168 (dOf Tryz.underlying168) := ⟨Tryz.underlying168⟩
instance : Siz Tryz.prog 168 (kOf Tryz.sizeOf168) := ⟨Tryz.sizeOf168⟩
instance : AgT Tryz.prog 168 := ⟨Tryz.isAgg168⟩
instance : Zer Tryz.prog 168 (zOf Tryz.zeroValue168) := ⟨Tryz.zeroValue168⟩
instance : Und Tryz.prog 170 (dOf Tryz.underlying170) := ⟨Tryz.underlying170⟩
instance : Siz Tryz.prog 170 (kOf Tryz.sizeOf170) := ⟨Tryz.sizeOf170⟩
instance : AgT Tryz.prog 170 := ⟨Tryz.isAgg170⟩
instance : Zer Tryz.prog 170 (zOf Tryz.zeroValue170) := ⟨Tryz.zeroValue170⟩
instance : Und Tryz.prog 173 (dOf Tryz.underlying173) := ⟨Tryz.underlying173⟩
instance : Siz Tryz.prog 173 (kOf Tryz.sizeOf173) := ⟨Tryz.sizeOf173⟩
instance : AgF Tryz.prog 173 := ⟨Tryz.isAgg173⟩
instance : Zer Tryz.prog 173 (zOf Tryz.zeroValue173) := ⟨Tryz.zeroValue173⟩
instance : Und Tryz.prog 178 (dOf Tryz.underlying178) := ⟨Tryz.underlying178⟩
instance : Siz Tryz.prog 178 (kOf Tryz.sizeOf178) := ⟨Tryz.sizeOf178⟩
instance : AgT Tryz.prog 178 := ⟨Tryz.isAgg178⟩
instance : Zer Tryz.prog 178 (zOf Tryz.zeroValue178) := ⟨Tryz.zeroValue178⟩
instance : Und Tryz.prog 180 (dOf Tryz.underlying180) := ⟨Tryz.underlying180⟩
instance : Siz Tryz.prog 180 (kOf Tryz.sizeOf180) := ⟨Tryz.sizeOf180⟩
instance : AgT Tryz.prog 180 := ⟨Tryz.isAgg180⟩
instance : Zer Tryz.prog 180 (zOf Tryz.zeroValue180) := ⟨Tryz.zeroValue180⟩
instance : Und Tryz.prog 188 (dOf Tryz.underlying188) := ⟨Tryz.underlying188⟩
instance : Siz Tryz.prog 188 (kOf Tryz.sizeOf188) := ⟨Tryz.sizeOf188⟩
instance : AgT Tryz.prog 188 := ⟨Tryz.isAgg188⟩
instance : Zer Tryz.prog 188 (zOf Tryz.zeroValue188) := ⟨Tryz.zeroValue188⟩
instance : Und Tryz.prog 190 (dOf Tryz.underlying190) := ⟨Tryz.underlying190⟩
instance : Siz Tryz.prog 190 (kOf Tryz.sizeOf190) := ⟨Tryz.sizeOf190⟩
instance : AgT Tryz.prog 190 := ⟨Tryz.isAgg190⟩
instance : Zer Tryz.prog 190 (zOf Tryz.zeroValue190) := ⟨Tryz.zeroValue190⟩
instance : Und Tryz.prog 198 (dOf Tryz.underlying198) := ⟨Tryz.underlying198⟩
instance : Siz Tryz.prog 198 (kOf Tryz.sizeOf198) := ⟨Tryz.sizeOf198⟩
instance : AgF Tryz.prog 198 := ⟨Tryz.isAgg198⟩
instance : Zer Tryz.prog 198 (zOf Tryz.zeroValue198) := ⟨Tryz.zeroValue198⟩
instance : Und Tryz.prog 200 (dOf Tryz.underlying200) := ⟨Tryz.underlying200⟩
instance : Siz Tryz.prog 200 (kOf Tryz.sizeOf200) := ⟨Tryz.sizeOf200⟩
instance : AgT Tryz.prog 200 := ⟨Tryz.isAgg200⟩
instance : Zer Tryz.prog 200 (zOf Tryz.zeroValue200) := ⟨Tryz.zeroValue200⟩
instance : Und Tryz.prog 201 (dOf Tryz.underlying201) := ⟨Tryz.underlying201⟩
instance : Siz Tryz.prog 201 (kOf Tryz.sizeOf201) := ⟨Tryz.sizeOf201⟩
instance : AgT Tryz.prog 201 := ⟨Tryz.isAgg201⟩
instance : Zer Tryz.prog 201 (zOf Tryz.zeroValue201) := ⟨Tryz.zeroValue201⟩
instance : Und Tryz.prog 202 (dOf Tryz.underlying202) := ⟨Tryz.underlying202⟩
instance : Siz Tryz.prog 202 (kOf Tryz.sizeOf202) := ⟨Tryz.sizeOf202⟩
instance : AgF Tryz.prog 202 := ⟨Tryz.isAgg202⟩
instance : Zer Tryz.prog 202 (zOf Tryz.zeroValue202) := ⟨Tryz.zeroValue202⟩
instance : Und Tryz.prog 204 (dOf Tryz.underlying204) := ⟨Tryz.underlying204⟩
instance : Siz Tryz.prog 204 (kOf Tryz.sizeOf204) := ⟨Tryz.sizeOf204⟩
instance : AgT Tryz.prog 204 := ⟨Tryz.isAgg204⟩
instance : Zer Tryz.prog 204 (zOf Tryz.zeroValue204) := ⟨Tryz.zeroValue204⟩
instance : Und Tryz.prog 205 (dOf Tryz.underlying205) := ⟨Tryz.underlying205⟩
instance : Siz Tryz.prog 205 (kOf Tryz.sizeOf205) := ⟨Tryz.sizeOf205⟩
instance : AgF Tryz.prog 205 := ⟨Tryz.isAgg205⟩
instance : Zer Tryz.prog 205 (zOf Tryz.zeroValue205) := ⟨Tryz.zeroValue205⟩
instance : Und Tryz.prog 207 (dOf Tryz.underlying207) := ⟨Tryz.underlying207⟩
instance : Siz Tryz.prog 207 (kOf Tryz.sizeOf207) := ⟨Tryz.sizeOf207⟩
instance : AgT Tryz.prog 207 := ⟨Tryz.isAgg207⟩
instance : Zer Tryz.prog 207 (zOf Tryz.zeroValue207) := ⟨Tryz.zeroValue207⟩
instance : Und Tryz.prog 208 (dOf Tryz.underlying208) := ⟨Tryz.underlying208⟩
instance : Siz Tryz.prog 208 (kOf Tryz.sizeOf208) := ⟨Tryz.sizeOf208⟩
instance : AgT Tryz.prog 208 := ⟨Tryz.isAgg208⟩
instance : Zer Tryz.prog 208 (zOf Tryz.zeroValue208) := ⟨Tryz.zeroValue208⟩
instance : Und Tryz.prog 210 (dOf Tryz.underlying210) := ⟨Tryz.underlying210⟩
instance : Siz Tryz.prog 210 (kOf Tryz.sizeOf210) := ⟨Tryz.sizeOf210⟩
instance : AgT Tryz.prog 210 := ⟨Tryz.isAgg210⟩
instance : Zer Tryz.prog 210 (zOf Tryz.zeroValue210) := ⟨Tryz.zeroValue210⟩
instance : Plc Tryz.prog 170 (fOf Tryz.underlying170) (lOf (P := Tryz.prog) places170) := ⟨places170, Tryz.underlying170⟩
instance : Plc Tryz.prog 180 (fOf Tryz.underlying180) (lOf (P := Tryz.prog) places180) := ⟨places180, Tryz.underlying180⟩
instance : Plc Tryz.prog 190 (fOf Tryz.underlying190) (lOf (P := Tryz.prog) places190) := ⟨places190, Tryz.underlying190⟩
instance : Plc Tryz.prog 200 (fOf Tryz.underlying200) (lOf (P := Tryz.prog) places200) := ⟨places200, Tryz.underlying200⟩
instance : Plc Tryz.prog 204 (fOf Tryz.underlying204) (lOf (P := Tryz.prog) places204) := ⟨places204, Tryz.underlying204⟩
instance : Plc Tryz.prog 207 (fOf Tryz.underlying207) (lOf (P := Tryz.prog) places207) := ⟨places207, Tryz.underlying207⟩
instance : Plc Tryz.prog 210 (fOf Tryz.underlying210) (lOf (P := Tryz.prog) places210) := ⟨places210, Tryz.underlying210⟩
instance : Cal Tryz.prog 34 := ⟨Tryz.call34⟩
instance : Cal Tryz.prog 61 := ⟨Tryz.call61⟩
open V (str byC ownV ownG ownS ownOk)
theorem x_store {a : Addr} {u : Value} {y : Int} {w : World} (hc : w.cell? a = some u) (hz : w.frozen? a = false) : (callFunc 98 #[.pointer (some a), .int .u64 y]).run Tryz.prog w = .ok (.value (.tuple #[])) (w.setCell a (.int .u64 y)) := run_call_store Tryz.func98 (by kernel_rfl) (by kernel_rfl) (by kernel_rfl) (by kernel_rfl) hc hz
theorem aStore_c (b o : Nat) (l : List Value) (T : TypeId) (u : Value) (y : Int) (w : World) (hl : l[o]? = some u) (hs : Sat [[(b, .cells l.toArray T (0, 0))]] w) : Calls Tryz.prog 61 [.pointer (some ⟨b, o, none⟩), .int .u64 y].toArray w fun e w' => ∃ _u : Unit, True ∧ e = .returned (.tuple #[]) ∧ Hp ⟨w, V.ids [[(b, .cells l.toArray T (0, 0))]]⟩ [[(b, .cells (l.set o (.int .u64 y)).toArray T (0, 0))]] w' := by
  refine V.calls [[(b, .cells l.toArray T (0, 0))]] Tryz.func61 rfl Tryz.ntmps61 (Nat.le_of_ble_eq_true rfl) hs <| Rg <| Lv Mv <| Lv Nz <| Lv (Fa 0 29) <| Lv Mv <| Le (Eff.ext (l' := l.set o (.int .u64 y)) rfl .here rfl (fun w hb => x_store (V.cell_of_block hb (by exact hl)) (V.frozen_of hb))) fun _ _ => Nl <| PQ.end0 rfl ?_
  intro w' hw; exact ⟨(), trivial, rfl, hw⟩
theorem rdNew_c (w : World) : Calls Tryz.prog 82 [.int .i64 1].toArray w fun e w' => ∃ a : Nat, True ∧ e = .returned (.tuple #[.pointer (some ⟨a, 0, none⟩), .int .i64 0]) ∧ Below w.heap.size w w' := by
  refine V.calls [] Tryz.func82 rfl Tryz.ntmps82 (Nat.le_of_ble_eq_true rfl) (V.sat_nil _) <| Sq <| Rg <| Lv Av <| Lv Av <| Nl <| Ps <| Sq <| Sq <| Rg <| Lv Mv <| Lv Cm <| Lv Mv <| Lv Mv <| Lv Cm <| Lv Pf <| LW.re 10 (.bool false) rfl (by rfl) <| Nl <| Ps <| Cf <| Sk <| Ps <| Sq <| Rg <| Lv Mv <| Le (Eff.makeSlice (m := 1) (by_ := 8) rfl rfl Tryz.underlying198 (by kernel_rfl) Tryz.sizeOf121 (by exact Tryz.zeroValue121) rfl rfl (by omega) (by omega) (by omega)) fun b12 _ => Lv (Bd [_, _]) <| Le XA fun b14 _ => Lv Av <| Nl <| Ps <| Sq <| Rg <| Lv Mv <| Lv Nz <| Lv (Fa 0 121) <| Le (CM ([[(b14, .cells [.int .u64 0, .slice (some ⟨b12, 0, none⟩) 1 1].toArray 200 (0, 0))]]) fun w hw hs => aStore_c b14 0 [.int .u64 0, .slice (some ⟨b12, 0, none⟩) 1 1] 200 _ 1 w rfl hs) fun _ _ => Nl <| Ps <| Sq <| Rg <| Lv Mv <| Lv Av <| Lv Av <| Nl <| Ps <| Rt <| Rt2 ?_
  intro w' hw; exact ⟨b14, trivial, rfl, hw.below⟩
/-- A durability clock's cells. -/
def clkL (p : Value) : List Value := .int .u64 0 :: .int .u64 0 :: .int .u64 0 :: p :: (List.replicate 516 (.bool false) ++ [.nilFunc])
theorem zero_clk (w : World) : (zeroValue 204).run Tryz.prog w = .ok (.agg (clkL (.slice none 0 0)).toArray) w := (Tryz.zeroValue204 w).trans (by kernel_rfl)
theorem clNew_c (w : World) : Calls Tryz.prog 83 [.int .i64 1, .int .u64 0].toArray w fun e w' => ∃ a : Nat, True ∧ e = .returned (.tuple #[.pointer (some ⟨a, 0, none⟩), .int .i64 0]) ∧ Below w.heap.size w w' := by
  refine V.calls [] Tryz.func83 rfl Tryz.ntmps83 (Nat.le_of_ble_eq_true rfl) (V.sat_nil _) <| Sq <| Rg <| Lv Av <| Lv Av <| Nl <| Ps <| Sq <| Sq <| Rg <| Lv Mv <| Lv Cm <| Lv Mv <| Lv Mv <| Lv Cm <| LW.re 11 (.bool false) rfl (by rfl) <| Lv Pf <| Nl <| Ps <| Cf <| Sk <| Ps <| Sq <| Sq <| Rg <| Lv Mv <| Lv Cm <| LW.re 14 (.bool false) rfl (by rfl) <| Nl <| Ps <| Cf <| Sk <| Ps <| Sq <| Rg <| Lv Mv <| Le (Eff.makeSlice (m := 1) (by_ := 8) rfl rfl Tryz.underlying144 (by kernel_rfl) Tryz.sizeOf3 (by exact Tryz.zeroValue3) rfl rfl (by omega) (by omega) (by omega)) fun b16 _ => Lv (Val.build (clkL (.slice (some ⟨b16, 0, none⟩) 1 1)) zero_clk Tryz.underlying204 places204 rfl (by kernel_rfl)) <| Le XA fun b18 _ => Lv Av <| Nl <| Ps <| Sq <| Rg <| Lv Mv <| Lv Nz <| Lv (Fa 1 121) <| Lv Mv <| Le (CM ([[(b18, .cells (clkL (.slice (some ⟨b16, 0, none⟩) 1 1)).toArray 204 (0, 0))]]) fun w hw hs => aStore_c b18 1 (clkL (.slice (some ⟨b16, 0, none⟩) 1 1)) 204 _ 0 w rfl hs) fun _ _ => Nl <| Ps <| Sq <| Rg <| Lv Mv <| Lv Nz <| Lv (Fa 0 121) <| Lv Mv <| Lv Ar <| Le (CM ([[(b18, .cells ((clkL (.slice (some ⟨b16, 0, none⟩) 1 1)).set 1 (.int .u64 0)).toArray 204 (0, 0))]]) fun w hw hs => aStore_c b18 0 ((clkL (.slice (some ⟨b16, 0, none⟩) 1 1)).set 1 (.int .u64 0)) 204 _ 1 w rfl hs) fun _ _ => Nl <| Ps <| Sq <| Rg <| Lv Mv <| Lv Av <| Lv Av <| Nl <| Ps <| Rt <| Rt2 ?_
  intro w' hw; exact ⟨b18, trivial, rfl, hw.below⟩
theorem plNew_c (w : World) : Calls Tryz.prog 84 [.int .i64 1].toArray w fun e w' => ∃ a : Nat, True ∧ e = .returned (.tuple #[.pointer (some ⟨a, 0, none⟩), .int .i64 0]) ∧ Below w.heap.size w w' := by
  refine V.calls [] Tryz.func84 rfl Tryz.ntmps84 (Nat.le_of_ble_eq_true rfl) (V.sat_nil _) <| Sq <| Rg <| Lv Av <| Lv Av <| Nl <| Ps <| Sq <| Sq <| Rg <| Lv Mv <| Lv Cm <| Lv Mv <| Lv Mv <| Le (CV fun w hw => slabs_c 258 (by omega) w) fun _ _ => Lv Cm <| Lv Pf <| LW.re 12 (.bool false) rfl (by rfl) <| Nl <| Ps <| Cf <| Sk <| Ps <| Sq <| Rg <| Lv Mv <| Le (Eff.makeSlice (m := 1) (by_ := 24) rfl rfl Tryz.underlying163 (by kernel_rfl) Tryz.sizeOf168 (by exact Tryz.zeroValue168) rfl rfl (by omega) (by omega) (by omega)) fun b14 _ => Lv (Bd [_]) <| Le XA fun b16 _ => Lv Av <| Nl <| Ps <| Sq <| Sq <| Rg <| Lv Mv <| Lv Nz <| Lv (Fa 0 163) <| Lv Ld <| Lv Ln <| Lv Mv <| Nl <| Ps <| Bk <| CW.loopU 1 <| Sq <| Rg <| Lv Cm <| Nl <| Ps <| Sq <| Ct <| Sk <| Ps <| Sq <| Bk <| Sq <| Rg <| Lv Mv <| Lv Av <| Nl <| Ps <| Rg <| Lv Mv <| Lv Nz <| Lv (Fa 0 163) <| Lv Ld <| Lv Mv <| Lv (Val.indexAddrN (i := 0) rfl rfl Tryz.underlying163 Tryz.sizeOf168 (by decide)) <| Lv (Fa 0 3) <| LeN StS fun _ _ => Nl <| Bn <| Ps <| Rg <| Lv Ar <| Lv Mv <| Nl <| PQ.next <| Sq <| Rg <| Lv Cm <| Nl <| Ps <| Sq <| Cf <| Xt <| Te <| Te <| Bh <| Ps <| Sq <| Rg <| Lv Mv <| Lv Av <| Lv Av <| Nl <| Ps <| Rt <| Rt2 ?_
  intro w' hw; exact ⟨b16, trivial, rfl, hw.below⟩
theorem lbNew_c (w : World) : Calls Tryz.prog 85 [].toArray w fun e w' => ∃ a : Nat, True ∧ e = .returned (.pointer (some ⟨a, 0, none⟩)) ∧ Below w.heap.size w w' := by
  refine V.calls [] Tryz.func85 rfl Tryz.ntmps85 (Nat.le_of_ble_eq_true rfl) (V.sat_nil _) <| Sq <| Rg <| Lv Av <| Nl <| Ps <| Sq <| Rg <| Lv (Bd [_]) <| Le XA fun b2 _ => Lv Av <| Nl <| Ps <| Rt <| Rt1 ?_
  intro w' hw; exact ⟨b2, trivial, rfl, hw.below⟩
theorem orNew_c (w : World) : Calls Tryz.prog 87 [].toArray w fun e w' => ∃ a : Nat, True ∧ e = .returned (.pointer (some ⟨a, 0, none⟩)) ∧ Below w.heap.size w w' := by
  refine V.calls [] Tryz.func87 rfl Tryz.ntmps87 (Nat.le_of_ble_eq_true rfl) (V.sat_nil _) <| Sq <| Rg <| Lv Av <| Nl <| Ps <| Sq <| Rg <| Lv (Bd [_, _, _, _]) <| Le XA fun b2 _ => Lv Av <| Nl <| Ps <| Rt <| Rt1 ?_
  intro w' hw; exact ⟨b2, trivial, rfl, hw.below⟩
theorem ffNew_c (w : World) : Calls Tryz.prog 88 [].toArray w fun e w' => ∃ a : Nat, True ∧ e = .returned (.pointer (some ⟨a, 0, none⟩)) ∧ Below w.heap.size w w' := by
  refine V.calls [] Tryz.func88 rfl Tryz.ntmps88 (Nat.le_of_ble_eq_true rfl) (V.sat_nil _) <| Sq <| Rg <| Lv Av <| Nl <| Ps <| Sq <| Rg <| Lv (Bd [_, _, _]) <| Le XA fun b2 _ => Lv Av <| Nl <| Ps <| Rt <| Rt1 ?_
  intro w' hw; exact ⟨b2, trivial, rfl, hw.below⟩
theorem tbNew_c (w : World) : Calls Tryz.prog 86 [].toArray w fun e w' => ∃ a : Nat, True ∧ e = .returned (.pointer (some ⟨a, 0, none⟩)) ∧ Below w.heap.size w w' := by
  refine V.calls [] Tryz.func86 rfl Tryz.ntmps86 (Nat.le_of_ble_eq_true rfl) (V.sat_nil _) <| Sq <| Rg <| Lv Av <| Nl <| Ps <| Sq <| Rg <| Lv (Bd [_, _, _, _, _, _, _, _]) <| Le XA fun b4 _ => Lv Av <| Nl <| Ps <| Sq <| Sq <| Rg <| Lv Mv <| Nl <| Ps <| Bk <| CW.loopU 8 <| Sq <| Rg <| Lv Cm <| Nl <| Ps <| Sq <| Ct <| Sk <| Ps <| Sq <| Bk <| Sq <| Rg <| Lv Mv <| Lv Av <| Nl <| Ps <| Rg <| Lv Mv <| Lv Mv <| Le (Eff.makeMap) fun b10 _ => Lv Nz <| Lv (Fa 0 208) <| Lv (Val.indexAddrA (i := 0) rfl rfl Tryz.underlying208 Tryz.sizeOf173 (by decide)) <| LeN StS fun _ _ => Nl <| Bn <| Ps <| Rg <| Lv Ar <| Lv Mv <| Nl <| PQ.next <| Sq <| Rg <| Lv Cm <| Nl <| Ps <| Sq <| Ct <| Sk <| Ps <| Sq <| Bk <| Sq <| Rg <| Lv Mv <| Lv Av <| Nl <| Ps <| Rg <| Lv Mv <| Lv Mv <| Le (Eff.makeMap) fun b10 _ => Lv Nz <| Lv (Fa 0 208) <| Lv (Val.indexAddrA (i := 1) rfl rfl Tryz.underlying208 Tryz.sizeOf173 (by decide)) <| LeN StS fun _ _ => Nl <| Bn <| Ps <| Rg <| Lv Ar <| Lv Mv <| Nl <| PQ.next <| Sq <| Rg <| Lv Cm <| Nl <| Ps <| Sq <| Ct <| Sk <| Ps <| Sq <| Bk <| Sq <| Rg <| Lv Mv <| Lv Av <| Nl <| Ps <| Rg <| Lv Mv <| Lv Mv <| Le (Eff.makeMap) fun b10 _ => Lv Nz <| Lv (Fa 0 208) <| Lv (Val.indexAddrA (i := 2) rfl rfl Tryz.underlying208 Tryz.sizeOf173 (by decide)) <| LeN StS fun _ _ => Nl <| Bn <| Ps <| Rg <| Lv Ar <| Lv Mv <| Nl <| PQ.next <| Sq <| Rg <| Lv Cm <| Nl <| Ps <| Sq <| Ct <| Sk <| Ps <| Sq <| Bk <| Sq <| Rg <| Lv Mv <| Lv Av <| Nl <| Ps <| Rg <| Lv Mv <| Lv Mv <| Le (Eff.makeMap) fun b10 _ => Lv Nz <| Lv (Fa 0 208) <| Lv (Val.indexAddrA (i := 3) rfl rfl Tryz.underlying208 Tryz.sizeOf173 (by decide)) <| LeN StS fun _ _ => Nl <| Bn <| Ps <| Rg <| Lv Ar <| Lv Mv <| Nl <| PQ.next <| Sq <| Rg <| Lv Cm <| Nl <| Ps <| Sq <| Ct <| Sk <| Ps <| Sq <| Bk <| Sq <| Rg <| Lv Mv <| Lv Av <| Nl <| Ps <| Rg <| Lv Mv <| Lv Mv <| Le (Eff.makeMap) fun b10 _ => Lv Nz <| Lv (Fa 0 208) <| Lv (Val.indexAddrA (i := 4) rfl rfl Tryz.underlying208 Tryz.sizeOf173 (by decide)) <| LeN StS fun _ _ => Nl <| Bn <| Ps <| Rg <| Lv Ar <| Lv Mv <| Nl <| PQ.next <| Sq <| Rg <| Lv Cm <| Nl <| Ps <| Sq <| Ct <| Sk <| Ps <| Sq <| Bk <| Sq <| Rg <| Lv Mv <| Lv Av <| Nl <| Ps <| Rg <| Lv Mv <| Lv Mv <| Le (Eff.makeMap) fun b10 _ => Lv Nz <| Lv (Fa 0 208) <| Lv (Val.indexAddrA (i := 5) rfl rfl Tryz.underlying208 Tryz.sizeOf173 (by decide)) <| LeN StS fun _ _ => Nl <| Bn <| Ps <| Rg <| Lv Ar <| Lv Mv <| Nl <| PQ.next <| Sq <| Rg <| Lv Cm <| Nl <| Ps <| Sq <| Ct <| Sk <| Ps <| Sq <| Bk <| Sq <| Rg <| Lv Mv <| Lv Av <| Nl <| Ps <| Rg <| Lv Mv <| Lv Mv <| Le (Eff.makeMap) ?_
  intro b10 _
  refine Lv Nz <| Lv (Fa 0 208) <| Lv (Val.indexAddrA (i := 6) rfl rfl Tryz.underlying208 Tryz.sizeOf173 (by decide)) <| LeN StS fun _ _ => Nl <| Bn <| Ps <| Rg <| Lv Ar <| Lv Mv <| Nl <| PQ.next <| Sq <| Rg <| Lv Cm <| Nl <| Ps <| Sq <| Ct <| Sk <| Ps <| Sq <| Bk <| Sq <| Rg <| Lv Mv <| Lv Av <| Nl <| Ps <| Rg <| Lv Mv <| Lv Mv <| Le (Eff.makeMap) fun b10 _ => Lv Nz <| Lv (Fa 0 208) <| Lv (Val.indexAddrA (i := 7) rfl rfl Tryz.underlying208 Tryz.sizeOf173 (by decide)) <| LeN StS fun _ _ => Nl <| Bn <| Ps <| Rg <| Lv Ar <| Lv Mv <| Nl <| PQ.next <| Sq <| Rg <| Lv Cm <| Nl <| Ps <| Sq <| Cf <| Xt <| Te <| Te <| Bh <| Ps <| Sq <| Rg <| Lv Mv <| Lv Av <| Nl <| Ps <| Rt <| Rt1 ?_
  intro w' hw; exact ⟨b4, trivial, rfl, hw.below⟩
end Go.Proofs.YtjgpnldffhlaoaaGreat
