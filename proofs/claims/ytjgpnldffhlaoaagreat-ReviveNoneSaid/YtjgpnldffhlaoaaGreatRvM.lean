/- ReviveNone. -/
import Derived.Test.YtjgpnldffhlaoaaGreatRvL
import Derived.Lib.Hide
namespace Go.Proofs.YtjgpnldffhlaoaaGreat
open Go Go.RowKit V
set_option linter.unusedVariables false
set_option maxRecDepth 100000
instance : Und Tryz.prog 71 (dOf Tryz.underlying71) := ⟨Tryz.underlying71⟩
instance : Siz Tryz.prog 71 (kOf Tryz.sizeOf71) := ⟨Tryz.sizeOf71⟩
instance : AgF Tryz.prog 71 := ⟨Tryz.isAgg71⟩
instance : Zer Tryz.prog 71 (zOf Tryz.zeroValue71) := ⟨Tryz.zeroValue71⟩
instance : Cal Tryz.prog 7 := ⟨Tryz.call7⟩
instance : Cal Tryz.prog 8 := ⟨Tryz.call8⟩
instance : Cal Tryz.prog 11 := ⟨Tryz.call11⟩
instance : Cal Tryz.prog 13 := ⟨Tryz.call13⟩
open V (str byC ownV ownG ownS ownOk)
theorem u64_nonneg (a : Int) : 0 ≤ IntKind.u64.wrap a := by
  have h := Int.emod_nonneg a (show (18446744073709551616 : Int) ≠ 0 by decide)
  have e : IntKind.u64.wrap a = a % 18446744073709551616 := by first | rfl | (simp [IntKind.wrap]; done) | (unfold IntKind.wrap; rfl)
  rw [e]; exact h
theorem low_c (a m : Int) (hm : 0 < m ∧ m ≤ 1000) (w : World) : Calls Tryz.prog 11 [.int .i64 a, .int .i64 m].toArray w fun e w' => ∃ v : Nat, v < m ∧ e = .returned (.int .i64 (v : Nat)) ∧ Below w.heap.size w w' := by
  have hm1 : IntKind.u64.wrap m = m := IntWalk.u64_in _ (by omega)
  have h0 := u64_nonneg a
  refine V.calls [] Tryz.func11 rfl Tryz.ntmps11 (Nat.le_of_ble_eq_true rfl) (V.sat_nil _) <| Sq <| Rg <| Lv Av <| Nl <| Ps <| Sq <| Rg <| Lv Mv <| Lv Cv <| Lv Mv <| Lv Cv <| LW.re 8 (.int .u64 m) rfl (by rw [hm1]) <| Lv (Val.rem rfl rfl (by omega)) <| Lv Cv <| Lv Av <| Nl <| Ps <| Rt <| Rt1 fun w' hw => ?_
  have h1 : 0 ≤ (IntKind.u64.wrap a).tmod m := Int.tmod_nonneg m h0
  have h2 : (IntKind.u64.wrap a).tmod m < m := Int.tmod_lt_of_pos _ hm.1
  refine ⟨((IntKind.u64.wrap a).tmod m).toNat, by omega, ?_, hw.below⟩
  have h3 : IntKind.i64.wrap ((IntKind.u64.wrap a).tmod m) = (((IntKind.u64.wrap a).tmod m).toNat : Nat) := by rw [IntWalk.i64_in _ (by omega)]; omega
  rw [← h3]
theorem reviveNone_c (a0 a1 : Int) (w : World) : Calls Tryz.prog 3 [.int .i64 a0, .int .i64 a1].toArray w fun e w' => e = .returned (.bool true) ∧ Below w.heap.size w w' := by
  refine V.calls [] Tryz.func3 rfl Tryz.ntmps3 (Nat.le_of_ble_eq_true rfl) (V.sat_nil _) <| Sq <| Rg <| Lv Av <| Nl <| Ps <| Sq <| Rg <| Lv Av <| Nl <| Ps <| Sq <| Rg <| Lv Mv <| Le (CV fun w hw => arenaN_c w) fun _ _ => Lv Mv <| Lv Ex <| Lv Ex <| Lv Av <| Lv Av <| Nl <| Ps <| Sq <| Rg <| Lv Mv <| Le (CV fun w hw => phaseN_c w) fun _ _ => Lv Cm <| Lv Mv <| Lv Mv <| Le (CV fun w hw => stepN_c w) fun _ _ => Lv Cm <| Lv Pt <| Lv Mv <| Lv Mv <| Le (CV fun w hw => epochN_c w) fun _ _ => Lv Cm <| Lv Pt <| Lv Mv <| Lv Mv <| Le (CV fun w hw => foundN_c w) fun _ _ => Lv Ln <| Lv Cm <| Lv Pt <| Lv Mv <| Lv Mv <| Le (CV fun w hw => keptN_c w) fun _ _ => Lv Ln <| Lv Cm <| Lv Pt <| Lv Mv <| Lv Mv <| Lv EP0 <| Lv Pt <| Lv Mv <| Lv Mv <| Lv Nt <| Lv Pt <| Lv Av <| Nl <| Ps <| Sq <| Rg <| Lv Mv <| Le (CR fun w hw => low_c a1 40 (by omega) w) fun m1 hm1 => Lv Ar <| LW.re 54 (.int .i64 ((m1 + 1 : Nat) : Int)) rfl (by first | rfl | (congr 1; omega)) <| Le (CM [] fun w hw hs => newDev_c (m1 + 1) (by omega) (by omega) w) fun p _ => Lv Mv <| Lv Ex <| Lv Ex <| Lv Av <| Lv Av <| Nl <| Ps <| Sq <| Sq <| Rg <| Lv Mv <| Lv Cm <| Lv Mv <| Lv Mv <| Lv Nt <| Lv Pf <| Nl <| Ps <| Cf <| Sk <| Ps <| Sq <| Rg <| Lv Mv <| Lv Mv <| Le (CR fun w hw => low_c a0 4 (by omega) w) fun m2 hm2 => Lv Ar <| LW.re 68 (.int .i64 ((m2 + 1 : Nat) : Int)) rfl (by first | rfl | (congr 1; omega)) <| Le (CM [] fun w hw hs => rnew_c p.1 ((m2 + 1 : Nat) : Int) (by omega) w) fun rb _ => Lv Mv <| Lv Ex <| Lv Ex <| Lv Av <| Lv Av <| Nl <| Ps <| Sq <| Sq <| Rg <| Lv Mv <| Lv Cm <| Lv Mv <| Lv Mv <| Lv EP <| Lv Pf <| Lv Mv <| Lv Mv <| Le (CV fun w hw => phase_c rb p.1 ((m2 + 1 : Nat) : Int) 0 0 0 0 0 (.pointer none) 0 w hw.pk.sat) fun _ _ => Lv Cm <| Lv Pf <| Nl <| Ps <| Cf <| Sk <| Ps <| Sq <| Rg <| Lv Mv ?_
  refine LW.e rfl rfl (Eff.callM (([rvO rb p.1 ((m2 + 1 : Nat) : Int) 0 0 0 0 0 (.pointer none) 0] :: devS p.1 p.2 (List.replicate (m1 + 1) ce0) ct0)) (by repeat (first | exact .nil | apply Pick.cons | exact .here | apply Ext.there)) rfl Tryz.call6 (fun w hw hs => st_bad rb p.1 p.2 ct0 (List.replicate (m1 + 1) ce0) ((m2 + 1 : Nat) : Int) ce0 (by rw [List.getElem?_replicate, if_pos (by omega)]) z_super (by rw [List.length_replicate]; omega) w hs)) ?_
  intro _ _
  refine Lv Cm <| Lv Mv <| Lv Mv <| Le (CV fun w hw => phase_c rb p.1 ((m2 + 1 : Nat) : Int) 7 0 0 0 0 (.pointer none) 0 w hw.pk.sat) fun _ _ => Lv Cm <| Lv Pt <| Lv Mv <| Lv Mv <| Le (CV fun w hw => st_idle rb p.1 ((m2 + 1 : Nat) : Int) 0 0 0 0 (.pointer none) 0 w hw.pk.sat) fun _ _ => Lv Cm <| Lv Pt <| Lv Mv <| Le (CV fun w hw => awake_c w) fun _ _ => Lv Pt <| Lv Av <| Nl <| Ps <| Rt <| Rt1 ?_
  intro w' hw; exact ⟨rfl, hw.below⟩
end Go.Proofs.YtjgpnldffhlaoaaGreat
