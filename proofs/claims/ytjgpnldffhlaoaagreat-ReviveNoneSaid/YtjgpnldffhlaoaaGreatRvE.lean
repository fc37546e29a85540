/- A device's lines: superblock and clock, told and found; a device made ready. -/
import Derived.Test.YtjgpnldffhlaoaaGreatRvD
import Derived.Lib.Hide
namespace Go.Proofs.YtjgpnldffhlaoaaGreat
open Go Go.RowKit V
set_option linter.unusedVariables false
set_option maxRecDepth 100000
instance : Cal Tryz.prog 42 := ⟨Tryz.call42⟩
instance : Cal Tryz.prog 45 := ⟨Tryz.call45⟩
instance : Cal Tryz.prog 71 := ⟨Tryz.call71⟩
instance : Cal Tryz.prog 73 := ⟨Tryz.call73⟩
instance : Cal Tryz.prog 74 := ⟨Tryz.call74⟩
open V (str byC ownV ownG ownS ownOk)
def supBase : List UInt8 := [4, 70, 85, 83, 69, 0, 0, 0, 0]
def clkBase : List UInt8 := [3, 0, 0, 0, 0, 0, 0, 0, 0]
def superL (x : Int) : List UInt8 := sealL (putN supBase 5 (IntKind.u64.wrap x) 4)
def clockL (v : Int) : List UInt8 := sealL (putN clkBase 1 v 8)
theorem superL_len (x : Int) : (superL x).length = 64 := sealL_len (by rw [putN_len]; decide)
theorem clockL_len (x : Int) : (clockL x).length = 64 := sealL_len (by rw [putN_len]; decide)
def superB (x : Int) : B64 := ⟨superL x, superL_len x⟩
def clockB (x : Int) : B64 := ⟨clockL x, clockL_len x⟩
theorem fit8 (v : Int) : fitB v 8 = true := by unfold fitB; simp
theorem fit_sm {x : Int} (h : 0 ≤ x ∧ x ≤ 258) : fitB (IntKind.u64.wrap x) 4 = true := by
  rw [IntWalk.u64_in _ (by omega)]
  unfold fitB
  have e : (2 : Int) ^ (min ((8 : Int) * ((4 : Nat) : Int)).toNat IntKind.u64.bits) = 4294967296 := by decide
  have h2 : x.fdiv 4294967296 = 0 := by rw [Int.fdiv_eq_ediv_of_nonneg _ (by omega)]; omega
  rw [e, h2]
  simp
theorem super_c (x : Int) (hx : 0 ≤ x ∧ x ≤ 258) (w : World) : Calls Tryz.prog 42 [.int .i64 x].toArray w fun e w' => e = .returned (.agg (byC (superL x)).toArray) ∧ Below w.heap.size w w' := by
  refine V.calls [] Tryz.func42 rfl Tryz.ntmps42 (Nat.le_of_ble_eq_true rfl) (V.sat_nil _) <| Sq <| Rg <| Le (AA (l := byC z64.1) (hz := by exact Tryz.zeroValue91)) fun b2 _ => Nl <| Ps <| Sq <| Rg <| Le (Eff.buildSlice rfl (byC supBase) Tryz.underlying73 Tryz.sizeOf5 (by exact Tryz.zeroValue5) rfl rfl rfl rfl (by rfl)) fun b6 _ => Lv Mv <| Lv Cv <| Le (CM [] fun w hw hs0 => put_c supBase _ 9 5 4 (IntKind.u64.wrap x) (by decide) (by decide) (by decide) w (V.slAt_flat (r := []) hw byE_len (by rfl) (show InS (b6, .cells (byC supBase).toArray 5 (0, 0)) _ from (by repeat (first | exact .here | exact .inner .here | exact .inner (.inner .here) | refine .there ?_))))) fun o ho => ?_
  rw [putR_fit (fit_sm hx), fit_sm hx] at *
  obtain ⟨gb, rest, cap, rfl⟩ := some_of ho (by rw [putN_len]; decide)
  refine Lv Mv <| Lv Ex <| Lv Ex <| Lv Av <| LW.re 3 (.slice (some ⟨gb, 0, none⟩) (putN supBase 5 (IntKind.u64.wrap x) 4).length cap) rfl (by rfl) <| Lv Av <| Nl <| Ps <| Sq <| Rg <| Lv Mv <| Le (CV fun w hw => sealed_c (putN supBase 5 (IntKind.u64.wrap x) 4) _ cap (by rw [putN_len]; decide) (by rw [putN_len]; decide) w (V.slAt_flat hw byE_len rfl (show InS (gb, .cells ((putN supBase 5 (IntKind.u64.wrap x) 4).flatMap byE ++ rest).toArray 5 (0, 0)) _ from (by repeat (first | exact .here | exact .inner .here | exact .inner (.inner .here) | refine .there ?_))))) fun _ _ => LeN (StW (cs := byC (superL x)) (hlen := by rw [V.byC_len (superL x), superL_len]; exact byC64 z64) (hs := by rw [V.byC_len, superL_len]; exact Tryz.sizeOf91) (h1 := V.byC_one _)) fun _ _ => Nl <| Ps <| Rt <| V.PQ.retC (l := byC (superL x)) rfl rfl (by repeat (first | exact .here | exact .inner .here | exact .inner (.inner .here) | refine .there ?_)) Tryz.isAgg91 (by rw [V.byC_len, superL_len]; exact Tryz.sizeOf91) ?_
  intro w' hw; exact ⟨rfl, hw.below⟩
theorem clock_c (x : Int)  (w : World) : Calls Tryz.prog 45 [.int .u64 x].toArray w fun e w' => e = .returned (.agg (byC (clockL x)).toArray) ∧ Below w.heap.size w w' := by
  refine V.calls [] Tryz.func45 rfl Tryz.ntmps45 (Nat.le_of_ble_eq_true rfl) (V.sat_nil _) <| Sq <| Rg <| Le (AA (l := byC z64.1) (hz := by exact Tryz.zeroValue91)) fun b2 _ => Nl <| Ps <| Sq <| Rg <| Le (Eff.buildSlice rfl (byC clkBase) Tryz.underlying73 Tryz.sizeOf5 (by exact Tryz.zeroValue5) rfl rfl rfl rfl (by rfl)) fun b6 _ => Lv Mv <| Le (CM [] fun w hw hs0 => put_c clkBase _ 9 1 8 x (by decide) (by decide) (by decide) w (V.slAt_flat (r := []) hw byE_len (by rfl) (show InS (b6, .cells (byC clkBase).toArray 5 (0, 0)) _ from (by repeat (first | exact .here | exact .inner .here | exact .inner (.inner .here) | refine .there ?_))))) fun o ho => ?_
  rw [putR_fit (fit8 x), fit8 x] at *
  obtain ⟨gb, rest, cap, rfl⟩ := some_of ho (by rw [putN_len]; decide)
  refine Lv Mv <| Lv Ex <| Lv Ex <| Lv Av <| LW.re 3 (.slice (some ⟨gb, 0, none⟩) (putN clkBase 1 x 8).length cap) rfl (by rfl) <| Lv Av <| Nl <| Ps <| Sq <| Rg <| Lv Mv <| Le (CV fun w hw => sealed_c (putN clkBase 1 x 8) _ cap (by rw [putN_len]; decide) (by rw [putN_len]; decide) w (V.slAt_flat hw byE_len rfl (show InS (gb, .cells ((putN clkBase 1 x 8).flatMap byE ++ rest).toArray 5 (0, 0)) _ from (by repeat (first | exact .here | exact .inner .here | exact .inner (.inner .here) | refine .there ?_))))) fun _ _ => LeN (StW (cs := byC (clockL x)) (hlen := by rw [V.byC_len (clockL x), clockL_len]; exact byC64 z64) (hs := by rw [V.byC_len, clockL_len]; exact Tryz.sizeOf91) (h1 := V.byC_one _)) fun _ _ => Nl <| Ps <| Rt <| V.PQ.retC (l := byC (clockL x)) rfl rfl (by repeat (first | exact .here | exact .inner .here | exact .inner (.inner .here) | refine .there ?_)) Tryz.isAgg91 (by rw [V.byC_len, clockL_len]; exact Tryz.sizeOf91) ?_
  intro w' hw; exact ⟨rfl, hw.below⟩
theorem Super_c (n : Nat) (h : 10 ≤ n ∧ n ≤ 258) (w : World) : Calls Tryz.prog 23 [.int .i64 (n : Nat)].toArray w fun e w' => ∃ b : Nat, True ∧ e = .returned (.tuple #[.slice (some ⟨b, 0, none⟩) 64 64, .int .i64 0]) ∧ Hp ⟨w, []⟩ [[(b, .cells (byC (superL (n : Nat))).toArray 91 (0, 0))]] w' := by
  refine V.calls [] Tryz.func23 rfl Tryz.ntmps23 (Nat.le_of_ble_eq_true rfl) (V.sat_nil _) <| Sq <| Rg <| Lv Av <| Lv Av <| Nl <| Ps <| Sq <| Sq <| Rg <| Lv Mv <| Lv Cm <| LW.re 6 (.bool false) rfl (by simp <;> omega) <| Lv Mv <| Lv Mv <| Lv Cm <| LW.re 9 (.bool false) rfl (by simp <;> omega) <| Lv Pf <| Nl <| Ps <| Cf <| Sk <| Ps <| Sq <| Rg <| Lv Mv <| Le (CV fun w hw => super_c (n : Nat) (by omega) w) fun _ _ => Le (AA (l := byC z64.1) (hz := by exact Tryz.zeroValue91)) fun b4 _ => LeN (StW (cs := byC (superL (n : Nat))) (hlen := by rw [V.byC_len (superL (n : Nat)), superL_len]; exact byC64 z64) (hs := by rw [V.byC_len, superL_len]; exact Tryz.sizeOf91) (h1 := V.byC_one _)) fun _ _ => Nl <| Ps <| Sq <| Rg <| Lv (Val.sliceArr 0 64 rfl Tryz.underlying91 Tryz.sizeOf5 rfl rfl (by omega) (by omega)) <| LW.re 13 (.slice (some ⟨b4, 0, none⟩) 64 64) rfl (by simp) <| Lv Av <| Lv Av <| Nl <| Ps <| Rt <| Rt2 ?_
  intro w' hw; exact ⟨b4, trivial, rfl, hw.pick (by repeat (first | exact .nil | apply Pick.cons | exact .here | apply Ext.there))⟩
theorem Clock_c (v : Int) (w : World) : Calls Tryz.prog 26 [.int .u64 v].toArray w fun e w' => ∃ b : Nat, True ∧ e = .returned (.slice (some ⟨b, 0, none⟩) 64 64) ∧ Hp ⟨w, []⟩ [[(b, .cells (byC (clockL v)).toArray 91 (0, 0))]] w' := by
  refine V.calls [] Tryz.func26 rfl Tryz.ntmps26 (Nat.le_of_ble_eq_true rfl) (V.sat_nil _) <| Sq <| Rg <| Lv Av <| Nl <| Ps <| Sq <| Rg <| Lv Mv <| Le (CV fun w hw => clock_c v w) fun _ _ => Le (AA (l := byC z64.1) (hz := by exact Tryz.zeroValue91)) fun b3 _ => LeN (StW (cs := byC (clockL v)) (hlen := by rw [V.byC_len (clockL v), clockL_len]; exact byC64 z64) (hs := by rw [V.byC_len, clockL_len]; exact Tryz.sizeOf91) (h1 := V.byC_one _)) fun _ _ => Nl <| Ps <| Sq <| Rg <| Lv (Val.sliceArr 0 64 rfl Tryz.underlying91 Tryz.sizeOf5 rfl rfl (by omega) (by omega)) <| LW.re 6 (.slice (some ⟨b3, 0, none⟩) 64 64) rfl (by simp) <| Lv Av <| Nl <| Ps <| Rt <| Rt1 ?_
  intro w' hw; exact ⟨b3, trivial, rfl, hw.pick (by repeat (first | exact .nil | apply Pick.cons | exact .here | apply Ext.there))⟩
theorem whole_c (b : B64) (p : Option Addr) (cp : Nat) (w : World) (hp : V.slAt w p 1 byE b.1) : Calls Tryz.prog 73 [.slice p 64 cp].toArray w fun e w' => e = .returned (.tuple #[.agg (byC b.1).toArray, .bool true]) ∧ Below w.heap.size w w' := by
  obtain ⟨pb, po, rfl, hpr⟩ := sl_range (F := []) byE_len hp (by rw [b.2]; omega) (by simp)
  have hpb : pb < w.heap.size := by
    rcases hp with h8 | ⟨b2, o2, h8, h9, _⟩
    · have := b.2; rw [h8] at this; simp at this
    · simp only [Option.some.injEq, Addr.mk.injEq] at h8; obtain ⟨rfl, _⟩ := h8; exact h9
  refine V.calls [] Tryz.func73 rfl Tryz.ntmps73 (Nat.le_of_ble_eq_true rfl) (V.sat_nil _) <| Sq <| Rg <| Le (AA (l := byC z64.1) (hz := by exact Tryz.zeroValue91)) fun b2 _ => Lv Av <| Nl <| Ps <| Sq <| Sq <| Rg <| Lv Mv <| Lv Ln <| Lv Cm <| LW.re 6 (.bool false) rfl (by rfl) <| Nl <| Ps <| Cf <| Sk <| Ps <| Sq <| Rg <| Lv Mv <| Lv (Val.arrPtr rfl Tryz.underlying91 (Nat.le_refl _)) <| Lv (Val.loadOA (cs := byC b.1) rfl Tryz.isAgg91 hpb (by simp [ids]) (by rw [byC_flat]; exact hpr w (V.hp_none w)) (by rw [V.byC_len, b.2]; exact Tryz.sizeOf91)) <| LeN (StW (cs := byC b.1) (hlen := by rw [byC64, byC64]) (hs := by rw [byC64]; exact Tryz.sizeOf91) (h1 := V.byC_one _)) fun _ _ => Lv Av <| Nl <| Ps <| Rt <| V.PQ.retCT (l := byC b.1) rfl rfl rfl (by repeat (first | exact .here | exact .inner .here | exact .inner (.inner .here) | refine .there ?_)) Tryz.isAgg91 (by rw [byC64]; exact Tryz.sizeOf91) ?_
  intro w' hw; exact ⟨rfl, hw.below⟩
def isSuperF (b : B64) : Int × Bool := if getN b.1 5 4 < 10 ∨ 258 < getN b.1 5 4 then (0, false) else if b.1 = superL (IntKind.i64.wrap (getN b.1 5 4)) then (IntKind.i64.wrap (getN b.1 5 4), true) else (0, false)
def isClockF (b : B64) : Int × Bool := if b.1 = clockL (getN b.1 1 8) then (getN b.1 1 8, true) else (0, false)
theorem isSuper_c (b : B64) (p : Option Addr) (cp : Nat) (w : World) (hp : V.slAt w p 1 byE b.1) : Calls Tryz.prog 46 [.slice p 64 cp].toArray w fun e w' => e = .returned (.tuple #[.int .i64 (isSuperF b).1, .bool (isSuperF b).2]) ∧ Below w.heap.size w w' := by
  refine V.calls [] Tryz.func46 rfl Tryz.ntmps46 (Nat.le_of_ble_eq_true rfl) (V.sat_nil _) <| Sq <| Rg <| Lv Av <| Lv Av <| Nl <| Ps <| Sq <| Rg <| Lv Mv <| Le (CV fun w hw => whole_c b p cp w (hw.slAt hp (by simp [ids]))) fun _ _ => Lv Mv <| Lv Ex <| Lv Ex <| Le (AA (l := byC z64.1) (hz := by exact Tryz.zeroValue91)) fun b4 _ => LeN (StW (cs := byC b.1) (hlen := by rw [byC64, byC64]) (hs := by rw [byC64]; exact Tryz.sizeOf91) (h1 := V.byC_one _)) fun _ _ => Lv Av <| Nl <| Ps <| Sq <| Sq <| Rg <| Lv Mv <| Lv Nt <| LW.re 14 (.bool false) rfl (by rfl) <| Nl <| Ps <| Cf <| Sk <| Ps <| Sq <| Rg <| Lv Mv <| Le (CV fun w hw => (by have h8 := get_c b.1 p cp 5 4 (by omega) (by rw [b.2]; omega) (by rw [b.2]; omega) w (hw.slAt hp (by simp [ids])); rw [b.2] at h8; exact h8)) fun _ _ => Lv Mv <| Lv Ex <| Lv Ex <| Lv Av <| Lv Av <| Nl <| Ps <| Sq <| Sq <| Qt <| Qv Mv <| Qv Cm <| Qv Mv ?_
  refine QW.split (d := 22) rfl (fun h22 => ?_) (fun h22 => ?_)
  · replace h22 := bT h22
    have h22 : getN b.1 5 4 < 10 := h22
    refine Qp <| Qp <| Qv Pt <| Qv Mv <| Qp <| Qp <| Qp <| Qp <| Qp <| Qv Pt <| Ql <| Ps <| Ct <| Sq <| Rg <| Lv Av <| Lv Av <| Nl <| Ps <| Rt <| Tr <| Rt2 ?_
    have e8 : isSuperF b = (0, false) := by
      unfold isSuperF
      rw [if_pos (by omega)]
    rw [e8]
    intro w' hw; exact ⟨rfl, hw.below⟩
  · replace h22 := bF h22
    have h22 : 10 ≤ getN b.1 5 4 := h22
    refine Qv Mv <| Qv Cm <| Qv Pf <| Qv Mv ?_
    refine QW.split (d := 26) rfl (fun h26 => ?_) (fun h26 => ?_)
    · replace h26 := bT h26
      have h26 : 258 < getN b.1 5 4 := h26
      refine Qp <| Qp <| Qp <| Qp <| Qp <| Qv Pt <| Ql <| Ps <| Ct <| Sq <| Rg <| Lv Av <| Lv Av <| Nl <| Ps <| Rt <| Tr <| Rt2 ?_
      have e8 : isSuperF b = (0, false) := by
        unfold isSuperF
        rw [if_pos (by omega)]
      rw [e8]
      intro w' hw; exact ⟨rfl, hw.below⟩
    · replace h26 := bF h26
      have h26 : getN b.1 5 4 ≤ 258 := h26
      refine Qv (Lw (l := byC b.1) (hs := by rw [byC64]; exact Tryz.sizeOf91)) <| Qv Mv <| Qv Cv <| Qc (QV fun w hw => super_c (IntKind.i64.wrap (getN b.1 5 4)) (by rw [IntWalk.i64_in _ (by omega)]; omega) w) <| Qv (Val.neBy (a := b.1) (b := superL (IntKind.i64.wrap (getN b.1 5 4))) rfl rfl (by kernel_rfl) Tryz.underlying91 Tryz.underlying5 Tryz.sizeOf5 b.2 (superL_len _)) <| Qv Pf <| Ql <| Ps ?_
      refine CW.cond rfl (fun h32 => ?_) (fun h32 => ?_)
      · replace h32 := bT h32
        have h32 : ¬ b.1 = superL (IntKind.i64.wrap (getN b.1 5 4)) := by simpa using h32
        refine Sq <| Rg <| Lv Av <| Lv Av <| Nl <| Ps <| Rt <| Tr <| Rt2 ?_
        have e8 : isSuperF b = (0, false) := by
          unfold isSuperF
          rw [if_neg (by omega), if_neg h32]
        rw [e8]
        intro w' hw; exact ⟨rfl, hw.below⟩
      · replace h32 := bF h32
        have h32 : b.1 = superL (IntKind.i64.wrap (getN b.1 5 4)) := by simpa using h32
        refine Sk <| Ps <| Sq <| Rg <| Lv Mv <| Lv Cv <| Lv Av <| Lv Av <| Nl <| Ps <| Rt <| Rt2 ?_
        have e8 : isSuperF b = (IntKind.i64.wrap (getN b.1 5 4), true) := by unfold isSuperF; rw [if_neg (by omega), if_pos h32]
        rw [e8]
        intro w' hw; exact ⟨rfl, hw.below⟩
theorem isClock_c (b : B64) (p : Option Addr) (cp : Nat) (w : World) (hp : V.slAt w p 1 byE b.1) : Calls Tryz.prog 47 [.slice p 64 cp].toArray w fun e w' => e = .returned (.tuple #[.int .u64 (isClockF b).1, .bool (isClockF b).2]) ∧ Below w.heap.size w w' := by
  refine V.calls [] Tryz.func47 rfl Tryz.ntmps47 (Nat.le_of_ble_eq_true rfl) (V.sat_nil _) <| Sq <| Rg <| Lv Av <| Lv Av <| Nl <| Ps <| Sq <| Rg <| Lv Mv <| Le (CV fun w hw => whole_c b p cp w (hw.slAt hp (by simp [ids]))) fun _ _ => Lv Mv <| Lv Ex <| Lv Ex <| Le (AA (l := byC z64.1) (hz := by exact Tryz.zeroValue91)) fun b4 _ => LeN (StW (cs := byC b.1) (hlen := by rw [byC64, byC64]) (hs := by rw [byC64]; exact Tryz.sizeOf91) (h1 := V.byC_one _)) fun _ _ => Lv Av <| Nl <| Ps <| Sq <| Sq <| Rg <| Lv Mv <| Lv Nt <| LW.re 14 (.bool false) rfl (by rfl) <| Nl <| Ps <| Cf <| Sk <| Ps <| Sq <| Rg <| Lv Mv <| Le (CV fun w hw => (by have h8 := get_c b.1 p cp 1 8 (by omega) (by rw [b.2]; omega) (by rw [b.2]; omega) w (hw.slAt hp (by simp [ids])); rw [b.2] at h8; exact h8)) fun _ _ => Lv Mv <| Lv Ex <| Lv Ex <| Lv Av <| Lv Av <| Nl <| Ps <| Sq <| Sq <| Qt <| Qv (Lw (l := byC b.1) (hs := by rw [byC64]; exact Tryz.sizeOf91)) <| Qv Mv <| Qc (QV fun w hw => clock_c (getN b.1 1 8) w) <| Qv (Val.neBy (a := b.1) (b := clockL (getN b.1 1 8)) rfl rfl (by kernel_rfl) Tryz.underlying91 Tryz.underlying5 Tryz.sizeOf5 b.2 (clockL_len _)) <| Ql <| Ps ?_
  refine CW.cond rfl (fun h23 => ?_) (fun h23 => ?_)
  · replace h23 := bT h23
    have h23 : ¬ b.1 = clockL (getN b.1 1 8) := by simpa using h23
    refine Sq <| Rg <| Lv Av <| Lv Av <| Nl <| Ps <| Rt <| Tr <| Rt2 ?_
    have e8 : isClockF b = (0, false) := by unfold isClockF; rw [if_neg h23]
    rw [e8]
    intro w' hw; exact ⟨rfl, hw.below⟩
  · replace h23 := bF h23
    have h23 : b.1 = clockL (getN b.1 1 8) := by simpa using h23
    refine Sk <| Ps <| Sq <| Rg <| Lv Mv <| Lv Av <| Lv Av <| Nl <| Ps <| Rt <| Rt2 ?_
    have e8 : isClockF b = (getN b.1 1 8, true) := by unfold isClockF; rw [if_pos h23]
    rw [e8]
    intro w' hw; exact ⟨rfl, hw.below⟩
end Go.Proofs.YtjgpnldffhlaoaaGreat
