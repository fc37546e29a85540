/- A device: made, asked, stored to, flushed, fenced. -/
import Derived.Test.YtjgpnldffhlaoaaGreatRvA
import Derived.Lib.Hide
namespace Go.Proofs.YtjgpnldffhlaoaaGreat
open Go Go.RowKit V
set_option linter.unusedVariables false
set_option maxRecDepth 100000
theorem places70 : ∀ w, ((Array.mapM (fun (f : Field) => do pure (f.offset, ← sizeOf f.type)) (Tryz.prog.fieldsOf 70) : Sem (Array (Nat × Nat)))).run Tryz.prog w = .ok [(0, 1), (1, 5)].toArray w := by
  intro w; kernel_rfl
instance : Und Tryz.prog 2 (dOf Tryz.underlying2) := ⟨Tryz.underlying2⟩
instance : Siz Tryz.prog 2 (kOf Tryz.sizeOf2) := ⟨Tryz.sizeOf2⟩
instance : AgF Tryz.prog 2 := ⟨Tryz.isAgg2⟩
instance : Zer Tryz.prog 2 (zOf Tryz.zeroValue2) := ⟨Tryz.zeroValue2⟩
instance : Und Tryz.prog 3 (dOf Tryz.underlying3) := ⟨Tryz.underlying3⟩
instance : Siz Tryz.prog 3 (kOf Tryz.sizeOf3) := ⟨Tryz.sizeOf3⟩
instance : AgF Tryz.prog 3 := ⟨Tryz.isAgg3⟩
instance : Zer Tryz.prog 3 (zOf Tryz.zeroValue3) := ⟨Tryz.zeroValue3⟩
instance : Und Tryz.prog 4 (dOf Tryz.underlying4) := ⟨Tryz.underlying4⟩
instance : Siz Tryz.prog 4 (kOf Tryz.sizeOf4) := ⟨Tryz.sizeOf4⟩
instance : AgF Tryz.prog 4 := ⟨Tryz.isAgg4⟩
instance : Zer Tryz.prog 4 (zOf Tryz.zeroValue4) := ⟨Tryz.zeroValue4⟩
instance : Und Tryz.prog 5 (dOf Tryz.underlying5) := ⟨Tryz.underlying5⟩
instance : Siz Tryz.prog 5 (kOf Tryz.sizeOf5) := ⟨Tryz.sizeOf5⟩
instance : AgF Tryz.prog 5 := ⟨Tryz.isAgg5⟩
instance : Zer Tryz.prog 5 (zOf Tryz.zeroValue5) := ⟨Tryz.zeroValue5⟩
instance : Und Tryz.prog 27 (dOf Tryz.underlying27) := ⟨Tryz.underlying27⟩
instance : Siz Tryz.prog 27 (kOf Tryz.sizeOf27) := ⟨Tryz.sizeOf27⟩
instance : AgF Tryz.prog 27 := ⟨Tryz.isAgg27⟩
instance : Zer Tryz.prog 27 (zOf Tryz.zeroValue27) := ⟨Tryz.zeroValue27⟩
instance : Und Tryz.prog 33 (dOf Tryz.underlying33) := ⟨Tryz.underlying33⟩
instance : Siz Tryz.prog 33 (kOf Tryz.sizeOf33) := ⟨Tryz.sizeOf33⟩
instance : AgF Tryz.prog 33 := ⟨Tryz.isAgg33⟩
instance : Zer Tryz.prog 33 (zOf Tryz.zeroValue33) := ⟨Tryz.zeroValue33⟩
instance : Und Tryz.prog 43 (dOf Tryz.underlying43) := ⟨Tryz.underlying43⟩
instance : Siz Tryz.prog 43 (kOf Tryz.sizeOf43) := ⟨Tryz.sizeOf43⟩
instance : AgT Tryz.prog 43 := ⟨Tryz.isAgg43⟩
instance : Zer Tryz.prog 43 (zOf Tryz.zeroValue43) := ⟨Tryz.zeroValue43⟩
instance : Und Tryz.prog 63 (dOf Tryz.underlying63) := ⟨Tryz.underlying63⟩
instance : Siz Tryz.prog 63 (kOf Tryz.sizeOf63) := ⟨Tryz.sizeOf63⟩
instance : AgF Tryz.prog 63 := ⟨Tryz.isAgg63⟩
instance : Zer Tryz.prog 63 (zOf Tryz.zeroValue63) := ⟨Tryz.zeroValue63⟩
instance : Und Tryz.prog 64 (dOf Tryz.underlying64) := ⟨Tryz.underlying64⟩
instance : Siz Tryz.prog 64 (kOf Tryz.sizeOf64) := ⟨Tryz.sizeOf64⟩
instance : AgT Tryz.prog 64 := ⟨Tryz.isAgg64⟩
instance : Zer Tryz.prog 64 (zOf Tryz.zeroValue64) := ⟨Tryz.zeroValue64⟩
instance : Und Tryz.prog 66 (dOf Tryz.underlying66) := ⟨Tryz.underlying66⟩
instance : Siz Tryz.prog 66 (kOf Tryz.sizeOf66) := ⟨Tryz.sizeOf66⟩
instance : AgT Tryz.prog 66 := ⟨Tryz.isAgg66⟩
instance : Zer Tryz.prog 66 (zOf Tryz.zeroValue66) := ⟨Tryz.zeroValue66⟩
instance : Und Tryz.prog 68 (dOf Tryz.underlying68) := ⟨Tryz.underlying68⟩
instance : Siz Tryz.prog 68 (kOf Tryz.sizeOf68) := ⟨Tryz.sizeOf68⟩
instance : AgT Tryz.prog 68 := ⟨Tryz.isAgg68⟩
instance : Zer Tryz.prog 68 (zOf Tryz.zeroValue68) := ⟨Tryz.zeroValue68⟩
instance : Und Tryz.prog 70 (dOf Tryz.underlying70) := ⟨Tryz.underlying70⟩
instance : Siz Tryz.prog 70 (kOf Tryz.sizeOf70) := ⟨Tryz.sizeOf70⟩
instance : AgT Tryz.prog 70 := ⟨Tryz.isAgg70⟩
instance : Zer Tryz.prog 70 (zOf Tryz.zeroValue70) := ⟨Tryz.zeroValue70⟩
instance : Und Tryz.prog 73 (dOf Tryz.underlying73) := ⟨Tryz.underlying73⟩
instance : Siz Tryz.prog 73 (kOf Tryz.sizeOf73) := ⟨Tryz.sizeOf73⟩
instance : AgF Tryz.prog 73 := ⟨Tryz.isAgg73⟩
instance : Zer Tryz.prog 73 (zOf Tryz.zeroValue73) := ⟨Tryz.zeroValue73⟩
instance : Und Tryz.prog 94 (dOf Tryz.underlying94) := ⟨Tryz.underlying94⟩
instance : Siz Tryz.prog 94 (kOf Tryz.sizeOf94) := ⟨Tryz.sizeOf94⟩
instance : AgT Tryz.prog 94 := ⟨Tryz.isAgg94⟩
instance : Zer Tryz.prog 94 (zOf Tryz.zeroValue94) := ⟨Tryz.zeroValue94⟩
instance : Und Tryz.prog 96 (dOf Tryz.underlying96) := ⟨Tryz.underlying96⟩
instance : Siz Tryz.prog 96 (kOf Tryz.sizeOf96) := ⟨Tryz.sizeOf96⟩
instance : AgT Tryz.prog 96 := ⟨Tryz.isAgg96⟩
instance : Zer Tryz.prog 96 (zOf Tryz.zeroValue96) := ⟨Tryz.zeroValue96⟩
instance : Plc Tryz.prog 70 (fOf Tryz.underlying70) (lOf (P := Tryz.prog) places70) := ⟨places70, Tryz.underlying70⟩
instance : Cal Tryz.prog 43 := ⟨Tryz.call43⟩
instance : Cal Tryz.prog 44 := ⟨Tryz.call44⟩
instance : Cal Tryz.prog 48 := ⟨Tryz.call48⟩
open V (str byC ownV ownG ownS ownOk)
theorem x_addI {a : Addr} {x y : Int} {w : World} (hc : w.cell? a = some (.int .i64 x)) (hz : w.frozen? a = false) : (callFunc 72 #[.pointer (some a), .int .i64 y]).run Tryz.prog w = .ok (.value (.int .i64 (IntKind.i64.wrap (x + y)))) (w.setCell a (.int .i64 (IntKind.i64.wrap (x + y)))) := run_call_add Tryz.func72 (by kernel_rfl) (by kernel_rfl) (by kernel_rfl) .i64 (by kernel_rfl) hc hz rfl
theorem addI_c (b o : Nat) (l : List Value) (T : Nat) (x y : Int) (w : World) (hl : l[o]? = some (.int .i64 x)) (hs : Sat [[(b, .cells l.toArray T (0, 0))]] w) : Calls Tryz.prog 44 [.pointer (some ⟨b, o, none⟩), .int .i64 y].toArray w fun e w' => ∃ _u : Unit, True ∧ e = .returned (.int .i64 (IntKind.i64.wrap (x + y))) ∧ Hp ⟨w, V.ids [[(b, .cells l.toArray T (0, 0))]]⟩ [[(b, .cells (l.set o (.int .i64 (IntKind.i64.wrap (x + y)))).toArray T (0, 0))]] w' := by
  refine V.calls [[(b, .cells l.toArray T (0, 0))]] Tryz.func44 rfl Tryz.ntmps44 (Nat.le_of_ble_eq_true rfl) hs <| Sq <| Rg <| Lv Av <| Nl <| Ps <| Sq <| Rg <| Lv Mv <| Lv Nz <| Lv (Fa 0 2) <| LW.re 7 (.pointer (some ⟨b, o, none⟩)) rfl rfl <| Lv Mv <| Le (Eff.ext (l' := l.set o (.int .i64 (IntKind.i64.wrap (x + y)))) rfl .here rfl (fun w hb => x_addI (V.cell_of_block hb (by exact hl)) (V.frozen_of hb))) fun _ _ => Lv Av <| Nl <| Ps <| Rt <| Rt1 ?_
  intro w' hw; exact ⟨(), trivial, rfl, hw⟩
theorem lines_c (db cb : Nat) (D : List Ce) (k : Cnt) (w : World) (hB : w.heap[db]? = some (.cells (dvC cb D k).toArray 70 (0, 0))) : Calls Tryz.prog 24 [.pointer (some ⟨db, 0, none⟩)].toArray w fun e w' => e = .returned (.int .i64 (D.length : Nat)) ∧ Below w.heap.size w w' := by
  refine V.calls [] Tryz.func24 rfl Tryz.ntmps24 (Nat.le_of_ble_eq_true rfl) (V.sat_nil _) <| Sq <| Rg <| Lv Av <| Nl <| Ps <| Sq <| Sq <| Rg <| Lv Mv <| Lv EP <| Nl <| Ps <| Cf <| Sk <| Ps <| Sq <| Rg <| Lv Mv <| Lv Nz <| Lv (Fa 0 63) <| Lv (Val.loadO rfl Tryz.isAgg63 (V.lt_of_some hB) (by simp [ids]) (V.cell_of_block hB rfl)) <| Lv Ln <| Lv Av <| Nl <| Ps <| Rt <| Rt1 ?_
  intro w hw; exact ⟨rfl, hw.below⟩
/-- Is there such a line, and as many of its bytes? -/
def thB (L : Nat) (line at_ : Int) (n : Nat) : Bool := decide (0 ≤ line ∧ line < L ∧ 0 ≤ at_ ∧ at_ ≤ 64 - n)
theorem there_c (db cb : Nat) (D : List Ce) (k : Cnt) (line at_ : Int) (n : Nat) (hn : n ≤ 100000) (w : World) (hB : w.heap[db]? = some (.cells (dvC cb D k).toArray 70 (0, 0))) : Calls Tryz.prog 43 [.pointer (some ⟨db, 0, none⟩), .int .i64 line, .int .i64 at_, .int .i64 (n : Nat)].toArray w fun e w' => e = .returned (.int .i64 (if thB D.length line at_ n = true then 0 else 2)) ∧ Below w.heap.size w w' := by
  refine V.calls [] Tryz.func43 rfl Tryz.ntmps43 (Nat.le_of_ble_eq_true rfl) (V.sat_nil _) <| Sq <| Rg <| Lv Av <| Nl <| Ps <| Sq <| Sq <| Rg <| Lv Mv <| Lv EP <| Nl <| Ps <| Cf <| Sk <| Ps <| Sq <| Sq <| Rg <| Lv Mv <| Lv Cm <| Lv Mv ?_
  refine LW.split (d := 13) rfl (fun h13 => ?_) (fun h13 => ?_)
  · replace h13 := bT h13
    refine Lp <| Lp <| Lp <| Lp <| Lp <| Lp <| Lp <| Lv Pt <| Lv Mv <| Lp <| Lp <| Lv Pt <| Lv Mv <| Lp <| Lp <| Lp <| Lp <| Lv Pt <| Nl <| Ps <| Ct <| Sq <| Rg <| Lv Av <| Nl <| Ps <| Rt <| Tr <| Rt1 ?_
    intro w' hw; exact ⟨by unfold thB; rw [if_neg]; simp; omega, hw.below⟩
  · replace h13 := bF h13
    refine Lv Mv <| Lv Mv <| Lv Nz <| Lv (Fa 0 63) <| Lv (Val.loadO rfl Tryz.isAgg63 (V.lt_of_some hB) (by simp [ids]) (V.cell_of_block hB rfl)) <| Lv Ln <| Lv Cm <| Lv Pf <| Lv Mv ?_
    refine LW.split (d := 22) rfl (fun h22 => ?_) (fun h22 => ?_)
    · replace h22 := bT h22
      refine Lp <| Lp <| Lv Pt <| Lv Mv <| Lp <| Lp <| Lp <| Lp <| Lv Pt <| Nl <| Ps <| Ct <| Sq <| Rg <| Lv Av <| Nl <| Ps <| Rt <| Tr <| Rt1 ?_
      intro w' hw; exact ⟨by unfold thB; rw [if_neg]; simp; omega, hw.below⟩
    · replace h22 := bF h22
      refine Lv Mv <| Lv Cm <| Lv Pf <| Lv Mv ?_
      refine LW.split (d := 26) rfl (fun h26 => ?_) (fun h26 => ?_)
      · replace h26 := bT h26
        refine Lp <| Lp <| Lp <| Lp <| Lv Pt <| Nl <| Ps <| Ct <| Sq <| Rg <| Lv Av <| Nl <| Ps <| Rt <| Tr <| Rt1 ?_
        intro w' hw; exact ⟨by unfold thB; rw [if_neg]; simp; omega, hw.below⟩
      · replace h26 := bF h26
        refine Lv Mv <| Lv Mv <| Lv Ar <| Lv Cm <| Lv Pf <| Nl <| Ps ?_
        refine CW.cond rfl (fun h31 => ?_) (fun h31 => ?_)
        · replace h31 := bT h31
          refine Sq <| Rg <| Lv Av <| Nl <| Ps <| Rt <| Tr <| Rt1 ?_
          intro w' hw; exact ⟨by unfold thB; rw [if_neg]; simp; omega, hw.below⟩
        · replace h31 := bF h31
          refine Sk <| Ps <| Sq <| Rg <| Lv Av <| Nl <| Ps <| Rt <| Rt1 ?_
          intro w' hw; exact ⟨by unfold thB; rw [if_pos]; simp; omega, hw.below⟩
theorem th_ok {L : Nat} {i n : Nat} {at_ : Nat} (h : i < L) (h2 : at_ + n ≤ 64) : thB L (i : Nat) (at_ : Nat) n = true := by unfold thB; simp; omega
theorem ce_rep (n : Nat) : V.repL (ceC ce0) n = (List.replicate n ce0).flatMap ceC := by
  induction n with
  | zero => rfl
  | succ n ih => rw [List.replicate_succ, List.flatMap_cons, V.repL, ih]
def ct0 : Cnt := ⟨0, 0, 0, 0, 0⟩
theorem newDev_c (n : Nat) (h1 : 1 ≤ n) (h2 : n ≤ 258) (w : World) : Calls Tryz.prog 10 [.int .i64 (n : Nat)].toArray w fun e w' => ∃ p : Nat × Nat, True ∧ e = .returned (.tuple #[.pointer (some ⟨p.1, 0, none⟩), .int .i64 0]) ∧ Hp ⟨w, []⟩ (devS p.1 p.2 (List.replicate n ce0) ct0) w' := by
  refine V.calls [] Tryz.func10 rfl Tryz.ntmps10 (Nat.le_of_ble_eq_true rfl) (V.sat_nil _) <| Sq <| Rg <| Lv Av <| Lv Av <| Nl <| Ps <| Sq <| Sq <| Rg <| Lv Mv <| Lv Cm <| LW.re 5 (.bool false) rfl (by congr 1; simp; omega) <| Lv Mv <| Lv Mv <| Lv Cm <| LW.re 8 (.bool false) rfl (by congr 1; simp; omega) <| Lv Pf <| Nl <| Ps <| Cf <| Sk <| Ps <| Sq <| Rg <| Lv Mv <| Le (Eff.makeSlice (m := n) (by_ := 193) (zl := ceC ce0) rfl rfl Tryz.underlying63 (by kernel_rfl) Tryz.sizeOf96 (by exact Tryz.zeroValue96) (by kernel_rfl) (ceC_len _) (by omega) (by omega) (by omega)) fun b11 _ => ?_
  rw [ce_rep]
  refine Lv (Val.build (.slice (some ⟨b11, 0, none⟩) n n :: ctC ct0) Tryz.zeroValue70 Tryz.underlying70 places70 rfl (by rfl)) <| Le XA fun b13 _ => Lv Av <| Lv Av <| Nl <| Ps <| Rt <| Rt2 ?_
  have hl : (List.replicate n ce0).length = n := List.length_replicate
  intro w' hw
  exact ⟨(b13, b11), trivial, rfl, by unfold devS dvC; rw [hl]; exact hw⟩
theorem cloneB_c (l : List UInt8) (p : Option Addr) (n c : Nat) (hn : n = l.length) (hl : l.length ≤ 100000) (w : World) (h : V.slAt w p 1 byE l) : Calls Tryz.prog 48 [.slice p n c].toArray w fun e w' => ∃ o : V.OwnO, ownOk 1 l.length (l.flatMap byE) o ∧ e = .returned (ownV l.length o) ∧ Hp ⟨w, []⟩ [ownG 5 (l.flatMap byE) o] w' := by
  subst hn
  refine V.calls [] Tryz.func48 rfl Tryz.ntmps48 (Nat.le_of_ble_eq_true rfl) (V.sat_nil _) <| Sq <| Rg <| Lv Av <| Nl <| Ps <| Sq <| Sq <| Rg <| Lv Mv <| Lv (Val.eqSlNil rfl rfl Tryz.underlying73) <| Nl <| Ps ?_
  refine CW.cond rfl (fun h4 => ?_) (fun h4 => ?_)
  · replace h4 := bT h4
    have hpn : p = none := by cases p with | none => rfl | some q => simp at h4
    obtain rfl : l = [] := by
      rcases h with h | ⟨b, o, h, _⟩
      · exact h
      · rw [hpn] at h; cases h
    refine Sq <| Rg <| Lv Av <| Nl <| Ps <| Rt <| Tr <| Rt1 ?_
    intro w' hw; exact ⟨none, ⟨rfl, rfl⟩, rfl, hw.perm (.refl _)⟩
  · replace h4 := bF h4
    refine Sk <| Ps <| Sq <| Rg <| Le (Eff.buildSlice0 Tryz.underlying73 Tryz.sizeOf5) fun b5 _ => Lv Mv <| Le (Eff.appendAny (l.flatMap byE) (sz := 1) (bytes := 1) (z := .int .u8 0) (xs := []) (m0 := 0) (o := some (b5, [], 0)) (m := l.length) (pk := [ownG 5 [] (some (b5, [], 0))]) rfl rfl Tryz.underlying73 (by kernel_rfl) rfl (by omega) (by repeat (first | exact .nil | apply Pick.cons | exact .here | apply Ext.there)) (by simp) ⟨rfl, rfl⟩ (V.flatMap_len byE_len _) (fun hm0 => by obtain ⟨b8, o8, h8, h9⟩ := sl_range (F := []) byE_len h hm0 (by simp); exact ⟨b8, o8, h8, fun w hw => h9 w hw⟩) (all_one byE_one _) (by omega) (by omega)) fun o2 ho2 => ?_
    have h2 : ownOk 1 l.length (l.flatMap byE) o2 := by simpa using ho2
    rw [List.nil_append, Nat.zero_add]
    refine Lv Av <| Nl <| Ps <| Rt <| Rt1 ?_
    intro w' hw; exact ⟨o2, h2, rfl, hw.pick (by repeat (first | exact .nil | apply Pick.cons | exact .here | apply Ext.there))⟩
theorem devB {db cb : Nat} {D : List Ce} {k : Cnt} {w : World} (hs : Sat (devS db cb D k) w) : w.heap[db]? = some (.cells (dvC cb D k).toArray 70 (0, 0)) ∧ w.heap[cb]? = some (.cells (D.flatMap ceC).toArray 96 (0, 0)) := ⟨hs.own (db, .cells (dvC cb D k).toArray 70 (0, 0)) (by simp), hs.own (cb, .cells (D.flatMap ceC).toArray 96 (0, 0)) (by simp)⟩
theorem load_c (db cb : Nat) (D : List Ce) (k : Cnt) (i : Nat) (c : Ce) (hc : D[i]? = some c) (w : World) (hs : Sat (devS db cb D k) w) : Calls Tryz.prog 31 [.pointer (some ⟨db, 0, none⟩), .int .i64 (i : Nat)].toArray w fun e w' => ∃ o : V.OwnO, ownOk 1 64 (c.now.1.flatMap byE) o ∧ e = .returned (.tuple #[ownV 64 o, .int .i64 0]) ∧ Hp ⟨w, []⟩ [ownG 5 (c.now.1.flatMap byE) o] w' := by
  obtain ⟨hB, hC⟩ := devB hs
  have hi := (List.getElem?_eq_some_iff.1 hc).1
  refine V.calls [] Tryz.func31 rfl Tryz.ntmps31 (Nat.le_of_ble_eq_true rfl) (V.sat_nil _) <| Sq <| Rg <| Lv Av <| Lv Av <| Nl <| Ps <| Sq <| Sq <| Rg <| Lv Mv <| Lv Mv <| Le (CV fun w hw => there_c db cb D k (i : Nat) ((0 : Nat) : Int) 0 (by omega) w ((hw.old db (V.lt_of_some hB) (by simp [ids])).trans hB)) fun _ _ => LW.re 9 (.int .i64 0) rfl (by rw [if_pos (th_ok hi (by omega))]) <| Lv Av <| Nl <| Ps <| Sq <| Rg <| Lv Mv <| Lv Cm <| LW.re 11 (.bool false) rfl (by rfl) <| Nl <| Ps <| Cf <| Sk <| Ps <| Sq <| Rg <| Lv Mv <| Lv Nz <| Lv (Fa 0 63) <| Lv (Val.loadO rfl Tryz.isAgg63 (V.lt_of_some hB) (by simp [ids]) (V.cell_of_block hB rfl)) <| Lv Mv <| Lv (Val.indexAddrN rfl rfl Tryz.underlying63 Tryz.sizeOf96 hi) <| Lv (Fa 0 94) <| Lv (Val.sliceArr 0 64 rfl Tryz.underlying94 Tryz.sizeOf5 rfl rfl (by omega) (by omega)) <| LW.re 20 (.slice (some ⟨cb, i * 193 + 0, none⟩) 64 64) rfl (by simp) <| Le (CM [] fun w hw hs0 => cloneB_c c.now.1 _ 64 64 c.now.2.symm (by have := c.now.2; omega) w (hw.slAt (dev_at hc hC (o := 0) (by omega) (ce_at0 c)) (by simp [ids]))) fun o ho => ?_
  rw [c.now.2] at ho ⊢
  refine Lv Av <| Lv Av <| Nl <| Ps <| Rt <| Rt2 ?_
  intro w' hw; exact ⟨o, ho, rfl, hw.pick (by repeat (first | exact .nil | apply Pick.cons | exact .here | apply Ext.there))⟩
/-- Bytes laid into a line's copy. -/
def putB (b : B64) (at_ : Nat) (l : List UInt8) (h : at_ + l.length ≤ 64) : B64 := ⟨b.1.take at_ ++ l ++ b.1.drop (at_ + l.length), by simp only [List.length_append, List.length_take, List.length_drop, b.2]; omega⟩
theorem putB_c (b : B64) (at_ : Nat) (l : List UInt8) (h : at_ + l.length ≤ 64) : V.splice (byC b.1) at_ (byC l) = byC (putB b at_ l h).1 := by
  rw [splice_cut _ _ _ (by rw [V.byC_len, V.byC_len, b.2]; exact h)]
  unfold putB
  simp only [V.byC_append, V.byC_len]
  congr 1
  · congr 1; exact (List.map_take ..).symm
  · exact (List.map_drop ..).symm
theorem ce_put (c : Ce) (at_ : Nat) (l : List UInt8) (h : at_ + l.length ≤ 64) : V.splice (ceC c) at_ (byC l) = ceC { c with now := putB c.now at_ l h } := by
  rw [ce_at0, splice_left _ _ _ _ (by rw [V.byC_len, byC64]; exact h), putB_c _ _ _ h]
  rfl
theorem store_c (db cb : Nat) (D : List Ce) (k : Cnt) (i at_ : Nat) (bs : List UInt8) (c : Ce) (p : Option Addr) (n cp : Nat) (hn : n = bs.length) (hc : D[i]? = some c) (h0 : 0 < bs.length) (h64 : at_ + bs.length ≤ 64) (w : World) (hs : Sat (devS db cb D k) w) (hp : V.slAt w p 1 byE bs) (hpd : ∀ b o, p = some ⟨b, o, none⟩ → b ∉ V.ids (devS db cb D k)) :
    Calls Tryz.prog 25 [.pointer (some ⟨db, 0, none⟩), .int .i64 (i : Nat), .int .i64 (at_ : Nat), .slice p n cp].toArray w fun e w' => ∃ k' : Cnt, True ∧ e = .returned (.int .i64 0) ∧ Hp ⟨w, V.ids (devS db cb D k)⟩ (devS db cb (D.set i { c with now := putB c.now at_ bs h64 }) k') w' := by
  subst hn
  obtain ⟨hB, hC⟩ := devB hs
  have hi := (List.getElem?_eq_some_iff.1 hc).1
  obtain ⟨pb, po, hpe, hpr⟩ := sl_range (F := V.ids (devS db cb D k)) byE_len hp h0 hpd
  subst hpe
  refine V.calls (devS db cb D k) Tryz.func25 rfl Tryz.ntmps25 (Nat.le_of_ble_eq_true rfl) hs <| Sq <| Rg <| Lv Av <| Nl <| Ps <| Sq <| Sq <| Rg <| Lv Mv <| Lv Mv <| Lv Mv <| Lv Mv <| Lv Ln <| Le (CV fun w hw => there_c db cb D k (i : Nat) (at_ : Nat) bs.length (by omega) w (hw.at)) fun _ _ => LW.re 15 (.int .i64 0) rfl (by rw [if_pos (th_ok hi h64)]) <| Lv Av <| Nl <| Ps <| Sq <| Rg <| Lv Mv <| Lv Cm <| LW.re 17 (.bool false) rfl (by rfl) <| Nl <| Ps <| Cf <| Sk <| Ps <| Sq <| Rg <| Lv Mv <| Lv Nz <| Lv (Fa 0 63) <| Lv (Ld (v := .slice (some ⟨cb, 0, none⟩) D.length D.length)) <| Lv Mv <| Lv (Val.indexAddrN rfl rfl Tryz.underlying63 Tryz.sizeOf96 hi) <| Lv (Fa 0 94) <| Lv Mv <| Lv (Val.sliceArr at_ 64 rfl Tryz.underlying94 Tryz.sizeOf5 ⟨_, rfl⟩ rfl (by omega) (by omega)) <| LW.re 27 (.slice (some ⟨cb, i * 193 + at_, none⟩) (64 - at_) (64 - at_)) rfl (by rw [if_neg (by omega)]; simp) <| Lv Mv <| Le (Eff.copyT (cs := byC bs) (gb := cb) (cur := (D.flatMap ceC)) (cells' := ((D.set i { c with now := putB c.now at_ bs h64 }).flatMap ceC)) (m := bs.length) (sz := 1) rfl rfl Tryz.underlying73 (by kernel_rfl) (by repeat (first | exact .here | exact .inner .here | exact .inner (.inner .here) | apply Upd.there)) (by rw [← splice_cut _ _ _ (by rw [V.flatMap_len ceC_len, V.byC_len]; have := Nat.mul_le_mul_right 193 (show i + 1 ≤ D.length from hi); omega)]; have h8 := splice_in ceC_len hc at_ (byC bs) (ce_put c at_ bs h64) (by rw [V.byC_len]; omega); simpa using h8) (show min bs.length (64 - at_) = _ from by omega) (by rw [V.byC_len, Nat.mul_one]) (fun w1 hw1 j u hj => by rw [Addr.add_mid]; exact hpr w1 hw1 j u (by rw [← byC_flat]; exact hj)) (by rw [V.flatMap_len ceC_len, V.byC_len]; have := Nat.mul_le_mul_right 193 (show i + 1 ≤ D.length from hi); omega) (V.byC_one _)) fun _ _ => Nl <| Ps <| Sq <| Rg <| Lv Mv <| Lv Nz <| Lv (Fa 1 68) <| Lv (Fa 0 66) <| Le (CM ([[(db, .cells (dvC cb D k).toArray 70 (0, 0))]]) fun w hw hs => addI_c db 1 (dvC cb D k) 70 k.a 1 w rfl hs) ?_
  intro _ _
  refine Nl <| Ps <| Sq <| Rg <| Lv Av <| Nl <| Ps <| Rt <| Rt1 fun w' hw => ?_
  exact ⟨{ k with a := IntKind.i64.wrap (k.a + 1) }, trivial, rfl, by unfold devS dvC; rw [List.length_set]; exact hw.pick (by repeat (first | exact .nil | apply Pick.cons | exact .here | apply Ext.there))⟩
theorem fl_now {D : List Ce} {i : Nat} {c : Ce} (hc : D[i]? = some c) : ∃ r, (D.flatMap ceC).drop (i * 193 + 0) = byC c.now.1 ++ r := flat_at ceC_len hc (by omega) (ce_at0 c)
theorem fl_way {D : List Ce} {i : Nat} {c : Ce} (hc : D[i]? = some c) : ∃ r, (D.flatMap ceC).drop (i * 193 + 128) = byC c.way.1 ++ r := flat_at ceC_len hc (by omega) (ce_at128 c)
theorem fl_sent {D : List Ce} {i : Nat} {c : Ce} (hc : D[i]? = some c) : (D.flatMap ceC)[i * 193 + 192]? = some (.bool c.sent) := by
  obtain ⟨r, hr⟩ := flat_at ceC_len hc (o := 192) (by omega) (r := []) (by rw [ce_at192, List.append_nil])
  have h := congrArg (fun l => l[0]?) hr
  simpa using h
theorem flush_c (db cb : Nat) (D : List Ce) (k : Cnt) (i : Nat) (c : Ce) (hc : D[i]? = some c) (w : World) (hs : Sat (devS db cb D k) w) : Calls Tryz.prog 27 [.pointer (some ⟨db, 0, none⟩), .int .i64 (i : Nat)].toArray w fun e w' => ∃ k' : Cnt, True ∧ e = .returned (.int .i64 0) ∧ Hp ⟨w, V.ids (devS db cb D k)⟩ (devS db cb (D.set i { c with way := c.now, sent := true }) k') w' := by
  obtain ⟨hB, hC⟩ := devB hs
  have hi := (List.getElem?_eq_some_iff.1 hc).1
  have hmul := Nat.mul_le_mul_right 193 (show i + 1 ≤ D.length from hi)
  have hc2 : (D.set i (Ce.mk c.now c.kept c.now c.sent))[i]? = some (Ce.mk c.now c.kept c.now c.sent) := by rw [List.getElem?_set_self hi]
  refine V.calls (devS db cb D k) Tryz.func27 rfl Tryz.ntmps27 (Nat.le_of_ble_eq_true rfl) hs <| Sq <| Rg <| Lv Av <| Nl <| Ps <| Sq <| Sq <| Rg <| Lv Mv <| Lv Mv <| Le (CV fun w hw => there_c db cb D k (i : Nat) ((0 : Nat) : Int) 0 (by omega) w hw.at) fun _ _ => LW.re 9 (.int .i64 0) rfl (by rw [if_pos (th_ok hi (by omega))]) <| Lv Av <| Nl <| Ps <| Sq <| Rg <| Lv Mv <| Lv Cm <| LW.re 11 (.bool false) rfl (by rfl) <| Nl <| Ps <| Cf <| Sk <| Ps <| Sq <| Rg <| Lv Mv <| Lv Nz <| Lv (Fa 0 63) <| Lv (Ld (v := .slice (some ⟨cb, 0, none⟩) D.length D.length)) <| Lv Mv <| Lv (Val.indexAddrN rfl rfl Tryz.underlying63 Tryz.sizeOf96 hi) <| LW.re 18 (.pointer (some ⟨cb, i * 193, none⟩)) rfl (by simp) <| Lv Av <| Nl <| Ps <| Sq <| Rg <| Lv Mv <| Lv Mv <| Lv Mv <| Lv Nz <| Lv (Fa 0 94) <| Lv (La (byC c.now.1) (r := (fl_now hc).choose) (hl := by simpa using (fl_now hc).choose_spec) (hs := by rw [byC64]; exact Tryz.sizeOf94)) <| Lv Nz <| Lv (Fa 128 94) <| LeN (Eff.storeA (cs := byC c.now.1) (l := D.flatMap ceC) (l' := (D.set i (Ce.mk c.now c.kept c.now c.sent)).flatMap ceC) rfl rfl (by repeat (first | exact .here | exact .inner .here | exact .inner (.inner .here) | apply Upd.there)) (by have h8 := splice_in ceC_len hc (y := (Ce.mk c.now c.kept c.now c.sent)) 128 (byC c.now.1) (ce_way c c.now) (by simp [byC64]); simpa using h8) (by rw [V.flatMap_len ceC_len]; simp [byC64]; omega) (by rw [byC64]; exact Tryz.sizeOf94) (V.byC_one _)) fun _ _ => Lv Nz <| Lv (Fa 192 4) <| LeN (Eff.storeX (v := .bool true) (l := (D.set i (Ce.mk c.now c.kept c.now c.sent)).flatMap ceC) (l' := (D.set i (Ce.mk c.now c.kept c.now true)).flatMap ceC) rfl rfl rfl (by repeat (first | exact .here | exact .inner .here | exact .inner (.inner .here) | apply Upd.there)) (by have h8 := splice_in ceC_len hc2 (y := (Ce.mk c.now c.kept c.now true)) 192 [.bool true] (ce_sent (Ce.mk c.now c.kept c.now c.sent) true) (by simp); rw [List.set_set] at h8; simpa [V.splice] using h8) (by rw [V.flatMap_len ceC_len]; simp; omega) Tryz.sizeOf4) ?_
  intro _ _
  refine Nl <| Ps <| Sq <| Rg <| Lv Mv <| Lv Nz <| Lv (Fa 1 68) <| Lv (Fa 1 66) <| Le (CM ([[(db, .cells (dvC cb D k).toArray 70 (0, 0))]]) fun w hw hs => addI_c db 2 (dvC cb D k) 70 k.b 1 w rfl hs) fun _ _ => Nl <| Ps <| Sq <| Rg <| Lv Av <| Nl <| Ps <| Rt <| Rt1 fun w' hw => ?_
  exact ⟨{ k with b := IntKind.i64.wrap (k.b + 1) }, trivial, rfl, by unfold devS dvC; rw [List.length_set]; exact hw.pick (by repeat (first | exact .nil | apply Pick.cons | exact .here | apply Ext.there))⟩
def fenB (c : Ce) : Ce := if c.sent = true then { c with kept := c.way, sent := false } else c
/-- The first so many lines fenced. -/
def fenL (D : List Ce) (j : Nat) : List Ce := (D.take j).map fenB ++ D.drop j
theorem fenL_len (D : List Ce) (j : Nat) : (fenL D j).length = D.length := by unfold fenL; simp; omega
theorem fenL_at {D : List Ce} {j : Nat} {c : Ce} (hc : D[j]? = some c) : (fenL D j)[j]? = some c := by
  have hj := (List.getElem?_eq_some_iff.1 hc).1
  unfold fenL
  rw [List.getElem?_append_right (by simp; omega), List.getElem?_drop]
  simp only [List.length_map, List.length_take]
  rw [show j + (j - min j D.length) = j by omega, hc]
theorem fenL_step {D : List Ce} {j : Nat} {c : Ce} (hc : D[j]? = some c) : (fenL D j).set j (fenB c) = fenL D (j + 1) := by
  have hj := (List.getElem?_eq_some_iff.1 hc).1
  unfold fenL
  have hl : ((D.take j).map fenB).length = j := by simp; omega
  rw [List.set_append_right _ _ (by omega), hl, Nat.sub_self, List.drop_eq_getElem_cons hj, List.set_cons_zero, List.take_add_one, hc]
  simp
theorem fence_c (db cb : Nat) (D : List Ce) (k : Cnt) (hD : D.length ≤ 1000) (w : World) (hs : Sat (devS db cb D k) w) : Calls Tryz.prog 28 [.pointer (some ⟨db, 0, none⟩)].toArray w fun e w' => ∃ k' : Cnt, True ∧ e = .returned (.int .i64 0) ∧ Hp ⟨w, V.ids (devS db cb D k)⟩ (devS db cb (D.map fenB) k') w' := by
  refine V.calls (devS db cb D k) Tryz.func28 rfl Tryz.ntmps28 (Nat.le_of_ble_eq_true rfl) hs <| Sq <| Rg <| Lv Av <| Nl <| Ps <| Sq <| Sq <| Rg <| Lv Mv <| Lv EP <| Nl <| Ps <| Cf <| Sk <| Ps <| Sq <| Sq <| Rg <| Lv Mv <| Lv Nz <| Lv (Fa 0 63) <| Lv (Ld (v := .slice (some ⟨cb, 0, none⟩) D.length D.length)) <| Lv Ln <| Lv Mv <| Nl <| Ps <| Bk ?_
  refine V.CW.perm (sg' := [[(db, .cells (dvC cb D k).toArray 70 (0, 0))], [(cb, .cells ((fenL D 0).flatMap ceC).toArray 96 (0, 0))]]) ?_ (by unfold fenL; simp)
  refine loopA (γ := Nat) (fun j => [(0, .pointer (some ⟨db, 0, none⟩)), (11, .int .i64 (D.length : Nat)), (12, .int .i64 (j : Nat))]) (fun j => [[(db, .cells (dvC cb D k).toArray 70 (0, 0))], [(cb, .cells ((fenL D j).flatMap ceC).toArray 96 (0, 0))]]) (fun j => j ≤ D.length) (fun j => D.length - j) (0) (Nat.zero_le _) fun j hj => Sq <| Rg <| Lv Cm <| Nl <| Ps <| Sq ?_
  refine CW.cond rfl (fun h13 => ?_) (fun h13 => ?_)
  · replace h13 := bT h13
    have hi : j < D.length := by omega
    have hmul := Nat.mul_le_mul_right 193 (show j + 1 ≤ D.length from hi)
    have hfl := fenL_len D j
    obtain ⟨c, hc⟩ : ∃ c, D[j]? = some c := ⟨_, List.getElem?_eq_getElem hi⟩
    have hst := fenL_step hc
    have hc2 : ((fenL D j).set j (Ce.mk c.now c.way c.way c.sent))[j]? = some (Ce.mk c.now c.way c.way c.sent) := by rw [List.getElem?_set_self (by omega)]
    refine Sk <| Ps <| Sq <| Bk <| Sq <| Rg <| Lv Mv <| Lv Av <| Nl <| Ps <| Sq <| Rg <| Lv Mv <| Lv Nz <| Lv (Fa 0 63) <| Lv (Ld (v := .slice (some ⟨cb, 0, none⟩) D.length D.length)) <| Lv Mv <| Lv (Val.indexAddrN rfl rfl Tryz.underlying63 Tryz.sizeOf96 hi) <| LW.re 20 (.pointer (some ⟨cb, j * 193, none⟩)) rfl (by simp) <| Lv Av <| Nl <| Ps <| Sq <| Rg <| Lv Mv <| Lv Nz <| Lv (Fa 192 4) <| Lv (Ld (v := .bool c.sent) (hl := fl_sent (fenL_at hc))) <| Nl <| Ps ?_
    refine CW.cond rfl (fun h24 => ?_) (fun h24 => ?_)
    · replace h24 := bT h24
      have h24 : c.sent = true := h24
      have hfb : fenB c = (Ce.mk c.now c.way c.way false) := by unfold fenB; rw [if_pos h24]
      rw [hfb] at hst
      refine Rg <| Lv Mv <| Lv Mv <| Lv Mv <| Lv Nz <| Lv (Fa 128 94) <| Lv (La (byC c.way.1) (r := (fl_way (fenL_at hc)).choose) (hl := (fl_way (fenL_at hc)).choose_spec) (hs := by rw [byC64]; exact Tryz.sizeOf94)) <| Lv Nz <| Lv (Fa 64 94) <| LeN (Eff.storeA (cs := byC c.way.1) (l := (fenL D j).flatMap ceC) (l' := ((fenL D j).set j (Ce.mk c.now c.way c.way c.sent)).flatMap ceC) rfl rfl (by repeat (first | exact .here | exact .inner .here | exact .inner (.inner .here) | apply Upd.there)) (by have h8 := splice_in ceC_len (fenL_at hc) (y := (Ce.mk c.now c.way c.way c.sent)) 64 (byC c.way.1) (ce_kept c c.way) (by simp [byC64]); simpa using h8) (by rw [V.flatMap_len ceC_len]; simp [byC64]; omega) (by rw [byC64]; exact Tryz.sizeOf94) (V.byC_one _)) fun _ _ => Lv Nz <| Lv (Fa 192 4) <| LeN (Eff.storeX (v := .bool false) (l := ((fenL D j).set j (Ce.mk c.now c.way c.way c.sent)).flatMap ceC) (l' := ((fenL D j).set j (Ce.mk c.now c.way c.way false)).flatMap ceC) rfl rfl rfl (by repeat (first | exact .here | exact .inner .here | exact .inner (.inner .here) | apply Upd.there)) (by have h8 := splice_in ceC_len hc2 (y := (Ce.mk c.now c.way c.way false)) 192 [.bool false] (ce_sent (Ce.mk c.now c.way c.way c.sent) false) (by simp); rw [List.set_set] at h8; simpa [V.splice] using h8) (by rw [V.flatMap_len ceC_len]; simp; omega) Tryz.sizeOf4) fun _ _ => Nl <| Bn <| Ps <| Rg <| Lv Ar <| Lv Mv <| Nl ?_
      rw [hst]
      exact roundA (j + 1) (by omega) (by omega)
    · replace h24 := bF h24
      have h24 : c.sent = false := h24
      have hfb : fenB c = c := by unfold fenB; rw [if_neg (by simp [h24])]
      have hss : (fenL D j).set j c = fenL D j := by
        have h8 := fenL_at hc
        obtain ⟨h9, h7⟩ := List.getElem?_eq_some_iff.1 h8
        rw [← h7, List.set_getElem_self]
      rw [hfb, hss] at hst
      refine Sk <| Bn <| Ps <| Rg <| Lv Ar <| Lv Mv <| Nl ?_
      rw [hst]
      exact roundA (j + 1) (by omega) (by omega)
  · replace h13 := bF h13
    have hend : fenL D j = D.map fenB := by unfold fenL; rw [List.take_of_length_le (by omega), List.drop_eq_nil_iff.2 (by omega), List.append_nil]
    rw [hend]
    refine Xt <| Te <| Te <| Bh <| Ps <| Sq <| Rg <| Lv Mv <| Lv Nz <| Lv (Fa 1 68) <| Lv (Fa 2 66) <| Le (CM ([[(db, .cells (dvC cb D k).toArray 70 (0, 0))]]) fun w hw hs => addI_c db 3 (dvC cb D k) 70 k.c 1 w rfl hs) fun _ _ => Nl <| Ps <| Sq <| Rg <| Lv Av <| Nl <| Ps <| Rt <| Rt1 fun w' hw => ?_
    exact ⟨{ k with c := IntKind.i64.wrap (k.c + 1) }, trivial, rfl, by unfold devS dvC; rw [List.length_map]; exact hw.pick (by repeat (first | exact .nil | apply Pick.cons | exact .here | apply Ext.there))⟩
end Go.Proofs.YtjgpnldffhlaoaaGreat
