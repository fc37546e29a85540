/- A device's lines: superblock and clock. -/
import Derived.Test.YtjgpnldffhlaoaaGreatRvC
import Derived.Lib.Hide
namespace Go.Proofs.YtjgpnldffhlaoaaGreat
open Go Go.RowKit V
set_option linter.unusedVariables false
set_option maxRecDepth 100000
instance : Und Tryz.prog 91 (dOf Tryz.underlying91) := ⟨Tryz.underlying91⟩
instance : Siz Tryz.prog 91 (kOf Tryz.sizeOf91) := ⟨Tryz.sizeOf91⟩
instance : AgT Tryz.prog 91 := ⟨Tryz.isAgg91⟩
instance : Zer Tryz.prog 91 (zOf Tryz.zeroValue91) := ⟨Tryz.zeroValue91⟩
instance : Cal Tryz.prog 70 := ⟨Tryz.call70⟩
instance : Cal Tryz.prog 109 := ⟨Tryz.call109⟩
open V (str byC ownV ownG ownS ownOk)
def padB (l : List UInt8) : List UInt8 := l ++ List.replicate (64 - l.length) 0
theorem padB_len {l : List UInt8} (h : l.length ≤ 64) : (padB l).length = 64 := by unfold padB; simp; omega
/-- A line that begins so, and its sum. -/
def sealL (l : List UInt8) : List UInt8 := putN (padB l) 9 (IntKind.u64.wrap (sumF l)) 4
theorem sealL_len {l : List UInt8} (h : l.length ≤ 64) : (sealL l).length = 64 := by unfold sealL; rw [putN_len, padB_len h]
theorem sum_fit (l : List UInt8) : fitB (IntKind.u64.wrap (sumF l)) 4 = true := by
  have h : 0 ≤ sumF l ∧ sumF l < 4294967296 := by
    unfold sumF xorI
    rw [IntKind.wrap_u32]
    omega
  rw [IntWalk.u64_in _ (by omega)]
  unfold fitB
  have h2 : (sumF l).fdiv (2 ^ (min ((8 : Int) * ((4 : Nat) : Int)).toNat IntKind.u64.bits)) = 0 := by
    have e : (2 : Int) ^ (min ((8 : Int) * ((4 : Nat) : Int)).toNat IntKind.u64.bits) = 4294967296 := by decide
    rw [e, Int.fdiv_eq_ediv_of_nonneg _ (by omega)]
    omega
  rw [h2]
  simp
theorem putR_fit {l : List UInt8} {at_ : Nat} {v : Int} {n : Nat} (h : fitB v n = true) : putR l at_ v n = putN l at_ v n := by unfold putR; rw [if_pos h]
theorem some_of {n : Nat} {xs : List Value} {o : V.OwnO} (h : ownOk 1 n xs o) (hn : 0 < n) : ∃ g r c, o = some (g, r, c) := by
  rcases o with _ | ⟨g, r, c⟩
  · have h0 : n = 0 := h.2
    omega
  · exact ⟨g, r, c, rfl⟩
theorem pad_copy (l : List UInt8) (h : l.length ≤ 64) : (byC z64.1).take 0 ++ byC l ++ (byC z64.1).drop (0 + (byC l).length) = byC (padB l) := by
  unfold padB z64
  rw [V.byC_append, V.byC_len, Nat.zero_add, List.take_zero, List.nil_append]
  congr 1
  show List.drop l.length (List.map _ (List.replicate 64 0)) = List.map _ (List.replicate (64 - l.length) 0)
  rw [List.map_replicate, List.map_replicate, List.drop_replicate]
theorem sealed_c (l : List UInt8) (p : Option Addr) (cp : Nat) (h0 : 0 < l.length) (h64 : l.length ≤ 64) (w : World) (hp : V.slAt w p 1 byE l) : Calls Tryz.prog 71 [.slice p l.length cp].toArray w fun e w' => e = .returned (.agg (byC (sealL l)).toArray) ∧ Below w.heap.size w w' := by
  obtain ⟨pb, po, rfl, hpr⟩ := sl_range (F := []) byE_len hp h0 (by simp)
  refine V.calls [] Tryz.func71 rfl Tryz.ntmps71 (Nat.le_of_ble_eq_true rfl) (V.sat_nil _) <| Sq <| Rg <| Le (AA (l := byC z64.1) (hz := by exact Tryz.zeroValue91)) fun b2 _ => Nl <| Ps <| Sq <| Rg <| Le (AA (l := byC z64.1) (hz := by exact Tryz.zeroValue91)) fun b3 _ => Nl <| Ps <| Sq <| Rg <| Lv (Val.sliceArr 0 64 rfl Tryz.underlying91 Tryz.sizeOf5 rfl rfl (by omega) (by omega)) <| LW.re 6 (.slice (some ⟨b3, 0, none⟩) 64 64) rfl (by simp) <| Lv Mv <| Le (Eff.copyT (cs := byC l) (gb := b3) (cur := (byC z64.1)) (cells' := (byC (padB l))) (m := l.length) (sz := 1) rfl rfl Tryz.underlying73 (by kernel_rfl) (by repeat (first | exact .here | exact .inner .here | exact .inner (.inner .here) | apply Upd.there)) (pad_copy l h64) (show min (l.length) (64) = _ from by omega) (by rw [V.byC_len, Nat.mul_one]) (fun w1 hw1 j u hj => by rw [Addr.add_mid]; exact (hpr w1 hw1) j u (by rw [← byC_flat]; exact hj)) (by rw [V.byC_len, byC64]; omega) (V.byC_one _)) fun _ _ => Nl <| Ps <| Sq <| Dr ([]) <| Rv 0 rfl (Val.sliceArr 0 64 rfl Tryz.underlying91 Tryz.sizeOf5 rfl rfl (by omega) (by omega)) <| RW.re 10 (.slice (some ⟨b3, 0, none⟩) (padB l).length 64) rfl (by rw [padB_len h64]; simp) <| Rv 1 rfl Mv <| Re 2 rfl (CV fun w hw => sum_c l _ cp (by omega) w (hw.slAt hp (by simp [ids]))) fun _ _ => Rv 3 rfl Cv <| Re 4 rfl (CM [] fun w hw hs0 => put_c (padB l) _ 64 9 4 (IntKind.u64.wrap (sumF l)) (by omega) (by rw [padB_len h64]; omega) (by rw [padB_len h64]; omega) w (V.slAt_flat (r := []) hw byE_len (by rw [byC_flat, List.append_nil]) (show InS (b3, .cells (byC (padB l)).toArray 91 (0, 0)) _ from (by repeat (first | exact .here | exact .inner .here | exact .inner (.inner .here) | refine .there ?_))))) fun o ho => ?_
  rw [putR_fit (sum_fit l), sum_fit l] at *
  obtain ⟨gb, rest, cap, rfl⟩ := some_of ho (by rw [putN_len, padB_len h64]; omega)
  refine Rv 5 rfl Mv <| Rv 6 rfl Ex <| Rv 7 rfl Ex <| Rv 8 rfl Av <| RW.re 4 (.slice (some ⟨gb, 0, none⟩) 64 cap) rfl (by rw [putN_len, padB_len h64]; rfl) <| Rv 9 rfl Av <| Rd <| Ps <| Sq <| Rg <| Lv (Val.sliceArr 0 64 rfl Tryz.underlying91 Tryz.sizeOf5 rfl rfl (by omega) (by omega)) <| LW.re 17 (.slice (some ⟨b3, 0, none⟩) 64 64) rfl (by simp) <| Lv Mv <| Le (Eff.copyT (cs := byC (sealL l)) (gb := b3) (cur := (byC (padB l))) (cells' := (byC (sealL l))) (m := 64) (sz := 1) rfl rfl Tryz.underlying73 (by kernel_rfl) (by repeat (first | exact .here | exact .inner .here | exact .inner (.inner .here) | apply Upd.there)) (by rw [V.byC_len, sealL_len h64, List.drop_eq_nil_iff.2 (by rw [V.byC_len, padB_len h64]; omega)]; simp) (show min (64) (64) = _ from by omega) (by rw [V.byC_len, Nat.mul_one]; exact sealL_len h64) (fun w1 hw1 j u hj => by rw [Addr.add_mid]; exact (V.range_of_block (o := 0) (r := rest) (hw1.at (b := gb)) rfl) j u (by rw [← byC_flat]; exact hj)) (by rw [V.byC_len, V.byC_len, sealL_len h64, padB_len h64]; omega) (V.byC_one _)) fun _ _ => Nl <| Ps <| Sq <| Rg <| Lv (Lw (l := byC (sealL l)) (hs := by rw [V.byC_len, sealL_len h64]; exact Tryz.sizeOf91)) <| LeN (StW (cs := byC (sealL l)) (hlen := by rw [V.byC_len (sealL l), sealL_len h64]; exact byC64 z64) (hs := by rw [V.byC_len, sealL_len h64]; exact Tryz.sizeOf91) (h1 := V.byC_one _)) fun _ _ => Nl <| Ps <| Rt <| V.PQ.retC (l := byC (sealL l)) rfl rfl (by repeat (first | exact .here | exact .inner .here | exact .inner (.inner .here) | refine .there ?_)) Tryz.isAgg91 (by rw [V.byC_len, sealL_len h64]; exact Tryz.sizeOf91) ?_
  intro w' hw; exact ⟨rfl, hw.below⟩
end Go.Proofs.YtjgpnldffhlaoaaGreat
