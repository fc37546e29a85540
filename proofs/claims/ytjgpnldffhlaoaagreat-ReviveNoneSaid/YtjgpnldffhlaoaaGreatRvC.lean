/- Numbers in bytes; sums. -/
import Derived.Test.YtjgpnldffhlaoaaGreatRvB
import Derived.Lib.Hide
namespace Go.Proofs.YtjgpnldffhlaoaaGreat
open Go Go.RowKit V
set_option linter.unusedVariables false
set_option maxRecDepth 100000
instance : Und Tryz.prog 29 (dOf Tryz.underlying29) := ⟨Tryz.underlying29⟩
instance : Siz Tryz.prog 29 (kOf Tryz.sizeOf29) := ⟨Tryz.sizeOf29⟩
instance : AgF Tryz.prog 29 := ⟨Tryz.isAgg29⟩
instance : Zer Tryz.prog 29 (zOf Tryz.zeroValue29) := ⟨Tryz.zeroValue29⟩
instance : Und Tryz.prog 44 (dOf Tryz.underlying44) := ⟨Tryz.underlying44⟩
instance : Siz Tryz.prog 44 (kOf Tryz.sizeOf44) := ⟨Tryz.sizeOf44⟩
instance : AgF Tryz.prog 44 := ⟨Tryz.isAgg44⟩
instance : Zer Tryz.prog 44 (zOf Tryz.zeroValue44) := ⟨Tryz.zeroValue44⟩
instance : Cal Tryz.prog 108 := ⟨Tryz.call108⟩
instance : Cal Tryz.prog 121 := ⟨Tryz.call121⟩
instance : Cal Tryz.prog 126 := ⟨Tryz.call126⟩
open V (str byC ownV ownG ownS ownOk)
theorem check_c (p : Option Addr) (L cp at_ n : Nat) (h1 : 1 ≤ n ∧ n ≤ 8) (h2 : at_ + n ≤ L) (h3 : L ≤ 100000) (w : World) : Calls Tryz.prog 108 [.slice p L cp, .int .i64 (at_ : Nat), .int .i64 (n : Nat)].toArray w fun e w' => e = .returned (.int .i64 0) ∧ Below w.heap.size w w' := by
  refine V.calls [] Tryz.func108 rfl Tryz.ntmps108 (Nat.le_of_ble_eq_true rfl) (V.sat_nil _) <| Sq <| Rg <| Lv Av <| Nl <| Ps <| Sq <| Sq <| Rg <| Lv Mv <| Lv Cm <| LW.re 8 (.bool false) rfl (by first | (simp; done) | (simp; omega)) <| Lv Mv <| Lv Mv <| Lv Cm <| LW.re 11 (.bool false) rfl (by first | (simp; done) | (simp; omega)) <| Lv Pf <| Nl <| Ps <| Cf <| Sk <| Ps <| Sq <| Sq <| Rg <| Lv Mv <| Lv Cm <| LW.re 14 (.bool false) rfl (by first | (simp; done) | (simp; omega)) <| Lv Mv <| Lv Mv <| Lv Mv <| Lv Ln <| Lv Mv <| Lv Ar <| Lv Cm <| LW.re 21 (.bool false) rfl (by first | (simp; done) | (simp; omega)) <| Lv Pf <| Nl <| Ps <| Cf <| Sk <| Ps <| Sq <| Rg <| Lv Av <| Nl <| Ps <| Rt <| Rt1 ?_
  intro w hw; exact ⟨rfl, hw.below⟩
def shB (v : Int) (i : Nat) : UInt8 := UInt8.ofNat (IntKind.u8.wrap (v.fdiv (2 ^ (min ((8 : Int) * (i : Nat)).toNat IntKind.u64.bits)))).toNat
theorem u8_byte (x : Int) : IntKind.u8.wrap x = (((UInt8.ofNat (IntKind.u8.wrap x).toNat).toNat : Nat) : Int) := by
  rw [IntKind.wrap_u8]
  simp
  omega
/-- A number laid into bytes. -/
def putN (l : List UInt8) (at_ : Nat) (v : Int) : Nat → List UInt8
  | 0 => l
  | n + 1 => (putN l at_ v n).set (at_ + n) (shB v n)
theorem putN_len (l : List UInt8) (at_ : Nat) (v : Int) : ∀ n, (putN l at_ v n).length = l.length
  | 0 => rfl
  | n + 1 => by rw [putN, List.length_set, putN_len l at_ v n]
def fitB (v : Int) (n : Nat) : Bool := !(decide ((n : Int) < 8) && (v.fdiv (2 ^ (min ((8 : Int) * (n : Nat)).toNat IntKind.u64.bits)) != 0))
def putR (l : List UInt8) (at_ : Nat) (v : Int) (n : Nat) : List UInt8 := if fitB v n = true then putN l at_ v n else []
theorem set_byE (l : List UInt8) (rest : List Value) (i : Nat) (u : UInt8) (h : i < l.length) : (l.flatMap byE ++ rest).set (0 + i * 1) (.int .u8 (u.toNat : Nat)) = (l.set i u).flatMap byE ++ rest := by
  have h8 := V.splice_flat byE_len l i u rest h
  rw [Nat.zero_add]
  exact h8
theorem put_c (l : List UInt8) (p : Option Addr) (cp at_ n : Nat) (v : Int) (h1 : 1 ≤ n ∧ n ≤ 8) (h2 : at_ + n ≤ l.length) (h3 : l.length ≤ 1000) (w : World) (hp : V.slAt w p 1 byE l) : Calls Tryz.prog 70 [.slice p l.length cp, .int .i64 (at_ : Nat), .int .i64 (n : Nat), .int .u64 v].toArray w fun e w' => ∃ o : V.OwnO, ownOk 1 (putR l at_ v n).length ((putR l at_ v n).flatMap byE) o ∧ e = .returned (.tuple #[ownV (putR l at_ v n).length o, .int .i64 (if fitB v n = true then 0 else 11)]) ∧ Hp ⟨w, []⟩ [ownG 5 ((putR l at_ v n).flatMap byE) o] w' := by
  refine V.calls [] Tryz.func70 rfl Tryz.ntmps70 (Nat.le_of_ble_eq_true rfl) (V.sat_nil _) <| Sq <| Rg <| Lv Av <| Lv Av <| Nl <| Ps <| Sq <| Sq <| Rg <| Lv Mv <| Lv Mv <| Lv Mv <| Le (CV fun w hw => check_c p l.length cp at_ n h1 h2 (by omega) w) fun _ _ => Lv Av <| Nl <| Ps <| Sq <| Rg <| Lv Mv <| Lv Cm <| LW.re 18 (.bool false) rfl (by rfl) <| Nl <| Ps <| Cf <| Sk <| Ps <| Sq <| Sq <| Rg <| Lv Mv <| Lv Cm <| Lv Mv ?_
  refine LW.split (d := 22) rfl (fun h22 => ?_) (fun h22 => ?_)
  · replace h22 := bT h22
    have h22 : (n : Int) < 8 := h22
    refine Lv Mv <| Lv Mv <| Lv Ar <| Lv (Val.shr rfl rfl (by omega)) <| Lv Cm <| Lv Pt <| Nl <| Ps ?_
    refine CW.cond rfl (fun h28 => ?_) (fun h28 => ?_)
    · replace h28 := bT h28
      refine Sq <| Rg <| Lv Av <| Lv Av <| Nl <| Ps <| Rt <| Tr <| Rt2 ?_
      have hf : fitB v n = false := by unfold fitB; simp_all
      have hr : putR l at_ v n = [] := by unfold putR; rw [if_neg (by simp [hf])]
      rw [hr, hf]
      intro w' hw; exact ⟨none, ⟨rfl, rfl⟩, rfl, (hw.pick (ss := []) .nil).perm (.refl _)⟩
    · replace h28 := bF h28
      have hfit : fitB v n = true := by unfold fitB; simp_all
      refine Sk <| Ps <| Sq <| Rg <| Lv Mv <| Le (CM [] fun w hw hs0 => cloneB_c l p _ cp rfl (by omega) w (hw.slAt hp (by simp [ids]))) fun o ho => ?_
      obtain ⟨⟨gb, rest, cap⟩, rfl⟩ : ∃ q, o = some q := by
        rcases o with _ | q
        · have h9 : l.length = 0 := ho.2
          omega
        · exact ⟨q, rfl⟩
      refine LW.re 30 (.slice (some ⟨gb, 0, none⟩) l.length cap) rfl (by rfl) <| Lv Av <| Nl <| Ps <| Sq <| Sq <| Rg <| Lv Mv <| Lv Mv <| Nl <| Ps <| Bk ?_
      refine V.CW.perm (sg' := [[(gb, .cells ((putN l at_ v 0).flatMap byE ++ rest).toArray 5 (0, 0))]]) ?_ (by simp [V.ownG, V.ownS, putN])
      refine loopA (γ := Nat) (fun j => [(1, .int .i64 (at_ : Nat)), (3, .int .u64 v), (11, .slice (some ⟨gb, 0, none⟩) l.length cap), (31, .int .i64 (n : Nat)), (32, .int .i64 (j : Nat))]) (fun j => [[(gb, .cells ((putN l at_ v j).flatMap byE ++ rest).toArray 5 (0, 0))]]) (fun j => j ≤ n) (fun j => n - j) (0) (Nat.zero_le _) fun j hj => Sq <| Rg <| Lv Cm <| Nl <| Ps <| Sq ?_
      refine CW.cond rfl (fun h33 => ?_) (fun h33 => ?_)
      · replace h33 := bT h33
        refine Sk <| Ps <| Sq <| Bk <| Sq <| Rg <| Lv Mv <| Lv Av <| Nl <| Ps <| Rg <| Lv Mv <| Lv Mv <| Lv Mv <| Lv Ar <| LW.re 38 (.int .i64 ((at_ + j : Nat) : Int)) rfl (by congr 1) <| Lv Mv <| Lv Mv <| Lv Ar <| Lv (Val.shr rfl rfl (by omega)) <| Lv Cv <| LW.re 43 (.int .u8 ((shB v j).toNat : Nat)) rfl (by congr 1; exact u8_byte _) <| Lv (Val.indexAddrN (i := at_ + j) rfl rfl Tryz.underlying73 Tryz.sizeOf5 (by omega)) <| LeN (Eff.storeX (l' := (putN l at_ v (j + 1)).flatMap byE ++ rest) rfl rfl rfl (by repeat (first | exact .here | exact .inner .here | exact .inner (.inner .here) | apply Upd.there)) (set_byE _ rest (at_ + j) (shB v j) (by rw [putN_len]; omega)) (by rw [List.length_append, V.flatMap_len byE_len, putN_len]; omega) Tryz.sizeOf5) fun _ _ => Nl <| Bn <| Ps <| Rg <| Lv Ar <| Lv Mv <| Nl ?_
        exact roundA (j + 1) (by omega) (by omega)
      · replace h33 := bF h33
        refine Xt <| Te <| Te <| Bh <| Ps <| Sq <| Rg <| Lv Mv <| Lv Av <| Lv Av <| Nl <| Ps <| Rt <| Rt2 ?_
        have hfit : fitB v n = true := by first | assumption | (unfold fitB; simp; omega)
        have hj9 : j = n := by omega
        subst hj9
        have hr : putR l at_ v j = putN l at_ v j := by unfold putR; rw [if_pos hfit]
        rw [hr, hfit]
        intro w' hw; exact ⟨some (gb, rest, cap), ⟨V.flatMap_len byE_len _, by rw [V.flatMap_len byE_len, putN_len]; have h8 : (l.flatMap byE).length + rest.length = cap * 1 := ho.2; rw [V.flatMap_len byE_len] at h8; exact h8⟩, by rw [putN_len]; rfl, hw.pick (by repeat (first | exact .nil | apply Pick.cons | exact .here | apply Ext.there))⟩
  · replace h22 := bF h22
    have h22 : 8 ≤ (n : Int) := h22
    refine Lp <| Lp <| Lp <| Lp <| Lp <| Lv Pf <| Nl <| Ps <| Cf <| Sk <| Ps <| Sq <| Rg <| Lv Mv <| Le (CM [] fun w hw hs0 => cloneB_c l p _ cp rfl (by omega) w (hw.slAt hp (by simp [ids]))) fun o ho => ?_
    obtain ⟨⟨gb, rest, cap⟩, rfl⟩ : ∃ q, o = some q := by
      rcases o with _ | q
      · have h9 : l.length = 0 := ho.2
        omega
      · exact ⟨q, rfl⟩
    refine LW.re 30 (.slice (some ⟨gb, 0, none⟩) l.length cap) rfl (by rfl) <| Lv Av <| Nl <| Ps <| Sq <| Sq <| Rg <| Lv Mv <| Lv Mv <| Nl <| Ps <| Bk ?_
    refine V.CW.perm (sg' := [[(gb, .cells ((putN l at_ v 0).flatMap byE ++ rest).toArray 5 (0, 0))]]) ?_ (by simp [V.ownG, V.ownS, putN])
    refine loopA (γ := Nat) (fun j => [(1, .int .i64 (at_ : Nat)), (3, .int .u64 v), (11, .slice (some ⟨gb, 0, none⟩) l.length cap), (31, .int .i64 (n : Nat)), (32, .int .i64 (j : Nat))]) (fun j => [[(gb, .cells ((putN l at_ v j).flatMap byE ++ rest).toArray 5 (0, 0))]]) (fun j => j ≤ n) (fun j => n - j) (0) (Nat.zero_le _) fun j hj => Sq <| Rg <| Lv Cm <| Nl <| Ps <| Sq ?_
    refine CW.cond rfl (fun h33 => ?_) (fun h33 => ?_)
    · replace h33 := bT h33
      refine Sk <| Ps <| Sq <| Bk <| Sq <| Rg <| Lv Mv <| Lv Av <| Nl <| Ps <| Rg <| Lv Mv <| Lv Mv <| Lv Mv <| Lv Ar <| LW.re 38 (.int .i64 ((at_ + j : Nat) : Int)) rfl (by congr 1) <| Lv Mv <| Lv Mv <| Lv Ar <| Lv (Val.shr rfl rfl (by omega)) <| Lv Cv <| LW.re 43 (.int .u8 ((shB v j).toNat : Nat)) rfl (by congr 1; exact u8_byte _) <| Lv (Val.indexAddrN (i := at_ + j) rfl rfl Tryz.underlying73 Tryz.sizeOf5 (by omega)) <| LeN (Eff.storeX (l' := (putN l at_ v (j + 1)).flatMap byE ++ rest) rfl rfl rfl (by repeat (first | exact .here | exact .inner .here | exact .inner (.inner .here) | apply Upd.there)) (set_byE _ rest (at_ + j) (shB v j) (by rw [putN_len]; omega)) (by rw [List.length_append, V.flatMap_len byE_len, putN_len]; omega) Tryz.sizeOf5) fun _ _ => Nl <| Bn <| Ps <| Rg <| Lv Ar <| Lv Mv <| Nl ?_
      exact roundA (j + 1) (by omega) (by omega)
    · replace h33 := bF h33
      refine Xt <| Te <| Te <| Bh <| Ps <| Sq <| Rg <| Lv Mv <| Lv Av <| Lv Av <| Nl <| Ps <| Rt <| Rt2 ?_
      have hfit : fitB v n = true := by first | assumption | (unfold fitB; simp; omega)
      have hj9 : j = n := by omega
      subst hj9
      have hr : putR l at_ v j = putN l at_ v j := by unfold putR; rw [if_pos hfit]
      rw [hr, hfit]
      intro w' hw; exact ⟨some (gb, rest, cap), ⟨V.flatMap_len byE_len _, by rw [V.flatMap_len byE_len, putN_len]; have h8 : (l.flatMap byE).length + rest.length = cap * 1 := ho.2; rw [V.flatMap_len byE_len] at h8; exact h8⟩, by rw [putN_len]; rfl, hw.pick (by repeat (first | exact .nil | apply Pick.cons | exact .here | apply Ext.there))⟩
/-- A number out of bytes. -/
def getStep (v : Int) (b : UInt8) (i : Nat) : Int := IntKind.u64.wrap (BitVec.ofInt IntKind.u64.bits v ||| BitVec.ofInt IntKind.u64.bits (IntKind.u64.wrap (IntKind.u64.wrap ((b.toNat : Nat) : Int) * 2 ^ (min ((8 : Int) * (i : Nat)).toNat IntKind.u64.bits)))).toNat
def getN (l : List UInt8) (at_ : Nat) : Nat → Int
  | 0 => 0
  | n + 1 => getStep (getN l at_ n) (l.getD (at_ + n) 0) n
theorem get_c (l : List UInt8) (p : Option Addr) (cp at_ n : Nat) (h1 : 1 ≤ n ∧ n ≤ 8) (h2 : at_ + n ≤ l.length) (h3 : l.length ≤ 1000) (w : World) (hp : V.slAt w p 1 byE l) : Calls Tryz.prog 74 [.slice p l.length cp, .int .i64 (at_ : Nat), .int .i64 (n : Nat)].toArray w fun e w' => e = .returned (.tuple #[.int .u64 (getN l at_ n), .int .i64 0]) ∧ Below w.heap.size w w' := by
  obtain ⟨pb, po, _, rfl, hpb, _, hpr⟩ := V.slAt_at hp rfl (k := 0) (by omega)
  refine V.calls [] Tryz.func74 rfl Tryz.ntmps74 (Nat.le_of_ble_eq_true rfl) (V.sat_nil _) <| Sq <| Rg <| Lv Av <| Lv Av <| Nl <| Ps <| Sq <| Sq <| Rg <| Lv Mv <| Lv Mv <| Lv Mv <| Le (CV fun w hw => check_c _ l.length cp at_ n h1 h2 (by omega) w) fun _ _ => Lv Av <| Nl <| Ps <| Sq <| Rg <| Lv Mv <| Lv Cm <| LW.re 16 (.bool false) rfl (by rfl) <| Nl <| Ps <| Cf <| Sk <| Ps <| Sq <| Rg <| Lv Av <| Nl <| Ps <| Sq <| Sq <| Rg <| Lv Mv <| Lv Mv <| Nl <| Ps <| Bk <| loopA (γ := Nat) (fun j => [(0, .slice (some ⟨pb, po, none⟩) l.length cp), (1, .int .i64 (at_ : Nat)), (9, .int .u64 (getN l at_ j)), (18, .int .i64 (n : Nat)), (19, .int .i64 (j : Nat))]) (fun _ => []) (fun j => j ≤ n) (fun j => n - j) (0) (Nat.zero_le _) fun j hj => Sq <| Rg <| Lv Cm <| Nl <| Ps <| Sq ?_
  refine CW.cond rfl (fun h20 => ?_) (fun h20 => ?_)
  · replace h20 := bT h20
    obtain ⟨u, huj⟩ : ∃ u, l[at_ + j]? = some u := ⟨_, List.getElem?_eq_getElem (show at_ + j < l.length by omega)⟩
    have hu : l.getD (at_ + j) 0 = u := by rw [List.getD_eq_getElem?_getD, huj]; rfl
    refine Sk <| Ps <| Sq <| Bk <| Sq <| Rg <| Lv Mv <| Lv Av <| Nl <| Ps <| Rg <| Lv Mv <| Lv Mv <| Lv Mv <| Lv Mv <| Lv Ar <| LW.re 26 (.int .i64 ((at_ + j : Nat) : Int)) rfl (by congr 1) <| Lv (Val.indexAddrN (i := at_ + j) rfl rfl Tryz.underlying73 Tryz.sizeOf5 (by omega)) <| Lv (Val.loadO rfl Tryz.isAgg5 hpb (by simp [ids]) (hpr _ u huj 0 _ rfl)) <| Lv Cv <| Lv Mv <| Lv Ar <| Lv (Val.shl rfl rfl (by omega)) <| Lv (Val.or rfl rfl) <| LW.re 33 (.int .u64 (getN l at_ (j + 1))) rfl (by rw [getN, hu]; rfl) <| Lv Av <| Nl <| Bn <| Ps <| Rg <| Lv Ar <| Lv Mv <| Nl ?_
    exact roundA (j + 1) (by omega) (by omega)
  · replace h20 := bF h20
    refine Xt <| Te <| Te <| Bh <| Ps <| Sq <| Rg <| Lv Mv <| Lv Av <| Lv Av <| Nl <| Ps <| Rt <| Rt2 ?_
    have hj9 : j = n := by omega
    subst hj9
    intro w' hw; exact ⟨rfl, hw.below⟩
def xorI (a b : Int) : Int := IntKind.u32.wrap (BitVec.ofInt IntKind.u32.bits a ^^^ BitVec.ofInt IntKind.u32.bits b).toNat
def stepOne (c : Int) : Int := if c.tmod 2 = 0 then IntKind.u32.wrap (c.tdiv 2) else xorI (IntKind.u32.wrap (c.tdiv 2)) 3988292384
def stepK : Nat → Int → Int
  | 0, c => c
  | k + 1, c => stepOne (stepK k c)
def stepB (c : Int) (b : UInt8) : Int := stepK 8 (xorI c (IntKind.u32.wrap ((b.toNat : Nat) : Int)))
def sumF (l : List UInt8) : Int := xorI (l.foldl stepB (xorI 0 4294967295)) 4294967295
theorem step_c (c : Int) (b : UInt8) (w : World) : Calls Tryz.prog 126 [.int .u32 c, .int .u8 ((b.toNat : Nat) : Int)].toArray w fun e w' => e = .returned (.int .u32 (stepB c b)) ∧ Below w.heap.size w w' := by
  refine V.calls [] Tryz.func126 rfl Tryz.ntmps126 (Nat.le_of_ble_eq_true rfl) (V.sat_nil _) <| Sq <| Rg <| Lv Av <| Nl <| Ps <| CW.scope <| Sq <| Rg <| Lv Mv <| Lv Mv <| Lv Cv <| Lv (Val.xor rfl rfl) <| LW.re 9 (.int .u32 (xorI c (IntKind.u32.wrap ((b.toNat : Nat) : Int)))) rfl (by rfl) <| Lv Av <| Nl <| Ps <| Sq <| Rg <| Lv Av <| Nl <| Ps <| Sq <| CW.label <| Ps <| Sq <| Bk <| loopA (γ := Nat) (fun j => [(0, .int .u32 (stepK j (xorI c (IntKind.u32.wrap ((b.toNat : Nat) : Int))))), (5, .int .i64 (j : Nat))]) (fun _ => []) (fun j => j ≤ 8) (fun j => 8 - j) (0) (by omega) fun j hj => Sq <| Sq <| Rg <| Lv Mv <| Lv Cm <| Nl <| Ps ?_
  refine CW.cond rfl (fun h11 => ?_) (fun h11 => ?_)
  · replace h11 := bT h11
    refine Sk <| Ps <| Bk <| Sq <| Rg <| Lv Mv <| Lv Ar <| Lv Av <| Nl <| Ps <| Sq <| Sq <| Rg <| Lv Mv <| Lv (Val.rem rfl rfl (by omega)) <| Lv Cm <| Nl <| Ps ?_
    refine CW.cond rfl (fun h16 => ?_) (fun h16 => ?_)
    · replace h16 := bT h16
      have h16 : (stepK j (xorI c (IntKind.u32.wrap ((b.toNat : Nat) : Int)))).tmod 2 = 0 := h16
      refine Sq <| Rg <| Lv Mv <| Lv (Val.quo rfl rfl (by omega)) <| LW.re 18 (.int .u32 (stepK (j + 1) (xorI c (IntKind.u32.wrap ((b.toNat : Nat) : Int))))) rfl (by rw [stepK, stepOne, if_pos h16]) <| Lv Av <| Nl <| Ps <| Xt <| Te <| Bh ?_
      exact roundA (j + 1) (by omega) (by omega)
    · replace h16 := bF h16
      have h16 : ¬ (stepK j (xorI c (IntKind.u32.wrap ((b.toNat : Nat) : Int)))).tmod 2 = 0 := h16
      refine Sk <| Ps <| Rg <| Lv Mv <| Lv (Val.quo rfl rfl (by omega)) <| Lv (Val.xor rfl rfl) <| LW.re 21 (.int .u32 (stepK (j + 1) (xorI c (IntKind.u32.wrap ((b.toNat : Nat) : Int))))) rfl (by rw [stepK, stepOne, if_neg h16]; rfl) <| Lv Av <| Nl <| Bn ?_
      exact roundA (j + 1) (by omega) (by omega)
  · replace h11 := bF h11
    refine Xt <| Te <| Te <| Bh <| Ps <| Sq <| Rg <| Lv Mv <| Lv Av <| Nl <| Ps <| Rt <| Bs <| Rt1 ?_
    have hj9 : j = 8 := by omega
    subst hj9
    intro w' hw; exact ⟨rfl, hw.below⟩
theorem fold_take {l : List UInt8} {j : Nat} {u : UInt8} (h : l[j]? = some u) (c : Int) : (l.take (j + 1)).foldl stepB c = stepB ((l.take j).foldl stepB c) u := by rw [List.take_add_one, h, List.foldl_append]; rfl
theorem sumAdd_c (l : List UInt8) (p : Option Addr) (cp : Nat) (hl : l.length ≤ 100000) (w : World) (hp : V.slAt w p 1 byE l) : Calls Tryz.prog 121 [.int .u32 0, .slice p l.length cp].toArray w fun e w' => e = .returned (.int .u32 (sumF l)) ∧ Below w.heap.size w w' := by
  refine V.calls [] Tryz.func121 rfl Tryz.ntmps121 (Nat.le_of_ble_eq_true rfl) (V.sat_nil _) <| Sq <| Rg <| Lv Av <| Nl <| Ps <| Sq <| Rg <| Lv Mv <| Lv (Val.xor rfl rfl) <| LW.re 8 (.int .u32 (xorI 0 4294967295)) rfl (by rfl) <| Lv Av <| Nl <| Ps <| Sq <| Sq <| Rg <| Lv Mv <| Lv Ln <| Lv Mv <| Nl <| Ps <| Bk <| loopA (γ := Nat) (fun j => [(0, .int .u32 ((l.take j).foldl stepB (xorI 0 4294967295))), (9, .slice p l.length cp), (10, .int .i64 (l.length : Nat)), (11, .int .i64 (j : Nat))]) (fun _ => []) (fun j => j ≤ l.length) (fun j => l.length - j) (0) (Nat.zero_le _) fun j hj => Sq <| Rg <| Lv Cm <| Nl <| Ps <| Sq ?_
  refine CW.cond rfl (fun h12 => ?_) (fun h12 => ?_)
  · replace h12 := bT h12
    obtain ⟨pb, po, u, rfl, hpb, huj, hpr⟩ := V.slAt_at hp rfl (k := j) (by omega)
    refine Sk <| Ps <| Sq <| Bk <| Sq <| Rg <| Lv Ix <| Lv (Val.loadO rfl Tryz.isAgg5 hpb (by simp [ids]) (hpr j u huj 0 _ rfl)) <| Lv Av <| Nl <| Ps <| Rg <| Lv Mv <| Lv Mv <| Le (CV fun w hw => step_c ((l.take j).foldl stepB (xorI 0 4294967295)) u w) fun _ _ => LW.re 17 (.int .u32 ((l.take (j + 1)).foldl stepB (xorI 0 4294967295))) rfl (by rw [fold_take huj]) <| Lv Av <| Nl <| Bn <| Ps <| Rg <| Lv Ar <| Lv Mv <| Nl ?_
    exact roundA (j + 1) (by omega) (by omega)
  · replace h12 := bF h12
    have hte : l.take j = l := List.take_of_length_le (by omega)
    refine Xt <| Te <| Te <| Bh <| Ps <| Sq <| Rg <| Lv Mv <| Lv (Val.xor rfl rfl) <| LW.re 20 (.int .u32 (sumF l)) rfl (by rw [hte]; rfl) <| Lv Av <| Nl <| Ps <| Rt <| Rt1 ?_
    intro w' hw; exact ⟨rfl, hw.below⟩
theorem sum_c (l : List UInt8) (p : Option Addr) (cp : Nat) (hl : l.length ≤ 100000) (w : World) (hp : V.slAt w p 1 byE l) : Calls Tryz.prog 109 [.slice p l.length cp].toArray w fun e w' => e = .returned (.int .u32 (sumF l)) ∧ Below w.heap.size w w' := by
  refine V.calls [] Tryz.func109 rfl Tryz.ntmps109 (Nat.le_of_ble_eq_true rfl) (V.sat_nil _) <| Sq <| Rg <| Lv Av <| Nl <| Ps <| Sq <| Rg <| Lv Mv <| Le (CV fun w hw => sumAdd_c l p cp hl w (hw.slAt hp (by simp [ids]))) fun _ _ => Lv Av <| Nl <| Ps <| Rt <| Rt1 ?_
  intro w' hw; exact ⟨rfl, hw.below⟩
end Go.Proofs.YtjgpnldffhlaoaaGreat
