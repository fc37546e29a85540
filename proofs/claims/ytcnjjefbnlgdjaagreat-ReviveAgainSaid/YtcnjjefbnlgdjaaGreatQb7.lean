import Derived.Test.YtcnjjefbnlgdjaaGreatQb6
import Derived.Lib.Hide
/- The blocks of a pool that are taken. -/
namespace Go.Proofs.YtcnjjefbnlgdjaaGreat
open Go Go.RowKit V
set_option linter.unusedVariables false
set_option maxRecDepth 100000
namespace G
open V (str byC ownV ownG ownS ownOk)
theorem places141 : ∀ w, ((Array.mapM (fun (f : Field) => do pure (f.offset, ← sizeOf f.type)) (Tryz.prog.fieldsOf 141) : Sem (Array (Nat × Nat)))).run Tryz.prog w = .ok [(0, 1), (1, 1)].toArray w := by
  intro w; kernel_rfl
instance : Plc Tryz.prog 141 (fOf Tryz.underlying141) (lOf (P := Tryz.prog) places141) := ⟨places141, Tryz.underlying141⟩
/-- The taken ones of the first so many blocks of a slab; of the first so many slabs. -/
def tkS (i : Int) (s : Slb) (n : Nat) : List (Int × Int) := (List.range n).filterMap fun k => if s.tk.1[k]? = some true then (startsF i s.c)[k]?.map fun l => (l, s.c) else none
def tkL (L : List Slb) (m : Nat) : List (Int × Int) := (List.range m).flatMap fun i => (L[i]?.map fun s => tkS (i : Nat) s (startsF (i : Nat) s.c).length).getD []
theorem tkS_succ (i : Int) (s : Slb) (n : Nat) : tkS i s (n + 1) = tkS i s n ++ (if s.tk.1[n]? = some true then (startsF i s.c)[n]?.map fun l => (l, s.c) else none).toList := by
  unfold tkS
  rw [List.range_succ, List.filterMap_append]
  congr 1
theorem tkL_succ {L : List Slb} {m : Nat} {s : Slb} (h : L[m]? = some s) : tkL L (m + 1) = tkL L m ++ tkS (m : Nat) s (startsF (m : Nat) s.c).length := by
  unfold tkL
  rw [List.range_succ, List.flatMap_append, List.flatMap_singleton, h]; rfl
theorem tkS_le (i : Int) (s : Slb) (n : Nat) : (tkS i s n).length ≤ n := by
  unfold tkS
  have := List.length_filterMap_le (fun k => if s.tk.1[k]? = some true then (startsF i s.c)[k]?.map fun l => (l, s.c) else none) (List.range n)
  rw [List.length_range] at this
  exact this
theorem tkL_le (L : List Slb) : ∀ m, (tkL L m).length ≤ 8 * m
  | 0 => by simp [tkL]
  | m + 1 => by
    have h1 := tkL_le L m
    unfold tkL at h1 ⊢
    rw [List.range_succ, List.flatMap_append, List.flatMap_singleton, List.length_append]
    cases h : L[m]? with
    | none => simp only [Option.map_none, Option.getD_none, List.length_nil]; omega
    | some s =>
      simp only [Option.map_some, Option.getD_some]
      have h2 := tkS_le (m : Nat) s (startsF (m : Nat) s.c).length
      have h3 := starts_len (m : Nat) s.c
      omega
theorem taken_g (pb sb : Nat) (L : List Slb) (hL : L.length ≤ 32) (w : World) (hs : Sat (plS pb sb L) w) : Calls Tryz.prog 29 [.pointer (some ⟨pb, 0, none⟩)].toArray w fun e w' => ∃ o : V.OwnO, ownOk 2 (tkL L L.length).length ((tkL L L.length).flatMap tkC) o ∧ e = .returned (ownV (tkL L L.length).length o) ∧ Hp ⟨w, V.ids ((plS pb sb L))⟩ (ownG 141 ((tkL L L.length).flatMap tkC) o :: plS pb sb L) w' := by
  refine V.calls (plS pb sb L) Tryz.func29 rfl Tryz.ntmps29 (Nat.le_of_ble_eq_true rfl) hs <| Sq <| Rg <| Lv Av <| Nl <| Ps <| Sq <| Rg <| Lv Av <| Nl <| Ps <| Sq <| Sq <| Rg <| Lv Mv <| Le (CV fun w hw => all_c pb sb L w hw.at) fun _ _ => Lv Ln <| Lv Mv <| Nl <| Ps <| Bk <| nilSeg <| loopA (γ := Nat × V.OwnO) (fun a => [(3, ownV (tkL L a.1).length a.2), (9, .slice (some ⟨sb, 0, none⟩) L.length L.length), (10, .int .i64 (L.length : Nat)), (11, .int .i64 (a.1 : Nat))]) (fun a => ownG 141 ((tkL L a.1).flatMap tkC) a.2 :: plS pb sb L) (fun a => a.1 ≤ L.length ∧ ownOk 2 (tkL L a.1).length ((tkL L a.1).flatMap tkC) a.2) (fun a => L.length - a.1) ((0, none)) ⟨Nat.zero_le _, rfl, rfl⟩ fun a => ?_
  rintro ⟨ha1, ha2⟩
  refine Sq <| Rg <| Lv Cm <| Nl <| Ps <| Sq ?_
  refine CW.cond rfl (fun h12 => ?_) (fun h12 => ?_)
  · replace h12 := bT h12
    have hik : a.1 < L.length := by omega
    obtain ⟨s, hLi⟩ : ∃ s, L[a.1]? = some s := ⟨L[a.1]'hik, by simp⟩
    obtain ⟨r7, hr7⟩ := V.drop_flatMap slC_len L a.1 s hLi
    refine Sk <| Ps <| Sq <| Bk <| Sq <| Rg <| Lv Mv <| Lv (Val.indexAddrN (i := a.1) rfl rfl Tryz.underlying152 Tryz.sizeOf156 (by omega)) <| LW.re 14 (.pointer (some ⟨sb, a.1 * 10, none⟩)) rfl (by simp) <| Lv (La (slC s) (r := r7) (hl := hr7) (hs := by rw [slC_len]; exact Tryz.sizeOf156)) <| Le AA fun b5 _ => Lv Av <| LeN (StW (cs := slC s) (h1 := slC_one s) (hlen := by rw [slC_len]; rfl) (hs := by rw [slC_len]; exact Tryz.sizeOf156)) fun _ _ => Nl <| Ps <| Sq <| Rg <| Lv Mv <| Lv (Fa 0 3) <| Lv (Ld (v := .int .i64 s.c)) <| Le (CM [] fun w hw hs0 => starts_c (a.1 : Nat) s.c w) fun o ho => ?_
    obtain ⟨ps, cs, hvs, hss⟩ := own_slI _ o ho
    refine LW.re 19 (.slice ps (startsF (a.1 : Nat) s.c).length cs) rfl hvs <| Lv Ln <| Lv Mv <| Nl <| Ps <| Bk ?_
    have hA0 : tkL L a.1 ++ tkS (a.1 : Nat) s 0 = tkL L a.1 := by simp [tkS]
    rw [← hA0]
    refine loopA (γ := Nat × V.OwnO) (fun b => [(3, ownV (tkL L a.1 ++ tkS (a.1 : Nat) s b.1).length b.2), (4, .int .i64 (a.1 : Nat)), (5, .pointer (some ⟨b5, 0, none⟩)), (9, .slice (some ⟨sb, 0, none⟩) L.length L.length), (10, .int .i64 (L.length : Nat)), (11, .int .i64 (a.1 : Nat)), (19, .slice ps (startsF (a.1 : Nat) s.c).length cs), (20, .int .i64 ((startsF (a.1 : Nat) s.c).length : Nat)), (21, .int .i64 (b.1 : Nat))]) (fun b => ownG 141 ((tkL L a.1 ++ tkS (a.1 : Nat) s b.1).flatMap tkC) b.2 :: [(b5, .cells (slC s).toArray 156 (0, 0))] :: ownG 3 ((startsF (a.1 : Nat) s.c).flatMap inI) o :: plS pb sb L) (fun b => b.1 ≤ (startsF (a.1 : Nat) s.c).length ∧ ownOk 2 (tkL L a.1 ++ tkS (a.1 : Nat) s b.1).length ((tkL L a.1 ++ tkS (a.1 : Nat) s b.1).flatMap tkC) b.2) (fun b => (startsF (a.1 : Nat) s.c).length - b.1) ((0, a.2)) ⟨Nat.zero_le _, by simpa [tkS] using ha2⟩ fun b => ?_
    rintro ⟨hb1, hb2⟩
    refine Sq <| Rg <| Lv Cm <| Nl <| Ps <| Sq ?_
    refine CW.cond rfl (fun h22 => ?_) (fun h22 => ?_)
    · replace h22 := bT h22
      have hk3 : b.1 < (startsF (a.1 : Nat) s.c).length := by omega
      have hsl8 := starts_len (a.1 : Nat) s.c
      obtain ⟨ln, hln⟩ : ∃ ln, (startsF (a.1 : Nat) s.c)[b.1]? = some ln := ⟨(startsF (a.1 : Nat) s.c)[b.1]'hk3, by simp⟩
      obtain ⟨tb, htb⟩ := tk_get s (show b.1 < 8 by omega)
      have hsu := tkS_succ (a.1 : Nat) s b.1
      have hle1 := tkL_le L a.1
      have hle2 := tkS_le (a.1 : Nat) s b.1
      have hAl : (tkL L a.1 ++ tkS (a.1 : Nat) s b.1).length = (tkL L a.1).length + (tkS (a.1 : Nat) s b.1).length := List.length_append
      rcases o with _ | ⟨g, rest, cap⟩
      · exact absurd ho.2 (by omega)
      have hps : ps = some ⟨g, 0, none⟩ := by
        have h8 : ownV (startsF (a.1 : Nat) s.c).length (some (g, rest, cap)) = .slice (some ⟨g, 0, none⟩) (startsF (a.1 : Nat) s.c).length cap := rfl
        rw [h8] at hvs
        injection hvs with h9
        exact h9.symm
      subst hps
      obtain ⟨r9, hr9⟩ := V.drop_flatMap inI_len (startsF (a.1 : Nat) s.c) b.1 ln hln
      have hcl : ((startsF (a.1 : Nat) s.c).flatMap inI ++ rest)[b.1]? = some (.int .i64 ln) := by
        have h6 := V.flatMap_len inI_len (startsF (a.1 : Nat) s.c)
        rw [List.getElem?_append_left (by omega)]
        have h3 := congrArg (fun z => z[0]?) hr9
        simpa [inI] using h3
      refine Sk <| Ps <| Sq <| Bk <| Sq <| Rg <| Lv Mv <| Lv (Val.indexAddrN (i := b.1) rfl rfl Tryz.underlying46 Tryz.sizeOf3 (by omega)) <| LW.re 24 (.pointer (some ⟨g, b.1, none⟩)) rfl (by simp) <| Lv (Ld (v := .int .i64 ln) (hl := hcl)) <| Lv Av <| Lv Av <| Nl <| Ps <| Sq <| Rg <| Lv Mv <| Lv (Fa 1 154) <| Lv (Val.indexAddrA (i := b.1) rfl rfl Tryz.underlying154 Tryz.sizeOf4 (by omega)) <| Lv (Ld (v := .bool tb) (hl := by rw [Nat.mul_one]; first | exact sl_t s htb | (have h8 := sl_t s htb; simpa using h8))) <| Nl <| Ps ?_
      refine CW.cond rfl (fun h29 => ?_) (fun h29 => ?_)
      · replace h29 := bT h29
        have h29 : tb = true := h29
        subst h29
        have hs2 : tkS (a.1 : Nat) s (b.1 + 1) = tkS (a.1 : Nat) s b.1 ++ [(ln, s.c)] := by rw [hsu, if_pos htb, hln]; rfl
        refine Rg <| Lv Mv <| Lv Mv <| Lv (Fa 0 3) <| Lv (Ld (v := .int .i64 s.c)) <| Lv (Bd (tkC (ln, s.c))) <| Le (Eff.buildSlice (rfl) [_, _] Tryz.underlying66 Tryz.sizeOf141 (by exact Tryz.zeroValue141) rfl rfl rfl rfl (by rfl)) fun b35 _ => Le (Eff.appendAny (tkC (ln, s.c)) (sz := 2) (bytes := 16) (z := .agg #[.int .i64 0, .int .i64 0]) (xs := (tkL L a.1 ++ tkS (a.1 : Nat) s b.1).flatMap tkC) (m0 := (tkL L a.1 ++ tkS (a.1 : Nat) s b.1).length) (o := b.2) (m := 1) (pk := [ownG 141 ((tkL L a.1 ++ tkS (a.1 : Nat) s b.1).flatMap tkC) (b.2)]) rfl rfl Tryz.underlying66 (by kernel_rfl) rfl (by omega) (by repeat (first | exact .nil | apply Pick.cons | exact .here | apply Ext.there)) (by simp) hb2 (by rfl) (fun hm0 => ⟨b35, 0, rfl, fun w hw => V.range_of_block (o := 0) (cs := tkC (ln, s.c)) (r := []) (hw.own _ (show InS (b35, .cells (tkC (ln, s.c)).toArray 141 (0, 0)) _ from (by repeat (first | exact .here | exact .inner .here | exact .inner (.inner .here) | refine .there ?_))).mem) rfl⟩) (by rfl) (by omega) (by omega)) fun o2 ho2 => Lv Av <| Nl <| Bn <| Ps <| Rg <| Lv Ar <| Lv Mv <| Nl ?_
        rw [← show (tkL L a.1 ++ tkS (a.1 : Nat) s (b.1 + 1)).flatMap tkC = (tkL L a.1 ++ tkS (a.1 : Nat) s b.1).flatMap tkC ++ tkC (ln, s.c) by rw [hs2, ← List.append_assoc, List.flatMap_append]; rfl]
        rw [← show (tkL L a.1 ++ tkS (a.1 : Nat) s (b.1 + 1)).length = (tkL L a.1 ++ tkS (a.1 : Nat) s b.1).length + 1 by rw [hs2, ← List.append_assoc, List.length_append]; rfl]
        exact roundA ((b.1 + 1, o2)) ⟨by simp only; omega, by simp only; rw [hs2, ← List.append_assoc, List.flatMap_append, List.length_append]; exact ho2⟩ (by simp only; omega)
      · replace h29 := bF h29
        have h29 : tb = false := h29
        subst h29
        have hs2 : tkS (a.1 : Nat) s (b.1 + 1) = tkS (a.1 : Nat) s b.1 := by rw [hsu, if_neg (by rw [htb]; decide)]; simp
        refine Sk <| Bn <| Ps <| Rg <| Lv Ar <| Lv Mv <| Nl ?_
        rw [← hs2]
        exact roundA ((b.1 + 1, b.2)) ⟨by simp only; omega, by simp only; rw [hs2]; exact hb2⟩ (by simp only; omega)
    · replace h22 := bF h22
      have hb9 : b.1 = (startsF (a.1 : Nat) s.c).length := by omega
      rw [hb9] at hb2 ⊢
      rw [← tkL_succ hLi] at hb2 ⊢
      refine Xt <| Te <| Te <| Bh <| Bn <| Ps <| Rg <| Lv Ar <| Lv Mv <| Nl ?_
      exact roundA ((a.1 + 1, b.2)) ⟨by simp only; omega, hb2⟩ (by simp only; omega)
  · replace h12 := bF h12
    obtain ⟨a1, oa⟩ := a
    have ha9 : a1 = L.length := by simp only at ha1 h12; omega
    subst ha9
    refine Xt <| Te <| Te <| Bh <| Ps <| Sq <| Rg <| Lv Mv <| Lv Av <| Nl <| Ps <| Rt <| Rt1 ?_
    intro w' hw; exact ⟨oa, ha2, rfl, hw.pick (by repeat (first | exact .nil | apply Pick.cons | exact .here | apply Ext.there))⟩
end G
end Go.Proofs.YtcnjjefbnlgdjaaGreat

/- ReviveAgain: the law walked. -/
namespace Go.Proofs.YtcnjjefbnlgdjaaGreat
open Go Go.RowKit V
set_option linter.unusedVariables false
set_option maxRecDepth 100000
namespace G
open V (str byC ownV ownG ownS ownOk)
instance : Cal Tryz.prog 26 := ⟨Tryz.call26⟩
instance : Cal Tryz.prog 27 := ⟨Tryz.call27⟩
instance : Cal Tryz.prog 28 := ⟨Tryz.call28⟩
instance : Cal Tryz.prog 29 := ⟨Tryz.call29⟩
theorem taken_e (pb sb : Nat) (L M : List Slb) (hM : L = M) (hL : L.length ≤ 32) (w : World) (hs : Sat (plS pb sb L) w) : Calls Tryz.prog 29 [.pointer (some ⟨pb, 0, none⟩)].toArray w fun e w' => ∃ o : V.OwnO, ownOk 2 (tkL M M.length).length ((tkL M M.length).flatMap tkC) o ∧ e = .returned (ownV (tkL M M.length).length o) ∧ Hp ⟨w, V.ids ((plS pb sb L))⟩ (ownG 141 ((tkL M M.length).flatMap tkC) o :: plS pb sb L) w' := by
  subst hM
  exact taken_g pb sb L hL w hs
theorem ph_seven {v : Dev} (hln : v.D.length = 34) {k : Nat} {r : Rvl} (hc : corOf r = (runN v cor0 k).2) (h : 6 ≤ r.ph) (h6 : ¬ r.ph = 6) : r.ph = 7 := by
  have h1 := (runN_run (len34v hln) k).p7
  rw [← hc] at h1
  have h2 : r.ph ≤ 7 := h1
  omega
theorem again_of {v : Dev} (hcm : Calm v.D) (hln : v.D.length = 34) {k : Nat} {r : Rvl} (hc : corOf r = (runN v cor0 k).2) (h6 : r.ph = 6) (ks : List Int) : Same v.D ((runN v cor0 k).1.cut ks).D ∧ fdA ((runN v cor0 k).1.cut ks).D = r.kp := by
  have hph : (runN v cor0 k).2.ph = 6 := by rw [← hc]; exact h6
  have h1 := again_found hcm (len34v hln) hph ks
  have h2 := ((run_end (len34v hln) (k := k) (by omega)).2 hph).2.1
  have h3 : (runN v cor0 k).2.kp = r.kp := by rw [← hc]; rfl
  exact ⟨cut_same hcm (len34v hln) k ks, by rw [← h3, h2]; exact h1⟩
theorem fd_of {v : Dev} (hln : v.D.length = 34) {k : Nat} {r : Rvl} (hc : corOf r = (runN v cor0 k).2) (h6 : r.ph = 6) : r.fd = fdA v.D := by
  have hph : (runN v cor0 k).2.ph = 6 := by rw [← hc]; exact h6
  have h2 := ((run_end (len34v hln) (k := k) (by omega)).2 hph).2.2
  rw [← hc] at h2
  exact h2
theorem again_c (clk : Int) (l : List Laid) (p : Option Addr) (c : Nat) (ks : List Int) (pk : Option Addr) (ck : Nat) (w : World) (hp : LdR w p l) (hks : V.slAt w pk 1 inI ks) : Calls Tryz.prog 5 [.int .u64 clk, .slice p l.length c, .slice pk ks.length ck].toArray w fun e w' => e = .returned (.bool true) ∧ Below w.heap.size w w' := by
  refine V.calls [] Tryz.func5 rfl Tryz.ntmps5 (Nat.le_of_ble_eq_true rfl) (V.sat_nil _) <| Sq <| Rg <| Lv Av <| Nl <| Ps <| Sq <| Sq <| Rg <| Lv Mv <| Le (CV fun w hw => large_g l p c w (ldr_up hw hp)) fun _ _ => Lv Mv ?_
  refine LW.split (d := 18) rfl (fun h18 => ?_) (fun h18 => ?_)
  · replace h18 := bT h18
    refine Lp <| Lp <| Lp <| Lv Pt <| Nl <| Ps <| Ct <| Sq <| Rg <| Le (CV fun w hw => awake_g w) fun _ _ => Lv Av <| Nl <| Ps <| Rt <| Tr <| Rt1 ?_
    intro w' hw; exact ⟨rfl, hw.below⟩
  · replace h18 := bF h18
    refine Lv Mv <| Lv Ln <| Lv Cm <| Lv Pf <| Nl <| Ps ?_
    refine CW.cond rfl (fun h22 => ?_) (fun h22 => ?_)
    · replace h22 := bT h22
      refine Sq <| Rg <| Le (CV fun w hw => awake_g w) fun _ _ => Lv Av <| Nl <| Ps <| Rt <| Tr <| Rt1 ?_
      intro w' hw; exact ⟨rfl, hw.below⟩
    · replace h22 := bF h22
      refine Sk <| Ps <| Sq <| Rg <| Lv Mv <| Lv Mv <| Le (CM [] fun w hw hs0 => device_g 34 ⟨by omega, by omega⟩ clk l p c h18 w (ldr_up hw hp)) fun x _ => ?_
      have hln := devF_len 34 clk l
      have hcm := devF_calm 34 clk l
      generalize devF 34 clk l = vD at hln hcm ⊢
      refine Lv Av <| Nl <| Ps <| Sq <| Sq <| Rg <| Lv Mv <| Lv EP <| Nl <| Ps <| Cf <| Sk <| Ps <| Sq <| Rg <| Lv Mv <| Le (CM (vS x vD) fun w hw hs0 => to22_g x vD (len34v hln) (pot34v hln) w hs0) fun z hz => ?_
      obtain ⟨rb, k, r, ar⟩ := z
      obtain ⟨h6p, hc, hX⟩ := hz
      simp only at h6p hc hX ⊢
      refine Lv Mv <| Lv Ex <| Lv Ex <| Lv Ex <| Lv Av <| Lv Av <| Lv Av <| Nl <| Ps <| Sq <| Sq <| Rg <| Lv Mv <| Lv Nt <| Nl <| Ps ?_
      refine CW.cond rfl (fun h36 => ?_) (fun h36 => ?_)
      · replace h36 := bT h36
        refine Sq <| Rg <| Lv Mv <| Lv NP <| Lv Mv <| Lv Mv <| Le (CV fun w hw => phase_g rb x.db r w hw.at) fun _ _ => LW.re 41 (.int .i64 7) rfl (by rw [ph_seven hln hc h6p (by simpa using h36)]) <| Lv Cm <| Lv Pt <| Lv Mv <| Le (CV fun w hw => awake_g w) fun _ _ => Lv Pt <| Lv Av <| Nl <| Ps <| Rt <| Tr <| Rt1 ?_
        intro w' hw; exact ⟨rfl, hw.below⟩
      · replace h36 := bF h36
        have h6 : r.ph = 6 := by simpa using h36
        obtain ⟨y1, rfl⟩ : ∃ y1, ar = some y1 := by
          have h8 := hX.has
          rw [decide_eq_true h6] at h8
          exact Option.isSome_iff_exists.1 h8
        have hst1 := (hX.got y1 rfl).2
        obtain ⟨hO1, _, hkl, hrn, _, hsm1⟩ := fin_of hcm hln hc h6 hX
        obtain ⟨hsC, hfdC⟩ := again_of hcm hln hc h6 ks
        have hlE := hsm1.len
        generalize (runN vD cor0 k).1 = vE at hsC hfdC hlE ⊢
        rw [if_pos h6, hst1]
        refine Sk <| Ps <| Sq <| Rg <| Lv Mv <| Lv Mv <| Le (CM (vS x vE) fun w hw hs0 => cut_v x vE ks pk ck (by omega) (by omega) w hs0 (hw.slAt hks (by simp [ids])) (fun h0 b q hb => lo_not hw (show Pick (vS x vE) _ _ from (by repeat (first | exact .nil | apply Pick.cons | exact .here | apply Ext.there))) (sl_in hks h0 hb))) fun oL _ => ?_
        have hlnC := hsC.len.trans hln
        generalize vE.cut ks = vC at hsC hfdC hlnC ⊢
        refine Nl <| Ps <| Sq <| Rg <| Lv Mv <| Le (CM (vS x vC) fun w hw hs0 => to22_g x vC (len34v hlnC) (pot34v hlnC) w hs0) fun z hz => ?_
        obtain ⟨sb, k2, r2, ar2⟩ := z
        obtain ⟨h6q, hc2, hX2⟩ := hz
        simp only at h6q hc2 hX2 ⊢
        obtain ⟨h62, he2, hkp2⟩ := fin_two hln hsC hc h6 hc2 h6q
        obtain ⟨y2, rfl⟩ : ∃ y2, ar2 = some y2 := by
          have h8 := hX2.has
          rw [decide_eq_true h62] at h8
          exact Option.isSome_iff_exists.1 h8
        have hst2 := (hX2.got y2 rfl).2
        obtain ⟨hO2, _, hkl2, _, hfl2, hsm2⟩ := fin_of hsC.calm hlnC hc2 h62 hX2
        rw [he2, hkp2] at hO2
        have hfd2 : r2.fd = r.kp := (fd_of hlnC hc2 h62).trans hfdC
        have hgF := kp_good hcm hln hc h6 (hsC.trans hsm2)
        obtain ⟨P, Q, hPQ⟩ := shP_ex hO1 hgF hkl hrn
        have hsh1 := hPQ _ hgF y1 hO1
        have hsh2 := hPQ _ hgF y2 hO2
        have hLL : y2.2.L = y1.2.L := (ova_eq hO2 hO1).2.2
        have hL32 := hsh1.ok.pl.2
        generalize (runN vC cor0 k2).1 = vF at hsh1 hsh2 ⊢
        refine Lv Mv <| Lv Ex <| Lv Ex <| LW.re 54 (.pointer (some ⟨y2.1.a, 0, none⟩)) rfl (by rw [if_pos h62, hst2]) <| Lv Ex <| LW.re 55 (.bool true) rfl (by rw [decide_eq_true h62]) <| Lv Av <| Lv Av <| Lv Av <| Nl <| Ps <| Sq <| Sq <| Rg <| Lv Mv <| Lv Nt <| Lv Mv <| Lv Mv <| Le (CV fun w hw => epoch_g sb x.db r2 w hw.at) fun _ _ => LW.re 60 (.int .u64 r.e) rfl (by rw [he2]) <| Lv Mv <| Le (CV fun w hw => epoch_g rb x.db r w hw.at) fun _ _ => Lv Cm <| LW.re 63 (.bool false) rfl (by simp) <| Lv Pf <| Nl <| Ps <| Cf <| Sk <| Ps <| Sq <| Rg <| Lv Mv <| Le (CM (([rvO rb x.db r] :: [ownG 45 (r.kp.flatMap fdC) r.ko])) fun w hw hs0 => kept_e rb x.db r r.kp rfl hX.kp hkl w hs0) fun o1 ho1 => ?_
        obtain ⟨pd1, cd1, hvd1, hsd1⟩ := own_slF r.kp o1 ho1
        refine LW.re 66 (.slice pd1 r.kp.length cd1) rfl hvd1 <| Lv Mv <| Le (CM (([rvO sb x.db r2] :: [ownG 45 (r2.kp.flatMap fdC) r2.ko])) fun w hw hs0 => kept_e sb x.db r2 r.kp hkp2 hX2.kp hkl2 w hs0) fun o2 ho2 => ?_
        obtain ⟨pd2, cd2, hvd2, hsd2⟩ := own_slF r.kp o2 ho2
        refine LW.re 68 (.slice pd2 r.kp.length cd2) rfl hvd2 <| Lv Av <| Lv Av <| Nl <| Ps <| Sq <| Rg <| Lv Mv <| Lv Mv <| Le (CV fun w hw => sameFound_c r.kp (by omega) pd1 pd2 cd1 cd2 w (hsd1 hw (by repeat (first | exact .nil | apply Pick.cons | exact .here | apply Ext.there))) (hsd2 hw (by repeat (first | exact .nil | apply Pick.cons | exact .here | apply Ext.there)))) fun _ _ => Lv Mv <| Lv Mv <| Le (CM (([rvO sb x.db r2] :: [ownG 45 (r2.fd.flatMap fdC) r2.fo])) fun w hw hs0 => found_g sb x.db r2 hX2.fd hfl2 w hs0) fun o5 ho5 => ?_
        obtain ⟨pd5, cd5, hvd5, _⟩ := own_slF r2.fd o5 ho5
        refine LW.re 74 (.slice pd5 r.kp.length cd5) rfl (by rw [hvd5, hfd2]) <| Lv Ln <| Lv Mv <| Lv Ln <| Lv Cm <| LW.re 78 (.bool true) rfl (by simp) <| Lv Pt <| Lv Mv <| Lv Mv <| Le (CM ((arS y1.1 y1.2 x.db ++ vS x vF)) fun w hw hs0 => ashelf_e y1 x vF P Q hsh1 w hs0) fun s3 hs3 => ?_
        obtain ⟨sp3, sq3⟩ := s3
        obtain ⟨hsp3, hsq3⟩ := hs3
        simp only at hsp3 hsq3 ⊢
        obtain ⟨pp3, cp3, hvp3, _, hsa3⟩ := own_slg (e := 137) prC_len P sp3 hsp3
        obtain ⟨pq3, cq3, hvq3, _, hsb3⟩ := own_slg (e := 9) txC_len Q sq3 hsq3
        refine LW.re 82 (.agg #[.slice pp3 P.length cp3, .slice pq3 Q.length cq3]) rfl (by rw [hvp3, hvq3]) <| Lv Mv <| Le (CM ((arS y2.1 y2.2 x.db ++ vS x vF)) fun w hw hs0 => ashelf_e y2 x vF P Q hsh2 w hs0) fun s4 hs4 => ?_
        obtain ⟨sp4, sq4⟩ := s4
        obtain ⟨hsp4, hsq4⟩ := hs4
        simp only at hsp4 hsq4 ⊢
        obtain ⟨pp4, cp4, hvp4, _, hsa4⟩ := own_slg (e := 137) prC_len P sp4 hsp4
        obtain ⟨pq4, cq4, hvq4, _, hsb4⟩ := own_slg (e := 9) txC_len Q sq4 hsq4
        refine LW.re 84 (.agg #[.slice pp4 P.length cp4, .slice pq4 Q.length cq4]) rfl (by rw [hvp4, hvq4]) <| Le (CV fun w hw => sameShelf_c P Q (by have := hsh1.pn; omega) (by have := hsh1.qm; omega) pp3 pq3 pp4 pq4 cp3 cq3 cp4 cq4 w (hsa3 hw (by repeat (first | exact .nil | apply Pick.cons | exact .here | apply Ext.there))) (hsb3 hw (by repeat (first | exact .nil | apply Pick.cons | exact .here | apply Ext.there))) (hsa4 hw (by repeat (first | exact .nil | apply Pick.cons | exact .here | apply Ext.there))) (hsb4 hw (by repeat (first | exact .nil | apply Pick.cons | exact .here | apply Ext.there)))) fun _ _ => Lv Pt <| Lv Mv <| Lv Mv <| Le (CV fun w hw => apool_g y1.1 y1.2 w hw.at) fun _ _ => Le (CM (plS y1.1.pb y1.1.sb y1.2.L) fun w hw hs0 => taken_e y1.1.pb y1.1.sb y1.2.L y1.2.L rfl hL32 w hs0) fun t6 ht6 => ?_
        obtain ⟨pt6, ct6, hvt6, _, hst60⟩ := own_slg (e := 141) tkC_len (tkL y1.2.L y1.2.L.length) t6 ht6
        refine LW.re 90 (.slice pt6 (tkL y1.2.L y1.2.L.length).length ct6) rfl hvt6 <| Lv Mv <| Le (CV fun w hw => apool_g y2.1 y2.2 w hw.at) fun _ _ => Le (CM (plS y2.1.pb y2.1.sb y2.2.L) fun w hw hs0 => taken_e y2.1.pb y2.1.sb y2.2.L y1.2.L hLL (by rw [hLL]; exact hL32) w hs0) fun t7 ht7 => ?_
        obtain ⟨pt7, ct7, hvt7, _, hst70⟩ := own_slg (e := 141) tkC_len (tkL y1.2.L y1.2.L.length) t7 ht7
        refine LW.re 93 (.slice pt7 (tkL y1.2.L y1.2.L.length).length ct7) rfl hvt7 <| Le (CV fun w hw => sameTaken_c (tkL y1.2.L y1.2.L.length) (by have := tkL_le y1.2.L y1.2.L.length; omega) pt6 pt7 ct6 ct7 w (hst60 hw (by repeat (first | exact .nil | apply Pick.cons | exact .here | apply Ext.there))) (hst70 hw (by repeat (first | exact .nil | apply Pick.cons | exact .here | apply Ext.there)))) fun _ _ => Lv Pt <| Lv Mv <| Le (CV fun w hw => awake_g w) fun _ _ => Lv Pt <| Lv Av <| Nl <| Ps <| Rt <| Rt1 ?_
        intro w' hw; exact ⟨rfl, hw.below⟩
end G
end Go.Proofs.YtcnjjefbnlgdjaaGreat
