import Derived.Test.YtlpbjmbgopfkhaaGreatJa5
import Derived.Test.YtlpbjmbgopfkhaaGreatJa6
import Derived.Lib.Hide
import Derived.WalkSmall
import Derived.Deep.Slices
/- The document's Rows: calls in all orders, one behind the other. -/
namespace Go.Proofs.YtlpbjmbgopfkhaaGreat
open Go Go.RowKit V
set_option linter.unusedVariables false
set_option maxRecDepth 100000
namespace I
instance : V.Cal Tryz.prog 7 := ⟨Tryz.call7⟩
instance : V.Cal Tryz.prog 8 := ⟨Tryz.call8⟩
instance : V.Cal Tryz.prog 10 := ⟨Tryz.call10⟩
instance : V.Cal Tryz.prog 11 := ⟨Tryz.call11⟩
instance : V.Cal Tryz.prog 12 := ⟨Tryz.call12⟩
instance : V.Cal Tryz.prog 13 := ⟨Tryz.call13⟩
instance : V.Cal Tryz.prog 19 := ⟨Tryz.call19⟩
instance : V.Cal Tryz.prog 20 := ⟨Tryz.call20⟩
instance : V.Cal Tryz.prog 25 := ⟨Tryz.call25⟩
instance : V.Cal Tryz.prog 26 := ⟨Tryz.call26⟩
instance : V.Cal Tryz.prog 28 := ⟨Tryz.call28⟩
open V (str byC ownV ownG ownS ownOk)
/-- The orders among the rows of the numbers below m. -/
def ordsF (n m : Nat) : List (List Nat) := ((List.range m).map (fun i => digF i n n)).filter (fun r => decide r.Nodup)
theorem digF_lt {n : Nat} (hn : 0 < n) : ∀ (d i : Nat), ∀ k ∈ digF i n d, k < n
  | 0, _, k, h => by simp [digF] at h
  | d + 1, i, k, h => by
    rw [digF, List.mem_append] at h
    rcases h with h | h
    · exact digF_lt hn d _ k h
    · obtain rfl : k = _ := by simpa using h
      exact Nat.mod_lt _ hn
theorem ords_no {n m : Nat} (h : ¬ (digF m n n).Nodup) : ordsF n (m + 1) = ordsF n m := by
  unfold ordsF
  rw [List.range_succ, List.map_append, List.filter_append]
  simp [h]
theorem ords_yes {n m : Nat} (h : (digF m n n).Nodup) : ordsF n (m + 1) = ordsF n m ++ [digF m n n] := by
  unfold ordsF
  rw [List.range_succ, List.map_append, List.filter_append]
  simp [h]
theorem ords_len (n m : Nat) : (ordsF n m).length ≤ m := by
  unfold ordsF
  exact Nat.le_trans (List.length_filter_le _ _) (by simp)
theorem ords_end {n : Nat} (h1 : 0 < n) (h3 : n ≤ 3) : ordsF n (n ^ n) = perms n := by
  obtain rfl | rfl | rfl : n = 1 ∨ n = 2 ∨ n = 3 := by omega
  all_goals decide
theorem pow_le {n k : Nat} (h1 : 0 < n) (h3 : n ≤ 3) (hk : k ≤ n) : n ^ k ≤ 27 := by
  refine Nat.le_trans (Nat.pow_le_pow_right h1 hk) ?_
  obtain rfl | rfl | rfl : n = 1 ∨ n = 2 ∨ n = 3 := by omega
  all_goals decide
/-- The store that none have filled. -/
def s00 : Sf := ⟨⟨none, 0, 0⟩, ⟨none, 0, 0⟩⟩
theorem s00_ok (w : World) : SfR w s00 ([], []) := ⟨⟨rfl, .inl rfl⟩, ⟨rfl, .inl rfl⟩, Nat.le_refl _, Nat.le_refl _⟩
def soOf : ResO → ShO
  | none => (none, none)
  | some y => (y.1, offOf y.2)
theorem soOf_v {A : ShA} {r : ResO} (h : refOk ([], []) A r) : (sfX s00 A r).cells = [ownV A.1.length (soOf r).1, offV A.2.length (soOf r).2] := by
  rw [← sfX_c]
  rcases r with _ | y
  · have e : A = ([], []) := h
    subst e; rfl
  · show owC A y = _
    unfold owC soOf
    rw [offOf_V]
theorem soOf_p {A : ShA} {r : ResO} : refP A r = ownG 69 (A.1.flatMap prC) (soOf r).1 := by rcases r with _ | y <;> rfl
theorem soOf_q {A : ShA} {r : ResO} : refQ A r = offG 9 (A.2.flatMap stE) (soOf r).2 := by
  rcases r with _ | y
  · rfl
  · exact (offOf_G _ _ _).symm
theorem soOf_ok {A : ShA} {r : ResO} (h : refOk ([], []) A r) : shOk A (soOf r) := by
  rcases r with _ | y
  · have e : A = ([], []) := h
    subst e; exact ⟨⟨rfl, rfl⟩, rfl⟩
  · exact ⟨h.1, offOf_ok h.2⟩
theorem rrows0_c (pc : Option Addr) (n cc : Nat) (hn : n = 0 ∨ 3 < n) (w : World) : Calls Tryz.prog 10 [.slice pc n cc].toArray w fun e w' => e = .returned (.slice none 0 0) ∧ Below w.heap.size w w' := by
  refine V.calls [] Tryz.func10 rfl Tryz.ntmps10 (Nat.le_of_ble_eq_true rfl) (V.sat_nil _) <| Sq <| Rg <| Lv Av <| Nl <| Ps <| Sq <| Rg <| Lv Mv <| Lv Ln <| Lv Av <| Nl <| Ps <| Sq <| Sq <| Rg <| Lv Mv <| Lv Cm <| Lv Mv ?_
  refine LW.split (d := 17) rfl (fun h17 => ?_) (fun h17 => ?_)
  · replace h17 := bT h17
    refine Lp <| Lp <| Lv Pt <| LW.re 20 (.bool true) rfl (by rcases hn with rfl | hn <;> simp <;> omega) <| Nl <| Ps <| Ct <| Sq <| Rg <| Lv Av <| Nl <| Ps <| Rt <| Tr <| Rt1 ?_
    intro w' hw; exact ⟨rfl, hw.below⟩
  · replace h17 := bF h17
    refine Lv Mv <| Lv Cm <| Lv Pf <| LW.re 20 (.bool true) rfl (by rcases hn with rfl | hn <;> simp <;> omega) <| Nl <| Ps <| Ct <| Sq <| Rg <| Lv Av <| Nl <| Ps <| Rt <| Tr <| Rt1 ?_
    intro w' hw; exact ⟨rfl, hw.below⟩
set_option maxHeartbeats 1600000 in
theorem rrows1_c (C : Crs) (pc : Option Addr) (n cc : Nat) (hC : C.length = n) (h1 : 0 < n) (h3 : n ≤ 3) (w : World) (hR : CrsR w pc C) : Calls Tryz.prog 10 [.slice pc n cc].toArray w fun e w' => ∃ g : List TO × V.OwnO, (g.1.map toA = (perms n).map (turnOf C) ∧ (∀ t ∈ g.1, toOk t) ∧ ownOk 4 g.1.length (g.1.flatMap toC) g.2) ∧ e = .returned (ownV g.1.length g.2) ∧ Hp ⟨w, []⟩ [ownG 36 (g.1.flatMap toC) g.2, g.1.flatMap toM] w' := by
  refine V.calls [] Tryz.func10 rfl Tryz.ntmps10 (Nat.le_of_ble_eq_true rfl) (V.sat_nil _) <| Sq <| Rg <| Lv Av <| Nl <| Ps <| Sq <| Rg <| Lv Mv <| Lv Ln <| Lv Av <| Nl <| Ps <| Sq <| Sq <| Rg <| Lv Mv <| Lv Cm <| Lv Mv ?_
  refine LW.split (d := 17) rfl (fun h17 => ?_) (fun h17 => ?_)
  · have h9 := bT h17; omega
  · replace h17 := bF h17
    refine Lv Mv <| Lv Cm <| Lv Pf <| LW.re 20 (.bool false) rfl (by simp <;> omega) <| Nl <| Ps <| Cf <| Sk <| Ps <| Sq <| Rg <| Lv Av <| Nl <| Ps <| Sq <| Sq <| Rg <| Lv Av <| Nl <| Ps <| Bk <| loopA (γ := Nat) (fun k0 => [(0, .slice pc n cc), (3, .int .i64 (n : Nat)), (4, .int .i64 ((n ^ k0 : Nat) : Int)), (5, .int .i64 (k0 : Nat))]) (fun _ => []) (fun k0 => k0 ≤ n) (fun k0 => n - k0) (0) (Nat.zero_le _) fun k0 hk1 => Sq <| Sq <| Rg <| Lv Mv <| Lv Mv <| Lv Cm <| Nl <| Ps ?_
    refine CW.cond rfl (fun h23 => ?_) (fun h23 => ?_)
    · replace h23 := bT h23
      have hk9 : k0 < n := by omega
      have hpb := pow_le h1 h3 (k := k0 + 1) (by omega)
      have hpm : ((n ^ k0 : Nat) : Int) * (n : Nat) = ((n ^ (k0 + 1) : Nat) : Int) := by rw [Nat.pow_succ]; exact (Int.natCast_mul _ _).symm
      refine Sk <| Ps <| Sq <| Bk <| Rg <| Lv Mv <| Lv Mv <| Lv (Val.ar rfl rfl rfl (IntWalk.i64_in _ (by rw [hpm]; omega))) <| LW.re 28 (.int .i64 ((n ^ (k0 + 1) : Nat) : Int)) rfl (by rw [hpm]) <| Lv Av <| Nl <| Bn <| Ps <| Rg <| Lv Mv <| Lv Ar <| Lv Av <| Nl ?_
      exact roundA (k0 + 1) (by omega) (by omega)
    · replace h23 := bF h23
      have hk9 : k0 = n := by omega
      rw [hk9]
      refine Xt <| Te <| Te <| Bh <| Ps <| Sq <| Rg <| Lv Av <| Nl <| Ps <| Sq <| Sq <| Rg <| Lv Av <| Nl <| Ps <| Bk ?_
      refine V.CW.perm (sg' := [ownG 36 (([] : List TO).flatMap toC) none, (([] : List TO).flatMap toM)]) ?_ (by simp [V.ownG, V.ownS])
      refine loopA (γ := Nat × List TO × V.OwnO) (fun x => [(0, .slice pc n cc), (3, .int .i64 (n : Nat)), (4, .int .i64 ((n ^ n : Nat) : Int)), (6, ownV x.2.1.length x.2.2), (7, .int .i64 (x.1 : Nat))]) (fun x => [ownG 36 (x.2.1.flatMap toC) x.2.2, (x.2.1.flatMap toM)]) (fun x => x.1 ≤ n ^ n ∧ x.2.1.map toA = (ordsF n x.1).map (turnOf C) ∧ (∀ t ∈ x.2.1, toOk t) ∧ ownOk 4 x.2.1.length (x.2.1.flatMap toC) x.2.2) (fun x => n ^ n - x.1) ((0, [], none)) ⟨Nat.zero_le _, rfl, by simp, ⟨rfl, rfl⟩⟩ fun x => ?_
      obtain ⟨m, g, o⟩ := x
      rintro ⟨hm1, hm2, hm3, hm4⟩
      simp only at hm1 hm2 hm3 hm4
      refine Sq <| Sq <| Rg <| Lv Mv <| Lv Mv <| Lv Cm <| Nl <| Ps ?_
      refine CW.cond rfl (fun h31 => ?_) (fun h31 => ?_)
      · replace h31 := bT h31
        have hm9 : m < n ^ n := by omega
        have hp27 := pow_le h1 h3 (Nat.le_refl n)
        have hrl : (digF m n n).length = n := digF_len n n m
        have hgl : g.length ≤ 27 := by
          have h8 := congrArg List.length hm2
          simp only [List.length_map] at h8
          have h9 := ords_len n m
          omega
        refine Sk <| Ps <| Sq <| Bk <| Sq <| Rg <| Lv Mv <| Lv Mv <| Lv Mv <| Le (CM [] fun w hw hs => digits_c m n n (by omega) h1 h1 (by omega) w) fun b37 _ => Lv Av <| Nl <| Ps <| Sq <| Sq <| Rg <| Lv Mv <| Le (CV fun w hw => order_c (digF m n n) _ n n hrl.symm (by omega) w (V.slAt_flat (r := []) (cs := (digF m n n).flatMap inE) hw inE_len (List.append_nil _).symm (by repeat (first | exact .here | exact .inner .here | exact .inner (.inner .here) | refine .there ?_)))) fun _ _ => Lv Nt <| Nl <| Ps ?_
        refine CW.cond rfl (fun h40 => ?_) (fun h40 => ?_)
        · replace h40 := bT h40
          have h40 : ¬ (digF m n n).Nodup := by simpa using h40
          refine Xt <| Te <| Bh <| Ps <| Rg <| Lv Mv <| Lv Ar <| Lv Av <| Nl ?_
          exact roundA ((m + 1, g, o)) ⟨by simp only; omega, by simp only; rw [ords_no h40]; exact hm2, hm3, hm4⟩ (by simp only; omega)
        · replace h40 := bF h40
          have h40 : (digF m n n).Nodup := by simpa using h40
          refine Sk <| Ps <| Sq <| Rg <| Lv Mv <| Lv Mv <| Le (Eff.makeSlice (by_ := 88) (zl := ans0 0) rfl rfl Tryz.underlying30 (by kernel_rfl) Tryz.sizeOf48 (by exact Tryz.zeroValue48) rfl rfl (by omega) (by omega) (by omega)) fun b43 _ => Lv (Bd [.slice (some ⟨b37, 0, none⟩) n n, .slice (some ⟨b43, 0, none⟩) n n, .slice none 0 0, .slice none 0 0]) <| Le AA fun b9 _ => ?_
          first | (refine LW.eN rfl (Eff.storeW rfl rfl (by repeat (first | exact .here | exact .inner .here | exact .inner (.inner .here) | apply Upd.there)) (by rfl) Tryz.sizeOf36 (by rfl)) ?_) | (refine LW.eN rfl (Eff.storeA (l' := _) rfl rfl (by repeat (first | exact .here | exact .inner .here | exact .inner (.inner .here) | apply Upd.there)) (by rfl) (by decide) Tryz.sizeOf36 (by rfl)) ?_)
          intro _ _
          refine Nl <| Ps <| Sq <| Sq <| Rg <| Lv Av <| Nl <| Ps <| Bk ?_
          rw [ap0_rep]
          refine V.CW.perm (sg' := [((List.replicate n ap0).flatMap apM), [(b9, .cells (.slice (some ⟨b37, 0, none⟩) n n :: .slice (some ⟨b43, 0, none⟩) n n :: (sfX s00 (([], []) : ShA) none).cells).toArray 36 (0, 0))], [(b43, .cells ((List.replicate n ap0).flatMap apC).toArray 48 (0, 0))], refP (([], []) : ShA) none, refQ (([], []) : ShA) none, [(b37, .cells ((digF m n n).flatMap inE).toArray 3 (0, 0))], ownG 36 (g.flatMap toC) o, (g.flatMap toM)]) ?_ (by rw [ap0_mem]; simp [refP, refQ, sfX, s00, Sf.cells])
          refine loopA (γ := Nat × ResO × ShA × List AP) (fun x => [(0, .slice pc n cc), (3, .int .i64 (n : Nat)), (4, .int .i64 ((n ^ n : Nat) : Int)), (6, ownV g.length o), (7, .int .i64 (m : Nat)), (8, .slice (some ⟨b37, 0, none⟩) n n), (9, .pointer (some ⟨b9, 0, none⟩)), (10, .int .i64 (x.1 : Nat))]) (fun x => [(x.2.2.2.flatMap apM), [(b9, .cells (.slice (some ⟨b37, 0, none⟩) n n :: .slice (some ⟨b43, 0, none⟩) n n :: (sfX s00 x.2.2.1 x.2.1).cells).toArray 36 (0, 0))], [(b43, .cells (x.2.2.2.flatMap apC).toArray 48 (0, 0))], refP x.2.2.1 x.2.1, refQ x.2.2.1 x.2.1, [(b37, .cells ((digF m n n).flatMap inE).toArray 3 (0, 0))], ownG 36 (g.flatMap toC) o, (g.flatMap toM)]) (fun x => x.1 ≤ n ∧ (x.2.2.1, x.2.2.2.map Prod.fst) = ((digF m n n).take x.1).foldl (stepT C) (([], []), List.replicate C.length ⟨0, false, [], [], []⟩) ∧ x.2.2.2.length = n ∧ refOk ([], []) x.2.2.1 x.2.1 ∧ (∀ p ∈ x.2.2.2, ansOk p.1 p.2) ∧ x.2.2.1.1.length ≤ 3 * x.1 ∧ x.2.2.1.2.length ≤ 3 * x.1) (fun x => n - x.1) ((0, none, ([], []), (List.replicate n ap0))) ⟨Nat.zero_le _, by simp [hC, ap0], by simp, rfl, fun p hp => by rw [List.eq_of_mem_replicate hp]; exact ⟨⟨rfl, rfl⟩, ⟨rfl, rfl⟩⟩, by simp, by simp⟩ fun x => ?_
          obtain ⟨j, r, A, aps⟩ := x
          rintro ⟨hj1, hj2, hj3, hj4, hj5, hj6, hj7⟩
          simp only at hj1 hj2 hj3 hj4 hj5 hj6 hj7
          refine Sq <| Sq <| Rg <| Lv Mv <| Lv Mv <| Lv Cm <| Nl <| Ps ?_
          refine CW.cond rfl (fun h47 => ?_) (fun h47 => ?_)
          · replace h47 := bT h47
            have hj9 : j < n := by omega
            obtain ⟨k, hrj⟩ : ∃ k, (digF m n n)[j]? = some k := ⟨(digF m n n)[j]'(by omega), by simp⟩
            have hkn := digF_lt h1 n m k (List.mem_of_getElem? hrj)
            obtain ⟨bc, oc, cx, rfl, hbc, hxc, hrc⟩ := V.slAt_at hR.1 (by simp [hC]) (k := k) hkn
            obtain ⟨L, hck⟩ := map_atC hxc
            obtain ⟨hRc, hLc⟩ := hR.2 _ (List.mem_of_getElem? hck)
            obtain ⟨r2, hr2⟩ := V.drop_flatMap inE_len (digF m n n) j k hrj
            have hlr : ((digF m n n).flatMap inE)[0 + j * 1]? = some (.int .i64 (k : Nat)) := by
              rw [← List.head?_drop, Nat.zero_add, hr2]
              rfl
            refine Sk <| Ps <| Sq <| Bk <| Sq <| Dr ([[(b9, .cells (.slice (some ⟨b37, 0, none⟩) n n :: .slice (some ⟨b43, 0, none⟩) n n :: (sfX s00 A r).cells).toArray 36 (0, 0))], [(b37, .cells ((digF m n n).flatMap inE).toArray 3 (0, 0))]]) <| Rv 0 rfl (Fa 2 34) <| Rv 1 rfl (Val.loadA (sfX s00 A r).cells rfl Tryz.isAgg34 (by repeat (first | exact .here | exact .inner .here | exact .inner (.inner .here) | refine .there ?_)) (by rfl) Tryz.sizeOf34) <| Rv 2 rfl Mv <| Rv 3 rfl Mv <| Rv 4 rfl Mv <| Rv 5 rfl (Val.indexAddrN rfl rfl Tryz.underlying29 Tryz.sizeOf3 hj9) <| Rv 6 rfl (Val.load (v := .int .i64 (k : Nat)) rfl Tryz.isAgg3 (by repeat (first | exact .here | exact .inner .here | exact .inner (.inner .here) | refine .there ?_)) hlr) <| Rv 7 rfl (Val.indexAddrN rfl rfl Tryz.underlying22 Tryz.sizeOf52 hkn) <| Rv 8 rfl (Val.loadOA rfl Tryz.isAgg52 hbc (by simp [ids]) (hrc k cx hxc) Tryz.sizeOf52) <| RW.any [9, 13, 14] (by kernel_rfl) (by simp) fun i hi => ?_
            simp only [List.mem_cons, List.not_mem_nil, or_false] at hi
            rcases hi with rfl | rfl | rfl
            · refine Ro rfl (CM [] fun w hw hs => rapply_c (sfX s00 A r) A cx L w (sfX_ok (s00_ok w) hj4 hw (by repeat (first | exact .nil | apply Pick.cons | exact .here | apply Ext.there))) ⟨by omega, by omega⟩ hLc (hRc.hp hw)) ?_
              rintro ⟨r9, ra9⟩ ⟨hr9, ha9⟩
              refine Rv 10 rfl Mv <| Rv 11 rfl Ex <| RW.re 61 (.agg ((sfX (sfX s00 A r) (apA A cx L).1 r9).cells).toArray) rfl (by rw [sfX_c]) <| Rv 12 rfl Ex <| RW.any [13, 14] (by kernel_rfl) (by simp) fun i hi => ?_
              simp only [List.mem_cons, List.not_mem_nil, or_false] at hi
              rcases hi with rfl | rfl
              · refine Ro rfl AA fun b11 _ => Re 14 rfl AA fun b12 _ => ReN 15 rfl (StW (cs := (sfX (sfX s00 A r) (apA A cx L).1 r9).cells) (h1 := by rfl)) fun _ _ => ReN 16 rfl (Eff.storeW (cs := apC ((apA A cx L).2, ra9)) rfl rfl (by repeat (first | exact .here | exact .inner .here | exact .inner (.inner .here) | apply Upd.there)) (by rfl) Tryz.sizeOf48 (apC_one _)) fun _ _ => Rd <| Ps <| Sq <| Rg <| Lv (Lw (l := (sfX (sfX s00 A r) (apA A cx L).1 r9).cells)) <| Lv (Fa 2 34) <| LeN (Eff.storeA (cs := (sfX (sfX s00 A r) (apA A cx L).1 r9).cells) (l' := .slice (some ⟨b37, 0, none⟩) n n :: .slice (some ⟨b43, 0, none⟩) n n :: (sfX (sfX s00 A r) (apA A cx L).1 r9).cells) rfl rfl (by repeat (first | exact .here | exact .inner .here | exact .inner (.inner .here) | apply Upd.there)) (by rfl) (by show 0 + 2 + 2 ≤ 4; decide) Tryz.sizeOf34 (by rfl)) fun _ _ => Nl <| Ps <| Dr ([[(b9, .cells _ 36 (0, 0))], [(b37, .cells ((digF m n n).flatMap inE).toArray 3 (0, 0))], [(b12, .cells _ 48 (0, 0))]]) ?_
                refine Rv 0 rfl (Fa 1 30) <| Rv 1 rfl (Ld (v := .slice (some ⟨b43, 0, none⟩) n n)) <| Rv 2 rfl Mv <| Rv 3 rfl Mv <| Rv 4 rfl (Val.indexAddrN rfl rfl Tryz.underlying29 Tryz.sizeOf3 hj9) <| Rv 5 rfl (Val.load (v := .int .i64 (k : Nat)) rfl Tryz.isAgg3 (by repeat (first | exact .here | exact .inner .here | exact .inner (.inner .here) | refine .there ?_)) hlr) <| Rv 6 rfl (Lw (l := apC ((apA A cx L).2, ra9))) <| Rv 7 rfl (Val.indexAddrN rfl rfl Tryz.underlying30 Tryz.sizeOf48 hkn) <| ReN 8 rfl (Eff.storeA (cs := apC ((apA A cx L).2, ra9)) (l := aps.flatMap apC) (l' := (aps.set k ((apA A cx L).2, ra9)).flatMap apC) rfl rfl (by repeat (first | exact .here | exact .inner .here | exact .inner (.inner .here) | apply Upd.there)) (by rw [Nat.zero_add]; have h9 := V.splice_flat apC_len aps k ((apA A cx L).2, ra9) [] (by omega); simpa using h9) (by rw [V.flatMap_len apC_len, apC_len]; omega) Tryz.sizeOf48 (apC_one _)) ?_
                intro _ _
                refine Rd <| Bn <| Ps <| Rg <| Lv Mv <| Lv Ar <| Lv Av <| Nl ?_
                rw [resN_x hr9]
                refine PQ_mono (sg' := [((aps.set k ((apA A cx L).2, ra9)).flatMap apM), [(b9, .cells (.slice (some ⟨b37, 0, none⟩) n n :: .slice (some ⟨b43, 0, none⟩) n n :: (sfX s00 (apA A cx L).1 (resN r r9)).cells).toArray 36 (0, 0))], [(b43, .cells ((aps.set k ((apA A cx L).2, ra9)).flatMap apC).toArray 48 (0, 0))], refP (apA A cx L).1 (resN r r9), refQ (apA A cx L).1 (resN r r9), [(b37, .cells ((digF m n n).flatMap inE).toArray 3 (0, 0))], ownG 36 (g.flatMap toC) o, (g.flatMap toM)]) (fun w hw => ?_) ?_
                · have h9 := resN_hp (R := [ownG 69 ((apA A cx L).2.ps.flatMap prC) ra9.1, ownG 4 ((apA A cx L).2.hs.flatMap boE) ra9.2, (aps.flatMap apM), [(b9, .cells (.slice (some ⟨b37, 0, none⟩) n n :: .slice (some ⟨b43, 0, none⟩) n n :: (sfX s00 (apA A cx L).1 (resN r r9)).cells).toArray 36 (0, 0))], [(b43, .cells ((aps.set k ((apA A cx L).2, ra9)).flatMap apC).toArray 48 (0, 0))], [(b37, .cells ((digF m n n).flatMap inE).toArray 3 (0, 0))], ownG 36 (g.flatMap toC) o, (g.flatMap toM)]) hr9 (hw.pick (by repeat (first | exact .nil | apply Pick.cons | exact .here | apply Ext.there)))
                  have h10 := ap_mem (p := ((apA A cx L).2, ra9)) (k := k) (by omega) (h9.pick (ss := [ownG 69 ((apA A cx L).2.ps.flatMap prC) ra9.1, ownG 4 ((apA A cx L).2.hs.flatMap boE) ra9.2, (aps.flatMap apM), [(b9, .cells (.slice (some ⟨b37, 0, none⟩) n n :: .slice (some ⟨b43, 0, none⟩) n n :: (sfX s00 (apA A cx L).1 (resN r r9)).cells).toArray 36 (0, 0))], [(b43, .cells ((aps.set k ((apA A cx L).2, ra9)).flatMap apC).toArray 48 (0, 0))], refP (apA A cx L).1 (resN r r9), refQ (apA A cx L).1 (resN r r9), [(b37, .cells ((digF m n n).flatMap inE).toArray 3 (0, 0))], ownG 36 (g.flatMap toC) o, (g.flatMap toM)]) (by repeat (first | exact .nil | apply Pick.cons | exact .here | apply Ext.there)))
                  exact h10
                refine PQ.round ((j + 1, (resN r r9), (apA A cx L).1, (aps.set k ((apA A cx L).2, ra9)))) ⟨by simp only; omega, by simp only; rw [run_take _ hrj hck, ← hj2]; simp only [List.map_set], by simp [hj3], resN_ok hj4 hr9, fun p hp => by
                  rcases List.mem_or_eq_of_mem_set hp with h | h
                  · exact hj5 p h
                  · subst h; exact ha9, by have h9 := (ap_len A cx L).1; simp only; omega, by have h9 := (ap_len A cx L).2; simp only; omega⟩ (by simp only; omega) (by repeat (first | exact trivial | refine ⟨rfl, ?_⟩)) (by repeat (first | exact .nil | apply Pick.cons | exact .here | apply Ext.there))
              · refine Ro rfl AA fun b12 _ => Re 13 rfl AA fun b11 _ => ReN 15 rfl (StW (cs := (sfX (sfX s00 A r) (apA A cx L).1 r9).cells) (h1 := by rfl)) fun _ _ => ReN 16 rfl (Eff.storeW (cs := apC ((apA A cx L).2, ra9)) rfl rfl (by repeat (first | exact .here | exact .inner .here | exact .inner (.inner .here) | apply Upd.there)) (by rfl) Tryz.sizeOf48 (apC_one _)) fun _ _ => Rd <| Ps <| Sq <| Rg <| Lv (Lw (l := (sfX (sfX s00 A r) (apA A cx L).1 r9).cells)) <| Lv (Fa 2 34) <| LeN (Eff.storeA (cs := (sfX (sfX s00 A r) (apA A cx L).1 r9).cells) (l' := .slice (some ⟨b37, 0, none⟩) n n :: .slice (some ⟨b43, 0, none⟩) n n :: (sfX (sfX s00 A r) (apA A cx L).1 r9).cells) rfl rfl (by repeat (first | exact .here | exact .inner .here | exact .inner (.inner .here) | apply Upd.there)) (by rfl) (by show 0 + 2 + 2 ≤ 4; decide) Tryz.sizeOf34 (by rfl)) fun _ _ => Nl <| Ps <| Dr ([[(b9, .cells _ 36 (0, 0))], [(b37, .cells ((digF m n n).flatMap inE).toArray 3 (0, 0))], [(b12, .cells _ 48 (0, 0))]]) ?_
                refine Rv 0 rfl (Fa 1 30) <| Rv 1 rfl (Ld (v := .slice (some ⟨b43, 0, none⟩) n n)) <| Rv 2 rfl Mv <| Rv 3 rfl Mv <| Rv 4 rfl (Val.indexAddrN rfl rfl Tryz.underlying29 Tryz.sizeOf3 hj9) <| Rv 5 rfl (Val.load (v := .int .i64 (k : Nat)) rfl Tryz.isAgg3 (by repeat (first | exact .here | exact .inner .here | exact .inner (.inner .here) | refine .there ?_)) hlr) <| Rv 6 rfl (Lw (l := apC ((apA A cx L).2, ra9))) <| Rv 7 rfl (Val.indexAddrN rfl rfl Tryz.underlying30 Tryz.sizeOf48 hkn) <| ReN 8 rfl (Eff.storeA (cs := apC ((apA A cx L).2, ra9)) (l := aps.flatMap apC) (l' := (aps.set k ((apA A cx L).2, ra9)).flatMap apC) rfl rfl (by repeat (first | exact .here | exact .inner .here | exact .inner (.inner .here) | apply Upd.there)) (by rw [Nat.zero_add]; have h9 := V.splice_flat apC_len aps k ((apA A cx L).2, ra9) [] (by omega); simpa using h9) (by rw [V.flatMap_len apC_len, apC_len]; omega) Tryz.sizeOf48 (apC_one _)) ?_
                intro _ _
                refine Rd <| Bn <| Ps <| Rg <| Lv Mv <| Lv Ar <| Lv Av <| Nl ?_
                rw [resN_x hr9]
                refine PQ_mono (sg' := [((aps.set k ((apA A cx L).2, ra9)).flatMap apM), [(b9, .cells (.slice (some ⟨b37, 0, none⟩) n n :: .slice (some ⟨b43, 0, none⟩) n n :: (sfX s00 (apA A cx L).1 (resN r r9)).cells).toArray 36 (0, 0))], [(b43, .cells ((aps.set k ((apA A cx L).2, ra9)).flatMap apC).toArray 48 (0, 0))], refP (apA A cx L).1 (resN r r9), refQ (apA A cx L).1 (resN r r9), [(b37, .cells ((digF m n n).flatMap inE).toArray 3 (0, 0))], ownG 36 (g.flatMap toC) o, (g.flatMap toM)]) (fun w hw => ?_) ?_
                · have h9 := resN_hp (R := [ownG 69 ((apA A cx L).2.ps.flatMap prC) ra9.1, ownG 4 ((apA A cx L).2.hs.flatMap boE) ra9.2, (aps.flatMap apM), [(b9, .cells (.slice (some ⟨b37, 0, none⟩) n n :: .slice (some ⟨b43, 0, none⟩) n n :: (sfX s00 (apA A cx L).1 (resN r r9)).cells).toArray 36 (0, 0))], [(b43, .cells ((aps.set k ((apA A cx L).2, ra9)).flatMap apC).toArray 48 (0, 0))], [(b37, .cells ((digF m n n).flatMap inE).toArray 3 (0, 0))], ownG 36 (g.flatMap toC) o, (g.flatMap toM)]) hr9 (hw.pick (by repeat (first | exact .nil | apply Pick.cons | exact .here | apply Ext.there)))
                  have h10 := ap_mem (p := ((apA A cx L).2, ra9)) (k := k) (by omega) (h9.pick (ss := [ownG 69 ((apA A cx L).2.ps.flatMap prC) ra9.1, ownG 4 ((apA A cx L).2.hs.flatMap boE) ra9.2, (aps.flatMap apM), [(b9, .cells (.slice (some ⟨b37, 0, none⟩) n n :: .slice (some ⟨b43, 0, none⟩) n n :: (sfX s00 (apA A cx L).1 (resN r r9)).cells).toArray 36 (0, 0))], [(b43, .cells ((aps.set k ((apA A cx L).2, ra9)).flatMap apC).toArray 48 (0, 0))], refP (apA A cx L).1 (resN r r9), refQ (apA A cx L).1 (resN r r9), [(b37, .cells ((digF m n n).flatMap inE).toArray 3 (0, 0))], ownG 36 (g.flatMap toC) o, (g.flatMap toM)]) (by repeat (first | exact .nil | apply Pick.cons | exact .here | apply Ext.there)))
                  exact h10
                refine PQ.round ((j + 1, (resN r r9), (apA A cx L).1, (aps.set k ((apA A cx L).2, ra9)))) ⟨by simp only; omega, by simp only; rw [run_take _ hrj hck, ← hj2]; simp only [List.map_set], by simp [hj3], resN_ok hj4 hr9, fun p hp => by
                  rcases List.mem_or_eq_of_mem_set hp with h | h
                  · exact hj5 p h
                  · subst h; exact ha9, by have h9 := (ap_len A cx L).1; simp only; omega, by have h9 := (ap_len A cx L).2; simp only; omega⟩ (by simp only; omega) (by repeat (first | exact trivial | refine ⟨rfl, ?_⟩)) (by repeat (first | exact .nil | apply Pick.cons | exact .here | apply Ext.there))
            · refine Ro rfl AA fun b11 _ => RW.any [9, 14] (by kernel_rfl) (by simp) fun i hi => ?_
              simp only [List.mem_cons, List.not_mem_nil, or_false] at hi
              rcases hi with rfl | rfl
              · refine Ro rfl (CM [] fun w hw hs => rapply_c (sfX s00 A r) A cx L w (sfX_ok (s00_ok w) hj4 hw (by repeat (first | exact .nil | apply Pick.cons | exact .here | apply Ext.there))) ⟨by omega, by omega⟩ hLc (hRc.hp hw)) ?_
                rintro ⟨r9, ra9⟩ ⟨hr9, ha9⟩
                refine Rv 10 rfl Mv <| Rv 11 rfl Ex <| RW.re 61 (.agg ((sfX (sfX s00 A r) (apA A cx L).1 r9).cells).toArray) rfl (by rw [sfX_c]) <| Rv 12 rfl Ex <| Re 14 rfl AA fun b12 _ => ReN 15 rfl (StW (cs := (sfX (sfX s00 A r) (apA A cx L).1 r9).cells) (h1 := by rfl)) fun _ _ => ReN 16 rfl (Eff.storeW (cs := apC ((apA A cx L).2, ra9)) rfl rfl (by repeat (first | exact .here | exact .inner .here | exact .inner (.inner .here) | apply Upd.there)) (by rfl) Tryz.sizeOf48 (apC_one _)) fun _ _ => Rd <| Ps <| Sq <| Rg <| Lv (Lw (l := (sfX (sfX s00 A r) (apA A cx L).1 r9).cells)) <| Lv (Fa 2 34) <| LeN (Eff.storeA (cs := (sfX (sfX s00 A r) (apA A cx L).1 r9).cells) (l' := .slice (some ⟨b37, 0, none⟩) n n :: .slice (some ⟨b43, 0, none⟩) n n :: (sfX (sfX s00 A r) (apA A cx L).1 r9).cells) rfl rfl (by repeat (first | exact .here | exact .inner .here | exact .inner (.inner .here) | apply Upd.there)) (by rfl) (by show 0 + 2 + 2 ≤ 4; decide) Tryz.sizeOf34 (by rfl)) fun _ _ => Nl <| Ps <| Dr ([[(b9, .cells _ 36 (0, 0))], [(b37, .cells ((digF m n n).flatMap inE).toArray 3 (0, 0))], [(b12, .cells _ 48 (0, 0))]]) ?_
                refine Rv 0 rfl (Fa 1 30) <| Rv 1 rfl (Ld (v := .slice (some ⟨b43, 0, none⟩) n n)) <| Rv 2 rfl Mv <| Rv 3 rfl Mv <| Rv 4 rfl (Val.indexAddrN rfl rfl Tryz.underlying29 Tryz.sizeOf3 hj9) <| Rv 5 rfl (Val.load (v := .int .i64 (k : Nat)) rfl Tryz.isAgg3 (by repeat (first | exact .here | exact .inner .here | exact .inner (.inner .here) | refine .there ?_)) hlr) <| Rv 6 rfl (Lw (l := apC ((apA A cx L).2, ra9))) <| Rv 7 rfl (Val.indexAddrN rfl rfl Tryz.underlying30 Tryz.sizeOf48 hkn) <| ReN 8 rfl (Eff.storeA (cs := apC ((apA A cx L).2, ra9)) (l := aps.flatMap apC) (l' := (aps.set k ((apA A cx L).2, ra9)).flatMap apC) rfl rfl (by repeat (first | exact .here | exact .inner .here | exact .inner (.inner .here) | apply Upd.there)) (by rw [Nat.zero_add]; have h9 := V.splice_flat apC_len aps k ((apA A cx L).2, ra9) [] (by omega); simpa using h9) (by rw [V.flatMap_len apC_len, apC_len]; omega) Tryz.sizeOf48 (apC_one _)) ?_
                intro _ _
                refine Rd <| Bn <| Ps <| Rg <| Lv Mv <| Lv Ar <| Lv Av <| Nl ?_
                rw [resN_x hr9]
                refine PQ_mono (sg' := [((aps.set k ((apA A cx L).2, ra9)).flatMap apM), [(b9, .cells (.slice (some ⟨b37, 0, none⟩) n n :: .slice (some ⟨b43, 0, none⟩) n n :: (sfX s00 (apA A cx L).1 (resN r r9)).cells).toArray 36 (0, 0))], [(b43, .cells ((aps.set k ((apA A cx L).2, ra9)).flatMap apC).toArray 48 (0, 0))], refP (apA A cx L).1 (resN r r9), refQ (apA A cx L).1 (resN r r9), [(b37, .cells ((digF m n n).flatMap inE).toArray 3 (0, 0))], ownG 36 (g.flatMap toC) o, (g.flatMap toM)]) (fun w hw => ?_) ?_
                · have h9 := resN_hp (R := [ownG 69 ((apA A cx L).2.ps.flatMap prC) ra9.1, ownG 4 ((apA A cx L).2.hs.flatMap boE) ra9.2, (aps.flatMap apM), [(b9, .cells (.slice (some ⟨b37, 0, none⟩) n n :: .slice (some ⟨b43, 0, none⟩) n n :: (sfX s00 (apA A cx L).1 (resN r r9)).cells).toArray 36 (0, 0))], [(b43, .cells ((aps.set k ((apA A cx L).2, ra9)).flatMap apC).toArray 48 (0, 0))], [(b37, .cells ((digF m n n).flatMap inE).toArray 3 (0, 0))], ownG 36 (g.flatMap toC) o, (g.flatMap toM)]) hr9 (hw.pick (by repeat (first | exact .nil | apply Pick.cons | exact .here | apply Ext.there)))
                  have h10 := ap_mem (p := ((apA A cx L).2, ra9)) (k := k) (by omega) (h9.pick (ss := [ownG 69 ((apA A cx L).2.ps.flatMap prC) ra9.1, ownG 4 ((apA A cx L).2.hs.flatMap boE) ra9.2, (aps.flatMap apM), [(b9, .cells (.slice (some ⟨b37, 0, none⟩) n n :: .slice (some ⟨b43, 0, none⟩) n n :: (sfX s00 (apA A cx L).1 (resN r r9)).cells).toArray 36 (0, 0))], [(b43, .cells ((aps.set k ((apA A cx L).2, ra9)).flatMap apC).toArray 48 (0, 0))], refP (apA A cx L).1 (resN r r9), refQ (apA A cx L).1 (resN r r9), [(b37, .cells ((digF m n n).flatMap inE).toArray 3 (0, 0))], ownG 36 (g.flatMap toC) o, (g.flatMap toM)]) (by repeat (first | exact .nil | apply Pick.cons | exact .here | apply Ext.there)))
                  exact h10
                refine PQ.round ((j + 1, (resN r r9), (apA A cx L).1, (aps.set k ((apA A cx L).2, ra9)))) ⟨by simp only; omega, by simp only; rw [run_take _ hrj hck, ← hj2]; simp only [List.map_set], by simp [hj3], resN_ok hj4 hr9, fun p hp => by
                  rcases List.mem_or_eq_of_mem_set hp with h | h
                  · exact hj5 p h
                  · subst h; exact ha9, by have h9 := (ap_len A cx L).1; simp only; omega, by have h9 := (ap_len A cx L).2; simp only; omega⟩ (by simp only; omega) (by repeat (first | exact trivial | refine ⟨rfl, ?_⟩)) (by repeat (first | exact .nil | apply Pick.cons | exact .here | apply Ext.there))
              · refine Ro rfl AA fun b12 _ => Re 9 rfl (CM [] fun w hw hs => rapply_c (sfX s00 A r) A cx L w (sfX_ok (s00_ok w) hj4 hw (by repeat (first | exact .nil | apply Pick.cons | exact .here | apply Ext.there))) ⟨by omega, by omega⟩ hLc (hRc.hp hw)) ?_
                rintro ⟨r9, ra9⟩ ⟨hr9, ha9⟩
                refine Rv 10 rfl Mv <| Rv 11 rfl Ex <| RW.re 61 (.agg ((sfX (sfX s00 A r) (apA A cx L).1 r9).cells).toArray) rfl (by rw [sfX_c]) <| Rv 12 rfl Ex <| ReN 15 rfl (StW (cs := (sfX (sfX s00 A r) (apA A cx L).1 r9).cells) (h1 := by rfl)) fun _ _ => ReN 16 rfl (Eff.storeW (cs := apC ((apA A cx L).2, ra9)) rfl rfl (by repeat (first | exact .here | exact .inner .here | exact .inner (.inner .here) | apply Upd.there)) (by rfl) Tryz.sizeOf48 (apC_one _)) fun _ _ => Rd <| Ps <| Sq <| Rg <| Lv (Lw (l := (sfX (sfX s00 A r) (apA A cx L).1 r9).cells)) <| Lv (Fa 2 34) <| LeN (Eff.storeA (cs := (sfX (sfX s00 A r) (apA A cx L).1 r9).cells) (l' := .slice (some ⟨b37, 0, none⟩) n n :: .slice (some ⟨b43, 0, none⟩) n n :: (sfX (sfX s00 A r) (apA A cx L).1 r9).cells) rfl rfl (by repeat (first | exact .here | exact .inner .here | exact .inner (.inner .here) | apply Upd.there)) (by rfl) (by show 0 + 2 + 2 ≤ 4; decide) Tryz.sizeOf34 (by rfl)) fun _ _ => Nl <| Ps <| Dr ([[(b9, .cells _ 36 (0, 0))], [(b37, .cells ((digF m n n).flatMap inE).toArray 3 (0, 0))], [(b12, .cells _ 48 (0, 0))]]) ?_
                refine Rv 0 rfl (Fa 1 30) <| Rv 1 rfl (Ld (v := .slice (some ⟨b43, 0, none⟩) n n)) <| Rv 2 rfl Mv <| Rv 3 rfl Mv <| Rv 4 rfl (Val.indexAddrN rfl rfl Tryz.underlying29 Tryz.sizeOf3 hj9) <| Rv 5 rfl (Val.load (v := .int .i64 (k : Nat)) rfl Tryz.isAgg3 (by repeat (first | exact .here | exact .inner .here | exact .inner (.inner .here) | refine .there ?_)) hlr) <| Rv 6 rfl (Lw (l := apC ((apA A cx L).2, ra9))) <| Rv 7 rfl (Val.indexAddrN rfl rfl Tryz.underlying30 Tryz.sizeOf48 hkn) <| ReN 8 rfl (Eff.storeA (cs := apC ((apA A cx L).2, ra9)) (l := aps.flatMap apC) (l' := (aps.set k ((apA A cx L).2, ra9)).flatMap apC) rfl rfl (by repeat (first | exact .here | exact .inner .here | exact .inner (.inner .here) | apply Upd.there)) (by rw [Nat.zero_add]; have h9 := V.splice_flat apC_len aps k ((apA A cx L).2, ra9) [] (by omega); simpa using h9) (by rw [V.flatMap_len apC_len, apC_len]; omega) Tryz.sizeOf48 (apC_one _)) ?_
                intro _ _
                refine Rd <| Bn <| Ps <| Rg <| Lv Mv <| Lv Ar <| Lv Av <| Nl ?_
                rw [resN_x hr9]
                refine PQ_mono (sg' := [((aps.set k ((apA A cx L).2, ra9)).flatMap apM), [(b9, .cells (.slice (some ⟨b37, 0, none⟩) n n :: .slice (some ⟨b43, 0, none⟩) n n :: (sfX s00 (apA A cx L).1 (resN r r9)).cells).toArray 36 (0, 0))], [(b43, .cells ((aps.set k ((apA A cx L).2, ra9)).flatMap apC).toArray 48 (0, 0))], refP (apA A cx L).1 (resN r r9), refQ (apA A cx L).1 (resN r r9), [(b37, .cells ((digF m n n).flatMap inE).toArray 3 (0, 0))], ownG 36 (g.flatMap toC) o, (g.flatMap toM)]) (fun w hw => ?_) ?_
                · have h9 := resN_hp (R := [ownG 69 ((apA A cx L).2.ps.flatMap prC) ra9.1, ownG 4 ((apA A cx L).2.hs.flatMap boE) ra9.2, (aps.flatMap apM), [(b9, .cells (.slice (some ⟨b37, 0, none⟩) n n :: .slice (some ⟨b43, 0, none⟩) n n :: (sfX s00 (apA A cx L).1 (resN r r9)).cells).toArray 36 (0, 0))], [(b43, .cells ((aps.set k ((apA A cx L).2, ra9)).flatMap apC).toArray 48 (0, 0))], [(b37, .cells ((digF m n n).flatMap inE).toArray 3 (0, 0))], ownG 36 (g.flatMap toC) o, (g.flatMap toM)]) hr9 (hw.pick (by repeat (first | exact .nil | apply Pick.cons | exact .here | apply Ext.there)))
                  have h10 := ap_mem (p := ((apA A cx L).2, ra9)) (k := k) (by omega) (h9.pick (ss := [ownG 69 ((apA A cx L).2.ps.flatMap prC) ra9.1, ownG 4 ((apA A cx L).2.hs.flatMap boE) ra9.2, (aps.flatMap apM), [(b9, .cells (.slice (some ⟨b37, 0, none⟩) n n :: .slice (some ⟨b43, 0, none⟩) n n :: (sfX s00 (apA A cx L).1 (resN r r9)).cells).toArray 36 (0, 0))], [(b43, .cells ((aps.set k ((apA A cx L).2, ra9)).flatMap apC).toArray 48 (0, 0))], refP (apA A cx L).1 (resN r r9), refQ (apA A cx L).1 (resN r r9), [(b37, .cells ((digF m n n).flatMap inE).toArray 3 (0, 0))], ownG 36 (g.flatMap toC) o, (g.flatMap toM)]) (by repeat (first | exact .nil | apply Pick.cons | exact .here | apply Ext.there)))
                  exact h10
                refine PQ.round ((j + 1, (resN r r9), (apA A cx L).1, (aps.set k ((apA A cx L).2, ra9)))) ⟨by simp only; omega, by simp only; rw [run_take _ hrj hck, ← hj2]; simp only [List.map_set], by simp [hj3], resN_ok hj4 hr9, fun p hp => by
                  rcases List.mem_or_eq_of_mem_set hp with h | h
                  · exact hj5 p h
                  · subst h; exact ha9, by have h9 := (ap_len A cx L).1; simp only; omega, by have h9 := (ap_len A cx L).2; simp only; omega⟩ (by simp only; omega) (by repeat (first | exact trivial | refine ⟨rfl, ?_⟩)) (by repeat (first | exact .nil | apply Pick.cons | exact .here | apply Ext.there))
            · refine Ro rfl AA fun b12 _ => RW.any [9, 13] (by kernel_rfl) (by simp) fun i hi => ?_
              simp only [List.mem_cons, List.not_mem_nil, or_false] at hi
              rcases hi with rfl | rfl
              · refine Ro rfl (CM [] fun w hw hs => rapply_c (sfX s00 A r) A cx L w (sfX_ok (s00_ok w) hj4 hw (by repeat (first | exact .nil | apply Pick.cons | exact .here | apply Ext.there))) ⟨by omega, by omega⟩ hLc (hRc.hp hw)) ?_
                rintro ⟨r9, ra9⟩ ⟨hr9, ha9⟩
                refine Rv 10 rfl Mv <| Rv 11 rfl Ex <| RW.re 61 (.agg ((sfX (sfX s00 A r) (apA A cx L).1 r9).cells).toArray) rfl (by rw [sfX_c]) <| Rv 12 rfl Ex <| Re 13 rfl AA fun b11 _ => ReN 15 rfl (StW (cs := (sfX (sfX s00 A r) (apA A cx L).1 r9).cells) (h1 := by rfl)) fun _ _ => ReN 16 rfl (Eff.storeW (cs := apC ((apA A cx L).2, ra9)) rfl rfl (by repeat (first | exact .here | exact .inner .here | exact .inner (.inner .here) | apply Upd.there)) (by rfl) Tryz.sizeOf48 (apC_one _)) fun _ _ => Rd <| Ps <| Sq <| Rg <| Lv (Lw (l := (sfX (sfX s00 A r) (apA A cx L).1 r9).cells)) <| Lv (Fa 2 34) <| LeN (Eff.storeA (cs := (sfX (sfX s00 A r) (apA A cx L).1 r9).cells) (l' := .slice (some ⟨b37, 0, none⟩) n n :: .slice (some ⟨b43, 0, none⟩) n n :: (sfX (sfX s00 A r) (apA A cx L).1 r9).cells) rfl rfl (by repeat (first | exact .here | exact .inner .here | exact .inner (.inner .here) | apply Upd.there)) (by rfl) (by show 0 + 2 + 2 ≤ 4; decide) Tryz.sizeOf34 (by rfl)) fun _ _ => Nl <| Ps <| Dr ([[(b9, .cells _ 36 (0, 0))], [(b37, .cells ((digF m n n).flatMap inE).toArray 3 (0, 0))], [(b12, .cells _ 48 (0, 0))]]) ?_
                refine Rv 0 rfl (Fa 1 30) <| Rv 1 rfl (Ld (v := .slice (some ⟨b43, 0, none⟩) n n)) <| Rv 2 rfl Mv <| Rv 3 rfl Mv <| Rv 4 rfl (Val.indexAddrN rfl rfl Tryz.underlying29 Tryz.sizeOf3 hj9) <| Rv 5 rfl (Val.load (v := .int .i64 (k : Nat)) rfl Tryz.isAgg3 (by repeat (first | exact .here | exact .inner .here | exact .inner (.inner .here) | refine .there ?_)) hlr) <| Rv 6 rfl (Lw (l := apC ((apA A cx L).2, ra9))) <| Rv 7 rfl (Val.indexAddrN rfl rfl Tryz.underlying30 Tryz.sizeOf48 hkn) <| ReN 8 rfl (Eff.storeA (cs := apC ((apA A cx L).2, ra9)) (l := aps.flatMap apC) (l' := (aps.set k ((apA A cx L).2, ra9)).flatMap apC) rfl rfl (by repeat (first | exact .here | exact .inner .here | exact .inner (.inner .here) | apply Upd.there)) (by rw [Nat.zero_add]; have h9 := V.splice_flat apC_len aps k ((apA A cx L).2, ra9) [] (by omega); simpa using h9) (by rw [V.flatMap_len apC_len, apC_len]; omega) Tryz.sizeOf48 (apC_one _)) ?_
                intro _ _
                refine Rd <| Bn <| Ps <| Rg <| Lv Mv <| Lv Ar <| Lv Av <| Nl ?_
                rw [resN_x hr9]
                refine PQ_mono (sg' := [((aps.set k ((apA A cx L).2, ra9)).flatMap apM), [(b9, .cells (.slice (some ⟨b37, 0, none⟩) n n :: .slice (some ⟨b43, 0, none⟩) n n :: (sfX s00 (apA A cx L).1 (resN r r9)).cells).toArray 36 (0, 0))], [(b43, .cells ((aps.set k ((apA A cx L).2, ra9)).flatMap apC).toArray 48 (0, 0))], refP (apA A cx L).1 (resN r r9), refQ (apA A cx L).1 (resN r r9), [(b37, .cells ((digF m n n).flatMap inE).toArray 3 (0, 0))], ownG 36 (g.flatMap toC) o, (g.flatMap toM)]) (fun w hw => ?_) ?_
                · have h9 := resN_hp (R := [ownG 69 ((apA A cx L).2.ps.flatMap prC) ra9.1, ownG 4 ((apA A cx L).2.hs.flatMap boE) ra9.2, (aps.flatMap apM), [(b9, .cells (.slice (some ⟨b37, 0, none⟩) n n :: .slice (some ⟨b43, 0, none⟩) n n :: (sfX s00 (apA A cx L).1 (resN r r9)).cells).toArray 36 (0, 0))], [(b43, .cells ((aps.set k ((apA A cx L).2, ra9)).flatMap apC).toArray 48 (0, 0))], [(b37, .cells ((digF m n n).flatMap inE).toArray 3 (0, 0))], ownG 36 (g.flatMap toC) o, (g.flatMap toM)]) hr9 (hw.pick (by repeat (first | exact .nil | apply Pick.cons | exact .here | apply Ext.there)))
                  have h10 := ap_mem (p := ((apA A cx L).2, ra9)) (k := k) (by omega) (h9.pick (ss := [ownG 69 ((apA A cx L).2.ps.flatMap prC) ra9.1, ownG 4 ((apA A cx L).2.hs.flatMap boE) ra9.2, (aps.flatMap apM), [(b9, .cells (.slice (some ⟨b37, 0, none⟩) n n :: .slice (some ⟨b43, 0, none⟩) n n :: (sfX s00 (apA A cx L).1 (resN r r9)).cells).toArray 36 (0, 0))], [(b43, .cells ((aps.set k ((apA A cx L).2, ra9)).flatMap apC).toArray 48 (0, 0))], refP (apA A cx L).1 (resN r r9), refQ (apA A cx L).1 (resN r r9), [(b37, .cells ((digF m n n).flatMap inE).toArray 3 (0, 0))], ownG 36 (g.flatMap toC) o, (g.flatMap toM)]) (by repeat (first | exact .nil | apply Pick.cons | exact .here | apply Ext.there)))
                  exact h10
                refine PQ.round ((j + 1, (resN r r9), (apA A cx L).1, (aps.set k ((apA A cx L).2, ra9)))) ⟨by simp only; omega, by simp only; rw [run_take _ hrj hck, ← hj2]; simp only [List.map_set], by simp [hj3], resN_ok hj4 hr9, fun p hp => by
                  rcases List.mem_or_eq_of_mem_set hp with h | h
                  · exact hj5 p h
                  · subst h; exact ha9, by have h9 := (ap_len A cx L).1; simp only; omega, by have h9 := (ap_len A cx L).2; simp only; omega⟩ (by simp only; omega) (by repeat (first | exact trivial | refine ⟨rfl, ?_⟩)) (by repeat (first | exact .nil | apply Pick.cons | exact .here | apply Ext.there))
              · refine Ro rfl AA fun b11 _ => Re 9 rfl (CM [] fun w hw hs => rapply_c (sfX s00 A r) A cx L w (sfX_ok (s00_ok w) hj4 hw (by repeat (first | exact .nil | apply Pick.cons | exact .here | apply Ext.there))) ⟨by omega, by omega⟩ hLc (hRc.hp hw)) ?_
                rintro ⟨r9, ra9⟩ ⟨hr9, ha9⟩
                refine Rv 10 rfl Mv <| Rv 11 rfl Ex <| RW.re 61 (.agg ((sfX (sfX s00 A r) (apA A cx L).1 r9).cells).toArray) rfl (by rw [sfX_c]) <| Rv 12 rfl Ex <| ReN 15 rfl (StW (cs := (sfX (sfX s00 A r) (apA A cx L).1 r9).cells) (h1 := by rfl)) fun _ _ => ReN 16 rfl (Eff.storeW (cs := apC ((apA A cx L).2, ra9)) rfl rfl (by repeat (first | exact .here | exact .inner .here | exact .inner (.inner .here) | apply Upd.there)) (by rfl) Tryz.sizeOf48 (apC_one _)) fun _ _ => Rd <| Ps <| Sq <| Rg <| Lv (Lw (l := (sfX (sfX s00 A r) (apA A cx L).1 r9).cells)) <| Lv (Fa 2 34) <| LeN (Eff.storeA (cs := (sfX (sfX s00 A r) (apA A cx L).1 r9).cells) (l' := .slice (some ⟨b37, 0, none⟩) n n :: .slice (some ⟨b43, 0, none⟩) n n :: (sfX (sfX s00 A r) (apA A cx L).1 r9).cells) rfl rfl (by repeat (first | exact .here | exact .inner .here | exact .inner (.inner .here) | apply Upd.there)) (by rfl) (by show 0 + 2 + 2 ≤ 4; decide) Tryz.sizeOf34 (by rfl)) fun _ _ => Nl <| Ps <| Dr ([[(b9, .cells _ 36 (0, 0))], [(b37, .cells ((digF m n n).flatMap inE).toArray 3 (0, 0))], [(b12, .cells _ 48 (0, 0))]]) ?_
                refine Rv 0 rfl (Fa 1 30) <| Rv 1 rfl (Ld (v := .slice (some ⟨b43, 0, none⟩) n n)) <| Rv 2 rfl Mv <| Rv 3 rfl Mv <| Rv 4 rfl (Val.indexAddrN rfl rfl Tryz.underlying29 Tryz.sizeOf3 hj9) <| Rv 5 rfl (Val.load (v := .int .i64 (k : Nat)) rfl Tryz.isAgg3 (by repeat (first | exact .here | exact .inner .here | exact .inner (.inner .here) | refine .there ?_)) hlr) <| Rv 6 rfl (Lw (l := apC ((apA A cx L).2, ra9))) <| Rv 7 rfl (Val.indexAddrN rfl rfl Tryz.underlying30 Tryz.sizeOf48 hkn) <| ReN 8 rfl (Eff.storeA (cs := apC ((apA A cx L).2, ra9)) (l := aps.flatMap apC) (l' := (aps.set k ((apA A cx L).2, ra9)).flatMap apC) rfl rfl (by repeat (first | exact .here | exact .inner .here | exact .inner (.inner .here) | apply Upd.there)) (by rw [Nat.zero_add]; have h9 := V.splice_flat apC_len aps k ((apA A cx L).2, ra9) [] (by omega); simpa using h9) (by rw [V.flatMap_len apC_len, apC_len]; omega) Tryz.sizeOf48 (apC_one _)) ?_
                intro _ _
                refine Rd <| Bn <| Ps <| Rg <| Lv Mv <| Lv Ar <| Lv Av <| Nl ?_
                rw [resN_x hr9]
                refine PQ_mono (sg' := [((aps.set k ((apA A cx L).2, ra9)).flatMap apM), [(b9, .cells (.slice (some ⟨b37, 0, none⟩) n n :: .slice (some ⟨b43, 0, none⟩) n n :: (sfX s00 (apA A cx L).1 (resN r r9)).cells).toArray 36 (0, 0))], [(b43, .cells ((aps.set k ((apA A cx L).2, ra9)).flatMap apC).toArray 48 (0, 0))], refP (apA A cx L).1 (resN r r9), refQ (apA A cx L).1 (resN r r9), [(b37, .cells ((digF m n n).flatMap inE).toArray 3 (0, 0))], ownG 36 (g.flatMap toC) o, (g.flatMap toM)]) (fun w hw => ?_) ?_
                · have h9 := resN_hp (R := [ownG 69 ((apA A cx L).2.ps.flatMap prC) ra9.1, ownG 4 ((apA A cx L).2.hs.flatMap boE) ra9.2, (aps.flatMap apM), [(b9, .cells (.slice (some ⟨b37, 0, none⟩) n n :: .slice (some ⟨b43, 0, none⟩) n n :: (sfX s00 (apA A cx L).1 (resN r r9)).cells).toArray 36 (0, 0))], [(b43, .cells ((aps.set k ((apA A cx L).2, ra9)).flatMap apC).toArray 48 (0, 0))], [(b37, .cells ((digF m n n).flatMap inE).toArray 3 (0, 0))], ownG 36 (g.flatMap toC) o, (g.flatMap toM)]) hr9 (hw.pick (by repeat (first | exact .nil | apply Pick.cons | exact .here | apply Ext.there)))
                  have h10 := ap_mem (p := ((apA A cx L).2, ra9)) (k := k) (by omega) (h9.pick (ss := [ownG 69 ((apA A cx L).2.ps.flatMap prC) ra9.1, ownG 4 ((apA A cx L).2.hs.flatMap boE) ra9.2, (aps.flatMap apM), [(b9, .cells (.slice (some ⟨b37, 0, none⟩) n n :: .slice (some ⟨b43, 0, none⟩) n n :: (sfX s00 (apA A cx L).1 (resN r r9)).cells).toArray 36 (0, 0))], [(b43, .cells ((aps.set k ((apA A cx L).2, ra9)).flatMap apC).toArray 48 (0, 0))], refP (apA A cx L).1 (resN r r9), refQ (apA A cx L).1 (resN r r9), [(b37, .cells ((digF m n n).flatMap inE).toArray 3 (0, 0))], ownG 36 (g.flatMap toC) o, (g.flatMap toM)]) (by repeat (first | exact .nil | apply Pick.cons | exact .here | apply Ext.there)))
                  exact h10
                refine PQ.round ((j + 1, (resN r r9), (apA A cx L).1, (aps.set k ((apA A cx L).2, ra9)))) ⟨by simp only; omega, by simp only; rw [run_take _ hrj hck, ← hj2]; simp only [List.map_set], by simp [hj3], resN_ok hj4 hr9, fun p hp => by
                  rcases List.mem_or_eq_of_mem_set hp with h | h
                  · exact hj5 p h
                  · subst h; exact ha9, by have h9 := (ap_len A cx L).1; simp only; omega, by have h9 := (ap_len A cx L).2; simp only; omega⟩ (by simp only; omega) (by repeat (first | exact trivial | refine ⟨rfl, ?_⟩)) (by repeat (first | exact .nil | apply Pick.cons | exact .here | apply Ext.there))
          · replace h47 := bF h47
            have hj9 : n ≤ j := by omega
            rw [List.take_of_length_le (by omega)] at hj2
            refine Xt <| Te <| Te <| Bh <| Ps <| Rg <| Lv Mv <| Lv (Lw (l := .slice (some ⟨b37, 0, none⟩) n n :: .slice (some ⟨b43, 0, none⟩) n n :: (sfX s00 A r).cells)) <| LW.re 74 (.agg (toC (TO.mk (digF m n n) (some (b37, [], n)) b43 aps A (soOf r))).toArray) rfl (by simp only [toC, ← soOf_v hj4, hj3, hrl]; rfl) <| Le (Eff.buildSlice (rfl) [_, _, _, _] Tryz.underlying25 Tryz.sizeOf36 (by exact Tryz.zeroValue36) rfl rfl rfl rfl (by rfl)) fun b75 _ => Le (Eff.appendAny (toC (TO.mk (digF m n n) (some (b37, [], n)) b43 aps A (soOf r))) (sz := 4) (bytes := 96) (z := .agg #[.slice none 0 0, .slice none 0 0, .slice none 0 0, .slice none 0 0]) (xs := g.flatMap toC) (m0 := g.length) (o := o) (m := 1) (pk := [ownG 36 (g.flatMap toC) o]) rfl rfl Tryz.underlying25 (by kernel_rfl) rfl (by omega) (by repeat (first | exact .nil | apply Pick.cons | exact .here | apply Ext.there)) (by simp) hm4 (by rfl) (fun hm0 => ⟨b75, 0, rfl, fun w hw => V.range_of_block (o := 0) (cs := toC (TO.mk (digF m n n) (some (b37, [], n)) b43 aps A (soOf r))) (r := []) (hw.own _ (show InS (b75, .cells (toC (TO.mk (digF m n n) (some (b37, [], n)) b43 aps A (soOf r))).toArray 36 (0, 0)) _ from (by repeat (first | exact .here | exact .inner .here | exact .inner (.inner .here) | refine .there ?_))).mem) (by simp)⟩) (toC_one _) (by omega) (by omega)) fun o9 ho90 => ?_
            have ho9 : ownOk 4 (g ++ [(TO.mk (digF m n n) (some (b37, [], n)) b43 aps A (soOf r))]).length ((g ++ [(TO.mk (digF m n n) (some (b37, [], n)) b43 aps A (soOf r))]).flatMap toC) o9 := by simpa using ho90
            rw [show g.flatMap toC ++ toC (TO.mk (digF m n n) (some (b37, [], n)) b43 aps A (soOf r)) = (g ++ [(TO.mk (digF m n n) (some (b37, [], n)) b43 aps A (soOf r))]).flatMap toC from by simp, show g.length + 1 = (g ++ [(TO.mk (digF m n n) (some (b37, [], n)) b43 aps A (soOf r))]).length from by simp]
            refine Lv Av <| Nl <| Bn <| Ps <| Rg <| Lv Mv <| Lv Ar <| Lv Av <| Nl ?_
            refine PQ_mono (sg' := [ownG 36 ((g ++ [(TO.mk (digF m n n) (some (b37, [], n)) b43 aps A (soOf r))]).flatMap toC) o9, ((g ++ [(TO.mk (digF m n n) (some (b37, [], n)) b43 aps A (soOf r))]).flatMap toM)]) (fun w hw => ?_) ?_
            · refine (hw.pick (ss := [ownG 36 ((g ++ [(TO.mk (digF m n n) (some (b37, [], n)) b43 aps A (soOf r))]).flatMap toC) o9, (g.flatMap toM), [(b37, .cells ((digF m n n).flatMap inE).toArray 3 (0, 0))], [(b43, .cells (aps.flatMap apC).toArray 48 (0, 0))], (aps.flatMap apM), refP A r, refQ A r]) (by repeat (first | exact .nil | apply Pick.cons | exact .here | apply Ext.there))).perm ?_
              rw [soOf_p, soOf_q]
              simp only [List.flatMap_append, List.flatMap_cons, List.flatMap_nil, List.append_nil, toM, V.ownG, V.ownS, List.flatten_cons, List.flatten_nil]
              classical
              refine List.perm_iff_count.2 fun i => ?_
              simp only [List.count_append] <;> omega
            refine PQ.round ((m + 1, (g ++ [(TO.mk (digF m n n) (some (b37, [], n)) b43 aps A (soOf r))]), o9)) ⟨by simp only; omega, by
              simp only
              rw [ords_yes h40, List.map_append, hm2, List.map_append]
              congr 1
              simp only [List.map_cons, List.map_nil, toA, turnOf, runT, List.cons.injEq, and_true]
              rw [← hj2], fun t ht => by
              rcases List.mem_append.1 ht with h | h
              · exact hm3 t h
              · obtain rfl : t = _ := by simpa using h
                exact ⟨⟨by rw [V.flatMap_len inE_len], by rw [V.flatMap_len inE_len]; simp [hrl]⟩, hj5, soOf_ok hj4⟩, ho9⟩ (by simp only; omega) (by repeat (first | exact trivial | refine ⟨rfl, ?_⟩)) (by repeat (first | exact .nil | apply Pick.cons | exact .here | apply Ext.there))
      · replace h31 := bF h31
        have hm9 : m = n ^ n := by omega
        refine Xt <| Te <| Te <| Bh <| Ps <| Sq <| Rg <| Lv Mv <| Lv Av <| Nl <| Ps <| Rt <| Rt1 ?_
        rw [hm9, ords_end h1 h3] at hm2
        intro w' hw; exact ⟨(g, o), ⟨hm2, hm3, hm4⟩, rfl, hw.pick (by repeat (first | exact .nil | apply Pick.cons | exact .here | apply Ext.there))⟩
theorem rrows_c (C : Crs) (pc : Option Addr) (n cc : Nat) (hC : n = C.length) (w : World) (hR : CrsR w pc C) : Calls Tryz.prog 10 [.slice pc n cc].toArray w fun e w' => ∃ g : List TO × V.OwnO, (g.1.map toA = rowsF C ∧ (∀ t ∈ g.1, toOk t) ∧ ownOk 4 g.1.length (g.1.flatMap toC) g.2) ∧ e = .returned (ownV g.1.length g.2) ∧ Hp ⟨w, []⟩ [ownG 36 (g.1.flatMap toC) g.2, g.1.flatMap toM] w' := by
  by_cases h : C.length = 0 ∨ 3 < C.length
  · refine (rrows0_c pc n cc (by omega) w).mono fun e w' ⟨he, hb⟩ => ⟨([], none), ⟨by unfold rowsF; rw [if_pos h]; rfl, fun t ht => by simp at ht, ⟨rfl, rfl⟩⟩, he, ?_⟩
    have h9 := (hp_none w).call_ro hb
    exact h9.perm (by simp [V.ownG, V.ownS])
  · refine (rrows1_c C pc n cc hC.symm (by omega) (by omega) w hR).mono fun e w' ⟨g, ⟨h1, h2, h3⟩, he, hw⟩ => ⟨g, ⟨by unfold rowsF; rw [if_neg h, h1, hC], h2, h3⟩, he, hw⟩
end I
end Go.Proofs.YtlpbjmbgopfkhaaGreat

/- What the row EveryRows calls: lists of turns compared, numbers and stores written over. -/
namespace Go.Proofs.YtlpbjmbgopfkhaaGreat
open Go Go.RowKit V
set_option linter.unusedVariables false
set_option maxRecDepth 100000
namespace I
open V (str byC ownV ownG ownS ownOk)
theorem sf_in {rt : RT} {q : Nat} {v : Value} (h : rt.s.cells[q]? = some v) : (rtC rt)[2 + q]? = some v := by rcases q with _ | _ | q <;> simp_all [rtC, Sf.cells]
theorem same_at {l1 l2 : List TF} (h : l1.map (fun t => t.2.2) = l2.map (fun t => t.2.2)) {k : Nat} {r1 r2 : RT} {a1 a2 : List RA} {x1 x2 : TurnA} (h1 : l1[k]? = some (r1, a1, x1)) (h2 : l2[k]? = some (r2, a2, x2)) : x1 = x2 := by
  have h3 := congrArg (·[k]?) h
  simp only [List.getElem?_map, h1, h2, Option.map_some, Option.some.injEq] at h3
  exact h3
set_option maxHeartbeats 1600000 in
theorem sameTurns_c (l1 l2 : List TF) (p1 p2 : Option Addr) (n1 n2 c1 c2 : Nat) (hn1 : n1 = l1.length) (hn2 : n2 = l2.length) (h : l1.map (fun t => t.2.2) = l2.map (fun t => t.2.2)) (hs : ∀ t ∈ l1, SmT t.2.2) (hl : l1.length ≤ 1000) (w : World) (T1 : TfsR w p1 l1) (T2 : TfsR w p2 l2) : Calls Tryz.prog 11 [.slice p1 n1 c1, .slice p2 n2 c2].toArray w fun e w' => e = .returned (.bool true) ∧ Below w.heap.size w w' := by
  have hlen : l1.length = l2.length := by have h9 := congrArg List.length h; simpa using h9
  subst hn1; subst hn2
  refine V.calls [] Tryz.func11 rfl Tryz.ntmps11 (Nat.le_of_ble_eq_true rfl) (V.sat_nil _) <| Sq <| Rg <| Lv Av <| Nl <| Ps <| Sq <| Sq <| Rg <| Lv Mv <| Lv Ln <| Lv Mv <| Lv Ln <| Lv Cm <| LW.re 11 (.bool false) rfl (by rw [hlen]; simp) <| Nl <| Ps <| Cf <| Sk <| Ps <| Sq <| Sq <| Rg <| Lv Av <| Nl <| Ps <| Bk <| loopA (γ := Nat) (fun k => [(0, .slice p1 l1.length c1), (1, .slice p2 l2.length c2), (5, .int .i64 (k : Nat))]) (fun _ => []) (fun k => k ≤ l1.length) (fun k => l1.length - k) (0) (Nat.zero_le _) fun k hk1 => Sq <| Sq <| Rg <| Lv Mv <| Lv Mv <| Lv Ln <| Lv Cm <| Nl <| Ps ?_
  refine CW.cond rfl (fun h15 => ?_) (fun h15 => ?_)
  · replace h15 := bT h15
    have hk9 : k < l1.length := by omega
    have hk8 : k < l2.length := by omega
    obtain ⟨bb1, o1, rt1, rfl, hb1, hx1, hr1⟩ := V.slAt_at T1.1 (by simp) (k := k) hk9
    obtain ⟨⟨as1, x⟩, hl1⟩ := map_atF hx1
    obtain ⟨bb2, o2, rt2, rfl, hb2, hx2, hr2⟩ := V.slAt_at T2.1 (by simp) (k := k) hk8
    obtain ⟨⟨as2, x2⟩, hl2⟩ := map_atF hx2
    have hxx : x = x2 := same_at h hl1 hl2
    subst hxx
    have ht1 := T1.2 _ (List.mem_of_getElem? hl1)
    have ht2 := T2.2 _ (List.mem_of_getElem? hl2)
    obtain ⟨⟨s1, s2⟩, ⟨s3, s4⟩, s5⟩ := hs _ (List.mem_of_getElem? hl1)
    simp only at s1 s2 s3 s4 s5
    have e1 : rt1.a.n = x.ans.length := ht1.an.trans ht1.al
    have e2 : rt2.a.n = x.ans.length := ht2.an.trans ht2.al
    refine Sk <| Ps <| Sq <| Bk <| Sq <| Sq <| Qt <| Qv Mv <| Qv Mv <| Qv (Val.indexAddrN rfl rfl Tryz.underlying25 Tryz.sizeOf36 hk9) <| Qv (Fa 0 29) <| Qv (Val.loadO rfl Tryz.isAgg29 hb1 (by simp [ids]) (hr1 k _ hx1 0 _ rfl)) <| Qv Mv <| Qv Mv <| Qv (Val.indexAddrN rfl rfl Tryz.underlying25 Tryz.sizeOf36 hk8) <| Qv (Fa 0 29) <| Qv (Val.loadO rfl Tryz.isAgg29 hb2 (by simp [ids]) (hr2 k _ hx2 0 _ rfl)) <| Qc (QV fun w hw => sameInts_c x.row x.row _ _ _ _ _ _ ht1.rn ht2.rn (by omega) w (slAt_hp ht1.rs hw) (slAt_hp ht2.rs hw)) <| Qv Nt <| QW.re 29 (.bool false) rfl (by simp) <| Qv Mv <| Qv Mv <| Qv Mv <| Qv (Val.indexAddrN rfl rfl Tryz.underlying25 Tryz.sizeOf36 hk9) <| Qv (Fa 1 30) <| Qv (Val.loadO rfl Tryz.isAgg30 hb1 (by simp [ids]) (hr1 k _ hx1 1 _ rfl)) <| Qv Ln <| Qv Mv <| Qv Mv <| Qv (Val.indexAddrN rfl rfl Tryz.underlying25 Tryz.sizeOf36 hk8) <| Qv (Fa 1 30) <| Qv (Val.loadO rfl Tryz.isAgg30 hb2 (by simp [ids]) (hr2 k _ hx2 1 _ rfl)) <| Qv Ln <| Qv Cm <| QW.re 43 (.bool false) rfl (by rw [e1, e2]; simp) <| Qv Pf <| Qv Mv <| Qv Mv <| Qv Mv <| Qv (Val.indexAddrN rfl rfl Tryz.underlying25 Tryz.sizeOf36 hk9) <| Qv (Fa 2 34) <| Qv (Val.loadOA (cs := rt1.s.cells) rfl Tryz.isAgg34 hb1 (by simp [ids]) (fun q v hv => by have h9 := hr1 k rt1 hx1 (2 + q) v (sf_in hv); rwa [← Nat.add_assoc] at h9) Tryz.sizeOf34) <| Qv Mv <| Qv Mv <| Qv (Val.indexAddrN rfl rfl Tryz.underlying25 Tryz.sizeOf36 hk8) <| Qv (Fa 2 34) <| Qv (Val.loadOA (cs := rt2.s.cells) rfl Tryz.isAgg34 hb2 (by simp [ids]) (fun q v hv => by have h9 := hr2 k rt2 hx2 (2 + q) v (sf_in hv); rwa [← Nat.add_assoc] at h9) Tryz.sizeOf34) <| Qc (QV fun w hw => sameShelf_c rt1.s rt2.s x.sh x.sh w (ht1.sf.hp hw (by simp [ids])) (ht2.sf.hp hw (by simp [ids])) (by omega)) <| Qv Nt <| QW.re 57 (.bool false) rfl (by simp) <| Qv Pf <| Ql <| Ps <| Cf <| Sk <| Ps <| Sq <| Rg <| Lv Av <| Nl <| Ps <| Bk <| loopA (γ := Nat) (fun j => [(0, .slice (some ⟨bb1, o1, none⟩) l1.length c1), (1, .slice (some ⟨bb2, o2, none⟩) l2.length c2), (5, .int .i64 (k : Nat)), (6, .int .i64 (j : Nat))]) (fun _ => []) (fun j => j ≤ rt1.a.n) (fun j => rt1.a.n - j) (0) (Nat.zero_le _) ?_
    intro j
    intro hj1
    refine Sq <| Sq <| Rg <| Lv Mv <| Lv Mv <| Lv Mv <| Lv (Val.indexAddrN rfl rfl Tryz.underlying25 Tryz.sizeOf36 hk9) <| Lv (Fa 1 30) <| Lv (Val.loadO rfl Tryz.isAgg30 hb1 (by simp [ids]) (hr1 k _ hx1 1 _ rfl)) <| Lv Ln <| Lv Cm <| Nl <| Ps ?_
    refine CW.cond rfl (fun h66 => ?_) (fun h66 => ?_)
    · replace h66 := bT h66
      have hj9 : j < rt1.a.n := by omega
      have hj8 : j < rt2.a.n := by omega
      obtain ⟨y, hy⟩ : ∃ y, x.ans[j]? = some y := ⟨x.ans[j]'(by omega), by simp⟩
      obtain ⟨ba, oa, ax, hpa, hba, hxa, hra⟩ := V.slAt_at ht1.asl ht1.an.symm (k := j) hj9
      obtain ⟨bc, oc, bx, hpb, hbc, hxb, hrb⟩ := V.slAt_at ht2.asl ht2.an.symm (k := j) hj8
      refine Sk <| Ps <| Sq <| Bk <| Sq <| Qt <| Qv Mv <| Qv Mv <| Qv (Val.indexAddrN rfl rfl Tryz.underlying25 Tryz.sizeOf36 hk9) <| Qv (Fa 1 30) <| Qv (Val.loadO rfl Tryz.isAgg30 hb1 (by simp [ids]) (hr1 k _ hx1 1 _ rfl)) <| QW.re 73 (.slice (some ⟨ba, oa, none⟩) rt1.a.n rt1.a.c) rfl (by rw [hpa]) <| Qv Mv <| Qv (Val.indexAddrN rfl rfl Tryz.underlying30 Tryz.sizeOf48 hj9) <| Qv (Val.loadOA rfl Tryz.isAgg48 hba (by simp [ids]) (hra j ax hxa) Tryz.sizeOf48) <| Qv Mv <| Qv Mv <| Qv (Val.indexAddrN rfl rfl Tryz.underlying25 Tryz.sizeOf36 hk8) <| Qv (Fa 1 30) <| Qv (Val.loadO rfl Tryz.isAgg30 hb2 (by simp [ids]) (hr2 k _ hx2 1 _ rfl)) <| QW.re 81 (.slice (some ⟨bc, oc, none⟩) rt2.a.n rt2.a.c) rfl (by rw [hpb]) <| Qv Mv <| Qv (Val.indexAddrN rfl rfl Tryz.underlying30 Tryz.sizeOf48 hj8) <| Qv (Val.loadOA rfl Tryz.isAgg48 hbc (by simp [ids]) (hrb j bx hxb) Tryz.sizeOf48) <| Qc (QV fun w hw => sameAns_c ax bx y y w ((ht1.aa j ax y hxa hy).hp hw) ((ht2.aa j bx y hxb hy).hp hw)) <| Qv Nt <| QW.re 86 (.bool false) rfl (by simp) <| Ql <| Ps <| Cf <| Sk <| Bn <| Ps <| Rg <| Lv Mv <| Lv Ar <| Lv Av <| Nl ?_
      exact roundA (j + 1) (by omega) (by omega)
    · replace h66 := bF h66
      refine Xt <| Te <| Te <| Bh <| Bn <| Ps <| Rg <| Lv Mv <| Lv Ar <| Lv Av <| Nl ?_
      exact roundA (k + 1) (by omega) (by omega)
  · replace h15 := bF h15
    refine Xt <| Te <| Te <| Bh <| Ps <| Sq <| Rg <| Lv Av <| Nl <| Ps <| Rt <| Rt1 ?_
    intro w' hw; exact ⟨rfl, hw.below⟩
theorem overInts_c (y : V.OwnO) (m : Nat) (xs : List Value) (hk : ownOk 1 m xs y) (hl : m ≤ 100000) (w : World) (hs : Sat [ownG 3 xs y] w) : Calls Tryz.prog 12 [ownV m y].toArray w fun e w' => ∃ _u : Unit, True ∧ e = .returned (.tuple #[]) ∧ Hp ⟨w, V.ids [ownG 3 xs y]⟩ [] w' := by
  rcases y with _ | ⟨g, rest, cap⟩
  · obtain ⟨hx, h0⟩ := hk
    simp only at h0
    subst h0
    obtain rfl : xs = [] := List.length_eq_zero_iff.1 (by omega)
    refine V.calls [[]] Tryz.func12 rfl Tryz.ntmps12 (Nat.le_of_ble_eq_true rfl) hs <| Sq <| Sq <| Rg <| Lv Av <| Nl <| Ps <| Bk <| loopA (γ := Nat) (fun k => [(0, .slice none 0 0), (2, .int .i64 (k : Nat))]) (fun _ => []) (fun k => k = 0) (fun k => 0) (0) rfl fun k hJ => Sq <| Sq <| Rg <| Lv Mv <| Lv Mv <| Lv Ln <| Lv Cm <| Nl <| Ps ?_
    refine CW.cond rfl (fun h6 => ?_) (fun h6 => ?_)
    · exact absurd (bT h6) (by omega)
    · replace h6 := bF h6
      refine Xt <| Te <| Te <| Bh <| Ps <| Rg <| Lv Mv <| Le (Eff.buildSlice (rfl) [_] Tryz.underlying29 Tryz.sizeOf3 (by exact Tryz.zeroValue3) rfl rfl rfl rfl (by rfl)) fun b13 _ => Le (Eff.appendAny ([.int .i64 (-998)]) (sz := 1) (bytes := 8) (z := .int .i64 0) (xs := []) (m0 := 0) (o := none) (m := 1) (pk := []) rfl rfl Tryz.underlying29 (by kernel_rfl) rfl (by omega) .nil rfl ⟨rfl, rfl⟩ rfl (fun hm0 => ⟨b13, 0, rfl, fun w hw => V.range_of_block (o := 0) (cs := [.int .i64 (-998)]) (r := []) (hw.own _ (show InS (b13, .cells ([.int .i64 (-998)]).toArray 3 (0, 0)) _ from (by repeat (first | exact .here | exact .inner .here | exact .inner (.inner .here) | refine .there ?_))).mem) rfl⟩) rfl (by omega) (by omega)) fun _ _ => Nl <| PQ.end0 rfl ?_
      intro w' hw; exact ⟨(), trivial, rfl, hw.pick (ss := []) .nil⟩
  · obtain ⟨hx, hcap⟩ := hk
    simp only at hcap
    obtain ⟨cs, hcs⟩ : ∃ cs, cs = xs ++ rest := ⟨_, rfl⟩
    have hlen : cs.length = cap := by rw [hcs, List.length_append]; omega
    have hmc : m ≤ cap := by omega
    refine V.calls [[(g, .cells cs.toArray 3 (0, 0))]] Tryz.func12 rfl Tryz.ntmps12 (Nat.le_of_ble_eq_true rfl) (by rw [hcs]; exact hs) <| Sq <| Sq <| Rg <| Lv Av <| Nl <| Ps <| Bk <| loopA (γ := Nat × List Value) (fun k => [(0, .slice (some ⟨g, 0, none⟩) m cap), (2, .int .i64 (k.1 : Nat))]) (fun k => [[(g, .cells k.2.toArray 3 (0, 0))]]) (fun k => k.1 ≤ m ∧ k.2.length = cap) (fun k => m - k.1) ((0, cs)) ⟨Nat.zero_le _, hlen⟩ fun k => ?_
    rintro ⟨hj1, hj2⟩
    refine Sq <| Sq <| Rg <| Lv Mv <| Lv Mv <| Lv Ln <| Lv Cm <| Nl <| Ps ?_
    refine CW.cond rfl (fun h6 => ?_) (fun h6 => ?_)
    · replace h6 := bT h6
      refine Sk <| Ps <| Sq <| Bk <| Rg <| Lv Mv <| Lv Mv <| Lv Ix <| LeN (Eff.storeX (l' := k.2.set (0 + k.1 * 1) (.int .i64 (-999))) rfl rfl rfl (by repeat (first | exact .here | exact .inner .here | exact .inner (.inner .here) | apply Upd.there)) rfl (by omega) Tryz.sizeOf3) fun _ _ => Nl <| Bn <| Ps <| Rg <| Lv Mv <| Lv Ar <| Lv Av <| Nl ?_
      exact roundA ((k.1 + 1, k.2.set (0 + k.1 * 1) (.int .i64 (-999)))) ⟨by simp only; omega, by rw [List.length_set]; exact hj2⟩ (by simp only; omega)
    · replace h6 := bF h6
      refine Xt <| Te <| Te <| Bh <| Ps <| Rg <| Lv Mv <| Le (Eff.buildSlice (rfl) [_] Tryz.underlying29 Tryz.sizeOf3 (by exact Tryz.zeroValue3) rfl rfl rfl rfl (by rfl)) fun b13 _ => Le (Eff.appendAny ([.int .i64 (-998)]) (sz := 1) (bytes := 8) (z := .int .i64 0) (xs := k.2.take m) (m0 := m) (o := (some (g, k.2.drop m, cap))) (m := 1) (pk := [[(g, .cells k.2.toArray 3 (0, 0))]]) rfl rfl Tryz.underlying29 (by kernel_rfl) rfl (by omega) (by repeat (first | exact .nil | apply Pick.cons | exact .here | apply Ext.there)) (by simp [V.ownG_some, List.take_append_drop]) ⟨by rw [List.length_take]; omega, by show (k.2.take m).length + (k.2.drop m).length = cap * 1; rw [← List.length_append, List.take_append_drop]; omega⟩ rfl (fun hm0 => ⟨b13, 0, rfl, fun w hw => V.range_of_block (o := 0) (cs := [.int .i64 (-998)]) (r := []) (hw.own _ (show InS (b13, .cells ([.int .i64 (-998)]).toArray 3 (0, 0)) _ from (by repeat (first | exact .here | exact .inner .here | exact .inner (.inner .here) | refine .there ?_))).mem) rfl⟩) rfl (by omega) (by omega)) fun _ _ => Nl <| PQ.end0 rfl ?_
      intro w' hw; refine ⟨(), trivial, rfl, ?_⟩
      have h6 := hw.pick (ss := []) .nil
      rw [hcs] at h6
      exact h6
theorem over_c (l : List Pr) (y : V.OwnO) (q : List (List UInt8)) (z : OffO) (w : World) (hy : ownOk 2 l.length (l.flatMap prC) y) (hz : offOk q.length z) (hl : l.length ≤ 1000 ∧ q.length ≤ 1000) (hs : Sat [ownG 69 (l.flatMap prC) y, offG 9 (q.flatMap stE) z] w) : Calls Tryz.prog 13 [.agg [ownV l.length y, offV q.length z].toArray].toArray w fun e w' => ∃ _x : Unit, True ∧ e = .returned (.tuple #[]) ∧ Hp ⟨w, V.ids [ownG 69 (l.flatMap prC) y, offG 9 (q.flatMap stE) z]⟩ [] w' := by
  rcases y with _ | ⟨gb, rest, cap⟩
  · have hl0 : l.length = 0 := hy.2
    rcases z with _ | ⟨gq, pre, rest2, cap2⟩
    · have hq0 : q.length = 0 := hz
      refine V.calls [] Tryz.func13 rfl Tryz.ntmps13 (Nat.le_of_ble_eq_true rfl) (by simpa [ownG, ownS, offG] using (hs.pick (ss := []) (by repeat (first | exact .nil | apply Pick.cons | exact .here | apply Ext.there)))) <| CW.re 0 (.agg [.slice none 0 0, .slice none 0 0].toArray) rfl (by rfl) <| Sq <| Rg <| Le XA fun b1 _ => Nl <| Ps <| Sq <| Sq <| Rg <| Lv Av <| Nl <| Ps <| Bk <| loopA (γ := Nat × List Value) (fun k => [(1, .pointer (some ⟨b1, 0, none⟩)), (2, .int .i64 (k.1 : Nat))]) (fun k => [[(b1, .cells [.slice none 0 0, .slice none 0 0].toArray 34 (0, 0))]]) (fun k => k.1 ≤ l.length) (fun k => l.length - k.1) ((0, [])) (Nat.zero_le _) fun k hk1 => Sq <| Sq <| Rg <| Lv Mv <| Lv (Fa 0 31) <| Lv (Ld (v := .slice none 0 0)) <| Lv Ln <| Lv Cm <| Nl <| Ps ?_
      refine CW.cond rfl (fun h8 => ?_) (fun h8 => ?_)
      · exact absurd (bT h8) (by first | (simp; done) | omega)
      · replace h8 := bF h8
        refine Xt <| Te <| Te <| Bh <| Ps <| Sq <| Rg <| Lv Av <| Nl <| Ps <| Bk <| loopA (γ := Nat × List Value) (fun k => [(1, .pointer (some ⟨b1, 0, none⟩)), (3, .int .i64 (k.1 : Nat))]) (fun k => [[(b1, .cells [.slice none 0 0, .slice none 0 0].toArray 34 (0, 0))]]) (fun k => k.1 ≤ q.length) (fun k => q.length - k.1) ((0, [])) (Nat.zero_le _) fun k hk1 => Sq <| Sq <| Rg <| Lv Mv <| Lv (Fa 1 32) <| Lv (Ld (v := .slice none 0 0)) <| Lv Ln <| Lv Cm <| Nl <| Ps ?_
        refine CW.cond rfl (fun h20 => ?_) (fun h20 => ?_)
        · exact absurd (bT h20) (by first | (simp; done) | omega)
        · replace h20 := bF h20
          refine Xt <| Te <| Te <| Bh <| PQ.end0 rfl fun w' hw => ?_
          exact ⟨(), trivial, rfl, hw.pick .nil⟩
    · have hlq : pre.length + q.length ≤ (pre ++ q.flatMap stE ++ rest2).length := by simp only [List.length_append, V.flatMap_len stE_len]; omega
      refine V.calls [[(gq, .cells (pre ++ q.flatMap stE ++ rest2).toArray 9 (0, 0))]] Tryz.func13 rfl Tryz.ntmps13 (Nat.le_of_ble_eq_true rfl) (by simpa [ownG, ownS, offG] using (hs.pick (ss := [offG 9 (q.flatMap stE) (some (gq, pre, rest2, cap2))]) (by repeat (first | exact .nil | apply Pick.cons | exact .here | apply Ext.there)))) <| CW.re 0 (.agg [.slice none 0 0, .slice (some ⟨gq, pre.length, none⟩) q.length cap2].toArray) rfl (by rfl) <| Sq <| Rg <| Le XA fun b1 _ => Nl <| Ps <| Sq <| Sq <| Rg <| Lv Av <| Nl <| Ps <| Bk <| loopA (γ := Nat × List Value) (fun k => [(1, .pointer (some ⟨b1, 0, none⟩)), (2, .int .i64 (k.1 : Nat))]) (fun k => [[(b1, .cells [.slice none 0 0, .slice (some ⟨gq, pre.length, none⟩) q.length cap2].toArray 34 (0, 0))], [(gq, .cells (pre ++ q.flatMap stE ++ rest2).toArray 9 (0, 0))]]) (fun k => k.1 ≤ l.length) (fun k => l.length - k.1) ((0, [])) (Nat.zero_le _) fun k hk1 => Sq <| Sq <| Rg <| Lv Mv <| Lv (Fa 0 31) <| Lv (Ld (v := .slice none 0 0)) <| Lv Ln <| Lv Cm <| Nl <| Ps ?_
      refine CW.cond rfl (fun h8 => ?_) (fun h8 => ?_)
      · exact absurd (bT h8) (by first | (simp; done) | omega)
      · replace h8 := bF h8
        refine Xt <| Te <| Te <| Bh <| Ps <| Sq <| Rg <| Lv Av <| Nl <| Ps <| Bk <| loopA (γ := Nat × List Value) (fun k => [(1, .pointer (some ⟨b1, 0, none⟩)), (3, .int .i64 (k.1 : Nat))]) (fun k => [[(b1, .cells [.slice none 0 0, .slice (some ⟨gq, pre.length, none⟩) q.length cap2].toArray 34 (0, 0))], [(gq, .cells k.2.toArray 9 (0, 0))]]) (fun k => k.1 ≤ q.length ∧ k.2.length = (pre ++ q.flatMap stE ++ rest2).length) (fun k => q.length - k.1) ((0, (pre ++ q.flatMap stE ++ rest2))) ⟨Nat.zero_le _, rfl⟩ fun k => ?_
        rintro ⟨hk1, hk2⟩
        refine Sq <| Sq <| Rg <| Lv Mv <| Lv (Fa 1 32) <| Lv (Ld (v := .slice (some ⟨gq, pre.length, none⟩) q.length cap2)) <| Lv Ln <| Lv Cm <| Nl <| Ps ?_
        refine CW.cond rfl (fun h20 => ?_) (fun h20 => ?_)
        · replace h20 := bT h20
          have h20 : (k.1 : Int) < (q.length : Int) := h20
          refine Sk <| Ps <| Sq <| Bk <| Rg <| Lv (Fa 1 32) <| Lv (Ld (v := .slice (some ⟨gq, pre.length, none⟩) q.length cap2)) <| Lv Mv <| Lv Ix <| LeN (Eff.storeX (l := k.2) (l' := k.2.set (pre.length + k.1 * 1) (str [111, 118, 101, 114])) rfl rfl rfl (by repeat (first | exact .here | exact .inner .here | exact .inner (.inner .here) | apply Upd.there)) rfl (by omega) Tryz.sizeOf9) fun _ _ => Nl <| Bn <| Ps <| Rg <| Lv Mv <| Lv Ar <| Lv Av <| Nl ?_
          exact roundA ((k.1 + 1, k.2.set (pre.length + k.1 * 1) (str [111, 118, 101, 114]))) ⟨by simp only; omega, by simp only; rw [List.length_set]; exact hk2⟩ (by simp only; omega)
        · replace h20 := bF h20
          refine Xt <| Te <| Te <| Bh <| PQ.end0 rfl fun w' hw => ?_
          exact ⟨(), trivial, rfl, hw.pick .nil⟩
  · have hlen : l.length * 2 ≤ (l.flatMap prC ++ rest).length := by rw [List.length_append, prCs_len]; omega
    rcases z with _ | ⟨gq, pre, rest2, cap2⟩
    · have hq0 : q.length = 0 := hz
      refine V.calls [[(gb, .cells (l.flatMap prC ++ rest).toArray 69 (0, 0))]] Tryz.func13 rfl Tryz.ntmps13 (Nat.le_of_ble_eq_true rfl) (by simpa [ownG, ownS, offG] using (hs.pick (ss := [ownG 69 (l.flatMap prC) (some (gb, rest, cap))]) (by repeat (first | exact .nil | apply Pick.cons | exact .here | apply Ext.there)))) <| CW.re 0 (.agg [.slice (some ⟨gb, 0, none⟩) l.length cap, .slice none 0 0].toArray) rfl (by rfl) <| Sq <| Rg <| Le XA fun b1 _ => Nl <| Ps <| Sq <| Sq <| Rg <| Lv Av <| Nl <| Ps <| Bk <| loopA (γ := Nat × List Value) (fun k => [(1, .pointer (some ⟨b1, 0, none⟩)), (2, .int .i64 (k.1 : Nat))]) (fun k => [[(b1, .cells [.slice (some ⟨gb, 0, none⟩) l.length cap, .slice none 0 0].toArray 34 (0, 0))], [(gb, .cells k.2.toArray 69 (0, 0))]]) (fun k => k.1 ≤ l.length ∧ k.2.length = (l.flatMap prC ++ rest).length) (fun k => l.length - k.1) ((0, (l.flatMap prC ++ rest))) ⟨Nat.zero_le _, rfl⟩ fun k => ?_
      rintro ⟨hk1, hk2⟩
      refine Sq <| Sq <| Rg <| Lv Mv <| Lv (Fa 0 31) <| Lv (Ld (v := .slice (some ⟨gb, 0, none⟩) l.length cap)) <| Lv Ln <| Lv Cm <| Nl <| Ps ?_
      refine CW.cond rfl (fun h8 => ?_) (fun h8 => ?_)
      · replace h8 := bT h8
        have h8 : (k.1 : Int) < (l.length : Int) := h8
        refine Sk <| Ps <| Sq <| Bk <| Rg <| Lv (Fa 0 31) <| Lv (Ld (v := .slice (some ⟨gb, 0, none⟩) l.length cap)) <| Lv Mv <| Lv (Bd [_, _]) <| Lv Ix <| LeN (Eff.storeA (cs := [str [111, 118, 101, 114], str []]) (l := k.2) (l' := V.splice k.2 (0 + k.1 * 2) [str [111, 118, 101, 114], str []]) rfl rfl (by repeat (first | exact .here | exact .inner .here | exact .inner (.inner .here) | apply Upd.there)) rfl (by simp only [List.length_cons, List.length_nil]; omega) Tryz.sizeOf69 (by rfl)) fun _ _ => Nl <| Bn <| Ps <| Rg <| Lv Mv <| Lv Ar <| Lv Av <| Nl ?_
        exact roundA ((k.1 + 1, V.splice k.2 (0 + k.1 * 2) [str [111, 118, 101, 114], str []])) ⟨by simp only; omega, by simp only; rw [V.length_splice]; exact hk2⟩ (by simp only; omega)
      · replace h8 := bF h8
        refine Xt <| Te <| Te <| Bh <| Ps <| Sq <| Rg <| Lv Av <| Nl <| Ps <| Bk <| loopA (γ := Nat × List Value) (fun k => [(1, .pointer (some ⟨b1, 0, none⟩)), (3, .int .i64 (k.1 : Nat))]) (fun k => [[(b1, .cells [.slice (some ⟨gb, 0, none⟩) l.length cap, .slice none 0 0].toArray 34 (0, 0))]]) (fun k => k.1 ≤ q.length) (fun k => q.length - k.1) ((0, [])) (Nat.zero_le _) fun k hk1 => Sq <| Sq <| Rg <| Lv Mv <| Lv (Fa 1 32) <| Lv (Ld (v := .slice none 0 0)) <| Lv Ln <| Lv Cm <| Nl <| Ps ?_
        refine CW.cond rfl (fun h20 => ?_) (fun h20 => ?_)
        · exact absurd (bT h20) (by first | (simp; done) | omega)
        · replace h20 := bF h20
          refine Xt <| Te <| Te <| Bh <| PQ.end0 rfl fun w' hw => ?_
          exact ⟨(), trivial, rfl, hw.pick .nil⟩
    · have hlq : pre.length + q.length ≤ (pre ++ q.flatMap stE ++ rest2).length := by simp only [List.length_append, V.flatMap_len stE_len]; omega
      refine V.calls [[(gb, .cells (l.flatMap prC ++ rest).toArray 69 (0, 0))], [(gq, .cells (pre ++ q.flatMap stE ++ rest2).toArray 9 (0, 0))]] Tryz.func13 rfl Tryz.ntmps13 (Nat.le_of_ble_eq_true rfl) (by simpa [ownG, ownS, offG] using (hs.pick (ss := [ownG 69 (l.flatMap prC) (some (gb, rest, cap)), offG 9 (q.flatMap stE) (some (gq, pre, rest2, cap2))]) (by repeat (first | exact .nil | apply Pick.cons | exact .here | apply Ext.there)))) <| CW.re 0 (.agg [.slice (some ⟨gb, 0, none⟩) l.length cap, .slice (some ⟨gq, pre.length, none⟩) q.length cap2].toArray) rfl (by rfl) <| Sq <| Rg <| Le XA fun b1 _ => Nl <| Ps <| Sq <| Sq <| Rg <| Lv Av <| Nl <| Ps <| Bk <| loopA (γ := Nat × List Value) (fun k => [(1, .pointer (some ⟨b1, 0, none⟩)), (2, .int .i64 (k.1 : Nat))]) (fun k => [[(b1, .cells [.slice (some ⟨gb, 0, none⟩) l.length cap, .slice (some ⟨gq, pre.length, none⟩) q.length cap2].toArray 34 (0, 0))], [(gb, .cells k.2.toArray 69 (0, 0))], [(gq, .cells (pre ++ q.flatMap stE ++ rest2).toArray 9 (0, 0))]]) (fun k => k.1 ≤ l.length ∧ k.2.length = (l.flatMap prC ++ rest).length) (fun k => l.length - k.1) ((0, (l.flatMap prC ++ rest))) ⟨Nat.zero_le _, rfl⟩ fun k => ?_
      rintro ⟨hk1, hk2⟩
      refine Sq <| Sq <| Rg <| Lv Mv <| Lv (Fa 0 31) <| Lv (Ld (v := .slice (some ⟨gb, 0, none⟩) l.length cap)) <| Lv Ln <| Lv Cm <| Nl <| Ps ?_
      refine CW.cond rfl (fun h8 => ?_) (fun h8 => ?_)
      · replace h8 := bT h8
        have h8 : (k.1 : Int) < (l.length : Int) := h8
        refine Sk <| Ps <| Sq <| Bk <| Rg <| Lv (Fa 0 31) <| Lv (Ld (v := .slice (some ⟨gb, 0, none⟩) l.length cap)) <| Lv Mv <| Lv (Bd [_, _]) <| Lv Ix <| LeN (Eff.storeA (cs := [str [111, 118, 101, 114], str []]) (l := k.2) (l' := V.splice k.2 (0 + k.1 * 2) [str [111, 118, 101, 114], str []]) rfl rfl (by repeat (first | exact .here | exact .inner .here | exact .inner (.inner .here) | apply Upd.there)) rfl (by simp only [List.length_cons, List.length_nil]; omega) Tryz.sizeOf69 (by rfl)) fun _ _ => Nl <| Bn <| Ps <| Rg <| Lv Mv <| Lv Ar <| Lv Av <| Nl ?_
        exact roundA ((k.1 + 1, V.splice k.2 (0 + k.1 * 2) [str [111, 118, 101, 114], str []])) ⟨by simp only; omega, by simp only; rw [V.length_splice]; exact hk2⟩ (by simp only; omega)
      · replace h8 := bF h8
        refine Xt <| Te <| Te <| Bh <| Ps <| Sq <| Rg <| Lv Av <| Nl <| Ps <| Bk <| loopA (γ := Nat × List Value) (fun k => [(1, .pointer (some ⟨b1, 0, none⟩)), (3, .int .i64 (k.1 : Nat))]) (fun k => [[(b1, .cells [.slice (some ⟨gb, 0, none⟩) l.length cap, .slice (some ⟨gq, pre.length, none⟩) q.length cap2].toArray 34 (0, 0))], [(gq, .cells k.2.toArray 9 (0, 0))]]) (fun k => k.1 ≤ q.length ∧ k.2.length = (pre ++ q.flatMap stE ++ rest2).length) (fun k => q.length - k.1) ((0, (pre ++ q.flatMap stE ++ rest2))) ⟨Nat.zero_le _, rfl⟩ fun k => ?_
        rintro ⟨hk1, hk2⟩
        refine Sq <| Sq <| Rg <| Lv Mv <| Lv (Fa 1 32) <| Lv (Ld (v := .slice (some ⟨gq, pre.length, none⟩) q.length cap2)) <| Lv Ln <| Lv Cm <| Nl <| Ps ?_
        refine CW.cond rfl (fun h20 => ?_) (fun h20 => ?_)
        · replace h20 := bT h20
          have h20 : (k.1 : Int) < (q.length : Int) := h20
          refine Sk <| Ps <| Sq <| Bk <| Rg <| Lv (Fa 1 32) <| Lv (Ld (v := .slice (some ⟨gq, pre.length, none⟩) q.length cap2)) <| Lv Mv <| Lv Ix <| LeN (Eff.storeX (l := k.2) (l' := k.2.set (pre.length + k.1 * 1) (str [111, 118, 101, 114])) rfl rfl rfl (by repeat (first | exact .here | exact .inner .here | exact .inner (.inner .here) | apply Upd.there)) rfl (by omega) Tryz.sizeOf9) fun _ _ => Nl <| Bn <| Ps <| Rg <| Lv Mv <| Lv Ar <| Lv Av <| Nl ?_
          exact roundA ((k.1 + 1, k.2.set (pre.length + k.1 * 1) (str [111, 118, 101, 114]))) ⟨by simp only; omega, by simp only; rw [List.length_set]; exact hk2⟩ (by simp only; omega)
        · replace h20 := bF h20
          refine Xt <| Te <| Te <| Bh <| PQ.end0 rfl fun w' hw => ?_
          exact ⟨(), trivial, rfl, hw.pick .nil⟩
theorem tfs_w {C : Crs} {g : List TO × V.OwnO} {w1 : World} (h1 : g.1.map toA = rowsF C) (h2 : ∀ t ∈ g.1, toOk t) (h3 : ownOk 4 g.1.length (g.1.flatMap toC) g.2) {B : V.Base} {sg r : V.Sg} (hw : Hp B sg w1) (hp : Pick [ownG 36 (g.1.flatMap toC) g.2, g.1.flatMap toM] sg r) : (slO g.1.length g.2).n = (g.1.map tfOf).length ∧ TfsR w1 (slO g.1.length g.2).a (g.1.map tfOf) := by
  have h4 := hw.pick hp
  have m1 : Mem (ownG 36 (g.1.flatMap toC) g.2) w1 := fun q hq => h4.own q (by simp only [List.flatten_cons, List.flatten_nil, List.append_nil, List.mem_append]; exact .inl hq)
  have m2 : Mem (g.1.flatMap toM) w1 := fun q hq => h4.own q (by simp only [List.flatten_cons, List.flatten_nil, List.append_nil, List.mem_append]; exact .inr hq)
  have hl9 : (g.1.map tfOf).map (fun t => t.2.2) = rowsF C := by rw [List.map_map]; exact h1
  have hsm := smT_of hl9
  obtain ⟨h5, h6⟩ := tfs_of h2 h3 (fun t ht p hp => (hsm _ (List.mem_map.2 ⟨t, ht, rfl⟩)).2.2 _ (List.mem_map.2 ⟨p, hp, rfl⟩)) m1 m2
  exact ⟨by rw [h5, List.length_map], h6⟩
theorem rows_le {C : Crs} {g : List TO} (h : g.map toA = rowsF C) : g.length ≤ 6 := by
  have h8 := congrArg List.length h
  rw [List.length_map] at h8
  rw [h8]
  unfold rowsF
  split
  · exact Nat.zero_le _
  · rw [List.length_map]; exact perm_len (by omega)
theorem sameRows_c {C : Crs} (g f : List TO × V.OwnO) (h1 : g.1.map toA = rowsF C) (h2 : ∀ t ∈ g.1, toOk t) (h3 : ownOk 4 g.1.length (g.1.flatMap toC) g.2) (k1 : f.1.map toA = rowsF C) (k2 : ∀ t ∈ f.1, toOk t) (k3 : ownOk 4 f.1.length (f.1.flatMap toC) f.2) (w : World) {B : V.Base} {sg r q : V.Sg} (hw : Hp B sg w) (hp : Pick [ownG 36 (g.1.flatMap toC) g.2, g.1.flatMap toM] sg r) (hq : Pick [ownG 36 (f.1.flatMap toC) f.2, f.1.flatMap toM] sg q) : Calls Tryz.prog 11 [ownV g.1.length g.2, ownV f.1.length f.2].toArray w fun e w' => e = .returned (.bool true) ∧ Below w.heap.size w w' := by
  obtain ⟨e1, t1⟩ := tfs_w h1 h2 h3 hw hp
  obtain ⟨e2, t2⟩ := tfs_w k1 k2 k3 hw hq
  have hl1 : (g.1.map tfOf).map (fun t => t.2.2) = rowsF C := by rw [List.map_map]; exact h1
  have hl2 : (f.1.map tfOf).map (fun t => t.2.2) = rowsF C := by rw [List.map_map]; exact k1
  rw [slO_v, slO_v]
  exact sameTurns_c _ _ _ _ _ _ _ _ e1 e2 (hl1.trans hl2.symm) (smT_of hl1) (by rw [List.length_map]; have h9 := rows_le h1; omega) w t1 t2
end I
end Go.Proofs.YtlpbjmbgopfkhaaGreat

/- Calls that came in: their cells. -/
namespace Go.Proofs.YtlpbjmbgopfkhaaGreat
open Go Go.RowKit V
set_option linter.unusedVariables false
set_option maxRecDepth 100000
namespace I
open V (str byC ownV ownG ownS ownOk)
section
variable {H : Type} {enc : TypeId × Value → H} {P : Program} {w : World} {base : Nat} {spare : Nat → Bool} {held : Bool} {fuel : Nat} {x : DataW H × List MemPlace}
theorem sl_cap {t e : TypeId} {p : Option Addr} {n c : Nat} (ht : P.underlying t = some (.slice e)) (h : DataW.trod enc P w base spare held fuel t [.slice p n c] = some x) : n ≤ c := by
  rcases Deep.open_slice ht h with ⟨hcs, _⟩ | ⟨a, len, cap, m, n2, D, Pl, hcs, _, hl, _⟩
  · simp only [List.cons.injEq, Value.slice.injEq, and_true] at hcs
    omega
  · simp only [List.cons.injEq, Value.slice.injEq, and_true] at hcs
    obtain ⟨_, rfl, rfl⟩ := hcs
    exact hl
end
theorem cellsOf3 : Tryz.prog.cellsOf 3 = 1 := by kernel_rfl
theorem cellsOf9 : Tryz.prog.cellsOf 9 = 1 := by kernel_rfl
theorem cellsOf22 : Tryz.prog.cellsOf 22 = 1 := by kernel_rfl
theorem cellsOf52 : Tryz.prog.cellsOf 52 = 5 := by kernel_rfl
theorem open52 {H : Type} {enc : TypeId × Value → H} {w : World} {base : Nat} {spare : Nat → Bool} {held : Bool} {fuel : Nat} {cs : List Value} {x : DataW H × List MemPlace} (h : DataW.trod enc Tryz.prog w base spare held fuel 52 cs = some x) :
    ∃ (v0 : Int) (v1 : ByteArray) (v2 : ByteArray) (v3 : ByteArray) (p4 : Option Addr) (n4 : Nat) (q4 : Nat) (l4 : List (List Value)), cs = [.int .i64 v0, .string v1, .string v2, .string v3, .slice p4 n4 q4] ∧ (Lit.int .i64 v0).wf = true ∧ v1.size ≤ maxLen ∧ v2.size ≤ maxLen ∧ v3.size ≤ maxLen ∧ n4 = l4.length ∧ n4 ≤ maxLen ∧ V.slAt w p4 5 id l4 ∧ (∀ c ∈ l4, ∃ m y, DataW.trod enc Tryz.prog w base spare held m 52 c = some y) ∧ n4 ≤ q4 := by
  have hlen := (V.trod_fields Tryz.underlying52 h).1
  rw [cellsOf52] at hlen
  match cs, hlen with
  | [c0, c1, c2, c3, c4], _ =>
    obtain ⟨_, m0, g0⟩ := V.trod_fields Tryz.underlying52 h
    obtain ⟨y0_0, f0_0⟩ := g0 0 _ rfl 3 0 1 rfl rfl cellsOf3
    simp only [List.drop, List.take] at f0_0
    obtain ⟨v0, e0, _, w0⟩ := DataW.trod_int Tryz.underlying3 f0_0
    simp only [List.cons.injEq, and_true] at e0; subst e0
    obtain ⟨y0_1, f0_1⟩ := g0 1 _ rfl 9 1 1 rfl rfl cellsOf9
    simp only [List.drop, List.take] at f0_1
    obtain ⟨v1, e1, _, w1⟩ := DataW.trod_string Tryz.underlying9 f0_1
    simp only [List.cons.injEq, and_true] at e1; subst e1
    obtain ⟨y0_2, f0_2⟩ := g0 2 _ rfl 9 2 1 rfl rfl cellsOf9
    simp only [List.drop, List.take] at f0_2
    obtain ⟨v2, e2, _, w2⟩ := DataW.trod_string Tryz.underlying9 f0_2
    simp only [List.cons.injEq, and_true] at e2; subst e2
    obtain ⟨y0_3, f0_3⟩ := g0 3 _ rfl 9 3 1 rfl rfl cellsOf9
    simp only [List.drop, List.take] at f0_3
    obtain ⟨v3, e3, _, w3⟩ := DataW.trod_string Tryz.underlying9 f0_3
    simp only [List.cons.injEq, and_true] at e3; subst e3
    obtain ⟨y0_4, f0_4⟩ := g0 4 _ rfl 22 4 1 rfl rfl cellsOf22
    simp only [List.drop, List.take] at f0_4
    obtain ⟨p4, n4, q4, l4, e4, z4, x4, s4, t4⟩ := V.open_sl (sz := 5) Tryz.underlying22 cellsOf52 (by decide) f0_4
    simp only [List.cons.injEq, and_true] at e4; subst e4
    have u4 := sl_cap Tryz.underlying22 f0_4
    exact ⟨v0, v1, v2, v3, p4, n4, q4, l4, rfl, w0, w1, w2, w3, z4, x4, s4, t4, u4⟩
section
variable {H : Type} {enc : TypeId × Value → H} {w : World} {base : Nat} {spare : Nat → Bool} {held : Bool} {fuel : Nat} {cs : List Value} {x : DataW H × List MemPlace}
theorem open_call1 (h : DataW.trod enc Tryz.prog w base spare held fuel 52 cs = some x) : ∃ c : Cal, cs = calC c ∧ True := by
  obtain ⟨v0, v1, v2, v3, p4, n4, q4, l4, rfl, _⟩ := open52 h
  exact ⟨⟨v0, v1.data.toList, v2.data.toList, v3.data.toList, p4, n4, q4⟩, rfl, trivial⟩
theorem open_call (h : DataW.trod enc Tryz.prog w base spare held fuel 52 cs = some x) : ∃ c : Cal × List Cal, cs = calC c.1 ∧ CalR w c.1 c.2 := by
  obtain ⟨v0, v1, v2, v3, p4, n4, q4, l4, rfl, _, _, _, _, f1, f2, f3, f4, f5⟩ := open52 h
  obtain ⟨L, hL, _⟩ := V.list_choice (enc' := calC) (p := fun _ => True) (l := l4) (fun c hc => by
    obtain ⟨m, y, hy⟩ := f4 c hc
    exact open_call1 hy)
  exact ⟨(⟨v0, v1.data.toList, v2.data.toList, v3.data.toList, p4, n4, q4⟩, L), rfl, ⟨by simp [f1, hL], f5⟩, V.slAt_map f3 hL⟩
theorem open_calls {p : Option Addr} {l : List (List Value)} (hs : V.slAt w p 5 id l) (ht : ∀ c ∈ l, ∃ m y, DataW.trod enc Tryz.prog w base spare held m 52 c = some y) : ∃ C : Crs, l.length = C.length ∧ V.slAt w p 5 calC (C.map Prod.fst) ∧ ∀ c ∈ C, CalR w c.1 c.2 := by
  obtain ⟨m, hm, ho⟩ := V.list_choice (enc' := fun c : Cal × List Cal => calC c.1) (p := fun c => CalR w c.1 c.2) (l := l) (fun c hc => by
    obtain ⟨k, y, hy⟩ := ht c hc
    exact open_call hy)
  exact ⟨m, by simp [hm], V.slAt_map hs (by rw [hm]; simp), ho⟩
end
end I
end Go.Proofs.YtlpbjmbgopfkhaaGreat

/- The row EveryRows, walked. -/
namespace Go.Proofs.YtlpbjmbgopfkhaaGreat
open Go Go.RowKit V
set_option linter.unusedVariables false
set_option maxRecDepth 100000
namespace I
open V (str byC ownV ownG ownS ownOk)
theorem row_at {gl : List TO} {k : Nat} {t : TO} {rest : List Value} (h : gl[k]? = some t) : (gl.flatMap toC ++ rest)[0 + k * 4 + 0]? = some (ownV t.row.length t.ro) := by
  obtain ⟨r, hr⟩ := V.drop_flatMap toC_len gl k t h
  have hk : k < gl.length := (List.getElem?_eq_some_iff.1 h).1
  rw [← List.head?_drop, Nat.zero_add, Nat.add_zero, List.drop_append_of_le_length (by rw [V.flatMap_len toC_len]; omega), hr]
  rfl
theorem sh_in {gl : List TO} {k : Nat} {t : TO} {rest : List Value} (h : gl[k]? = some t) : ∃ r, (gl.flatMap toC ++ rest).drop (0 + k * 4 + 2) = [ownV t.sh.1.length t.so.1, offV t.sh.2.length t.so.2] ++ r := by
  obtain ⟨r, hr⟩ := V.drop_flatMap toC_len gl k t h
  have hk : k < gl.length := (List.getElem?_eq_some_iff.1 h).1
  refine ⟨r ++ rest, ?_⟩
  rw [Nat.zero_add, ← List.drop_drop, List.drop_append_of_le_length (by rw [V.flatMap_len toC_len]; omega), hr]
  rfl
set_option maxHeartbeats 1600000 in
theorem everyRows_c (C : Crs) (p : Option Addr) (n cc : Nat) (hn : n = C.length) (w : World) (hcs : V.slAt w p 5 calC (C.map Prod.fst)) (hc : ∀ c ∈ C, CalR w c.1 c.2) : Calls Tryz.prog 3 [.slice p n cc].toArray w fun e w' => e = .returned (.bool true) ∧ Below w.heap.size w w' := by
  subst hn
  refine V.calls [] Tryz.func3 rfl Tryz.ntmps3 (Nat.le_of_ble_eq_true rfl) (V.sat_nil _) <| Sq <| Rg <| Lv Av <| Nl <| Ps <| Sq <| Sq <| Rg <| Lv Mv <| Le (CR fun w hw => heavy_c C p _ cc rfl w (slAt_hp hcs hw) (fun c h => (hc c h).hp hw)) fun z hz => Nl <| Ps ?_
  refine CW.cond rfl (fun h7 => ?_) (fun h7 => ?_)
  · replace h7 := bT h7
    refine Sq <| Rg <| Le (CV fun w hw => awake_c w) fun _ _ => Lv Av <| Nl <| Ps <| Rt <| Tr <| Rt1 ?_
    intro w' hw; exact ⟨rfl, hw.below⟩
  · replace h7 := bF h7
    have hC := hz h7
    refine Sk <| Ps <| Sq <| Rg <| Lv Mv <| Le (CM [] fun w hw hs0 => rows_c C p _ cc rfl w ⟨slAt_hp hcs hw, fun c h => ⟨(hc c h).hp hw, by have h9 := (hC.2 c h).1; omega⟩⟩) ?_
    rintro ⟨gl, go⟩ ⟨hg1, hg2, hg3⟩
    simp only at hg1 hg2 hg3
    refine Lv Mv <| Le (CM [] fun w hw hs0 => rrows_c C p _ cc rfl w ⟨slAt_hp hcs hw, fun c h => ⟨(hc c h).hp hw, by have h9 := (hC.2 c h).1; omega⟩⟩) ?_
    rintro f ⟨hf1, hf2, hf3⟩
    refine Lv Av <| Lv Av <| Nl <| Ps <| Sq <| Sq <| Rg <| Lv Mv <| Lv Mv <| Le (CV fun w hw => sameRows_c (gl, go) f hg1 hg2 hg3 hf1 hf2 hf3 w hw (by repeat (first | exact .nil | apply Pick.cons | exact .here | apply Ext.there)) (by repeat (first | exact .nil | apply Pick.cons | exact .here | apply Ext.there))) fun _ _ => LW.re 15 (.bool true) rfl rfl <| Lv Nt <| LW.re 16 (.bool false) rfl rfl <| Nl <| Ps <| Cf <| Sk <| Ps <| Sq <| Sq <| Rg <| Lv Av <| Nl <| Ps <| Bk ?_
    refine V.CW.perm (sg' := [ownG 36 (f.1.flatMap toC) f.2, (f.1.flatMap toM), ownG 36 (gl.flatMap toC) go, ((gl.drop 0).flatMap toM)]) ?_ (.refl _)
    refine loopA (γ := Nat) (fun k => [(0, .slice p C.length cc), (3, ownV gl.length go), (4, ownV f.1.length f.2), (5, .int .i64 (k : Nat))]) (fun k => [ownG 36 (f.1.flatMap toC) f.2, (f.1.flatMap toM), ownG 36 (gl.flatMap toC) go, ((gl.drop k).flatMap toM)]) (fun k => k ≤ gl.length) (fun k => gl.length - k) (0) (Nat.zero_le _) fun k hk1 => Sq <| Sq <| Rg <| Lv Mv <| Lv Mv <| Lv (Val.lenOwn rfl Tryz.underlying25 hg3) <| Lv Cm <| Nl <| Ps ?_
    refine CW.cond rfl (fun h20 => ?_) (fun h20 => ?_)
    · replace h20 := bT h20
      have hl6 := rows_le hg1
      have hk9 : k < gl.length := by omega
      obtain ⟨t, hgt⟩ : ∃ t, gl[k]? = some t := ⟨gl[k]'hk9, by simp⟩
      have hdk : gl.drop k = t :: gl.drop (k + 1) := by
        have h9 := (List.getElem?_eq_some_iff.1 hgt).2
        rw [List.drop_eq_getElem_cons hk9, h9]
      have htok := hg2 t (List.mem_of_getElem? hgt)
      have hst := smT_of (l := gl.map tfOf) (by rw [List.map_map]; exact hg1) (tfOf t) (List.mem_map.2 ⟨t, List.mem_of_getElem? hgt, rfl⟩)
      have hs1 : t.row.length ≤ 3 := hst.1.1
      have hs2 : t.sh.1.length ≤ 9 ∧ t.sh.2.length ≤ 9 := hst.2.1
      rcases go with _ | ⟨gb, rest, cap⟩
      · have h0 : gl.length = 0 := hg3.2
        omega
      obtain ⟨r2, hr2⟩ := sh_in (rest := rest) hgt
      rw [hdk]
      refine V.CW.perm (sg' := [ownG 36 (f.1.flatMap toC) f.2, (f.1.flatMap toM), [(gb, .cells (gl.flatMap toC ++ rest).toArray 36 (0, 0))], ownG 3 (t.row.flatMap inE) t.ro, [(t.ab, .cells (t.aps.flatMap apC).toArray 48 (0, 0))], t.aps.flatMap apM, ownG 69 (t.sh.1.flatMap prC) t.so.1, offG 9 (t.sh.2.flatMap stE) t.so.2, ((gl.drop (k + 1)).flatMap toM)]) ?_ (by simp only [List.flatMap_cons, toM, List.flatten_cons, List.flatten_nil, List.append_nil, List.append_assoc, V.ownG_some]; exact .refl _)
      refine Sk <| Ps <| Sq <| Bk <| Sq <| Rg <| Lv Mv <| LW.re 23 (.slice (some ⟨gb, 0, none⟩) gl.length cap) rfl rfl <| Lv Mv <| Lv (Val.indexAddrN rfl rfl Tryz.underlying25 Tryz.sizeOf36 hk9) <| Lv (Fa 0 29) <| Lv (Val.load (v := ownV t.row.length t.ro) rfl Tryz.isAgg29 (by repeat (first | exact .here | exact .inner .here | exact .inner (.inner .here) | refine .there ?_)) (row_at hgt)) <| Le (CM ([ownG 3 (t.row.flatMap inE) t.ro]) fun w hw hs0 => overInts_c t.ro t.row.length (t.row.flatMap inE) htok.1 (by omega) w hs0) fun _ _ => Nl <| Ps <| Rg <| Lv Mv <| LW.re 29 (.slice (some ⟨gb, 0, none⟩) gl.length cap) rfl rfl <| Lv Mv <| Lv (Val.indexAddrN rfl rfl Tryz.underlying25 Tryz.sizeOf36 hk9) <| Lv (Fa 2 34) <| Lv (Val.loadA [ownV t.sh.1.length t.so.1, offV t.sh.2.length t.so.2] rfl Tryz.isAgg34 (by repeat (first | exact .here | exact .inner .here | exact .inner (.inner .here) | refine .there ?_)) hr2 Tryz.sizeOf34) <| Le (CM ([ownG 69 (t.sh.1.flatMap prC) t.so.1, offG 9 (t.sh.2.flatMap stE) t.so.2]) fun w hw hs0 => over_c t.sh.1 t.so.1 t.sh.2 t.so.2 w htok.2.2.1 htok.2.2.2 ⟨by omega, by omega⟩ hs0) fun _ _ => Nl <| Bn <| Ps <| Rg <| Lv Mv <| Lv Ar <| Lv Av <| Nl ?_
      exact roundA (k + 1) (by omega) (by omega)
    · replace h20 := bF h20
      refine Xt <| Te <| Te <| Bh <| Ps <| Sq <| Rg <| Lv Mv <| Le (CM [] fun w hw hs0 => rows_c C p _ cc rfl w ⟨slAt_hp hcs hw, fun c h => ⟨(hc c h).hp hw, by have h9 := (hC.2 c h).1; omega⟩⟩) ?_
      rintro g2 ⟨hh1, hh2, hh3⟩
      refine Lv Mv <| Le (CV fun w hw => sameRows_c g2 f hh1 hh2 hh3 hf1 hf2 hf3 w hw (by repeat (first | exact .nil | apply Pick.cons | exact .here | apply Ext.there)) (by repeat (first | exact .nil | apply Pick.cons | exact .here | apply Ext.there))) fun _ _ => Lv Mv <| Le (CV fun w hw => awake_c w) fun _ _ => Lv Pt <| Lv Av <| Nl <| Ps <| Rt <| Rt1 ?_
      intro w' hw; exact ⟨rfl, hw.below⟩
end I
end Go.Proofs.YtlpbjmbgopfkhaaGreat

