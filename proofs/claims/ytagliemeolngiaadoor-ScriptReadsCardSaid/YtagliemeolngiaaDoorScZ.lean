/- The walk of ScriptNumbers. -/
import Derived.Test.YtagliemeolngiaaDoorScW
import Derived.Lib.Hide
namespace Go.Proofs.YtagliemeolngiaaDoor
open Go Go.RowKit V
set_option linter.unusedVariables false
set_option maxRecDepth 100000
open V (str byC ownV ownG ownS ownOk)
theorem u64_nn (n : Int) : 0 ≤ IntKind.u64.wrap n := by
  unfold IntKind.wrap
  simp only [IntKind.signed, IntKind.bits]
  exact Int.emod_nonneg _ (by decide)
theorem low_c (n m : Int) (hm : 0 < m ∧ m ≤ 2000000000) (w : World) : Calls Tryd.prog 27 [.int .i64 n, .int .i64 m].toArray w fun e w' => ∃ z : Int, (0 ≤ z ∧ z < m) ∧ e = .returned (.int .i64 z) ∧ Below w.heap.size w w' := by
  refine V.calls [] Tryd.func27 rfl Tryd.ntmps27 (Nat.le_of_ble_eq_true rfl) (V.sat_nil _) ?_
  refine CW.seq ?_
  refine CW.region ?_
  refine LW.v rfl rfl (Val.assign rfl) ?_
  refine LW.nil ?_
  refine PQ.seq ?_
  refine CW.seq ?_
  refine CW.region ?_
  refine LW.v rfl rfl (Val.move rfl) ?_
  refine LW.v rfl rfl (Val.convI rfl Tryd.underlying3 Tryd.underlying62) ?_
  refine LW.v rfl rfl (Val.move rfl) ?_
  refine LW.v rfl rfl (Val.convI rfl Tryd.underlying3 Tryd.underlying62) ?_
  refine LW.re 8 (.int .u64 m) rfl (by rw [IntWalk.u64_in _ (by omega)]) ?_
  refine LW.v rfl rfl (Val.rem rfl rfl (by omega)) ?_
  have hz0 := u64_nn n
  have hz1 : 0 ≤ (IntKind.u64.wrap n).tmod m := Int.tmod_nonneg _ hz0
  have hz2 : (IntKind.u64.wrap n).tmod m < m := Int.tmod_lt_of_pos _ hm.1
  refine LW.v rfl rfl (Val.convI rfl Tryd.underlying62 Tryd.underlying3) ?_
  refine LW.re 10 (.int .i64 ((IntKind.u64.wrap n).tmod m)) rfl (by rw [IntWalk.i64_in _ (by omega)]) ?_
  refine LW.v rfl rfl (Val.assign rfl) ?_
  refine LW.nil ?_
  refine PQ.seq ?_
  refine CW.ret ?_
  refine PQ.ret1 rfl rfl ?_
  intro w' hw; exact ⟨_, ⟨hz1, hz2⟩, rfl, hw.below⟩
theorem lineP2 (x : Int) : lineP (e0 2 x 0 (c0q 0)) [] [] = some ([115, 116, 101, 112], [x], []) := rfl
theorem lineP4 (x : Int) : lineP (e0 4 0 x (c0q 0)) [] [] = some ([98, 97, 99, 107], [x], []) := rfl
theorem e0_ok (w : World) (k th ln : Int) : EvOk w (e0 k th ln (c0q 0)) [] [] := ⟨rfl, .inl rfl, rfl, .inl rfl, by simp, by simp [e0, nilSl], by unfold e0 Cq.small c0q; simp, by simp⟩
theorem line2 {x : Int} (h : fitsB [x] = true) : lineF (e0 2 x 0 (c0q 0)) [] [] = ([115, 116, 101, 112] ++ 32 :: decN x.toNat, 0) := by
  rw [lineR_ok (lineP2 x) h]
  simp only [numL, List.map_cons, List.map_nil, List.append_nil]
  rw [jn_two, jn_one]
theorem line2_no {x : Int} (h : fitsB [x] = false) : lineF (e0 2 x 0 (c0q 0)) [] [] = ([], 2) := by
  unfold lineF; rw [lineP2]; simp only [lineR]; rw [if_neg (by rw [h]; simp)]
theorem line4_no {x : Int} (h : fitsB [x] = false) : lineF (e0 4 0 x (c0q 0)) [] [] = ([], 2) := by
  unfold lineF; rw [lineP4]; simp only [lineR]; rw [if_neg (by rw [h]; simp)]
theorem lns_one {l : List UInt8} (hne : l ≠ []) (h : ∀ x ∈ l, x ≠ 10) : lns l = [l] := by
  have hc : ∀ l : List UInt8, (∀ x ∈ l, x ≠ 10) → cutF 10 l = (l, [], false) := by
    intro l
    induction l with
    | nil => intro _; rfl
    | cons x r ih =>
      intro h
      have hx := h x (by simp)
      simp only [cutF]
      rw [if_neg hx, ih fun y hy => h y (by simp [hy])]
  rw [lns_cons hne, hc l h]; rfl
theorem parse_step {n : Nat} (h : n ≤ 999999999) : parseF ([115, 116, 101, 112] ++ 32 :: decN n) = ([(e0 2 (n : Int) 0 (c0q 0), [], [])], 0, 0) := by
  have hf : fitsB [(n : Int)] = true := fits_nat h
  have hl := line2 hf
  have hb := (line_back (e := e0 2 (n : Int) 0 (c0q 0)) (gl := []) (kl := []) (by rw [hl])).2
  rw [hl] at hb
  have hlen : (decN n).length ≤ 9 := decN_len 8 n (by omega)
  have hl1 : lns ([115, 116, 101, 112] ++ 32 :: decN n) = [[115, 116, 101, 112] ++ 32 :: decN n] := lns_one (by simp) hb
  have hw : spl 32 ([115, 116, 101, 112] ++ 32 :: decN n) = [[115, 116, 101, 112], decN n] := by
    rw [(spl_gw [115, 116, 101, 112] (by unfold gW; decide)).2, (spl_gw _ (gW_dec n)).1]
  have hp : pLine ([115, 116, 101, 112] ++ 32 :: decN n) = some (e0 2 (n : Int) 0 (c0q 0), [], []) := by
    unfold pLine
    rw [hw, pEv2]
    simp only [pNum]
    rw [numF_decN h]; rfl
  unfold parseF
  rw [if_neg (by simp; omega), hl1]
  simp only [pAll, hp]
theorem decN_48 : ∀ (n : Nat) (r : List UInt8), decN n = 48 :: r → r = [] := by
  intro n
  induction n using Nat.strongRecOn with
  | ind n ih =>
    intro r h
    by_cases hn : n < 10
    · rw [decN_lt hn] at h; simp at h; exact h.2
    · rw [decN_ge hn] at h
      exfalso
      cases hd : decN (n / 10) with
      | nil => exact decN_ne _ hd
      | cons a b =>
        rw [hd] at h
        simp at h
        have h1 := ih (n / 10) (by omega) b (by rw [hd, h.1])
        have h2 : decN (n / 10) = [48] := by rw [hd, h.1, h1]
        by_cases h10 : n / 10 < 10
        · rw [decN_lt h10] at h2
          have : ∀ d : Fin 10, UInt8.ofNat (48 + d.val) = 48 → d.val = 0 := by decide
          have := this ⟨n / 10, h10⟩ (by simpa using h2)
          simp at this
          omega
        · have h3 := decN_lo 1 (n / 10) (by omega)
          rw [h2] at h3; simp at h3
theorem numF_zeros {r : List UInt8} (h : r ≠ []) : numF (48 :: r) = none := by
  cases hn : numF (48 :: r) with
  | none => rfl
  | some n => exact absurd (decN_48 n r (numF_some hn).1.symm) h
theorem parse_zeros {n j : Nat} (h : n ≤ 999999999) (hj : j ≤ 20) : parseF ([115, 116, 101, 112] ++ 32 :: (List.replicate (j + 1) 48 ++ decN n)) = ([], 1, 3) := by
  have hlen : (decN n).length ≤ 9 := decN_len 8 n (by omega)
  have hg : gW (List.replicate (j + 1) 48 ++ decN n) := fun x hx => by
    rcases List.mem_append.1 hx with hx | hx
    · rw [(List.mem_replicate.1 hx).2]; decide
    · exact gW_dec n x hx
  have hs : gW [115, 116, 101, 112] := by unfold gW; decide
  have hb : ∀ x ∈ [115, 116, 101, 112] ++ 32 :: (List.replicate (j + 1) 48 ++ decN n), x ≠ 10 := fun x hx => by
    rcases List.mem_append.1 hx with hx | hx
    · exact (hs x hx).2
    · rcases List.mem_cons.1 hx with rfl | hx
      · decide
      · exact (hg x hx).2
  have hl1 := lns_one (l := [115, 116, 101, 112] ++ 32 :: (List.replicate (j + 1) 48 ++ decN n)) (by simp) hb
  have hw : spl 32 ([115, 116, 101, 112] ++ 32 :: (List.replicate (j + 1) 48 ++ decN n)) = [[115, 116, 101, 112], List.replicate (j + 1) 48 ++ decN n] := by
    rw [(spl_gw [115, 116, 101, 112] hs).2, (spl_gw _ hg).1]
  have hz : numF (List.replicate (j + 1) 48 ++ decN n) = none := by
    rw [List.replicate_succ, List.cons_append]
    exact numF_zeros (by simp [decN_ne])
  have hp : pLine ([115, 116, 101, 112] ++ 32 :: (List.replicate (j + 1) 48 ++ decN n)) = none := by
    unfold pLine
    rw [hw, pEv2]
    simp only [pNum]
    rw [hz]; rfl
  unfold parseF
  rw [if_neg (by simp; omega), hl1]
  simp only [pAll, hp]; rfl
theorem scriptNumbers_c {W0 : World} (hN : NumLib W0) (n m : Int) : Calls Tryd.prog 7 [.int .i64 n, .int .i64 m].toArray W0
    fun e w' => e = .returned (.bool true) ∧ Below W0.heap.size W0 w' := by
  refine V.calls [] Tryd.func7 rfl Tryd.ntmps7 (Nat.le_of_ble_eq_true rfl) (V.sat_nil _) ?_
  refine CW.seq ?_
  refine CW.region ?_
  refine LW.v rfl rfl (Val.assign rfl) ?_
  refine LW.nil ?_
  refine PQ.seq ?_
  refine CW.seq ?_
  refine CW.region ?_
  refine LW.v rfl rfl (Val.move rfl) ?_
  refine LW.e rfl rfl (Eff.callR rfl Tryd.call27 (fun w hw => low_c n 1000000000 (by omega) w)) ?_
  rintro z ⟨hz1, hz2⟩
  have hzN : ((z.toNat : Nat) : Int) = z := by omega
  have hf0 : fitsB [z] = true := by unfold fitsB; simp; omega
  have hf1 : fitsB [z + 1000000000] = false := fitsB_no (x := z + 1000000000) (by simp) (by omega)
  have hf2 : fitsB [-1 - z] = false := fitsB_no (x := -1 - z) (by simp) (by omega)
  have hdl : (decN z.toNat).length ≤ 9 := decN_len 8 _ (by omega)
  refine LW.v rfl rfl (Val.assign rfl) ?_
  refine LW.nil ?_
  refine PQ.seq ?_
  refine CW.seq ?_
  refine CW.region ?_
  refine LW.v rfl rfl (Val.move rfl) ?_
  refine LW.v rfl rfl (Val.build [_, _, _, _, _, _, _, _, _] Tryd.zeroValue44 Tryd.underlying44 places44 rfl (by rfl)) ?_
  refine LW.re 24 (.agg (e0 2 z 0 (c0q 0)).cells.toArray) rfl rfl ?_
  refine LW.e rfl rfl (Eff.callV rfl Tryd.call22 (fun w hw => line_c (e0 2 z 0 (c0q 0)) [] [] w (e0_ok w _ _ _) (hN.all.mono hw.below) (fun nm l mo hP hf => by have := lineP_len (e0_ok w _ _ _) nm l mo hP hf; omega))) ?_
  intro _ _
  refine LW.re 25 (.tuple [str ([115, 116, 101, 112] ++ 32 :: decN z.toNat), .int .i64 0].toArray) rfl (by rw [line2 hf0]) ?_
  refine LW.v rfl rfl (Val.move rfl) ?_
  refine LW.v rfl rfl (Val.extract rfl rfl) ?_
  refine LW.v rfl rfl (Val.extract rfl rfl) ?_
  refine LW.v rfl rfl (Val.assign rfl) ?_
  refine LW.v rfl rfl (Val.assign rfl) ?_
  refine LW.nil ?_
  refine PQ.seq ?_
  refine CW.seq ?_
  refine CW.region ?_
  refine LW.v rfl rfl (Val.move rfl) ?_
  refine LW.e rfl rfl (Eff.callM ([]) .nil rfl Tryd.call24 (fun w hw hs => parse_c hN ([115, 116, 101, 112] ++ 32 :: decN z.toNat) (by simp; omega) w (Ov.of hw))) ?_
  rintro ⟨o, L, G⟩ ⟨hyo, hps, hLl, hL6, hA⟩
  simp only at hyo hps hLl hL6 hA
  have hpf := parse_step (n := z.toNat) (by omega)
  rw [hpf] at hps hLl hL6 hA
  rw [hpf]
  simp only [List.length_cons, List.length_nil] at hps hLl hL6 hA ⊢
  refine V.LW.know (PsS [((e0 2 (z.toNat : Int) 0 (c0q 0), [], []) : AEv)] L) (fun w hw => (hps w (hw.sat.pick (ss := [G]) (by repeat (first | exact .nil | apply Pick.cons | exact .here | apply Ext.there)))).shape) fun hsh => ?_
  obtain ⟨⟨g, rest, cap2⟩, rfl⟩ := own_some hyo (by omega)
  obtain ⟨e1, he1⟩ : ∃ x, L[0]? = some x := ⟨L[0]'(by omega), by simp⟩
  obtain ⟨g1, k1, hre⟩ := hsh 0 _ e1 rfl he1
  have hth : e1.th = z := by rw [hre]; exact hzN
  rw [V.ownG_some]
  refine LW.v rfl rfl (Val.move rfl) ?_
  refine LW.v rfl rfl (Val.extract rfl rfl) ?_
  refine LW.v rfl rfl (Val.extract rfl rfl) ?_
  refine LW.v rfl rfl (Val.extract rfl rfl) ?_
  refine LW.v rfl rfl (Val.assign rfl) ?_
  refine LW.v rfl rfl (Val.assign rfl) ?_
  refine LW.v rfl rfl (Val.assign rfl) ?_
  refine LW.nil ?_
  refine PQ.seq ?_
  refine CW.seq ?_
  refine CW.region ?_
  refine LW.v rfl rfl (Val.move rfl) ?_
  refine LW.v rfl rfl (Val.ar rfl rfl rfl (IntWalk.i64_in _ (by omega))) ?_
  refine LW.v rfl rfl (Val.build [_, _, _, _, _, _, _, _, _] Tryd.zeroValue44 Tryd.underlying44 places44 rfl (by rfl)) ?_
  refine LW.re 37 (.agg (e0 2 (z + 1000000000) 0 (c0q 0)).cells.toArray) rfl rfl ?_
  refine LW.e rfl rfl (Eff.callV rfl Tryd.call22 (fun w hw => line_c (e0 2 (z + 1000000000) 0 (c0q 0)) [] [] w (e0_ok w _ _ _) (hN.all.mono hw.below) (fun nm l mo hP hf => by have := lineP_len (e0_ok w _ _ _) nm l mo hP hf; omega))) ?_
  intro _ _
  refine LW.re 38 (.tuple [str [], .int .i64 2].toArray) rfl (by rw [line2_no hf1]) ?_
  refine LW.v rfl rfl (Val.move rfl) ?_
  refine LW.v rfl rfl (Val.extract rfl rfl) ?_
  refine LW.v rfl rfl (Val.extract rfl rfl) ?_
  refine LW.v rfl rfl (Val.assign rfl) ?_
  refine LW.v rfl rfl (Val.assign rfl) ?_
  refine LW.nil ?_
  refine PQ.seq ?_
  refine CW.seq ?_
  refine CW.region ?_
  refine LW.v rfl rfl (Val.move rfl) ?_
  refine LW.v rfl rfl (Val.ar rfl rfl rfl (IntWalk.i64_in _ (by omega))) ?_
  refine LW.v rfl rfl (Val.build [_, _, _, _, _, _, _, _, _] Tryd.zeroValue44 Tryd.underlying44 places44 rfl (by rfl)) ?_
  refine LW.re 44 (.agg (e0 4 0 (-1 - z) (c0q 0)).cells.toArray) rfl rfl ?_
  refine LW.e rfl rfl (Eff.callV rfl Tryd.call22 (fun w hw => line_c (e0 4 0 (-1 - z) (c0q 0)) [] [] w (e0_ok w _ _ _) (hN.all.mono hw.below) (fun nm l mo hP hf => by have := lineP_len (e0_ok w _ _ _) nm l mo hP hf; omega))) ?_
  intro _ _
  refine LW.re 45 (.tuple [str [], .int .i64 2].toArray) rfl (by rw [line4_no hf2]) ?_
  refine LW.v rfl rfl (Val.move rfl) ?_
  refine LW.v rfl rfl (Val.extract rfl rfl) ?_
  refine LW.v rfl rfl (Val.extract rfl rfl) ?_
  refine LW.v rfl rfl (Val.assign rfl) ?_
  refine LW.v rfl rfl (Val.assign rfl) ?_
  refine LW.nil ?_
  refine PQ.seq ?_
  refine CW.seq ?_
  refine CW.region ?_
  refine LW.v rfl rfl (Val.assign rfl) ?_
  refine LW.nil ?_
  refine PQ.seq ?_
  refine CW.seq ?_
  refine CW.seq ?_
  refine CW.region ?_
  refine LW.v rfl rfl (Val.assign rfl) ?_
  refine LW.nil ?_
  refine PQ.seq ?_
  refine CW.block ?_
  refine CW.loop (γ := Nat) (fun j => [(1, .int .i64 m), (5, .int .i64 z), (6, str ([115, 116, 101, 112] ++ 32 :: decN z.toNat)), (7, .int .i64 0), (8, ownV L.length (some (g, rest, cap2))), (10, .int .i64 0), (12, .int .i64 2), (14, .int .i64 2), (15, str (List.replicate j 48)), (16, .int .i64 (j : Nat))]) (fun _ => [[(g, .cells (L.flatMap Evq.cells ++ rest).toArray 44 (0, 0))], G]) (fun j => j ≤ 13) (fun j => 13 - j) (0) (Nat.zero_le _) (by repeat (first | exact trivial | refine ⟨rfl, ?_⟩)) (by repeat (first | exact .nil | apply Pick.cons | exact .here | apply Ext.there)) ?_
  intro j
  intro hJ
  refine CW.seq ?_
  refine CW.seq ?_
  refine CW.region ?_
  refine LW.v rfl rfl (Val.move rfl) ?_
  refine LW.v rfl rfl (Val.move rfl) ?_
  refine LW.e rfl rfl (Eff.callR rfl Tryd.call27 (fun w hw => low_c m 12 (by omega) w)) ?_
  rintro y ⟨hy1, hy2⟩
  refine LW.v rfl rfl (Val.cmp rfl rfl rfl) ?_
  refine LW.nil ?_
  refine PQ.seq ?_
  refine CW.cond rfl (fun h51 => ?_) (fun h51 => ?_)
  · replace h51 := bT h51
    skip
    refine CW.skip ?_
    refine PQ.seq ?_
    refine CW.seq ?_
    refine CW.block ?_
    refine CW.region ?_
    refine LW.v rfl rfl (Val.move rfl) ?_
    refine LW.v rfl rfl (Val.catStr rfl rfl (by simp only [List.length_append, List.length_cons, List.length_nil, List.length_replicate, List.length_take, List.length_drop]; omega)) ?_
    refine LW.v rfl rfl (Val.assign rfl) ?_
    refine LW.nil ?_
    refine PQ.in_normal ?_
    refine PQ.seq ?_
    refine CW.region ?_
    refine LW.v rfl rfl (Val.move rfl) ?_
    refine LW.v rfl rfl (Val.ar rfl rfl rfl (IntWalk.i64_in _ (by omega))) ?_
    refine LW.v rfl rfl (Val.assign rfl) ?_
    refine LW.nil ?_
    have hrep : List.replicate (j + 1) (48 : UInt8) = List.replicate j 48 ++ [48] := by rw [List.replicate_succ']
    refine PQ.round (j + 1) (by omega) (by omega) (by exact ⟨rfl, rfl, rfl, rfl, rfl, rfl, rfl, rfl, by rw [hrep]; rfl, rfl, trivial⟩) (by repeat (first | exact .nil | apply Pick.cons | exact .here | apply Ext.there))
  · replace h51 := bF h51
    obtain ⟨j0, hj0⟩ : ∃ j0, j = j0 + 1 := ⟨j - 1, by omega⟩
    subst hj0
    refine CW.exit ?_
    refine PQ.then_exit ?_
    refine PQ.then_exit ?_
    refine PQ.in_here ?_
    refine PQ.seq ?_
    refine CW.seq ?_
    refine CW.region ?_
    refine LW.v rfl rfl (Val.move rfl) ?_
    refine LW.v rfl rfl (Val.catStr rfl rfl (by simp only [List.length_append, List.length_cons, List.length_nil, List.length_replicate, List.length_take, List.length_drop]; omega)) ?_
    refine LW.v rfl rfl (Val.move rfl) ?_
    refine LW.v rfl rfl (Val.move rfl) ?_
    refine LW.v rfl rfl (Val.lenStr rfl Tryd.underlying9) ?_
    refine LW.v rfl rfl (Val.minI rfl rfl) ?_
    refine LW.re 62 (.int .i64 ((5 : Nat) : Int)) rfl (by congr 1; simp; omega) ?_
    refine LW.v rfl rfl (Val.sliceStr (l := ([115, 116, 101, 112] ++ 32 :: decN z.toNat)) 5 ([115, 116, 101, 112] ++ 32 :: decN z.toNat).length rfl Tryd.underlying9 ⟨_, rfl⟩ (by rfl) (by simp) (by omega)) ?_
    refine LW.v rfl rfl (Val.catStr rfl rfl (by simp only [List.length_append, List.length_cons, List.length_nil, List.length_replicate, List.length_take, List.length_drop]; omega)) ?_
    refine LW.re 64 (str ([115, 116, 101, 112] ++ 32 :: (List.replicate (j0 + 1) 48 ++ decN z.toNat))) rfl (by simp) ?_
    refine LW.e rfl rfl (Eff.callM ([]) .nil rfl Tryd.call24 (fun w hw hs => parse_c hN ([115, 116, 101, 112] ++ 32 :: (List.replicate (j0 + 1) 48 ++ decN z.toNat)) (by simp; omega) w (Ov.of hw))) ?_
    rintro ⟨o3, L3, G3⟩ ⟨hyo3, hps3, hLl3, hL63, hA3⟩
    simp only at hyo3 hps3 hLl3 hL63 hA3
    have hpz := parse_zeros (n := z.toNat) (j := j0) (by omega) (by omega)
    rw [hpz] at hps3 hLl3 hL63 hA3
    rw [hpz]
    simp only at hps3 hLl3 hL63 hA3 ⊢
    refine LW.v rfl rfl (Val.move rfl) ?_
    refine LW.v rfl rfl (Val.extract rfl rfl) ?_
    refine LW.v rfl rfl (Val.extract rfl rfl) ?_
    refine LW.v rfl rfl (Val.extract rfl rfl) ?_
    refine LW.v rfl rfl (Val.assign rfl) ?_
    refine LW.v rfl rfl (Val.assign rfl) ?_
    refine LW.v rfl rfl (Val.assign rfl) ?_
    refine LW.nil ?_
    refine PQ.seq ?_
    refine CW.seq ?_
    refine CW.region ?_
    refine LW.v rfl rfl (Val.move rfl) ?_
    refine LW.v rfl rfl (Val.cmp rfl rfl rfl) ?_
    refine LW.re 70 (.bool true) rfl (by rfl) ?_
    refine LW.v rfl rfl (Val.move rfl) ?_
    refine LW.v rfl rfl (Val.move rfl) ?_
    refine LW.v rfl rfl (Val.cmp rfl rfl rfl) ?_
    refine LW.re 73 (.bool true) rfl (by rfl) ?_
    refine LW.v rfl rfl (Val.pick_t rfl rfl) ?_
    refine LW.v rfl rfl (Val.move rfl) ?_
    refine LW.v rfl rfl (Val.move rfl) ?_
    refine LW.v rfl rfl (Val.lenOwn rfl Tryd.underlying28 hyo) ?_
    refine LW.v rfl rfl (Val.cmp rfl rfl rfl) ?_
    refine LW.re 78 (.bool true) rfl (by rw [hLl]; rfl) ?_
    refine LW.v rfl rfl (Val.pick_t rfl rfl) ?_
    refine LW.v rfl rfl (Val.move rfl) ?_
    refine LW.v rfl rfl (Val.move rfl) ?_
    first | (refine LW.v rfl rfl (Val.indexAddrN rfl rfl Tryd.underlying28 Tryd.sizeOf44 (by omega)) ?_) | (refine LW.v rfl rfl (Val.indexAddr rfl rfl Tryd.underlying28 Tryd.sizeOf44 (by omega) (by omega)) ?_)
    refine LW.v rfl rfl (Val.fieldAddr 1 rfl Tryd.underlying44 rfl rfl Tryd.sizeOf3) ?_
    refine LW.v rfl rfl (Val.load (T := 44) (v := .int .i64 e1.th) rfl Tryd.isAgg3 (by repeat (first | exact .here | refine .there ?_)) (by have h8 := cell_flat (i := 0) (j := 1) ev_len rest he1 rfl; simpa using h8)) ?_
    refine LW.v rfl rfl (Val.move rfl) ?_
    refine LW.v rfl rfl (Val.cmp rfl rfl rfl) ?_
    refine LW.re 86 (.bool true) rfl (by rw [hth]; simp) ?_
    refine LW.v rfl rfl (Val.pick_t rfl rfl) ?_
    refine LW.v rfl rfl (Val.move rfl) ?_
    refine LW.v rfl rfl (Val.move rfl) ?_
    refine LW.v rfl rfl (Val.cmp rfl rfl rfl) ?_
    refine LW.re 90 (.bool true) rfl (by rfl) ?_
    refine LW.v rfl rfl (Val.pick_t rfl rfl) ?_
    refine LW.v rfl rfl (Val.move rfl) ?_
    refine LW.v rfl rfl (Val.move rfl) ?_
    refine LW.v rfl rfl (Val.cmp rfl rfl rfl) ?_
    refine LW.re 94 (.bool true) rfl (by rfl) ?_
    refine LW.v rfl rfl (Val.pick_t rfl rfl) ?_
    refine LW.v rfl rfl (Val.move rfl) ?_
    refine LW.v rfl rfl (Val.move rfl) ?_
    refine LW.v rfl rfl (Val.cmp rfl rfl rfl) ?_
    refine LW.re 98 (.bool true) rfl (by rfl) ?_
    refine LW.v rfl rfl (Val.pick_t rfl rfl) ?_
    refine LW.v rfl rfl (Val.move rfl) ?_
    refine LW.v rfl rfl (Val.move rfl) ?_
    refine LW.v rfl rfl (Val.cmp rfl rfl rfl) ?_
    refine LW.re 102 (.bool true) rfl (by rfl) ?_
    refine LW.v rfl rfl (Val.pick_t rfl rfl) ?_
    refine LW.v rfl rfl (Val.move rfl) ?_
    refine LW.e rfl rfl (Eff.callV rfl Tryd.call11 (fun w hw => awake28_c w)) ?_
    intro _ _
    refine LW.v rfl rfl (Val.pick_t rfl rfl) ?_
    refine LW.v rfl rfl (Val.assign rfl) ?_
    refine LW.nil ?_
    refine PQ.seq ?_
    refine CW.ret ?_
    refine PQ.ret1 rfl rfl ?_
    intro w' hw; exact ⟨rfl, hw.below⟩
end Go.Proofs.YtagliemeolngiaaDoor
