/- The reference's Ended. -/
import Derived.Test.YtaihimbjdgmjgaaSeF
import Derived.Lib.Hide
namespace Go.Proofs.Ytaihimbjdgmjgaa
open Go Go.RowKit V
set_option linter.unusedVariables false
set_option maxRecDepth 100000
open V (ownV ownG ownS ownOk)
theorem drop_flat {α : Type} {enc : α → List Value} {sz : Nat} (hk : ∀ x, (enc x).length = sz) (l : List α) (t : Nat) (ht : t ≤ l.length) (rest : List Value) : (l.flatMap enc ++ rest).drop (t * sz) = (l.drop t).flatMap enc ++ rest := by
  have e : l.flatMap enc = (l.take t).flatMap enc ++ (l.drop t).flatMap enc := by rw [← List.flatMap_append, List.take_append_drop]
  have h1 : ((l.take t).flatMap enc).length = t * sz := by rw [V.flatMap_len hk, List.length_take]; congr 1; omega
  rw [e, List.append_assoc, ← h1]; exact List.drop_left
theorem rended_c (p : Option Addr) (n cap : Nat) (l : List Sto) (w : World) (hn : l.length = n) (h : V.slAt w p 14 Sto.cells l) (hm : n ≤ 60) : Calls Try.prog 25 [.slice p n cap].toArray w
    fun e w' => ∃ y : V.OwnO × List Sto, (ownOk 14 y.2.length (y.2.flatMap Sto.cells) y.1 ∧ y.2.length ≤ 60 ∧ Sta Sto.en (l.filter qE) y.2 ∧ Up Sto.en y.2) ∧ e = .returned (ownV y.2.length y.1) ∧ Hp ⟨w, []⟩ [ownG 36 (y.2.flatMap Sto.cells) y.1] w' := by
  refine V.calls [] Try.func25 rfl Try.ntmps25 (Nat.le_of_ble_eq_true rfl) (V.sat_nil _) ?_
  refine CW.seq ?_
  refine CW.region ?_
  refine LW.v rfl rfl (Val.assign rfl) ?_
  refine LW.nil ?_
  refine PQ.seq ?_
  refine CW.seq ?_
  refine CW.region ?_
  refine LW.v rfl rfl (Val.assign rfl) ?_
  refine LW.nil ?_
  refine PQ.seq ?_
  refine CW.seq ?_
  refine CW.seq ?_
  refine CW.region ?_
  refine LW.v rfl rfl (Val.assign rfl) ?_
  refine LW.nil ?_
  refine PQ.seq ?_
  refine CW.block ?_
  refine V.CW.addOwn 36 ?_
  refine CW.loop (γ := Nat × V.OwnO × List Sto) (fun k => [(0, .slice p n cap), (3, ownV k.2.2.length k.2.1), (4, .int .i64 (k.1 : Nat))]) (fun k => [ownG 36 (k.2.2.flatMap Sto.cells) k.2.1]) (fun k => k.1 ≤ n ∧ ownOk 14 k.2.2.length (k.2.2.flatMap Sto.cells) k.2.1 ∧ Sta Sto.en ((l.take k.1).filter qE) k.2.2 ∧ Up Sto.en k.2.2 ∧ k.2.2.length ≤ k.1) (fun k => n - k.1) ((0, none, [])) ⟨Nat.zero_le _, ⟨rfl, rfl⟩, Sta.refl _, up_nil, Nat.le_refl _⟩ (by repeat (first | exact trivial | refine ⟨rfl, ?_⟩)) (by repeat (first | exact .nil | apply Pick.cons | exact .here | apply Ext.there)) ?_
  intro k
  rintro ⟨hk1, hk2, hk3, hk4, hk5⟩
  refine CW.seq ?_
  refine CW.seq ?_
  refine CW.region ?_
  refine LW.v rfl rfl (Val.move rfl) ?_
  refine LW.v rfl rfl (Val.move rfl) ?_
  refine LW.v rfl rfl (Val.lenSl rfl Try.underlying22) ?_
  refine LW.v rfl rfl (Val.cmp rfl rfl rfl) ?_
  refine LW.nil ?_
  refine PQ.seq ?_
  refine CW.cond rfl (fun h10 => ?_) (fun h10 => ?_)
  · replace h10 := bT h10
    obtain ⟨b, o', s, rfl, hb, hsx, hr⟩ := V.slAt_at h hn (k := k.1) (by omega)
    refine CW.skip ?_
    refine PQ.seq ?_
    refine CW.seq ?_
    refine CW.block ?_
    refine CW.seq ?_
    refine CW.seq ?_
    refine CW.region ?_
    refine LW.v rfl rfl (Val.move rfl) ?_
    refine LW.v rfl rfl (Val.move rfl) ?_
    first | (refine LW.v rfl rfl (Val.indexAddrN rfl rfl Try.underlying22 Try.sizeOf36 (by omega)) ?_) | (refine LW.v rfl rfl (Val.indexAddr rfl rfl Try.underlying22 Try.sizeOf36 (by omega) (by omega)) ?_)
    refine LW.v rfl rfl (Val.fieldAddr 13 rfl Try.underlying36 rfl rfl Try.sizeOf3) ?_
    refine LW.v rfl rfl (Val.loadO rfl Try.isAgg3 hb (by simp [ids]) (hr _ _ hsx 13 _ rfl)) ?_
    refine LW.v rfl rfl (Val.cmp rfl rfl rfl) ?_
    refine LW.nil ?_
    refine PQ.seq ?_
    refine CW.cond rfl (fun h18 => ?_) (fun h18 => ?_)
    · replace h18 := bT h18
      have hF : ((l.take (k.1 + 1)).filter qE) = ((l.take k.1).filter qE) := by rw [filter_snoc hsx, if_neg (by unfold qE; simp; omega), List.append_nil]
      refine CW.exit ?_
      refine PQ.then_exit ?_
      refine PQ.in_here ?_
      refine PQ.seq ?_
      refine CW.region ?_
      refine LW.v rfl rfl (Val.move rfl) ?_
      refine LW.v rfl rfl (Val.ar rfl rfl rfl (IntWalk.i64_in _ (by omega))) ?_
      refine LW.v rfl rfl (Val.assign rfl) ?_
      refine LW.nil ?_
      refine PQ.round ((k.1 + 1, k.2.1, k.2.2)) ⟨by simp only; omega, hk2, by simp only; rw [hF]; exact hk3, hk4, by simp only; omega⟩ (by simp only; omega) (by repeat (first | exact trivial | refine ⟨rfl, ?_⟩)) (by repeat (first | exact .nil | apply Pick.cons | exact .here | apply Ext.there))
    · replace h18 := bF h18
      have hF : ((l.take (k.1 + 1)).filter qE) = ((l.take k.1).filter qE) ++ [s] := by rw [filter_snoc hsx, if_pos (by unfold qE; simp; omega)]
      refine CW.skip ?_
      refine PQ.seq ?_
      refine CW.seq ?_
      rcases hq : k.2.1 with _ | ⟨g, rest, cap2⟩
      · rw [hq] at hk2
        have hRl : k.2.2.length = 0 := hk2.2
        have hRn : k.2.2 = [] := List.length_eq_zero_iff.1 hRl
        refine CW.region ?_
        refine LW.v rfl rfl (Val.move rfl) ?_
        refine LW.e rfl rfl (Eff.ofVal (Val.lenOwn rfl Try.underlying22 hk2)) ?_
        intro _ _
        refine LW.v rfl rfl (Val.assign rfl) ?_
        refine LW.nil ?_
        refine PQ.seq ?_
        refine CW.seq ?_
        refine CW.block ?_
        refine CW.loop (γ := Nat) (fun t => [(0, .slice (some ⟨b, o', none⟩) n cap), (3, ownV k.2.2.length none), (4, .int .i64 (k.1 : Nat)), (5, .int .i64 (t : Nat))]) (fun _ => [ownG 36 (k.2.2.flatMap Sto.cells) none]) (fun t => t ≤ k.2.2.length ∧ ∀ y ∈ k.2.2.drop t, s.en < y.en) (fun t => t) (k.2.2.length) ⟨Nat.le_refl _, by simp⟩ (by repeat (first | exact trivial | refine ⟨rfl, ?_⟩)) (by repeat (first | exact .nil | apply Pick.cons | exact .here | apply Ext.there)) ?_
        intro t
        rintro ⟨ht1, ht2⟩
        have ht0 : t = 0 := by omega
        refine CW.seq ?_
        refine CW.seq ?_
        refine CW.quiet mixed (by kernel_rfl) ?_
        refine QW.v rfl rfl (Val.move rfl) ?_
        refine QW.v rfl rfl (Val.cmp rfl rfl rfl) ?_
        refine QW.v rfl rfl (Val.move rfl) ?_
        refine QW.split (d := 23) rfl (fun h23 => ?_) (fun h23 => ?_)
        · exact absurd (bT h23) (by omega)
        · replace h23 := bF h23
          refine QW.p rfl rfl ?_
          refine QW.p rfl rfl ?_
          refine QW.p rfl rfl ?_
          refine QW.p rfl rfl ?_
          refine QW.p rfl rfl ?_
          refine QW.p rfl rfl ?_
          refine QW.p rfl rfl ?_
          refine QW.p rfl rfl ?_
          refine QW.p rfl rfl ?_
          refine QW.p rfl rfl ?_
          refine QW.p rfl rfl ?_
          refine QW.p rfl rfl ?_
          refine QW.v rfl rfl (Val.pick_f rfl rfl) ?_
          refine QW.nil ?_
          refine PQ.seq ?_
          refine CW.cond_f rfl ?_
          refine CW.exit ?_
          refine PQ.then_exit ?_
          refine PQ.then_exit ?_
          refine PQ.in_here ?_
          refine PQ.seq ?_
          refine CW.seq ?_
          refine CW.region ?_
          refine LW.v rfl rfl (Val.assign rfl) ?_
          refine LW.nil ?_
          refine PQ.seq ?_
          refine CW.seq ?_
          refine CW.region ?_
          refine LW.v rfl rfl (Val.move rfl) ?_
          refine LW.v rfl rfl (Val.move rfl) ?_
          refine LW.v rfl rfl (Val.move rfl) ?_
          refine LW.e rfl rfl (Eff.ofVal (Val.sliceNil rfl Try.underlying22 Try.sizeOf36 rfl ⟨.i64, by rw [show (0 : Nat) = t by omega]; rfl⟩)) ?_
          intro _ _
          refine LW.e rfl rfl (Eff.ofVal (Val.appendNil0 (sz := 14) (bytes := 192) (z := .agg #[.int .i64 0, .int .i64 0, .string ⟨#[]⟩, .string ⟨#[]⟩, .string ⟨#[]⟩, .slice none 0 0, .int .i64 0, .bool false, .string ⟨#[]⟩, .slice none 0 0, .slice none 0 0, .int .u64 0, .int .i64 0, .int .i64 0]) rfl rfl Try.underlying22 (by kernel_rfl))) ?_
          intro _ _
          obtain ⟨o2, ho2, ho2e⟩ : ∃ o2 : V.OwnO, ownOk 14 (0 + t) ([] ++ (k.2.2.take t).flatMap Sto.cells) o2 ∧ o2 = none := ⟨none, by rw [hRn, ht0]; exact ⟨rfl, rfl⟩, rfl⟩
          refine LW.re 43 (ownV (0 + t) o2) rfl (by rw [ho2e]; rfl) ?_
          refine V.LW.perm (sg' := [ownG 36 ([] ++ (k.2.2.take t).flatMap Sto.cells) o2]) ?_ (by rw [ho2e]; exact .refl _)
          refine LW.v rfl rfl (Val.assign rfl) ?_
          refine LW.nil ?_
          refine PQ.seq ?_
          refine CW.seq ?_
          refine CW.region ?_
          refine LW.v rfl rfl (Val.move rfl) ?_
          refine LW.v rfl rfl (Val.move rfl) ?_
          refine LW.v rfl rfl (Val.move rfl) ?_
          first | (refine LW.v rfl rfl (Val.indexAddrN rfl rfl Try.underlying22 Try.sizeOf36 (by omega)) ?_) | (refine LW.v rfl rfl (Val.indexAddr rfl rfl Try.underlying22 Try.sizeOf36 (by omega) (by omega)) ?_)
          refine LW.v rfl rfl (Val.loadOA rfl Try.isAgg36 hb (by simp [ids]) (hr _ _ hsx) Try.sizeOf36) ?_
          refine LW.e rfl rfl (Eff.buildSlice (rfl) [_, _, _, _, _, _, _, _, _, _, _, _, _, _] Try.underlying22 Try.sizeOf36 (by exact Try.zeroValue36) rfl rfl rfl rfl (by rfl)) ?_
          intro b49 _
          refine LW.e rfl rfl (Eff.appendAny (s.cells) (sz := 14) (bytes := 192) (z := .agg #[.int .i64 0, .int .i64 0, .string ⟨#[]⟩, .string ⟨#[]⟩, .string ⟨#[]⟩, .slice none 0 0, .int .i64 0, .bool false, .string ⟨#[]⟩, .slice none 0 0, .slice none 0 0, .int .u64 0, .int .i64 0, .int .i64 0]) (xs := [] ++ (k.2.2.take t).flatMap Sto.cells) (m0 := 0 + t) (o := o2) (m := 1) (pk := [ownG 36 ([] ++ (k.2.2.take t).flatMap Sto.cells) o2]) rfl rfl Try.underlying22 (by kernel_rfl) rfl (by omega) (by repeat (first | exact .nil | apply Pick.cons | exact .here | apply Ext.there)) (by simp) ho2 (by rfl) (fun hm0 => ⟨b49, 0, rfl, fun w hw => V.range_of_block (o := 0) (cs := s.cells) (r := []) (hw.own _ (show InS (b49, .cells (s.cells).toArray 36 (0, 0)) _ from (by repeat (first | exact .here | refine .there ?_))).mem) rfl⟩) (by rfl) (by omega) (by omega)) ?_
          intro o3 ho3
          refine LW.v rfl rfl (Val.assign rfl) ?_
          refine LW.nil ?_
          refine PQ.seq ?_
          refine CW.region ?_
          refine LW.v rfl rfl (Val.move rfl) ?_
          refine LW.v rfl rfl (Val.move rfl) ?_
          refine LW.v rfl rfl (Val.move rfl) ?_
          refine LW.e rfl rfl (Eff.ofVal (Val.sliceNil rfl Try.underlying22 Try.sizeOf36 ⟨.i64, by rw [show (0 : Nat) = t by omega]; rfl⟩ rfl)) ?_
          intro _ _
          refine LW.e rfl rfl (Eff.appendAny ((k.2.2.drop t).flatMap Sto.cells) (sz := 14) (bytes := 192) (z := .agg #[.int .i64 0, .int .i64 0, .string ⟨#[]⟩, .string ⟨#[]⟩, .string ⟨#[]⟩, .slice none 0 0, .int .i64 0, .bool false, .string ⟨#[]⟩, .slice none 0 0, .slice none 0 0, .int .u64 0, .int .i64 0, .int .i64 0]) (xs := ([] ++ (k.2.2.take t).flatMap Sto.cells ++ s.cells)) (m0 := 0 + t + 1) (o := o3) (m := 0) (pk := [ownG 36 ([] ++ (k.2.2.take t).flatMap Sto.cells ++ s.cells) o3]) rfl rfl Try.underlying22 (by kernel_rfl) rfl (by omega) (by repeat (first | exact .nil | apply Pick.cons | exact .here | apply Ext.there)) (by simp) ho3 (by rw [hRn]; simp) (fun hm0 => by omega) (all_one sto_one _) (by omega) (by omega)) ?_
          intro o4 ho4
          rw [show 0 + t + 1 + 0 = 0 + t + 1 + (k.2.2.length - t) by omega] at ho4
          refine LW.re 55 (ownV (0 + t + 1 + (k.2.2.length - t)) o4) rfl (congrArg (fun z => ownV z o4) (by omega)) ?_
          refine LW.v rfl rfl (Val.assign rfl) ?_
          refine LW.nil ?_
          refine PQ.in_normal ?_
          refine PQ.seq ?_
          refine CW.region ?_
          refine LW.v rfl rfl (Val.move rfl) ?_
          refine LW.v rfl rfl (Val.ar rfl rfl rfl (IntWalk.i64_in _ (by omega))) ?_
          refine LW.v rfl rfl (Val.assign rfl) ?_
          refine LW.nil ?_
          have hup : Up Sto.en (k.2.2.take t ++ s :: k.2.2.drop t) := ins_up hk4 t s (fun y hy => by have := ht2 y hy; omega) (fun y hy => by rw [ht0] at hy; simp at hy)
          have hlN : (k.2.2.take t ++ s :: k.2.2.drop t).length = k.2.2.length + 1 := by simp; omega
          have hfN : ([] ++ (k.2.2.take t).flatMap Sto.cells ++ s.cells) ++ (k.2.2.drop t).flatMap Sto.cells = (k.2.2.take t ++ s :: k.2.2.drop t).flatMap Sto.cells := by simp
          have hoN : ownOk 14 (k.2.2.take t ++ s :: k.2.2.drop t).length ((k.2.2.take t ++ s :: k.2.2.drop t).flatMap Sto.cells) o4 := by
            have e := ho4
            rw [hfN, show 0 + t + 1 + (k.2.2.length - t) = (k.2.2.take t ++ s :: k.2.2.drop t).length by rw [hlN]; omega] at e
            exact e
          refine PQ.segs (ss := [ownG 36 (([] ++ (k.2.2.take t).flatMap Sto.cells ++ s.cells) ++ (k.2.2.drop t).flatMap Sto.cells) o4]) ?_ (by repeat (first | exact .nil | apply Pick.cons | exact .here | apply Ext.there))
          rw [hfN]
          refine PQ.round ((k.1 + 1, o4, (k.2.2.take t ++ s :: k.2.2.drop t))) ⟨by simp only; omega, hoN, by simp only; rw [hF]; exact (hk3.app (Sta.refl [s])).trans (ins_sta _ t s ht2), hup, by simp only; rw [hlN]; omega⟩ (by simp only; omega) (by exact ⟨rfl, congrArg (fun z => some (ownV z o4)) (show 0 + t + 1 + (k.2.2.length - t) = (k.2.2.take t ++ s :: k.2.2.drop t).length by rw [hlN]; omega), rfl, trivial⟩) (by repeat (first | exact .nil | apply Pick.cons | exact .here | apply Ext.there))
      · rw [hq] at hk2
        have hcl : k.2.2.length ≤ cap2 := by
          have e := hk2.2
          simp only at e
          rw [V.flatMap_len sto_len] at e
          exact Nat.le_of_mul_le_mul_right (by omega : k.2.2.length * 14 ≤ cap2 * 14) (by omega)
        rw [V.ownG_some]
        refine CW.region ?_
        refine LW.v rfl rfl (Val.move rfl) ?_
        refine LW.e rfl rfl (Eff.ofVal (Val.lenOwn rfl Try.underlying22 hk2)) ?_
        intro _ _
        refine LW.v rfl rfl (Val.assign rfl) ?_
        refine LW.nil ?_
        refine PQ.seq ?_
        refine CW.seq ?_
        refine CW.block ?_
        refine CW.loop (γ := Nat) (fun t => [(0, .slice (some ⟨b, o', none⟩) n cap), (3, ownV k.2.2.length (some (g, rest, cap2))), (4, .int .i64 (k.1 : Nat)), (5, .int .i64 (t : Nat))]) (fun _ => [[(g, .cells (k.2.2.flatMap Sto.cells ++ rest).toArray 36 (0, 0))]]) (fun t => t ≤ k.2.2.length ∧ ∀ y ∈ k.2.2.drop t, s.en < y.en) (fun t => t) (k.2.2.length) ⟨Nat.le_refl _, by simp⟩ (by repeat (first | exact trivial | refine ⟨rfl, ?_⟩)) (by repeat (first | exact .nil | apply Pick.cons | exact .here | apply Ext.there)) ?_
        intro t
        rintro ⟨ht1, ht2⟩
        refine CW.seq ?_
        refine CW.seq ?_
        refine CW.quiet mixed (by kernel_rfl) ?_
        refine QW.v rfl rfl (Val.move rfl) ?_
        refine QW.v rfl rfl (Val.cmp rfl rfl rfl) ?_
        refine QW.v rfl rfl (Val.move rfl) ?_
        refine QW.split (d := 23) rfl (fun h23 => ?_) (fun h23 => ?_)
        · replace h23 := bT h23
          obtain ⟨u, hu⟩ : ∃ u, k.2.2[t - 1]? = some u := ⟨k.2.2[t - 1]'(by omega), by simp⟩
          refine QW.v rfl rfl (Val.move rfl) ?_
          refine QW.v rfl rfl (Val.move rfl) ?_
          refine QW.v rfl rfl (Val.ar rfl rfl rfl (IntWalk.i64_in _ (by omega))) ?_
          refine QW.re 26 (.int .i64 ((t - 1 : Nat) : Int)) rfl (by congr 1; omega) ?_
          first | (refine QW.v rfl rfl (Val.indexAddrN rfl rfl Try.underlying22 Try.sizeOf36 (by omega)) ?_) | (refine QW.v rfl rfl (Val.indexAddr rfl rfl Try.underlying22 Try.sizeOf36 (by omega) (by omega)) ?_)
          refine QW.v rfl rfl (Val.fieldAddr 13 rfl Try.underlying36 rfl rfl Try.sizeOf3) ?_
          refine QW.v rfl rfl (Val.load (T := 36) rfl Try.isAgg3 (by repeat (first | exact .here | refine .there ?_)) (cell_flat sto_len rest hu rfl)) ?_
          refine QW.v rfl rfl (Val.move rfl) ?_
          refine QW.v rfl rfl (Val.move rfl) ?_
          first | (refine QW.v rfl rfl (Val.indexAddrN rfl rfl Try.underlying22 Try.sizeOf36 (by omega)) ?_) | (refine QW.v rfl rfl (Val.indexAddr rfl rfl Try.underlying22 Try.sizeOf36 (by omega) (by omega)) ?_)
          refine QW.v rfl rfl (Val.fieldAddr 13 rfl Try.underlying36 rfl rfl Try.sizeOf3) ?_
          refine QW.v rfl rfl (Val.loadO rfl Try.isAgg3 hb (by simp [ids]) (hr _ _ hsx 13 _ rfl)) ?_
          refine QW.v rfl rfl (Val.cmp rfl rfl rfl) ?_
          refine QW.v rfl rfl (Val.pick_t rfl rfl) ?_
          refine QW.nil ?_
          refine PQ.seq ?_
          refine CW.cond rfl (fun h36 => ?_) (fun h36 => ?_)
          · replace h36 := bT h36
            refine CW.skip ?_
            refine PQ.seq ?_
            refine CW.block ?_
            refine CW.region ?_
            refine LW.v rfl rfl (Val.move rfl) ?_
            refine LW.v rfl rfl (Val.ar rfl rfl rfl (IntWalk.i64_in _ (by omega))) ?_
            refine LW.re 38 (.int .i64 ((t - 1 : Nat) : Int)) rfl (by congr 1; omega) ?_
            refine LW.v rfl rfl (Val.assign rfl) ?_
            refine LW.nil ?_
            refine PQ.in_normal ?_
            refine PQ.round (t - 1) ⟨by omega, fun y hy => by
              rw [drop_cons hu, show t - 1 + 1 = t by omega] at hy
              rcases List.mem_cons.1 hy with rfl | hy
              · omega
              · exact ht2 y hy⟩ (by omega) (by repeat (first | exact trivial | refine ⟨rfl, ?_⟩)) (by repeat (first | exact .nil | apply Pick.cons | exact .here | apply Ext.there))
          · replace h36 := bF h36
            refine CW.exit ?_
            refine PQ.then_exit ?_
            refine PQ.then_exit ?_
            refine PQ.in_here ?_
            refine PQ.seq ?_
            refine CW.seq ?_
            refine CW.region ?_
            refine LW.v rfl rfl (Val.assign rfl) ?_
            refine LW.nil ?_
            refine PQ.seq ?_
            refine CW.seq ?_
            refine CW.region ?_
            refine LW.v rfl rfl (Val.move rfl) ?_
            refine LW.v rfl rfl (Val.move rfl) ?_
            refine LW.v rfl rfl (Val.move rfl) ?_
            refine LW.e rfl rfl (Eff.ofVal (Val.slice 0 t cap2 rfl Try.underlying22 Try.sizeOf36 rfl ⟨_, rfl⟩ rfl (fun _ => rfl) (by omega) (by omega) (by omega))) ?_
            intro _ _
            refine LW.re 42 (.slice (some ⟨g, 0, none⟩) t cap2) rfl (by simp) ?_
            refine LW.e rfl rfl (Eff.appendAny ((k.2.2.take t).flatMap Sto.cells) (sz := 14) (bytes := 192) (z := .agg #[.int .i64 0, .int .i64 0, .string ⟨#[]⟩, .string ⟨#[]⟩, .string ⟨#[]⟩, .slice none 0 0, .int .i64 0, .bool false, .string ⟨#[]⟩, .slice none 0 0, .slice none 0 0, .int .u64 0, .int .i64 0, .int .i64 0]) (xs := []) (m0 := 0) (o := none) (m := t) (pk := []) rfl rfl Try.underlying22 (by kernel_rfl) rfl (by omega) .nil rfl ⟨rfl, rfl⟩ (by rw [V.flatMap_len sto_len, List.length_take]; congr 1; omega) (fun hm0 => ⟨g, 0, rfl, fun w hw => V.range_of_block (o := 0) (cs := (k.2.2.take t).flatMap Sto.cells) (r := (k.2.2.drop t).flatMap Sto.cells ++ rest) (hw.own _ (show InS (g, .cells (k.2.2.flatMap Sto.cells ++ rest).toArray 36 (0, 0)) _ from (by repeat (first | exact .here | refine .there ?_))).mem) (by rw [List.drop_zero, ← List.append_assoc, ← List.flatMap_append, List.take_append_drop])⟩) (all_one sto_one _) (by omega) (by omega)) ?_
            intro o2 ho2
            refine LW.v rfl rfl (Val.assign rfl) ?_
            refine LW.nil ?_
            refine PQ.seq ?_
            refine CW.seq ?_
            refine CW.region ?_
            refine LW.v rfl rfl (Val.move rfl) ?_
            refine LW.v rfl rfl (Val.move rfl) ?_
            refine LW.v rfl rfl (Val.move rfl) ?_
            first | (refine LW.v rfl rfl (Val.indexAddrN rfl rfl Try.underlying22 Try.sizeOf36 (by omega)) ?_) | (refine LW.v rfl rfl (Val.indexAddr rfl rfl Try.underlying22 Try.sizeOf36 (by omega) (by omega)) ?_)
            refine LW.v rfl rfl (Val.loadOA rfl Try.isAgg36 hb (by simp [ids]) (hr _ _ hsx) Try.sizeOf36) ?_
            refine LW.e rfl rfl (Eff.buildSlice (rfl) [_, _, _, _, _, _, _, _, _, _, _, _, _, _] Try.underlying22 Try.sizeOf36 (by exact Try.zeroValue36) rfl rfl rfl rfl (by rfl)) ?_
            intro b49 _
            refine LW.e rfl rfl (Eff.appendAny (s.cells) (sz := 14) (bytes := 192) (z := .agg #[.int .i64 0, .int .i64 0, .string ⟨#[]⟩, .string ⟨#[]⟩, .string ⟨#[]⟩, .slice none 0 0, .int .i64 0, .bool false, .string ⟨#[]⟩, .slice none 0 0, .slice none 0 0, .int .u64 0, .int .i64 0, .int .i64 0]) (xs := [] ++ (k.2.2.take t).flatMap Sto.cells) (m0 := 0 + t) (o := o2) (m := 1) (pk := [ownG 36 ([] ++ (k.2.2.take t).flatMap Sto.cells) o2]) rfl rfl Try.underlying22 (by kernel_rfl) rfl (by omega) (by repeat (first | exact .nil | apply Pick.cons | exact .here | apply Ext.there)) (by simp) ho2 (by rfl) (fun hm0 => ⟨b49, 0, rfl, fun w hw => V.range_of_block (o := 0) (cs := s.cells) (r := []) (hw.own _ (show InS (b49, .cells (s.cells).toArray 36 (0, 0)) _ from (by repeat (first | exact .here | refine .there ?_))).mem) rfl⟩) (by rfl) (by omega) (by omega)) ?_
            intro o3 ho3
            refine LW.v rfl rfl (Val.assign rfl) ?_
            refine LW.nil ?_
            refine PQ.seq ?_
            refine CW.region ?_
            refine LW.v rfl rfl (Val.move rfl) ?_
            refine LW.v rfl rfl (Val.move rfl) ?_
            refine LW.v rfl rfl (Val.move rfl) ?_
            refine LW.e rfl rfl (Eff.ofVal (Val.slice t k.2.2.length cap2 rfl Try.underlying22 Try.sizeOf36 ⟨_, rfl⟩ rfl rfl (fun _ => rfl) (by omega) (by omega) (by omega))) ?_
            intro _ _
            refine LW.e rfl rfl (Eff.appendAny ((k.2.2.drop t).flatMap Sto.cells) (sz := 14) (bytes := 192) (z := .agg #[.int .i64 0, .int .i64 0, .string ⟨#[]⟩, .string ⟨#[]⟩, .string ⟨#[]⟩, .slice none 0 0, .int .i64 0, .bool false, .string ⟨#[]⟩, .slice none 0 0, .slice none 0 0, .int .u64 0, .int .i64 0, .int .i64 0]) (xs := ([] ++ (k.2.2.take t).flatMap Sto.cells ++ s.cells)) (m0 := 0 + t + 1) (o := o3) (m := k.2.2.length - t) (pk := [ownG 36 ([] ++ (k.2.2.take t).flatMap Sto.cells ++ s.cells) o3]) rfl rfl Try.underlying22 (by kernel_rfl) rfl (by omega) (by repeat (first | exact .nil | apply Pick.cons | exact .here | apply Ext.there)) (by simp) ho3 (by rw [V.flatMap_len sto_len, List.length_drop]) (fun hm0 => ⟨g, t * 14, by rw [if_neg (by omega), Nat.zero_add], fun w hw => V.range_of_block (o := t * 14) (cs := (k.2.2.drop t).flatMap Sto.cells) (r := rest) (hw.own _ (show InS (g, .cells (k.2.2.flatMap Sto.cells ++ rest).toArray 36 (0, 0)) _ from (by repeat (first | exact .here | refine .there ?_))).mem) (drop_flat sto_len _ t (by omega) rest)⟩) (all_one sto_one _) (by omega) (by omega)) ?_
            intro o4 ho4
            refine LW.v rfl rfl (Val.assign rfl) ?_
            refine LW.nil ?_
            refine PQ.in_normal ?_
            refine PQ.seq ?_
            refine CW.region ?_
            refine LW.v rfl rfl (Val.move rfl) ?_
            refine LW.v rfl rfl (Val.ar rfl rfl rfl (IntWalk.i64_in _ (by omega))) ?_
            refine LW.v rfl rfl (Val.assign rfl) ?_
            refine LW.nil ?_
            have hup : Up Sto.en (k.2.2.take t ++ s :: k.2.2.drop t) := ins_up hk4 t s (fun y hy => by have := ht2 y hy; omega) (fun y hy => by
              obtain ⟨j, hj1, hj2⟩ := mem_take hy
              have := hk4.get hj2 hu (by omega)
              omega)
            have hlN : (k.2.2.take t ++ s :: k.2.2.drop t).length = k.2.2.length + 1 := by simp; omega
            have hfN : ([] ++ (k.2.2.take t).flatMap Sto.cells ++ s.cells) ++ (k.2.2.drop t).flatMap Sto.cells = (k.2.2.take t ++ s :: k.2.2.drop t).flatMap Sto.cells := by simp
            have hoN : ownOk 14 (k.2.2.take t ++ s :: k.2.2.drop t).length ((k.2.2.take t ++ s :: k.2.2.drop t).flatMap Sto.cells) o4 := by
              have e := ho4
              rw [hfN, show 0 + t + 1 + (k.2.2.length - t) = (k.2.2.take t ++ s :: k.2.2.drop t).length by rw [hlN]; omega] at e
              exact e
            refine PQ.segs (ss := [ownG 36 (([] ++ (k.2.2.take t).flatMap Sto.cells ++ s.cells) ++ (k.2.2.drop t).flatMap Sto.cells) o4]) ?_ (by repeat (first | exact .nil | apply Pick.cons | exact .here | apply Ext.there))
            rw [hfN]
            refine PQ.round ((k.1 + 1, o4, (k.2.2.take t ++ s :: k.2.2.drop t))) ⟨by simp only; omega, hoN, by simp only; rw [hF]; exact (hk3.app (Sta.refl [s])).trans (ins_sta _ t s ht2), hup, by simp only; rw [hlN]; omega⟩ (by simp only; omega) (by exact ⟨rfl, congrArg (fun z => some (ownV z o4)) (show 0 + t + 1 + (k.2.2.length - t) = (k.2.2.take t ++ s :: k.2.2.drop t).length by rw [hlN]; omega), rfl, trivial⟩) (by repeat (first | exact .nil | apply Pick.cons | exact .here | apply Ext.there))
        · replace h23 := bF h23
          refine QW.p rfl rfl ?_
          refine QW.p rfl rfl ?_
          refine QW.p rfl rfl ?_
          refine QW.p rfl rfl ?_
          refine QW.p rfl rfl ?_
          refine QW.p rfl rfl ?_
          refine QW.p rfl rfl ?_
          refine QW.p rfl rfl ?_
          refine QW.p rfl rfl ?_
          refine QW.p rfl rfl ?_
          refine QW.p rfl rfl ?_
          refine QW.p rfl rfl ?_
          refine QW.v rfl rfl (Val.pick_f rfl rfl) ?_
          refine QW.nil ?_
          refine PQ.seq ?_
          refine CW.cond_f rfl ?_
          refine CW.exit ?_
          refine PQ.then_exit ?_
          refine PQ.then_exit ?_
          refine PQ.in_here ?_
          refine PQ.seq ?_
          refine CW.seq ?_
          refine CW.region ?_
          refine LW.v rfl rfl (Val.assign rfl) ?_
          refine LW.nil ?_
          refine PQ.seq ?_
          refine CW.seq ?_
          refine CW.region ?_
          refine LW.v rfl rfl (Val.move rfl) ?_
          refine LW.v rfl rfl (Val.move rfl) ?_
          refine LW.v rfl rfl (Val.move rfl) ?_
          refine LW.e rfl rfl (Eff.ofVal (Val.slice 0 t cap2 rfl Try.underlying22 Try.sizeOf36 rfl ⟨_, rfl⟩ rfl (fun _ => rfl) (by omega) (by omega) (by omega))) ?_
          intro _ _
          refine LW.re 42 (.slice (some ⟨g, 0, none⟩) t cap2) rfl (by simp) ?_
          refine LW.e rfl rfl (Eff.appendAny ((k.2.2.take t).flatMap Sto.cells) (sz := 14) (bytes := 192) (z := .agg #[.int .i64 0, .int .i64 0, .string ⟨#[]⟩, .string ⟨#[]⟩, .string ⟨#[]⟩, .slice none 0 0, .int .i64 0, .bool false, .string ⟨#[]⟩, .slice none 0 0, .slice none 0 0, .int .u64 0, .int .i64 0, .int .i64 0]) (xs := []) (m0 := 0) (o := none) (m := t) (pk := []) rfl rfl Try.underlying22 (by kernel_rfl) rfl (by omega) .nil rfl ⟨rfl, rfl⟩ (by rw [V.flatMap_len sto_len, List.length_take]; congr 1; omega) (fun hm0 => ⟨g, 0, rfl, fun w hw => V.range_of_block (o := 0) (cs := (k.2.2.take t).flatMap Sto.cells) (r := (k.2.2.drop t).flatMap Sto.cells ++ rest) (hw.own _ (show InS (g, .cells (k.2.2.flatMap Sto.cells ++ rest).toArray 36 (0, 0)) _ from (by repeat (first | exact .here | refine .there ?_))).mem) (by rw [List.drop_zero, ← List.append_assoc, ← List.flatMap_append, List.take_append_drop])⟩) (all_one sto_one _) (by omega) (by omega)) ?_
          intro o2 ho2
          refine LW.v rfl rfl (Val.assign rfl) ?_
          refine LW.nil ?_
          refine PQ.seq ?_
          refine CW.seq ?_
          refine CW.region ?_
          refine LW.v rfl rfl (Val.move rfl) ?_
          refine LW.v rfl rfl (Val.move rfl) ?_
          refine LW.v rfl rfl (Val.move rfl) ?_
          first | (refine LW.v rfl rfl (Val.indexAddrN rfl rfl Try.underlying22 Try.sizeOf36 (by omega)) ?_) | (refine LW.v rfl rfl (Val.indexAddr rfl rfl Try.underlying22 Try.sizeOf36 (by omega) (by omega)) ?_)
          refine LW.v rfl rfl (Val.loadOA rfl Try.isAgg36 hb (by simp [ids]) (hr _ _ hsx) Try.sizeOf36) ?_
          refine LW.e rfl rfl (Eff.buildSlice (rfl) [_, _, _, _, _, _, _, _, _, _, _, _, _, _] Try.underlying22 Try.sizeOf36 (by exact Try.zeroValue36) rfl rfl rfl rfl (by rfl)) ?_
          intro b49 _
          refine LW.e rfl rfl (Eff.appendAny (s.cells) (sz := 14) (bytes := 192) (z := .agg #[.int .i64 0, .int .i64 0, .string ⟨#[]⟩, .string ⟨#[]⟩, .string ⟨#[]⟩, .slice none 0 0, .int .i64 0, .bool false, .string ⟨#[]⟩, .slice none 0 0, .slice none 0 0, .int .u64 0, .int .i64 0, .int .i64 0]) (xs := [] ++ (k.2.2.take t).flatMap Sto.cells) (m0 := 0 + t) (o := o2) (m := 1) (pk := [ownG 36 ([] ++ (k.2.2.take t).flatMap Sto.cells) o2]) rfl rfl Try.underlying22 (by kernel_rfl) rfl (by omega) (by repeat (first | exact .nil | apply Pick.cons | exact .here | apply Ext.there)) (by simp) ho2 (by rfl) (fun hm0 => ⟨b49, 0, rfl, fun w hw => V.range_of_block (o := 0) (cs := s.cells) (r := []) (hw.own _ (show InS (b49, .cells (s.cells).toArray 36 (0, 0)) _ from (by repeat (first | exact .here | refine .there ?_))).mem) rfl⟩) (by rfl) (by omega) (by omega)) ?_
          intro o3 ho3
          refine LW.v rfl rfl (Val.assign rfl) ?_
          refine LW.nil ?_
          refine PQ.seq ?_
          refine CW.region ?_
          refine LW.v rfl rfl (Val.move rfl) ?_
          refine LW.v rfl rfl (Val.move rfl) ?_
          refine LW.v rfl rfl (Val.move rfl) ?_
          refine LW.e rfl rfl (Eff.ofVal (Val.slice t k.2.2.length cap2 rfl Try.underlying22 Try.sizeOf36 ⟨_, rfl⟩ rfl rfl (fun _ => rfl) (by omega) (by omega) (by omega))) ?_
          intro _ _
          refine LW.e rfl rfl (Eff.appendAny ((k.2.2.drop t).flatMap Sto.cells) (sz := 14) (bytes := 192) (z := .agg #[.int .i64 0, .int .i64 0, .string ⟨#[]⟩, .string ⟨#[]⟩, .string ⟨#[]⟩, .slice none 0 0, .int .i64 0, .bool false, .string ⟨#[]⟩, .slice none 0 0, .slice none 0 0, .int .u64 0, .int .i64 0, .int .i64 0]) (xs := ([] ++ (k.2.2.take t).flatMap Sto.cells ++ s.cells)) (m0 := 0 + t + 1) (o := o3) (m := k.2.2.length - t) (pk := [ownG 36 ([] ++ (k.2.2.take t).flatMap Sto.cells ++ s.cells) o3]) rfl rfl Try.underlying22 (by kernel_rfl) rfl (by omega) (by repeat (first | exact .nil | apply Pick.cons | exact .here | apply Ext.there)) (by simp) ho3 (by rw [V.flatMap_len sto_len, List.length_drop]) (fun hm0 => ⟨g, t * 14, by rw [if_neg (by omega), Nat.zero_add], fun w hw => V.range_of_block (o := t * 14) (cs := (k.2.2.drop t).flatMap Sto.cells) (r := rest) (hw.own _ (show InS (g, .cells (k.2.2.flatMap Sto.cells ++ rest).toArray 36 (0, 0)) _ from (by repeat (first | exact .here | refine .there ?_))).mem) (drop_flat sto_len _ t (by omega) rest)⟩) (all_one sto_one _) (by omega) (by omega)) ?_
          intro o4 ho4
          refine LW.v rfl rfl (Val.assign rfl) ?_
          refine LW.nil ?_
          refine PQ.in_normal ?_
          refine PQ.seq ?_
          refine CW.region ?_
          refine LW.v rfl rfl (Val.move rfl) ?_
          refine LW.v rfl rfl (Val.ar rfl rfl rfl (IntWalk.i64_in _ (by omega))) ?_
          refine LW.v rfl rfl (Val.assign rfl) ?_
          refine LW.nil ?_
          have ht0 : t = 0 := by omega
          have hup : Up Sto.en (k.2.2.take t ++ s :: k.2.2.drop t) := ins_up hk4 t s (fun y hy => by have := ht2 y hy; omega) (fun y hy => by rw [ht0] at hy; simp at hy)
          have hlN : (k.2.2.take t ++ s :: k.2.2.drop t).length = k.2.2.length + 1 := by simp; omega
          have hfN : ([] ++ (k.2.2.take t).flatMap Sto.cells ++ s.cells) ++ (k.2.2.drop t).flatMap Sto.cells = (k.2.2.take t ++ s :: k.2.2.drop t).flatMap Sto.cells := by simp
          have hoN : ownOk 14 (k.2.2.take t ++ s :: k.2.2.drop t).length ((k.2.2.take t ++ s :: k.2.2.drop t).flatMap Sto.cells) o4 := by
            have e := ho4
            rw [hfN, show 0 + t + 1 + (k.2.2.length - t) = (k.2.2.take t ++ s :: k.2.2.drop t).length by rw [hlN]; omega] at e
            exact e
          refine PQ.segs (ss := [ownG 36 (([] ++ (k.2.2.take t).flatMap Sto.cells ++ s.cells) ++ (k.2.2.drop t).flatMap Sto.cells) o4]) ?_ (by repeat (first | exact .nil | apply Pick.cons | exact .here | apply Ext.there))
          rw [hfN]
          refine PQ.round ((k.1 + 1, o4, (k.2.2.take t ++ s :: k.2.2.drop t))) ⟨by simp only; omega, hoN, by simp only; rw [hF]; exact (hk3.app (Sta.refl [s])).trans (ins_sta _ t s ht2), hup, by simp only; rw [hlN]; omega⟩ (by simp only; omega) (by exact ⟨rfl, congrArg (fun z => some (ownV z o4)) (show 0 + t + 1 + (k.2.2.length - t) = (k.2.2.take t ++ s :: k.2.2.drop t).length by rw [hlN]; omega), rfl, trivial⟩) (by repeat (first | exact .nil | apply Pick.cons | exact .here | apply Ext.there))
  · replace h10 := bF h10
    refine CW.exit ?_
    refine PQ.then_exit ?_
    refine PQ.then_exit ?_
    refine PQ.in_here ?_
    refine PQ.seq ?_
    refine CW.seq ?_
    refine CW.region ?_
    refine LW.v rfl rfl (Val.move rfl) ?_
    refine LW.v rfl rfl (Val.assign rfl) ?_
    refine LW.nil ?_
    refine PQ.seq ?_
    refine CW.ret ?_
    refine PQ.ret1 rfl rfl ?_
    intro w' hw
    have h9 : l.take k.1 = l := List.take_of_length_le (by omega)
    rw [h9] at hk3
    exact ⟨(k.2.1, k.2.2), ⟨hk2, by simp only; omega, hk3, hk4⟩, rfl, hw⟩
end Go.Proofs.Ytaihimbjdgmjgaa
