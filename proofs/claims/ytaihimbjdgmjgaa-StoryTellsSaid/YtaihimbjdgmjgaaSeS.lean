/- The stable sort of stories: insertion sort, swaps of ranges, rotation. -/
import Derived.Test.YtaihimbjdgmjgaaSeA
import Derived.Lib.Hide
namespace Go.Proofs.Ytaihimbjdgmjgaa
open Go Go.RowKit V
set_option linter.unusedVariables false
set_option maxRecDepth 100000
theorem sto_one (s : Sto) : s.cells.all (·.oneCell') = true := rfl
def cmpE (a b : Int) : Int := if a < b then -1 else if b < a then 1 else 0
theorem cmpE_lt {a b : Int} : cmpE a b < 0 ↔ a < b := by unfold cmpE; (repeat' split) <;> omega
theorem cmpE_ge {a b : Int} : 0 ≤ cmpE a b ↔ b ≤ a := by have := @cmpE_lt a b; omega
theorem byEnd_c (a b : Sto) (w : World) : Calls Try.prog 44 [.agg a.cells.toArray, .agg b.cells.toArray].toArray w fun e w' => e = .returned (.int .i64 (cmpE a.en b.en)) ∧ Below w.heap.size w w' := by
  refine V.calls [] Try.func44 rfl Try.ntmps44 (Nat.le_of_ble_eq_true rfl) (V.sat_nil _) ?_
  refine CW.seq ?_
  refine CW.region ?_
  refine LW.e rfl rfl (Eff.boxA rfl) ?_
  intro b2 _
  refine LW.e rfl rfl (Eff.boxA rfl) ?_
  intro b3 _
  refine LW.v rfl rfl (Val.assign rfl) ?_
  refine LW.nil ?_
  refine PQ.seq ?_
  refine CW.seq ?_
  refine CW.seq ?_
  refine CW.region ?_
  refine LW.v rfl rfl (Val.fieldAddr 13 rfl Try.underlying36 rfl rfl Try.sizeOf3) ?_
  refine LW.v rfl rfl (Val.load rfl Try.isAgg3 (by repeat (first | exact .here | refine .there ?_)) (by rfl)) ?_
  refine LW.v rfl rfl (Val.fieldAddr 13 rfl Try.underlying36 rfl rfl Try.sizeOf3) ?_
  refine LW.v rfl rfl (Val.load rfl Try.isAgg3 (by repeat (first | exact .here | refine .there ?_)) (by rfl)) ?_
  refine LW.v rfl rfl (Val.cmp rfl rfl rfl) ?_
  refine LW.nil ?_
  refine PQ.seq ?_
  refine CW.cond rfl (fun h9 => ?_) (fun h9 => ?_)
  · replace h9 := bT h9
    refine CW.seq ?_
    refine CW.region ?_
    refine LW.v rfl rfl (Val.assign rfl) ?_
    refine LW.nil ?_
    refine PQ.seq ?_
    refine CW.ret ?_
    refine PQ.then_ret ?_
    refine PQ.ret1 rfl rfl ?_
    intro w' hw; exact ⟨by rw [show cmpE a.en b.en = -1 from if_pos h9], hw.below⟩
  · replace h9 := bF h9
    refine CW.skip ?_
    refine PQ.seq ?_
    refine CW.seq ?_
    refine CW.seq ?_
    refine CW.region ?_
    refine LW.v rfl rfl (Val.fieldAddr 13 rfl Try.underlying36 rfl rfl Try.sizeOf3) ?_
    refine LW.v rfl rfl (Val.load rfl Try.isAgg3 (by repeat (first | exact .here | refine .there ?_)) (by rfl)) ?_
    refine LW.v rfl rfl (Val.fieldAddr 13 rfl Try.underlying36 rfl rfl Try.sizeOf3) ?_
    refine LW.v rfl rfl (Val.load rfl Try.isAgg3 (by repeat (first | exact .here | refine .there ?_)) (by rfl)) ?_
    refine LW.v rfl rfl (Val.cmp rfl rfl rfl) ?_
    refine LW.nil ?_
    refine PQ.seq ?_
    refine CW.cond rfl (fun h14 => ?_) (fun h14 => ?_)
    · replace h14 := bT h14
      refine CW.seq ?_
      refine CW.region ?_
      refine LW.v rfl rfl (Val.assign rfl) ?_
      refine LW.nil ?_
      refine PQ.seq ?_
      refine CW.ret ?_
      refine PQ.then_ret ?_
      refine PQ.ret1 rfl rfl ?_
      intro w' hw; exact ⟨by rw [show cmpE a.en b.en = 1 from (if_neg (by omega)).trans (if_pos (by omega))], hw.below⟩
    · replace h14 := bF h14
      refine CW.skip ?_
      refine PQ.seq ?_
      refine CW.seq ?_
      refine CW.region ?_
      refine LW.v rfl rfl (Val.assign rfl) ?_
      refine LW.nil ?_
      refine PQ.seq ?_
      refine CW.ret ?_
      refine PQ.ret1 rfl rfl ?_
      intro w' hw; exact ⟨by rw [show cmpE a.en b.en = 0 from (if_neg (by omega)).trans (if_neg (by omega))], hw.below⟩
theorem ins_c (g cap n a b : Nat) (rest : List Value) (X M Y : List Sto) (hn : (X ++ (M ++ Y)).length = n) (ha : X.length = a) (hb : a + M.length = b) (hm : n ≤ 100000) (w : World) (hs : Sat [[(g, .cells ((X ++ (M ++ Y)).flatMap Sto.cells ++ rest).toArray 36 (0, 0))]] w) : Calls Try.prog 78 [.slice (some ⟨g, 0, none⟩) n cap, .int .i64 (a : Nat), .int .i64 (b : Nat), .func (.func 44) #[] #[]].toArray w fun e w' => ∃ M' : List Sto, (Sta Sto.en M M' ∧ Up Sto.en M') ∧ e = .returned (.tuple #[]) ∧ Hp ⟨w, [g]⟩ [[(g, .cells ((X ++ (M' ++ Y)).flatMap Sto.cells ++ rest).toArray 36 (0, 0))]] w' := by
  have hlen : X.length + (M.length + Y.length) = n := by simpa using hn
  refine V.calls [[(g, .cells ((X ++ (M ++ Y)).flatMap Sto.cells ++ rest).toArray 36 (0, 0))]] Try.func78 rfl Try.ntmps78 (Nat.le_of_ble_eq_true rfl) hs ?_
  refine CW.seq ?_
  refine CW.region ?_
  refine LW.v rfl rfl (Val.move rfl) ?_
  refine LW.v rfl rfl (Val.ar rfl rfl rfl (IntWalk.i64_in _ (by omega))) ?_
  refine LW.v rfl rfl (Val.assign rfl) ?_
  refine LW.nil ?_
  refine PQ.seq ?_
  refine CW.block ?_
  rw [show X ++ (M ++ Y) = X ++ ((M.take 1 ++ M.drop 1) ++ Y) from by rw [List.take_append_drop]]
  refine CW.loop (γ := Nat × List Sto) (fun k => [(0, .slice (some ⟨g, 0, none⟩) n cap), (1, .int .i64 (a : Nat)), (2, .int .i64 (b : Nat)), (3, .func (.func 44) #[] #[]), (8, .int .i64 ((a + k.1 : Nat) : Int))]) (fun k => [[(g, .cells ((X ++ ((k.2 ++ M.drop k.1) ++ Y)).flatMap Sto.cells ++ rest).toArray 36 (0, 0))]]) (fun k => Sta Sto.en (M.take k.1) k.2 ∧ Up Sto.en k.2 ∧ (1 ≤ k.1 ∧ (k.1 ≤ M.length ∨ k.1 = 1))) (fun k => n + 1 - k.1) ((1, M.take 1)) ⟨Sta.refl _, by cases M <;> simp [Up], Nat.le_refl _, .inr rfl⟩ (by repeat (first | exact trivial | refine ⟨rfl, ?_⟩)) (by repeat (first | exact .nil | apply Pick.cons | exact .here | apply Ext.there)) ?_
  intro k
  rintro ⟨hS1, hM1, hk1, hk2⟩
  refine CW.seq ?_
  refine CW.seq ?_
  refine CW.region ?_
  refine LW.v rfl rfl (Val.move rfl) ?_
  refine LW.v rfl rfl (Val.move rfl) ?_
  refine LW.v rfl rfl (Val.cmp rfl rfl rfl) ?_
  refine LW.nil ?_
  refine PQ.seq ?_
  refine CW.cond rfl (fun h14 => ?_) (fun h14 => ?_)
  · replace h14 := bT h14
    refine CW.skip ?_
    refine PQ.seq ?_
    refine CW.seq ?_
    refine CW.block ?_
    refine CW.seq ?_
    refine CW.region ?_
    refine LW.v rfl rfl (Val.move rfl) ?_
    refine LW.v rfl rfl (Val.assign rfl) ?_
    refine LW.nil ?_
    refine PQ.seq ?_
    refine CW.block ?_
    have hkM : k.1 < M.length := by omega
    obtain ⟨x, hx⟩ : ∃ x, M[k.1]? = some x := ⟨M[k.1], by simp⟩
    have hl1 : k.2.length = k.1 := by rw [hS1.1, List.length_take]; omega
    rw [show X ++ ((k.2 ++ M.drop k.1) ++ Y) = X ++ ((k.2.take (k.1) ++ x :: k.2.drop (k.1)) ++ (M.drop (k.1 + 1) ++ Y)) from by rw [(List.take_of_length_le (by omega) : k.2.take k.1 = k.2), (List.drop_eq_nil_iff.2 (by omega) : k.2.drop k.1 = []), drop_cons hx]; simp]
    refine CW.loop (γ := Nat) (fun t => [(0, .slice (some ⟨g, 0, none⟩) n cap), (1, .int .i64 (a : Nat)), (2, .int .i64 (b : Nat)), (3, .func (.func 44) #[] #[]), (8, .int .i64 ((a + k.1 : Nat) : Int)), (9, .int .i64 ((a + t : Nat) : Int))]) (fun t => [[(g, .cells ((X ++ ((k.2.take (t) ++ x :: k.2.drop (t)) ++ (M.drop (k.1 + 1) ++ Y))).flatMap Sto.cells ++ rest).toArray 36 (0, 0))]]) (fun t => t ≤ k.1 ∧ ∀ y ∈ k.2.drop t, x.en < y.en) (fun t => t) (k.1) ⟨Nat.le_refl _, fun y hy => by rw [List.drop_eq_nil_iff.2 (by omega)] at hy; cases hy⟩ (by repeat (first | exact trivial | refine ⟨rfl, ?_⟩)) (by repeat (first | exact .nil | apply Pick.cons | exact .here | apply Ext.there)) ?_
    intro t
    rintro ⟨ht1, ht2⟩
    refine CW.seq ?_
    refine CW.seq ?_
    refine CW.quiet mixed (by kernel_rfl) ?_
    refine QW.v rfl rfl (Val.move rfl) ?_
    refine QW.v rfl rfl (Val.move rfl) ?_
    refine QW.v rfl rfl (Val.cmp rfl rfl rfl) ?_
    refine QW.v rfl rfl (Val.move rfl) ?_
    refine QW.split (d := 21) rfl (fun h21 => ?_) (fun h21 => ?_)
    · replace h21 := bT h21
      obtain ⟨u, hu⟩ : ∃ u, k.2[t - 1]? = some u := ⟨k.2[t - 1]'(by omega), by simp⟩
      have hc : X ++ ((k.2.take (t) ++ x :: k.2.drop (t)) ++ (M.drop (k.1 + 1) ++ Y)) = (X ++ k.2.take (t - 1)) ++ u :: ([] ++ x :: (k.2.drop t ++ (M.drop (k.1 + 1) ++ Y))) := by
        have e := take_snoc hu
        rw [show t - 1 + 1 = t by omega] at e
        rw [e]; simp
      have h1 : (X ++ ((k.2.take (t) ++ x :: k.2.drop (t)) ++ (M.drop (k.1 + 1) ++ Y)))[a + t]? = some x := by
        rw [hc, show (X ++ k.2.take (t - 1)) ++ u :: ([] ++ x :: (k.2.drop t ++ (M.drop (k.1 + 1) ++ Y))) = (X ++ k.2.take (t - 1) ++ [u]) ++ x :: (k.2.drop t ++ (M.drop (k.1 + 1) ++ Y)) from by simp]
        exact at_app _ _ _ _ (by simp; omega)
      have h2 : (X ++ ((k.2.take (t) ++ x :: k.2.drop (t)) ++ (M.drop (k.1 + 1) ++ Y)))[a + t - 1]? = some u := by rw [hc]; exact at_app _ _ _ _ (by simp; omega)
      have hsw : ((X ++ ((k.2.take (t) ++ x :: k.2.drop (t)) ++ (M.drop (k.1 + 1) ++ Y))).set (a + t) u).set (a + t - 1) x = X ++ ((k.2.take (t - 1) ++ x :: k.2.drop (t - 1)) ++ (M.drop (k.1 + 1) ++ Y)) := by
        rw [hc, swp' _ _ _ _ _ _ _ (by simp; omega) (by simp; omega)]
        have e := drop_cons hu
        rw [show t - 1 + 1 = t by omega] at e
        rw [e]; simp
      have hll : (X ++ ((k.2.take (t) ++ x :: k.2.drop (t)) ++ (M.drop (k.1 + 1) ++ Y))).length = n := by simp; omega
      refine QW.v rfl rfl (Val.move rfl) ?_
      refine QW.v rfl rfl (Val.move rfl) ?_
      refine QW.v rfl rfl (Val.move rfl) ?_
      first | (refine QW.v rfl rfl (Val.indexAddrN rfl rfl Try.underlying22 Try.sizeOf36 (by omega)) ?_) | (refine QW.v rfl rfl (Val.indexAddr rfl rfl Try.underlying22 Try.sizeOf36 (by omega) (by omega)) ?_)
      refine QW.v rfl rfl (Val.loadFl (enc := Sto.cells) rfl Try.isAgg36 (by repeat (first | exact .here | refine .there ?_)) sto_len h1 Try.sizeOf36) ?_
      refine QW.v rfl rfl (Val.move rfl) ?_
      refine QW.v rfl rfl (Val.move rfl) ?_
      refine QW.v rfl rfl (Val.ar rfl rfl rfl (IntWalk.i64_in _ (by omega))) ?_
      refine QW.re 29 (.int .i64 ((a + t - 1 : Nat) : Int)) rfl (by congr 1; omega) ?_
      first | (refine QW.v rfl rfl (Val.indexAddrN rfl rfl Try.underlying22 Try.sizeOf36 (by omega)) ?_) | (refine QW.v rfl rfl (Val.indexAddr rfl rfl Try.underlying22 Try.sizeOf36 (by omega) (by omega)) ?_)
      refine QW.v rfl rfl (Val.loadFl (enc := Sto.cells) rfl Try.isAgg36 (by repeat (first | exact .here | refine .there ?_)) sto_len h2 Try.sizeOf36) ?_
      refine QW.c rfl rfl (Qcall.ofF (f := 44) (caps := []) rfl rfl Try.call44 (fun w hw => byEnd_c x u w)) ?_
      refine QW.v rfl rfl (Val.cmp rfl rfl rfl) ?_
      refine QW.v rfl rfl (Val.pick_t rfl rfl) ?_
      refine QW.nil ?_
      refine PQ.seq ?_
      refine CW.cond rfl (fun h34 => ?_) (fun h34 => ?_)
      · replace h34 := bT h34
        refine CW.skip ?_
        refine PQ.seq ?_
        refine CW.seq ?_
        refine CW.block ?_
        refine CW.drawn ([]) mixed (by repeat (first | exact .nil | apply Pick.cons | exact .here | apply Ext.there)) ?_
        refine RW.v 0 rfl (by kernel_rfl) (by kernel_rfl) (by kernel_rfl) (fun _ _ _ h => h) rfl rfl (Val.move rfl) ?_
        refine RW.v 1 rfl (by kernel_rfl) (by kernel_rfl) (by kernel_rfl) (fun _ _ _ h => h) rfl rfl (Val.move rfl) ?_
        refine RW.v 2 rfl (by kernel_rfl) (by kernel_rfl) (by kernel_rfl) (fun _ _ _ h => h) rfl rfl (Val.move rfl) ?_
        refine RW.v 3 rfl (by kernel_rfl) (by kernel_rfl) (by kernel_rfl) (fun _ _ _ h => h) rfl rfl (Val.move rfl) ?_
        refine RW.v 4 rfl (by kernel_rfl) (by kernel_rfl) (by kernel_rfl) (fun _ _ _ h => h) rfl rfl (Val.ar rfl rfl rfl (IntWalk.i64_in _ (by omega))) ?_
        refine RW.re 41 (.int .i64 ((a + t - 1 : Nat) : Int)) rfl (by congr 1; omega) ?_
        refine RW.v 5 rfl (by kernel_rfl) (by kernel_rfl) (by kernel_rfl) (fun _ _ _ h => h) rfl rfl (Val.move rfl) ?_
        refine RW.v 6 rfl (by kernel_rfl) (by kernel_rfl) (by kernel_rfl) (fun _ _ _ h => h) rfl rfl (Val.move rfl) ?_
        refine RW.v 7 rfl (by kernel_rfl) (by kernel_rfl) (by kernel_rfl) (fun _ _ _ h => h) rfl rfl (Val.ar rfl rfl rfl (IntWalk.i64_in _ (by omega))) ?_
        refine RW.re 44 (.int .i64 ((a + t - 1 : Nat) : Int)) rfl (by congr 1; omega) ?_
        first | (refine RW.v 8 rfl (by kernel_rfl) (by kernel_rfl) (by kernel_rfl) (fun _ _ _ h => h) rfl rfl (Val.indexAddrN rfl rfl Try.underlying22 Try.sizeOf36 (by omega)) ?_) | (refine RW.v 8 rfl (by kernel_rfl) (by kernel_rfl) (by kernel_rfl) (fun _ _ _ h => h) rfl rfl (Val.indexAddr rfl rfl Try.underlying22 Try.sizeOf36 (by omega) (by omega)) ?_)
        refine RW.v 10 rfl (by kernel_rfl) (by kernel_rfl) (by kernel_rfl) (fun _ _ _ h => h) rfl rfl (Val.move rfl) ?_
        refine RW.v 11 rfl (by kernel_rfl) (by kernel_rfl) (by kernel_rfl) (fun _ _ _ h => h) rfl rfl (Val.move rfl) ?_
        first | (refine RW.v 12 rfl (by kernel_rfl) (by kernel_rfl) (by kernel_rfl) (fun _ _ _ h => h) rfl rfl (Val.indexAddrN rfl rfl Try.underlying22 Try.sizeOf36 (by omega)) ?_) | (refine RW.v 12 rfl (by kernel_rfl) (by kernel_rfl) (by kernel_rfl) (fun _ _ _ h => h) rfl rfl (Val.indexAddr rfl rfl Try.underlying22 Try.sizeOf36 (by omega) (by omega)) ?_)
        refine RW.any [9, 13] (by kernel_rfl) (by simp) ?_
        intro i hi
        simp only [List.mem_cons, List.not_mem_nil, or_false] at hi
        rcases hi with rfl | rfl
        · refine RO.e rfl rfl rfl (Eff.ofVal (Val.loadFl (enc := Sto.cells) rfl Try.isAgg36 (by repeat (first | exact .here | refine .there ?_)) sto_len h2 Try.sizeOf36)) (fun x => ⟨_, (by repeat (first | exact .nil | apply Pick.cons | exact .here | apply Ext.there))⟩) ?_
          intro _ _
          refine RW.e 13 rfl (by kernel_rfl) rfl rfl (Eff.ofVal (Val.loadFl (enc := Sto.cells) rfl Try.isAgg36 (by repeat (first | exact .here | refine .there ?_)) sto_len h1 Try.sizeOf36)) (fun x => ⟨_, (by repeat (first | exact .nil | apply Pick.cons | exact .here | apply Ext.there))⟩) ?_
          intro _ _
          first | (refine RW.v 14 rfl (by kernel_rfl) (by kernel_rfl) (by kernel_rfl) (fun _ _ _ h => h) rfl rfl (Val.indexAddrN rfl rfl Try.underlying22 Try.sizeOf36 (by omega)) ?_) | (refine RW.v 14 rfl (by kernel_rfl) (by kernel_rfl) (by kernel_rfl) (fun _ _ _ h => h) rfl rfl (Val.indexAddr rfl rfl Try.underlying22 Try.sizeOf36 (by omega) (by omega)) ?_)
          refine RW.eN 15 rfl (by kernel_rfl) rfl (Eff.storeFl (enc := Sto.cells) (sz := 14) rfl rfl (by repeat (first | exact .here | apply Upd.there)) sto_len (by first | omega | (simp only [List.length_set]; omega)) Try.sizeOf36 sto_one) (fun x => ⟨_, (by repeat (first | exact .nil | apply Pick.cons | exact .here | apply Ext.there))⟩) ?_
          intro _ _
          first | (refine RW.v 16 rfl (by kernel_rfl) (by kernel_rfl) (by kernel_rfl) (fun _ _ _ h => h) rfl rfl (Val.indexAddrN rfl rfl Try.underlying22 Try.sizeOf36 (by omega)) ?_) | (refine RW.v 16 rfl (by kernel_rfl) (by kernel_rfl) (by kernel_rfl) (fun _ _ _ h => h) rfl rfl (Val.indexAddr rfl rfl Try.underlying22 Try.sizeOf36 (by omega) (by omega)) ?_)
          refine RW.eN 17 rfl (by kernel_rfl) rfl (Eff.storeFl (enc := Sto.cells) (sz := 14) rfl rfl (by repeat (first | exact .here | apply Upd.there)) sto_len (by first | omega | (simp only [List.length_set]; omega)) Try.sizeOf36 sto_one) (fun x => ⟨_, (by repeat (first | exact .nil | apply Pick.cons | exact .here | apply Ext.there))⟩) ?_
          intro _ _
          refine RW.done (by kernel_rfl) ?_
          refine PQ.in_normal ?_
          refine PQ.seq ?_
          refine CW.region ?_
          refine LW.v rfl rfl (Val.move rfl) ?_
          refine LW.v rfl rfl (Val.ar rfl rfl rfl (IntWalk.i64_in _ (by omega))) ?_
          refine LW.re 36 (.int .i64 ((a + (t - 1) : Nat) : Int)) rfl (by congr 1; omega) ?_
          refine LW.v rfl rfl (Val.assign rfl) ?_
          refine LW.nil ?_
          rw [hsw]
          refine PQ.round (t - 1) ⟨by omega, fun y hy => by
            rw [drop_cons hu, show t - 1 + 1 = t by omega] at hy
            rcases List.mem_cons.1 hy with rfl | hy
            · exact cmpE_lt.1 h34
            · exact ht2 y hy⟩ (by omega) (by repeat (first | exact trivial | refine ⟨rfl, ?_⟩)) (by repeat (first | exact .nil | apply Pick.cons | exact .here | apply Ext.there))
        · refine RO.e rfl rfl rfl (Eff.ofVal (Val.loadFl (enc := Sto.cells) rfl Try.isAgg36 (by repeat (first | exact .here | refine .there ?_)) sto_len h1 Try.sizeOf36)) (fun x => ⟨_, (by repeat (first | exact .nil | apply Pick.cons | exact .here | apply Ext.there))⟩) ?_
          intro _ _
          refine RW.e 9 rfl (by kernel_rfl) rfl rfl (Eff.ofVal (Val.loadFl (enc := Sto.cells) rfl Try.isAgg36 (by repeat (first | exact .here | refine .there ?_)) sto_len h2 Try.sizeOf36)) (fun x => ⟨_, (by repeat (first | exact .nil | apply Pick.cons | exact .here | apply Ext.there))⟩) ?_
          intro _ _
          first | (refine RW.v 14 rfl (by kernel_rfl) (by kernel_rfl) (by kernel_rfl) (fun _ _ _ h => h) rfl rfl (Val.indexAddrN rfl rfl Try.underlying22 Try.sizeOf36 (by omega)) ?_) | (refine RW.v 14 rfl (by kernel_rfl) (by kernel_rfl) (by kernel_rfl) (fun _ _ _ h => h) rfl rfl (Val.indexAddr rfl rfl Try.underlying22 Try.sizeOf36 (by omega) (by omega)) ?_)
          refine RW.eN 15 rfl (by kernel_rfl) rfl (Eff.storeFl (enc := Sto.cells) (sz := 14) rfl rfl (by repeat (first | exact .here | apply Upd.there)) sto_len (by first | omega | (simp only [List.length_set]; omega)) Try.sizeOf36 sto_one) (fun x => ⟨_, (by repeat (first | exact .nil | apply Pick.cons | exact .here | apply Ext.there))⟩) ?_
          intro _ _
          first | (refine RW.v 16 rfl (by kernel_rfl) (by kernel_rfl) (by kernel_rfl) (fun _ _ _ h => h) rfl rfl (Val.indexAddrN rfl rfl Try.underlying22 Try.sizeOf36 (by omega)) ?_) | (refine RW.v 16 rfl (by kernel_rfl) (by kernel_rfl) (by kernel_rfl) (fun _ _ _ h => h) rfl rfl (Val.indexAddr rfl rfl Try.underlying22 Try.sizeOf36 (by omega) (by omega)) ?_)
          refine RW.eN 17 rfl (by kernel_rfl) rfl (Eff.storeFl (enc := Sto.cells) (sz := 14) rfl rfl (by repeat (first | exact .here | apply Upd.there)) sto_len (by first | omega | (simp only [List.length_set]; omega)) Try.sizeOf36 sto_one) (fun x => ⟨_, (by repeat (first | exact .nil | apply Pick.cons | exact .here | apply Ext.there))⟩) ?_
          intro _ _
          refine RW.done (by kernel_rfl) ?_
          refine PQ.in_normal ?_
          refine PQ.seq ?_
          refine CW.region ?_
          refine LW.v rfl rfl (Val.move rfl) ?_
          refine LW.v rfl rfl (Val.ar rfl rfl rfl (IntWalk.i64_in _ (by omega))) ?_
          refine LW.re 36 (.int .i64 ((a + (t - 1) : Nat) : Int)) rfl (by congr 1; omega) ?_
          refine LW.v rfl rfl (Val.assign rfl) ?_
          refine LW.nil ?_
          rw [hsw]
          refine PQ.round (t - 1) ⟨by omega, fun y hy => by
            rw [drop_cons hu, show t - 1 + 1 = t by omega] at hy
            rcases List.mem_cons.1 hy with rfl | hy
            · exact cmpE_lt.1 h34
            · exact ht2 y hy⟩ (by omega) (by repeat (first | exact trivial | refine ⟨rfl, ?_⟩)) (by repeat (first | exact .nil | apply Pick.cons | exact .here | apply Ext.there))
      · replace h34 := bF h34
        refine CW.exit ?_
        refine PQ.then_exit ?_
        refine PQ.then_exit ?_
        refine PQ.in_here ?_
        refine PQ.in_normal ?_
        refine PQ.seq ?_
        refine CW.region ?_
        refine LW.v rfl rfl (Val.move rfl) ?_
        refine LW.v rfl rfl (Val.ar rfl rfl rfl (IntWalk.i64_in _ (by omega))) ?_
        refine LW.v rfl rfl (Val.assign rfl) ?_
        refine LW.nil ?_
        have hup : Up Sto.en (k.2.take t ++ x :: k.2.drop t) := ins_up hM1 t x (fun y hy => by have := ht2 y hy; omega) (fun y hy => by
          obtain ⟨j, hj1, hj2⟩ := mem_take hy
          have := hM1.get hj2 hu (by omega)
          have := cmpE_ge.1 h34
          omega)
        rw [show X ++ ((k.2.take (t) ++ x :: k.2.drop (t)) ++ (M.drop (k.1 + 1) ++ Y)) = X ++ (((k.2.take t ++ x :: k.2.drop t) ++ M.drop (k.1 + 1)) ++ Y) from by simp]
        refine PQ.round ((k.1 + 1, k.2.take t ++ x :: k.2.drop t)) ⟨by simp only; rw [take_snoc hx]; exact (hS1.app (Sta.refl [x])).trans (ins_sta k.2 t x ht2), hup, by simp only; omega⟩ (by simp only; omega) (by repeat (first | exact trivial | refine ⟨rfl, ?_⟩)) (by repeat (first | exact .nil | apply Pick.cons | exact .here | apply Ext.there))
    · replace h21 := bF h21
      refine QW.p rfl rfl ?_
      refine QW.p rfl rfl ?_
      refine QW.p rfl rfl ?_
      refine QW.p rfl rfl ?_
      refine QW.p rfl rfl ?_
      refine QW.p rfl rfl ?_
      refine QW.p rfl rfl ?_
      refine QW.p rfl rfl ?_
      refine QW.p rfl rfl ?_
      refine QW.p rfl rfl ?_
      refine QW.p rfl rfl ?_
      refine QW.p rfl rfl ?_
      refine QW.v rfl rfl (Val.pick_f rfl rfl) ?_
      refine QW.nil ?_
      refine PQ.seq ?_
      refine CW.cond_f rfl ?_
      refine CW.exit ?_
      refine PQ.then_exit ?_
      refine PQ.then_exit ?_
      refine PQ.in_here ?_
      refine PQ.in_normal ?_
      refine PQ.seq ?_
      refine CW.region ?_
      refine LW.v rfl rfl (Val.move rfl) ?_
      refine LW.v rfl rfl (Val.ar rfl rfl rfl (IntWalk.i64_in _ (by omega))) ?_
      refine LW.v rfl rfl (Val.assign rfl) ?_
      refine LW.nil ?_
      have hup : Up Sto.en (k.2.take t ++ x :: k.2.drop t) := ins_up hM1 t x (fun y hy => by have := ht2 y hy; omega) (fun y hy => by
        obtain rfl : t = 0 := by omega
        simp at hy)
      rw [show X ++ ((k.2.take (t) ++ x :: k.2.drop (t)) ++ (M.drop (k.1 + 1) ++ Y)) = X ++ (((k.2.take t ++ x :: k.2.drop t) ++ M.drop (k.1 + 1)) ++ Y) from by simp]
      refine PQ.round ((k.1 + 1, k.2.take t ++ x :: k.2.drop t)) ⟨by simp only; rw [take_snoc hx]; exact (hS1.app (Sta.refl [x])).trans (ins_sta k.2 t x ht2), hup, by simp only; omega⟩ (by simp only; omega) (by repeat (first | exact trivial | refine ⟨rfl, ?_⟩)) (by repeat (first | exact .nil | apply Pick.cons | exact .here | apply Ext.there))
  · replace h14 := bF h14
    refine CW.exit ?_
    refine PQ.then_exit ?_
    refine PQ.then_exit ?_
    refine PQ.in_here ?_
    refine PQ.end0 rfl ?_
    intro w' hw
    refine ⟨k.2, ⟨?_, hM1⟩, rfl, ?_⟩
    · have := hS1; rwa [List.take_of_length_le (by omega)] at this
    · rw [show X ++ ((k.2 ++ M.drop k.1) ++ Y) = X ++ (k.2 ++ Y) from by rw [List.drop_eq_nil_iff.2 (by omega)]; simp] at hw
      exact hw
theorem swr_c (g cap n a b m : Nat) (rest : List Value) (X U Z Rr Y L L' : List Sto) (hL : L = X ++ (U ++ (Z ++ (Rr ++ Y)))) (hL' : X ++ (Rr ++ (Z ++ (U ++ Y))) = L') (hn : L.length = n) (ha : X.length = a) (hb : a + U.length + Z.length = b) (hU : U.length = m) (hV : Rr.length = m) (hm : n ≤ 100000) (w : World) (hs : Sat [[(g, .cells ((L).flatMap Sto.cells ++ rest).toArray 36 (0, 0))]] w) : Calls Try.prog 109 [.slice (some ⟨g, 0, none⟩) n cap, .int .i64 (a : Nat), .int .i64 (b : Nat), .int .i64 (m : Nat), .func (.func 44) #[] #[]].toArray w fun e w' => ∃ _u : Unit, True ∧ e = .returned (.tuple #[]) ∧ Hp ⟨w, [g]⟩ [[(g, .cells ((L').flatMap Sto.cells ++ rest).toArray 36 (0, 0))]] w' := by
  subst hL
  have hlen : X.length + (U.length + (Z.length + (Rr.length + Y.length))) = n := by simpa using hn
  refine V.calls [[(g, .cells ((X ++ (U ++ (Z ++ (Rr ++ Y)))).flatMap Sto.cells ++ rest).toArray 36 (0, 0))]] Try.func109 rfl Try.ntmps109 (Nat.le_of_ble_eq_true rfl) hs ?_
  refine CW.seq ?_
  refine CW.region ?_
  refine LW.v rfl rfl (Val.assign rfl) ?_
  refine LW.nil ?_
  refine PQ.seq ?_
  refine CW.block ?_
  rw [show X ++ (U ++ (Z ++ (Rr ++ Y))) = X ++ ((Rr.take (0) ++ U.drop (0)) ++ (Z ++ ((U.take (0) ++ Rr.drop (0)) ++ Y))) from by simp]
  refine CW.loop (γ := Nat) (fun t => [(0, .slice (some ⟨g, 0, none⟩) n cap), (1, .int .i64 (a : Nat)), (2, .int .i64 (b : Nat)), (3, .int .i64 (m : Nat)), (10, .int .i64 (t : Nat))]) (fun t => [[(g, .cells ((X ++ ((Rr.take (t) ++ U.drop (t)) ++ (Z ++ ((U.take (t) ++ Rr.drop (t)) ++ Y)))).flatMap Sto.cells ++ rest).toArray 36 (0, 0))]]) (fun t => t ≤ m) (fun t => m - t) (0) (Nat.zero_le _) (by repeat (first | exact trivial | refine ⟨rfl, ?_⟩)) (by repeat (first | exact .nil | apply Pick.cons | exact .here | apply Ext.there)) ?_
  intro t
  intro ht
  refine CW.seq ?_
  refine CW.seq ?_
  refine CW.region ?_
  refine LW.v rfl rfl (Val.move rfl) ?_
  refine LW.v rfl rfl (Val.move rfl) ?_
  refine LW.v rfl rfl (Val.cmp rfl rfl rfl) ?_
  refine LW.nil ?_
  refine PQ.seq ?_
  refine CW.cond rfl (fun h13 => ?_) (fun h13 => ?_)
  · replace h13 := bT h13
    obtain ⟨u, hu⟩ : ∃ u, U[t]? = some u := ⟨U[t]'(by omega), by simp⟩
    obtain ⟨v, hv⟩ : ∃ v, Rr[t]? = some v := ⟨Rr[t]'(by omega), by simp⟩
    have hc : X ++ ((Rr.take (t) ++ U.drop (t)) ++ (Z ++ ((U.take (t) ++ Rr.drop (t)) ++ Y))) = (X ++ Rr.take t) ++ u :: ((U.drop (t + 1) ++ (Z ++ U.take t)) ++ v :: (Rr.drop (t + 1) ++ Y)) := by rw [drop_cons hu, drop_cons hv]; simp
    have h1 : (X ++ ((Rr.take (t) ++ U.drop (t)) ++ (Z ++ ((U.take (t) ++ Rr.drop (t)) ++ Y))))[a + t]? = some u := by rw [hc]; exact at_app _ _ _ _ (by simp; omega)
    have h2 : (X ++ ((Rr.take (t) ++ U.drop (t)) ++ (Z ++ ((U.take (t) ++ Rr.drop (t)) ++ Y))))[b + t]? = some v := by
      rw [hc, show (X ++ Rr.take t) ++ u :: ((U.drop (t + 1) ++ (Z ++ U.take t)) ++ v :: (Rr.drop (t + 1) ++ Y)) = (X ++ Rr.take t ++ u :: (U.drop (t + 1) ++ (Z ++ U.take t))) ++ v :: (Rr.drop (t + 1) ++ Y) from by simp]
      exact at_app _ _ _ _ (by simp; omega)
    have hsw : ((X ++ ((Rr.take (t) ++ U.drop (t)) ++ (Z ++ ((U.take (t) ++ Rr.drop (t)) ++ Y)))).set (a + t) v).set (b + t) u = X ++ ((Rr.take (t + 1) ++ U.drop (t + 1)) ++ (Z ++ ((U.take (t + 1) ++ Rr.drop (t + 1)) ++ Y))) := by
      rw [hc, swp _ _ _ _ _ _ _ (by simp; omega) (by simp; omega), take_snoc hu, take_snoc hv]; simp
    have hll : (X ++ ((Rr.take (t) ++ U.drop (t)) ++ (Z ++ ((U.take (t) ++ Rr.drop (t)) ++ Y)))).length = n := by simp; omega
    refine CW.skip ?_
    refine PQ.seq ?_
    refine CW.seq ?_
    refine CW.block ?_
    refine CW.drawn ([]) mixed (by repeat (first | exact .nil | apply Pick.cons | exact .here | apply Ext.there)) ?_
    refine RW.v 0 rfl (by kernel_rfl) (by kernel_rfl) (by kernel_rfl) (fun _ _ _ h => h) rfl rfl (Val.move rfl) ?_
    refine RW.v 1 rfl (by kernel_rfl) (by kernel_rfl) (by kernel_rfl) (fun _ _ _ h => h) rfl rfl (Val.move rfl) ?_
    refine RW.v 2 rfl (by kernel_rfl) (by kernel_rfl) (by kernel_rfl) (fun _ _ _ h => h) rfl rfl (Val.move rfl) ?_
    refine RW.v 3 rfl (by kernel_rfl) (by kernel_rfl) (by kernel_rfl) (fun _ _ _ h => h) rfl rfl (Val.ar rfl rfl rfl (IntWalk.i64_in _ (by omega))) ?_
    refine RW.re 19 (.int .i64 ((a + t : Nat) : Int)) rfl (by congr 1) ?_
    refine RW.v 4 rfl (by kernel_rfl) (by kernel_rfl) (by kernel_rfl) (fun _ _ _ h => h) rfl rfl (Val.move rfl) ?_
    refine RW.v 5 rfl (by kernel_rfl) (by kernel_rfl) (by kernel_rfl) (fun _ _ _ h => h) rfl rfl (Val.move rfl) ?_
    refine RW.v 6 rfl (by kernel_rfl) (by kernel_rfl) (by kernel_rfl) (fun _ _ _ h => h) rfl rfl (Val.move rfl) ?_
    refine RW.v 7 rfl (by kernel_rfl) (by kernel_rfl) (by kernel_rfl) (fun _ _ _ h => h) rfl rfl (Val.ar rfl rfl rfl (IntWalk.i64_in _ (by omega))) ?_
    refine RW.re 23 (.int .i64 ((b + t : Nat) : Int)) rfl (by congr 1) ?_
    refine RW.v 8 rfl (by kernel_rfl) (by kernel_rfl) (by kernel_rfl) (fun _ _ _ h => h) rfl rfl (Val.move rfl) ?_
    refine RW.v 9 rfl (by kernel_rfl) (by kernel_rfl) (by kernel_rfl) (fun _ _ _ h => h) rfl rfl (Val.move rfl) ?_
    refine RW.v 10 rfl (by kernel_rfl) (by kernel_rfl) (by kernel_rfl) (fun _ _ _ h => h) rfl rfl (Val.move rfl) ?_
    refine RW.v 11 rfl (by kernel_rfl) (by kernel_rfl) (by kernel_rfl) (fun _ _ _ h => h) rfl rfl (Val.ar rfl rfl rfl (IntWalk.i64_in _ (by omega))) ?_
    refine RW.re 27 (.int .i64 ((b + t : Nat) : Int)) rfl (by congr 1) ?_
    first | (refine RW.v 12 rfl (by kernel_rfl) (by kernel_rfl) (by kernel_rfl) (fun _ _ _ h => h) rfl rfl (Val.indexAddrN rfl rfl Try.underlying22 Try.sizeOf36 (by omega)) ?_) | (refine RW.v 12 rfl (by kernel_rfl) (by kernel_rfl) (by kernel_rfl) (fun _ _ _ h => h) rfl rfl (Val.indexAddr rfl rfl Try.underlying22 Try.sizeOf36 (by omega) (by omega)) ?_)
    refine RW.v 14 rfl (by kernel_rfl) (by kernel_rfl) (by kernel_rfl) (fun _ _ _ h => h) rfl rfl (Val.move rfl) ?_
    refine RW.v 15 rfl (by kernel_rfl) (by kernel_rfl) (by kernel_rfl) (fun _ _ _ h => h) rfl rfl (Val.move rfl) ?_
    refine RW.v 16 rfl (by kernel_rfl) (by kernel_rfl) (by kernel_rfl) (fun _ _ _ h => h) rfl rfl (Val.move rfl) ?_
    refine RW.v 17 rfl (by kernel_rfl) (by kernel_rfl) (by kernel_rfl) (fun _ _ _ h => h) rfl rfl (Val.ar rfl rfl rfl (IntWalk.i64_in _ (by omega))) ?_
    refine RW.re 33 (.int .i64 ((a + t : Nat) : Int)) rfl (by congr 1) ?_
    first | (refine RW.v 18 rfl (by kernel_rfl) (by kernel_rfl) (by kernel_rfl) (fun _ _ _ h => h) rfl rfl (Val.indexAddrN rfl rfl Try.underlying22 Try.sizeOf36 (by omega)) ?_) | (refine RW.v 18 rfl (by kernel_rfl) (by kernel_rfl) (by kernel_rfl) (fun _ _ _ h => h) rfl rfl (Val.indexAddr rfl rfl Try.underlying22 Try.sizeOf36 (by omega) (by omega)) ?_)
    refine RW.any [13, 19] (by kernel_rfl) (by simp) ?_
    intro i hi
    simp only [List.mem_cons, List.not_mem_nil, or_false] at hi
    rcases hi with rfl | rfl
    · refine RO.e rfl rfl rfl (Eff.ofVal (Val.loadFl (enc := Sto.cells) rfl Try.isAgg36 (by repeat (first | exact .here | refine .there ?_)) sto_len h2 Try.sizeOf36)) (fun x => ⟨_, (by repeat (first | exact .nil | apply Pick.cons | exact .here | apply Ext.there))⟩) ?_
      intro _ _
      refine RW.e 19 rfl (by kernel_rfl) rfl rfl (Eff.ofVal (Val.loadFl (enc := Sto.cells) rfl Try.isAgg36 (by repeat (first | exact .here | refine .there ?_)) sto_len h1 Try.sizeOf36)) (fun x => ⟨_, (by repeat (first | exact .nil | apply Pick.cons | exact .here | apply Ext.there))⟩) ?_
      intro _ _
      first | (refine RW.v 20 rfl (by kernel_rfl) (by kernel_rfl) (by kernel_rfl) (fun _ _ _ h => h) rfl rfl (Val.indexAddrN rfl rfl Try.underlying22 Try.sizeOf36 (by omega)) ?_) | (refine RW.v 20 rfl (by kernel_rfl) (by kernel_rfl) (by kernel_rfl) (fun _ _ _ h => h) rfl rfl (Val.indexAddr rfl rfl Try.underlying22 Try.sizeOf36 (by omega) (by omega)) ?_)
      refine RW.eN 21 rfl (by kernel_rfl) rfl (Eff.storeFl (enc := Sto.cells) (sz := 14) rfl rfl (by repeat (first | exact .here | apply Upd.there)) sto_len (by first | omega | (simp only [List.length_set]; omega)) Try.sizeOf36 sto_one) (fun x => ⟨_, (by repeat (first | exact .nil | apply Pick.cons | exact .here | apply Ext.there))⟩) ?_
      intro _ _
      first | (refine RW.v 22 rfl (by kernel_rfl) (by kernel_rfl) (by kernel_rfl) (fun _ _ _ h => h) rfl rfl (Val.indexAddrN rfl rfl Try.underlying22 Try.sizeOf36 (by omega)) ?_) | (refine RW.v 22 rfl (by kernel_rfl) (by kernel_rfl) (by kernel_rfl) (fun _ _ _ h => h) rfl rfl (Val.indexAddr rfl rfl Try.underlying22 Try.sizeOf36 (by omega) (by omega)) ?_)
      refine RW.eN 23 rfl (by kernel_rfl) rfl (Eff.storeFl (enc := Sto.cells) (sz := 14) rfl rfl (by repeat (first | exact .here | apply Upd.there)) sto_len (by first | omega | (simp only [List.length_set]; omega)) Try.sizeOf36 sto_one) (fun x => ⟨_, (by repeat (first | exact .nil | apply Pick.cons | exact .here | apply Ext.there))⟩) ?_
      intro _ _
      refine RW.done (by kernel_rfl) ?_
      refine PQ.in_normal ?_
      refine PQ.seq ?_
      refine CW.region ?_
      refine LW.v rfl rfl (Val.move rfl) ?_
      refine LW.v rfl rfl (Val.ar rfl rfl rfl (IntWalk.i64_in _ (by omega))) ?_
      refine LW.v rfl rfl (Val.assign rfl) ?_
      refine LW.nil ?_
      rw [hsw]
      refine PQ.round (t + 1) (by omega) (by omega) (by repeat (first | exact trivial | refine ⟨rfl, ?_⟩)) (by repeat (first | exact .nil | apply Pick.cons | exact .here | apply Ext.there))
    · refine RO.e rfl rfl rfl (Eff.ofVal (Val.loadFl (enc := Sto.cells) rfl Try.isAgg36 (by repeat (first | exact .here | refine .there ?_)) sto_len h1 Try.sizeOf36)) (fun x => ⟨_, (by repeat (first | exact .nil | apply Pick.cons | exact .here | apply Ext.there))⟩) ?_
      intro _ _
      refine RW.e 13 rfl (by kernel_rfl) rfl rfl (Eff.ofVal (Val.loadFl (enc := Sto.cells) rfl Try.isAgg36 (by repeat (first | exact .here | refine .there ?_)) sto_len h2 Try.sizeOf36)) (fun x => ⟨_, (by repeat (first | exact .nil | apply Pick.cons | exact .here | apply Ext.there))⟩) ?_
      intro _ _
      first | (refine RW.v 20 rfl (by kernel_rfl) (by kernel_rfl) (by kernel_rfl) (fun _ _ _ h => h) rfl rfl (Val.indexAddrN rfl rfl Try.underlying22 Try.sizeOf36 (by omega)) ?_) | (refine RW.v 20 rfl (by kernel_rfl) (by kernel_rfl) (by kernel_rfl) (fun _ _ _ h => h) rfl rfl (Val.indexAddr rfl rfl Try.underlying22 Try.sizeOf36 (by omega) (by omega)) ?_)
      refine RW.eN 21 rfl (by kernel_rfl) rfl (Eff.storeFl (enc := Sto.cells) (sz := 14) rfl rfl (by repeat (first | exact .here | apply Upd.there)) sto_len (by first | omega | (simp only [List.length_set]; omega)) Try.sizeOf36 sto_one) (fun x => ⟨_, (by repeat (first | exact .nil | apply Pick.cons | exact .here | apply Ext.there))⟩) ?_
      intro _ _
      first | (refine RW.v 22 rfl (by kernel_rfl) (by kernel_rfl) (by kernel_rfl) (fun _ _ _ h => h) rfl rfl (Val.indexAddrN rfl rfl Try.underlying22 Try.sizeOf36 (by omega)) ?_) | (refine RW.v 22 rfl (by kernel_rfl) (by kernel_rfl) (by kernel_rfl) (fun _ _ _ h => h) rfl rfl (Val.indexAddr rfl rfl Try.underlying22 Try.sizeOf36 (by omega) (by omega)) ?_)
      refine RW.eN 23 rfl (by kernel_rfl) rfl (Eff.storeFl (enc := Sto.cells) (sz := 14) rfl rfl (by repeat (first | exact .here | apply Upd.there)) sto_len (by first | omega | (simp only [List.length_set]; omega)) Try.sizeOf36 sto_one) (fun x => ⟨_, (by repeat (first | exact .nil | apply Pick.cons | exact .here | apply Ext.there))⟩) ?_
      intro _ _
      refine RW.done (by kernel_rfl) ?_
      refine PQ.in_normal ?_
      refine PQ.seq ?_
      refine CW.region ?_
      refine LW.v rfl rfl (Val.move rfl) ?_
      refine LW.v rfl rfl (Val.ar rfl rfl rfl (IntWalk.i64_in _ (by omega))) ?_
      refine LW.v rfl rfl (Val.assign rfl) ?_
      refine LW.nil ?_
      rw [hsw]
      refine PQ.round (t + 1) (by omega) (by omega) (by repeat (first | exact trivial | refine ⟨rfl, ?_⟩)) (by repeat (first | exact .nil | apply Pick.cons | exact .here | apply Ext.there))
  · replace h13 := bF h13
    refine CW.exit ?_
    refine PQ.then_exit ?_
    refine PQ.then_exit ?_
    refine PQ.in_here ?_
    refine PQ.end0 rfl ?_
    intro w' hw
    obtain rfl : t = m := by omega
    refine ⟨(), trivial, rfl, ?_⟩
    rw [show X ++ ((Rr.take (t) ++ U.drop (t)) ++ (Z ++ ((U.take (t) ++ Rr.drop (t)) ++ Y))) = L' from by rw [← hL', List.take_of_length_le (Nat.le_of_eq hV), List.take_of_length_le (Nat.le_of_eq hU), List.drop_eq_nil_iff.2 (Nat.le_of_eq hV), List.drop_eq_nil_iff.2 (Nat.le_of_eq hU)]; simp] at hw
    exact hw
theorem rot_c (g cap n a m b : Nat) (rest : List Value) (X U Rr Y L L' : List Sto) (hL : L = X ++ (U ++ (Rr ++ Y))) (hL' : X ++ (Rr ++ (U ++ Y)) = L') (hn : L.length = n) (ha : X.length = a) (hmm : a + U.length = m) (hb : m + Rr.length = b) (hU : 0 < U.length) (hV : 0 < Rr.length) (hm : n ≤ 100000) (w : World) (hs : Sat [[(g, .cells ((L).flatMap Sto.cells ++ rest).toArray 36 (0, 0))]] w) : Calls Try.prog 94 [.slice (some ⟨g, 0, none⟩) n cap, .int .i64 (a : Nat), .int .i64 (m : Nat), .int .i64 (b : Nat), .func (.func 44) #[] #[]].toArray w fun e w' => ∃ _u : Unit, True ∧ e = .returned (.tuple #[]) ∧ Hp ⟨w, [g]⟩ [[(g, .cells ((L').flatMap Sto.cells ++ rest).toArray 36 (0, 0))]] w' := by
  subst hL
  have hlen : X.length + (U.length + (Rr.length + Y.length)) = n := by simpa using hn
  refine V.calls [[(g, .cells ((X ++ (U ++ (Rr ++ Y))).flatMap Sto.cells ++ rest).toArray 36 (0, 0))]] Try.func94 rfl Try.ntmps94 (Nat.le_of_ble_eq_true rfl) hs ?_
  refine CW.seq ?_
  refine CW.region ?_
  refine LW.v rfl rfl (Val.move rfl) ?_
  refine LW.v rfl rfl (Val.move rfl) ?_
  refine LW.v rfl rfl (Val.ar rfl rfl rfl (IntWalk.i64_in _ (by omega))) ?_
  refine LW.v rfl rfl (Val.assign rfl) ?_
  refine LW.nil ?_
  refine PQ.seq ?_
  refine CW.seq ?_
  refine CW.region ?_
  refine LW.v rfl rfl (Val.move rfl) ?_
  refine LW.v rfl rfl (Val.move rfl) ?_
  refine LW.v rfl rfl (Val.ar rfl rfl rfl (IntWalk.i64_in _ (by omega))) ?_
  refine LW.v rfl rfl (Val.assign rfl) ?_
  refine LW.nil ?_
  refine PQ.seq ?_
  refine CW.seq ?_
  refine CW.block ?_
  rw [show X ++ (U ++ (Rr ++ Y)) = X ++ ([] ++ (U ++ (Rr ++ ([] ++ Y)))) from by simp]
  refine CW.loop (γ := List Sto × List Sto × List Sto × List Sto) (fun k => [(0, .slice (some ⟨g, 0, none⟩) n cap), (2, .int .i64 (m : Nat)), (4, .func (.func 44) #[] #[]), (10, .int .i64 (k.2.1.length : Nat)), (11, .int .i64 (k.2.2.1.length : Nat))]) (fun k => [[(g, .cells ((X ++ (k.1 ++ (k.2.1 ++ (k.2.2.1 ++ (k.2.2.2 ++ Y))))).flatMap Sto.cells ++ rest).toArray 36 (0, 0))]]) (fun k => 0 < k.2.1.length ∧ 0 < k.2.2.1.length ∧ X.length + k.1.length + k.2.1.length = m ∧ k.1 ++ (k.2.2.1 ++ (k.2.1 ++ k.2.2.2)) = Rr ++ U) (fun k => k.2.1.length + k.2.2.1.length) (([], U, Rr, [])) ⟨hU, hV, by simp; omega, by simp⟩ (by exact ⟨rfl, rfl, rfl, congrArg (fun z : Int => some (Value.int .i64 z)) (by simp only; omega), congrArg (fun z : Int => some (Value.int .i64 z)) (by simp only; omega), trivial⟩) (by repeat (first | exact .nil | apply Pick.cons | exact .here | apply Ext.there)) ?_
  intro k
  rintro ⟨hk1, hk2, hk3, hk4⟩
  have hlk : k.1.length + (k.2.2.1.length + (k.2.1.length + k.2.2.2.length)) = Rr.length + U.length := by simpa using congrArg List.length hk4
  refine CW.seq ?_
  refine CW.seq ?_
  refine CW.region ?_
  refine LW.v rfl rfl (Val.move rfl) ?_
  refine LW.v rfl rfl (Val.move rfl) ?_
  refine LW.v rfl rfl (Val.cmp rfl rfl rfl) ?_
  refine LW.nil ?_
  refine PQ.seq ?_
  refine CW.cond rfl (fun h20 => ?_) (fun h20 => ?_)
  · replace h20 := bT h20
    refine CW.skip ?_
    refine PQ.seq ?_
    refine CW.block ?_
    refine CW.seq ?_
    refine CW.region ?_
    refine LW.v rfl rfl (Val.move rfl) ?_
    refine LW.v rfl rfl (Val.move rfl) ?_
    refine LW.v rfl rfl (Val.cmp rfl rfl rfl) ?_
    refine LW.nil ?_
    refine PQ.seq ?_
    refine CW.cond rfl (fun h23 => ?_) (fun h23 => ?_)
    · replace h23 := bT h23
      refine CW.seq ?_
      refine CW.region ?_
      refine LW.v rfl rfl (Val.move rfl) ?_
      refine LW.v rfl rfl (Val.move rfl) ?_
      refine LW.v rfl rfl (Val.move rfl) ?_
      refine LW.v rfl rfl (Val.ar rfl rfl rfl (IntWalk.i64_in _ (by omega))) ?_
      refine LW.re 27 (.int .i64 ((m - k.2.1.length : Nat) : Int)) rfl (by congr 1; omega) ?_
      refine LW.v rfl rfl (Val.move rfl) ?_
      refine LW.v rfl rfl (Val.move rfl) ?_
      refine LW.v rfl rfl (Val.move rfl) ?_
      refine LW.e rfl rfl (Eff.callM ([[(g, .cells ((X ++ (k.1 ++ (k.2.1 ++ (k.2.2.1 ++ (k.2.2.2 ++ Y))))).flatMap Sto.cells ++ rest).toArray 36 (0, 0))]]) (by repeat (first | exact .nil | apply Pick.cons | exact .here | apply Ext.there)) rfl Try.call109 (fun w hw hs => swr_c g cap n (m - k.2.1.length) (m) (k.2.2.1.length) rest (X ++ k.1) (k.2.1.take k.2.2.1.length) (k.2.1.drop k.2.2.1.length) (k.2.2.1) (k.2.2.2 ++ Y) (X ++ (k.1 ++ (k.2.1 ++ (k.2.2.1 ++ (k.2.2.2 ++ Y))))) (X ++ ((k.1 ++ k.2.2.1) ++ (k.2.1.drop k.2.2.1.length ++ (k.2.1.take k.2.2.1.length ++ (k.2.2.2 ++ Y))))) (by rw [← List.append_assoc (k.2.1.take _), List.take_append_drop]; simp) (by simp) (by first | (simp; done) | (simp; omega) | omega) (by first | (simp; done) | (simp; omega) | omega) (by first | (simp; done) | (simp; omega) | omega) (by first | (simp; done) | (simp; omega) | omega) (by first | (simp; done) | (simp; omega) | omega) hm w hs)) ?_
      intro _ _
      refine LW.nil ?_
      refine PQ.seq ?_
      refine CW.region ?_
      refine LW.v rfl rfl (Val.move rfl) ?_
      refine LW.v rfl rfl (Val.move rfl) ?_
      refine LW.v rfl rfl (Val.ar rfl rfl rfl (IntWalk.i64_in _ (by omega))) ?_
      refine LW.re 34 (.int .i64 ((k.2.1.length - k.2.2.1.length : Nat) : Int)) rfl (by congr 1; omega) ?_
      refine LW.v rfl rfl (Val.assign rfl) ?_
      refine LW.nil ?_
      refine PQ.in_normal ?_
      refine PQ.round ((k.1 ++ k.2.2.1, k.2.1.drop k.2.2.1.length, k.2.1.take k.2.2.1.length, k.2.2.2)) ⟨by simp; omega, by simp; omega, by simp; omega, by rw [← hk4]; simp only [List.append_assoc]; rw [← List.append_assoc (k.2.1.take _), List.take_append_drop]⟩ (by simp; omega) (by exact ⟨rfl, rfl, rfl, congrArg (fun z : Int => some (Value.int .i64 z)) (by simp), congrArg (fun z : Int => some (Value.int .i64 z)) (by simp; omega), trivial⟩) (by repeat (first | exact .nil | apply Pick.cons | exact .here | apply Ext.there))
    · replace h23 := bF h23
      refine CW.seq ?_
      refine CW.region ?_
      refine LW.v rfl rfl (Val.move rfl) ?_
      refine LW.v rfl rfl (Val.move rfl) ?_
      refine LW.v rfl rfl (Val.move rfl) ?_
      refine LW.v rfl rfl (Val.ar rfl rfl rfl (IntWalk.i64_in _ (by omega))) ?_
      refine LW.re 38 (.int .i64 ((m - k.2.1.length : Nat) : Int)) rfl (by congr 1; omega) ?_
      refine LW.v rfl rfl (Val.move rfl) ?_
      refine LW.v rfl rfl (Val.move rfl) ?_
      refine LW.v rfl rfl (Val.ar rfl rfl rfl (IntWalk.i64_in _ (by omega))) ?_
      refine LW.v rfl rfl (Val.move rfl) ?_
      refine LW.v rfl rfl (Val.ar rfl rfl rfl (IntWalk.i64_in _ (by omega))) ?_
      refine LW.re 43 (.int .i64 ((m + k.2.2.1.length - k.2.1.length : Nat) : Int)) rfl (by congr 1; omega) ?_
      refine LW.v rfl rfl (Val.move rfl) ?_
      refine LW.v rfl rfl (Val.move rfl) ?_
      refine LW.e rfl rfl (Eff.callM ([[(g, .cells ((X ++ (k.1 ++ (k.2.1 ++ (k.2.2.1 ++ (k.2.2.2 ++ Y))))).flatMap Sto.cells ++ rest).toArray 36 (0, 0))]]) (by repeat (first | exact .nil | apply Pick.cons | exact .here | apply Ext.there)) rfl Try.call109 (fun w hw hs => swr_c g cap n (m - k.2.1.length) (m + k.2.2.1.length - k.2.1.length) (k.2.1.length) rest (X ++ k.1) (k.2.1) (k.2.2.1.take (k.2.2.1.length - k.2.1.length)) (k.2.2.1.drop (k.2.2.1.length - k.2.1.length)) (k.2.2.2 ++ Y) (X ++ (k.1 ++ (k.2.1 ++ (k.2.2.1 ++ (k.2.2.2 ++ Y))))) (X ++ (k.1 ++ (k.2.2.1.drop (k.2.2.1.length - k.2.1.length) ++ (k.2.2.1.take (k.2.2.1.length - k.2.1.length) ++ ((k.2.1 ++ k.2.2.2) ++ Y))))) (by rw [← List.append_assoc (k.2.2.1.take _), List.take_append_drop]; simp) (by simp) (by first | (simp; done) | (simp; omega) | omega) (by first | (simp; done) | (simp; omega) | omega) (by first | (simp; done) | (simp; omega) | omega) (by first | (simp; done) | (simp; omega) | omega) (by first | (simp; done) | (simp; omega) | omega) hm w hs)) ?_
      intro _ _
      refine LW.nil ?_
      refine PQ.seq ?_
      refine CW.region ?_
      refine LW.v rfl rfl (Val.move rfl) ?_
      refine LW.v rfl rfl (Val.move rfl) ?_
      refine LW.v rfl rfl (Val.ar rfl rfl rfl (IntWalk.i64_in _ (by omega))) ?_
      refine LW.re 49 (.int .i64 ((k.2.2.1.length - k.2.1.length : Nat) : Int)) rfl (by congr 1; omega) ?_
      refine LW.v rfl rfl (Val.assign rfl) ?_
      refine LW.nil ?_
      refine PQ.in_normal ?_
      refine PQ.round ((k.1, k.2.2.1.drop (k.2.2.1.length - k.2.1.length), k.2.2.1.take (k.2.2.1.length - k.2.1.length), k.2.1 ++ k.2.2.2)) ⟨by simp; omega, by simp; omega, by simp; omega, by rw [← hk4]; simp only; rw [← List.append_assoc (k.2.2.1.take _), List.take_append_drop]⟩ (by simp; omega) (by exact ⟨rfl, rfl, rfl, congrArg (fun z : Int => some (Value.int .i64 z)) (by simp; omega), congrArg (fun z : Int => some (Value.int .i64 z)) (by simp), trivial⟩) (by repeat (first | exact .nil | apply Pick.cons | exact .here | apply Ext.there))
  · replace h20 := bF h20
    refine CW.exit ?_
    refine PQ.then_exit ?_
    refine PQ.then_exit ?_
    refine PQ.in_here ?_
    refine PQ.seq ?_
    refine CW.region ?_
    refine LW.v rfl rfl (Val.move rfl) ?_
    refine LW.v rfl rfl (Val.move rfl) ?_
    refine LW.v rfl rfl (Val.move rfl) ?_
    refine LW.v rfl rfl (Val.ar rfl rfl rfl (IntWalk.i64_in _ (by omega))) ?_
    refine LW.re 53 (.int .i64 ((m - k.2.1.length : Nat) : Int)) rfl (by congr 1; omega) ?_
    refine LW.v rfl rfl (Val.move rfl) ?_
    refine LW.v rfl rfl (Val.move rfl) ?_
    refine LW.v rfl rfl (Val.move rfl) ?_
    refine LW.e rfl rfl (Eff.callM ([[(g, .cells ((X ++ (k.1 ++ (k.2.1 ++ (k.2.2.1 ++ (k.2.2.2 ++ Y))))).flatMap Sto.cells ++ rest).toArray 36 (0, 0))]]) (by repeat (first | exact .nil | apply Pick.cons | exact .here | apply Ext.there)) rfl Try.call109 (fun w hw hs => swr_c g cap n (m - k.2.1.length) (m) (k.2.1.length) rest (X ++ k.1) (k.2.1) ([]) (k.2.2.1) (k.2.2.2 ++ Y) (X ++ (k.1 ++ (k.2.1 ++ (k.2.2.1 ++ (k.2.2.2 ++ Y))))) (X ++ (k.1 ++ (k.2.2.1 ++ (k.2.1 ++ (k.2.2.2 ++ Y))))) (by simp) (by simp) (by first | (simp; done) | (simp; omega) | omega) (by first | (simp; done) | (simp; omega) | omega) (by first | (simp; done) | (simp; omega) | omega) (by first | (simp; done) | (simp; omega) | omega) (by first | (simp; done) | (simp; omega) | omega) hm w hs)) ?_
    intro _ _
    refine LW.nil ?_
    refine PQ.end0 rfl ?_
    intro w' hw
    refine ⟨(), trivial, rfl, ?_⟩
    rw [show X ++ (k.1 ++ (k.2.2.1 ++ (k.2.1 ++ (k.2.2.2 ++ Y)))) = L' from by rw [← hL', ← List.append_assoc Rr, ← hk4]; simp] at hw
    exact hw
end Go.Proofs.Ytaihimbjdgmjgaa
