/- The merge of the stable sort of stories. -/
import Derived.Test.YtaihimbjdgmjgaaSeS
import Derived.Lib.Hide
namespace Go.Proofs.Ytaihimbjdgmjgaa
open Go Go.RowKit V
set_option linter.unusedVariables false
set_option maxRecDepth 100000
theorem mid_eq (p q r : Nat) (h : p + q < 2 ^ 62) (hr : r = (p + q) / 2) : Value.int .i64 (IntKind.i64.wrap ((IntKind.u64.wrap ((p : Int) + (q : Int))).fdiv (2 ^ (min (1 : Int).toNat IntKind.u64.bits)))) = .int .i64 ((r : Nat) : Int) := by
  have e0 : IntKind.u64.wrap ((p : Int) + (q : Int)) = ((p + q : Nat) : Int) := by rw [← Int.natCast_add]; exact IntWalk.u64_in _ (by omega)
  have e1 : ((p + q : Nat) : Int).fdiv (2 ^ (min (1 : Int).toNat IntKind.u64.bits)) = ((r : Nat) : Int) := by
    rw [show (min (1 : Int).toNat IntKind.u64.bits) = 1 from by decide]
    rw [hr, Int.fdiv_eq_ediv_of_nonneg _ (by decide)]
    simp
  rw [e0, e1, IntWalk.i64_in _ (by omega)]
set_option maxHeartbeats 2000000 in
theorem sym_c (g cap n : Nat) (rest : List Value) (hm : n ≤ 100000) : ∀ (N a m b : Nat) (X A B Y L : List Sto), A.length + B.length ≤ N → L = X ++ (A ++ (B ++ Y)) → L.length = n → X.length = a → a + A.length = m → m + B.length = b → 0 < A.length → 0 < B.length → Up Sto.en A → Up Sto.en B → ∀ w : World, Sat [[(g, .cells ((L).flatMap Sto.cells ++ rest).toArray 36 (0, 0))]] w →
    Calls Try.prog 79 [.slice (some ⟨g, 0, none⟩) n cap, .int .i64 (a : Nat), .int .i64 (m : Nat), .int .i64 (b : Nat), .func (.func 44) #[] #[]].toArray w fun e w' => ∃ M' : List Sto, (Sta Sto.en (A ++ B) M' ∧ Up Sto.en M') ∧ e = .returned (.tuple #[]) ∧ Hp ⟨w, [g]⟩ [[(g, .cells ((X ++ (M' ++ Y)).flatMap Sto.cells ++ rest).toArray 36 (0, 0))]] w' := by
  intro N
  induction N with
  | zero => intro a m b X A B Y L h1 _ _ _ _ _ h2 _ _ _ w _; omega
  | succ N ih =>
    intro a m b X A B Y L hN hL hn ha hmm hb hA0 hB0 hA hB w hs
    subst hL
    have hlen : X.length + (A.length + (B.length + Y.length)) = n := by simpa using hn
    refine V.calls [[(g, .cells ((X ++ (A ++ (B ++ Y))).flatMap Sto.cells ++ rest).toArray 36 (0, 0))]] Try.func79 rfl Try.ntmps79 (Nat.le_of_ble_eq_true rfl) hs ?_
    refine CW.seq ?_
    refine CW.seq ?_
    refine CW.region ?_
    refine LW.v rfl rfl (Val.move rfl) ?_
    refine LW.v rfl rfl (Val.move rfl) ?_
    refine LW.v rfl rfl (Val.ar rfl rfl rfl (IntWalk.i64_in _ (by omega))) ?_
    refine LW.v rfl rfl (Val.cmp rfl rfl rfl) ?_
    refine LW.nil ?_
    refine PQ.seq ?_
    refine CW.cond rfl (fun h28 => ?_) (fun h28 => ?_)
    · replace h28 := bT h28
      obtain ⟨x, rfl⟩ := List.length_eq_one_iff.1 (by omega : A.length = 1)
      have hmx : a + 1 = m := hmm
      refine CW.seq ?_
      refine CW.region ?_
      refine LW.v rfl rfl (Val.move rfl) ?_
      refine LW.v rfl rfl (Val.assign rfl) ?_
      refine LW.nil ?_
      refine PQ.seq ?_
      refine CW.seq ?_
      refine CW.region ?_
      refine LW.v rfl rfl (Val.move rfl) ?_
      refine LW.v rfl rfl (Val.assign rfl) ?_
      refine LW.nil ?_
      refine PQ.seq ?_
      refine CW.seq ?_
      refine CW.block ?_
      refine CW.loop (γ := Nat × Nat) (fun k => [(0, .slice (some ⟨g, 0, none⟩) n cap), (1, .int .i64 ((a : Nat) : Int)), (2, .int .i64 ((m : Nat) : Int)), (4, .func (.func 44) #[] #[]), (10, .int .i64 ((m + k.1 : Nat) : Int)), (11, .int .i64 ((m + k.2 : Nat) : Int))]) (fun _ => [[(g, .cells ((X ++ ([x] ++ (B ++ Y))).flatMap Sto.cells ++ rest).toArray 36 (0, 0))]]) (fun k => k.1 ≤ k.2 ∧ k.2 ≤ B.length ∧ (∀ y ∈ B.take k.1, y.en < x.en) ∧ (∀ y ∈ B.drop k.2, x.en ≤ y.en)) (fun k => k.2 - k.1) ((0, B.length)) ⟨Nat.zero_le _, Nat.le_refl _, by simp, by simp⟩ (by exact ⟨rfl, rfl, rfl, rfl, rfl, congrArg (fun z : Int => some (Value.int .i64 z)) (by first | omega | (simp only; omega)), trivial⟩) (by repeat (first | exact .nil | apply Pick.cons | exact .here | apply Ext.there)) ?_
      intro k
      rintro ⟨hk1, hk2, hk3, hk4⟩
      refine CW.seq ?_
      refine CW.seq ?_
      refine CW.region ?_
      refine LW.v rfl rfl (Val.move rfl) ?_
      refine LW.v rfl rfl (Val.move rfl) ?_
      refine LW.v rfl rfl (Val.cmp rfl rfl rfl) ?_
      refine LW.nil ?_
      refine PQ.seq ?_
      refine CW.cond rfl (fun h33 => ?_) (fun h33 => ?_)
      · replace h33 := bT h33
        obtain ⟨c, hc⟩ : ∃ c, c = (k.1 + k.2) / 2 := ⟨_, rfl⟩
        obtain ⟨y, hy⟩ : ∃ y, B[c]? = some y := ⟨B[c]'(by omega), by simp⟩
        have h1 : (X ++ ([x] ++ (B ++ Y)))[m + c]? = some y := by rw [List.getElem?_append_right (by omega), List.getElem?_append_right (by simp; omega), List.getElem?_append_left (by simp; omega)]; rw [show m + c - X.length - [x].length = c by simp; omega]; exact hy
        have h2 : (X ++ ([x] ++ (B ++ Y)))[a]? = some x := by rw [List.getElem?_append_right (by omega)]; simp [ha]
        refine CW.skip ?_
        refine PQ.seq ?_
        refine CW.block ?_
        refine CW.seq ?_
        refine CW.region ?_
        refine LW.v rfl rfl (Val.move rfl) ?_
        refine LW.v rfl rfl (Val.move rfl) ?_
        refine LW.v rfl rfl (Val.ar rfl rfl rfl (IntWalk.i64_in _ (by omega))) ?_
        refine LW.v rfl rfl (Val.convI rfl Try.underlying3 Try.underlying97) ?_
        refine LW.v rfl rfl (Val.shr rfl rfl (by omega)) ?_
        refine LW.v rfl rfl (Val.convI rfl Try.underlying97 Try.underlying3) ?_
        refine LW.re 39 (.int .i64 ((m + c : Nat) : Int)) rfl (mid_eq (m + k.1) (m + k.2) _ (by omega) (by omega)) ?_
        refine LW.v rfl rfl (Val.assign rfl) ?_
        refine LW.nil ?_
        refine PQ.seq ?_
        refine CW.seq ?_
        refine CW.quiet mixed (by kernel_rfl) ?_
        refine QW.v rfl rfl (Val.move rfl) ?_
        refine QW.v rfl rfl (Val.move rfl) ?_
        refine QW.v rfl rfl (Val.move rfl) ?_
        first | (refine QW.v rfl rfl (Val.indexAddrN rfl rfl Try.underlying22 Try.sizeOf36 (by omega)) ?_) | (refine QW.v rfl rfl (Val.indexAddr rfl rfl Try.underlying22 Try.sizeOf36 (by omega) (by omega)) ?_)
        refine QW.v rfl rfl (Val.loadFl (enc := Sto.cells) rfl Try.isAgg36 (by repeat (first | exact .here | refine .there ?_)) sto_len h1 Try.sizeOf36) ?_
        refine QW.v rfl rfl (Val.move rfl) ?_
        refine QW.v rfl rfl (Val.move rfl) ?_
        first | (refine QW.v rfl rfl (Val.indexAddrN rfl rfl Try.underlying22 Try.sizeOf36 (by omega)) ?_) | (refine QW.v rfl rfl (Val.indexAddr rfl rfl Try.underlying22 Try.sizeOf36 (by omega) (by omega)) ?_)
        refine QW.v rfl rfl (Val.loadFl (enc := Sto.cells) rfl Try.isAgg36 (by repeat (first | exact .here | refine .there ?_)) sto_len h2 Try.sizeOf36) ?_
        refine QW.c rfl rfl (Qcall.ofF (f := 44) (caps := []) rfl rfl Try.call44 (fun w hw => byEnd_c y x w)) ?_
        refine QW.v rfl rfl (Val.cmp rfl rfl rfl) ?_
        refine QW.nil ?_
        refine PQ.seq ?_
        refine CW.cond rfl (fun h50 => ?_) (fun h50 => ?_)
        · replace h50 := bT h50
          rw [cmpE_lt] at h50
          refine CW.region ?_
          refine LW.v rfl rfl (Val.move rfl) ?_
          refine LW.v rfl rfl (Val.ar rfl rfl rfl (IntWalk.i64_in _ (by omega))) ?_
          refine LW.v rfl rfl (Val.assign rfl) ?_
          refine LW.nil ?_
          refine PQ.in_normal ?_
          refine PQ.round ((c + 1, k.2)) ⟨by simp only; omega, hk2, fun z hz => by
            obtain ⟨j, hj1, hj2⟩ := mem_take hz
            have := hB.get hj2 hy (by omega)
            omega, hk4⟩ (by simp only; omega) (by repeat (first | exact trivial | refine ⟨rfl, ?_⟩)) (by repeat (first | exact .nil | apply Pick.cons | exact .here | apply Ext.there))
        · replace h50 := bF h50
          rw [cmpE_ge] at h50
          refine CW.region ?_
          refine LW.v rfl rfl (Val.move rfl) ?_
          refine LW.v rfl rfl (Val.assign rfl) ?_
          refine LW.nil ?_
          refine PQ.in_normal ?_
          refine PQ.round ((k.1, c)) ⟨by simp only; omega, by simp only; omega, hk3, fun z hz => by
            obtain ⟨j, hj1, hj2⟩ := mem_drop hz
            have := hB.get hy hj2 (by omega)
            omega⟩ (by simp only; omega) (by repeat (first | exact trivial | refine ⟨rfl, ?_⟩)) (by repeat (first | exact .nil | apply Pick.cons | exact .here | apply Ext.there))
      · replace h33 := bF h33
        refine CW.exit ?_
        refine PQ.then_exit ?_
        refine PQ.then_exit ?_
        refine PQ.in_here ?_
        refine PQ.seq ?_
        refine CW.seq ?_
        refine CW.seq ?_
        refine CW.region ?_
        refine LW.v rfl rfl (Val.move rfl) ?_
        refine LW.v rfl rfl (Val.assign rfl) ?_
        refine LW.nil ?_
        refine PQ.seq ?_
        refine CW.block ?_
        obtain ⟨s, r⟩ := k
        simp only at hk1 hk2 hk3 hk4 h33
        obtain rfl : s = r := by omega
        rw [show X ++ ([x] ++ (B ++ Y)) = X ++ ((B.take (0) ++ x :: B.drop (0)) ++ Y) from by simp]
        refine CW.loop (γ := Nat) (fun t => [(0, .slice (some ⟨g, 0, none⟩) n cap), (10, .int .i64 ((m + s : Nat) : Int)), (13, .int .i64 ((a + t : Nat) : Int))]) (fun t => [[(g, .cells ((X ++ ((B.take (t) ++ x :: B.drop (t)) ++ Y)).flatMap Sto.cells ++ rest).toArray 36 (0, 0))]]) (fun t => t ≤ s) (fun t => s - t) (0) (Nat.zero_le _) (by repeat (first | exact trivial | refine ⟨rfl, ?_⟩)) (by repeat (first | exact .nil | apply Pick.cons | exact .here | apply Ext.there)) ?_
        intro t
        intro ht
        refine CW.seq ?_
        refine CW.seq ?_
        refine CW.region ?_
        refine LW.v rfl rfl (Val.move rfl) ?_
        refine LW.v rfl rfl (Val.move rfl) ?_
        refine LW.v rfl rfl (Val.ar rfl rfl rfl (IntWalk.i64_in _ (by omega))) ?_
        refine LW.v rfl rfl (Val.cmp rfl rfl rfl) ?_
        refine LW.nil ?_
        refine PQ.seq ?_
        refine CW.cond rfl (fun h58 => ?_) (fun h58 => ?_)
        · replace h58 := bT h58
          obtain ⟨v, hv⟩ : ∃ v, B[t]? = some v := ⟨B[t]'(by omega), by simp⟩
          have hcc : X ++ ((B.take (t) ++ x :: B.drop (t)) ++ Y) = (X ++ B.take t) ++ x :: ([] ++ v :: (B.drop (t + 1) ++ Y)) := by rw [drop_cons hv]; simp
          have h1 : (X ++ ((B.take (t) ++ x :: B.drop (t)) ++ Y))[a + t]? = some x := by rw [hcc]; exact at_app _ _ _ _ (by simp; omega)
          have h2 : (X ++ ((B.take (t) ++ x :: B.drop (t)) ++ Y))[a + t + 1]? = some v := by
            rw [hcc, show (X ++ B.take t) ++ x :: ([] ++ v :: (B.drop (t + 1) ++ Y)) = (X ++ B.take t ++ [x]) ++ v :: (B.drop (t + 1) ++ Y) from by simp]
            exact at_app _ _ _ _ (by simp; omega)
          have hsw : ((X ++ ((B.take (t) ++ x :: B.drop (t)) ++ Y)).set (a + t) v).set (a + t + 1) x = X ++ ((B.take (t + 1) ++ x :: B.drop (t + 1)) ++ Y) := by
            rw [hcc, swp _ _ _ _ _ _ _ (by simp; omega) (by simp; omega), take_snoc hv]; simp
          have hll : (X ++ ((B.take (t) ++ x :: B.drop (t)) ++ Y)).length = n := by simp at hlen ⊢; omega
          refine CW.skip ?_
          refine PQ.seq ?_
          refine CW.seq ?_
          refine CW.block ?_
          refine CW.drawn ([]) mixed (by repeat (first | exact .nil | apply Pick.cons | exact .here | apply Ext.there)) ?_
          refine RW.v 0 rfl (by kernel_rfl) (by kernel_rfl) (by kernel_rfl) (fun _ _ _ h => h) rfl rfl (Val.move rfl) ?_
          refine RW.v 1 rfl (by kernel_rfl) (by kernel_rfl) (by kernel_rfl) (fun _ _ _ h => h) rfl rfl (Val.move rfl) ?_
          refine RW.v 2 rfl (by kernel_rfl) (by kernel_rfl) (by kernel_rfl) (fun _ _ _ h => h) rfl rfl (Val.move rfl) ?_
          refine RW.v 3 rfl (by kernel_rfl) (by kernel_rfl) (by kernel_rfl) (fun _ _ _ h => h) rfl rfl (Val.move rfl) ?_
          refine RW.v 4 rfl (by kernel_rfl) (by kernel_rfl) (by kernel_rfl) (fun _ _ _ h => h) rfl rfl (Val.ar rfl rfl rfl (IntWalk.i64_in _ (by omega))) ?_
          refine RW.re 65 (.int .i64 ((a + t + 1 : Nat) : Int)) rfl (by congr 1) ?_
          refine RW.v 5 rfl (by kernel_rfl) (by kernel_rfl) (by kernel_rfl) (fun _ _ _ h => h) rfl rfl (Val.move rfl) ?_
          refine RW.v 6 rfl (by kernel_rfl) (by kernel_rfl) (by kernel_rfl) (fun _ _ _ h => h) rfl rfl (Val.move rfl) ?_
          refine RW.v 7 rfl (by kernel_rfl) (by kernel_rfl) (by kernel_rfl) (fun _ _ _ h => h) rfl rfl (Val.ar rfl rfl rfl (IntWalk.i64_in _ (by omega))) ?_
          refine RW.re 68 (.int .i64 ((a + t + 1 : Nat) : Int)) rfl (by congr 1) ?_
          first | (refine RW.v 8 rfl (by kernel_rfl) (by kernel_rfl) (by kernel_rfl) (fun _ _ _ h => h) rfl rfl (Val.indexAddrN rfl rfl Try.underlying22 Try.sizeOf36 (by omega)) ?_) | (refine RW.v 8 rfl (by kernel_rfl) (by kernel_rfl) (by kernel_rfl) (fun _ _ _ h => h) rfl rfl (Val.indexAddr rfl rfl Try.underlying22 Try.sizeOf36 (by omega) (by omega)) ?_)
          refine RW.v 10 rfl (by kernel_rfl) (by kernel_rfl) (by kernel_rfl) (fun _ _ _ h => h) rfl rfl (Val.move rfl) ?_
          refine RW.v 11 rfl (by kernel_rfl) (by kernel_rfl) (by kernel_rfl) (fun _ _ _ h => h) rfl rfl (Val.move rfl) ?_
          first | (refine RW.v 12 rfl (by kernel_rfl) (by kernel_rfl) (by kernel_rfl) (fun _ _ _ h => h) rfl rfl (Val.indexAddrN rfl rfl Try.underlying22 Try.sizeOf36 (by omega)) ?_) | (refine RW.v 12 rfl (by kernel_rfl) (by kernel_rfl) (by kernel_rfl) (fun _ _ _ h => h) rfl rfl (Val.indexAddr rfl rfl Try.underlying22 Try.sizeOf36 (by omega) (by omega)) ?_)
          refine RW.any [9, 13] (by kernel_rfl) (by simp) ?_
          intro i hi
          simp only [List.mem_cons, List.not_mem_nil, or_false] at hi
          rcases hi with rfl | rfl
          · refine RO.e rfl rfl rfl (Eff.ofVal (Val.loadFl (enc := Sto.cells) rfl Try.isAgg36 (by repeat (first | exact .here | refine .there ?_)) sto_len h2 Try.sizeOf36)) (fun x => ⟨_, (by repeat (first | exact .nil | apply Pick.cons | exact .here | apply Ext.there))⟩) ?_
            intro _ _
            refine RW.e 13 rfl (by kernel_rfl) rfl rfl (Eff.ofVal (Val.loadFl (enc := Sto.cells) rfl Try.isAgg36 (by repeat (first | exact .here | refine .there ?_)) sto_len h1 Try.sizeOf36)) (fun x => ⟨_, (by repeat (first | exact .nil | apply Pick.cons | exact .here | apply Ext.there))⟩) ?_
            intro _ _
            first | (refine RW.v 14 rfl (by kernel_rfl) (by kernel_rfl) (by kernel_rfl) (fun _ _ _ h => h) rfl rfl (Val.indexAddrN rfl rfl Try.underlying22 Try.sizeOf36 (by omega)) ?_) | (refine RW.v 14 rfl (by kernel_rfl) (by kernel_rfl) (by kernel_rfl) (fun _ _ _ h => h) rfl rfl (Val.indexAddr rfl rfl Try.underlying22 Try.sizeOf36 (by omega) (by omega)) ?_)
            refine RW.eN 15 rfl (by kernel_rfl) rfl (Eff.storeFl (enc := Sto.cells) (sz := 14) rfl rfl (by repeat (first | exact .here | apply Upd.there)) sto_len (by first | omega | (simp only [List.length_set]; omega)) Try.sizeOf36 sto_one) (fun x => ⟨_, (by repeat (first | exact .nil | apply Pick.cons | exact .here | apply Ext.there))⟩) ?_
            intro _ _
            first | (refine RW.v 16 rfl (by kernel_rfl) (by kernel_rfl) (by kernel_rfl) (fun _ _ _ h => h) rfl rfl (Val.indexAddrN rfl rfl Try.underlying22 Try.sizeOf36 (by omega)) ?_) | (refine RW.v 16 rfl (by kernel_rfl) (by kernel_rfl) (by kernel_rfl) (fun _ _ _ h => h) rfl rfl (Val.indexAddr rfl rfl Try.underlying22 Try.sizeOf36 (by omega) (by omega)) ?_)
            refine RW.eN 17 rfl (by kernel_rfl) rfl (Eff.storeFl (enc := Sto.cells) (sz := 14) rfl rfl (by repeat (first | exact .here | apply Upd.there)) sto_len (by first | omega | (simp only [List.length_set]; omega)) Try.sizeOf36 sto_one) (fun x => ⟨_, (by repeat (first | exact .nil | apply Pick.cons | exact .here | apply Ext.there))⟩) ?_
            intro _ _
            refine RW.done (by kernel_rfl) ?_
            refine PQ.in_normal ?_
            refine PQ.seq ?_
            refine CW.region ?_
            refine LW.v rfl rfl (Val.move rfl) ?_
            refine LW.v rfl rfl (Val.ar rfl rfl rfl (IntWalk.i64_in _ (by omega))) ?_
            refine LW.v rfl rfl (Val.assign rfl) ?_
            refine LW.nil ?_
            rw [hsw]
            refine PQ.round (t + 1) (by omega) (by omega) (by repeat (first | exact trivial | refine ⟨rfl, ?_⟩)) (by repeat (first | exact .nil | apply Pick.cons | exact .here | apply Ext.there))
          · refine RO.e rfl rfl rfl (Eff.ofVal (Val.loadFl (enc := Sto.cells) rfl Try.isAgg36 (by repeat (first | exact .here | refine .there ?_)) sto_len h1 Try.sizeOf36)) (fun x => ⟨_, (by repeat (first | exact .nil | apply Pick.cons | exact .here | apply Ext.there))⟩) ?_
            intro _ _
            refine RW.e 9 rfl (by kernel_rfl) rfl rfl (Eff.ofVal (Val.loadFl (enc := Sto.cells) rfl Try.isAgg36 (by repeat (first | exact .here | refine .there ?_)) sto_len h2 Try.sizeOf36)) (fun x => ⟨_, (by repeat (first | exact .nil | apply Pick.cons | exact .here | apply Ext.there))⟩) ?_
            intro _ _
            first | (refine RW.v 14 rfl (by kernel_rfl) (by kernel_rfl) (by kernel_rfl) (fun _ _ _ h => h) rfl rfl (Val.indexAddrN rfl rfl Try.underlying22 Try.sizeOf36 (by omega)) ?_) | (refine RW.v 14 rfl (by kernel_rfl) (by kernel_rfl) (by kernel_rfl) (fun _ _ _ h => h) rfl rfl (Val.indexAddr rfl rfl Try.underlying22 Try.sizeOf36 (by omega) (by omega)) ?_)
            refine RW.eN 15 rfl (by kernel_rfl) rfl (Eff.storeFl (enc := Sto.cells) (sz := 14) rfl rfl (by repeat (first | exact .here | apply Upd.there)) sto_len (by first | omega | (simp only [List.length_set]; omega)) Try.sizeOf36 sto_one) (fun x => ⟨_, (by repeat (first | exact .nil | apply Pick.cons | exact .here | apply Ext.there))⟩) ?_
            intro _ _
            first | (refine RW.v 16 rfl (by kernel_rfl) (by kernel_rfl) (by kernel_rfl) (fun _ _ _ h => h) rfl rfl (Val.indexAddrN rfl rfl Try.underlying22 Try.sizeOf36 (by omega)) ?_) | (refine RW.v 16 rfl (by kernel_rfl) (by kernel_rfl) (by kernel_rfl) (fun _ _ _ h => h) rfl rfl (Val.indexAddr rfl rfl Try.underlying22 Try.sizeOf36 (by omega) (by omega)) ?_)
            refine RW.eN 17 rfl (by kernel_rfl) rfl (Eff.storeFl (enc := Sto.cells) (sz := 14) rfl rfl (by repeat (first | exact .here | apply Upd.there)) sto_len (by first | omega | (simp only [List.length_set]; omega)) Try.sizeOf36 sto_one) (fun x => ⟨_, (by repeat (first | exact .nil | apply Pick.cons | exact .here | apply Ext.there))⟩) ?_
            intro _ _
            refine RW.done (by kernel_rfl) ?_
            refine PQ.in_normal ?_
            refine PQ.seq ?_
            refine CW.region ?_
            refine LW.v rfl rfl (Val.move rfl) ?_
            refine LW.v rfl rfl (Val.ar rfl rfl rfl (IntWalk.i64_in _ (by omega))) ?_
            refine LW.v rfl rfl (Val.assign rfl) ?_
            refine LW.nil ?_
            rw [hsw]
            refine PQ.round (t + 1) (by omega) (by omega) (by repeat (first | exact trivial | refine ⟨rfl, ?_⟩)) (by repeat (first | exact .nil | apply Pick.cons | exact .here | apply Ext.there))
        · replace h58 := bF h58
          refine CW.exit ?_
          refine PQ.then_exit ?_
          refine PQ.then_exit ?_
          refine PQ.in_here ?_
          refine PQ.seq ?_
          refine CW.ret ?_
          refine PQ.then_ret ?_
          refine PQ.ret0 rfl ?_
          intro w' hw
          obtain rfl : t = s := by omega
          exact ⟨B.take t ++ x :: B.drop t, ⟨ins_sta' B t x hk3, ins_up hB t x hk4 (fun z hz => by have := hk3 z hz; omega)⟩, rfl, hw⟩
    · replace h28 := bF h28
      refine CW.skip ?_
      refine PQ.seq ?_
      refine CW.seq ?_
      refine CW.seq ?_
      refine CW.region ?_
      refine LW.v rfl rfl (Val.move rfl) ?_
      refine LW.v rfl rfl (Val.move rfl) ?_
      refine LW.v rfl rfl (Val.ar rfl rfl rfl (IntWalk.i64_in _ (by omega))) ?_
      refine LW.v rfl rfl (Val.cmp rfl rfl rfl) ?_
      refine LW.nil ?_
      refine PQ.seq ?_
      refine CW.cond rfl (fun h80 => ?_) (fun h80 => ?_)
      · replace h80 := bT h80
        obtain ⟨y, rfl⟩ := List.length_eq_one_iff.1 (by omega : B.length = 1)
        have hby : m + 1 = b := hb
        refine CW.seq ?_
        refine CW.region ?_
        refine LW.v rfl rfl (Val.move rfl) ?_
        refine LW.v rfl rfl (Val.assign rfl) ?_
        refine LW.nil ?_
        refine PQ.seq ?_
        refine CW.seq ?_
        refine CW.region ?_
        refine LW.v rfl rfl (Val.move rfl) ?_
        refine LW.v rfl rfl (Val.assign rfl) ?_
        refine LW.nil ?_
        refine PQ.seq ?_
        refine CW.seq ?_
        refine CW.block ?_
        refine CW.loop (γ := Nat × Nat) (fun k => [(0, .slice (some ⟨g, 0, none⟩) n cap), (1, .int .i64 ((a : Nat) : Int)), (2, .int .i64 ((m : Nat) : Int)), (4, .func (.func 44) #[] #[]), (14, .int .i64 ((a + k.1 : Nat) : Int)), (15, .int .i64 ((a + k.2 : Nat) : Int))]) (fun _ => [[(g, .cells ((X ++ (A ++ ([y] ++ Y))).flatMap Sto.cells ++ rest).toArray 36 (0, 0))]]) (fun k => k.1 ≤ k.2 ∧ k.2 ≤ A.length ∧ (∀ z ∈ A.take k.1, z.en ≤ y.en) ∧ (∀ z ∈ A.drop k.2, y.en < z.en)) (fun k => k.2 - k.1) ((0, A.length)) ⟨Nat.zero_le _, Nat.le_refl _, by simp, by simp⟩ (by exact ⟨rfl, rfl, rfl, rfl, rfl, congrArg (fun z : Int => some (Value.int .i64 z)) (by first | omega | (simp only; omega)), trivial⟩) (by repeat (first | exact .nil | apply Pick.cons | exact .here | apply Ext.there)) ?_
        intro k
        rintro ⟨hk1, hk2, hk3, hk4⟩
        refine CW.seq ?_
        refine CW.seq ?_
        refine CW.region ?_
        refine LW.v rfl rfl (Val.move rfl) ?_
        refine LW.v rfl rfl (Val.move rfl) ?_
        refine LW.v rfl rfl (Val.cmp rfl rfl rfl) ?_
        refine LW.nil ?_
        refine PQ.seq ?_
        refine CW.cond rfl (fun h85 => ?_) (fun h85 => ?_)
        · replace h85 := bT h85
          obtain ⟨c, hc⟩ : ∃ c, c = (k.1 + k.2) / 2 := ⟨_, rfl⟩
          obtain ⟨z, hz⟩ : ∃ z, A[c]? = some z := ⟨A[c]'(by omega), by simp⟩
          have h1 : (X ++ (A ++ ([y] ++ Y)))[m]? = some y := by rw [List.getElem?_append_right (by omega), List.getElem?_append_right (by omega)]; rw [show m - X.length - A.length = 0 by omega]; rfl
          have h2 : (X ++ (A ++ ([y] ++ Y)))[a + c]? = some z := by rw [List.getElem?_append_right (by omega), List.getElem?_append_left (by omega), show a + c - X.length = c by omega]; exact hz
          refine CW.skip ?_
          refine PQ.seq ?_
          refine CW.block ?_
          refine CW.seq ?_
          refine CW.region ?_
          refine LW.v rfl rfl (Val.move rfl) ?_
          refine LW.v rfl rfl (Val.move rfl) ?_
          refine LW.v rfl rfl (Val.ar rfl rfl rfl (IntWalk.i64_in _ (by omega))) ?_
          refine LW.v rfl rfl (Val.convI rfl Try.underlying3 Try.underlying97) ?_
          refine LW.v rfl rfl (Val.shr rfl rfl (by omega)) ?_
          refine LW.v rfl rfl (Val.convI rfl Try.underlying97 Try.underlying3) ?_
          refine LW.re 91 (.int .i64 ((a + c : Nat) : Int)) rfl (mid_eq (a + k.1) (a + k.2) _ (by omega) (by omega)) ?_
          refine LW.v rfl rfl (Val.assign rfl) ?_
          refine LW.nil ?_
          refine PQ.seq ?_
          refine CW.seq ?_
          refine CW.quiet mixed (by kernel_rfl) ?_
          refine QW.v rfl rfl (Val.move rfl) ?_
          refine QW.v rfl rfl (Val.move rfl) ?_
          refine QW.v rfl rfl (Val.move rfl) ?_
          first | (refine QW.v rfl rfl (Val.indexAddrN rfl rfl Try.underlying22 Try.sizeOf36 (by omega)) ?_) | (refine QW.v rfl rfl (Val.indexAddr rfl rfl Try.underlying22 Try.sizeOf36 (by omega) (by omega)) ?_)
          refine QW.v rfl rfl (Val.loadFl (enc := Sto.cells) rfl Try.isAgg36 (by repeat (first | exact .here | refine .there ?_)) sto_len h1 Try.sizeOf36) ?_
          refine QW.v rfl rfl (Val.move rfl) ?_
          refine QW.v rfl rfl (Val.move rfl) ?_
          first | (refine QW.v rfl rfl (Val.indexAddrN rfl rfl Try.underlying22 Try.sizeOf36 (by omega)) ?_) | (refine QW.v rfl rfl (Val.indexAddr rfl rfl Try.underlying22 Try.sizeOf36 (by omega) (by omega)) ?_)
          refine QW.v rfl rfl (Val.loadFl (enc := Sto.cells) rfl Try.isAgg36 (by repeat (first | exact .here | refine .there ?_)) sto_len h2 Try.sizeOf36) ?_
          refine QW.c rfl rfl (Qcall.ofF (f := 44) (caps := []) rfl rfl Try.call44 (fun w hw => byEnd_c y z w)) ?_
          refine QW.v rfl rfl (Val.cmp rfl rfl rfl) ?_
          refine QW.v rfl rfl (Val.not rfl) ?_
          refine QW.nil ?_
          refine PQ.seq ?_
          refine CW.cond rfl (fun h103 => ?_) (fun h103 => ?_)
          · replace h103 := bT h103
            rw [cmpE_ge] at h103
            refine CW.region ?_
            refine LW.v rfl rfl (Val.move rfl) ?_
            refine LW.v rfl rfl (Val.ar rfl rfl rfl (IntWalk.i64_in _ (by omega))) ?_
            refine LW.v rfl rfl (Val.assign rfl) ?_
            refine LW.nil ?_
            refine PQ.in_normal ?_
            refine PQ.round ((c + 1, k.2)) ⟨by simp only; omega, hk2, fun x hx => by
              obtain ⟨j, hj1, hj2⟩ := mem_take hx
              have := hA.get hj2 hz (by omega)
              omega, hk4⟩ (by simp only; omega) (by repeat (first | exact trivial | refine ⟨rfl, ?_⟩)) (by repeat (first | exact .nil | apply Pick.cons | exact .here | apply Ext.there))
          · replace h103 := bF h103
            rw [cmpE_lt] at h103
            refine CW.region ?_
            refine LW.v rfl rfl (Val.move rfl) ?_
            refine LW.v rfl rfl (Val.assign rfl) ?_
            refine LW.nil ?_
            refine PQ.in_normal ?_
            refine PQ.round ((k.1, c)) ⟨by simp only; omega, by simp only; omega, hk3, fun x hx => by
              obtain ⟨j, hj1, hj2⟩ := mem_drop hx
              have := hA.get hz hj2 (by omega)
              omega⟩ (by simp only; omega) (by repeat (first | exact trivial | refine ⟨rfl, ?_⟩)) (by repeat (first | exact .nil | apply Pick.cons | exact .here | apply Ext.there))
        · replace h85 := bF h85
          refine CW.exit ?_
          refine PQ.then_exit ?_
          refine PQ.then_exit ?_
          refine PQ.in_here ?_
          refine PQ.seq ?_
          refine CW.seq ?_
          refine CW.seq ?_
          refine CW.region ?_
          refine LW.v rfl rfl (Val.move rfl) ?_
          refine LW.v rfl rfl (Val.assign rfl) ?_
          refine LW.nil ?_
          refine PQ.seq ?_
          refine CW.block ?_
          obtain ⟨s, r⟩ := k
          simp only at hk1 hk2 hk3 hk4 h85
          obtain rfl : s = r := by omega
          rw [show X ++ (A ++ ([y] ++ Y)) = X ++ ((A.take (A.length) ++ y :: A.drop (A.length)) ++ Y) from by simp]
          refine CW.loop (γ := Nat) (fun t => [(0, .slice (some ⟨g, 0, none⟩) n cap), (14, .int .i64 ((a + s : Nat) : Int)), (17, .int .i64 ((a + t : Nat) : Int))]) (fun t => [[(g, .cells ((X ++ ((A.take (t) ++ y :: A.drop (t)) ++ Y)).flatMap Sto.cells ++ rest).toArray 36 (0, 0))]]) (fun t => s ≤ t ∧ t ≤ A.length) (fun t => t - s) (A.length) ⟨hk2, Nat.le_refl _⟩ (by exact ⟨rfl, rfl, congrArg (fun z : Int => some (Value.int .i64 z)) (by first | omega | (simp only; omega)), trivial⟩) (by repeat (first | exact .nil | apply Pick.cons | exact .here | apply Ext.there)) ?_
          intro t
          rintro ⟨ht1, ht2⟩
          refine CW.seq ?_
          refine CW.seq ?_
          refine CW.region ?_
          refine LW.v rfl rfl (Val.move rfl) ?_
          refine LW.v rfl rfl (Val.move rfl) ?_
          refine LW.v rfl rfl (Val.cmp rfl rfl rfl) ?_
          refine LW.nil ?_
          refine PQ.seq ?_
          refine CW.cond rfl (fun h110 => ?_) (fun h110 => ?_)
          · replace h110 := bT h110
            obtain ⟨u, hu⟩ : ∃ u, A[t - 1]? = some u := ⟨A[t - 1]'(by omega), by simp⟩
            have hcc : X ++ ((A.take (t) ++ y :: A.drop (t)) ++ Y) = (X ++ A.take (t - 1)) ++ u :: ([] ++ y :: (A.drop t ++ Y)) := by
              have e := take_snoc hu
              rw [show t - 1 + 1 = t by omega] at e
              rw [e]; simp
            have h1 : (X ++ ((A.take (t) ++ y :: A.drop (t)) ++ Y))[a + t]? = some y := by
              rw [hcc, show (X ++ A.take (t - 1)) ++ u :: ([] ++ y :: (A.drop t ++ Y)) = (X ++ A.take (t - 1) ++ [u]) ++ y :: (A.drop t ++ Y) from by simp]
              exact at_app _ _ _ _ (by simp; omega)
            have h2 : (X ++ ((A.take (t) ++ y :: A.drop (t)) ++ Y))[a + t - 1]? = some u := by rw [hcc]; exact at_app _ _ _ _ (by simp; omega)
            have hsw : ((X ++ ((A.take (t) ++ y :: A.drop (t)) ++ Y)).set (a + t) u).set (a + t - 1) y = X ++ ((A.take (t - 1) ++ y :: A.drop (t - 1)) ++ Y) := by
              rw [hcc, swp' _ _ _ _ _ _ _ (by simp; omega) (by simp; omega)]
              have e := drop_cons hu
              rw [show t - 1 + 1 = t by omega] at e
              rw [e]; simp
            have hll : (X ++ ((A.take (t) ++ y :: A.drop (t)) ++ Y)).length = n := by simp at hlen ⊢; omega
            refine CW.skip ?_
            refine PQ.seq ?_
            refine CW.seq ?_
            refine CW.block ?_
            refine CW.drawn ([]) mixed (by repeat (first | exact .nil | apply Pick.cons | exact .here | apply Ext.there)) ?_
            refine RW.v 0 rfl (by kernel_rfl) (by kernel_rfl) (by kernel_rfl) (fun _ _ _ h => h) rfl rfl (Val.move rfl) ?_
            refine RW.v 1 rfl (by kernel_rfl) (by kernel_rfl) (by kernel_rfl) (fun _ _ _ h => h) rfl rfl (Val.move rfl) ?_
            refine RW.v 2 rfl (by kernel_rfl) (by kernel_rfl) (by kernel_rfl) (fun _ _ _ h => h) rfl rfl (Val.move rfl) ?_
            refine RW.v 3 rfl (by kernel_rfl) (by kernel_rfl) (by kernel_rfl) (fun _ _ _ h => h) rfl rfl (Val.move rfl) ?_
            refine RW.v 4 rfl (by kernel_rfl) (by kernel_rfl) (by kernel_rfl) (fun _ _ _ h => h) rfl rfl (Val.ar rfl rfl rfl (IntWalk.i64_in _ (by omega))) ?_
            refine RW.re 117 (.int .i64 ((a + t - 1 : Nat) : Int)) rfl (by congr 1; omega) ?_
            refine RW.v 5 rfl (by kernel_rfl) (by kernel_rfl) (by kernel_rfl) (fun _ _ _ h => h) rfl rfl (Val.move rfl) ?_
            refine RW.v 6 rfl (by kernel_rfl) (by kernel_rfl) (by kernel_rfl) (fun _ _ _ h => h) rfl rfl (Val.move rfl) ?_
            refine RW.v 7 rfl (by kernel_rfl) (by kernel_rfl) (by kernel_rfl) (fun _ _ _ h => h) rfl rfl (Val.ar rfl rfl rfl (IntWalk.i64_in _ (by omega))) ?_
            refine RW.re 120 (.int .i64 ((a + t - 1 : Nat) : Int)) rfl (by congr 1; omega) ?_
            first | (refine RW.v 8 rfl (by kernel_rfl) (by kernel_rfl) (by kernel_rfl) (fun _ _ _ h => h) rfl rfl (Val.indexAddrN rfl rfl Try.underlying22 Try.sizeOf36 (by omega)) ?_) | (refine RW.v 8 rfl (by kernel_rfl) (by kernel_rfl) (by kernel_rfl) (fun _ _ _ h => h) rfl rfl (Val.indexAddr rfl rfl Try.underlying22 Try.sizeOf36 (by omega) (by omega)) ?_)
            refine RW.v 10 rfl (by kernel_rfl) (by kernel_rfl) (by kernel_rfl) (fun _ _ _ h => h) rfl rfl (Val.move rfl) ?_
            refine RW.v 11 rfl (by kernel_rfl) (by kernel_rfl) (by kernel_rfl) (fun _ _ _ h => h) rfl rfl (Val.move rfl) ?_
            first | (refine RW.v 12 rfl (by kernel_rfl) (by kernel_rfl) (by kernel_rfl) (fun _ _ _ h => h) rfl rfl (Val.indexAddrN rfl rfl Try.underlying22 Try.sizeOf36 (by omega)) ?_) | (refine RW.v 12 rfl (by kernel_rfl) (by kernel_rfl) (by kernel_rfl) (fun _ _ _ h => h) rfl rfl (Val.indexAddr rfl rfl Try.underlying22 Try.sizeOf36 (by omega) (by omega)) ?_)
            refine RW.any [9, 13] (by kernel_rfl) (by simp) ?_
            intro i hi
            simp only [List.mem_cons, List.not_mem_nil, or_false] at hi
            rcases hi with rfl | rfl
            · refine RO.e rfl rfl rfl (Eff.ofVal (Val.loadFl (enc := Sto.cells) rfl Try.isAgg36 (by repeat (first | exact .here | refine .there ?_)) sto_len h2 Try.sizeOf36)) (fun x => ⟨_, (by repeat (first | exact .nil | apply Pick.cons | exact .here | apply Ext.there))⟩) ?_
              intro _ _
              refine RW.e 13 rfl (by kernel_rfl) rfl rfl (Eff.ofVal (Val.loadFl (enc := Sto.cells) rfl Try.isAgg36 (by repeat (first | exact .here | refine .there ?_)) sto_len h1 Try.sizeOf36)) (fun x => ⟨_, (by repeat (first | exact .nil | apply Pick.cons | exact .here | apply Ext.there))⟩) ?_
              intro _ _
              first | (refine RW.v 14 rfl (by kernel_rfl) (by kernel_rfl) (by kernel_rfl) (fun _ _ _ h => h) rfl rfl (Val.indexAddrN rfl rfl Try.underlying22 Try.sizeOf36 (by omega)) ?_) | (refine RW.v 14 rfl (by kernel_rfl) (by kernel_rfl) (by kernel_rfl) (fun _ _ _ h => h) rfl rfl (Val.indexAddr rfl rfl Try.underlying22 Try.sizeOf36 (by omega) (by omega)) ?_)
              refine RW.eN 15 rfl (by kernel_rfl) rfl (Eff.storeFl (enc := Sto.cells) (sz := 14) rfl rfl (by repeat (first | exact .here | apply Upd.there)) sto_len (by first | omega | (simp only [List.length_set]; omega)) Try.sizeOf36 sto_one) (fun x => ⟨_, (by repeat (first | exact .nil | apply Pick.cons | exact .here | apply Ext.there))⟩) ?_
              intro _ _
              first | (refine RW.v 16 rfl (by kernel_rfl) (by kernel_rfl) (by kernel_rfl) (fun _ _ _ h => h) rfl rfl (Val.indexAddrN rfl rfl Try.underlying22 Try.sizeOf36 (by omega)) ?_) | (refine RW.v 16 rfl (by kernel_rfl) (by kernel_rfl) (by kernel_rfl) (fun _ _ _ h => h) rfl rfl (Val.indexAddr rfl rfl Try.underlying22 Try.sizeOf36 (by omega) (by omega)) ?_)
              refine RW.eN 17 rfl (by kernel_rfl) rfl (Eff.storeFl (enc := Sto.cells) (sz := 14) rfl rfl (by repeat (first | exact .here | apply Upd.there)) sto_len (by first | omega | (simp only [List.length_set]; omega)) Try.sizeOf36 sto_one) (fun x => ⟨_, (by repeat (first | exact .nil | apply Pick.cons | exact .here | apply Ext.there))⟩) ?_
              intro _ _
              refine RW.done (by kernel_rfl) ?_
              refine PQ.in_normal ?_
              refine PQ.seq ?_
              refine CW.region ?_
              refine LW.v rfl rfl (Val.move rfl) ?_
              refine LW.v rfl rfl (Val.ar rfl rfl rfl (IntWalk.i64_in _ (by omega))) ?_
              refine LW.re 112 (.int .i64 ((a + (t - 1) : Nat) : Int)) rfl (by congr 1; omega) ?_
              refine LW.v rfl rfl (Val.assign rfl) ?_
              refine LW.nil ?_
              rw [hsw]
              refine PQ.round (t - 1) ⟨by omega, by omega⟩ (by omega) (by repeat (first | exact trivial | refine ⟨rfl, ?_⟩)) (by repeat (first | exact .nil | apply Pick.cons | exact .here | apply Ext.there))
            · refine RO.e rfl rfl rfl (Eff.ofVal (Val.loadFl (enc := Sto.cells) rfl Try.isAgg36 (by repeat (first | exact .here | refine .there ?_)) sto_len h1 Try.sizeOf36)) (fun x => ⟨_, (by repeat (first | exact .nil | apply Pick.cons | exact .here | apply Ext.there))⟩) ?_
              intro _ _
              refine RW.e 9 rfl (by kernel_rfl) rfl rfl (Eff.ofVal (Val.loadFl (enc := Sto.cells) rfl Try.isAgg36 (by repeat (first | exact .here | refine .there ?_)) sto_len h2 Try.sizeOf36)) (fun x => ⟨_, (by repeat (first | exact .nil | apply Pick.cons | exact .here | apply Ext.there))⟩) ?_
              intro _ _
              first | (refine RW.v 14 rfl (by kernel_rfl) (by kernel_rfl) (by kernel_rfl) (fun _ _ _ h => h) rfl rfl (Val.indexAddrN rfl rfl Try.underlying22 Try.sizeOf36 (by omega)) ?_) | (refine RW.v 14 rfl (by kernel_rfl) (by kernel_rfl) (by kernel_rfl) (fun _ _ _ h => h) rfl rfl (Val.indexAddr rfl rfl Try.underlying22 Try.sizeOf36 (by omega) (by omega)) ?_)
              refine RW.eN 15 rfl (by kernel_rfl) rfl (Eff.storeFl (enc := Sto.cells) (sz := 14) rfl rfl (by repeat (first | exact .here | apply Upd.there)) sto_len (by first | omega | (simp only [List.length_set]; omega)) Try.sizeOf36 sto_one) (fun x => ⟨_, (by repeat (first | exact .nil | apply Pick.cons | exact .here | apply Ext.there))⟩) ?_
              intro _ _
              first | (refine RW.v 16 rfl (by kernel_rfl) (by kernel_rfl) (by kernel_rfl) (fun _ _ _ h => h) rfl rfl (Val.indexAddrN rfl rfl Try.underlying22 Try.sizeOf36 (by omega)) ?_) | (refine RW.v 16 rfl (by kernel_rfl) (by kernel_rfl) (by kernel_rfl) (fun _ _ _ h => h) rfl rfl (Val.indexAddr rfl rfl Try.underlying22 Try.sizeOf36 (by omega) (by omega)) ?_)
              refine RW.eN 17 rfl (by kernel_rfl) rfl (Eff.storeFl (enc := Sto.cells) (sz := 14) rfl rfl (by repeat (first | exact .here | apply Upd.there)) sto_len (by first | omega | (simp only [List.length_set]; omega)) Try.sizeOf36 sto_one) (fun x => ⟨_, (by repeat (first | exact .nil | apply Pick.cons | exact .here | apply Ext.there))⟩) ?_
              intro _ _
              refine RW.done (by kernel_rfl) ?_
              refine PQ.in_normal ?_
              refine PQ.seq ?_
              refine CW.region ?_
              refine LW.v rfl rfl (Val.move rfl) ?_
              refine LW.v rfl rfl (Val.ar rfl rfl rfl (IntWalk.i64_in _ (by omega))) ?_
              refine LW.re 112 (.int .i64 ((a + (t - 1) : Nat) : Int)) rfl (by congr 1; omega) ?_
              refine LW.v rfl rfl (Val.assign rfl) ?_
              refine LW.nil ?_
              rw [hsw]
              refine PQ.round (t - 1) ⟨by omega, by omega⟩ (by omega) (by repeat (first | exact trivial | refine ⟨rfl, ?_⟩)) (by repeat (first | exact .nil | apply Pick.cons | exact .here | apply Ext.there))
          · replace h110 := bF h110
            refine CW.exit ?_
            refine PQ.then_exit ?_
            refine PQ.then_exit ?_
            refine PQ.in_here ?_
            refine PQ.seq ?_
            refine CW.ret ?_
            refine PQ.then_ret ?_
            refine PQ.ret0 rfl ?_
            intro w' hw
            obtain rfl : t = s := by omega
            exact ⟨A.take t ++ y :: A.drop t, ⟨ins_sta A t y hk4, ins_up hA t y (fun z hz => by have := hk4 z hz; omega) hk3⟩, rfl, hw⟩
      · replace h80 := bF h80
        refine CW.skip ?_
        refine PQ.seq ?_
        refine CW.seq ?_
        obtain ⟨mid, hmid⟩ : ∃ mid, mid = (a + b) / 2 := ⟨_, rfl⟩
        refine CW.region ?_
        refine LW.v rfl rfl (Val.move rfl) ?_
        refine LW.v rfl rfl (Val.move rfl) ?_
        refine LW.v rfl rfl (Val.ar rfl rfl rfl (IntWalk.i64_in _ (by omega))) ?_
        refine LW.v rfl rfl (Val.convI rfl Try.underlying3 Try.underlying97) ?_
        refine LW.v rfl rfl (Val.shr rfl rfl (by omega)) ?_
        refine LW.v rfl rfl (Val.convI rfl Try.underlying97 Try.underlying3) ?_
        refine LW.re 134 (.int .i64 ((mid : Nat) : Int)) rfl (mid_eq a b _ (by omega) hmid) ?_
        refine LW.v rfl rfl (Val.assign rfl) ?_
        refine LW.nil ?_
        refine PQ.seq ?_
        refine CW.seq ?_
        obtain ⟨nn, hnn⟩ : ∃ nn, nn = mid + m := ⟨_, rfl⟩
        refine CW.region ?_
        refine LW.v rfl rfl (Val.move rfl) ?_
        refine LW.v rfl rfl (Val.move rfl) ?_
        refine LW.v rfl rfl (Val.ar rfl rfl rfl (IntWalk.i64_in _ (by omega))) ?_
        refine LW.re 137 (.int .i64 ((nn : Nat) : Int)) rfl (by congr 1; omega) ?_
        refine LW.v rfl rfl (Val.assign rfl) ?_
        refine LW.nil ?_
        refine PQ.seq ?_
        refine CW.seq ?_
        refine CW.region ?_
        refine LW.v rfl rfl (Val.assign rfl) ?_
        refine LW.v rfl rfl (Val.assign rfl) ?_
        refine LW.nil ?_
        refine PQ.seq ?_
        refine CW.seq ?_
        refine CW.join (fun k : Nat × Nat => k.1 = (if mid < m then nn - b else a) ∧ k.2 = (if mid < m then mid else m)) (fun k => [(0, .slice (some ⟨g, 0, none⟩) n cap), (1, .int .i64 ((a : Nat) : Int)), (2, .int .i64 ((m : Nat) : Int)), (3, .int .i64 ((b : Nat) : Int)), (4, .func (.func 44) #[] #[]), (18, .int .i64 ((mid : Nat) : Int)), (19, .int .i64 ((nn : Nat) : Int)), (20, .int .i64 ((k.1 : Nat) : Int)), (21, .int .i64 ((k.2 : Nat) : Int))]) (fun _ => [[(g, .cells ((X ++ (A ++ (B ++ Y))).flatMap Sto.cells ++ rest).toArray 36 (0, 0))]]) ?_ ?_
        · refine CW.seq ?_
          refine CW.region ?_
          refine LW.v rfl rfl (Val.move rfl) ?_
          refine LW.v rfl rfl (Val.move rfl) ?_
          refine LW.v rfl rfl (Val.cmp rfl rfl rfl) ?_
          refine LW.nil ?_
          refine PQ.seq ?_
          refine CW.cond rfl (fun h140 => ?_) (fun h140 => ?_)
          · replace h140 := bT h140
            refine CW.seq ?_
            refine CW.region ?_
            refine LW.v rfl rfl (Val.move rfl) ?_
            refine LW.v rfl rfl (Val.move rfl) ?_
            refine LW.v rfl rfl (Val.ar rfl rfl rfl (IntWalk.i64_in _ (by omega))) ?_
            refine LW.re 143 (.int .i64 ((nn - b : Nat) : Int)) rfl (by congr 1; omega) ?_
            refine LW.v rfl rfl (Val.assign rfl) ?_
            refine LW.nil ?_
            refine PQ.seq ?_
            refine CW.region ?_
            refine LW.v rfl rfl (Val.move rfl) ?_
            refine LW.v rfl rfl (Val.assign rfl) ?_
            refine LW.nil ?_
            refine PQ.joinedC ((nn - b, mid)) (⟨by rw [if_pos (by omega)], by rw [if_pos (by omega)]⟩) (by repeat (first | exact trivial | refine ⟨rfl, ?_⟩)) (by repeat (first | exact .nil | apply Pick.cons | exact .here | apply Ext.there))
          · replace h140 := bF h140
            refine CW.seq ?_
            refine CW.region ?_
            refine LW.v rfl rfl (Val.move rfl) ?_
            refine LW.v rfl rfl (Val.assign rfl) ?_
            refine LW.nil ?_
            refine PQ.seq ?_
            refine CW.region ?_
            refine LW.v rfl rfl (Val.move rfl) ?_
            refine LW.v rfl rfl (Val.assign rfl) ?_
            refine LW.nil ?_
            refine PQ.joinedC ((a, m)) (⟨by rw [if_neg (by omega)], by rw [if_neg (by omega)]⟩) (by repeat (first | exact trivial | refine ⟨rfl, ?_⟩)) (by repeat (first | exact .nil | apply Pick.cons | exact .here | apply Ext.there))
        · rintro ⟨lo, hi⟩ ⟨hlo, hhi⟩
          simp only at hlo hhi
          have hlh : lo ≤ hi := by split at hlo <;> split at hhi <;> omega
          refine PQ.seq ?_
          refine CW.seq ?_
          refine CW.region ?_
          refine LW.v rfl rfl (Val.move rfl) ?_
          refine LW.v rfl rfl (Val.ar rfl rfl rfl (IntWalk.i64_in _ (by omega))) ?_
          refine LW.re 148 (.int .i64 ((nn - 1 : Nat) : Int)) rfl (by congr 1; omega) ?_
          refine LW.v rfl rfl (Val.assign rfl) ?_
          refine LW.nil ?_
          refine PQ.seq ?_
          refine CW.seq ?_
          refine CW.block ?_
          refine CW.loop (γ := Nat × Nat) (fun k => [(0, .slice (some ⟨g, 0, none⟩) n cap), (1, .int .i64 ((a : Nat) : Int)), (2, .int .i64 ((m : Nat) : Int)), (3, .int .i64 ((b : Nat) : Int)), (4, .func (.func 44) #[] #[]), (18, .int .i64 ((mid : Nat) : Int)), (19, .int .i64 ((nn : Nat) : Int)), (22, .int .i64 ((nn - 1 : Nat) : Int)), (20, .int .i64 ((k.1 : Nat) : Int)), (21, .int .i64 ((k.2 : Nat) : Int))]) (fun _ => [[(g, .cells ((X ++ (A ++ (B ++ Y))).flatMap Sto.cells ++ rest).toArray 36 (0, 0))]]) (fun k => lo ≤ k.1 ∧ k.1 ≤ k.2 ∧ k.2 ≤ hi ∧ (k.1 = lo ∨ ∃ u v, (X ++ (A ++ (B ++ Y)))[k.1 - 1]? = some u ∧ (X ++ (A ++ (B ++ Y)))[nn - k.1]? = some v ∧ u.en ≤ v.en) ∧ (k.2 = hi ∨ ∃ u v, (X ++ (A ++ (B ++ Y)))[k.2]? = some u ∧ (X ++ (A ++ (B ++ Y)))[nn - 1 - k.2]? = some v ∧ v.en < u.en)) (fun k => k.2 - k.1) ((lo, hi)) ⟨Nat.le_refl _, by simp only; omega, Nat.le_refl _, .inl rfl, .inl rfl⟩ (by repeat (first | exact trivial | refine ⟨rfl, ?_⟩)) (by repeat (first | exact .nil | apply Pick.cons | exact .here | apply Ext.there)) ?_
          intro k
          rintro ⟨hk1, hk2, hk3, hk4, hk5⟩
          refine CW.seq ?_
          refine CW.seq ?_
          refine CW.region ?_
          refine LW.v rfl rfl (Val.move rfl) ?_
          refine LW.v rfl rfl (Val.move rfl) ?_
          refine LW.v rfl rfl (Val.cmp rfl rfl rfl) ?_
          refine LW.nil ?_
          refine PQ.seq ?_
          refine CW.cond rfl (fun h151 => ?_) (fun h151 => ?_)
          · replace h151 := bT h151
            obtain ⟨c, hc⟩ : ∃ c, c = (k.1 + k.2) / 2 := ⟨_, rfl⟩
            have hcl : a ≤ c ∧ c < m ∧ m ≤ nn - 1 - c ∧ nn - 1 - c < b := by split at hlo <;> split at hhi <;> omega
            obtain ⟨u, hu⟩ : ∃ u, (X ++ (A ++ (B ++ Y)))[c]? = some u := ⟨_, List.getElem?_eq_getElem (by rw [hn]; omega)⟩
            obtain ⟨v, hv⟩ : ∃ v, (X ++ (A ++ (B ++ Y)))[nn - 1 - c]? = some v := ⟨_, List.getElem?_eq_getElem (by rw [hn]; omega)⟩
            refine CW.skip ?_
            refine PQ.seq ?_
            refine CW.block ?_
            refine CW.seq ?_
            refine CW.region ?_
            refine LW.v rfl rfl (Val.move rfl) ?_
            refine LW.v rfl rfl (Val.move rfl) ?_
            refine LW.v rfl rfl (Val.ar rfl rfl rfl (IntWalk.i64_in _ (by omega))) ?_
            refine LW.v rfl rfl (Val.convI rfl Try.underlying3 Try.underlying97) ?_
            refine LW.v rfl rfl (Val.shr rfl rfl (by omega)) ?_
            refine LW.v rfl rfl (Val.convI rfl Try.underlying97 Try.underlying3) ?_
            refine LW.re 157 (.int .i64 ((c : Nat) : Int)) rfl (mid_eq k.1 k.2 _ (by split at hhi <;> omega) hc) ?_
            refine LW.v rfl rfl (Val.assign rfl) ?_
            refine LW.nil ?_
            refine PQ.seq ?_
            refine CW.seq ?_
            refine CW.quiet mixed (by kernel_rfl) ?_
            refine QW.v rfl rfl (Val.move rfl) ?_
            refine QW.v rfl rfl (Val.move rfl) ?_
            refine QW.v rfl rfl (Val.move rfl) ?_
            refine QW.v rfl rfl (Val.move rfl) ?_
            refine QW.v rfl rfl (Val.ar rfl rfl rfl (IntWalk.i64_in _ (by omega))) ?_
            refine QW.re 162 (.int .i64 ((nn - 1 - c : Nat) : Int)) rfl (by congr 1; omega) ?_
            first | (refine QW.v rfl rfl (Val.indexAddrN rfl rfl Try.underlying22 Try.sizeOf36 (by omega)) ?_) | (refine QW.v rfl rfl (Val.indexAddr rfl rfl Try.underlying22 Try.sizeOf36 (by omega) (by omega)) ?_)
            refine QW.v rfl rfl (Val.loadFl (enc := Sto.cells) rfl Try.isAgg36 (by repeat (first | exact .here | refine .there ?_)) sto_len hv Try.sizeOf36) ?_
            refine QW.v rfl rfl (Val.move rfl) ?_
            refine QW.v rfl rfl (Val.move rfl) ?_
            first | (refine QW.v rfl rfl (Val.indexAddrN rfl rfl Try.underlying22 Try.sizeOf36 (by omega)) ?_) | (refine QW.v rfl rfl (Val.indexAddr rfl rfl Try.underlying22 Try.sizeOf36 (by omega) (by omega)) ?_)
            refine QW.v rfl rfl (Val.loadFl (enc := Sto.cells) rfl Try.isAgg36 (by repeat (first | exact .here | refine .there ?_)) sto_len hu Try.sizeOf36) ?_
            refine QW.c rfl rfl (Qcall.ofF (f := 44) (caps := []) rfl rfl Try.call44 (fun w hw => byEnd_c v u w)) ?_
            refine QW.v rfl rfl (Val.cmp rfl rfl rfl) ?_
            refine QW.v rfl rfl (Val.not rfl) ?_
            refine QW.nil ?_
            refine PQ.seq ?_
            refine CW.cond rfl (fun h171 => ?_) (fun h171 => ?_)
            · replace h171 := bT h171
              rw [cmpE_ge] at h171
              refine CW.region ?_
              refine LW.v rfl rfl (Val.move rfl) ?_
              refine LW.v rfl rfl (Val.ar rfl rfl rfl (IntWalk.i64_in _ (by omega))) ?_
              refine LW.v rfl rfl (Val.assign rfl) ?_
              refine LW.nil ?_
              refine PQ.in_normal ?_
              refine PQ.round ((c + 1, k.2)) ⟨by simp only; omega, by simp only; omega, hk3, .inr ⟨u, v, by simpa using hu, by rw [show nn - (c + 1) = nn - 1 - c by omega]; exact hv, by omega⟩, hk5⟩ (by simp only; omega) (by repeat (first | exact trivial | refine ⟨rfl, ?_⟩)) (by repeat (first | exact .nil | apply Pick.cons | exact .here | apply Ext.there))
            · replace h171 := bF h171
              rw [cmpE_lt] at h171
              refine CW.region ?_
              refine LW.v rfl rfl (Val.move rfl) ?_
              refine LW.v rfl rfl (Val.assign rfl) ?_
              refine LW.nil ?_
              refine PQ.in_normal ?_
              refine PQ.round ((k.1, c)) ⟨hk1, by simp only; omega, by simp only; omega, hk4, .inr ⟨u, v, hu, hv, by omega⟩⟩ (by simp only; omega) (by repeat (first | exact trivial | refine ⟨rfl, ?_⟩)) (by repeat (first | exact .nil | apply Pick.cons | exact .here | apply Ext.there))
          · replace h151 := bF h151
            obtain ⟨s, r⟩ := k
            simp only at hk1 hk2 hk3 hk4 hk5 h151
            obtain rfl : s = r := by omega
            obtain ⟨A1, A2, B1, B2, rfl, rfl, hs1, he1, hsn, hmd, hx1, hx2⟩ := sym_core (Y := Y) hA hB ha hmm hb hmid hnn hlo hhi hk1 hk3 hk4 hk5
            refine CW.exit ?_
            refine PQ.then_exit ?_
            refine PQ.then_exit ?_
            refine PQ.in_here ?_
            refine PQ.seq ?_
            refine CW.seq ?_
            refine CW.region ?_
            refine LW.v rfl rfl (Val.move rfl) ?_
            refine LW.v rfl rfl (Val.move rfl) ?_
            refine LW.v rfl rfl (Val.ar rfl rfl rfl (IntWalk.i64_in _ (by omega))) ?_
            refine LW.re 177 (.int .i64 ((nn - s : Nat) : Int)) rfl (by congr 1; omega) ?_
            refine LW.v rfl rfl (Val.assign rfl) ?_
            refine LW.nil ?_
            refine PQ.seq ?_
            refine CW.seq ?_
            refine CW.seq ?_
            refine CW.region ?_
            refine LW.v rfl rfl (Val.move rfl) ?_
            refine LW.v rfl rfl (Val.move rfl) ?_
            refine LW.v rfl rfl (Val.cmp rfl rfl rfl) ?_
            refine LW.v rfl rfl (Val.move rfl) ?_
            refine LW.split (d := 181) rfl (fun h181 => ?_) (fun h181 => ?_)
            · replace h181 := bT h181
              refine LW.v rfl rfl (Val.move rfl) ?_
              refine LW.v rfl rfl (Val.move rfl) ?_
              refine LW.v rfl rfl (Val.cmp rfl rfl rfl) ?_
              refine LW.v rfl rfl (Val.pick_t rfl rfl) ?_
              refine LW.nil ?_
              refine PQ.seq ?_
              refine CW.cond rfl (fun h185 => ?_) (fun h185 => ?_)
              · replace h185 := bT h185
                refine CW.region ?_
                refine LW.v rfl rfl (Val.move rfl) ?_
                refine LW.v rfl rfl (Val.move rfl) ?_
                refine LW.v rfl rfl (Val.move rfl) ?_
                refine LW.v rfl rfl (Val.move rfl) ?_
                refine LW.v rfl rfl (Val.move rfl) ?_
                refine LW.e rfl rfl (Eff.callM ([[(g, .cells ((X ++ ((A1 ++ A2) ++ ((B1 ++ B2) ++ Y))).flatMap Sto.cells ++ rest).toArray 36 (0, 0))]]) (by repeat (first | exact .nil | apply Pick.cons | exact .here | apply Ext.there)) rfl Try.call94 (fun w hw hs => rot_c g cap n s m (nn - s) rest (X ++ A1) A2 B1 (B2 ++ Y) (X ++ ((A1 ++ A2) ++ ((B1 ++ B2) ++ Y))) (X ++ ((A1 ++ B1) ++ ((A2 ++ B2) ++ Y))) (by simp) (by simp) hn (by simp; omega) (by simp at hmm; omega) (by omega) (by simp at hmm; omega) (by omega) hm w hs)) ?_
                intro _ _
                refine LW.nil ?_
                refine PQ.seq ?_
                refine CW.seq ?_
                refine CW.seq ?_
                refine CW.region ?_
                refine LW.v rfl rfl (Val.move rfl) ?_
                refine LW.v rfl rfl (Val.move rfl) ?_
                refine LW.v rfl rfl (Val.cmp rfl rfl rfl) ?_
                refine LW.v rfl rfl (Val.move rfl) ?_
                refine LW.split (d := 195) rfl (fun h195 => ?_) (fun h195 => ?_)
                · replace h195 := bT h195
                  refine LW.v rfl rfl (Val.move rfl) ?_
                  refine LW.v rfl rfl (Val.move rfl) ?_
                  refine LW.v rfl rfl (Val.cmp rfl rfl rfl) ?_
                  refine LW.v rfl rfl (Val.pick_t rfl rfl) ?_
                  refine LW.nil ?_
                  refine PQ.seq ?_
                  refine CW.cond rfl (fun h199 => ?_) (fun h199 => ?_)
                  · replace h199 := bT h199
                    refine CW.region ?_
                    refine LW.v rfl rfl (Val.move rfl) ?_
                    refine LW.v rfl rfl (Val.move rfl) ?_
                    refine LW.v rfl rfl (Val.move rfl) ?_
                    refine LW.v rfl rfl (Val.move rfl) ?_
                    refine LW.v rfl rfl (Val.move rfl) ?_
                    refine LW.e rfl rfl (Eff.callM ([[(g, .cells ((X ++ ((A1 ++ B1) ++ ((A2 ++ B2) ++ Y))).flatMap Sto.cells ++ rest).toArray 36 (0, 0))]]) (by repeat (first | exact .nil | apply Pick.cons | exact .here | apply Ext.there)) rfl Try.call79 (fun w hw hs => ih a s mid X A1 B1 ((A2 ++ B2) ++ Y) (X ++ ((A1 ++ B1) ++ ((A2 ++ B2) ++ Y))) (by simp at hN hmm hb; omega) (by simp) (by rw [← hn]; simp; omega) ha hs1.symm (by omega) (by omega) (by omega) hA.of_app.1 hB.of_app.1 w hs)) ?_
                    intro M1 hM1
                    refine LW.nil ?_
                    refine PQ.seq ?_
                    refine CW.seq ?_
                    refine CW.region ?_
                    refine LW.v rfl rfl (Val.move rfl) ?_
                    refine LW.v rfl rfl (Val.move rfl) ?_
                    refine LW.v rfl rfl (Val.cmp rfl rfl rfl) ?_
                    refine LW.v rfl rfl (Val.move rfl) ?_
                    refine LW.split (d := 209) rfl (fun h209 => ?_) (fun h209 => ?_)
                    · replace h209 := bT h209
                      refine LW.v rfl rfl (Val.move rfl) ?_
                      refine LW.v rfl rfl (Val.move rfl) ?_
                      refine LW.v rfl rfl (Val.cmp rfl rfl rfl) ?_
                      refine LW.v rfl rfl (Val.pick_t rfl rfl) ?_
                      refine LW.nil ?_
                      refine PQ.seq ?_
                      refine CW.cond rfl (fun h213 => ?_) (fun h213 => ?_)
                      · replace h213 := bT h213
                        refine CW.region ?_
                        refine LW.v rfl rfl (Val.move rfl) ?_
                        refine LW.v rfl rfl (Val.move rfl) ?_
                        refine LW.v rfl rfl (Val.move rfl) ?_
                        refine LW.v rfl rfl (Val.move rfl) ?_
                        refine LW.v rfl rfl (Val.move rfl) ?_
                        refine LW.e rfl rfl (Eff.callM ([[(g, .cells ((X ++ (M1 ++ ((A2 ++ B2) ++ Y))).flatMap Sto.cells ++ rest).toArray 36 (0, 0))]]) (by repeat (first | exact .nil | apply Pick.cons | exact .here | apply Ext.there)) rfl Try.call79 (fun w hw hs => ih mid (nn - s) b (X ++ M1) A2 B2 Y (X ++ (M1 ++ ((A2 ++ B2) ++ Y))) (by simp at hN hmm hb; omega) (by simp) (by rw [← hn]; have := hM1.1.1; simp at this ⊢; omega) (by have := hM1.1.1; simp at this ⊢; omega) (by simp at hmm; omega) (by simp at hb; omega) (by simp at hmm; omega) (by simp at hb; omega) hA.of_app.2.1 hB.of_app.2.1 w hs)) ?_
                        intro M2 hM2
                        refine LW.nil ?_
                        refine PQ.end0 rfl ?_
                        intro w' hw
                        rw [show (X ++ M1) ++ (M2 ++ Y) = X ++ ((M1 ++ M2) ++ Y) from by simp] at hw
                        exact ⟨M1 ++ M2, sym_fin hA hB hx1 hx2 hM1 hM2, rfl, hw⟩
                      · replace h213 := bF h213
                        refine CW.skip ?_
                        refine PQ.end0 rfl ?_
                        intro w' hw
                        have hM2 : Sta Sto.en (A2 ++ B2) (A2 ++ B2) ∧ Up Sto.en (A2 ++ B2) := ⟨Sta.refl _, by
                          have : A2.length = 0 ∨ B2.length = 0 := by simp at hmm hb; omega
                          rcases this with h | h
                          · have := List.length_eq_zero_iff.1 h; subst this; exact hB.of_app.2.1
                          · have := List.length_eq_zero_iff.1 h; subst this; rw [List.append_nil]; exact hA.of_app.2.1⟩
                        rw [show X ++ (M1 ++ ((A2 ++ B2) ++ Y)) = X ++ ((M1 ++ (A2 ++ B2)) ++ Y) from by simp] at hw
                        exact ⟨M1 ++ (A2 ++ B2), sym_fin hA hB hx1 hx2 hM1 hM2, rfl, hw⟩
                    · replace h209 := bF h209
                      refine LW.p rfl rfl ?_
                      refine LW.p rfl rfl ?_
                      refine LW.p rfl rfl ?_
                      refine LW.v rfl rfl (Val.pick_f rfl rfl) ?_
                      refine LW.nil ?_
                      refine PQ.seq ?_
                      refine CW.cond_f rfl ?_
                      refine CW.skip ?_
                      refine PQ.end0 rfl ?_
                      intro w' hw
                      have hM2 : Sta Sto.en (A2 ++ B2) (A2 ++ B2) ∧ Up Sto.en (A2 ++ B2) := ⟨Sta.refl _, by
                        have : A2.length = 0 ∨ B2.length = 0 := by simp at hmm hb; omega
                        rcases this with h | h
                        · have := List.length_eq_zero_iff.1 h; subst this; exact hB.of_app.2.1
                        · have := List.length_eq_zero_iff.1 h; subst this; rw [List.append_nil]; exact hA.of_app.2.1⟩
                      rw [show X ++ (M1 ++ ((A2 ++ B2) ++ Y)) = X ++ ((M1 ++ (A2 ++ B2)) ++ Y) from by simp] at hw
                      exact ⟨M1 ++ (A2 ++ B2), sym_fin hA hB hx1 hx2 hM1 hM2, rfl, hw⟩
                  · replace h199 := bF h199
                    refine CW.skip ?_
                    refine PQ.seq ?_
                    refine CW.seq ?_
                    obtain ⟨M1, hM1, hE⟩ : ∃ M1, (Sta Sto.en (A1 ++ B1) M1 ∧ Up Sto.en M1) ∧ A1 ++ B1 = M1 := ⟨_, ⟨Sta.refl _, by
                      have : A1.length = 0 ∨ B1.length = 0 := by omega
                      rcases this with h | h
                      · have := List.length_eq_zero_iff.1 h; subst this; exact hB.of_app.1
                      · have := List.length_eq_zero_iff.1 h; subst this; rw [List.append_nil]; exact hA.of_app.1⟩, rfl⟩
                    rw [hE]
                    refine CW.region ?_
                    refine LW.v rfl rfl (Val.move rfl) ?_
                    refine LW.v rfl rfl (Val.move rfl) ?_
                    refine LW.v rfl rfl (Val.cmp rfl rfl rfl) ?_
                    refine LW.v rfl rfl (Val.move rfl) ?_
                    refine LW.split (d := 209) rfl (fun h209 => ?_) (fun h209 => ?_)
                    · replace h209 := bT h209
                      refine LW.v rfl rfl (Val.move rfl) ?_
                      refine LW.v rfl rfl (Val.move rfl) ?_
                      refine LW.v rfl rfl (Val.cmp rfl rfl rfl) ?_
                      refine LW.v rfl rfl (Val.pick_t rfl rfl) ?_
                      refine LW.nil ?_
                      refine PQ.seq ?_
                      refine CW.cond rfl (fun h213 => ?_) (fun h213 => ?_)
                      · replace h213 := bT h213
                        refine CW.region ?_
                        refine LW.v rfl rfl (Val.move rfl) ?_
                        refine LW.v rfl rfl (Val.move rfl) ?_
                        refine LW.v rfl rfl (Val.move rfl) ?_
                        refine LW.v rfl rfl (Val.move rfl) ?_
                        refine LW.v rfl rfl (Val.move rfl) ?_
                        refine LW.e rfl rfl (Eff.callM ([[(g, .cells ((X ++ (M1 ++ ((A2 ++ B2) ++ Y))).flatMap Sto.cells ++ rest).toArray 36 (0, 0))]]) (by repeat (first | exact .nil | apply Pick.cons | exact .here | apply Ext.there)) rfl Try.call79 (fun w hw hs => ih mid (nn - s) b (X ++ M1) A2 B2 Y (X ++ (M1 ++ ((A2 ++ B2) ++ Y))) (by simp at hN hmm hb; omega) (by simp) (by rw [← hn]; have := hM1.1.1; simp at this ⊢; omega) (by have := hM1.1.1; simp at this ⊢; omega) (by simp at hmm; omega) (by simp at hb; omega) (by simp at hmm; omega) (by simp at hb; omega) hA.of_app.2.1 hB.of_app.2.1 w hs)) ?_
                        intro M2 hM2
                        refine LW.nil ?_
                        refine PQ.end0 rfl ?_
                        intro w' hw
                        rw [show (X ++ M1) ++ (M2 ++ Y) = X ++ ((M1 ++ M2) ++ Y) from by simp] at hw
                        exact ⟨M1 ++ M2, sym_fin hA hB hx1 hx2 hM1 hM2, rfl, hw⟩
                      · replace h213 := bF h213
                        refine CW.skip ?_
                        refine PQ.end0 rfl ?_
                        intro w' hw
                        have hM2 : Sta Sto.en (A2 ++ B2) (A2 ++ B2) ∧ Up Sto.en (A2 ++ B2) := ⟨Sta.refl _, by
                          have : A2.length = 0 ∨ B2.length = 0 := by simp at hmm hb; omega
                          rcases this with h | h
                          · have := List.length_eq_zero_iff.1 h; subst this; exact hB.of_app.2.1
                          · have := List.length_eq_zero_iff.1 h; subst this; rw [List.append_nil]; exact hA.of_app.2.1⟩
                        rw [show X ++ (M1 ++ ((A2 ++ B2) ++ Y)) = X ++ ((M1 ++ (A2 ++ B2)) ++ Y) from by simp] at hw
                        exact ⟨M1 ++ (A2 ++ B2), sym_fin hA hB hx1 hx2 hM1 hM2, rfl, hw⟩
                    · replace h209 := bF h209
                      refine LW.p rfl rfl ?_
                      refine LW.p rfl rfl ?_
                      refine LW.p rfl rfl ?_
                      refine LW.v rfl rfl (Val.pick_f rfl rfl) ?_
                      refine LW.nil ?_
                      refine PQ.seq ?_
                      refine CW.cond_f rfl ?_
                      refine CW.skip ?_
                      refine PQ.end0 rfl ?_
                      intro w' hw
                      have hM2 : Sta Sto.en (A2 ++ B2) (A2 ++ B2) ∧ Up Sto.en (A2 ++ B2) := ⟨Sta.refl _, by
                        have : A2.length = 0 ∨ B2.length = 0 := by simp at hmm hb; omega
                        rcases this with h | h
                        · have := List.length_eq_zero_iff.1 h; subst this; exact hB.of_app.2.1
                        · have := List.length_eq_zero_iff.1 h; subst this; rw [List.append_nil]; exact hA.of_app.2.1⟩
                      rw [show X ++ (M1 ++ ((A2 ++ B2) ++ Y)) = X ++ ((M1 ++ (A2 ++ B2)) ++ Y) from by simp] at hw
                      exact ⟨M1 ++ (A2 ++ B2), sym_fin hA hB hx1 hx2 hM1 hM2, rfl, hw⟩
                · replace h195 := bF h195
                  refine LW.p rfl rfl ?_
                  refine LW.p rfl rfl ?_
                  refine LW.p rfl rfl ?_
                  refine LW.v rfl rfl (Val.pick_f rfl rfl) ?_
                  refine LW.nil ?_
                  refine PQ.seq ?_
                  refine CW.cond_f rfl ?_
                  refine CW.skip ?_
                  refine PQ.seq ?_
                  refine CW.seq ?_
                  obtain ⟨M1, hM1, hE⟩ : ∃ M1, (Sta Sto.en (A1 ++ B1) M1 ∧ Up Sto.en M1) ∧ A1 ++ B1 = M1 := ⟨_, ⟨Sta.refl _, by
                    have : A1.length = 0 ∨ B1.length = 0 := by omega
                    rcases this with h | h
                    · have := List.length_eq_zero_iff.1 h; subst this; exact hB.of_app.1
                    · have := List.length_eq_zero_iff.1 h; subst this; rw [List.append_nil]; exact hA.of_app.1⟩, rfl⟩
                  rw [hE]
                  refine CW.region ?_
                  refine LW.v rfl rfl (Val.move rfl) ?_
                  refine LW.v rfl rfl (Val.move rfl) ?_
                  refine LW.v rfl rfl (Val.cmp rfl rfl rfl) ?_
                  refine LW.v rfl rfl (Val.move rfl) ?_
                  refine LW.split (d := 209) rfl (fun h209 => ?_) (fun h209 => ?_)
                  · replace h209 := bT h209
                    refine LW.v rfl rfl (Val.move rfl) ?_
                    refine LW.v rfl rfl (Val.move rfl) ?_
                    refine LW.v rfl rfl (Val.cmp rfl rfl rfl) ?_
                    refine LW.v rfl rfl (Val.pick_t rfl rfl) ?_
                    refine LW.nil ?_
                    refine PQ.seq ?_
                    refine CW.cond rfl (fun h213 => ?_) (fun h213 => ?_)
                    · replace h213 := bT h213
                      refine CW.region ?_
                      refine LW.v rfl rfl (Val.move rfl) ?_
                      refine LW.v rfl rfl (Val.move rfl) ?_
                      refine LW.v rfl rfl (Val.move rfl) ?_
                      refine LW.v rfl rfl (Val.move rfl) ?_
                      refine LW.v rfl rfl (Val.move rfl) ?_
                      refine LW.e rfl rfl (Eff.callM ([[(g, .cells ((X ++ (M1 ++ ((A2 ++ B2) ++ Y))).flatMap Sto.cells ++ rest).toArray 36 (0, 0))]]) (by repeat (first | exact .nil | apply Pick.cons | exact .here | apply Ext.there)) rfl Try.call79 (fun w hw hs => ih mid (nn - s) b (X ++ M1) A2 B2 Y (X ++ (M1 ++ ((A2 ++ B2) ++ Y))) (by simp at hN hmm hb; omega) (by simp) (by rw [← hn]; have := hM1.1.1; simp at this ⊢; omega) (by have := hM1.1.1; simp at this ⊢; omega) (by simp at hmm; omega) (by simp at hb; omega) (by simp at hmm; omega) (by simp at hb; omega) hA.of_app.2.1 hB.of_app.2.1 w hs)) ?_
                      intro M2 hM2
                      refine LW.nil ?_
                      refine PQ.end0 rfl ?_
                      intro w' hw
                      rw [show (X ++ M1) ++ (M2 ++ Y) = X ++ ((M1 ++ M2) ++ Y) from by simp] at hw
                      exact ⟨M1 ++ M2, sym_fin hA hB hx1 hx2 hM1 hM2, rfl, hw⟩
                    · replace h213 := bF h213
                      refine CW.skip ?_
                      refine PQ.end0 rfl ?_
                      intro w' hw
                      have hM2 : Sta Sto.en (A2 ++ B2) (A2 ++ B2) ∧ Up Sto.en (A2 ++ B2) := ⟨Sta.refl _, by
                        have : A2.length = 0 ∨ B2.length = 0 := by simp at hmm hb; omega
                        rcases this with h | h
                        · have := List.length_eq_zero_iff.1 h; subst this; exact hB.of_app.2.1
                        · have := List.length_eq_zero_iff.1 h; subst this; rw [List.append_nil]; exact hA.of_app.2.1⟩
                      rw [show X ++ (M1 ++ ((A2 ++ B2) ++ Y)) = X ++ ((M1 ++ (A2 ++ B2)) ++ Y) from by simp] at hw
                      exact ⟨M1 ++ (A2 ++ B2), sym_fin hA hB hx1 hx2 hM1 hM2, rfl, hw⟩
                  · replace h209 := bF h209
                    refine LW.p rfl rfl ?_
                    refine LW.p rfl rfl ?_
                    refine LW.p rfl rfl ?_
                    refine LW.v rfl rfl (Val.pick_f rfl rfl) ?_
                    refine LW.nil ?_
                    refine PQ.seq ?_
                    refine CW.cond_f rfl ?_
                    refine CW.skip ?_
                    refine PQ.end0 rfl ?_
                    intro w' hw
                    have hM2 : Sta Sto.en (A2 ++ B2) (A2 ++ B2) ∧ Up Sto.en (A2 ++ B2) := ⟨Sta.refl _, by
                      have : A2.length = 0 ∨ B2.length = 0 := by simp at hmm hb; omega
                      rcases this with h | h
                      · have := List.length_eq_zero_iff.1 h; subst this; exact hB.of_app.2.1
                      · have := List.length_eq_zero_iff.1 h; subst this; rw [List.append_nil]; exact hA.of_app.2.1⟩
                    rw [show X ++ (M1 ++ ((A2 ++ B2) ++ Y)) = X ++ ((M1 ++ (A2 ++ B2)) ++ Y) from by simp] at hw
                    exact ⟨M1 ++ (A2 ++ B2), sym_fin hA hB hx1 hx2 hM1 hM2, rfl, hw⟩
              · replace h185 := bF h185
                refine CW.skip ?_
                refine PQ.seq ?_
                refine CW.seq ?_
                refine CW.seq ?_
                have hz : A2 = [] ∨ B1 = [] := by
                  have : A2.length = 0 ∨ B1.length = 0 := by simp at hmm; omega
                  rcases this with h | h
                  · exact .inl (List.length_eq_zero_iff.1 h)
                  · exact .inr (List.length_eq_zero_iff.1 h)
                rw [show X ++ ((A1 ++ A2) ++ ((B1 ++ B2) ++ Y)) = X ++ ((A1 ++ B1) ++ ((A2 ++ B2) ++ Y)) from by rcases hz with rfl | rfl <;> simp]
                refine CW.region ?_
                refine LW.v rfl rfl (Val.move rfl) ?_
                refine LW.v rfl rfl (Val.move rfl) ?_
                refine LW.v rfl rfl (Val.cmp rfl rfl rfl) ?_
                refine LW.v rfl rfl (Val.move rfl) ?_
                refine LW.split (d := 195) rfl (fun h195 => ?_) (fun h195 => ?_)
                · replace h195 := bT h195
                  refine LW.v rfl rfl (Val.move rfl) ?_
                  refine LW.v rfl rfl (Val.move rfl) ?_
                  refine LW.v rfl rfl (Val.cmp rfl rfl rfl) ?_
                  refine LW.v rfl rfl (Val.pick_t rfl rfl) ?_
                  refine LW.nil ?_
                  refine PQ.seq ?_
                  refine CW.cond rfl (fun h199 => ?_) (fun h199 => ?_)
                  · replace h199 := bT h199
                    refine CW.region ?_
                    refine LW.v rfl rfl (Val.move rfl) ?_
                    refine LW.v rfl rfl (Val.move rfl) ?_
                    refine LW.v rfl rfl (Val.move rfl) ?_
                    refine LW.v rfl rfl (Val.move rfl) ?_
                    refine LW.v rfl rfl (Val.move rfl) ?_
                    refine LW.e rfl rfl (Eff.callM ([[(g, .cells ((X ++ ((A1 ++ B1) ++ ((A2 ++ B2) ++ Y))).flatMap Sto.cells ++ rest).toArray 36 (0, 0))]]) (by repeat (first | exact .nil | apply Pick.cons | exact .here | apply Ext.there)) rfl Try.call79 (fun w hw hs => ih a s mid X A1 B1 ((A2 ++ B2) ++ Y) (X ++ ((A1 ++ B1) ++ ((A2 ++ B2) ++ Y))) (by simp at hN hmm hb; omega) (by simp) (by rw [← hn]; simp; omega) ha hs1.symm (by omega) (by omega) (by omega) hA.of_app.1 hB.of_app.1 w hs)) ?_
                    intro M1 hM1
                    refine LW.nil ?_
                    refine PQ.seq ?_
                    refine CW.seq ?_
                    refine CW.region ?_
                    refine LW.v rfl rfl (Val.move rfl) ?_
                    refine LW.v rfl rfl (Val.move rfl) ?_
                    refine LW.v rfl rfl (Val.cmp rfl rfl rfl) ?_
                    refine LW.v rfl rfl (Val.move rfl) ?_
                    refine LW.split (d := 209) rfl (fun h209 => ?_) (fun h209 => ?_)
                    · replace h209 := bT h209
                      refine LW.v rfl rfl (Val.move rfl) ?_
                      refine LW.v rfl rfl (Val.move rfl) ?_
                      refine LW.v rfl rfl (Val.cmp rfl rfl rfl) ?_
                      refine LW.v rfl rfl (Val.pick_t rfl rfl) ?_
                      refine LW.nil ?_
                      refine PQ.seq ?_
                      refine CW.cond rfl (fun h213 => ?_) (fun h213 => ?_)
                      · replace h213 := bT h213
                        refine CW.region ?_
                        refine LW.v rfl rfl (Val.move rfl) ?_
                        refine LW.v rfl rfl (Val.move rfl) ?_
                        refine LW.v rfl rfl (Val.move rfl) ?_
                        refine LW.v rfl rfl (Val.move rfl) ?_
                        refine LW.v rfl rfl (Val.move rfl) ?_
                        refine LW.e rfl rfl (Eff.callM ([[(g, .cells ((X ++ (M1 ++ ((A2 ++ B2) ++ Y))).flatMap Sto.cells ++ rest).toArray 36 (0, 0))]]) (by repeat (first | exact .nil | apply Pick.cons | exact .here | apply Ext.there)) rfl Try.call79 (fun w hw hs => ih mid (nn - s) b (X ++ M1) A2 B2 Y (X ++ (M1 ++ ((A2 ++ B2) ++ Y))) (by simp at hN hmm hb; omega) (by simp) (by rw [← hn]; have := hM1.1.1; simp at this ⊢; omega) (by have := hM1.1.1; simp at this ⊢; omega) (by simp at hmm; omega) (by simp at hb; omega) (by simp at hmm; omega) (by simp at hb; omega) hA.of_app.2.1 hB.of_app.2.1 w hs)) ?_
                        intro M2 hM2
                        refine LW.nil ?_
                        refine PQ.end0 rfl ?_
                        intro w' hw
                        rw [show (X ++ M1) ++ (M2 ++ Y) = X ++ ((M1 ++ M2) ++ Y) from by simp] at hw
                        exact ⟨M1 ++ M2, sym_fin hA hB hx1 hx2 hM1 hM2, rfl, hw⟩
                      · replace h213 := bF h213
                        refine CW.skip ?_
                        refine PQ.end0 rfl ?_
                        intro w' hw
                        have hM2 : Sta Sto.en (A2 ++ B2) (A2 ++ B2) ∧ Up Sto.en (A2 ++ B2) := ⟨Sta.refl _, by
                          have : A2.length = 0 ∨ B2.length = 0 := by simp at hmm hb; omega
                          rcases this with h | h
                          · have := List.length_eq_zero_iff.1 h; subst this; exact hB.of_app.2.1
                          · have := List.length_eq_zero_iff.1 h; subst this; rw [List.append_nil]; exact hA.of_app.2.1⟩
                        rw [show X ++ (M1 ++ ((A2 ++ B2) ++ Y)) = X ++ ((M1 ++ (A2 ++ B2)) ++ Y) from by simp] at hw
                        exact ⟨M1 ++ (A2 ++ B2), sym_fin hA hB hx1 hx2 hM1 hM2, rfl, hw⟩
                    · replace h209 := bF h209
                      refine LW.p rfl rfl ?_
                      refine LW.p rfl rfl ?_
                      refine LW.p rfl rfl ?_
                      refine LW.v rfl rfl (Val.pick_f rfl rfl) ?_
                      refine LW.nil ?_
                      refine PQ.seq ?_
                      refine CW.cond_f rfl ?_
                      refine CW.skip ?_
                      refine PQ.end0 rfl ?_
                      intro w' hw
                      have hM2 : Sta Sto.en (A2 ++ B2) (A2 ++ B2) ∧ Up Sto.en (A2 ++ B2) := ⟨Sta.refl _, by
                        have : A2.length = 0 ∨ B2.length = 0 := by simp at hmm hb; omega
                        rcases this with h | h
                        · have := List.length_eq_zero_iff.1 h; subst this; exact hB.of_app.2.1
                        · have := List.length_eq_zero_iff.1 h; subst this; rw [List.append_nil]; exact hA.of_app.2.1⟩
                      rw [show X ++ (M1 ++ ((A2 ++ B2) ++ Y)) = X ++ ((M1 ++ (A2 ++ B2)) ++ Y) from by simp] at hw
                      exact ⟨M1 ++ (A2 ++ B2), sym_fin hA hB hx1 hx2 hM1 hM2, rfl, hw⟩
                  · replace h199 := bF h199
                    refine CW.skip ?_
                    refine PQ.seq ?_
                    refine CW.seq ?_
                    obtain ⟨M1, hM1, hE⟩ : ∃ M1, (Sta Sto.en (A1 ++ B1) M1 ∧ Up Sto.en M1) ∧ A1 ++ B1 = M1 := ⟨_, ⟨Sta.refl _, by
                      have : A1.length = 0 ∨ B1.length = 0 := by omega
                      rcases this with h | h
                      · have := List.length_eq_zero_iff.1 h; subst this; exact hB.of_app.1
                      · have := List.length_eq_zero_iff.1 h; subst this; rw [List.append_nil]; exact hA.of_app.1⟩, rfl⟩
                    rw [hE]
                    refine CW.region ?_
                    refine LW.v rfl rfl (Val.move rfl) ?_
                    refine LW.v rfl rfl (Val.move rfl) ?_
                    refine LW.v rfl rfl (Val.cmp rfl rfl rfl) ?_
                    refine LW.v rfl rfl (Val.move rfl) ?_
                    refine LW.split (d := 209) rfl (fun h209 => ?_) (fun h209 => ?_)
                    · replace h209 := bT h209
                      refine LW.v rfl rfl (Val.move rfl) ?_
                      refine LW.v rfl rfl (Val.move rfl) ?_
                      refine LW.v rfl rfl (Val.cmp rfl rfl rfl) ?_
                      refine LW.v rfl rfl (Val.pick_t rfl rfl) ?_
                      refine LW.nil ?_
                      refine PQ.seq ?_
                      refine CW.cond rfl (fun h213 => ?_) (fun h213 => ?_)
                      · replace h213 := bT h213
                        refine CW.region ?_
                        refine LW.v rfl rfl (Val.move rfl) ?_
                        refine LW.v rfl rfl (Val.move rfl) ?_
                        refine LW.v rfl rfl (Val.move rfl) ?_
                        refine LW.v rfl rfl (Val.move rfl) ?_
                        refine LW.v rfl rfl (Val.move rfl) ?_
                        refine LW.e rfl rfl (Eff.callM ([[(g, .cells ((X ++ (M1 ++ ((A2 ++ B2) ++ Y))).flatMap Sto.cells ++ rest).toArray 36 (0, 0))]]) (by repeat (first | exact .nil | apply Pick.cons | exact .here | apply Ext.there)) rfl Try.call79 (fun w hw hs => ih mid (nn - s) b (X ++ M1) A2 B2 Y (X ++ (M1 ++ ((A2 ++ B2) ++ Y))) (by simp at hN hmm hb; omega) (by simp) (by rw [← hn]; have := hM1.1.1; simp at this ⊢; omega) (by have := hM1.1.1; simp at this ⊢; omega) (by simp at hmm; omega) (by simp at hb; omega) (by simp at hmm; omega) (by simp at hb; omega) hA.of_app.2.1 hB.of_app.2.1 w hs)) ?_
                        intro M2 hM2
                        refine LW.nil ?_
                        refine PQ.end0 rfl ?_
                        intro w' hw
                        rw [show (X ++ M1) ++ (M2 ++ Y) = X ++ ((M1 ++ M2) ++ Y) from by simp] at hw
                        exact ⟨M1 ++ M2, sym_fin hA hB hx1 hx2 hM1 hM2, rfl, hw⟩
                      · replace h213 := bF h213
                        refine CW.skip ?_
                        refine PQ.end0 rfl ?_
                        intro w' hw
                        have hM2 : Sta Sto.en (A2 ++ B2) (A2 ++ B2) ∧ Up Sto.en (A2 ++ B2) := ⟨Sta.refl _, by
                          have : A2.length = 0 ∨ B2.length = 0 := by simp at hmm hb; omega
                          rcases this with h | h
                          · have := List.length_eq_zero_iff.1 h; subst this; exact hB.of_app.2.1
                          · have := List.length_eq_zero_iff.1 h; subst this; rw [List.append_nil]; exact hA.of_app.2.1⟩
                        rw [show X ++ (M1 ++ ((A2 ++ B2) ++ Y)) = X ++ ((M1 ++ (A2 ++ B2)) ++ Y) from by simp] at hw
                        exact ⟨M1 ++ (A2 ++ B2), sym_fin hA hB hx1 hx2 hM1 hM2, rfl, hw⟩
                    · replace h209 := bF h209
                      refine LW.p rfl rfl ?_
                      refine LW.p rfl rfl ?_
                      refine LW.p rfl rfl ?_
                      refine LW.v rfl rfl (Val.pick_f rfl rfl) ?_
                      refine LW.nil ?_
                      refine PQ.seq ?_
                      refine CW.cond_f rfl ?_
                      refine CW.skip ?_
                      refine PQ.end0 rfl ?_
                      intro w' hw
                      have hM2 : Sta Sto.en (A2 ++ B2) (A2 ++ B2) ∧ Up Sto.en (A2 ++ B2) := ⟨Sta.refl _, by
                        have : A2.length = 0 ∨ B2.length = 0 := by simp at hmm hb; omega
                        rcases this with h | h
                        · have := List.length_eq_zero_iff.1 h; subst this; exact hB.of_app.2.1
                        · have := List.length_eq_zero_iff.1 h; subst this; rw [List.append_nil]; exact hA.of_app.2.1⟩
                      rw [show X ++ (M1 ++ ((A2 ++ B2) ++ Y)) = X ++ ((M1 ++ (A2 ++ B2)) ++ Y) from by simp] at hw
                      exact ⟨M1 ++ (A2 ++ B2), sym_fin hA hB hx1 hx2 hM1 hM2, rfl, hw⟩
                · replace h195 := bF h195
                  refine LW.p rfl rfl ?_
                  refine LW.p rfl rfl ?_
                  refine LW.p rfl rfl ?_
                  refine LW.v rfl rfl (Val.pick_f rfl rfl) ?_
                  refine LW.nil ?_
                  refine PQ.seq ?_
                  refine CW.cond_f rfl ?_
                  refine CW.skip ?_
                  refine PQ.seq ?_
                  refine CW.seq ?_
                  obtain ⟨M1, hM1, hE⟩ : ∃ M1, (Sta Sto.en (A1 ++ B1) M1 ∧ Up Sto.en M1) ∧ A1 ++ B1 = M1 := ⟨_, ⟨Sta.refl _, by
                    have : A1.length = 0 ∨ B1.length = 0 := by omega
                    rcases this with h | h
                    · have := List.length_eq_zero_iff.1 h; subst this; exact hB.of_app.1
                    · have := List.length_eq_zero_iff.1 h; subst this; rw [List.append_nil]; exact hA.of_app.1⟩, rfl⟩
                  rw [hE]
                  refine CW.region ?_
                  refine LW.v rfl rfl (Val.move rfl) ?_
                  refine LW.v rfl rfl (Val.move rfl) ?_
                  refine LW.v rfl rfl (Val.cmp rfl rfl rfl) ?_
                  refine LW.v rfl rfl (Val.move rfl) ?_
                  refine LW.split (d := 209) rfl (fun h209 => ?_) (fun h209 => ?_)
                  · replace h209 := bT h209
                    refine LW.v rfl rfl (Val.move rfl) ?_
                    refine LW.v rfl rfl (Val.move rfl) ?_
                    refine LW.v rfl rfl (Val.cmp rfl rfl rfl) ?_
                    refine LW.v rfl rfl (Val.pick_t rfl rfl) ?_
                    refine LW.nil ?_
                    refine PQ.seq ?_
                    refine CW.cond rfl (fun h213 => ?_) (fun h213 => ?_)
                    · replace h213 := bT h213
                      refine CW.region ?_
                      refine LW.v rfl rfl (Val.move rfl) ?_
                      refine LW.v rfl rfl (Val.move rfl) ?_
                      refine LW.v rfl rfl (Val.move rfl) ?_
                      refine LW.v rfl rfl (Val.move rfl) ?_
                      refine LW.v rfl rfl (Val.move rfl) ?_
                      refine LW.e rfl rfl (Eff.callM ([[(g, .cells ((X ++ (M1 ++ ((A2 ++ B2) ++ Y))).flatMap Sto.cells ++ rest).toArray 36 (0, 0))]]) (by repeat (first | exact .nil | apply Pick.cons | exact .here | apply Ext.there)) rfl Try.call79 (fun w hw hs => ih mid (nn - s) b (X ++ M1) A2 B2 Y (X ++ (M1 ++ ((A2 ++ B2) ++ Y))) (by simp at hN hmm hb; omega) (by simp) (by rw [← hn]; have := hM1.1.1; simp at this ⊢; omega) (by have := hM1.1.1; simp at this ⊢; omega) (by simp at hmm; omega) (by simp at hb; omega) (by simp at hmm; omega) (by simp at hb; omega) hA.of_app.2.1 hB.of_app.2.1 w hs)) ?_
                      intro M2 hM2
                      refine LW.nil ?_
                      refine PQ.end0 rfl ?_
                      intro w' hw
                      rw [show (X ++ M1) ++ (M2 ++ Y) = X ++ ((M1 ++ M2) ++ Y) from by simp] at hw
                      exact ⟨M1 ++ M2, sym_fin hA hB hx1 hx2 hM1 hM2, rfl, hw⟩
                    · replace h213 := bF h213
                      refine CW.skip ?_
                      refine PQ.end0 rfl ?_
                      intro w' hw
                      have hM2 : Sta Sto.en (A2 ++ B2) (A2 ++ B2) ∧ Up Sto.en (A2 ++ B2) := ⟨Sta.refl _, by
                        have : A2.length = 0 ∨ B2.length = 0 := by simp at hmm hb; omega
                        rcases this with h | h
                        · have := List.length_eq_zero_iff.1 h; subst this; exact hB.of_app.2.1
                        · have := List.length_eq_zero_iff.1 h; subst this; rw [List.append_nil]; exact hA.of_app.2.1⟩
                      rw [show X ++ (M1 ++ ((A2 ++ B2) ++ Y)) = X ++ ((M1 ++ (A2 ++ B2)) ++ Y) from by simp] at hw
                      exact ⟨M1 ++ (A2 ++ B2), sym_fin hA hB hx1 hx2 hM1 hM2, rfl, hw⟩
                  · replace h209 := bF h209
                    refine LW.p rfl rfl ?_
                    refine LW.p rfl rfl ?_
                    refine LW.p rfl rfl ?_
                    refine LW.v rfl rfl (Val.pick_f rfl rfl) ?_
                    refine LW.nil ?_
                    refine PQ.seq ?_
                    refine CW.cond_f rfl ?_
                    refine CW.skip ?_
                    refine PQ.end0 rfl ?_
                    intro w' hw
                    have hM2 : Sta Sto.en (A2 ++ B2) (A2 ++ B2) ∧ Up Sto.en (A2 ++ B2) := ⟨Sta.refl _, by
                      have : A2.length = 0 ∨ B2.length = 0 := by simp at hmm hb; omega
                      rcases this with h | h
                      · have := List.length_eq_zero_iff.1 h; subst this; exact hB.of_app.2.1
                      · have := List.length_eq_zero_iff.1 h; subst this; rw [List.append_nil]; exact hA.of_app.2.1⟩
                    rw [show X ++ (M1 ++ ((A2 ++ B2) ++ Y)) = X ++ ((M1 ++ (A2 ++ B2)) ++ Y) from by simp] at hw
                    exact ⟨M1 ++ (A2 ++ B2), sym_fin hA hB hx1 hx2 hM1 hM2, rfl, hw⟩
            · replace h181 := bF h181
              refine LW.p rfl rfl ?_
              refine LW.p rfl rfl ?_
              refine LW.p rfl rfl ?_
              refine LW.v rfl rfl (Val.pick_f rfl rfl) ?_
              refine LW.nil ?_
              refine PQ.seq ?_
              refine CW.cond_f rfl ?_
              refine CW.skip ?_
              refine PQ.seq ?_
              refine CW.seq ?_
              refine CW.seq ?_
              have hz : A2 = [] ∨ B1 = [] := by
                have : A2.length = 0 ∨ B1.length = 0 := by simp at hmm; omega
                rcases this with h | h
                · exact .inl (List.length_eq_zero_iff.1 h)
                · exact .inr (List.length_eq_zero_iff.1 h)
              rw [show X ++ ((A1 ++ A2) ++ ((B1 ++ B2) ++ Y)) = X ++ ((A1 ++ B1) ++ ((A2 ++ B2) ++ Y)) from by rcases hz with rfl | rfl <;> simp]
              refine CW.region ?_
              refine LW.v rfl rfl (Val.move rfl) ?_
              refine LW.v rfl rfl (Val.move rfl) ?_
              refine LW.v rfl rfl (Val.cmp rfl rfl rfl) ?_
              refine LW.v rfl rfl (Val.move rfl) ?_
              refine LW.split (d := 195) rfl (fun h195 => ?_) (fun h195 => ?_)
              · replace h195 := bT h195
                refine LW.v rfl rfl (Val.move rfl) ?_
                refine LW.v rfl rfl (Val.move rfl) ?_
                refine LW.v rfl rfl (Val.cmp rfl rfl rfl) ?_
                refine LW.v rfl rfl (Val.pick_t rfl rfl) ?_
                refine LW.nil ?_
                refine PQ.seq ?_
                refine CW.cond rfl (fun h199 => ?_) (fun h199 => ?_)
                · replace h199 := bT h199
                  refine CW.region ?_
                  refine LW.v rfl rfl (Val.move rfl) ?_
                  refine LW.v rfl rfl (Val.move rfl) ?_
                  refine LW.v rfl rfl (Val.move rfl) ?_
                  refine LW.v rfl rfl (Val.move rfl) ?_
                  refine LW.v rfl rfl (Val.move rfl) ?_
                  refine LW.e rfl rfl (Eff.callM ([[(g, .cells ((X ++ ((A1 ++ B1) ++ ((A2 ++ B2) ++ Y))).flatMap Sto.cells ++ rest).toArray 36 (0, 0))]]) (by repeat (first | exact .nil | apply Pick.cons | exact .here | apply Ext.there)) rfl Try.call79 (fun w hw hs => ih a s mid X A1 B1 ((A2 ++ B2) ++ Y) (X ++ ((A1 ++ B1) ++ ((A2 ++ B2) ++ Y))) (by simp at hN hmm hb; omega) (by simp) (by rw [← hn]; simp; omega) ha hs1.symm (by omega) (by omega) (by omega) hA.of_app.1 hB.of_app.1 w hs)) ?_
                  intro M1 hM1
                  refine LW.nil ?_
                  refine PQ.seq ?_
                  refine CW.seq ?_
                  refine CW.region ?_
                  refine LW.v rfl rfl (Val.move rfl) ?_
                  refine LW.v rfl rfl (Val.move rfl) ?_
                  refine LW.v rfl rfl (Val.cmp rfl rfl rfl) ?_
                  refine LW.v rfl rfl (Val.move rfl) ?_
                  refine LW.split (d := 209) rfl (fun h209 => ?_) (fun h209 => ?_)
                  · replace h209 := bT h209
                    refine LW.v rfl rfl (Val.move rfl) ?_
                    refine LW.v rfl rfl (Val.move rfl) ?_
                    refine LW.v rfl rfl (Val.cmp rfl rfl rfl) ?_
                    refine LW.v rfl rfl (Val.pick_t rfl rfl) ?_
                    refine LW.nil ?_
                    refine PQ.seq ?_
                    refine CW.cond rfl (fun h213 => ?_) (fun h213 => ?_)
                    · replace h213 := bT h213
                      refine CW.region ?_
                      refine LW.v rfl rfl (Val.move rfl) ?_
                      refine LW.v rfl rfl (Val.move rfl) ?_
                      refine LW.v rfl rfl (Val.move rfl) ?_
                      refine LW.v rfl rfl (Val.move rfl) ?_
                      refine LW.v rfl rfl (Val.move rfl) ?_
                      refine LW.e rfl rfl (Eff.callM ([[(g, .cells ((X ++ (M1 ++ ((A2 ++ B2) ++ Y))).flatMap Sto.cells ++ rest).toArray 36 (0, 0))]]) (by repeat (first | exact .nil | apply Pick.cons | exact .here | apply Ext.there)) rfl Try.call79 (fun w hw hs => ih mid (nn - s) b (X ++ M1) A2 B2 Y (X ++ (M1 ++ ((A2 ++ B2) ++ Y))) (by simp at hN hmm hb; omega) (by simp) (by rw [← hn]; have := hM1.1.1; simp at this ⊢; omega) (by have := hM1.1.1; simp at this ⊢; omega) (by simp at hmm; omega) (by simp at hb; omega) (by simp at hmm; omega) (by simp at hb; omega) hA.of_app.2.1 hB.of_app.2.1 w hs)) ?_
                      intro M2 hM2
                      refine LW.nil ?_
                      refine PQ.end0 rfl ?_
                      intro w' hw
                      rw [show (X ++ M1) ++ (M2 ++ Y) = X ++ ((M1 ++ M2) ++ Y) from by simp] at hw
                      exact ⟨M1 ++ M2, sym_fin hA hB hx1 hx2 hM1 hM2, rfl, hw⟩
                    · replace h213 := bF h213
                      refine CW.skip ?_
                      refine PQ.end0 rfl ?_
                      intro w' hw
                      have hM2 : Sta Sto.en (A2 ++ B2) (A2 ++ B2) ∧ Up Sto.en (A2 ++ B2) := ⟨Sta.refl _, by
                        have : A2.length = 0 ∨ B2.length = 0 := by simp at hmm hb; omega
                        rcases this with h | h
                        · have := List.length_eq_zero_iff.1 h; subst this; exact hB.of_app.2.1
                        · have := List.length_eq_zero_iff.1 h; subst this; rw [List.append_nil]; exact hA.of_app.2.1⟩
                      rw [show X ++ (M1 ++ ((A2 ++ B2) ++ Y)) = X ++ ((M1 ++ (A2 ++ B2)) ++ Y) from by simp] at hw
                      exact ⟨M1 ++ (A2 ++ B2), sym_fin hA hB hx1 hx2 hM1 hM2, rfl, hw⟩
                  · replace h209 := bF h209
                    refine LW.p rfl rfl ?_
                    refine LW.p rfl rfl ?_
                    refine LW.p rfl rfl ?_
                    refine LW.v rfl rfl (Val.pick_f rfl rfl) ?_
                    refine LW.nil ?_
                    refine PQ.seq ?_
                    refine CW.cond_f rfl ?_
                    refine CW.skip ?_
                    refine PQ.end0 rfl ?_
                    intro w' hw
                    have hM2 : Sta Sto.en (A2 ++ B2) (A2 ++ B2) ∧ Up Sto.en (A2 ++ B2) := ⟨Sta.refl _, by
                      have : A2.length = 0 ∨ B2.length = 0 := by simp at hmm hb; omega
                      rcases this with h | h
                      · have := List.length_eq_zero_iff.1 h; subst this; exact hB.of_app.2.1
                      · have := List.length_eq_zero_iff.1 h; subst this; rw [List.append_nil]; exact hA.of_app.2.1⟩
                    rw [show X ++ (M1 ++ ((A2 ++ B2) ++ Y)) = X ++ ((M1 ++ (A2 ++ B2)) ++ Y) from by simp] at hw
                    exact ⟨M1 ++ (A2 ++ B2), sym_fin hA hB hx1 hx2 hM1 hM2, rfl, hw⟩
                · replace h199 := bF h199
                  refine CW.skip ?_
                  refine PQ.seq ?_
                  refine CW.seq ?_
                  obtain ⟨M1, hM1, hE⟩ : ∃ M1, (Sta Sto.en (A1 ++ B1) M1 ∧ Up Sto.en M1) ∧ A1 ++ B1 = M1 := ⟨_, ⟨Sta.refl _, by
                    have : A1.length = 0 ∨ B1.length = 0 := by omega
                    rcases this with h | h
                    · have := List.length_eq_zero_iff.1 h; subst this; exact hB.of_app.1
                    · have := List.length_eq_zero_iff.1 h; subst this; rw [List.append_nil]; exact hA.of_app.1⟩, rfl⟩
                  rw [hE]
                  refine CW.region ?_
                  refine LW.v rfl rfl (Val.move rfl) ?_
                  refine LW.v rfl rfl (Val.move rfl) ?_
                  refine LW.v rfl rfl (Val.cmp rfl rfl rfl) ?_
                  refine LW.v rfl rfl (Val.move rfl) ?_
                  refine LW.split (d := 209) rfl (fun h209 => ?_) (fun h209 => ?_)
                  · replace h209 := bT h209
                    refine LW.v rfl rfl (Val.move rfl) ?_
                    refine LW.v rfl rfl (Val.move rfl) ?_
                    refine LW.v rfl rfl (Val.cmp rfl rfl rfl) ?_
                    refine LW.v rfl rfl (Val.pick_t rfl rfl) ?_
                    refine LW.nil ?_
                    refine PQ.seq ?_
                    refine CW.cond rfl (fun h213 => ?_) (fun h213 => ?_)
                    · replace h213 := bT h213
                      refine CW.region ?_
                      refine LW.v rfl rfl (Val.move rfl) ?_
                      refine LW.v rfl rfl (Val.move rfl) ?_
                      refine LW.v rfl rfl (Val.move rfl) ?_
                      refine LW.v rfl rfl (Val.move rfl) ?_
                      refine LW.v rfl rfl (Val.move rfl) ?_
                      refine LW.e rfl rfl (Eff.callM ([[(g, .cells ((X ++ (M1 ++ ((A2 ++ B2) ++ Y))).flatMap Sto.cells ++ rest).toArray 36 (0, 0))]]) (by repeat (first | exact .nil | apply Pick.cons | exact .here | apply Ext.there)) rfl Try.call79 (fun w hw hs => ih mid (nn - s) b (X ++ M1) A2 B2 Y (X ++ (M1 ++ ((A2 ++ B2) ++ Y))) (by simp at hN hmm hb; omega) (by simp) (by rw [← hn]; have := hM1.1.1; simp at this ⊢; omega) (by have := hM1.1.1; simp at this ⊢; omega) (by simp at hmm; omega) (by simp at hb; omega) (by simp at hmm; omega) (by simp at hb; omega) hA.of_app.2.1 hB.of_app.2.1 w hs)) ?_
                      intro M2 hM2
                      refine LW.nil ?_
                      refine PQ.end0 rfl ?_
                      intro w' hw
                      rw [show (X ++ M1) ++ (M2 ++ Y) = X ++ ((M1 ++ M2) ++ Y) from by simp] at hw
                      exact ⟨M1 ++ M2, sym_fin hA hB hx1 hx2 hM1 hM2, rfl, hw⟩
                    · replace h213 := bF h213
                      refine CW.skip ?_
                      refine PQ.end0 rfl ?_
                      intro w' hw
                      have hM2 : Sta Sto.en (A2 ++ B2) (A2 ++ B2) ∧ Up Sto.en (A2 ++ B2) := ⟨Sta.refl _, by
                        have : A2.length = 0 ∨ B2.length = 0 := by simp at hmm hb; omega
                        rcases this with h | h
                        · have := List.length_eq_zero_iff.1 h; subst this; exact hB.of_app.2.1
                        · have := List.length_eq_zero_iff.1 h; subst this; rw [List.append_nil]; exact hA.of_app.2.1⟩
                      rw [show X ++ (M1 ++ ((A2 ++ B2) ++ Y)) = X ++ ((M1 ++ (A2 ++ B2)) ++ Y) from by simp] at hw
                      exact ⟨M1 ++ (A2 ++ B2), sym_fin hA hB hx1 hx2 hM1 hM2, rfl, hw⟩
                  · replace h209 := bF h209
                    refine LW.p rfl rfl ?_
                    refine LW.p rfl rfl ?_
                    refine LW.p rfl rfl ?_
                    refine LW.v rfl rfl (Val.pick_f rfl rfl) ?_
                    refine LW.nil ?_
                    refine PQ.seq ?_
                    refine CW.cond_f rfl ?_
                    refine CW.skip ?_
                    refine PQ.end0 rfl ?_
                    intro w' hw
                    have hM2 : Sta Sto.en (A2 ++ B2) (A2 ++ B2) ∧ Up Sto.en (A2 ++ B2) := ⟨Sta.refl _, by
                      have : A2.length = 0 ∨ B2.length = 0 := by simp at hmm hb; omega
                      rcases this with h | h
                      · have := List.length_eq_zero_iff.1 h; subst this; exact hB.of_app.2.1
                      · have := List.length_eq_zero_iff.1 h; subst this; rw [List.append_nil]; exact hA.of_app.2.1⟩
                    rw [show X ++ (M1 ++ ((A2 ++ B2) ++ Y)) = X ++ ((M1 ++ (A2 ++ B2)) ++ Y) from by simp] at hw
                    exact ⟨M1 ++ (A2 ++ B2), sym_fin hA hB hx1 hx2 hM1 hM2, rfl, hw⟩
              · replace h195 := bF h195
                refine LW.p rfl rfl ?_
                refine LW.p rfl rfl ?_
                refine LW.p rfl rfl ?_
                refine LW.v rfl rfl (Val.pick_f rfl rfl) ?_
                refine LW.nil ?_
                refine PQ.seq ?_
                refine CW.cond_f rfl ?_
                refine CW.skip ?_
                refine PQ.seq ?_
                refine CW.seq ?_
                obtain ⟨M1, hM1, hE⟩ : ∃ M1, (Sta Sto.en (A1 ++ B1) M1 ∧ Up Sto.en M1) ∧ A1 ++ B1 = M1 := ⟨_, ⟨Sta.refl _, by
                  have : A1.length = 0 ∨ B1.length = 0 := by omega
                  rcases this with h | h
                  · have := List.length_eq_zero_iff.1 h; subst this; exact hB.of_app.1
                  · have := List.length_eq_zero_iff.1 h; subst this; rw [List.append_nil]; exact hA.of_app.1⟩, rfl⟩
                rw [hE]
                refine CW.region ?_
                refine LW.v rfl rfl (Val.move rfl) ?_
                refine LW.v rfl rfl (Val.move rfl) ?_
                refine LW.v rfl rfl (Val.cmp rfl rfl rfl) ?_
                refine LW.v rfl rfl (Val.move rfl) ?_
                refine LW.split (d := 209) rfl (fun h209 => ?_) (fun h209 => ?_)
                · replace h209 := bT h209
                  refine LW.v rfl rfl (Val.move rfl) ?_
                  refine LW.v rfl rfl (Val.move rfl) ?_
                  refine LW.v rfl rfl (Val.cmp rfl rfl rfl) ?_
                  refine LW.v rfl rfl (Val.pick_t rfl rfl) ?_
                  refine LW.nil ?_
                  refine PQ.seq ?_
                  refine CW.cond rfl (fun h213 => ?_) (fun h213 => ?_)
                  · replace h213 := bT h213
                    refine CW.region ?_
                    refine LW.v rfl rfl (Val.move rfl) ?_
                    refine LW.v rfl rfl (Val.move rfl) ?_
                    refine LW.v rfl rfl (Val.move rfl) ?_
                    refine LW.v rfl rfl (Val.move rfl) ?_
                    refine LW.v rfl rfl (Val.move rfl) ?_
                    refine LW.e rfl rfl (Eff.callM ([[(g, .cells ((X ++ (M1 ++ ((A2 ++ B2) ++ Y))).flatMap Sto.cells ++ rest).toArray 36 (0, 0))]]) (by repeat (first | exact .nil | apply Pick.cons | exact .here | apply Ext.there)) rfl Try.call79 (fun w hw hs => ih mid (nn - s) b (X ++ M1) A2 B2 Y (X ++ (M1 ++ ((A2 ++ B2) ++ Y))) (by simp at hN hmm hb; omega) (by simp) (by rw [← hn]; have := hM1.1.1; simp at this ⊢; omega) (by have := hM1.1.1; simp at this ⊢; omega) (by simp at hmm; omega) (by simp at hb; omega) (by simp at hmm; omega) (by simp at hb; omega) hA.of_app.2.1 hB.of_app.2.1 w hs)) ?_
                    intro M2 hM2
                    refine LW.nil ?_
                    refine PQ.end0 rfl ?_
                    intro w' hw
                    rw [show (X ++ M1) ++ (M2 ++ Y) = X ++ ((M1 ++ M2) ++ Y) from by simp] at hw
                    exact ⟨M1 ++ M2, sym_fin hA hB hx1 hx2 hM1 hM2, rfl, hw⟩
                  · replace h213 := bF h213
                    refine CW.skip ?_
                    refine PQ.end0 rfl ?_
                    intro w' hw
                    have hM2 : Sta Sto.en (A2 ++ B2) (A2 ++ B2) ∧ Up Sto.en (A2 ++ B2) := ⟨Sta.refl _, by
                      have : A2.length = 0 ∨ B2.length = 0 := by simp at hmm hb; omega
                      rcases this with h | h
                      · have := List.length_eq_zero_iff.1 h; subst this; exact hB.of_app.2.1
                      · have := List.length_eq_zero_iff.1 h; subst this; rw [List.append_nil]; exact hA.of_app.2.1⟩
                    rw [show X ++ (M1 ++ ((A2 ++ B2) ++ Y)) = X ++ ((M1 ++ (A2 ++ B2)) ++ Y) from by simp] at hw
                    exact ⟨M1 ++ (A2 ++ B2), sym_fin hA hB hx1 hx2 hM1 hM2, rfl, hw⟩
                · replace h209 := bF h209
                  refine LW.p rfl rfl ?_
                  refine LW.p rfl rfl ?_
                  refine LW.p rfl rfl ?_
                  refine LW.v rfl rfl (Val.pick_f rfl rfl) ?_
                  refine LW.nil ?_
                  refine PQ.seq ?_
                  refine CW.cond_f rfl ?_
                  refine CW.skip ?_
                  refine PQ.end0 rfl ?_
                  intro w' hw
                  have hM2 : Sta Sto.en (A2 ++ B2) (A2 ++ B2) ∧ Up Sto.en (A2 ++ B2) := ⟨Sta.refl _, by
                    have : A2.length = 0 ∨ B2.length = 0 := by simp at hmm hb; omega
                    rcases this with h | h
                    · have := List.length_eq_zero_iff.1 h; subst this; exact hB.of_app.2.1
                    · have := List.length_eq_zero_iff.1 h; subst this; rw [List.append_nil]; exact hA.of_app.2.1⟩
                  rw [show X ++ (M1 ++ ((A2 ++ B2) ++ Y)) = X ++ ((M1 ++ (A2 ++ B2)) ++ Y) from by simp] at hw
                  exact ⟨M1 ++ (A2 ++ B2), sym_fin hA hB hx1 hx2 hM1 hM2, rfl, hw⟩
end Go.Proofs.Ytaihimbjdgmjgaa
