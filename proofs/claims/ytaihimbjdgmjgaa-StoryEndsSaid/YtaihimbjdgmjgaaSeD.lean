/- The walk of StoryEnds. -/
import Derived.Test.YtaihimbjdgmjgaaSeC
import Derived.Lib.Hide
namespace Go.Proofs.Ytaihimbjdgmjgaa
open Go Go.RowKit V
set_option linter.unusedVariables false
set_option maxRecDepth 100000
open V (ownV ownG ownS ownOk)
theorem up_get {L : List Sto} (h : Up Sto.en L) {i : Nat} {x y : Sto} (hi : 1 ≤ i) (hx : L[i - 1]? = some x) (hy : L[i]? = some y) : x.en ≤ y.en := h.get hx hy (by omega)
theorem storyEnds_c (p : Option Addr) (n cap : Nat) (l : List Sto) (W0 : World) (hn : l.length = n) (h : V.slAt W0 p 14 Sto.cells l) (ho : ∀ s ∈ l, StoOk W0 s) : Calls Try.prog 3 [.slice p n cap].toArray W0
    fun e w' => e = .returned (.bool true) ∧ Below W0.heap.size W0 w' := by
  refine V.calls [] Try.func3 rfl Try.ntmps3 (Nat.le_of_ble_eq_true rfl) (V.sat_nil _) ?_
  refine CW.seq ?_
  refine CW.region ?_
  refine LW.v rfl rfl (Val.assign rfl) ?_
  refine LW.nil ?_
  refine PQ.seq ?_
  refine CW.seq ?_
  refine CW.seq ?_
  refine CW.region ?_
  refine LW.v rfl rfl (Val.move rfl) ?_
  refine LW.e rfl rfl (Eff.callR rfl Try.call9 (fun w hw => large_c (RdS W0) p n cap l w hn (hw.slAt h (by simp [ids])) (fun s hs => by obtain ⟨gl, pl, hl, hr⟩ := ho s hs; exact ⟨gl, pl, hl, hr, hr.hp hw⟩))) ?_
  intro x hx
  refine LW.nil ?_
  refine PQ.seq ?_
  refine CW.cond rfl (fun h8 => ?_) (fun h8 => ?_)
  · replace h8 := bT h8
    refine CW.seq ?_
    refine CW.region ?_
    refine LW.e rfl rfl (Eff.callV rfl Try.call10 (fun w hw => awake24_c w)) ?_
    intro _ _
    refine LW.v rfl rfl (Val.assign rfl) ?_
    refine LW.nil ?_
    refine PQ.seq ?_
    refine CW.ret ?_
    refine PQ.then_ret ?_
    refine PQ.ret1 rfl rfl ?_
    intro w hw; exact ⟨rfl, hw.below⟩
  · replace h8 := bF h8
    obtain ⟨hx1, hx2⟩ := hx h8
    refine CW.skip ?_
    refine PQ.seq ?_
    refine CW.seq ?_
    refine CW.region ?_
    refine LW.v rfl rfl (Val.move rfl) ?_
    refine LW.e rfl rfl (Eff.callM ([]) .nil rfl Try.call11 (fun w hw hs => ended_c (RdS W0) p n cap l w hn (hw.slAt h (by simp [ids])) (by omega) (fun i hi s hs => by obtain ⟨gl, pl, hl, hr, hsm⟩ := hx2 i hi s hs; exact ⟨gl, pl, hl, hr, hr.hp hw, hsm⟩))) ?_
    rintro ⟨o, L, G⟩ ⟨ho1, hl1, L1, hL1, hc1, hS1, hU1⟩
    simp only at ho1 hl1 hL1 hc1 hS1 hU1
    refine LW.v rfl rfl (Val.assign rfl) ?_
    refine LW.nil ?_
    refine PQ.seq ?_
    refine CW.seq ?_
    refine CW.region ?_
    refine LW.v rfl rfl (Val.assign rfl) ?_
    refine LW.nil ?_
    refine PQ.seq ?_
    refine CW.seq ?_
    refine CW.seq ?_
    refine CW.region ?_
    refine LW.v rfl rfl (Val.assign rfl) ?_
    refine LW.nil ?_
    refine PQ.seq ?_
    refine CW.block ?_
    refine CW.loop (γ := Nat × Nat) (fun k => [(0, .slice p n cap), (3, ownV L.length o), (4, .int .i64 (k.2 : Nat)), (5, .int .i64 (k.1 : Nat))]) (fun _ => [ownG 36 (L.flatMap Sto.cells) o, G]) (fun k => k.1 ≤ n ∧ k.2 = ((l.take k.1).filter qE).length ∧ k.2 ≤ k.1) (fun k => n - k.1) ((0, 0)) ⟨Nat.zero_le _, rfl, Nat.le_refl _⟩ (by repeat (first | exact trivial | refine ⟨rfl, ?_⟩)) (by repeat (first | exact .nil | apply Pick.cons | exact .here | apply Ext.there)) ?_
    intro k
    rintro ⟨hk1, hk2, hk3⟩
    refine CW.seq ?_
    refine CW.seq ?_
    refine CW.region ?_
    refine LW.v rfl rfl (Val.move rfl) ?_
    refine LW.v rfl rfl (Val.move rfl) ?_
    refine LW.v rfl rfl (Val.lenSl rfl Try.underlying22) ?_
    refine LW.v rfl rfl (Val.cmp rfl rfl rfl) ?_
    refine LW.nil ?_
    refine PQ.seq ?_
    refine CW.cond rfl (fun h15 => ?_) (fun h15 => ?_)
    · replace h15 := bT h15
      obtain ⟨b, o', s, rfl, hb, hsx, hr⟩ := V.slAt_at h hn (k := k.1) (by omega)
      refine CW.skip ?_
      refine PQ.seq ?_
      refine CW.seq ?_
      refine CW.block ?_
      refine CW.seq ?_
      refine CW.region ?_
      refine LW.v rfl rfl (Val.move rfl) ?_
      refine LW.v rfl rfl (Val.move rfl) ?_
      first | (refine LW.v rfl rfl (Val.indexAddrN rfl rfl Try.underlying22 Try.sizeOf36 (by omega)) ?_) | (refine LW.v rfl rfl (Val.indexAddr rfl rfl Try.underlying22 Try.sizeOf36 (by omega) (by omega)) ?_)
      refine LW.v rfl rfl (Val.fieldAddr 13 rfl Try.underlying36 rfl rfl Try.sizeOf3) ?_
      refine LW.v rfl rfl (Val.loadO rfl Try.isAgg3 hb (by simp [ids]) (hr k.1 s hsx 13 _ rfl)) ?_
      refine LW.v rfl rfl (Val.cmp rfl rfl rfl) ?_
      refine LW.nil ?_
      refine PQ.seq ?_
      refine CW.cond rfl (fun h23 => ?_) (fun h23 => ?_)
      · replace h23 := bT h23
        refine CW.region ?_
        refine LW.v rfl rfl (Val.move rfl) ?_
        refine LW.v rfl rfl (Val.ar rfl rfl rfl (IntWalk.i64_in _ (by omega))) ?_
        refine LW.v rfl rfl (Val.assign rfl) ?_
        refine LW.nil ?_
        refine PQ.in_normal ?_
        refine PQ.seq ?_
        refine CW.region ?_
        refine LW.v rfl rfl (Val.move rfl) ?_
        refine LW.v rfl rfl (Val.ar rfl rfl rfl (IntWalk.i64_in _ (by omega))) ?_
        refine LW.v rfl rfl (Val.assign rfl) ?_
        refine LW.nil ?_
        refine PQ.round ((k.1 + 1, k.2 + 1)) ⟨by simp only; omega, by simp only; rw [filter_snoc hsx, if_pos (by unfold qE; simpa using h23), List.length_append, ← hk2]; rfl, by simp only; omega⟩ (by simp only; omega) (by repeat (first | exact trivial | refine ⟨rfl, ?_⟩)) (by repeat (first | exact .nil | apply Pick.cons | exact .here | apply Ext.there))
      · replace h23 := bF h23
        refine CW.skip ?_
        refine PQ.in_normal ?_
        refine PQ.seq ?_
        refine CW.region ?_
        refine LW.v rfl rfl (Val.move rfl) ?_
        refine LW.v rfl rfl (Val.ar rfl rfl rfl (IntWalk.i64_in _ (by omega))) ?_
        refine LW.v rfl rfl (Val.assign rfl) ?_
        refine LW.nil ?_
        refine PQ.round ((k.1 + 1, k.2)) ⟨by simp only; omega, by simp only; rw [filter_snoc hsx, if_neg (by unfold qE; simpa using h23), List.append_nil, ← hk2], by simp only; omega⟩ (by simp only; omega) (by repeat (first | exact trivial | refine ⟨rfl, ?_⟩)) (by repeat (first | exact .nil | apply Pick.cons | exact .here | apply Ext.there))
    · replace h15 := bF h15
      refine CW.exit ?_
      refine PQ.then_exit ?_
      refine PQ.then_exit ?_
      refine PQ.in_here ?_
      refine PQ.seq ?_
      refine CW.seq ?_
      refine CW.seq ?_
      refine CW.region ?_
      refine LW.v rfl rfl (Val.assign rfl) ?_
      refine LW.nil ?_
      refine PQ.seq ?_
      refine CW.block ?_
      have hcnt : k.2 = (l.filter qE).length := by rw [hk2, List.take_of_length_le (by omega)]
      refine CW.loop (γ := Nat) (fun i => [(3, ownV L.length o), (4, .int .i64 (k.2 : Nat)), (6, .int .i64 (i : Nat))]) (fun _ => [ownG 36 (L.flatMap Sto.cells) o, G]) (fun i => 1 ≤ i ∧ i ≤ L.length + 1) (fun i => L.length + 1 - i) (1) ⟨Nat.le_refl _, by omega⟩ (by repeat (first | exact trivial | refine ⟨rfl, ?_⟩)) (by repeat (first | exact .nil | apply Pick.cons | exact .here | apply Ext.there)) ?_
      intro i
      rintro ⟨hi1, hi2⟩
      refine CW.seq ?_
      refine CW.seq ?_
      refine CW.region ?_
      refine LW.v rfl rfl (Val.move rfl) ?_
      refine LW.v rfl rfl (Val.move rfl) ?_
      refine LW.v rfl rfl (Val.lenOwn rfl Try.underlying22 ho1) ?_
      refine LW.v rfl rfl (Val.cmp rfl rfl rfl) ?_
      refine LW.nil ?_
      refine PQ.seq ?_
      refine CW.cond rfl (fun h29 => ?_) (fun h29 => ?_)
      · replace h29 := bT h29
        obtain ⟨⟨g, rest, cap2⟩, rfl⟩ := own_some ho1 (by omega)
        obtain ⟨x1, hx1'⟩ : ∃ x, L[i - 1]? = some x := ⟨L[i - 1]'(by omega), by simp⟩
        obtain ⟨x2, hx2'⟩ : ∃ x, L[i]? = some x := ⟨L[i]'(by omega), by simp⟩
        have hle := up_get hU1 hi1 hx1' hx2'
        rw [V.ownG_some]
        refine CW.skip ?_
        refine PQ.seq ?_
        refine CW.seq ?_
        refine CW.block ?_
        refine CW.seq ?_
        refine CW.quiet mixed (by kernel_rfl) ?_
        refine QW.v rfl rfl (Val.move rfl) ?_
        refine QW.v rfl rfl (Val.move rfl) ?_
        refine QW.v rfl rfl (Val.ar rfl rfl rfl (IntWalk.i64_in _ (by omega))) ?_
        refine QW.re 34 (.int .i64 ((i - 1 : Nat) : Int)) rfl (by congr 1; omega) ?_
        first | (refine QW.v rfl rfl (Val.indexAddrN rfl rfl Try.underlying22 Try.sizeOf36 (by omega)) ?_) | (refine QW.v rfl rfl (Val.indexAddr rfl rfl Try.underlying22 Try.sizeOf36 (by omega) (by omega)) ?_)
        refine QW.v rfl rfl (Val.fieldAddr 13 rfl Try.underlying36 rfl rfl Try.sizeOf3) ?_
        refine QW.v rfl rfl (Val.load (T := 36) rfl Try.isAgg3 (by repeat (first | exact .here | refine .there ?_)) (cell_flat sto_len rest hx1' rfl)) ?_
        refine QW.v rfl rfl (Val.move rfl) ?_
        refine QW.v rfl rfl (Val.move rfl) ?_
        first | (refine QW.v rfl rfl (Val.indexAddrN rfl rfl Try.underlying22 Try.sizeOf36 (by omega)) ?_) | (refine QW.v rfl rfl (Val.indexAddr rfl rfl Try.underlying22 Try.sizeOf36 (by omega) (by omega)) ?_)
        refine QW.v rfl rfl (Val.fieldAddr 13 rfl Try.underlying36 rfl rfl Try.sizeOf3) ?_
        refine QW.v rfl rfl (Val.load (T := 36) rfl Try.isAgg3 (by repeat (first | exact .here | refine .there ?_)) (cell_flat sto_len rest hx2' rfl)) ?_
        refine QW.v rfl rfl (Val.cmp rfl rfl rfl) ?_
        refine QW.nil ?_
        refine PQ.seq ?_
        refine CW.cond rfl (fun h43 => ?_) (fun h43 => ?_)
        · exact absurd (bT h43) (by omega)
        · replace h43 := bF h43
          refine CW.skip ?_
          refine PQ.in_normal ?_
          refine PQ.seq ?_
          refine CW.region ?_
          refine LW.v rfl rfl (Val.move rfl) ?_
          refine LW.v rfl rfl (Val.ar rfl rfl rfl (IntWalk.i64_in _ (by omega))) ?_
          refine LW.v rfl rfl (Val.assign rfl) ?_
          refine LW.nil ?_
          refine PQ.round (i + 1) ⟨by omega, by omega⟩ (by omega) (by repeat (first | exact trivial | refine ⟨rfl, ?_⟩)) (by repeat (first | exact .nil | apply Pick.cons | exact .here | apply Ext.there))
      · replace h29 := bF h29
        refine CW.exit ?_
        refine PQ.then_exit ?_
        refine PQ.then_exit ?_
        refine PQ.in_here ?_
        refine PQ.seq ?_
        refine CW.seq ?_
        refine CW.region ?_
        refine LW.v rfl rfl (Val.move rfl) ?_
        refine LW.v rfl rfl (Val.lenOwn rfl Try.underlying22 ho1) ?_
        refine LW.v rfl rfl (Val.move rfl) ?_
        refine LW.v rfl rfl (Val.cmp rfl rfl rfl) ?_
        refine LW.re 47 (.bool true) rfl (by simp; omega) ?_
        refine LW.v rfl rfl (Val.move rfl) ?_
        refine LW.e rfl rfl (Eff.callV rfl Try.call10 (fun w hw => awake24_c w)) ?_
        intro _ _
        refine LW.v rfl rfl (Val.pick_t rfl rfl) ?_
        refine LW.v rfl rfl (Val.assign rfl) ?_
        refine LW.nil ?_
        refine PQ.seq ?_
        refine CW.ret ?_
        refine PQ.ret1 rfl rfl ?_
        intro w hw; exact ⟨rfl, hw.below⟩
end Go.Proofs.Ytaihimbjdgmjgaa
