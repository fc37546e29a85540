/- The three rows, walked. -/
import Derived.Test.YtipnpnkniihdjaaJn2
import Derived.Lib.Hide
namespace Go.Proofs.Ytipnpnkniihdjaa
open Go Go.RowKit V
set_option linter.unusedVariables false
set_option maxRecDepth 100000
open V (str byC ownV ownG ownS ownOk)
theorem own_slg {α : Type} {enc : α → List Value} {sz e : Nat} (hk : ∀ x, (enc x).length = sz) (l : List α) (y : V.OwnO) (hy : ownOk sz l.length (l.flatMap enc) y) : ∃ (p : Option Addr) (c : Nat), ownV l.length y = .slice p l.length c ∧ ∀ {B : V.Base} {sg r : V.Sg} {w : World}, Hp B sg w → Pick [ownG e (l.flatMap enc) y] sg r → V.slAt w p sz enc l := by
  rcases y with _ | ⟨gb, rest, cap⟩
  · have hl0 : l.length = 0 := hy.2
    exact ⟨none, 0, by rw [hl0]; rfl, fun _ _ => .inl (List.length_eq_zero_iff.1 hl0)⟩
  · exact ⟨some ⟨gb, 0, none⟩, cap, rfl, fun hw hp => V.slAt_flat (hw.pick hp) hk rfl .here⟩
theorem ownSh_cur (A : ShA) (y : V.OwnO × V.OwnO) (h : OwSh A y) : ∃ s' : Sf, owC A y = s'.cells ∧ ∀ {B : V.Base} {sg r : V.Sg} {w : World}, Hp B sg w → Pick [ownG 45 (A.1.flatMap prC) y.1, ownG 9 (A.2.flatMap stE) y.2] sg r → SfR w s' A := by
  obtain ⟨p1, c1, hv1, hc1, hs1⟩ := own_slp A.1 y.1 h.1
  obtain ⟨p2, c2, hv2, hc2, hs2⟩ := own_sl1 A.2 y.2 h.2
  refine ⟨⟨⟨p1, A.1.length, c1⟩, ⟨p2, A.2.length, c2⟩⟩, by show [ownV A.1.length y.1, ownV A.2.length y.2] = _; rw [hv1, hv2]; rfl, fun hw hp => ?_⟩
  have hw2 := hw.pick hp
  exact ⟨⟨rfl, hs1 hw2 (.cons .here .nil)⟩, ⟨rfl, hs2 hw2 (.cons (.there .here) .nil)⟩, hc1, hc2⟩
theorem off_cur (A : ShA) (r0 : V.OwnO × OffO) (h : ownOk 2 A.1.length (A.1.flatMap prC) r0.1 ∧ offOk A.2.length r0.2) : ∃ s' : Sf, [ownV A.1.length r0.1, offV A.2.length r0.2] = s'.cells ∧ ∀ {B : V.Base} {sg r : V.Sg} {w : World}, Hp B sg w → Pick [ownG 45 (A.1.flatMap prC) r0.1, offG 9 (A.2.flatMap stE) r0.2] sg r → SfR w s' A := by
  obtain ⟨p1, c1, hv1, hc1, hs1⟩ := own_slp A.1 r0.1 h.1
  obtain ⟨p2, c2, hv2, hc2, hs2⟩ := off_sl A.2 r0.2 h.2
  refine ⟨⟨⟨p1, A.1.length, c1⟩, ⟨p2, A.2.length, c2⟩⟩, by rw [hv1, hv2]; rfl, fun hw hp => ?_⟩
  have hw2 := hw.pick hp
  exact ⟨⟨rfl, hs1 hw2 (.cons .here .nil)⟩, ⟨rfl, hs2 hw2 (.cons (.there .here) .nil)⟩, hc1, hc2⟩
theorem pat_len (A : ShA) (L : List Cl) : (patF A L).1.length ≤ A.1.length + L.length ∧ (patF A L).2.length ≤ A.2.length + L.length := by
  induction L generalizing A with
  | nil => exact ⟨Nat.le_refl _, Nat.le_refl _⟩
  | cons c L ih =>
    have h1 := ih (apF A c)
    have h2 := ap_len A c
    unfold patF at h1 ⊢
    rw [List.foldl_cons, List.length_cons]
    omega
theorem diffs_c (s1 s2 : Sf) (A B : ShA) (w : World) (hA : SfR w s1 A) (hB : SfR w s2 B) (hl : (A.1.length ≤ 9223372036854775807 ∧ A.2.length ≤ 9223372036854775807) ∧ B.1.length ≤ 9223372036854775807 ∧ B.2.length ≤ 9223372036854775807) : Calls Try.prog 4 [.agg s1.cells.toArray, .agg s2.cells.toArray].toArray w fun e w' => e = .returned (.bool true) ∧ Below w.heap.size w w' := by
  refine V.calls [] Try.func4 rfl Try.ntmps4 (Nat.le_of_ble_eq_true rfl) (V.sat_nil _) ?_
  refine CW.seq ?_
  refine CW.region ?_
  refine LW.e rfl rfl (Eff.boxA rfl) ?_
  intro b2 _
  refine LW.e rfl rfl (Eff.boxA rfl) ?_
  intro b3 _
  refine LW.v rfl rfl (Val.assign rfl) ?_
  refine LW.nil ?_
  refine PQ.seq ?_
  refine CW.seq ?_
  refine CW.seq ?_
  refine CW.region ?_
  first | (refine LW.v rfl rfl (Val.loadW rfl Try.isAgg25 (by repeat (first | exact .here | exact .inner .here | exact .inner (.inner .here) | refine .there ?_)) (by exact Try.sizeOf25)) ?_) | (refine LW.v rfl rfl (Val.loadA [_, _] rfl Try.isAgg25 (by repeat (first | exact .here | exact .inner .here | exact .inner (.inner .here) | refine .there ?_)) (by rfl) Try.sizeOf25) ?_)
  refine LW.e rfl rfl (Eff.callR rfl Try.call6 (fun w hw => great_c s1 A w (hA.hp hw (by simp [ids])) hl.1)) ?_
  intro z1 hz1
  refine LW.v rfl rfl (Val.move rfl) ?_
  refine LW.split (d := 12) rfl (fun h12 => ?_) (fun h12 => ?_)
  · replace h12 := bT h12
    refine LW.p rfl rfl ?_
    refine LW.p rfl rfl ?_
    refine LW.v rfl rfl (Val.pick_t rfl rfl) ?_
    refine LW.nil ?_
    refine PQ.seq ?_
    refine CW.cond_t rfl ?_
    refine CW.seq ?_
    refine CW.region ?_
    refine LW.e rfl rfl (Eff.callV rfl Try.call8 (fun w hw => awake_c w)) ?_
    intro _ _
    refine LW.v rfl rfl (Val.assign rfl) ?_
    refine LW.nil ?_
    refine PQ.seq ?_
    refine CW.ret ?_
    refine PQ.then_ret ?_
    refine PQ.ret1 rfl rfl ?_
    intro w' hw; exact ⟨by rfl, hw.below⟩
  · replace h12 := bF h12
    have hgA := hz1 h12
    first | (refine LW.v rfl rfl (Val.loadW rfl Try.isAgg25 (by repeat (first | exact .here | exact .inner .here | exact .inner (.inner .here) | refine .there ?_)) (by exact Try.sizeOf25)) ?_) | (refine LW.v rfl rfl (Val.loadA [_, _] rfl Try.isAgg25 (by repeat (first | exact .here | exact .inner .here | exact .inner (.inner .here) | refine .there ?_)) (by rfl) Try.sizeOf25) ?_)
    refine LW.e rfl rfl (Eff.callR rfl Try.call6 (fun w hw => great_c s2 B w (hB.hp hw (by simp [ids])) hl.2)) ?_
    intro z2 hz2
    refine LW.v rfl rfl (Val.pick_f rfl rfl) ?_
    refine LW.nil ?_
    refine PQ.seq ?_
    refine CW.cond rfl (fun h15 => ?_) (fun h15 => ?_)
    · replace h15 := bT h15
      refine CW.seq ?_
      refine CW.region ?_
      refine LW.e rfl rfl (Eff.callV rfl Try.call8 (fun w hw => awake_c w)) ?_
      intro _ _
      refine LW.v rfl rfl (Val.assign rfl) ?_
      refine LW.nil ?_
      refine PQ.seq ?_
      refine CW.ret ?_
      refine PQ.then_ret ?_
      refine PQ.ret1 rfl rfl ?_
      intro w' hw; exact ⟨by rfl, hw.below⟩
    · replace h15 := bF h15
      have hgB := hz2 h15
      refine CW.skip ?_
      refine PQ.seq ?_
      refine CW.seq ?_
      have hgA0 := hgA.1
      have hgB0 := hgB.1
      refine CW.regJoin (fun x : (V.OwnO × V.OwnO) × (V.OwnO × V.OwnO) × Nat × Nat => OwSh A x.1 ∧ OwSh B x.2.1) (fun x => [(2, .pointer (some ⟨b2, 0, none⟩)), (3, .pointer (some ⟨b3, 0, none⟩)), (5, .pointer (some ⟨x.2.2.1, 0, none⟩)), (6, .pointer (some ⟨x.2.2.2, 0, none⟩))]) (fun x => [[(b2, .cells s1.cells.toArray 25 (0, 0))], [(b3, .cells s2.cells.toArray 25 (0, 0))], [(x.2.2.1, .cells (owC A x.1).toArray 25 (0, 0))], [(x.2.2.2, .cells (owC B x.2.1).toArray 25 (0, 0))], ownG 45 (A.1.flatMap prC) x.1.1, ownG 9 (A.2.flatMap stE) x.1.2, ownG 45 (B.1.flatMap prC) x.2.1.1, ownG 9 (B.2.flatMap stE) x.2.1.2]) ?_ ?_
      · have hgA0 := hgA.1
        have hgB0 := hgB.1
        refine CW.drawn ([[(b2, .cells s1.cells.toArray 25 (0, 0))], [(b3, .cells s2.cells.toArray 25 (0, 0))]]) mixed (by repeat (first | exact .nil | apply Pick.cons | exact .here | apply Ext.there)) ?_
        first | (refine RW.v 0 rfl (by kernel_rfl) (by kernel_rfl) (by kernel_rfl) (fun _ _ _ h => h) rfl rfl (Val.loadW rfl Try.isAgg25 (by repeat (first | exact .here | exact .inner .here | exact .inner (.inner .here) | refine .there ?_)) (by exact Try.sizeOf25)) ?_) | (refine RW.v 0 rfl (by kernel_rfl) (by kernel_rfl) (by kernel_rfl) (fun _ _ _ h => h) rfl rfl (Val.loadA [_, _] rfl Try.isAgg25 (by repeat (first | exact .here | exact .inner .here | exact .inner (.inner .here) | refine .there ?_)) (by rfl) Try.sizeOf25) ?_)
        first | (refine RW.v 2 rfl (by kernel_rfl) (by kernel_rfl) (by kernel_rfl) (fun _ _ _ h => h) rfl rfl (Val.loadW rfl Try.isAgg25 (by repeat (first | exact .here | exact .inner .here | exact .inner (.inner .here) | refine .there ?_)) (by exact Try.sizeOf25)) ?_) | (refine RW.v 2 rfl (by kernel_rfl) (by kernel_rfl) (by kernel_rfl) (fun _ _ _ h => h) rfl rfl (Val.loadA [_, _] rfl Try.isAgg25 (by repeat (first | exact .here | exact .inner .here | exact .inner (.inner .here) | refine .there ?_)) (by rfl) Try.sizeOf25) ?_)
        refine RW.any [1, 4, 5] (by kernel_rfl) (by simp) ?_
        intro i hi
        simp only [List.mem_cons, List.not_mem_nil, or_false] at hi
        rcases hi with rfl | rfl | rfl
        · refine RO.e rfl rfl rfl (Eff.callM ([]) .nil rfl Try.call12 (fun w hw hs => copyShelf_c s1 A w (hA.hp hw (by simp [ids])) (by omega))) (fun x => ⟨_, (by repeat (first | exact .nil | apply Pick.cons | exact .here | apply Ext.there))⟩) ?_
          intro y5 hy5
          refine RW.any [3, 4, 5] (by kernel_rfl) (by simp) ?_
          intro i hi
          simp only [List.mem_cons, List.not_mem_nil, or_false] at hi
          rcases hi with rfl | rfl | rfl
          · refine RO.e rfl rfl rfl (Eff.callM ([]) .nil rfl Try.call12 (fun w hw hs => copyShelf_c s2 B w (hB.hp hw (by simp [ids])) (by omega))) (fun x => ⟨_, (by repeat (first | exact .nil | apply Pick.cons | exact .here | apply Ext.there))⟩) ?_
            intro y6 hy6
            refine RW.any [4, 5] (by kernel_rfl) (by simp) ?_
            intro i hi
            simp only [List.mem_cons, List.not_mem_nil, or_false] at hi
            rcases hi with rfl | rfl
            · refine RO.e rfl rfl rfl (Eff.allocA (by exact Try.zeroValue25)) (fun x => ⟨_, (by repeat (first | exact .nil | apply Pick.cons | exact .here | apply Ext.there))⟩) ?_
              intro b5 _
              refine RW.e 5 rfl (by kernel_rfl) rfl rfl (Eff.allocA (by exact Try.zeroValue25)) (fun x => ⟨_, (by repeat (first | exact .nil | apply Pick.cons | exact .here | apply Ext.there))⟩) ?_
              intro b6 _
              refine RW.eN 6 rfl (by kernel_rfl) rfl (Eff.storeW (cs := owC A y5) rfl rfl (by repeat (first | exact .here | exact .inner .here | exact .inner (.inner .here) | apply Upd.there)) (by rfl) Try.sizeOf25 (by simp [owC, V.ownV_one])) (fun x => ⟨_, (by repeat (first | exact .nil | apply Pick.cons | exact .here | apply Ext.there))⟩) ?_
              intro _ _
              refine RW.eN 7 rfl (by kernel_rfl) rfl (Eff.storeW (cs := owC B y6) rfl rfl (by repeat (first | exact .here | exact .inner .here | exact .inner (.inner .here) | apply Upd.there)) (by rfl) Try.sizeOf25 (by simp [owC, V.ownV_one])) (fun x => ⟨_, (by repeat (first | exact .nil | apply Pick.cons | exact .here | apply Ext.there))⟩) ?_
              intro _ _
              refine RW.done (by kernel_rfl) ?_
              refine PQ.joined ((y5, y6, b5, b6)) (⟨hy5, hy6⟩) (by repeat (first | exact trivial | refine ⟨rfl, ?_⟩)) (by repeat (first | exact .nil | apply Pick.cons | exact .here | apply Ext.there))
            · refine RO.e rfl rfl rfl (Eff.allocA (by exact Try.zeroValue25)) (fun x => ⟨_, (by repeat (first | exact .nil | apply Pick.cons | exact .here | apply Ext.there))⟩) ?_
              intro b6 _
              refine RW.e 4 rfl (by kernel_rfl) rfl rfl (Eff.allocA (by exact Try.zeroValue25)) (fun x => ⟨_, (by repeat (first | exact .nil | apply Pick.cons | exact .here | apply Ext.there))⟩) ?_
              intro b5 _
              refine RW.eN 6 rfl (by kernel_rfl) rfl (Eff.storeW (cs := owC A y5) rfl rfl (by repeat (first | exact .here | exact .inner .here | exact .inner (.inner .here) | apply Upd.there)) (by rfl) Try.sizeOf25 (by simp [owC, V.ownV_one])) (fun x => ⟨_, (by repeat (first | exact .nil | apply Pick.cons | exact .here | apply Ext.there))⟩) ?_
              intro _ _
              refine RW.eN 7 rfl (by kernel_rfl) rfl (Eff.storeW (cs := owC B y6) rfl rfl (by repeat (first | exact .here | exact .inner .here | exact .inner (.inner .here) | apply Upd.there)) (by rfl) Try.sizeOf25 (by simp [owC, V.ownV_one])) (fun x => ⟨_, (by repeat (first | exact .nil | apply Pick.cons | exact .here | apply Ext.there))⟩) ?_
              intro _ _
              refine RW.done (by kernel_rfl) ?_
              refine PQ.joined ((y5, y6, b5, b6)) (⟨hy5, hy6⟩) (by repeat (first | exact trivial | refine ⟨rfl, ?_⟩)) (by repeat (first | exact .nil | apply Pick.cons | exact .here | apply Ext.there))
          · refine RO.e rfl rfl rfl (Eff.allocA (by exact Try.zeroValue25)) (fun x => ⟨_, (by repeat (first | exact .nil | apply Pick.cons | exact .here | apply Ext.there))⟩) ?_
            intro b5 _
            refine RW.any [3, 5] (by kernel_rfl) (by simp) ?_
            intro i hi
            simp only [List.mem_cons, List.not_mem_nil, or_false] at hi
            rcases hi with rfl | rfl
            · refine RO.e rfl rfl rfl (Eff.callM ([]) .nil rfl Try.call12 (fun w hw hs => copyShelf_c s2 B w (hB.hp hw (by simp [ids])) (by omega))) (fun x => ⟨_, (by repeat (first | exact .nil | apply Pick.cons | exact .here | apply Ext.there))⟩) ?_
              intro y6 hy6
              refine RW.e 5 rfl (by kernel_rfl) rfl rfl (Eff.allocA (by exact Try.zeroValue25)) (fun x => ⟨_, (by repeat (first | exact .nil | apply Pick.cons | exact .here | apply Ext.there))⟩) ?_
              intro b6 _
              refine RW.eN 6 rfl (by kernel_rfl) rfl (Eff.storeW (cs := owC A y5) rfl rfl (by repeat (first | exact .here | exact .inner .here | exact .inner (.inner .here) | apply Upd.there)) (by rfl) Try.sizeOf25 (by simp [owC, V.ownV_one])) (fun x => ⟨_, (by repeat (first | exact .nil | apply Pick.cons | exact .here | apply Ext.there))⟩) ?_
              intro _ _
              refine RW.eN 7 rfl (by kernel_rfl) rfl (Eff.storeW (cs := owC B y6) rfl rfl (by repeat (first | exact .here | exact .inner .here | exact .inner (.inner .here) | apply Upd.there)) (by rfl) Try.sizeOf25 (by simp [owC, V.ownV_one])) (fun x => ⟨_, (by repeat (first | exact .nil | apply Pick.cons | exact .here | apply Ext.there))⟩) ?_
              intro _ _
              refine RW.done (by kernel_rfl) ?_
              refine PQ.joined ((y5, y6, b5, b6)) (⟨hy5, hy6⟩) (by repeat (first | exact trivial | refine ⟨rfl, ?_⟩)) (by repeat (first | exact .nil | apply Pick.cons | exact .here | apply Ext.there))
            · refine RO.e rfl rfl rfl (Eff.allocA (by exact Try.zeroValue25)) (fun x => ⟨_, (by repeat (first | exact .nil | apply Pick.cons | exact .here | apply Ext.there))⟩) ?_
              intro b6 _
              refine RW.e 3 rfl (by kernel_rfl) rfl rfl (Eff.callM ([]) .nil rfl Try.call12 (fun w hw hs => copyShelf_c s2 B w (hB.hp hw (by simp [ids])) (by omega))) (fun x => ⟨_, (by repeat (first | exact .nil | apply Pick.cons | exact .here | apply Ext.there))⟩) ?_
              intro y6 hy6
              refine RW.eN 6 rfl (by kernel_rfl) rfl (Eff.storeW (cs := owC A y5) rfl rfl (by repeat (first | exact .here | exact .inner .here | exact .inner (.inner .here) | apply Upd.there)) (by rfl) Try.sizeOf25 (by simp [owC, V.ownV_one])) (fun x => ⟨_, (by repeat (first | exact .nil | apply Pick.cons | exact .here | apply Ext.there))⟩) ?_
              intro _ _
              refine RW.eN 7 rfl (by kernel_rfl) rfl (Eff.storeW (cs := owC B y6) rfl rfl (by repeat (first | exact .here | exact .inner .here | exact .inner (.inner .here) | apply Upd.there)) (by rfl) Try.sizeOf25 (by simp [owC, V.ownV_one])) (fun x => ⟨_, (by repeat (first | exact .nil | apply Pick.cons | exact .here | apply Ext.there))⟩) ?_
              intro _ _
              refine RW.done (by kernel_rfl) ?_
              refine PQ.joined ((y5, y6, b5, b6)) (⟨hy5, hy6⟩) (by repeat (first | exact trivial | refine ⟨rfl, ?_⟩)) (by repeat (first | exact .nil | apply Pick.cons | exact .here | apply Ext.there))
          · refine RO.e rfl rfl rfl (Eff.allocA (by exact Try.zeroValue25)) (fun x => ⟨_, (by repeat (first | exact .nil | apply Pick.cons | exact .here | apply Ext.there))⟩) ?_
            intro b6 _
            refine RW.any [3, 4] (by kernel_rfl) (by simp) ?_
            intro i hi
            simp only [List.mem_cons, List.not_mem_nil, or_false] at hi
            rcases hi with rfl | rfl
            · refine RO.e rfl rfl rfl (Eff.callM ([]) .nil rfl Try.call12 (fun w hw hs => copyShelf_c s2 B w (hB.hp hw (by simp [ids])) (by omega))) (fun x => ⟨_, (by repeat (first | exact .nil | apply Pick.cons | exact .here | apply Ext.there))⟩) ?_
              intro y6 hy6
              refine RW.e 4 rfl (by kernel_rfl) rfl rfl (Eff.allocA (by exact Try.zeroValue25)) (fun x => ⟨_, (by repeat (first | exact .nil | apply Pick.cons | exact .here | apply Ext.there))⟩) ?_
              intro b5 _
              refine RW.eN 6 rfl (by kernel_rfl) rfl (Eff.storeW (cs := owC A y5) rfl rfl (by repeat (first | exact .here | exact .inner .here | exact .inner (.inner .here) | apply Upd.there)) (by rfl) Try.sizeOf25 (by simp [owC, V.ownV_one])) (fun x => ⟨_, (by repeat (first | exact .nil | apply Pick.cons | exact .here | apply Ext.there))⟩) ?_
              intro _ _
              refine RW.eN 7 rfl (by kernel_rfl) rfl (Eff.storeW (cs := owC B y6) rfl rfl (by repeat (first | exact .here | exact .inner .here | exact .inner (.inner .here) | apply Upd.there)) (by rfl) Try.sizeOf25 (by simp [owC, V.ownV_one])) (fun x => ⟨_, (by repeat (first | exact .nil | apply Pick.cons | exact .here | apply Ext.there))⟩) ?_
              intro _ _
              refine RW.done (by kernel_rfl) ?_
              refine PQ.joined ((y5, y6, b5, b6)) (⟨hy5, hy6⟩) (by repeat (first | exact trivial | refine ⟨rfl, ?_⟩)) (by repeat (first | exact .nil | apply Pick.cons | exact .here | apply Ext.there))
            · refine RO.e rfl rfl rfl (Eff.allocA (by exact Try.zeroValue25)) (fun x => ⟨_, (by repeat (first | exact .nil | apply Pick.cons | exact .here | apply Ext.there))⟩) ?_
              intro b5 _
              refine RW.e 3 rfl (by kernel_rfl) rfl rfl (Eff.callM ([]) .nil rfl Try.call12 (fun w hw hs => copyShelf_c s2 B w (hB.hp hw (by simp [ids])) (by omega))) (fun x => ⟨_, (by repeat (first | exact .nil | apply Pick.cons | exact .here | apply Ext.there))⟩) ?_
              intro y6 hy6
              refine RW.eN 6 rfl (by kernel_rfl) rfl (Eff.storeW (cs := owC A y5) rfl rfl (by repeat (first | exact .here | exact .inner .here | exact .inner (.inner .here) | apply Upd.there)) (by rfl) Try.sizeOf25 (by simp [owC, V.ownV_one])) (fun x => ⟨_, (by repeat (first | exact .nil | apply Pick.cons | exact .here | apply Ext.there))⟩) ?_
              intro _ _
              refine RW.eN 7 rfl (by kernel_rfl) rfl (Eff.storeW (cs := owC B y6) rfl rfl (by repeat (first | exact .here | exact .inner .here | exact .inner (.inner .here) | apply Upd.there)) (by rfl) Try.sizeOf25 (by simp [owC, V.ownV_one])) (fun x => ⟨_, (by repeat (first | exact .nil | apply Pick.cons | exact .here | apply Ext.there))⟩) ?_
              intro _ _
              refine RW.done (by kernel_rfl) ?_
              refine PQ.joined ((y5, y6, b5, b6)) (⟨hy5, hy6⟩) (by repeat (first | exact trivial | refine ⟨rfl, ?_⟩)) (by repeat (first | exact .nil | apply Pick.cons | exact .here | apply Ext.there))
        · refine RO.e rfl rfl rfl (Eff.allocA (by exact Try.zeroValue25)) (fun x => ⟨_, (by repeat (first | exact .nil | apply Pick.cons | exact .here | apply Ext.there))⟩) ?_
          intro b5 _
          refine RW.any [1, 5] (by kernel_rfl) (by simp) ?_
          intro i hi
          simp only [List.mem_cons, List.not_mem_nil, or_false] at hi
          rcases hi with rfl | rfl
          · refine RO.e rfl rfl rfl (Eff.callM ([]) .nil rfl Try.call12 (fun w hw hs => copyShelf_c s1 A w (hA.hp hw (by simp [ids])) (by omega))) (fun x => ⟨_, (by repeat (first | exact .nil | apply Pick.cons | exact .here | apply Ext.there))⟩) ?_
            intro y5 hy5
            refine RW.any [3, 5] (by kernel_rfl) (by simp) ?_
            intro i hi
            simp only [List.mem_cons, List.not_mem_nil, or_false] at hi
            rcases hi with rfl | rfl
            · refine RO.e rfl rfl rfl (Eff.callM ([]) .nil rfl Try.call12 (fun w hw hs => copyShelf_c s2 B w (hB.hp hw (by simp [ids])) (by omega))) (fun x => ⟨_, (by repeat (first | exact .nil | apply Pick.cons | exact .here | apply Ext.there))⟩) ?_
              intro y6 hy6
              refine RW.e 5 rfl (by kernel_rfl) rfl rfl (Eff.allocA (by exact Try.zeroValue25)) (fun x => ⟨_, (by repeat (first | exact .nil | apply Pick.cons | exact .here | apply Ext.there))⟩) ?_
              intro b6 _
              refine RW.eN 6 rfl (by kernel_rfl) rfl (Eff.storeW (cs := owC A y5) rfl rfl (by repeat (first | exact .here | exact .inner .here | exact .inner (.inner .here) | apply Upd.there)) (by rfl) Try.sizeOf25 (by simp [owC, V.ownV_one])) (fun x => ⟨_, (by repeat (first | exact .nil | apply Pick.cons | exact .here | apply Ext.there))⟩) ?_
              intro _ _
              refine RW.eN 7 rfl (by kernel_rfl) rfl (Eff.storeW (cs := owC B y6) rfl rfl (by repeat (first | exact .here | exact .inner .here | exact .inner (.inner .here) | apply Upd.there)) (by rfl) Try.sizeOf25 (by simp [owC, V.ownV_one])) (fun x => ⟨_, (by repeat (first | exact .nil | apply Pick.cons | exact .here | apply Ext.there))⟩) ?_
              intro _ _
              refine RW.done (by kernel_rfl) ?_
              refine PQ.joined ((y5, y6, b5, b6)) (⟨hy5, hy6⟩) (by repeat (first | exact trivial | refine ⟨rfl, ?_⟩)) (by repeat (first | exact .nil | apply Pick.cons | exact .here | apply Ext.there))
            · refine RO.e rfl rfl rfl (Eff.allocA (by exact Try.zeroValue25)) (fun x => ⟨_, (by repeat (first | exact .nil | apply Pick.cons | exact .here | apply Ext.there))⟩) ?_
              intro b6 _
              refine RW.e 3 rfl (by kernel_rfl) rfl rfl (Eff.callM ([]) .nil rfl Try.call12 (fun w hw hs => copyShelf_c s2 B w (hB.hp hw (by simp [ids])) (by omega))) (fun x => ⟨_, (by repeat (first | exact .nil | apply Pick.cons | exact .here | apply Ext.there))⟩) ?_
              intro y6 hy6
              refine RW.eN 6 rfl (by kernel_rfl) rfl (Eff.storeW (cs := owC A y5) rfl rfl (by repeat (first | exact .here | exact .inner .here | exact .inner (.inner .here) | apply Upd.there)) (by rfl) Try.sizeOf25 (by simp [owC, V.ownV_one])) (fun x => ⟨_, (by repeat (first | exact .nil | apply Pick.cons | exact .here | apply Ext.there))⟩) ?_
              intro _ _
              refine RW.eN 7 rfl (by kernel_rfl) rfl (Eff.storeW (cs := owC B y6) rfl rfl (by repeat (first | exact .here | exact .inner .here | exact .inner (.inner .here) | apply Upd.there)) (by rfl) Try.sizeOf25 (by simp [owC, V.ownV_one])) (fun x => ⟨_, (by repeat (first | exact .nil | apply Pick.cons | exact .here | apply Ext.there))⟩) ?_
              intro _ _
              refine RW.done (by kernel_rfl) ?_
              refine PQ.joined ((y5, y6, b5, b6)) (⟨hy5, hy6⟩) (by repeat (first | exact trivial | refine ⟨rfl, ?_⟩)) (by repeat (first | exact .nil | apply Pick.cons | exact .here | apply Ext.there))
          · refine RO.e rfl rfl rfl (Eff.allocA (by exact Try.zeroValue25)) (fun x => ⟨_, (by repeat (first | exact .nil | apply Pick.cons | exact .here | apply Ext.there))⟩) ?_
            intro b6 _
            refine RW.e 1 rfl (by kernel_rfl) rfl rfl (Eff.callM ([]) .nil rfl Try.call12 (fun w hw hs => copyShelf_c s1 A w (hA.hp hw (by simp [ids])) (by omega))) (fun x => ⟨_, (by repeat (first | exact .nil | apply Pick.cons | exact .here | apply Ext.there))⟩) ?_
            intro y5 hy5
            refine RW.e 3 rfl (by kernel_rfl) rfl rfl (Eff.callM ([]) .nil rfl Try.call12 (fun w hw hs => copyShelf_c s2 B w (hB.hp hw (by simp [ids])) (by omega))) (fun x => ⟨_, (by repeat (first | exact .nil | apply Pick.cons | exact .here | apply Ext.there))⟩) ?_
            intro y6 hy6
            refine RW.eN 6 rfl (by kernel_rfl) rfl (Eff.storeW (cs := owC A y5) rfl rfl (by repeat (first | exact .here | exact .inner .here | exact .inner (.inner .here) | apply Upd.there)) (by rfl) Try.sizeOf25 (by simp [owC, V.ownV_one])) (fun x => ⟨_, (by repeat (first | exact .nil | apply Pick.cons | exact .here | apply Ext.there))⟩) ?_
            intro _ _
            refine RW.eN 7 rfl (by kernel_rfl) rfl (Eff.storeW (cs := owC B y6) rfl rfl (by repeat (first | exact .here | exact .inner .here | exact .inner (.inner .here) | apply Upd.there)) (by rfl) Try.sizeOf25 (by simp [owC, V.ownV_one])) (fun x => ⟨_, (by repeat (first | exact .nil | apply Pick.cons | exact .here | apply Ext.there))⟩) ?_
            intro _ _
            refine RW.done (by kernel_rfl) ?_
            refine PQ.joined ((y5, y6, b5, b6)) (⟨hy5, hy6⟩) (by repeat (first | exact trivial | refine ⟨rfl, ?_⟩)) (by repeat (first | exact .nil | apply Pick.cons | exact .here | apply Ext.there))
        · refine RO.e rfl rfl rfl (Eff.allocA (by exact Try.zeroValue25)) (fun x => ⟨_, (by repeat (first | exact .nil | apply Pick.cons | exact .here | apply Ext.there))⟩) ?_
          intro b6 _
          refine RW.any [1, 4] (by kernel_rfl) (by simp) ?_
          intro i hi
          simp only [List.mem_cons, List.not_mem_nil, or_false] at hi
          rcases hi with rfl | rfl
          · refine RO.e rfl rfl rfl (Eff.callM ([]) .nil rfl Try.call12 (fun w hw hs => copyShelf_c s1 A w (hA.hp hw (by simp [ids])) (by omega))) (fun x => ⟨_, (by repeat (first | exact .nil | apply Pick.cons | exact .here | apply Ext.there))⟩) ?_
            intro y5 hy5
            refine RW.any [3, 4] (by kernel_rfl) (by simp) ?_
            intro i hi
            simp only [List.mem_cons, List.not_mem_nil, or_false] at hi
            rcases hi with rfl | rfl
            · refine RO.e rfl rfl rfl (Eff.callM ([]) .nil rfl Try.call12 (fun w hw hs => copyShelf_c s2 B w (hB.hp hw (by simp [ids])) (by omega))) (fun x => ⟨_, (by repeat (first | exact .nil | apply Pick.cons | exact .here | apply Ext.there))⟩) ?_
              intro y6 hy6
              refine RW.e 4 rfl (by kernel_rfl) rfl rfl (Eff.allocA (by exact Try.zeroValue25)) (fun x => ⟨_, (by repeat (first | exact .nil | apply Pick.cons | exact .here | apply Ext.there))⟩) ?_
              intro b5 _
              refine RW.eN 6 rfl (by kernel_rfl) rfl (Eff.storeW (cs := owC A y5) rfl rfl (by repeat (first | exact .here | exact .inner .here | exact .inner (.inner .here) | apply Upd.there)) (by rfl) Try.sizeOf25 (by simp [owC, V.ownV_one])) (fun x => ⟨_, (by repeat (first | exact .nil | apply Pick.cons | exact .here | apply Ext.there))⟩) ?_
              intro _ _
              refine RW.eN 7 rfl (by kernel_rfl) rfl (Eff.storeW (cs := owC B y6) rfl rfl (by repeat (first | exact .here | exact .inner .here | exact .inner (.inner .here) | apply Upd.there)) (by rfl) Try.sizeOf25 (by simp [owC, V.ownV_one])) (fun x => ⟨_, (by repeat (first | exact .nil | apply Pick.cons | exact .here | apply Ext.there))⟩) ?_
              intro _ _
              refine RW.done (by kernel_rfl) ?_
              refine PQ.joined ((y5, y6, b5, b6)) (⟨hy5, hy6⟩) (by repeat (first | exact trivial | refine ⟨rfl, ?_⟩)) (by repeat (first | exact .nil | apply Pick.cons | exact .here | apply Ext.there))
            · refine RO.e rfl rfl rfl (Eff.allocA (by exact Try.zeroValue25)) (fun x => ⟨_, (by repeat (first | exact .nil | apply Pick.cons | exact .here | apply Ext.there))⟩) ?_
              intro b5 _
              refine RW.e 3 rfl (by kernel_rfl) rfl rfl (Eff.callM ([]) .nil rfl Try.call12 (fun w hw hs => copyShelf_c s2 B w (hB.hp hw (by simp [ids])) (by omega))) (fun x => ⟨_, (by repeat (first | exact .nil | apply Pick.cons | exact .here | apply Ext.there))⟩) ?_
              intro y6 hy6
              refine RW.eN 6 rfl (by kernel_rfl) rfl (Eff.storeW (cs := owC A y5) rfl rfl (by repeat (first | exact .here | exact .inner .here | exact .inner (.inner .here) | apply Upd.there)) (by rfl) Try.sizeOf25 (by simp [owC, V.ownV_one])) (fun x => ⟨_, (by repeat (first | exact .nil | apply Pick.cons | exact .here | apply Ext.there))⟩) ?_
              intro _ _
              refine RW.eN 7 rfl (by kernel_rfl) rfl (Eff.storeW (cs := owC B y6) rfl rfl (by repeat (first | exact .here | exact .inner .here | exact .inner (.inner .here) | apply Upd.there)) (by rfl) Try.sizeOf25 (by simp [owC, V.ownV_one])) (fun x => ⟨_, (by repeat (first | exact .nil | apply Pick.cons | exact .here | apply Ext.there))⟩) ?_
              intro _ _
              refine RW.done (by kernel_rfl) ?_
              refine PQ.joined ((y5, y6, b5, b6)) (⟨hy5, hy6⟩) (by repeat (first | exact trivial | refine ⟨rfl, ?_⟩)) (by repeat (first | exact .nil | apply Pick.cons | exact .here | apply Ext.there))
          · refine RO.e rfl rfl rfl (Eff.allocA (by exact Try.zeroValue25)) (fun x => ⟨_, (by repeat (first | exact .nil | apply Pick.cons | exact .here | apply Ext.there))⟩) ?_
            intro b5 _
            refine RW.e 1 rfl (by kernel_rfl) rfl rfl (Eff.callM ([]) .nil rfl Try.call12 (fun w hw hs => copyShelf_c s1 A w (hA.hp hw (by simp [ids])) (by omega))) (fun x => ⟨_, (by repeat (first | exact .nil | apply Pick.cons | exact .here | apply Ext.there))⟩) ?_
            intro y5 hy5
            refine RW.e 3 rfl (by kernel_rfl) rfl rfl (Eff.callM ([]) .nil rfl Try.call12 (fun w hw hs => copyShelf_c s2 B w (hB.hp hw (by simp [ids])) (by omega))) (fun x => ⟨_, (by repeat (first | exact .nil | apply Pick.cons | exact .here | apply Ext.there))⟩) ?_
            intro y6 hy6
            refine RW.eN 6 rfl (by kernel_rfl) rfl (Eff.storeW (cs := owC A y5) rfl rfl (by repeat (first | exact .here | exact .inner .here | exact .inner (.inner .here) | apply Upd.there)) (by rfl) Try.sizeOf25 (by simp [owC, V.ownV_one])) (fun x => ⟨_, (by repeat (first | exact .nil | apply Pick.cons | exact .here | apply Ext.there))⟩) ?_
            intro _ _
            refine RW.eN 7 rfl (by kernel_rfl) rfl (Eff.storeW (cs := owC B y6) rfl rfl (by repeat (first | exact .here | exact .inner .here | exact .inner (.inner .here) | apply Upd.there)) (by rfl) Try.sizeOf25 (by simp [owC, V.ownV_one])) (fun x => ⟨_, (by repeat (first | exact .nil | apply Pick.cons | exact .here | apply Ext.there))⟩) ?_
            intro _ _
            refine RW.done (by kernel_rfl) ?_
            refine PQ.joined ((y5, y6, b5, b6)) (⟨hy5, hy6⟩) (by repeat (first | exact trivial | refine ⟨rfl, ?_⟩)) (by repeat (first | exact .nil | apply Pick.cons | exact .here | apply Ext.there))
      · rintro ⟨y5, y6, b5, b6⟩ ⟨hy5, hy6⟩
        obtain ⟨s5, hv5, hs5⟩ := ownSh_cur A y5 hy5
        obtain ⟨s6, hv6, hs6⟩ := ownSh_cur B y6 hy6
        obtain ⟨⟨g1, g2⟩, g3, g4⟩ := hgA
        obtain ⟨⟨g5, g6⟩, g7, g8⟩ := hgB
        have hdl := diff_len A B
        have hpl := pat_len A (diffF A B)
        refine PQ.seq ?_
        refine CW.seq ?_
        refine CW.region ?_
        refine LW.v rfl rfl (Val.loadW (l := owC A y5) rfl Try.isAgg25 (by repeat (first | exact .here | exact .inner .here | exact .inner (.inner .here) | refine .there ?_)) (by exact Try.sizeOf25)) ?_
        refine LW.re 21 (.agg s5.cells.toArray) rfl (by rw [hv5]) ?_
        refine LW.v rfl rfl (Val.loadW (l := owC B y6) rfl Try.isAgg25 (by repeat (first | exact .here | exact .inner .here | exact .inner (.inner .here) | refine .there ?_)) (by exact Try.sizeOf25)) ?_
        refine LW.re 22 (.agg s6.cells.toArray) rfl (by rw [hv6]) ?_
        refine LW.e rfl rfl (Eff.callM ([]) .nil rfl Try.call9 (fun w hw hs => diff_c s5 s6 A B w (hs5 hw (by repeat (first | exact .nil | apply Pick.cons | exact .here | apply Ext.there))) (hs6 hw (by repeat (first | exact .nil | apply Pick.cons | exact .here | apply Ext.there))) (by exact ⟨⟨g1, g2⟩, g5, g6⟩))) ?_
        intro o ho
        obtain ⟨pd, cd, hvd, hsd⟩ := own_slg (e := 38) clC_len (diffF A B) o ho
        refine LW.re 23 (.slice pd (diffF A B).length cd) rfl hvd ?_
        refine LW.v rfl rfl (Val.assign rfl) ?_
        refine LW.nil ?_
        refine PQ.seq ?_
        refine CW.seq ?_
        refine CW.seq ?_
        refine CW.region ?_
        refine LW.v rfl rfl (Val.move rfl) ?_
        first | (refine LW.v rfl rfl (Val.loadW rfl Try.isAgg25 (by repeat (first | exact .here | exact .inner .here | exact .inner (.inner .here) | refine .there ?_)) (by exact Try.sizeOf25)) ?_) | (refine LW.v rfl rfl (Val.loadA [_, _] rfl Try.isAgg25 (by repeat (first | exact .here | exact .inner .here | exact .inner (.inner .here) | refine .there ?_)) (by rfl) Try.sizeOf25) ?_)
        first | (refine LW.v rfl rfl (Val.loadW rfl Try.isAgg25 (by repeat (first | exact .here | exact .inner .here | exact .inner (.inner .here) | refine .there ?_)) (by exact Try.sizeOf25)) ?_) | (refine LW.v rfl rfl (Val.loadA [_, _] rfl Try.isAgg25 (by repeat (first | exact .here | exact .inner .here | exact .inner (.inner .here) | refine .there ?_)) (by rfl) Try.sizeOf25) ?_)
        refine LW.e rfl rfl (Eff.callM ([]) .nil rfl Try.call14 (fun w hw hs => rdiff_c s1 s2 A B w (hA.hp hw (by simp [ids])) (hB.hp hw (by simp [ids])) (by exact ⟨⟨g1, g2⟩, g5, g6⟩))) ?_
        intro o2 ho2
        obtain ⟨pe, ce, hve, hse⟩ := own_slg (e := 38) clC_len (diffF A B) o2 ho2
        refine LW.re 27 (.slice pe (diffF A B).length ce) rfl hve ?_
        refine LW.e rfl rfl (Eff.callV rfl Try.call13 (fun w hw => sameCalls_c (diffF A B) _ _ _ _ _ _ rfl rfl (by omega) w (hsd hw (by repeat (first | exact .nil | apply Pick.cons | exact .here | apply Ext.there))) (hse hw (by repeat (first | exact .nil | apply Pick.cons | exact .here | apply Ext.there))))) ?_
        intro _ _
        refine LW.re 28 (.bool true) rfl (by rfl) ?_
        refine LW.v rfl rfl (Val.not rfl) ?_
        refine LW.nil ?_
        refine PQ.seq ?_
        refine CW.cond_f rfl ?_
        refine CW.skip ?_
        refine PQ.seq ?_
        refine CW.seq ?_
        refine CW.region ?_
        refine LW.v rfl rfl (Val.loadW (l := owC A y5) rfl Try.isAgg25 (by repeat (first | exact .here | exact .inner .here | exact .inner (.inner .here) | refine .there ?_)) (by exact Try.sizeOf25)) ?_
        refine LW.re 30 (.agg s5.cells.toArray) rfl (by rw [hv5]) ?_
        refine LW.v rfl rfl (Val.move rfl) ?_
        refine LW.e rfl rfl (Eff.callM ([]) .nil rfl Try.call15 (fun w hw hs => patch_c s5 A (diffF A B) pd cd w (hs5 hw (by repeat (first | exact .nil | apply Pick.cons | exact .here | apply Ext.there))) (hsd hw (by repeat (first | exact .nil | apply Pick.cons | exact .here | apply Ext.there))) (diff_k4 A B) (by omega))) ?_
        intro r hr
        obtain ⟨s8, hv8, hs8⟩ := off_cur (patF A (diffF A B)) r hr
        refine LW.e rfl rfl (Eff.allocA (by exact Try.zeroValue25)) ?_
        intro b8 _
        refine LW.eN rfl (Eff.storeW (cs := [ownV (patF A (diffF A B)).1.length r.1, offV (patF A (diffF A B)).2.length r.2]) rfl rfl (by repeat (first | exact .here | exact .inner .here | exact .inner (.inner .here) | apply Upd.there)) (by rfl) Try.sizeOf25 (by simp [V.ownV_one, offV_one])) ?_
        intro _ _
        refine LW.nil ?_
        refine PQ.seq ?_
        refine CW.seq ?_
        refine CW.drawn ([[(b2, .cells s1.cells.toArray 25 (0, 0))], [(b3, .cells s2.cells.toArray 25 (0, 0))], [(b8, .cells _ 25 (0, 0))]]) mixed (by repeat (first | exact .nil | apply Pick.cons | exact .here | apply Ext.there)) ?_
        refine RW.v 0 rfl (by kernel_rfl) (by kernel_rfl) (by kernel_rfl) (fun _ _ _ h => h) rfl rfl (Val.loadW (l := [ownV (patF A (diffF A B)).1.length r.1, offV (patF A (diffF A B)).2.length r.2]) rfl Try.isAgg25 (by repeat (first | exact .here | exact .inner .here | exact .inner (.inner .here) | refine .there ?_)) (by exact Try.sizeOf25)) ?_
        refine RW.re 33 (.agg s8.cells.toArray) rfl (by rw [hv8]) ?_
        first | (refine RW.v 1 rfl (by kernel_rfl) (by kernel_rfl) (by kernel_rfl) (fun _ _ _ h => h) rfl rfl (Val.loadW rfl Try.isAgg25 (by repeat (first | exact .here | exact .inner .here | exact .inner (.inner .here) | refine .there ?_)) (by exact Try.sizeOf25)) ?_) | (refine RW.v 1 rfl (by kernel_rfl) (by kernel_rfl) (by kernel_rfl) (fun _ _ _ h => h) rfl rfl (Val.loadA [_, _] rfl Try.isAgg25 (by repeat (first | exact .here | exact .inner .here | exact .inner (.inner .here) | refine .there ?_)) (by rfl) Try.sizeOf25) ?_)
        first | (refine RW.v 2 rfl (by kernel_rfl) (by kernel_rfl) (by kernel_rfl) (fun _ _ _ h => h) rfl rfl (Val.loadW rfl Try.isAgg25 (by repeat (first | exact .here | exact .inner .here | exact .inner (.inner .here) | refine .there ?_)) (by exact Try.sizeOf25)) ?_) | (refine RW.v 2 rfl (by kernel_rfl) (by kernel_rfl) (by kernel_rfl) (fun _ _ _ h => h) rfl rfl (Val.loadA [_, _] rfl Try.isAgg25 (by repeat (first | exact .here | exact .inner .here | exact .inner (.inner .here) | refine .there ?_)) (by rfl) Try.sizeOf25) ?_)
        first | (refine RW.v 3 rfl (by kernel_rfl) (by kernel_rfl) (by kernel_rfl) (fun _ _ _ h => h) rfl rfl (Val.loadW rfl Try.isAgg25 (by repeat (first | exact .here | exact .inner .here | exact .inner (.inner .here) | refine .there ?_)) (by exact Try.sizeOf25)) ?_) | (refine RW.v 3 rfl (by kernel_rfl) (by kernel_rfl) (by kernel_rfl) (fun _ _ _ h => h) rfl rfl (Val.loadA [_, _] rfl Try.isAgg25 (by repeat (first | exact .here | exact .inner .here | exact .inner (.inner .here) | refine .there ?_)) (by rfl) Try.sizeOf25) ?_)
        refine RW.e 4 rfl (by kernel_rfl) rfl rfl (Eff.callM ([]) .nil rfl Try.call14 (fun w hw hs => rdiff_c s1 s2 A B w (hA.hp hw (by simp [ids])) (hB.hp hw (by simp [ids])) (by exact ⟨⟨g1, g2⟩, g5, g6⟩))) (fun x => ⟨_, (by repeat (first | exact .nil | apply Pick.cons | exact .here | apply Ext.there))⟩) ?_
        intro o3 ho3
        obtain ⟨pf, cf, hvf, hsf⟩ := own_slg (e := 38) clC_len (diffF A B) o3 ho3
        refine RW.re 37 (.slice pf (diffF A B).length cf) rfl hvf ?_
        refine RW.e 5 rfl (by kernel_rfl) rfl rfl (Eff.callM ([]) .nil rfl Try.call16 (fun w hw hs => rpatch_c s1 A (diffF A B) pf cf w (hA.hp hw (by simp [ids])) (hsf hw (by repeat (first | exact .nil | apply Pick.cons | exact .here | apply Ext.there))) (diff_k4 A B) (by omega))) (fun x => ⟨_, (by repeat (first | exact .nil | apply Pick.cons | exact .here | apply Ext.there))⟩) ?_
        intro r3 hr3
        obtain ⟨s9, hv9, hs9⟩ := ref_cur s1 A (patF A (diffF A B)) r3 w hA hr3
        refine RW.re 38 (.agg s9.cells.toArray) rfl (by rw [hv9]) ?_
        refine RW.e 6 rfl (by kernel_rfl) rfl rfl (Eff.callV rfl Try.call11 (fun w hw => sameShelf_c s8 s9 (patF A (diffF A B)) (patF A (diffF A B)) w (hs8 hw (by repeat (first | exact .nil | apply Pick.cons | exact .here | apply Ext.there))) (hs9 hw (by repeat (first | exact .nil | apply Pick.cons | exact .here | apply Ext.there))) (by omega))) (fun x => ⟨_, (by repeat (first | exact .nil | apply Pick.cons | exact .here | apply Ext.there))⟩) ?_
        intro _ _
        refine RW.re 39 (.bool true) rfl (by simp) ?_
        refine RW.v 7 rfl (by kernel_rfl) (by kernel_rfl) (by kernel_rfl) (fun _ _ _ h => h) rfl rfl (Val.assign rfl) ?_
        refine RW.done (by kernel_rfl) ?_
        refine PQ.seq ?_
        refine CW.seq ?_
        refine CW.region ?_
        refine LW.v rfl rfl (Val.loadW (l := [ownV (patF A (diffF A B)).1.length r.1, offV (patF A (diffF A B)).2.length r.2]) rfl Try.isAgg25 (by repeat (first | exact .here | exact .inner .here | exact .inner (.inner .here) | refine .there ?_)) (by exact Try.sizeOf25)) ?_
        refine LW.e rfl rfl (Eff.callM ([ownG 45 ((patF A (diffF A B)).1.flatMap prC) r.1, offG 9 ((patF A (diffF A B)).2.flatMap stE) r.2]) (by repeat (first | exact .nil | apply Pick.cons | exact .here | apply Ext.there)) rfl Try.call17 (fun w hw hs => over_c (patF A (diffF A B)).1 r.1 (patF A (diffF A B)).2 r.2 w hr.1 hr.2 (by omega) hs)) ?_
        intro _ _
        refine LW.nil ?_
        refine PQ.seq ?_
        refine CW.seq ?_
        refine CW.region ?_
        refine LW.v rfl rfl (Val.move rfl) ?_
        refine LW.v rfl rfl (Val.move rfl) ?_
        refine LW.v rfl rfl (Val.loadW (l := owC A y5) rfl Try.isAgg25 (by repeat (first | exact .here | exact .inner .here | exact .inner (.inner .here) | refine .there ?_)) (by exact Try.sizeOf25)) ?_
        refine LW.re 44 (.agg s5.cells.toArray) rfl (by rw [hv5]) ?_
        first | (refine LW.v rfl rfl (Val.loadW rfl Try.isAgg25 (by repeat (first | exact .here | exact .inner .here | exact .inner (.inner .here) | refine .there ?_)) (by exact Try.sizeOf25)) ?_) | (refine LW.v rfl rfl (Val.loadA [_, _] rfl Try.isAgg25 (by repeat (first | exact .here | exact .inner .here | exact .inner (.inner .here) | refine .there ?_)) (by rfl) Try.sizeOf25) ?_)
        refine LW.e rfl rfl (Eff.callV rfl Try.call11 (fun w hw => sameShelf_c s5 s1 A A w (hs5 hw (by repeat (first | exact .nil | apply Pick.cons | exact .here | apply Ext.there))) (hA.hp hw (by simp [ids])) (by omega))) ?_
        intro _ _
        refine LW.re 46 (.bool true) rfl (by simp) ?_
        refine LW.v rfl rfl (Val.pick_t rfl rfl) ?_
        refine LW.v rfl rfl (Val.move rfl) ?_
        refine LW.v rfl rfl (Val.loadW (l := owC B y6) rfl Try.isAgg25 (by repeat (first | exact .here | exact .inner .here | exact .inner (.inner .here) | refine .there ?_)) (by exact Try.sizeOf25)) ?_
        refine LW.re 49 (.agg s6.cells.toArray) rfl (by rw [hv6]) ?_
        first | (refine LW.v rfl rfl (Val.loadW rfl Try.isAgg25 (by repeat (first | exact .here | exact .inner .here | exact .inner (.inner .here) | refine .there ?_)) (by exact Try.sizeOf25)) ?_) | (refine LW.v rfl rfl (Val.loadA [_, _] rfl Try.isAgg25 (by repeat (first | exact .here | exact .inner .here | exact .inner (.inner .here) | refine .there ?_)) (by rfl) Try.sizeOf25) ?_)
        refine LW.e rfl rfl (Eff.callV rfl Try.call11 (fun w hw => sameShelf_c s6 s2 B B w (hs6 hw (by repeat (first | exact .nil | apply Pick.cons | exact .here | apply Ext.there))) (hB.hp hw (by simp [ids])) (by omega))) ?_
        intro _ _
        refine LW.re 51 (.bool true) rfl (by simp) ?_
        refine LW.v rfl rfl (Val.pick_t rfl rfl) ?_
        refine LW.v rfl rfl (Val.move rfl) ?_
        refine LW.e rfl rfl (Eff.callV rfl Try.call8 (fun w hw => awake_c w)) ?_
        intro _ _
        refine LW.v rfl rfl (Val.pick_t rfl rfl) ?_
        refine LW.v rfl rfl (Val.assign rfl) ?_
        refine LW.nil ?_
        refine PQ.seq ?_
        refine CW.ret ?_
        refine PQ.ret1 rfl rfl ?_
        intro w' hw; exact ⟨by rfl, hw.below⟩
end Go.Proofs.Ytipnpnkniihdjaa
