/- TableScript: the walk of the law. -/
import Derived.Test.YtaihimbjdgmjgaaTbK
import Derived.Lib.Hide
namespace Go.Proofs.Ytaihimbjdgmjgaa
open Go Go.RowKit V
set_option linter.unusedVariables false
set_option maxRecDepth 100000
open V (ownV ownG ownS ownOk Stp Vis itO str byC)
theorem overL_c (y : V.OwnO) (m : Nat) (xs : List Value) (hk : V.ownOk 5 m xs y) (hl : m ≤ 1000) (w : World) (hs : Sat (V.ownS 44 xs y) w) : Calls Try.prog 38 [V.ownV m y].toArray w fun e w' => ∃ _u : Unit, True ∧ e = .returned (.tuple #[]) ∧ Hp ⟨w, ids (V.ownS 44 xs y)⟩ [] w' := by
  rcases y with _ | ⟨g, rest, cap⟩
  · obtain ⟨hx, h0⟩ := hk
    simp only at h0
    subst h0
    obtain rfl : xs = [] := List.length_eq_zero_iff.1 (by omega)
    refine V.calls [] Try.func38 rfl Try.ntmps38 (Nat.le_of_ble_eq_true rfl) (V.sat_nil _) ?_
    refine CW.seq ?_
    refine CW.seq ?_
    refine CW.region ?_
    refine LW.v rfl rfl (Val.assign rfl) ?_
    refine LW.nil ?_
    refine PQ.seq ?_
    refine CW.block ?_
    refine CW.loop (γ := Nat) (fun k => [(0, .slice none 0 0), (2, .int .i64 (k : Nat))]) (fun _ => []) (fun k => k = 0) (fun k => 0) (0) rfl (by repeat (first | exact trivial | refine ⟨rfl, ?_⟩)) (by repeat (first | exact .nil | apply Pick.cons | exact .here | apply Ext.there)) ?_
    intro k
    intro hJ
    refine CW.seq ?_
    refine CW.seq ?_
    refine CW.region ?_
    refine LW.v rfl rfl (Val.move rfl) ?_
    refine LW.v rfl rfl (Val.move rfl) ?_
    refine LW.v rfl rfl (Val.lenSl rfl Try.underlying41) ?_
    refine LW.v rfl rfl (Val.cmp rfl rfl rfl) ?_
    refine LW.nil ?_
    refine PQ.seq ?_
    refine CW.cond rfl (fun h6 => ?_) (fun h6 => ?_)
    · exact absurd (bT h6) (by omega)
    · replace h6 := bF h6
      refine CW.exit ?_
      refine PQ.then_exit ?_
      refine PQ.then_exit ?_
      refine PQ.in_here ?_
      refine PQ.seq ?_
      refine CW.region ?_
      refine LW.v rfl rfl (Val.move rfl) ?_
      refine LW.v rfl rfl (Val.build [_, _, _, _, _] Try.zeroValue44 Try.underlying44 places44 rfl (by rfl)) ?_
      refine LW.e rfl rfl (Eff.buildSlice (rfl) [_, _, _, _, _] Try.underlying41 Try.sizeOf44 (by exact Try.zeroValue44) rfl rfl rfl rfl (by rfl)) ?_
      intro b15 _
      refine LW.e rfl rfl (Eff.appendAny ([.string ⟨#[98, 101, 121, 111, 110, 100]⟩, .int .u64 0, .int .u64 0, .int .i64 0, .int .i64 0]) (sz := 5) (bytes := 48) (z := .agg #[.string ⟨#[]⟩, .int .u64 0, .int .u64 0, .int .i64 0, .int .i64 0]) (xs := []) (m0 := 0) (o := none) (m := 1) (pk := []) rfl rfl Try.underlying41 (by kernel_rfl) rfl (by omega) .nil rfl ⟨rfl, rfl⟩ rfl (fun hm0 => ⟨b15, 0, rfl, fun w hw => V.range_of_block (o := 0) (cs := [.string ⟨#[98, 101, 121, 111, 110, 100]⟩, .int .u64 0, .int .u64 0, .int .i64 0, .int .i64 0]) (r := []) (hw.own _ (show InS (b15, .cells ([.string ⟨#[98, 101, 121, 111, 110, 100]⟩, .int .u64 0, .int .u64 0, .int .i64 0, .int .i64 0]).toArray 44 (0, 0)) _ from (by repeat (first | exact .here | refine .there ?_))).mem) rfl⟩) rfl (by omega) (by omega)) ?_
      intro _ _
      refine LW.nil ?_
      refine PQ.end0 rfl ?_
      intro w' hw; exact ⟨(), trivial, rfl, hw.pick (ss := []) .nil⟩
  · obtain ⟨hx, hcap⟩ := hk
    simp only at hcap
    obtain ⟨cs, hcs⟩ : ∃ cs, cs = xs ++ rest := ⟨_, rfl⟩
    have hlen : cs.length = cap * 5 := by rw [hcs, List.length_append]; exact hcap
    have hmc : m ≤ cap := by omega
    refine V.calls [[(g, .cells cs.toArray 44 (0, 0))]] Try.func38 rfl Try.ntmps38 (Nat.le_of_ble_eq_true rfl) (by rw [hcs]; exact hs) ?_
    refine CW.seq ?_
    refine CW.seq ?_
    refine CW.region ?_
    refine LW.v rfl rfl (Val.assign rfl) ?_
    refine LW.nil ?_
    refine PQ.seq ?_
    refine CW.block ?_
    refine CW.loop (γ := Nat × List Value) (fun k => [(0, .slice (some ⟨g, 0, none⟩) m cap), (2, .int .i64 (k.1 : Nat))]) (fun k => [[(g, .cells k.2.toArray 44 (0, 0))]]) (fun k => k.1 ≤ m ∧ k.2.length = cap * 5) (fun k => m - k.1) ((0, cs)) ⟨Nat.zero_le _, hlen⟩ (by repeat (first | exact trivial | refine ⟨rfl, ?_⟩)) (by repeat (first | exact .nil | apply Pick.cons | exact .here | apply Ext.there)) ?_
    intro k
    rintro ⟨hj1, hj2⟩
    refine CW.seq ?_
    refine CW.seq ?_
    refine CW.region ?_
    refine LW.v rfl rfl (Val.move rfl) ?_
    refine LW.v rfl rfl (Val.move rfl) ?_
    refine LW.v rfl rfl (Val.lenSl rfl Try.underlying41) ?_
    refine LW.v rfl rfl (Val.cmp rfl rfl rfl) ?_
    refine LW.nil ?_
    refine PQ.seq ?_
    refine CW.cond rfl (fun h6 => ?_) (fun h6 => ?_)
    · replace h6 := bT h6
      refine CW.skip ?_
      refine PQ.seq ?_
      refine CW.seq ?_
      refine CW.block ?_
      refine CW.region ?_
      refine LW.v rfl rfl (Val.move rfl) ?_
      refine LW.v rfl rfl (Val.move rfl) ?_
      refine LW.v rfl rfl (Val.build [_, _, _, _, _] Try.zeroValue44 Try.underlying44 places44 rfl (by rfl)) ?_
      first | (refine LW.v rfl rfl (Val.indexAddrN rfl rfl Try.underlying41 Try.sizeOf44 (by omega)) ?_) | (refine LW.v rfl rfl (Val.indexAddr rfl rfl Try.underlying41 Try.sizeOf44 (by omega) (by omega)) ?_)
      refine LW.eN rfl (Eff.storeA (cs := [.string ⟨#[111, 118, 101, 114]⟩, .int .u64 0, .int .u64 0, .int .i64 (-9), .int .i64 0]) rfl rfl (by repeat (first | exact .here | apply Upd.there)) rfl (by simp only [List.length_cons, List.length_nil]; omega) Try.sizeOf44 rfl) ?_
      intro _ _
      refine LW.nil ?_
      refine PQ.in_normal ?_
      refine PQ.seq ?_
      refine CW.region ?_
      refine LW.v rfl rfl (Val.move rfl) ?_
      refine LW.v rfl rfl (Val.ar rfl rfl rfl (IntWalk.i64_in _ (by omega))) ?_
      refine LW.v rfl rfl (Val.assign rfl) ?_
      refine LW.nil ?_
      refine PQ.round ((k.1 + 1, V.splice k.2 (0 + k.1 * 5) ([.string ⟨#[111, 118, 101, 114]⟩, .int .u64 0, .int .u64 0, .int .i64 (-9), .int .i64 0]))) ⟨by simp only; omega, by rw [V.length_splice]; exact hj2⟩ (by simp only; omega) (by repeat (first | exact trivial | refine ⟨rfl, ?_⟩)) (by repeat (first | exact .nil | apply Pick.cons | exact .here | apply Ext.there))
    · replace h6 := bF h6
      refine CW.exit ?_
      refine PQ.then_exit ?_
      refine PQ.then_exit ?_
      refine PQ.in_here ?_
      refine PQ.seq ?_
      refine CW.region ?_
      refine LW.v rfl rfl (Val.move rfl) ?_
      refine LW.v rfl rfl (Val.build [_, _, _, _, _] Try.zeroValue44 Try.underlying44 places44 rfl (by rfl)) ?_
      refine LW.e rfl rfl (Eff.buildSlice (rfl) [_, _, _, _, _] Try.underlying41 Try.sizeOf44 (by exact Try.zeroValue44) rfl rfl rfl rfl (by rfl)) ?_
      intro b15 _
      refine LW.e rfl rfl (Eff.appendAny ([.string ⟨#[98, 101, 121, 111, 110, 100]⟩, .int .u64 0, .int .u64 0, .int .i64 0, .int .i64 0]) (sz := 5) (bytes := 48) (z := .agg #[.string ⟨#[]⟩, .int .u64 0, .int .u64 0, .int .i64 0, .int .i64 0]) (xs := k.2.take (m * 5)) (m0 := m) (o := (some (g, k.2.drop (m * 5), cap))) (m := 1) (pk := [[(g, .cells k.2.toArray 44 (0, 0))]]) rfl rfl Try.underlying41 (by kernel_rfl) rfl (by omega) (by repeat (first | exact .nil | apply Pick.cons | exact .here | apply Ext.there)) (by simp [V.ownG_some, List.take_append_drop]) ⟨by rw [List.length_take]; omega, by show (k.2.take (m * 5)).length + (k.2.drop (m * 5)).length = cap * 5; rw [← List.length_append, List.take_append_drop]; exact hj2⟩ rfl (fun hm0 => ⟨b15, 0, rfl, fun w hw => V.range_of_block (o := 0) (cs := [.string ⟨#[98, 101, 121, 111, 110, 100]⟩, .int .u64 0, .int .u64 0, .int .i64 0, .int .i64 0]) (r := []) (hw.own _ (show InS (b15, .cells ([.string ⟨#[98, 101, 121, 111, 110, 100]⟩, .int .u64 0, .int .u64 0, .int .i64 0, .int .i64 0]).toArray 44 (0, 0)) _ from (by repeat (first | exact .here | refine .there ?_))).mem) rfl⟩) rfl (by omega) (by omega)) ?_
      intro _ _
      refine LW.nil ?_
      refine PQ.end0 rfl ?_
      intro w' hw; refine ⟨(), trivial, rfl, ?_⟩
      have h6 := hw.pick (ss := []) .nil
      rw [hcs] at h6
      exact h6
theorem overG_c (o : V.OwnO) (L : List Lk) (hok : lkOk o L) (hl : L.length ≤ 1000) (w : World) (hs : Sat [ownG 44 (L.flatMap lkC) o] w) : Calls Try.prog 38 [ownV L.length o].toArray w fun e w' => ∃ _u : Unit, True ∧ e = .returned (.tuple #[]) ∧ Hp ⟨w, ids [ownG 44 (L.flatMap lkC) o]⟩ [] w' := by
  have e1 : ([ownG 44 (L.flatMap lkC) o] : Sg).flatten = (ownS 44 (L.flatMap lkC) o).flatten := by simp [ownG]
  have := overL_c o L.length (L.flatMap lkC) hok hl w ⟨fun p hp => hs.own p (by rw [e1]; exact hp), by have := hs.nd; rwa [e1] at this⟩
  exact this.mono fun e w' ⟨u, h1, h2, h3⟩ => ⟨u, h1, h2, by unfold ids at h3 ⊢; rw [e1]; exact h3⟩
theorem sameL_c (oa ob : V.OwnO) (L : List Lk) (ha : lkOk oa L) (hb : lkOk ob L) (hl : L.length ≤ 1000) (w : World) (hs1 : Sat [ownG 44 (L.flatMap lkC) oa] w) (hs2 : Sat [ownG 44 (L.flatMap lkC) ob] w) : Calls Try.prog 37 [ownV L.length oa, ownV L.length ob].toArray w fun e w' => e = .returned (.bool true) ∧ Below w.heap.size w w' := by
  refine V.calls [] Try.func37 rfl Try.ntmps37 (Nat.le_of_ble_eq_true rfl) (V.sat_nil _) ?_
  refine CW.seq ?_
  refine CW.region ?_
  refine LW.v rfl rfl (Val.assign rfl) ?_
  refine LW.nil ?_
  refine PQ.seq ?_
  refine CW.seq ?_
  refine CW.seq ?_
  refine CW.region ?_
  refine LW.v rfl rfl (Val.move rfl) ?_
  refine LW.v rfl rfl (Val.lenOwn rfl Try.underlying41 ha) ?_
  refine LW.v rfl rfl (Val.move rfl) ?_
  refine LW.v rfl rfl (Val.lenOwn rfl Try.underlying41 hb) ?_
  refine LW.v rfl rfl (Val.cmp rfl rfl rfl) ?_
  refine LW.re 10 (.bool false) rfl (by simp) ?_
  refine LW.nil ?_
  refine PQ.seq ?_
  refine CW.cond_f rfl ?_
  refine CW.skip ?_
  refine PQ.seq ?_
  refine CW.seq ?_
  refine CW.seq ?_
  refine CW.region ?_
  refine LW.v rfl rfl (Val.assign rfl) ?_
  refine LW.nil ?_
  refine PQ.seq ?_
  refine CW.block ?_
  refine CW.loop (γ := Nat) (fun k => [(0, ownV L.length oa), (1, ownV L.length ob), (5, .int .i64 (k : Nat))]) (fun _ => []) (fun k => k ≤ L.length) (fun k => L.length - k) (0) (Nat.zero_le _) (by repeat (first | exact trivial | refine ⟨rfl, ?_⟩)) (by repeat (first | exact .nil | apply Pick.cons | exact .here | apply Ext.there)) ?_
  intro k
  intro hJ
  refine CW.seq ?_
  refine CW.seq ?_
  refine CW.region ?_
  refine LW.v rfl rfl (Val.move rfl) ?_
  refine LW.v rfl rfl (Val.move rfl) ?_
  refine LW.v rfl rfl (Val.lenOwn rfl Try.underlying41 ha) ?_
  refine LW.v rfl rfl (Val.cmp rfl rfl rfl) ?_
  refine LW.nil ?_
  refine PQ.seq ?_
  refine CW.cond rfl (fun h14 => ?_) (fun h14 => ?_)
  · replace h14 := bT h14
    obtain ⟨⟨g1, rest1, cap1⟩, rfl⟩ := own_some ha (by omega)
    obtain ⟨⟨g2, rest2, cap2⟩, rfl⟩ := own_some hb (by omega)
    obtain ⟨x, hx⟩ : ∃ x, L[k]? = some x := ⟨L[k]'(by omega), by simp⟩
    obtain ⟨q1, hq1⟩ := lk_drop rest1 hx
    obtain ⟨q2, hq2⟩ := lk_drop rest2 hx
    refine CW.skip ?_
    refine PQ.seq ?_
    refine CW.seq ?_
    refine CW.block ?_
    refine CW.seq ?_
    refine CW.quiet mixedT (by kernel_rfl) ?_
    refine QW.v rfl rfl (Val.move rfl) ?_
    refine QW.v rfl rfl (Val.move rfl) ?_
    first | (refine QW.v rfl rfl (Val.indexAddrN rfl rfl Try.underlying41 Try.sizeOf44 (by omega)) ?_) | (refine QW.v rfl rfl (Val.indexAddr rfl rfl Try.underlying41 Try.sizeOf44 (by omega) (by omega)) ?_)
    refine QW.v rfl rfl (Val.loadOA (cs := lkC x) rfl Try.isAgg44 (hs1.lt (k := g1) (by simp [ownG, ownS, ids])) (by simp [ids]) (V.range_of_block (hs1.own (g1, .cells (L.flatMap lkC ++ rest1).toArray 44 (0, 0)) (by simp [ownG, ownS])) hq1) (by exact Try.sizeOf44)) ?_
    refine QW.v rfl rfl (Val.move rfl) ?_
    refine QW.v rfl rfl (Val.move rfl) ?_
    first | (refine QW.v rfl rfl (Val.indexAddrN rfl rfl Try.underlying41 Try.sizeOf44 (by omega)) ?_) | (refine QW.v rfl rfl (Val.indexAddr rfl rfl Try.underlying41 Try.sizeOf44 (by omega) (by omega)) ?_)
    refine QW.v rfl rfl (Val.loadOA (cs := lkC x) rfl Try.isAgg44 (hs2.lt (k := g2) (by simp [ownG, ownS, ids])) (by simp [ids]) (V.range_of_block (hs2.own (g2, .cells (L.flatMap lkC ++ rest2).toArray 44 (0, 0)) (by simp [ownG, ownS])) hq2) (by exact Try.sizeOf44)) ?_
    refine QW.v rfl rfl (Val.neA rfl rfl (by kernel_rfl) Try.underlying44 (by kernel_rfl) (by exact (.str rfl rfl Try.isAgg9 Try.underlying9 (.int rfl rfl Try.isAgg32 Try.underlying32 (.int rfl rfl Try.isAgg32 Try.underlying32 (.int rfl rfl Try.isAgg3 Try.underlying3 (.int rfl rfl Try.isAgg3 Try.underlying3 .nil))))))) ?_
    refine QW.re 25 (.bool false) rfl (by simp) ?_
    refine QW.nil ?_
    refine PQ.seq ?_
    refine CW.cond_f rfl ?_
    refine CW.skip ?_
    refine PQ.in_normal ?_
    refine PQ.seq ?_
    refine CW.region ?_
    refine LW.v rfl rfl (Val.move rfl) ?_
    refine LW.v rfl rfl (Val.ar rfl rfl rfl (IntWalk.i64_in _ (by omega))) ?_
    refine LW.v rfl rfl (Val.assign rfl) ?_
    refine LW.nil ?_
    refine PQ.round (k + 1) (by omega) (by omega) (by repeat (first | exact trivial | refine ⟨rfl, ?_⟩)) (by repeat (first | exact .nil | apply Pick.cons | exact .here | apply Ext.there))
  · replace h14 := bF h14
    refine CW.exit ?_
    refine PQ.then_exit ?_
    refine PQ.then_exit ?_
    refine PQ.in_here ?_
    refine PQ.seq ?_
    refine CW.seq ?_
    refine CW.region ?_
    refine LW.v rfl rfl (Val.assign rfl) ?_
    refine LW.nil ?_
    refine PQ.seq ?_
    refine CW.ret ?_
    refine PQ.ret1 rfl rfl ?_
    intro w' hw; exact ⟨rfl, hw.below⟩
theorem nextOk_det {f : ByteArray → Option Lk} {b : Int} {pos : ByteArray} {past : Bool} {r r2 : Option Lk} (h : NextOk f b pos past r) (h2 : NextOk f b pos past r2) : r2 = r := by
  cases r with
  | none =>
    cases r2 with
    | none => rfl
    | some x =>
      obtain ⟨h3, h4, h5, _⟩ := h2
      obtain ⟨h6, h7⟩ := h x.key x h3 h4
      exact absurd (h5 h6) h7
  | some y =>
    obtain ⟨g3, g4, g5, g6⟩ := h
    cases r2 with
    | none =>
      obtain ⟨h6, h7⟩ := h2 y.key y g3 g4
      exact absurd (g5 h6) h7
    | some x =>
      obtain ⟨h3, h4, h5, h6⟩ := h2
      have e : x.key = y.key := kL_inj (List.le_antisymm (h6 y.key y g3 g4 g5) (g6 x.key x h3 h4 h5))
      rw [e, g3] at h3
      cases h3; rfl
theorem allOk_uniq {f : ByteArray → Option Lk} {n m : Nat} {L L' : List Lk} (h : AllOk f n L) (h2 : AllOk f m L') : L' = L := by
  have hm : ∀ x, x ∈ L' ↔ x ∈ L := fun x => ⟨fun hx => h.all _ _ (h2.get x hx), fun hx => h2.all _ _ (h.get x hx)⟩
  have nd : ∀ {M : List Lk}, M.Pairwise (fun a b => kL a < kL b) → M.Nodup := fun hp => hp.imp fun {a b} hab e => by subst e; exact List.lt_irrefl _ hab
  have hp : L'.Perm L := (List.perm_ext_iff_of_nodup (nd h2.up) (nd h.up)).2 hm
  exact List.Perm.eq_of_pairwise (fun a b _ _ h3 h4 => absurd (List.lt_trans h3 h4) (List.lt_irrefl _)) h2.up h.up hp
theorem allOk_len {E : ME} {c : Nat → Nat} {f : ByteArray → Option Lk} {n m : Nat} {L : List Lk} (hT : TK E c f n) (h : AllOk f m L) : AllOk f n L := ⟨links_eq hT (up_nodup h.up) h.get h.all, h.get, h.all, h.up⟩
/-- Both tables behind k acts. -/
def SJ (acts : List Ac12) (k : Nat) (E : ME) (c : Nat → Nat) (o : V.OwnO) (L : List Lk) : Prop := ∃ n1, n1 ≤ k ∧ TK E c (plF (acts.take k)) n1 ∧ AllOk (plF (acts.take k)) n1 L ∧ lkOk o L
theorem SJ.nil (acts : List Ac12) : SJ acts 0 [] (fun _ => 0) none [] := ⟨0, Nat.le_refl _, TK.nil, ⟨rfl, by simp, (fun q x h => by cases h), .nil⟩, lkOk_nil⟩
theorem SJ.set {acts : List Ac12} {k : Nat} {s : Ac12} (hs : acts[k]? = some s) (hd : s.d = 0) {n1 m : Nat} (hn : n1 ≤ k) {E : ME} {c : Nat → Nat} {o : V.OwnO} {L : List Lk} (hT : TK E c (fset (plF (acts.take k)) s.l) (if (plF (acts.take k) s.l.key).isSome then n1 else n1 + 1)) (hA : AllOk (fset (plF (acts.take k)) s.l) m L) (hk : lkOk o L) : SJ acts (k + 1) E c o L := by
  refine ⟨_, ?_, by rw [plF_snoc hs, plStep, if_pos hd]; exact hT, by rw [plF_snoc hs, plStep, if_pos hd]; exact allOk_len hT hA, hk⟩
  split <;> omega
theorem SJ.del {acts : List Ac12} {k : Nat} {s : Ac12} (hs : acts[k]? = some s) (hd : s.d ≠ 0) (hd1 : s.d = 1) {n1 m : Nat} (hn : n1 ≤ k) {E : ME} {c : Nat → Nat} {o : V.OwnO} {L : List Lk} (hT : TK E c (fdel (plF (acts.take k)) s.l.key) (if (plF (acts.take k) s.l.key).isSome then n1 - 1 else n1)) (hA : AllOk (fdel (plF (acts.take k)) s.l.key) m L) (hk : lkOk o L) : SJ acts (k + 1) E c o L := by
  refine ⟨_, ?_, by rw [plF_snoc hs, plStep, if_neg hd, if_pos hd1]; exact hT, by rw [plF_snoc hs, plStep, if_neg hd, if_pos hd1]; exact allOk_len hT hA, hk⟩
  split <;> omega
theorem SJ.keep {acts : List Ac12} {k : Nat} {s : Ac12} (hs : acts[k]? = some s) (hd : s.d ≠ 0) (hd1 : s.d ≠ 1) {n1 : Nat} (hn : n1 ≤ k) {E : ME} {c : Nat → Nat} {o : V.OwnO} {L : List Lk} (hT : TK E c (plF (acts.take k)) n1) (hA : AllOk (plF (acts.take k)) n1 L) (hk : lkOk o L) : SJ acts (k + 1) E c o L :=
  ⟨n1, by omega, by rw [plF_snoc hs, plStep, if_neg hd, if_neg hd1]; exact hT, by rw [plF_snoc hs, plStep, if_neg hd, if_neg hd1]; exact hA, hk⟩
theorem tableScript_c (p : Option Addr) (n cap : Nat) (acts : List Ac12) (w : World) (hn : acts.length = n) (h : V.slAt w p 8 Ac12.cells acts) (hm : n ≤ maxLen) : Calls Try.prog 7 [.slice p n cap].toArray w fun e w' => e = .returned (.bool true) ∧ Below w.heap.size w w' := by
  refine V.calls [] Try.func7 rfl Try.ntmps7 (Nat.le_of_ble_eq_true rfl) (V.sat_nil _) ?_
  refine CW.seq ?_
  refine CW.region ?_
  refine LW.v rfl rfl (Val.assign rfl) ?_
  refine LW.nil ?_
  refine PQ.seq ?_
  refine CW.seq ?_
  refine CW.seq ?_
  refine CW.region ?_
  refine LW.v rfl rfl (Val.move rfl) ?_
  refine LW.e rfl rfl (Eff.callR rfl Try.call12 (fun w hw => large12_c p n cap acts w hn (hw.slAt h (by simp [ids])) hm)) ?_
  intro lg hlg
  refine LW.nil ?_
  refine PQ.seq ?_
  refine CW.cond rfl (fun h13 => ?_) (fun h13 => ?_)
  · replace h13 := bT h13
    refine CW.seq ?_
    refine CW.region ?_
    refine LW.e rfl rfl (Eff.callV rfl Try.call13 (fun w hw => awake12_c w)) ?_
    intro _ _
    refine LW.v rfl rfl (Val.assign rfl) ?_
    refine LW.nil ?_
    refine PQ.seq ?_
    refine CW.ret ?_
    refine PQ.then_ret ?_
    refine PQ.ret1 rfl rfl ?_
    intro w' hw; exact ⟨rfl, hw.below⟩
  · replace h13 := bF h13
    refine CW.skip ?_
    refine PQ.seq ?_
    refine CW.seq ?_
    refine CW.region ?_
    refine LW.e rfl rfl (Eff.callM ([]) (by repeat (first | exact .nil | apply Pick.cons | exact .here | apply Ext.there)) rfl Try.call30 (fun w hw hs0 => tnew_c w)) ?_
    rintro ⟨t, m⟩ _
    refine LW.v rfl rfl (Val.build [_] Try.zeroValue58 Try.underlying58 places58 rfl (by rfl)) ?_
    refine LW.e rfl rfl (Eff.boxA rfl) ?_
    intro b17 _
    refine LW.v rfl rfl (Val.assign rfl) ?_
    refine LW.v rfl rfl (Val.assign rfl) ?_
    refine LW.nil ?_
    refine PQ.seq ?_
    refine CW.seq ?_
    refine CW.seq ?_
    refine CW.region ?_
    refine LW.v rfl rfl (Val.move rfl) ?_
    refine LW.v rfl rfl (Val.eqP false rfl rfl Try.underlying39 (.inr ⟨rfl, rfl⟩)) ?_
    refine LW.nil ?_
    refine PQ.seq ?_
    refine CW.cond_f rfl ?_
    refine CW.skip ?_
    refine PQ.seq ?_
    refine CW.seq ?_
    refine CW.seq ?_
    refine CW.region ?_
    refine LW.v rfl rfl (Val.assign rfl) ?_
    refine LW.nil ?_
    refine PQ.seq ?_
    refine CW.block ?_
    refine V.CW.addOwn 44 ?_
    refine CW.loop (γ := Nat × (ME × (Nat → Nat)) × V.OwnO × List Lk) (fun k => [(0, .slice p n cap), (3, .pointer (some ⟨t, 0, none⟩)), (4, .pointer (some ⟨b17, 0, none⟩)), (5, .int .i64 (k.1 : Nat))]) (fun k => tbG t m k.2.1.1 k.2.1.2 ++ rtG b17 k.2.2.1 k.2.2.2) (fun k => k.1 ≤ n ∧ SJ acts k.1 k.2.1.1 k.2.1.2 k.2.2.1 k.2.2.2) (fun k => n - k.1) ((0, ([], fun _ => 0), none, [])) ⟨Nat.zero_le _, SJ.nil acts⟩ (by repeat (first | exact trivial | refine ⟨rfl, ?_⟩)) (by repeat (first | exact .nil | apply Pick.cons | exact .here | apply Ext.there)) ?_
    intro k
    rintro ⟨hkn, n1, hn1, hT, hA, hk⟩
    have hF1 := (hlg h13).1
    have hLn := hA.len
    refine CW.seq ?_
    refine CW.seq ?_
    refine CW.region ?_
    refine LW.v rfl rfl (Val.move rfl) ?_
    refine LW.v rfl rfl (Val.move rfl) ?_
    refine LW.v rfl rfl (Val.lenSl rfl Try.underlying37) ?_
    refine LW.v rfl rfl (Val.cmp rfl rfl rfl) ?_
    refine LW.nil ?_
    refine PQ.seq ?_
    refine CW.cond rfl (fun h23 => ?_) (fun h23 => ?_)
    · replace h23 := bT h23
      obtain ⟨bb, oo, s, rfl, hb, hs, hh⟩ := V.slAt_at h hn (k := k.1) (by omega)
      have hkey := (hlg h13).at hs
      refine CW.skip ?_
      refine PQ.seq ?_
      refine CW.seq ?_
      refine CW.block ?_
      refine CW.seq ?_
      refine CW.region ?_
      refine LW.v rfl rfl (Val.move rfl) ?_
      refine LW.v rfl rfl (Val.move rfl) ?_
      first | (refine LW.v rfl rfl (Val.indexAddrN rfl rfl Try.underlying37 Try.sizeOf60 (by omega)) ?_) | (refine LW.v rfl rfl (Val.indexAddr rfl rfl Try.underlying37 Try.sizeOf60 (by omega) (by omega)) ?_)
      refine LW.v rfl rfl (Val.loadOA (cs := Ac12.cells s) rfl Try.isAgg60 hb (by simp [ids]) (hh k.1 s hs) (by exact Try.sizeOf60)) ?_
      refine LW.e rfl rfl (Eff.allocA (by exact Try.zeroValue60)) ?_
      intro b6 _
      first | (refine LW.eN rfl (Eff.storeW rfl rfl (by repeat (first | exact .here | apply Upd.there)) (by rfl) Try.sizeOf60 (by rfl)) ?_) | (refine LW.eN rfl (Eff.storeA (l' := _) rfl rfl (by repeat (first | exact .here | apply Upd.there)) (by rfl) (by decide) Try.sizeOf60 (by rfl)) ?_)
      intro _ _
      refine LW.nil ?_
      refine PQ.seq ?_
      refine CW.seq ?_
      refine CW.region ?_
      refine LW.e rfl rfl (Eff.allocA (by exact Try.zeroValue44)) ?_
      intro b7 _
      refine LW.e rfl rfl (Eff.allocA (by exact Try.zeroValue44)) ?_
      intro b8 _
      refine LW.nil ?_
      refine PQ.seq ?_
      refine CW.seq ?_
      refine CW.region ?_
      refine LW.v rfl rfl (Val.assign rfl) ?_
      refine LW.v rfl rfl (Val.assign rfl) ?_
      refine LW.nil ?_
      refine PQ.seq ?_
      refine CW.seq ?_
      refine CW.join (fun y : (ME × (Nat → Nat)) × V.OwnO × List Lk × Lk × Bool => SJ acts (k.1 + 1) y.1.1 y.1.2 y.2.1 y.2.2.1) (fun y => [(0, .slice (some ⟨bb, oo, none⟩) n cap), (3, .pointer (some ⟨t, 0, none⟩)), (4, .pointer (some ⟨b17, 0, none⟩)), (5, .int .i64 (k.1 : Nat)), (7, .pointer (some ⟨b7, 0, none⟩)), (8, .pointer (some ⟨b8, 0, none⟩)), (9, .bool y.2.2.2.2), (10, .bool y.2.2.2.2)]) (fun y => [[(b7, .cells (lkC y.2.2.2.1).toArray 44 (0, 0))]] ++ [[(b8, .cells (lkC y.2.2.2.1).toArray 44 (0, 0))]] ++ tbG t m y.1.1 y.1.2 ++ rtG b17 y.2.1 y.2.2.1) ?_ ?_
      · refine CW.seq ?_
        refine CW.region ?_
        refine LW.v rfl rfl (Val.fieldAddr 0 rfl Try.underlying60 rfl rfl Try.sizeOf3) ?_
        refine LW.v rfl rfl (Val.load rfl Try.isAgg3 (by repeat (first | exact .here | refine .there ?_)) (by rfl)) ?_
        refine LW.nil ?_
        refine PQ.seq ?_
        refine CW.block ?_
        refine CW.seq ?_
        refine CW.region ?_
        refine LW.v rfl rfl (Val.cmp rfl rfl rfl) ?_
        refine LW.v rfl rfl (Val.assign rfl) ?_
        refine LW.nil ?_
        refine PQ.seq ?_
        refine CW.cond rfl (fun h32 => ?_) (fun h32 => ?_)
        · replace h32 := bT h32
          refine CW.drawn ([[(b6, .cells (Ac12.cells s).toArray 60 (0, 0))]]) mixedT (by repeat (first | exact .nil | apply Pick.cons | exact .here | apply Ext.there)) ?_
          refine RW.v 0 rfl (by kernel_rfl) (by kernel_rfl) (by kernel_rfl) (fun _ _ _ h => h) rfl rfl (Val.move rfl) ?_
          refine RW.v 1 rfl (by kernel_rfl) (by kernel_rfl) (by kernel_rfl) (fun _ _ _ h => h) rfl rfl (Val.fieldAddr 1 rfl Try.underlying60 rfl rfl Try.sizeOf44) ?_
          first | (refine RW.v 2 rfl (by kernel_rfl) (by kernel_rfl) (by kernel_rfl) (fun _ _ _ h => h) rfl rfl (Val.loadW rfl Try.isAgg44 (by repeat (first | exact .here | refine .there ?_)) (by exact Try.sizeOf44)) ?_) | (refine RW.v 2 rfl (by kernel_rfl) (by kernel_rfl) (by kernel_rfl) (fun _ _ _ h => h) rfl rfl (Val.loadA [_, _, _, _, _] rfl Try.isAgg44 (by repeat (first | exact .here | refine .there ?_)) (by rfl) Try.sizeOf44) ?_)
          refine RW.v 4 rfl (by kernel_rfl) (by kernel_rfl) (by kernel_rfl) (fun _ _ _ h => h) rfl rfl (Val.move rfl) ?_
          refine RW.v 5 rfl (by kernel_rfl) (by kernel_rfl) (by kernel_rfl) (fun _ _ _ h => h) rfl rfl (Val.fieldAddr 1 rfl Try.underlying60 rfl rfl Try.sizeOf44) ?_
          first | (refine RW.v 6 rfl (by kernel_rfl) (by kernel_rfl) (by kernel_rfl) (fun _ _ _ h => h) rfl rfl (Val.loadW rfl Try.isAgg44 (by repeat (first | exact .here | refine .there ?_)) (by exact Try.sizeOf44)) ?_) | (refine RW.v 6 rfl (by kernel_rfl) (by kernel_rfl) (by kernel_rfl) (fun _ _ _ h => h) rfl rfl (Val.loadA [_, _, _, _, _] rfl Try.isAgg44 (by repeat (first | exact .here | refine .there ?_)) (by rfl) Try.sizeOf44) ?_)
          refine RW.e 3 rfl (by kernel_rfl) rfl rfl (Eff.callM (tbG t m k.2.1.1 k.2.1.2) (by repeat (first | exact .nil | apply Pick.cons | exact .here | apply Ext.there)) rfl Try.call31 (fun w hw hs0 => set2_c t m k.2.1.1 k.2.1.2 hT s.l hkey w hs0)) (fun x => ⟨_, (by repeat (first | exact .nil | apply Pick.cons | exact .here | apply Ext.there))⟩) ?_
          rintro ⟨E2, c2⟩ hT2
          simp only at hT2
          refine RW.e 7 rfl (by kernel_rfl) rfl rfl (Eff.callM (rtG b17 k.2.2.1 k.2.2.2) (by repeat (first | exact .nil | apply Pick.cons | exact .here | apply Ext.there)) rfl Try.call32 (fun w hw hs0 => rset_c b17 k.2.2.1 k.2.2.2 hk hA hT.kf (by omega) s.l w hs0)) (fun x => ⟨_, (by repeat (first | exact .nil | apply Pick.cons | exact .here | apply Ext.there))⟩) ?_
          rintro ⟨o2, L2⟩ ⟨hk2, hA2⟩
          simp only at hk2 hA2
          refine RW.v 8 rfl (by kernel_rfl) (by kernel_rfl) (by kernel_rfl) (fun _ _ _ h => h) rfl rfl (Val.assign rfl) ?_
          refine RW.v 9 rfl (by kernel_rfl) (by kernel_rfl) (by kernel_rfl) (fun _ _ _ h => h) rfl rfl (Val.assign rfl) ?_
          refine RW.done (by kernel_rfl) ?_
          refine PQ.in_normal ?_
          refine PQ.joinedC (((E2, c2), o2, L2, lk0, (plF (acts.take k.1) s.l.key).isSome)) (SJ.set hs h32 hn1 hT2 hA2 hk2) (by repeat (first | exact trivial | refine ⟨rfl, ?_⟩)) (by repeat (first | exact .nil | apply Pick.cons | exact .here | apply Ext.there))
        · replace h32 := bF h32
          refine CW.seq ?_
          refine CW.region ?_
          refine LW.v rfl rfl (Val.cmp rfl rfl rfl) ?_
          refine LW.v rfl rfl (Val.assign rfl) ?_
          refine LW.nil ?_
          refine PQ.seq ?_
          refine CW.cond rfl (fun h42 => ?_) (fun h42 => ?_)
          · replace h42 := bT h42
            refine CW.seq ?_
            refine CW.region ?_
            refine LW.v rfl rfl (Val.move rfl) ?_
            refine LW.v rfl rfl (Val.fieldAddr 1 rfl Try.underlying60 rfl rfl Try.sizeOf44) ?_
            refine LW.v rfl rfl (Val.fieldAddr 0 rfl Try.underlying44 rfl rfl Try.sizeOf9) ?_
            refine LW.v rfl rfl (Val.load rfl Try.isAgg9 (by repeat (first | exact .here | refine .there ?_)) (by rfl)) ?_
            refine LW.e rfl rfl (Eff.callM (tbG t m k.2.1.1 k.2.1.2) (by repeat (first | exact .nil | apply Pick.cons | exact .here | apply Ext.there)) rfl Try.call33 (fun w hw hs0 => drop2_c t m k.2.1.1 k.2.1.2 hT s.l.key hkey w hs0)) ?_
            rintro ⟨E2, c2⟩ hT2
            simp only at hT2
            refine LW.v rfl rfl (Val.move rfl) ?_
            refine LW.v rfl rfl (Val.extract rfl rfl) ?_
            refine LW.v rfl rfl (Val.extract rfl rfl) ?_
            first | (refine LW.eN rfl (Eff.storeW rfl rfl (by repeat (first | exact .here | apply Upd.there)) (by rfl) Try.sizeOf44 (by rfl)) ?_) | (refine LW.eN rfl (Eff.storeA (l' := _) rfl rfl (by repeat (first | exact .here | apply Upd.there)) (by rfl) (by decide) Try.sizeOf44 (by rfl)) ?_)
            intro _ _
            refine LW.v rfl rfl (Val.assign rfl) ?_
            refine LW.nil ?_
            refine PQ.seq ?_
            refine CW.region ?_
            refine LW.v rfl rfl (Val.move rfl) ?_
            refine LW.v rfl rfl (Val.fieldAddr 1 rfl Try.underlying60 rfl rfl Try.sizeOf44) ?_
            refine LW.v rfl rfl (Val.fieldAddr 0 rfl Try.underlying44 rfl rfl Try.sizeOf9) ?_
            refine LW.v rfl rfl (Val.load rfl Try.isAgg9 (by repeat (first | exact .here | refine .there ?_)) (by rfl)) ?_
            refine LW.e rfl rfl (Eff.callM (rtG b17 k.2.2.1 k.2.2.2) (by repeat (first | exact .nil | apply Pick.cons | exact .here | apply Ext.there)) rfl Try.call34 (fun w hw hs0 => rdrop_c b17 k.2.2.1 k.2.2.2 hk hA hT.kf (by omega) s.l.key w hs0)) ?_
            rintro ⟨o2, L2⟩ ⟨hk2, hA2⟩
            simp only at hk2 hA2
            refine LW.v rfl rfl (Val.move rfl) ?_
            refine LW.v rfl rfl (Val.extract rfl rfl) ?_
            refine LW.v rfl rfl (Val.extract rfl rfl) ?_
            first | (refine LW.eN rfl (Eff.storeW rfl rfl (by repeat (first | exact .here | apply Upd.there)) (by rfl) Try.sizeOf44 (by rfl)) ?_) | (refine LW.eN rfl (Eff.storeA (l' := _) rfl rfl (by repeat (first | exact .here | apply Upd.there)) (by rfl) (by decide) Try.sizeOf44 (by rfl)) ?_)
            intro _ _
            refine LW.v rfl rfl (Val.assign rfl) ?_
            refine LW.nil ?_
            refine PQ.in_normal ?_
            refine PQ.joinedC (((E2, c2), o2, L2, (plF (acts.take k.1) s.l.key).getD lk0, (plF (acts.take k.1) s.l.key).isSome)) (SJ.del hs h32 h42 hn1 hT2 hA2 hk2) (by repeat (first | exact trivial | refine ⟨rfl, ?_⟩)) (by repeat (first | exact .nil | apply Pick.cons | exact .here | apply Ext.there))
          · replace h42 := bF h42
            refine CW.seq ?_
            refine CW.region ?_
            refine LW.v rfl rfl (Val.cmp rfl rfl rfl) ?_
            refine LW.v rfl rfl (Val.assign rfl) ?_
            refine LW.nil ?_
            refine PQ.seq ?_
            refine CW.cond rfl (fun h60 => ?_) (fun h60 => ?_)
            · replace h60 := bT h60
              refine CW.seq ?_
              refine CW.region ?_
              refine LW.v rfl rfl (Val.move rfl) ?_
              refine LW.v rfl rfl (Val.fieldAddr 1 rfl Try.underlying60 rfl rfl Try.sizeOf44) ?_
              refine LW.v rfl rfl (Val.fieldAddr 0 rfl Try.underlying44 rfl rfl Try.sizeOf9) ?_
              refine LW.v rfl rfl (Val.load rfl Try.isAgg9 (by repeat (first | exact .here | refine .there ?_)) (by rfl)) ?_
              refine LW.e rfl rfl (Eff.callV rfl Try.call18 (fun w hw => get_c t m k.2.1.1 k.2.1.2 hT.ti s.l.key hkey w (hw.sat.pick (ss := tbG t m k.2.1.1 k.2.1.2) (by repeat (first | exact .nil | apply Pick.cons | exact .here | apply Ext.there))))) ?_
              intro _ _
              refine LW.v rfl rfl (Val.move rfl) ?_
              refine LW.v rfl rfl (Val.extract rfl rfl) ?_
              refine LW.v rfl rfl (Val.extract rfl rfl) ?_
              first | (refine LW.eN rfl (Eff.storeW rfl rfl (by repeat (first | exact .here | apply Upd.there)) (by rfl) Try.sizeOf44 (by rfl)) ?_) | (refine LW.eN rfl (Eff.storeA (l' := _) rfl rfl (by repeat (first | exact .here | apply Upd.there)) (by rfl) (by decide) Try.sizeOf44 (by rfl)) ?_)
              intro _ _
              refine LW.v rfl rfl (Val.assign rfl) ?_
              refine LW.nil ?_
              refine PQ.seq ?_
              refine CW.region ?_
              refine LW.v rfl rfl (Val.move rfl) ?_
              refine LW.v rfl rfl (Val.fieldAddr 1 rfl Try.underlying60 rfl rfl Try.sizeOf44) ?_
              refine LW.v rfl rfl (Val.fieldAddr 0 rfl Try.underlying44 rfl rfl Try.sizeOf9) ?_
              refine LW.v rfl rfl (Val.load rfl Try.isAgg9 (by repeat (first | exact .here | refine .there ?_)) (by rfl)) ?_
              refine LW.e rfl rfl (Eff.callV rfl Try.call35 (fun w hw => rget_c b17 k.2.2.1 k.2.2.2 hk hA hT.kf (by omega) s.l.key w (hw.sat.pick (ss := rtG b17 k.2.2.1 k.2.2.2) (by repeat (first | exact .nil | apply Pick.cons | exact .here | apply Ext.there))))) ?_
              intro _ _
              refine LW.v rfl rfl (Val.move rfl) ?_
              refine LW.v rfl rfl (Val.extract rfl rfl) ?_
              refine LW.v rfl rfl (Val.extract rfl rfl) ?_
              first | (refine LW.eN rfl (Eff.storeW rfl rfl (by repeat (first | exact .here | apply Upd.there)) (by rfl) Try.sizeOf44 (by rfl)) ?_) | (refine LW.eN rfl (Eff.storeA (l' := _) rfl rfl (by repeat (first | exact .here | apply Upd.there)) (by rfl) (by decide) Try.sizeOf44 (by rfl)) ?_)
              intro _ _
              refine LW.v rfl rfl (Val.assign rfl) ?_
              refine LW.nil ?_
              refine PQ.in_normal ?_
              refine PQ.joinedC ((k.2.1, k.2.2.1, k.2.2.2, (plF (acts.take k.1) s.l.key).getD lk0, (plF (acts.take k.1) s.l.key).isSome)) (SJ.keep hs h32 h42 hn1 hT hA hk) (by repeat (first | exact trivial | refine ⟨rfl, ?_⟩)) (by repeat (first | exact .nil | apply Pick.cons | exact .here | apply Ext.there))
            · replace h60 := bF h60
              refine CW.seq ?_
              refine CW.region ?_
              refine LW.v rfl rfl (Val.cmp rfl rfl rfl) ?_
              refine LW.v rfl rfl (Val.assign rfl) ?_
              refine LW.nil ?_
              refine PQ.seq ?_
              refine CW.cond rfl (fun h78 => ?_) (fun h78 => ?_)
              · replace h78 := bT h78
                refine CW.seq ?_
                refine CW.region ?_
                refine LW.v rfl rfl (Val.move rfl) ?_
                refine LW.v rfl rfl (Val.fieldAddr 6 rfl Try.underlying60 rfl rfl Try.sizeOf3) ?_
                refine LW.v rfl rfl (Val.load rfl Try.isAgg3 (by repeat (first | exact .here | refine .there ?_)) (by rfl)) ?_
                refine LW.v rfl rfl (Val.fieldAddr 1 rfl Try.underlying60 rfl rfl Try.sizeOf44) ?_
                refine LW.v rfl rfl (Val.fieldAddr 0 rfl Try.underlying44 rfl rfl Try.sizeOf9) ?_
                refine LW.v rfl rfl (Val.load rfl Try.isAgg9 (by repeat (first | exact .here | refine .there ?_)) (by rfl)) ?_
                refine LW.v rfl rfl (Val.fieldAddr 7 rfl Try.underlying60 rfl rfl Try.sizeOf4) ?_
                refine LW.v rfl rfl (Val.load rfl Try.isAgg4 (by repeat (first | exact .here | refine .there ?_)) (by rfl)) ?_
                refine LW.e rfl rfl (Eff.callR rfl Try.call17 (fun w hw => next_c t m k.2.1.1 k.2.1.2 hT (by omega) s.b s.l.key s.past w (hw.sat.pick (ss := tbG t m k.2.1.1 k.2.1.2) (by repeat (first | exact .nil | apply Pick.cons | exact .here | apply Ext.there))))) ?_
                intro r hr
                refine LW.v rfl rfl (Val.move rfl) ?_
                refine LW.v rfl rfl (Val.extract rfl rfl) ?_
                refine LW.v rfl rfl (Val.extract rfl rfl) ?_
                first | (refine LW.eN rfl (Eff.storeW rfl rfl (by repeat (first | exact .here | apply Upd.there)) (by rfl) Try.sizeOf44 (by rfl)) ?_) | (refine LW.eN rfl (Eff.storeA (l' := _) rfl rfl (by repeat (first | exact .here | apply Upd.there)) (by rfl) (by decide) Try.sizeOf44 (by rfl)) ?_)
                intro _ _
                refine LW.v rfl rfl (Val.assign rfl) ?_
                refine LW.nil ?_
                refine PQ.seq ?_
                refine CW.region ?_
                refine LW.v rfl rfl (Val.move rfl) ?_
                refine LW.v rfl rfl (Val.fieldAddr 6 rfl Try.underlying60 rfl rfl Try.sizeOf3) ?_
                refine LW.v rfl rfl (Val.load rfl Try.isAgg3 (by repeat (first | exact .here | refine .there ?_)) (by rfl)) ?_
                refine LW.v rfl rfl (Val.fieldAddr 1 rfl Try.underlying60 rfl rfl Try.sizeOf44) ?_
                refine LW.v rfl rfl (Val.fieldAddr 0 rfl Try.underlying44 rfl rfl Try.sizeOf9) ?_
                refine LW.v rfl rfl (Val.load rfl Try.isAgg9 (by repeat (first | exact .here | refine .there ?_)) (by rfl)) ?_
                refine LW.v rfl rfl (Val.fieldAddr 7 rfl Try.underlying60 rfl rfl Try.sizeOf4) ?_
                refine LW.v rfl rfl (Val.load rfl Try.isAgg4 (by repeat (first | exact .here | refine .there ?_)) (by rfl)) ?_
                refine LW.e rfl rfl (Eff.callR rfl Try.call36 (fun w hw => rnext_c b17 k.2.2.1 k.2.2.2 hk hA hT.kf (by omega) hT.ks s.b s.l.key s.past w (hw.sat.pick (ss := rtG b17 k.2.2.1 k.2.2.2) (by repeat (first | exact .nil | apply Pick.cons | exact .here | apply Ext.there))))) ?_
                intro r2 hr2
                obtain rfl := nextOk_det hr hr2
                refine LW.v rfl rfl (Val.move rfl) ?_
                refine LW.v rfl rfl (Val.extract rfl rfl) ?_
                refine LW.v rfl rfl (Val.extract rfl rfl) ?_
                first | (refine LW.eN rfl (Eff.storeW rfl rfl (by repeat (first | exact .here | apply Upd.there)) (by rfl) Try.sizeOf44 (by rfl)) ?_) | (refine LW.eN rfl (Eff.storeA (l' := _) rfl rfl (by repeat (first | exact .here | apply Upd.there)) (by rfl) (by decide) Try.sizeOf44 (by rfl)) ?_)
                intro _ _
                refine LW.v rfl rfl (Val.assign rfl) ?_
                refine LW.nil ?_
                refine PQ.in_normal ?_
                refine PQ.joinedC ((k.2.1, k.2.2.1, k.2.2.2, r2.getD lk0, r2.isSome)) (SJ.keep hs h32 h42 hn1 hT hA hk) (by repeat (first | exact trivial | refine ⟨rfl, ?_⟩)) (by repeat (first | exact .nil | apply Pick.cons | exact .here | apply Ext.there))
              · replace h78 := bF h78
                refine CW.skip ?_
                refine PQ.in_normal ?_
                refine PQ.joinedC ((k.2.1, k.2.2.1, k.2.2.2, lk0, false)) (SJ.keep hs h32 h42 hn1 hT hA hk) (by repeat (first | exact trivial | refine ⟨rfl, ?_⟩)) (by repeat (first | exact .nil | apply Pick.cons | exact .here | apply Ext.there))
      · intro y hy
        rcases y with ⟨⟨E2, c2⟩, o2, L2, la, q⟩
        obtain ⟨n2, hn2, hT2, hA2, hk2⟩ := hy
        simp only at hn2 hT2 hA2 hk2
        have hL2 := hA2.len
        refine PQ.seq ?_
        refine CW.seq ?_
        refine CW.seq ?_
        refine CW.quiet mixedT (by kernel_rfl) ?_
        first | (refine QW.v rfl rfl (Val.loadW rfl Try.isAgg44 (by repeat (first | exact .here | refine .there ?_)) (by exact Try.sizeOf44)) ?_) | (refine QW.v rfl rfl (Val.loadA [_, _, _, _, _] rfl Try.isAgg44 (by repeat (first | exact .here | refine .there ?_)) (by rfl) Try.sizeOf44) ?_)
        first | (refine QW.v rfl rfl (Val.loadW rfl Try.isAgg44 (by repeat (first | exact .here | refine .there ?_)) (by exact Try.sizeOf44)) ?_) | (refine QW.v rfl rfl (Val.loadA [_, _, _, _, _] rfl Try.isAgg44 (by repeat (first | exact .here | refine .there ?_)) (by rfl) Try.sizeOf44) ?_)
        refine QW.v rfl rfl (Val.neA rfl rfl (by kernel_rfl) Try.underlying44 (by kernel_rfl) (by exact (.str rfl rfl Try.isAgg9 Try.underlying9 (.int rfl rfl Try.isAgg32 Try.underlying32 (.int rfl rfl Try.isAgg32 Try.underlying32 (.int rfl rfl Try.isAgg3 Try.underlying3 (.int rfl rfl Try.isAgg3 Try.underlying3 .nil))))))) ?_
        refine QW.re 106 (.bool false) rfl (by simp) ?_
        refine QW.v rfl rfl (Val.move rfl) ?_
        refine QW.v rfl rfl (Val.move rfl) ?_
        refine QW.v rfl rfl (Val.move rfl) ?_
        refine QW.v rfl rfl (Val.neB rfl rfl Try.underlying4) ?_
        refine QW.re 110 (.bool false) rfl (by simp) ?_
        refine QW.v rfl rfl (Val.pick_f rfl rfl) ?_
        refine QW.v rfl rfl (Val.move rfl) ?_
        refine QW.v rfl rfl (Val.move rfl) ?_
        refine QW.c rfl rfl (Qcall.of rfl Try.call16 (fun w hw => len_c t m E2 c2 hT2.ti (by omega) w (hw.sat.pick (ss := tbG t m E2 c2) (by repeat (first | exact .nil | apply Pick.cons | exact .here | apply Ext.there))))) ?_
        refine QW.v rfl rfl (Val.move rfl) ?_
        refine QW.v rfl rfl (Val.nilCheck rfl) ?_
        refine QW.v rfl rfl (Val.fieldAddr 0 rfl Try.underlying58 rfl rfl Try.sizeOf41) ?_
        refine QW.v rfl rfl (Val.load rfl Try.isAgg41 (by repeat (first | exact .here | refine .there ?_)) (by rfl)) ?_
        refine QW.v rfl rfl (Val.lenOwn rfl Try.underlying41 hk2) ?_
        refine QW.v rfl rfl (Val.cmp rfl rfl rfl) ?_
        refine QW.re 120 (.bool false) rfl (by rw [hL2]; simp) ?_
        refine QW.v rfl rfl (Val.pick_f rfl rfl) ?_
        refine QW.nil ?_
        refine PQ.seq ?_
        refine CW.cond_f rfl ?_
        refine CW.skip ?_
        refine PQ.seq ?_
        refine CW.seq ?_
        refine CW.region ?_
        refine LW.v rfl rfl (Val.move rfl) ?_
        refine LW.v rfl rfl (Val.rem rfl rfl (by omega)) ?_
        refine LW.v rfl rfl (Val.cmp rfl rfl rfl) ?_
        refine LW.nil ?_
        refine PQ.seq ?_
        refine CW.cond rfl (fun h124 => ?_) (fun h124 => ?_)
        · replace h124 := bT h124
          refine CW.seq ?_
          refine CW.region ?_
          refine LW.v rfl rfl (Val.move rfl) ?_
          refine LW.e rfl rfl (Eff.callM (tbG t m E2 c2) (by repeat (first | exact .nil | apply Pick.cons | exact .here | apply Ext.there)) rfl Try.call15 (fun w hw hs0 => allT_c t m E2 c2 hT2 (by omega) w hs0)) ?_
          rintro ⟨oa, La⟩ ⟨hAa, hka⟩
          simp only at hAa hka
          obtain rfl := allOk_uniq hA2 hAa
          refine LW.v rfl rfl (Val.assign rfl) ?_
          refine LW.nil ?_
          refine PQ.seq ?_
          refine CW.seq ?_
          refine CW.seq ?_
          refine CW.region ?_
          refine LW.v rfl rfl (Val.move rfl) ?_
          refine LW.v rfl rfl (Val.move rfl) ?_
          refine LW.v rfl rfl (Val.nilCheck rfl) ?_
          refine LW.v rfl rfl (Val.fieldAddr 0 rfl Try.underlying58 rfl rfl Try.sizeOf41) ?_
          refine LW.v rfl rfl (Val.load rfl Try.isAgg41 (by repeat (first | exact .here | refine .there ?_)) (by rfl)) ?_
          refine LW.e rfl rfl (Eff.callV rfl Try.call37 (fun w hw => sameL_c oa o2 La hka hk2 (by omega) w (hw.sat.pick (ss := [ownG 44 (La.flatMap lkC) oa]) (by repeat (first | exact .nil | apply Pick.cons | exact .here | apply Ext.there))) (hw.sat.pick (ss := [ownG 44 (La.flatMap lkC) o2]) (by repeat (first | exact .nil | apply Pick.cons | exact .here | apply Ext.there))))) ?_
          intro _ _
          refine LW.v rfl rfl (Val.not rfl) ?_
          refine LW.nil ?_
          refine PQ.seq ?_
          refine CW.cond_f rfl ?_
          refine CW.skip ?_
          refine PQ.seq ?_
          refine CW.region ?_
          refine LW.v rfl rfl (Val.move rfl) ?_
          refine LW.e rfl rfl (Eff.callM ([ownG 44 (La.flatMap lkC) oa]) (by repeat (first | exact .nil | apply Pick.cons | exact .here | apply Ext.there)) rfl Try.call38 (fun w hw hs0 => overG_c oa La hka (by omega) w hs0)) ?_
          intro _ _
          refine LW.nil ?_
          refine PQ.in_normal ?_
          refine PQ.seq ?_
          refine CW.region ?_
          refine LW.v rfl rfl (Val.move rfl) ?_
          refine LW.v rfl rfl (Val.ar rfl rfl rfl (IntWalk.i64_in _ (by omega))) ?_
          refine LW.v rfl rfl (Val.assign rfl) ?_
          refine LW.nil ?_
          refine PQ.round ((k.1 + 1, (E2, c2), o2, La)) ⟨by simp only; omega, n2, hn2, hT2, hA2, hk2⟩ (by simp only; omega) (by repeat (first | exact trivial | refine ⟨rfl, ?_⟩)) (by repeat (first | exact .nil | apply Pick.cons | exact .here | apply Ext.there))
        · replace h124 := bF h124
          refine CW.skip ?_
          refine PQ.in_normal ?_
          refine PQ.seq ?_
          refine CW.region ?_
          refine LW.v rfl rfl (Val.move rfl) ?_
          refine LW.v rfl rfl (Val.ar rfl rfl rfl (IntWalk.i64_in _ (by omega))) ?_
          refine LW.v rfl rfl (Val.assign rfl) ?_
          refine LW.nil ?_
          refine PQ.round ((k.1 + 1, (E2, c2), o2, L2)) ⟨by simp only; omega, n2, hn2, hT2, hA2, hk2⟩ (by simp only; omega) (by repeat (first | exact trivial | refine ⟨rfl, ?_⟩)) (by repeat (first | exact .nil | apply Pick.cons | exact .here | apply Ext.there))
    · replace h23 := bF h23
      refine CW.exit ?_
      refine PQ.then_exit ?_
      refine PQ.then_exit ?_
      refine PQ.in_here ?_
      refine PQ.seq ?_
      refine CW.seq ?_
      refine CW.drawn (rtG b17 k.2.2.1 k.2.2.2) mixedT (by repeat (first | exact .nil | apply Pick.cons | exact .here | apply Ext.there)) ?_
      refine RW.v 0 rfl (by kernel_rfl) (by kernel_rfl) (by kernel_rfl) (fun _ _ _ h => h) rfl rfl (Val.move rfl) ?_
      refine RW.v 2 rfl (by kernel_rfl) (by kernel_rfl) (by kernel_rfl) (fun _ _ _ h => h) rfl rfl (Val.move rfl) ?_
      refine RW.v 3 rfl (by kernel_rfl) (by kernel_rfl) (by kernel_rfl) (fun _ _ _ h => h) rfl rfl (Val.nilCheck rfl) ?_
      refine RW.v 4 rfl (by kernel_rfl) (by kernel_rfl) (by kernel_rfl) (fun _ _ _ h => h) rfl rfl (Val.fieldAddr 0 rfl Try.underlying58 rfl rfl Try.sizeOf41) ?_
      refine RW.v 5 rfl (by kernel_rfl) (by kernel_rfl) (by kernel_rfl) (fun _ _ _ h => h) rfl rfl (Val.load rfl Try.isAgg41 (by repeat (first | exact .here | refine .there ?_)) (by rfl)) ?_
      refine RW.e 1 rfl (by kernel_rfl) rfl rfl (Eff.callM (tbG t m k.2.1.1 k.2.1.2) (by repeat (first | exact .nil | apply Pick.cons | exact .here | apply Ext.there)) rfl Try.call15 (fun w hw hs0 => allT_c t m k.2.1.1 k.2.1.2 hT (by omega) w hs0)) (fun x => ⟨_, (by repeat (first | exact .nil | apply Pick.cons | exact .here | apply Ext.there))⟩) ?_
      rintro ⟨oa, La⟩ ⟨hAa, hka⟩
      simp only at hAa hka
      obtain rfl := allOk_uniq hA hAa
      refine RW.e 6 rfl (by kernel_rfl) rfl rfl (Eff.callV rfl Try.call37 (fun w hw => sameL_c oa k.2.2.1 k.2.2.2 hka hk (by omega) w (hw.sat.pick (ss := [ownG 44 (k.2.2.2.flatMap lkC) oa]) (by repeat (first | exact .nil | apply Pick.cons | exact .here | apply Ext.there))) (hw.sat.pick (ss := [ownG 44 (k.2.2.2.flatMap lkC) k.2.2.1]) (by repeat (first | exact .nil | apply Pick.cons | exact .here | apply Ext.there))))) (fun x => ⟨_, (by repeat (first | exact .nil | apply Pick.cons | exact .here | apply Ext.there))⟩) ?_
      intro _ _
      refine RW.v 7 rfl (by kernel_rfl) (by kernel_rfl) (by kernel_rfl) (fun _ _ _ h => h) rfl rfl (Val.move rfl) ?_
      refine RW.e 8 rfl (by kernel_rfl) rfl rfl (Eff.callV rfl Try.call13 (fun w hw => awake12_c w)) (fun x => ⟨_, (by repeat (first | exact .nil | apply Pick.cons | exact .here | apply Ext.there))⟩) ?_
      intro _ _
      refine RW.v 9 rfl (by kernel_rfl) (by kernel_rfl) (by kernel_rfl) (fun _ _ _ h => h) rfl rfl (Val.pick_t rfl rfl) ?_
      refine RW.v 10 rfl (by kernel_rfl) (by kernel_rfl) (by kernel_rfl) (fun _ _ _ h => h) rfl rfl (Val.assign rfl) ?_
      refine RW.done (by kernel_rfl) ?_
      refine PQ.seq ?_
      refine CW.ret ?_
      refine PQ.ret1 rfl rfl ?_
      intro w' hw; exact ⟨rfl, hw.below⟩
end Go.Proofs.Ytaihimbjdgmjgaa
