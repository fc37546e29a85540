/- Calls compared; copies of stores. -/
import Derived.Test.YtipnpnkniihdjaaTwF
import Derived.Lib.Hide
namespace Go.Proofs.Ytipnpnkniihdjaa
open Go Go.RowKit V
set_option linter.unusedVariables false
set_option maxRecDepth 100000
open V (str byC ownV ownG ownS ownOk)
theorem all_one {α : Type} {enc : α → List Value} (h : ∀ x, (enc x).all (·.oneCell') = true) (l : List α) : (l.flatMap enc).all (·.oneCell') = true := by
  induction l with
  | nil => rfl
  | cons y t ih => simp only [List.flatMap_cons, List.all_append, ih, Bool.and_true]; exact h y
theorem range_flat {α : Type} [Inhabited α] {enc : α → List Value} {sz : Nat} (hk : ∀ x, (enc x).length = sz) {l : List α} {b o : Nat} {w : World} (h : ∀ i x, l[i]? = some x → w.rangeAt b (o + i * sz) (enc x)) : w.rangeAt b o (l.flatMap enc) := fun j v hv => by
  have hj : j < l.length * sz := by rw [← V.flatMap_len hk]; exact (List.getElem?_eq_some_iff.1 hv).1
  rw [V.flatMap_get hk l hj] at hv
  have hs0 : 0 < sz := by rcases Nat.eq_zero_or_pos sz with e | e; (subst e; omega); exact e
  have hq : j / sz < l.length := (Nat.div_lt_iff_lt_mul hs0).2 hj
  have hx : l[j / sz]? = some l[j / sz]! := by rw [List.getElem?_eq_getElem hq, getElem!_pos l _ hq]
  have h1 := h _ _ hx (j % sz) v hv
  have := Nat.div_add_mod j sz
  rw [Nat.mul_comm] at this
  rw [show o + j = o + j / sz * sz + j % sz by omega]
  exact h1
theorem sl_range {α : Type} [Inhabited α] {enc : α → List Value} {sz : Nat} (hk : ∀ x, (enc x).length = sz) {l : List α} {p : Option Addr} {w0 : World} (h : V.slAt w0 p sz enc l) (hn : 0 < l.length) : ∃ b o, p = some ⟨b, o, none⟩ ∧ ∀ {sg : Sg} (w : World), Hp ⟨w0, []⟩ sg w → w.rangeAt b o (l.flatMap enc) := by
  rcases h with h | ⟨b, o, hp, hb, hr⟩
  · rw [h] at hn; simp at hn
  · refine ⟨b, o, hp, fun {sg} w hw => range_flat hk fun i x hx => ?_⟩
    have h8 := hw.slAt (F := []) (.inr ⟨b, o, hp, hb, hr⟩ : V.slAt w0 p sz enc l) (by simp)
    rcases h8 with h8 | ⟨b2, o2, hp2, _, hr2⟩
    · rw [h8] at hx; simp at hx
    · rw [hp] at hp2
      simp only [Option.some.injEq, Addr.mk.injEq] at hp2
      obtain ⟨rfl, rfl, _⟩ := hp2
      exact hr2 i x hx
theorem prC_one (x : Pr) : (prC x).all (·.oneCell') = true := rfl
theorem stE_one (x : List UInt8) : (stE x).all (·.oneCell') = true := rfl
theorem sameCall_c (x : Cl) (w : World) : Calls Try.prog 25 [.agg (clC x).toArray, .agg (clC x).toArray].toArray w fun e w' => e = .returned (.bool true) ∧ Below w.heap.size w w' := by
  refine V.calls [] Try.func25 rfl Try.ntmps25 (Nat.le_of_ble_eq_true rfl) (V.sat_nil _) ?_
  refine CW.seq ?_
  refine CW.region ?_
  refine LW.e rfl rfl (Eff.boxA rfl) ?_
  intro b2 _
  refine LW.e rfl rfl (Eff.boxA rfl) ?_
  intro b3 _
  refine LW.v rfl rfl (Val.assign rfl) ?_
  refine LW.nil ?_
  refine PQ.seq ?_
  refine CW.seq ?_
  refine CW.seq ?_
  refine CW.region ?_
  refine LW.v rfl rfl (Val.fieldAddr 0 rfl Try.underlying38 rfl rfl Try.sizeOf3) ?_
  refine LW.v rfl rfl (Val.load rfl Try.isAgg3 (by repeat (first | exact .here | exact .inner .here | exact .inner (.inner .here) | refine .there ?_)) (by rfl)) ?_
  refine LW.v rfl rfl (Val.fieldAddr 0 rfl Try.underlying38 rfl rfl Try.sizeOf3) ?_
  refine LW.v rfl rfl (Val.load rfl Try.isAgg3 (by repeat (first | exact .here | exact .inner .here | exact .inner (.inner .here) | refine .there ?_)) (by rfl)) ?_
  refine LW.v rfl rfl (Val.cmp rfl rfl rfl) ?_
  refine LW.re 12 (.bool false) rfl (by first | rfl | simp) ?_
  refine LW.v rfl rfl (Val.move rfl) ?_
  refine LW.v rfl rfl (Val.fieldAddr 1 rfl Try.underlying38 rfl rfl Try.sizeOf9) ?_
  refine LW.v rfl rfl (Val.load rfl Try.isAgg9 (by repeat (first | exact .here | exact .inner .here | exact .inner (.inner .here) | refine .there ?_)) (by rfl)) ?_
  refine LW.v rfl rfl (Val.fieldAddr 1 rfl Try.underlying38 rfl rfl Try.sizeOf9) ?_
  refine LW.v rfl rfl (Val.load rfl Try.isAgg9 (by repeat (first | exact .here | exact .inner .here | exact .inner (.inner .here) | refine .there ?_)) (by rfl)) ?_
  refine LW.v rfl rfl (Val.neStr rfl rfl) ?_
  refine LW.re 18 (.bool false) rfl (by first | rfl | simp) ?_
  refine LW.v rfl rfl (Val.pick_f rfl rfl) ?_
  refine LW.v rfl rfl (Val.move rfl) ?_
  refine LW.v rfl rfl (Val.fieldAddr 2 rfl Try.underlying38 rfl rfl Try.sizeOf9) ?_
  refine LW.v rfl rfl (Val.load rfl Try.isAgg9 (by repeat (first | exact .here | exact .inner .here | exact .inner (.inner .here) | refine .there ?_)) (by rfl)) ?_
  refine LW.v rfl rfl (Val.fieldAddr 2 rfl Try.underlying38 rfl rfl Try.sizeOf9) ?_
  refine LW.v rfl rfl (Val.load rfl Try.isAgg9 (by repeat (first | exact .here | exact .inner .here | exact .inner (.inner .here) | refine .there ?_)) (by rfl)) ?_
  refine LW.v rfl rfl (Val.neStr rfl rfl) ?_
  refine LW.re 25 (.bool false) rfl (by first | rfl | simp) ?_
  refine LW.v rfl rfl (Val.pick_f rfl rfl) ?_
  refine LW.v rfl rfl (Val.move rfl) ?_
  refine LW.v rfl rfl (Val.fieldAddr 3 rfl Try.underlying38 rfl rfl Try.sizeOf9) ?_
  refine LW.v rfl rfl (Val.load rfl Try.isAgg9 (by repeat (first | exact .here | exact .inner .here | exact .inner (.inner .here) | refine .there ?_)) (by rfl)) ?_
  refine LW.v rfl rfl (Val.fieldAddr 3 rfl Try.underlying38 rfl rfl Try.sizeOf9) ?_
  refine LW.v rfl rfl (Val.load rfl Try.isAgg9 (by repeat (first | exact .here | exact .inner .here | exact .inner (.inner .here) | refine .there ?_)) (by rfl)) ?_
  refine LW.v rfl rfl (Val.neStr rfl rfl) ?_
  refine LW.re 32 (.bool false) rfl (by first | rfl | simp) ?_
  refine LW.v rfl rfl (Val.pick_f rfl rfl) ?_
  refine LW.v rfl rfl (Val.move rfl) ?_
  refine LW.v rfl rfl (Val.fieldAddr 4 rfl Try.underlying38 rfl rfl Try.sizeOf28) ?_
  refine LW.v rfl rfl (Val.load rfl Try.isAgg28 (by repeat (first | exact .here | exact .inner .here | exact .inner (.inner .here) | refine .there ?_)) (by rfl)) ?_
  refine LW.v rfl rfl (Val.lenSl rfl Try.underlying28) ?_
  refine LW.v rfl rfl (Val.fieldAddr 4 rfl Try.underlying38 rfl rfl Try.sizeOf28) ?_
  refine LW.v rfl rfl (Val.load rfl Try.isAgg28 (by repeat (first | exact .here | exact .inner .here | exact .inner (.inner .here) | refine .there ?_)) (by rfl)) ?_
  refine LW.v rfl rfl (Val.lenSl rfl Try.underlying28) ?_
  refine LW.v rfl rfl (Val.cmp rfl rfl rfl) ?_
  refine LW.re 41 (.bool false) rfl (by first | rfl | simp) ?_
  refine LW.v rfl rfl (Val.pick_f rfl rfl) ?_
  refine LW.nil ?_
  refine PQ.seq ?_
  refine CW.cond_f rfl ?_
  refine CW.skip ?_
  refine PQ.seq ?_
  refine CW.seq ?_
  refine CW.seq ?_
  refine CW.region ?_
  refine LW.v rfl rfl (Val.assign rfl) ?_
  refine LW.nil ?_
  refine PQ.seq ?_
  refine CW.block ?_
  refine CW.loop (γ := Nat) (fun k => [(2, .pointer (some ⟨b2, 0, none⟩)), (3, .pointer (some ⟨b3, 0, none⟩)), (5, .int .i64 0)]) (fun _ => [[(b2, .cells (clC x).toArray 38 (0, 0))], [(b3, .cells (clC x).toArray 38 (0, 0))]]) (fun k => True) (fun k => 0) (0) trivial (by repeat (first | exact trivial | refine ⟨rfl, ?_⟩)) (by repeat (first | exact .nil | apply Pick.cons | exact .here | apply Ext.there)) ?_
  intro k
  intro _
  refine CW.seq ?_
  refine CW.seq ?_
  refine CW.region ?_
  refine LW.v rfl rfl (Val.move rfl) ?_
  refine LW.v rfl rfl (Val.fieldAddr 4 rfl Try.underlying38 rfl rfl Try.sizeOf28) ?_
  refine LW.v rfl rfl (Val.load rfl Try.isAgg28 (by repeat (first | exact .here | exact .inner .here | exact .inner (.inner .here) | refine .there ?_)) (by rfl)) ?_
  refine LW.v rfl rfl (Val.lenSl rfl Try.underlying28) ?_
  refine LW.v rfl rfl (Val.cmp rfl rfl rfl) ?_
  refine LW.re 47 (.bool false) rfl (by rfl) ?_
  refine LW.nil ?_
  refine PQ.seq ?_
  refine CW.cond_f rfl ?_
  refine CW.exit ?_
  refine PQ.then_exit ?_
  refine PQ.then_exit ?_
  refine PQ.in_here ?_
  refine PQ.seq ?_
  refine CW.seq ?_
  refine CW.region ?_
  refine LW.v rfl rfl (Val.assign rfl) ?_
  refine LW.nil ?_
  refine PQ.seq ?_
  refine CW.ret ?_
  refine PQ.ret1 rfl rfl ?_
  intro w' hw; exact ⟨rfl, hw.below⟩
theorem sameCalls_c (l : List Cl) (p1 p2 : Option Addr) (n1 n2 c1 c2 : Nat) (hn1 : n1 = l.length) (hn2 : n2 = l.length) (hl : l.length ≤ 100000) (w : World) (h1 : V.slAt w p1 5 clC l) (h2 : V.slAt w p2 5 clC l) : Calls Try.prog 13 [.slice p1 n1 c1, .slice p2 n2 c2].toArray w fun e w' => e = .returned (.bool true) ∧ Below w.heap.size w w' := by
  subst hn1; subst hn2
  refine V.calls [] Try.func13 rfl Try.ntmps13 (Nat.le_of_ble_eq_true rfl) (V.sat_nil _) ?_
  refine CW.seq ?_
  refine CW.region ?_
  refine LW.v rfl rfl (Val.assign rfl) ?_
  refine LW.nil ?_
  refine PQ.seq ?_
  refine CW.seq ?_
  refine CW.seq ?_
  refine CW.region ?_
  refine LW.v rfl rfl (Val.move rfl) ?_
  refine LW.v rfl rfl (Val.lenSl rfl Try.underlying28) ?_
  refine LW.v rfl rfl (Val.move rfl) ?_
  refine LW.v rfl rfl (Val.lenSl rfl Try.underlying28) ?_
  refine LW.v rfl rfl (Val.cmp rfl rfl rfl) ?_
  refine LW.re 10 (.bool false) rfl (by simp) ?_
  refine LW.nil ?_
  refine PQ.seq ?_
  refine CW.cond_f rfl ?_
  refine CW.skip ?_
  refine PQ.seq ?_
  refine CW.seq ?_
  refine CW.seq ?_
  refine CW.region ?_
  refine LW.v rfl rfl (Val.assign rfl) ?_
  refine LW.nil ?_
  refine PQ.seq ?_
  refine CW.block ?_
  refine CW.loop (γ := Nat) (fun k => [(0, .slice p1 l.length c1), (1, .slice p2 l.length c2), (5, .int .i64 (k : Nat))]) (fun _ => []) (fun k => k ≤ l.length) (fun k => l.length - k) (0) (Nat.zero_le _) (by repeat (first | exact trivial | refine ⟨rfl, ?_⟩)) (by repeat (first | exact .nil | apply Pick.cons | exact .here | apply Ext.there)) ?_
  intro k
  intro hJ
  refine CW.seq ?_
  refine CW.seq ?_
  refine CW.region ?_
  refine LW.v rfl rfl (Val.move rfl) ?_
  refine LW.v rfl rfl (Val.move rfl) ?_
  refine LW.v rfl rfl (Val.lenSl rfl Try.underlying28) ?_
  refine LW.v rfl rfl (Val.cmp rfl rfl rfl) ?_
  refine LW.nil ?_
  refine PQ.seq ?_
  refine CW.cond rfl (fun h14 => ?_) (fun h14 => ?_)
  · replace h14 := bT h14
    obtain ⟨b1, o1, x, rfl, hb1, hx1, hr1⟩ := V.slAt_at h1 rfl (k := k) (by omega)
    obtain ⟨b2, o2, y, rfl, hb2, hx2, hr2⟩ := V.slAt_at h2 rfl (k := k) (by omega)
    obtain rfl : x = y := by rw [hx1] at hx2; cases hx2; rfl
    refine CW.skip ?_
    refine PQ.seq ?_
    refine CW.seq ?_
    refine CW.block ?_
    refine CW.seq ?_
    refine CW.quiet mixed (by kernel_rfl) ?_
    refine QW.v rfl rfl (Val.move rfl) ?_
    refine QW.v rfl rfl (Val.move rfl) ?_
    first | (refine QW.v rfl rfl (Val.indexAddrN rfl rfl Try.underlying28 Try.sizeOf38 (by omega)) ?_) | (refine QW.v rfl rfl (Val.indexAddr rfl rfl Try.underlying28 Try.sizeOf38 (by omega) (by omega)) ?_)
    refine QW.v rfl rfl (Val.loadOA rfl Try.isAgg38 hb1 (by simp [ids]) (hr1 k x hx1) Try.sizeOf38) ?_
    refine QW.v rfl rfl (Val.move rfl) ?_
    refine QW.v rfl rfl (Val.move rfl) ?_
    first | (refine QW.v rfl rfl (Val.indexAddrN rfl rfl Try.underlying28 Try.sizeOf38 (by omega)) ?_) | (refine QW.v rfl rfl (Val.indexAddr rfl rfl Try.underlying28 Try.sizeOf38 (by omega) (by omega)) ?_)
    refine QW.v rfl rfl (Val.loadOA rfl Try.isAgg38 hb2 (by simp [ids]) (hr2 k x hx1) Try.sizeOf38) ?_
    refine QW.c rfl rfl (Qcall.of rfl Try.call25 (fun w hw => sameCall_c x w)) ?_
    refine QW.v rfl rfl (Val.not rfl) ?_
    refine QW.nil ?_
    refine PQ.seq ?_
    refine CW.cond_f rfl ?_
    refine CW.skip ?_
    refine PQ.in_normal ?_
    refine PQ.seq ?_
    refine CW.region ?_
    refine LW.v rfl rfl (Val.move rfl) ?_
    refine LW.v rfl rfl (Val.ar rfl rfl rfl (IntWalk.i64_in _ (by omega))) ?_
    refine LW.v rfl rfl (Val.assign rfl) ?_
    refine LW.nil ?_
    refine PQ.round (k + 1) (by omega) (by omega) (by repeat (first | exact trivial | refine ⟨rfl, ?_⟩)) (by repeat (first | exact .nil | apply Pick.cons | exact .here | apply Ext.there))
  · replace h14 := bF h14
    refine CW.exit ?_
    refine PQ.then_exit ?_
    refine PQ.then_exit ?_
    refine PQ.in_here ?_
    refine PQ.seq ?_
    refine CW.seq ?_
    refine CW.region ?_
    refine LW.v rfl rfl (Val.assign rfl) ?_
    refine LW.nil ?_
    refine PQ.seq ?_
    refine CW.ret ?_
    refine PQ.ret1 rfl rfl ?_
    intro w' hw; exact ⟨rfl, hw.below⟩
theorem cloneP_c (l : List (Pr)) (p : Option Addr) (n c : Nat) (hn : n = l.length) (hl : l.length ≤ 1000) (w : World) (h : V.slAt w p 2 prC l) : Calls Try.prog 28 [.slice p n c].toArray w fun e w' => ∃ o : V.OwnO, ownOk 2 l.length (l.flatMap prC) o ∧ e = .returned (ownV l.length o) ∧ Hp ⟨w, []⟩ [ownG 45 (l.flatMap prC) o] w' := by
  subst hn
  refine V.calls [] Try.func28 rfl Try.ntmps28 (Nat.le_of_ble_eq_true rfl) (V.sat_nil _) ?_
  refine CW.seq ?_
  refine CW.region ?_
  refine LW.v rfl rfl (Val.assign rfl) ?_
  refine LW.nil ?_
  refine PQ.seq ?_
  refine CW.seq ?_
  refine CW.seq ?_
  refine CW.region ?_
  refine LW.v rfl rfl (Val.move rfl) ?_
  refine LW.v rfl rfl (Val.eqSlNil rfl rfl Try.underlying22) ?_
  refine LW.nil ?_
  refine PQ.seq ?_
  refine CW.cond rfl (fun h4 => ?_) (fun h4 => ?_)
  · replace h4 := bT h4
    have hpn : p = none := by cases p with | none => rfl | some q => simp at h4
    obtain rfl : l = [] := by
      rcases h with h | ⟨b, o, h, _⟩
      · exact h
      · rw [hpn] at h; cases h
    refine CW.seq ?_
    refine CW.region ?_
    refine LW.v rfl rfl (Val.assign rfl) ?_
    refine LW.nil ?_
    refine PQ.seq ?_
    refine CW.ret ?_
    refine PQ.then_ret ?_
    refine PQ.ret1 rfl rfl ?_
    intro w' hw; exact ⟨none, ⟨rfl, rfl⟩, rfl, hw.perm (.refl _)⟩
  · replace h4 := bF h4
    refine CW.skip ?_
    refine PQ.seq ?_
    refine CW.seq ?_
    refine CW.region ?_
    refine LW.e rfl rfl (Eff.buildSlice0 Try.underlying22 Try.sizeOf45) ?_
    intro b5 _
    refine LW.v rfl rfl (Val.move rfl) ?_
    refine LW.e rfl rfl (Eff.appendAny (l.flatMap prC) (sz := 2) (bytes := 32) (z := .agg #[.string ⟨#[]⟩, .string ⟨#[]⟩]) (xs := []) (m0 := 0) (o := some (b5, [], 0)) (m := l.length) (pk := [ownG 45 [] (some (b5, [], 0))]) rfl rfl Try.underlying22 (by kernel_rfl) rfl (by omega) (by repeat (first | exact .nil | apply Pick.cons | exact .here | apply Ext.there)) (by simp) ⟨rfl, rfl⟩ (V.flatMap_len prC_len _) (fun hm0 => by obtain ⟨b8, o8, h8, h9⟩ := sl_range prC_len h hm0; exact ⟨b8, o8, h8, fun w hw => h9 w hw⟩) (all_one prC_one _) (by omega) (by omega)) ?_
    intro o2 ho2
    have h2 : ownOk 2 l.length (l.flatMap prC) o2 := by simpa using ho2
    rw [List.nil_append, Nat.zero_add]
    refine LW.v rfl rfl (Val.assign rfl) ?_
    refine LW.nil ?_
    refine PQ.seq ?_
    refine CW.ret ?_
    refine PQ.ret1 rfl rfl ?_
    intro w' hw; exact ⟨o2, h2, rfl, hw.pick (by repeat (first | exact .nil | apply Pick.cons | exact .here | apply Ext.there))⟩
theorem cloneS_c (l : List (List UInt8)) (p : Option Addr) (n c : Nat) (hn : n = l.length) (hl : l.length ≤ 1000) (w : World) (h : V.slAt w p 1 stE l) : Calls Try.prog 29 [.slice p n c].toArray w fun e w' => ∃ o : V.OwnO, ownOk 1 l.length (l.flatMap stE) o ∧ e = .returned (ownV l.length o) ∧ Hp ⟨w, []⟩ [ownG 9 (l.flatMap stE) o] w' := by
  subst hn
  refine V.calls [] Try.func29 rfl Try.ntmps29 (Nat.le_of_ble_eq_true rfl) (V.sat_nil _) ?_
  refine CW.seq ?_
  refine CW.region ?_
  refine LW.v rfl rfl (Val.assign rfl) ?_
  refine LW.nil ?_
  refine PQ.seq ?_
  refine CW.seq ?_
  refine CW.seq ?_
  refine CW.region ?_
  refine LW.v rfl rfl (Val.move rfl) ?_
  refine LW.v rfl rfl (Val.eqSlNil rfl rfl Try.underlying23) ?_
  refine LW.nil ?_
  refine PQ.seq ?_
  refine CW.cond rfl (fun h4 => ?_) (fun h4 => ?_)
  · replace h4 := bT h4
    have hpn : p = none := by cases p with | none => rfl | some q => simp at h4
    obtain rfl : l = [] := by
      rcases h with h | ⟨b, o, h, _⟩
      · exact h
      · rw [hpn] at h; cases h
    refine CW.seq ?_
    refine CW.region ?_
    refine LW.v rfl rfl (Val.assign rfl) ?_
    refine LW.nil ?_
    refine PQ.seq ?_
    refine CW.ret ?_
    refine PQ.then_ret ?_
    refine PQ.ret1 rfl rfl ?_
    intro w' hw; exact ⟨none, ⟨rfl, rfl⟩, rfl, hw.perm (.refl _)⟩
  · replace h4 := bF h4
    refine CW.skip ?_
    refine PQ.seq ?_
    refine CW.seq ?_
    refine CW.region ?_
    refine LW.e rfl rfl (Eff.buildSlice0 Try.underlying23 Try.sizeOf9) ?_
    intro b5 _
    refine LW.v rfl rfl (Val.move rfl) ?_
    refine LW.e rfl rfl (Eff.appendAny (l.flatMap stE) (sz := 1) (bytes := 16) (z := .string ⟨#[]⟩) (xs := []) (m0 := 0) (o := some (b5, [], 0)) (m := l.length) (pk := [ownG 9 [] (some (b5, [], 0))]) rfl rfl Try.underlying23 (by kernel_rfl) rfl (by omega) (by repeat (first | exact .nil | apply Pick.cons | exact .here | apply Ext.there)) (by simp) ⟨rfl, rfl⟩ (V.flatMap_len stE_len _) (fun hm0 => by obtain ⟨b8, o8, h8, h9⟩ := sl_range stE_len h hm0; exact ⟨b8, o8, h8, fun w hw => h9 w hw⟩) (all_one stE_one _) (by omega) (by omega)) ?_
    intro o2 ho2
    have h2 : ownOk 1 l.length (l.flatMap stE) o2 := by simpa using ho2
    rw [List.nil_append, Nat.zero_add]
    refine LW.v rfl rfl (Val.assign rfl) ?_
    refine LW.nil ?_
    refine PQ.seq ?_
    refine CW.ret ?_
    refine PQ.ret1 rfl rfl ?_
    intro w' hw; exact ⟨o2, h2, rfl, hw.pick (by repeat (first | exact .nil | apply Pick.cons | exact .here | apply Ext.there))⟩
end Go.Proofs.Ytipnpnkniihdjaa
