/- Stories, calls, answers, texts compared; stories written over. -/
import Derived.Test.YtaihimbjdgmjgaaSeC
import Derived.Lib.Hide
namespace Go.Proofs.Ytaihimbjdgmjgaa
open Go Go.RowKit V
set_option linter.unusedVariables false
set_option maxRecDepth 100000
open V (ownV ownG ownS ownOk)
def strC (k : ByteArray) : List Value := [.string k]
theorem st_len (s : ByteArray) : (strC s).length = 1 := rfl
theorem st_one (s : ByteArray) : (strC s).all (·.oneCell') = true := rfl
theorem sameP_c (l : List Pr) (p1 p2 : Option Addr) (n1 n2 c1 c2 : Nat) (hn1 : n1 = l.length) (hn2 : n2 = l.length) (hl : l.length ≤ 100000) (w : World) (h1 : V.slAt w p1 2 Pr.cells l) (h2 : V.slAt w p2 2 Pr.cells l) : Calls Try.prog 72 [.slice p1 n1 c1, .slice p2 n2 c2].toArray w fun e w' => e = .returned (.bool true) ∧ Below w.heap.size w w' := by
  subst hn1; subst hn2
  refine V.calls [] Try.func72 rfl Try.ntmps72 (Nat.le_of_ble_eq_true rfl) (V.sat_nil _) ?_
  refine CW.seq ?_
  refine CW.region ?_
  refine LW.v rfl rfl (Val.assign rfl) ?_
  refine LW.nil ?_
  refine PQ.seq ?_
  refine CW.seq ?_
  refine CW.seq ?_
  refine CW.region ?_
  refine LW.v rfl rfl (Val.move rfl) ?_
  refine LW.v rfl rfl (Val.lenSl rfl Try.underlying30) ?_
  refine LW.v rfl rfl (Val.move rfl) ?_
  refine LW.v rfl rfl (Val.lenSl rfl Try.underlying30) ?_
  refine LW.v rfl rfl (Val.cmp rfl rfl rfl) ?_
  refine LW.re 10 (.bool false) rfl (by simp) ?_
  refine LW.nil ?_
  refine PQ.seq ?_
  refine CW.cond_f rfl ?_
  refine CW.skip ?_
  refine PQ.seq ?_
  refine CW.seq ?_
  refine CW.seq ?_
  refine CW.region ?_
  refine LW.v rfl rfl (Val.assign rfl) ?_
  refine LW.nil ?_
  refine PQ.seq ?_
  refine CW.block ?_
  refine CW.loop (γ := Nat) (fun k => [(0, .slice p1 l.length c1), (1, .slice p2 l.length c2), (5, .int .i64 (k : Nat))]) (fun _ => []) (fun k => k ≤ l.length) (fun k => l.length - k) (0) (Nat.zero_le _) (by repeat (first | exact trivial | refine ⟨rfl, ?_⟩)) (by repeat (first | exact .nil | apply Pick.cons | exact .here | apply Ext.there)) ?_
  intro k
  intro hJ
  refine CW.seq ?_
  refine CW.seq ?_
  refine CW.region ?_
  refine LW.v rfl rfl (Val.move rfl) ?_
  refine LW.v rfl rfl (Val.move rfl) ?_
  refine LW.v rfl rfl (Val.lenSl rfl Try.underlying30) ?_
  refine LW.v rfl rfl (Val.cmp rfl rfl rfl) ?_
  refine LW.nil ?_
  refine PQ.seq ?_
  refine CW.cond rfl (fun h14 => ?_) (fun h14 => ?_)
  · replace h14 := bT h14
    obtain ⟨b1, o1, x, rfl, hb1, hx, hr1⟩ := V.slAt_at h1 rfl (k := k) (by omega)
    obtain ⟨b2, o2, y, rfl, hb2, hy, hr2⟩ := V.slAt_at h2 rfl (k := k) (by omega)
    refine CW.skip ?_
    refine PQ.seq ?_
    refine CW.seq ?_
    refine CW.block ?_
    refine CW.seq ?_
    refine CW.quiet mixed (by kernel_rfl) ?_
    refine QW.v rfl rfl (Val.move rfl) ?_
    refine QW.v rfl rfl (Val.move rfl) ?_
    first | (refine QW.v rfl rfl (Val.indexAddrN rfl rfl Try.underlying30 Try.sizeOf106 (by omega)) ?_) | (refine QW.v rfl rfl (Val.indexAddr rfl rfl Try.underlying30 Try.sizeOf106 (by omega) (by omega)) ?_)
    refine QW.v rfl rfl (Val.loadOA rfl Try.isAgg106 hb1 (by simp [ids]) (hr1 k x hx) Try.sizeOf106) ?_
    refine QW.v rfl rfl (Val.move rfl) ?_
    refine QW.v rfl rfl (Val.move rfl) ?_
    first | (refine QW.v rfl rfl (Val.indexAddrN rfl rfl Try.underlying30 Try.sizeOf106 (by omega)) ?_) | (refine QW.v rfl rfl (Val.indexAddr rfl rfl Try.underlying30 Try.sizeOf106 (by omega) (by omega)) ?_)
    refine QW.v rfl rfl (Val.loadOA rfl Try.isAgg106 hb2 (by simp [ids]) (hr2 k x hx) Try.sizeOf106) ?_
    refine QW.v rfl rfl (Val.neA rfl rfl (by kernel_rfl) Try.underlying106 (by kernel_rfl) (by exact (.str rfl rfl Try.isAgg9 Try.underlying9 (.str rfl rfl Try.isAgg9 Try.underlying9 .nil)))) ?_
    refine QW.re 25 (.bool false) rfl (by simp) ?_
    refine QW.nil ?_
    refine PQ.seq ?_
    refine CW.cond_f rfl ?_
    refine CW.skip ?_
    refine PQ.in_normal ?_
    refine PQ.seq ?_
    refine CW.region ?_
    refine LW.v rfl rfl (Val.move rfl) ?_
    refine LW.v rfl rfl (Val.ar rfl rfl rfl (IntWalk.i64_in _ (by omega))) ?_
    refine LW.v rfl rfl (Val.assign rfl) ?_
    refine LW.nil ?_
    refine PQ.round (k + 1) (by omega) (by omega) (by repeat (first | exact trivial | refine ⟨rfl, ?_⟩)) (by repeat (first | exact .nil | apply Pick.cons | exact .here | apply Ext.there))
  · replace h14 := bF h14
    refine CW.exit ?_
    refine PQ.then_exit ?_
    refine PQ.then_exit ?_
    refine PQ.in_here ?_
    refine PQ.seq ?_
    refine CW.seq ?_
    refine CW.region ?_
    refine LW.v rfl rfl (Val.assign rfl) ?_
    refine LW.nil ?_
    refine PQ.seq ?_
    refine CW.ret ?_
    refine PQ.ret1 rfl rfl ?_
    intro w' hw; exact ⟨rfl, hw.below⟩
theorem sameB_c (l : List Bool) (p1 p2 : Option Addr) (n1 n2 c1 c2 : Nat) (hn1 : n1 = l.length) (hn2 : n2 = l.length) (hl : l.length ≤ 100000) (w : World) (h1 : V.slAt w p1 1 boolC l) (h2 : V.slAt w p2 1 boolC l) : Calls Try.prog 73 [.slice p1 n1 c1, .slice p2 n2 c2].toArray w fun e w' => e = .returned (.bool true) ∧ Below w.heap.size w w' := by
  subst hn1; subst hn2
  refine V.calls [] Try.func73 rfl Try.ntmps73 (Nat.le_of_ble_eq_true rfl) (V.sat_nil _) ?_
  refine CW.seq ?_
  refine CW.region ?_
  refine LW.v rfl rfl (Val.assign rfl) ?_
  refine LW.nil ?_
  refine PQ.seq ?_
  refine CW.seq ?_
  refine CW.seq ?_
  refine CW.region ?_
  refine LW.v rfl rfl (Val.move rfl) ?_
  refine LW.v rfl rfl (Val.lenSl rfl Try.underlying31) ?_
  refine LW.v rfl rfl (Val.move rfl) ?_
  refine LW.v rfl rfl (Val.lenSl rfl Try.underlying31) ?_
  refine LW.v rfl rfl (Val.cmp rfl rfl rfl) ?_
  refine LW.re 10 (.bool false) rfl (by simp) ?_
  refine LW.nil ?_
  refine PQ.seq ?_
  refine CW.cond_f rfl ?_
  refine CW.skip ?_
  refine PQ.seq ?_
  refine CW.seq ?_
  refine CW.seq ?_
  refine CW.region ?_
  refine LW.v rfl rfl (Val.assign rfl) ?_
  refine LW.nil ?_
  refine PQ.seq ?_
  refine CW.block ?_
  refine CW.loop (γ := Nat) (fun k => [(0, .slice p1 l.length c1), (1, .slice p2 l.length c2), (5, .int .i64 (k : Nat))]) (fun _ => []) (fun k => k ≤ l.length) (fun k => l.length - k) (0) (Nat.zero_le _) (by repeat (first | exact trivial | refine ⟨rfl, ?_⟩)) (by repeat (first | exact .nil | apply Pick.cons | exact .here | apply Ext.there)) ?_
  intro k
  intro hJ
  refine CW.seq ?_
  refine CW.seq ?_
  refine CW.region ?_
  refine LW.v rfl rfl (Val.move rfl) ?_
  refine LW.v rfl rfl (Val.move rfl) ?_
  refine LW.v rfl rfl (Val.lenSl rfl Try.underlying31) ?_
  refine LW.v rfl rfl (Val.cmp rfl rfl rfl) ?_
  refine LW.nil ?_
  refine PQ.seq ?_
  refine CW.cond rfl (fun h14 => ?_) (fun h14 => ?_)
  · replace h14 := bT h14
    obtain ⟨b1, o1, x, rfl, hb1, hx, hr1⟩ := V.slAt_at h1 rfl (k := k) (by omega)
    obtain ⟨b2, o2, y, rfl, hb2, hy, hr2⟩ := V.slAt_at h2 rfl (k := k) (by omega)
    refine CW.skip ?_
    refine PQ.seq ?_
    refine CW.seq ?_
    refine CW.block ?_
    refine CW.seq ?_
    refine CW.quiet mixed (by kernel_rfl) ?_
    refine QW.v rfl rfl (Val.move rfl) ?_
    refine QW.v rfl rfl (Val.move rfl) ?_
    first | (refine QW.v rfl rfl (Val.indexAddrN rfl rfl Try.underlying31 Try.sizeOf4 (by omega)) ?_) | (refine QW.v rfl rfl (Val.indexAddr rfl rfl Try.underlying31 Try.sizeOf4 (by omega) (by omega)) ?_)
    refine QW.v rfl rfl (Val.loadO rfl Try.isAgg4 hb1 (by simp [ids]) (hr1 k x hx 0 _ rfl)) ?_
    refine QW.v rfl rfl (Val.move rfl) ?_
    refine QW.v rfl rfl (Val.move rfl) ?_
    first | (refine QW.v rfl rfl (Val.indexAddrN rfl rfl Try.underlying31 Try.sizeOf4 (by omega)) ?_) | (refine QW.v rfl rfl (Val.indexAddr rfl rfl Try.underlying31 Try.sizeOf4 (by omega) (by omega)) ?_)
    refine QW.v rfl rfl (Val.loadO rfl Try.isAgg4 hb2 (by simp [ids]) (hr2 k x hx 0 _ rfl)) ?_
    refine QW.v rfl rfl (Val.neB rfl rfl Try.underlying4) ?_
    refine QW.re 25 (.bool false) rfl (by simp) ?_
    refine QW.nil ?_
    refine PQ.seq ?_
    refine CW.cond_f rfl ?_
    refine CW.skip ?_
    refine PQ.in_normal ?_
    refine PQ.seq ?_
    refine CW.region ?_
    refine LW.v rfl rfl (Val.move rfl) ?_
    refine LW.v rfl rfl (Val.ar rfl rfl rfl (IntWalk.i64_in _ (by omega))) ?_
    refine LW.v rfl rfl (Val.assign rfl) ?_
    refine LW.nil ?_
    refine PQ.round (k + 1) (by omega) (by omega) (by repeat (first | exact trivial | refine ⟨rfl, ?_⟩)) (by repeat (first | exact .nil | apply Pick.cons | exact .here | apply Ext.there))
  · replace h14 := bF h14
    refine CW.exit ?_
    refine PQ.then_exit ?_
    refine PQ.then_exit ?_
    refine PQ.in_here ?_
    refine PQ.seq ?_
    refine CW.seq ?_
    refine CW.region ?_
    refine LW.v rfl rfl (Val.assign rfl) ?_
    refine LW.nil ?_
    refine PQ.seq ?_
    refine CW.ret ?_
    refine PQ.ret1 rfl rfl ?_
    intro w' hw; exact ⟨rfl, hw.below⟩
theorem sameT_c (l : List ByteArray) (p1 p2 : Option Addr) (n1 n2 c1 c2 : Nat) (hn1 : n1 = l.length) (hn2 : n2 = l.length) (hl : l.length ≤ 100000) (w : World) (h1 : V.slAt w p1 1 strC l) (h2 : V.slAt w p2 1 strC l) : Calls Try.prog 27 [.slice p1 n1 c1, .slice p2 n2 c2].toArray w fun e w' => e = .returned (.bool true) ∧ Below w.heap.size w w' := by
  subst hn1; subst hn2
  refine V.calls [] Try.func27 rfl Try.ntmps27 (Nat.le_of_ble_eq_true rfl) (V.sat_nil _) ?_
  refine CW.seq ?_
  refine CW.region ?_
  refine LW.v rfl rfl (Val.assign rfl) ?_
  refine LW.nil ?_
  refine PQ.seq ?_
  refine CW.seq ?_
  refine CW.seq ?_
  refine CW.region ?_
  refine LW.v rfl rfl (Val.move rfl) ?_
  refine LW.v rfl rfl (Val.lenSl rfl Try.underlying50) ?_
  refine LW.v rfl rfl (Val.move rfl) ?_
  refine LW.v rfl rfl (Val.lenSl rfl Try.underlying50) ?_
  refine LW.v rfl rfl (Val.cmp rfl rfl rfl) ?_
  refine LW.re 10 (.bool false) rfl (by simp) ?_
  refine LW.nil ?_
  refine PQ.seq ?_
  refine CW.cond_f rfl ?_
  refine CW.skip ?_
  refine PQ.seq ?_
  refine CW.seq ?_
  refine CW.seq ?_
  refine CW.region ?_
  refine LW.v rfl rfl (Val.assign rfl) ?_
  refine LW.nil ?_
  refine PQ.seq ?_
  refine CW.block ?_
  refine CW.loop (γ := Nat) (fun k => [(0, .slice p1 l.length c1), (1, .slice p2 l.length c2), (5, .int .i64 (k : Nat))]) (fun _ => []) (fun k => k ≤ l.length) (fun k => l.length - k) (0) (Nat.zero_le _) (by repeat (first | exact trivial | refine ⟨rfl, ?_⟩)) (by repeat (first | exact .nil | apply Pick.cons | exact .here | apply Ext.there)) ?_
  intro k
  intro hJ
  refine CW.seq ?_
  refine CW.seq ?_
  refine CW.region ?_
  refine LW.v rfl rfl (Val.move rfl) ?_
  refine LW.v rfl rfl (Val.move rfl) ?_
  refine LW.v rfl rfl (Val.lenSl rfl Try.underlying50) ?_
  refine LW.v rfl rfl (Val.cmp rfl rfl rfl) ?_
  refine LW.nil ?_
  refine PQ.seq ?_
  refine CW.cond rfl (fun h14 => ?_) (fun h14 => ?_)
  · replace h14 := bT h14
    obtain ⟨b1, o1, x, rfl, hb1, hx, hr1⟩ := V.slAt_at h1 rfl (k := k) (by omega)
    obtain ⟨b2, o2, y, rfl, hb2, hy, hr2⟩ := V.slAt_at h2 rfl (k := k) (by omega)
    refine CW.skip ?_
    refine PQ.seq ?_
    refine CW.seq ?_
    refine CW.block ?_
    refine CW.seq ?_
    refine CW.quiet mixed (by kernel_rfl) ?_
    refine QW.v rfl rfl (Val.move rfl) ?_
    refine QW.v rfl rfl (Val.move rfl) ?_
    first | (refine QW.v rfl rfl (Val.indexAddrN rfl rfl Try.underlying50 Try.sizeOf9 (by omega)) ?_) | (refine QW.v rfl rfl (Val.indexAddr rfl rfl Try.underlying50 Try.sizeOf9 (by omega) (by omega)) ?_)
    refine QW.v rfl rfl (Val.loadO rfl Try.isAgg9 hb1 (by simp [ids]) (hr1 k x hx 0 _ rfl)) ?_
    refine QW.v rfl rfl (Val.move rfl) ?_
    refine QW.v rfl rfl (Val.move rfl) ?_
    first | (refine QW.v rfl rfl (Val.indexAddrN rfl rfl Try.underlying50 Try.sizeOf9 (by omega)) ?_) | (refine QW.v rfl rfl (Val.indexAddr rfl rfl Try.underlying50 Try.sizeOf9 (by omega) (by omega)) ?_)
    refine QW.v rfl rfl (Val.loadO rfl Try.isAgg9 hb2 (by simp [ids]) (hr2 k x hx 0 _ rfl)) ?_
    refine QW.v rfl rfl (Val.cmpS rfl rfl rfl) ?_
    refine QW.re 25 (.bool false) rfl (by simp) ?_
    refine QW.nil ?_
    refine PQ.seq ?_
    refine CW.cond_f rfl ?_
    refine CW.skip ?_
    refine PQ.in_normal ?_
    refine PQ.seq ?_
    refine CW.region ?_
    refine LW.v rfl rfl (Val.move rfl) ?_
    refine LW.v rfl rfl (Val.ar rfl rfl rfl (IntWalk.i64_in _ (by omega))) ?_
    refine LW.v rfl rfl (Val.assign rfl) ?_
    refine LW.nil ?_
    refine PQ.round (k + 1) (by omega) (by omega) (by repeat (first | exact trivial | refine ⟨rfl, ?_⟩)) (by repeat (first | exact .nil | apply Pick.cons | exact .here | apply Ext.there))
  · replace h14 := bF h14
    refine CW.exit ?_
    refine PQ.then_exit ?_
    refine PQ.then_exit ?_
    refine PQ.in_here ?_
    refine PQ.seq ?_
    refine CW.seq ?_
    refine CW.region ?_
    refine LW.v rfl rfl (Val.assign rfl) ?_
    refine LW.nil ?_
    refine PQ.seq ?_
    refine CW.ret ?_
    refine PQ.ret1 rfl rfl ?_
    intro w' hw; exact ⟨rfl, hw.below⟩
theorem clK_re {x y : Cl} (h : clK y = clK x) : ∃ g, y = x.re g ∧ g = y.grp := by
  cases x; cases y
  simp only [clK, Prod.mk.injEq] at h
  obtain ⟨rfl, rfl, rfl, rfl⟩ := h
  exact ⟨_, rfl, rfl⟩
theorem map_at {α β : Type} {f : α → β} {l l' : List α} (h : l'.map f = l.map f) {i : Nat} {x y : α} (hx : l[i]? = some x) (hy : l'[i]? = some y) : f y = f x := by
  have := congrArg (·[i]?) h
  simp only [List.getElem?_map, hx, hy, Option.map_some, Option.some.injEq] at this
  exact this
theorem sameCall_c (c : Cl) (g1 g2 : Sl) (l1 l2 : List Cl) (hn1 : g1.n = l1.length) (hn2 : g2.n = l2.length) (he : l1.map clK = l2.map clK) (z1 : ∀ x ∈ l1, x.grp.n = 0) (z2 : ∀ x ∈ l2, x.grp.n = 0) (hl : l2.length ≤ 100000) (w : World) (h1 : V.slAt w g1.a 5 Cl.cells l1) (h2 : V.slAt w g2.a 5 Cl.cells l2) :
    Calls Try.prog 54 [.agg (c.re g1).cells.toArray, .agg (c.re g2).cells.toArray].toArray w fun e w' => e = .returned (.bool true) ∧ Below w.heap.size w w' := by
  have hle : l1.length = l2.length := by have := congrArg List.length he; simpa using this
  have hgn1 : (c.re g1).grp.n = l1.length := hn1
  have hgn2 : (c.re g2).grp.n = l2.length := hn2
  refine V.calls [] Try.func54 rfl Try.ntmps54 (Nat.le_of_ble_eq_true rfl) (V.sat_nil _) ?_
  refine CW.seq ?_
  refine CW.region ?_
  refine LW.e rfl rfl (Eff.boxA rfl) ?_
  intro b2 _
  refine LW.e rfl rfl (Eff.boxA rfl) ?_
  intro b3 _
  refine LW.v rfl rfl (Val.assign rfl) ?_
  refine LW.nil ?_
  refine PQ.seq ?_
  refine CW.seq ?_
  refine CW.seq ?_
  refine CW.region ?_
  refine LW.v rfl rfl (Val.fieldAddr 0 rfl Try.underlying28 rfl rfl Try.sizeOf3) ?_
  refine LW.v rfl rfl (Val.load rfl Try.isAgg3 (by repeat (first | exact .here | refine .there ?_)) (by rfl)) ?_
  refine LW.v rfl rfl (Val.fieldAddr 0 rfl Try.underlying28 rfl rfl Try.sizeOf3) ?_
  refine LW.v rfl rfl (Val.load rfl Try.isAgg3 (by repeat (first | exact .here | refine .there ?_)) (by rfl)) ?_
  refine LW.v rfl rfl (Val.cmp rfl rfl rfl) ?_
  refine LW.re 12 (.bool false) rfl (by simp [Cl.re]) ?_
  refine LW.v rfl rfl (Val.move rfl) ?_
  refine LW.v rfl rfl (Val.fieldAddr 1 rfl Try.underlying28 rfl rfl Try.sizeOf9) ?_
  refine LW.v rfl rfl (Val.load rfl Try.isAgg9 (by repeat (first | exact .here | refine .there ?_)) (by rfl)) ?_
  refine LW.v rfl rfl (Val.fieldAddr 1 rfl Try.underlying28 rfl rfl Try.sizeOf9) ?_
  refine LW.v rfl rfl (Val.load rfl Try.isAgg9 (by repeat (first | exact .here | refine .there ?_)) (by rfl)) ?_
  refine LW.v rfl rfl (Val.cmpS rfl rfl rfl) ?_
  refine LW.re 18 (.bool false) rfl (by simp [Cl.re]) ?_
  refine LW.v rfl rfl (Val.pick_f rfl rfl) ?_
  refine LW.v rfl rfl (Val.move rfl) ?_
  refine LW.v rfl rfl (Val.fieldAddr 2 rfl Try.underlying28 rfl rfl Try.sizeOf9) ?_
  refine LW.v rfl rfl (Val.load rfl Try.isAgg9 (by repeat (first | exact .here | refine .there ?_)) (by rfl)) ?_
  refine LW.v rfl rfl (Val.fieldAddr 2 rfl Try.underlying28 rfl rfl Try.sizeOf9) ?_
  refine LW.v rfl rfl (Val.load rfl Try.isAgg9 (by repeat (first | exact .here | refine .there ?_)) (by rfl)) ?_
  refine LW.v rfl rfl (Val.cmpS rfl rfl rfl) ?_
  refine LW.re 25 (.bool false) rfl (by simp [Cl.re]) ?_
  refine LW.v rfl rfl (Val.pick_f rfl rfl) ?_
  refine LW.v rfl rfl (Val.move rfl) ?_
  refine LW.v rfl rfl (Val.fieldAddr 3 rfl Try.underlying28 rfl rfl Try.sizeOf9) ?_
  refine LW.v rfl rfl (Val.load rfl Try.isAgg9 (by repeat (first | exact .here | refine .there ?_)) (by rfl)) ?_
  refine LW.v rfl rfl (Val.fieldAddr 3 rfl Try.underlying28 rfl rfl Try.sizeOf9) ?_
  refine LW.v rfl rfl (Val.load rfl Try.isAgg9 (by repeat (first | exact .here | refine .there ?_)) (by rfl)) ?_
  refine LW.v rfl rfl (Val.cmpS rfl rfl rfl) ?_
  refine LW.re 32 (.bool false) rfl (by simp [Cl.re]) ?_
  refine LW.v rfl rfl (Val.pick_f rfl rfl) ?_
  refine LW.v rfl rfl (Val.move rfl) ?_
  refine LW.v rfl rfl (Val.fieldAddr 4 rfl Try.underlying28 rfl rfl Try.sizeOf26) ?_
  refine LW.v rfl rfl (Val.load rfl Try.isAgg26 (by repeat (first | exact .here | refine .there ?_)) (by rfl)) ?_
  refine LW.v rfl rfl (Val.lenSl rfl Try.underlying26) ?_
  refine LW.v rfl rfl (Val.fieldAddr 4 rfl Try.underlying28 rfl rfl Try.sizeOf26) ?_
  refine LW.v rfl rfl (Val.load rfl Try.isAgg26 (by repeat (first | exact .here | refine .there ?_)) (by rfl)) ?_
  refine LW.v rfl rfl (Val.lenSl rfl Try.underlying26) ?_
  refine LW.v rfl rfl (Val.cmp rfl rfl rfl) ?_
  refine LW.re 41 (.bool false) rfl (by simp [Cl.re, hn1, hn2, hle]) ?_
  refine LW.v rfl rfl (Val.pick_f rfl rfl) ?_
  refine LW.nil ?_
  refine PQ.seq ?_
  refine CW.cond_f rfl ?_
  refine CW.skip ?_
  refine PQ.seq ?_
  refine CW.seq ?_
  refine CW.seq ?_
  refine CW.region ?_
  refine LW.v rfl rfl (Val.assign rfl) ?_
  refine LW.nil ?_
  refine PQ.seq ?_
  refine CW.block ?_
  refine CW.loop (γ := Nat) (fun k => [(2, .pointer (some ⟨b2, 0, none⟩)), (3, .pointer (some ⟨b3, 0, none⟩)), (5, .int .i64 (k : Nat))]) (fun _ => [[(b2, .cells (c.re g1).cells.toArray 28 (0, 0))], [(b3, .cells (c.re g2).cells.toArray 28 (0, 0))]]) (fun k => k ≤ l1.length) (fun k => l1.length - k) (0) (Nat.zero_le _) (by repeat (first | exact trivial | refine ⟨rfl, ?_⟩)) (by repeat (first | exact .nil | apply Pick.cons | exact .here | apply Ext.there)) ?_
  intro k
  intro hJ
  refine CW.seq ?_
  refine CW.seq ?_
  refine CW.region ?_
  refine LW.v rfl rfl (Val.move rfl) ?_
  refine LW.v rfl rfl (Val.fieldAddr 4 rfl Try.underlying28 rfl rfl Try.sizeOf26) ?_
  refine LW.v rfl rfl (Val.load rfl Try.isAgg26 (by repeat (first | exact .here | refine .there ?_)) (by rfl)) ?_
  refine LW.v rfl rfl (Val.lenSl rfl Try.underlying26) ?_
  refine LW.v rfl rfl (Val.cmp rfl rfl rfl) ?_
  refine LW.nil ?_
  refine PQ.seq ?_
  refine CW.cond rfl (fun h47 => ?_) (fun h47 => ?_)
  · replace h47 := bT h47
    obtain ⟨bb1, o1, x, hp1, hbb1, hx, hr1⟩ := V.slAt_at h1 rfl (k := k) (by omega)
    obtain ⟨bb2, o2, y, hp2, hbb2, hy, hr2⟩ := V.slAt_at h2 hle.symm (k := k) (by omega)
    have hx0 := z1 x (List.mem_of_getElem? hx)
    have hy0 := z2 y (List.mem_of_getElem? hy)
    obtain ⟨yg, rfl, hyg⟩ := clK_re (map_at he.symm hx hy)
    have hyn : yg.n = 0 := hy0
    refine CW.skip ?_
    refine PQ.seq ?_
    refine CW.seq ?_
    refine CW.block ?_
    refine CW.seq ?_
    refine CW.drawn ([[(b2, .cells (c.re g1).cells.toArray 28 (0, 0))], [(b3, .cells (c.re g2).cells.toArray 28 (0, 0))]]) mixed (by repeat (first | exact .nil | apply Pick.cons | exact .here | apply Ext.there)) ?_
    refine RW.v 0 rfl (by kernel_rfl) (by kernel_rfl) (by kernel_rfl) (fun _ _ _ h => h) rfl rfl (Val.fieldAddr 4 rfl Try.underlying28 rfl rfl Try.sizeOf26) ?_
    refine RW.v 1 rfl (by kernel_rfl) (by kernel_rfl) (by kernel_rfl) (fun _ _ _ h => h) rfl rfl (Val.load (v := .slice (some ⟨bb1, o1, none⟩) g1.n g1.c) rfl Try.isAgg26 (by repeat (first | exact .here | refine .there ?_)) (by rw [← hp1]; rfl)) ?_
    refine RW.v 2 rfl (by kernel_rfl) (by kernel_rfl) (by kernel_rfl) (fun _ _ _ h => h) rfl rfl (Val.move rfl) ?_
    first | (refine RW.v 3 rfl (by kernel_rfl) (by kernel_rfl) (by kernel_rfl) (fun _ _ _ h => h) rfl rfl (Val.indexAddrN rfl rfl Try.underlying26 Try.sizeOf28 (by omega)) ?_) | (refine RW.v 3 rfl (by kernel_rfl) (by kernel_rfl) (by kernel_rfl) (fun _ _ _ h => h) rfl rfl (Val.indexAddr rfl rfl Try.underlying26 Try.sizeOf28 (by omega) (by omega)) ?_)
    refine RW.v 4 rfl (by kernel_rfl) (by kernel_rfl) (by kernel_rfl) (fun _ _ _ h => h) rfl rfl (Val.loadOA rfl Try.isAgg28 hbb1 (by simp [ids]) (hr1 k x hx) Try.sizeOf28) ?_
    refine RW.v 5 rfl (by kernel_rfl) (by kernel_rfl) (by kernel_rfl) (fun _ _ _ h => h) rfl rfl (Val.fieldAddr 4 rfl Try.underlying28 rfl rfl Try.sizeOf26) ?_
    refine RW.v 6 rfl (by kernel_rfl) (by kernel_rfl) (by kernel_rfl) (fun _ _ _ h => h) rfl rfl (Val.load (v := .slice (some ⟨bb2, o2, none⟩) g2.n g2.c) rfl Try.isAgg26 (by repeat (first | exact .here | refine .there ?_)) (by rw [← hp2]; rfl)) ?_
    refine RW.v 7 rfl (by kernel_rfl) (by kernel_rfl) (by kernel_rfl) (fun _ _ _ h => h) rfl rfl (Val.move rfl) ?_
    first | (refine RW.v 8 rfl (by kernel_rfl) (by kernel_rfl) (by kernel_rfl) (fun _ _ _ h => h) rfl rfl (Val.indexAddrN rfl rfl Try.underlying26 Try.sizeOf28 (by omega)) ?_) | (refine RW.v 8 rfl (by kernel_rfl) (by kernel_rfl) (by kernel_rfl) (fun _ _ _ h => h) rfl rfl (Val.indexAddr rfl rfl Try.underlying26 Try.sizeOf28 (by omega) (by omega)) ?_)
    refine RW.v 9 rfl (by kernel_rfl) (by kernel_rfl) (by kernel_rfl) (fun _ _ _ h => h) rfl rfl (Val.loadOA rfl Try.isAgg28 hbb2 (by simp [ids]) (hr2 k _ hy) Try.sizeOf28) ?_
    refine RW.any [10, 11] (by kernel_rfl) (by simp) ?_
    intro i hi
    simp only [List.mem_cons, List.not_mem_nil, or_false] at hi
    rcases hi with rfl | rfl
    · refine RO.e rfl rfl rfl (Eff.allocA (by exact Try.zeroValue28)) (fun x => ⟨_, (by repeat (first | exact .nil | apply Pick.cons | exact .here | apply Ext.there))⟩) ?_
      intro b6 _
      refine RW.e 11 rfl (by kernel_rfl) rfl rfl (Eff.allocA (by exact Try.zeroValue28)) (fun x => ⟨_, (by repeat (first | exact .nil | apply Pick.cons | exact .here | apply Ext.there))⟩) ?_
      intro b7 _
      first | (refine RW.eN 12 rfl (by kernel_rfl) rfl (Eff.storeW rfl rfl (by repeat (first | exact .here | apply Upd.there)) (by rfl) Try.sizeOf28 (by rfl)) (fun x => ⟨_, (by repeat (first | exact .nil | apply Pick.cons | exact .here | apply Ext.there))⟩) ?_) | (refine RW.eN 12 rfl (by kernel_rfl) rfl (Eff.storeA (l' := _) rfl rfl (by repeat (first | exact .here | apply Upd.there)) (by rfl) (by decide) Try.sizeOf28 (by rfl)) (fun x => ⟨_, (by repeat (first | exact .nil | apply Pick.cons | exact .here | apply Ext.there))⟩) ?_)
      intro _ _
      first | (refine RW.eN 13 rfl (by kernel_rfl) rfl (Eff.storeW rfl rfl (by repeat (first | exact .here | apply Upd.there)) (by rfl) Try.sizeOf28 (by rfl)) (fun x => ⟨_, (by repeat (first | exact .nil | apply Pick.cons | exact .here | apply Ext.there))⟩) ?_) | (refine RW.eN 13 rfl (by kernel_rfl) rfl (Eff.storeA (l' := _) rfl rfl (by repeat (first | exact .here | apply Upd.there)) (by rfl) (by decide) Try.sizeOf28 (by rfl)) (fun x => ⟨_, (by repeat (first | exact .nil | apply Pick.cons | exact .here | apply Ext.there))⟩) ?_)
      intro _ _
      refine RW.done (by kernel_rfl) ?_
      refine PQ.seq ?_
      refine CW.seq ?_
      refine CW.region ?_
      refine LW.v rfl rfl (Val.fieldAddr 0 rfl Try.underlying28 rfl rfl Try.sizeOf3) ?_
      refine LW.v rfl rfl (Val.load rfl Try.isAgg3 (by repeat (first | exact .here | refine .there ?_)) (by rfl)) ?_
      refine LW.v rfl rfl (Val.fieldAddr 0 rfl Try.underlying28 rfl rfl Try.sizeOf3) ?_
      refine LW.v rfl rfl (Val.load rfl Try.isAgg3 (by repeat (first | exact .here | refine .there ?_)) (by rfl)) ?_
      refine LW.v rfl rfl (Val.cmp rfl rfl rfl) ?_
      refine LW.re 64 (.bool false) rfl (by simp [Cl.re]) ?_
      refine LW.v rfl rfl (Val.move rfl) ?_
      refine LW.v rfl rfl (Val.fieldAddr 1 rfl Try.underlying28 rfl rfl Try.sizeOf9) ?_
      refine LW.v rfl rfl (Val.load rfl Try.isAgg9 (by repeat (first | exact .here | refine .there ?_)) (by rfl)) ?_
      refine LW.v rfl rfl (Val.fieldAddr 1 rfl Try.underlying28 rfl rfl Try.sizeOf9) ?_
      refine LW.v rfl rfl (Val.load rfl Try.isAgg9 (by repeat (first | exact .here | refine .there ?_)) (by rfl)) ?_
      refine LW.v rfl rfl (Val.cmpS rfl rfl rfl) ?_
      refine LW.re 70 (.bool false) rfl (by simp [Cl.re]) ?_
      refine LW.v rfl rfl (Val.pick_f rfl rfl) ?_
      refine LW.v rfl rfl (Val.move rfl) ?_
      refine LW.v rfl rfl (Val.fieldAddr 2 rfl Try.underlying28 rfl rfl Try.sizeOf9) ?_
      refine LW.v rfl rfl (Val.load rfl Try.isAgg9 (by repeat (first | exact .here | refine .there ?_)) (by rfl)) ?_
      refine LW.v rfl rfl (Val.fieldAddr 2 rfl Try.underlying28 rfl rfl Try.sizeOf9) ?_
      refine LW.v rfl rfl (Val.load rfl Try.isAgg9 (by repeat (first | exact .here | refine .there ?_)) (by rfl)) ?_
      refine LW.v rfl rfl (Val.cmpS rfl rfl rfl) ?_
      refine LW.re 77 (.bool false) rfl (by simp [Cl.re]) ?_
      refine LW.v rfl rfl (Val.pick_f rfl rfl) ?_
      refine LW.v rfl rfl (Val.move rfl) ?_
      refine LW.v rfl rfl (Val.fieldAddr 3 rfl Try.underlying28 rfl rfl Try.sizeOf9) ?_
      refine LW.v rfl rfl (Val.load rfl Try.isAgg9 (by repeat (first | exact .here | refine .there ?_)) (by rfl)) ?_
      refine LW.v rfl rfl (Val.fieldAddr 3 rfl Try.underlying28 rfl rfl Try.sizeOf9) ?_
      refine LW.v rfl rfl (Val.load rfl Try.isAgg9 (by repeat (first | exact .here | refine .there ?_)) (by rfl)) ?_
      refine LW.v rfl rfl (Val.cmpS rfl rfl rfl) ?_
      refine LW.re 84 (.bool false) rfl (by simp [Cl.re]) ?_
      refine LW.v rfl rfl (Val.pick_f rfl rfl) ?_
      refine LW.v rfl rfl (Val.move rfl) ?_
      refine LW.v rfl rfl (Val.fieldAddr 4 rfl Try.underlying28 rfl rfl Try.sizeOf26) ?_
      refine LW.v rfl rfl (Val.load rfl Try.isAgg26 (by repeat (first | exact .here | refine .there ?_)) (by rfl)) ?_
      refine LW.v rfl rfl (Val.lenSl rfl Try.underlying26) ?_
      refine LW.v rfl rfl (Val.fieldAddr 4 rfl Try.underlying28 rfl rfl Try.sizeOf26) ?_
      refine LW.v rfl rfl (Val.load rfl Try.isAgg26 (by repeat (first | exact .here | refine .there ?_)) (by rfl)) ?_
      refine LW.v rfl rfl (Val.lenSl rfl Try.underlying26) ?_
      refine LW.v rfl rfl (Val.cmp rfl rfl rfl) ?_
      refine LW.re 93 (.bool false) rfl (by simp [Cl.re, hx0, hyn]) ?_
      refine LW.v rfl rfl (Val.pick_f rfl rfl) ?_
      refine LW.nil ?_
      refine PQ.seq ?_
      refine CW.cond_f rfl ?_
      refine CW.skip ?_
      refine PQ.in_normal ?_
      refine PQ.seq ?_
      refine CW.region ?_
      refine LW.v rfl rfl (Val.move rfl) ?_
      refine LW.v rfl rfl (Val.ar rfl rfl rfl (IntWalk.i64_in _ (by omega))) ?_
      refine LW.v rfl rfl (Val.assign rfl) ?_
      refine LW.nil ?_
      refine PQ.round (k + 1) (by omega) (by omega) (by repeat (first | exact trivial | refine ⟨rfl, ?_⟩)) (by repeat (first | exact .nil | apply Pick.cons | exact .here | apply Ext.there))
    · refine RO.e rfl rfl rfl (Eff.allocA (by exact Try.zeroValue28)) (fun x => ⟨_, (by repeat (first | exact .nil | apply Pick.cons | exact .here | apply Ext.there))⟩) ?_
      intro b7 _
      refine RW.e 10 rfl (by kernel_rfl) rfl rfl (Eff.allocA (by exact Try.zeroValue28)) (fun x => ⟨_, (by repeat (first | exact .nil | apply Pick.cons | exact .here | apply Ext.there))⟩) ?_
      intro b6 _
      first | (refine RW.eN 12 rfl (by kernel_rfl) rfl (Eff.storeW rfl rfl (by repeat (first | exact .here | apply Upd.there)) (by rfl) Try.sizeOf28 (by rfl)) (fun x => ⟨_, (by repeat (first | exact .nil | apply Pick.cons | exact .here | apply Ext.there))⟩) ?_) | (refine RW.eN 12 rfl (by kernel_rfl) rfl (Eff.storeA (l' := _) rfl rfl (by repeat (first | exact .here | apply Upd.there)) (by rfl) (by decide) Try.sizeOf28 (by rfl)) (fun x => ⟨_, (by repeat (first | exact .nil | apply Pick.cons | exact .here | apply Ext.there))⟩) ?_)
      intro _ _
      first | (refine RW.eN 13 rfl (by kernel_rfl) rfl (Eff.storeW rfl rfl (by repeat (first | exact .here | apply Upd.there)) (by rfl) Try.sizeOf28 (by rfl)) (fun x => ⟨_, (by repeat (first | exact .nil | apply Pick.cons | exact .here | apply Ext.there))⟩) ?_) | (refine RW.eN 13 rfl (by kernel_rfl) rfl (Eff.storeA (l' := _) rfl rfl (by repeat (first | exact .here | apply Upd.there)) (by rfl) (by decide) Try.sizeOf28 (by rfl)) (fun x => ⟨_, (by repeat (first | exact .nil | apply Pick.cons | exact .here | apply Ext.there))⟩) ?_)
      intro _ _
      refine RW.done (by kernel_rfl) ?_
      refine PQ.seq ?_
      refine CW.seq ?_
      refine CW.region ?_
      refine LW.v rfl rfl (Val.fieldAddr 0 rfl Try.underlying28 rfl rfl Try.sizeOf3) ?_
      refine LW.v rfl rfl (Val.load rfl Try.isAgg3 (by repeat (first | exact .here | refine .there ?_)) (by rfl)) ?_
      refine LW.v rfl rfl (Val.fieldAddr 0 rfl Try.underlying28 rfl rfl Try.sizeOf3) ?_
      refine LW.v rfl rfl (Val.load rfl Try.isAgg3 (by repeat (first | exact .here | refine .there ?_)) (by rfl)) ?_
      refine LW.v rfl rfl (Val.cmp rfl rfl rfl) ?_
      refine LW.re 64 (.bool false) rfl (by simp [Cl.re]) ?_
      refine LW.v rfl rfl (Val.move rfl) ?_
      refine LW.v rfl rfl (Val.fieldAddr 1 rfl Try.underlying28 rfl rfl Try.sizeOf9) ?_
      refine LW.v rfl rfl (Val.load rfl Try.isAgg9 (by repeat (first | exact .here | refine .there ?_)) (by rfl)) ?_
      refine LW.v rfl rfl (Val.fieldAddr 1 rfl Try.underlying28 rfl rfl Try.sizeOf9) ?_
      refine LW.v rfl rfl (Val.load rfl Try.isAgg9 (by repeat (first | exact .here | refine .there ?_)) (by rfl)) ?_
      refine LW.v rfl rfl (Val.cmpS rfl rfl rfl) ?_
      refine LW.re 70 (.bool false) rfl (by simp [Cl.re]) ?_
      refine LW.v rfl rfl (Val.pick_f rfl rfl) ?_
      refine LW.v rfl rfl (Val.move rfl) ?_
      refine LW.v rfl rfl (Val.fieldAddr 2 rfl Try.underlying28 rfl rfl Try.sizeOf9) ?_
      refine LW.v rfl rfl (Val.load rfl Try.isAgg9 (by repeat (first | exact .here | refine .there ?_)) (by rfl)) ?_
      refine LW.v rfl rfl (Val.fieldAddr 2 rfl Try.underlying28 rfl rfl Try.sizeOf9) ?_
      refine LW.v rfl rfl (Val.load rfl Try.isAgg9 (by repeat (first | exact .here | refine .there ?_)) (by rfl)) ?_
      refine LW.v rfl rfl (Val.cmpS rfl rfl rfl) ?_
      refine LW.re 77 (.bool false) rfl (by simp [Cl.re]) ?_
      refine LW.v rfl rfl (Val.pick_f rfl rfl) ?_
      refine LW.v rfl rfl (Val.move rfl) ?_
      refine LW.v rfl rfl (Val.fieldAddr 3 rfl Try.underlying28 rfl rfl Try.sizeOf9) ?_
      refine LW.v rfl rfl (Val.load rfl Try.isAgg9 (by repeat (first | exact .here | refine .there ?_)) (by rfl)) ?_
      refine LW.v rfl rfl (Val.fieldAddr 3 rfl Try.underlying28 rfl rfl Try.sizeOf9) ?_
      refine LW.v rfl rfl (Val.load rfl Try.isAgg9 (by repeat (first | exact .here | refine .there ?_)) (by rfl)) ?_
      refine LW.v rfl rfl (Val.cmpS rfl rfl rfl) ?_
      refine LW.re 84 (.bool false) rfl (by simp [Cl.re]) ?_
      refine LW.v rfl rfl (Val.pick_f rfl rfl) ?_
      refine LW.v rfl rfl (Val.move rfl) ?_
      refine LW.v rfl rfl (Val.fieldAddr 4 rfl Try.underlying28 rfl rfl Try.sizeOf26) ?_
      refine LW.v rfl rfl (Val.load rfl Try.isAgg26 (by repeat (first | exact .here | refine .there ?_)) (by rfl)) ?_
      refine LW.v rfl rfl (Val.lenSl rfl Try.underlying26) ?_
      refine LW.v rfl rfl (Val.fieldAddr 4 rfl Try.underlying28 rfl rfl Try.sizeOf26) ?_
      refine LW.v rfl rfl (Val.load rfl Try.isAgg26 (by repeat (first | exact .here | refine .there ?_)) (by rfl)) ?_
      refine LW.v rfl rfl (Val.lenSl rfl Try.underlying26) ?_
      refine LW.v rfl rfl (Val.cmp rfl rfl rfl) ?_
      refine LW.re 93 (.bool false) rfl (by simp [Cl.re, hx0, hyn]) ?_
      refine LW.v rfl rfl (Val.pick_f rfl rfl) ?_
      refine LW.nil ?_
      refine PQ.seq ?_
      refine CW.cond_f rfl ?_
      refine CW.skip ?_
      refine PQ.in_normal ?_
      refine PQ.seq ?_
      refine CW.region ?_
      refine LW.v rfl rfl (Val.move rfl) ?_
      refine LW.v rfl rfl (Val.ar rfl rfl rfl (IntWalk.i64_in _ (by omega))) ?_
      refine LW.v rfl rfl (Val.assign rfl) ?_
      refine LW.nil ?_
      refine PQ.round (k + 1) (by omega) (by omega) (by repeat (first | exact trivial | refine ⟨rfl, ?_⟩)) (by repeat (first | exact .nil | apply Pick.cons | exact .here | apply Ext.there))
  · replace h47 := bF h47
    refine CW.exit ?_
    refine PQ.then_exit ?_
    refine PQ.then_exit ?_
    refine PQ.in_here ?_
    refine PQ.seq ?_
    refine CW.seq ?_
    refine CW.region ?_
    refine LW.v rfl rfl (Val.assign rfl) ?_
    refine LW.nil ?_
    refine PQ.seq ?_
    refine CW.ret ?_
    refine PQ.ret1 rfl rfl ?_
    intro w' hw; exact ⟨rfl, hw.below⟩
theorem sameAns_c (s : Sto) (p1 q1 p2 q2 : Sl) (pl : List Pr) (hl : List Bool) (hp1 : p1.n = pl.length) (hp2 : p2.n = pl.length) (hq1 : q1.n = hl.length) (hq2 : q2.n = hl.length) (hm : pl.length ≤ 100000 ∧ hl.length ≤ 100000) (w : World) (a1 : V.slAt w p1.a 2 Pr.cells pl) (a2 : V.slAt w p2.a 2 Pr.cells pl) (b1 : V.slAt w q1.a 1 boolC hl) (b2' : V.slAt w q2.a 1 boolC hl) :
    Calls Try.prog 55 [.agg (ansC (s.reA p1 q1)).toArray, .agg (ansC (s.reA p2 q2)).toArray].toArray w fun e w' => e = .returned (.bool true) ∧ Below w.heap.size w w' := by
  refine V.calls [] Try.func55 rfl Try.ntmps55 (Nat.le_of_ble_eq_true rfl) (V.sat_nil _) ?_
  refine CW.seq ?_
  refine CW.region ?_
  refine LW.e rfl rfl (Eff.boxA rfl) ?_
  intro b2 _
  refine LW.e rfl rfl (Eff.boxA rfl) ?_
  intro b3 _
  refine LW.v rfl rfl (Val.assign rfl) ?_
  refine LW.nil ?_
  refine PQ.seq ?_
  refine CW.seq ?_
  refine CW.region ?_
  refine LW.v rfl rfl (Val.fieldAddr 0 rfl Try.underlying34 rfl rfl Try.sizeOf29) ?_
  refine LW.v rfl rfl (Val.load rfl Try.isAgg29 (by repeat (first | exact .here | refine .there ?_)) (by rfl)) ?_
  refine LW.v rfl rfl (Val.fieldAddr 0 rfl Try.underlying34 rfl rfl Try.sizeOf29) ?_
  refine LW.v rfl rfl (Val.load rfl Try.isAgg29 (by repeat (first | exact .here | refine .there ?_)) (by rfl)) ?_
  refine LW.v rfl rfl (Val.cmp rfl rfl rfl) ?_
  refine LW.re 9 (.bool true) rfl (by simp [Sto.reA]) ?_
  refine LW.v rfl rfl (Val.move rfl) ?_
  refine LW.v rfl rfl (Val.fieldAddr 1 rfl Try.underlying34 rfl rfl Try.sizeOf4) ?_
  refine LW.v rfl rfl (Val.load rfl Try.isAgg4 (by repeat (first | exact .here | refine .there ?_)) (by rfl)) ?_
  refine LW.v rfl rfl (Val.fieldAddr 1 rfl Try.underlying34 rfl rfl Try.sizeOf4) ?_
  refine LW.v rfl rfl (Val.load rfl Try.isAgg4 (by repeat (first | exact .here | refine .there ?_)) (by rfl)) ?_
  refine LW.v rfl rfl (Val.eqB rfl rfl Try.underlying4) ?_
  refine LW.re 15 (.bool true) rfl (by simp [Sto.reA]) ?_
  refine LW.v rfl rfl (Val.pick_t rfl rfl) ?_
  refine LW.v rfl rfl (Val.move rfl) ?_
  refine LW.v rfl rfl (Val.fieldAddr 2 rfl Try.underlying34 rfl rfl Try.sizeOf9) ?_
  refine LW.v rfl rfl (Val.load rfl Try.isAgg9 (by repeat (first | exact .here | refine .there ?_)) (by rfl)) ?_
  refine LW.v rfl rfl (Val.fieldAddr 2 rfl Try.underlying34 rfl rfl Try.sizeOf9) ?_
  refine LW.v rfl rfl (Val.load rfl Try.isAgg9 (by repeat (first | exact .here | refine .there ?_)) (by rfl)) ?_
  refine LW.v rfl rfl (Val.cmpS rfl rfl rfl) ?_
  refine LW.re 22 (.bool true) rfl (by simp [Sto.reA]) ?_
  refine LW.v rfl rfl (Val.pick_t rfl rfl) ?_
  refine LW.v rfl rfl (Val.move rfl) ?_
  refine LW.v rfl rfl (Val.fieldAddr 5 rfl Try.underlying34 rfl rfl Try.sizeOf32) ?_
  refine LW.v rfl rfl (Val.load rfl Try.isAgg32 (by repeat (first | exact .here | refine .there ?_)) (by rfl)) ?_
  refine LW.v rfl rfl (Val.fieldAddr 5 rfl Try.underlying34 rfl rfl Try.sizeOf32) ?_
  refine LW.v rfl rfl (Val.load rfl Try.isAgg32 (by repeat (first | exact .here | refine .there ?_)) (by rfl)) ?_
  refine LW.v rfl rfl (Val.cmp rfl rfl rfl) ?_
  refine LW.re 29 (.bool true) rfl (by simp [Sto.reA]) ?_
  refine LW.v rfl rfl (Val.pick_t rfl rfl) ?_
  refine LW.v rfl rfl (Val.move rfl) ?_
  refine LW.v rfl rfl (Val.fieldAddr 3 rfl Try.underlying34 rfl rfl Try.sizeOf30) ?_
  refine LW.v rfl rfl (Val.load rfl Try.isAgg30 (by repeat (first | exact .here | refine .there ?_)) (by rfl)) ?_
  refine LW.v rfl rfl (Val.fieldAddr 3 rfl Try.underlying34 rfl rfl Try.sizeOf30) ?_
  refine LW.v rfl rfl (Val.load rfl Try.isAgg30 (by repeat (first | exact .here | refine .there ?_)) (by rfl)) ?_
  refine LW.e rfl rfl (Eff.callV rfl Try.call72 (fun w hw => sameP_c pl p1.a p2.a p1.n p2.n p1.c p2.c hp1 hp2 (by omega) w (hw.slAt a1 (by simp [ids])) (hw.slAt a2 (by simp [ids])))) ?_
  intro _ _
  refine LW.v rfl rfl (Val.pick_t rfl rfl) ?_
  refine LW.v rfl rfl (Val.move rfl) ?_
  refine LW.v rfl rfl (Val.fieldAddr 4 rfl Try.underlying34 rfl rfl Try.sizeOf31) ?_
  refine LW.v rfl rfl (Val.load rfl Try.isAgg31 (by repeat (first | exact .here | refine .there ?_)) (by rfl)) ?_
  refine LW.v rfl rfl (Val.fieldAddr 4 rfl Try.underlying34 rfl rfl Try.sizeOf31) ?_
  refine LW.v rfl rfl (Val.load rfl Try.isAgg31 (by repeat (first | exact .here | refine .there ?_)) (by rfl)) ?_
  refine LW.e rfl rfl (Eff.callV rfl Try.call73 (fun w hw => sameB_c hl q1.a q2.a q1.n q2.n q1.c q2.c hq1 hq2 (by omega) w (hw.slAt b1 (by simp [ids])) (hw.slAt b2' (by simp [ids])))) ?_
  intro _ _
  refine LW.v rfl rfl (Val.pick_t rfl rfl) ?_
  refine LW.v rfl rfl (Val.assign rfl) ?_
  refine LW.nil ?_
  refine PQ.seq ?_
  refine CW.ret ?_
  refine PQ.ret1 rfl rfl ?_
  intro w' hw; exact ⟨rfl, hw.below⟩
/-- Two stories that are told alike. -/
def Cm (w : World) (s1 s2 : Sto) : Prop := s1.scal = s2.scal ∧ ∃ l1 l2 pl hl, RdS w s1 l1 pl hl ∧ RdS w s2 l2 pl hl ∧ l1.map clK = l2.map clK ∧ (∀ x ∈ l1, x.grp.n = 0) ∧ (∀ x ∈ l2, x.grp.n = 0) ∧ l2.length ≤ 600 ∧ pl.length ≤ 60 ∧ hl.length ≤ 60
theorem scal_re {s1 s2 : Sto} (h : s1.scal = s2.scal) : s1 = (s2.reC s1.call.grp).reA s1.prs s1.hts := by
  obtain ⟨a, ⟨b, c, d, e, f⟩, g, i, j, k, l, m, n, o⟩ := s1
  obtain ⟨a', ⟨b', c', d', e', f'⟩, g', i', j', k', l', m', n', o'⟩ := s2
  simp only [Sto.scal, Prod.mk.injEq] at h
  obtain ⟨rfl, rfl, rfl, rfl, rfl, rfl, rfl, rfl, rfl, rfl, rfl⟩ := h
  rfl
theorem sameS_c (L1 L2 : List Sto) (p1 p2 : Option Addr) (n c1 c2 : Nat) (hn1 : L1.length = n) (hn2 : L2.length = n) (hl : n ≤ 100000) (w : World) (h1 : V.slAt w p1 14 Sto.cells L1) (h2 : V.slAt w p2 14 Sto.cells L2) (hc : ∀ (i : Nat) (s1 s2 : Sto), L1[i]? = some s1 → L2[i]? = some s2 → Cm w s1 s2) :
    Calls Try.prog 24 [.slice p1 n c1, .slice p2 n c2].toArray w fun e w' => e = .returned (.bool true) ∧ Below w.heap.size w w' := by
  refine V.calls [] Try.func24 rfl Try.ntmps24 (Nat.le_of_ble_eq_true rfl) (V.sat_nil _) ?_
  refine CW.seq ?_
  refine CW.region ?_
  refine LW.v rfl rfl (Val.assign rfl) ?_
  refine LW.nil ?_
  refine PQ.seq ?_
  refine CW.seq ?_
  refine CW.seq ?_
  refine CW.region ?_
  refine LW.v rfl rfl (Val.move rfl) ?_
  refine LW.v rfl rfl (Val.lenSl rfl Try.underlying22) ?_
  refine LW.v rfl rfl (Val.move rfl) ?_
  refine LW.v rfl rfl (Val.lenSl rfl Try.underlying22) ?_
  refine LW.v rfl rfl (Val.cmp rfl rfl rfl) ?_
  refine LW.re 12 (.bool false) rfl (by simp [Sto.reA, Sto.reC]) ?_
  refine LW.nil ?_
  refine PQ.seq ?_
  refine CW.cond_f rfl ?_
  refine CW.skip ?_
  refine PQ.seq ?_
  refine CW.seq ?_
  refine CW.seq ?_
  refine CW.region ?_
  refine LW.v rfl rfl (Val.assign rfl) ?_
  refine LW.nil ?_
  refine PQ.seq ?_
  refine CW.block ?_
  refine CW.loop (γ := Nat) (fun k => [(0, .slice p1 n c1), (1, .slice p2 n c2), (5, .int .i64 (k : Nat))]) (fun _ => []) (fun k => k ≤ n) (fun k => n - k) (0) (Nat.zero_le _) (by repeat (first | exact trivial | refine ⟨rfl, ?_⟩)) (by repeat (first | exact .nil | apply Pick.cons | exact .here | apply Ext.there)) ?_
  intro k
  intro hJ
  refine CW.seq ?_
  refine CW.seq ?_
  refine CW.region ?_
  refine LW.v rfl rfl (Val.move rfl) ?_
  refine LW.v rfl rfl (Val.move rfl) ?_
  refine LW.v rfl rfl (Val.lenSl rfl Try.underlying22) ?_
  refine LW.v rfl rfl (Val.cmp rfl rfl rfl) ?_
  refine LW.nil ?_
  refine PQ.seq ?_
  refine CW.cond rfl (fun h16 => ?_) (fun h16 => ?_)
  · replace h16 := bT h16
    obtain ⟨b1, o1, s', rfl, hb1, hx, hr1⟩ := V.slAt_at h1 hn1 (k := k) (by omega)
    obtain ⟨b2, o2, s, rfl, hb2, hy, hr2⟩ := V.slAt_at h2 hn2 (k := k) (by omega)
    obtain ⟨hsc, l1, l2, pl, hl, ⟨u1, u2, u3, u4, u5, u6⟩, ⟨v1, v2, v3, v4, v5, v6⟩, e1, z1, z2, m1, m2, m3⟩ := hc k s' s hx hy
    have hs' := scal_re hsc
    obtain ⟨g1, hg1⟩ : ∃ g, g = s'.call.grp := ⟨_, rfl⟩
    obtain ⟨p, hp⟩ : ∃ g, g = s'.prs := ⟨_, rfl⟩
    obtain ⟨q, hq⟩ : ∃ g, g = s'.hts := ⟨_, rfl⟩
    rw [← hg1, ← hp, ← hq] at hs'
    rw [← hg1] at u1 u2
    rw [← hp] at u3 u4
    rw [← hq] at u5 u6
    rw [hs'] at hx
    refine CW.skip ?_
    refine PQ.seq ?_
    refine CW.seq ?_
    refine CW.block ?_
    refine CW.seq ?_
    refine CW.drawn ([]) mixed (by repeat (first | exact .nil | apply Pick.cons | exact .here | apply Ext.there)) ?_
    refine RW.v 0 rfl (by kernel_rfl) (by kernel_rfl) (by kernel_rfl) (fun _ _ _ h => h) rfl rfl (Val.move rfl) ?_
    refine RW.v 1 rfl (by kernel_rfl) (by kernel_rfl) (by kernel_rfl) (fun _ _ _ h => h) rfl rfl (Val.move rfl) ?_
    first | (refine RW.v 2 rfl (by kernel_rfl) (by kernel_rfl) (by kernel_rfl) (fun _ _ _ h => h) rfl rfl (Val.indexAddrN rfl rfl Try.underlying22 Try.sizeOf36 (by omega)) ?_) | (refine RW.v 2 rfl (by kernel_rfl) (by kernel_rfl) (by kernel_rfl) (fun _ _ _ h => h) rfl rfl (Val.indexAddr rfl rfl Try.underlying22 Try.sizeOf36 (by omega) (by omega)) ?_)
    refine RW.v 3 rfl (by kernel_rfl) (by kernel_rfl) (by kernel_rfl) (fun _ _ _ h => h) rfl rfl (Val.loadOA rfl Try.isAgg36 hb1 (by simp [ids]) (hr1 k _ hx) Try.sizeOf36) ?_
    refine RW.v 4 rfl (by kernel_rfl) (by kernel_rfl) (by kernel_rfl) (fun _ _ _ h => h) rfl rfl (Val.move rfl) ?_
    refine RW.v 5 rfl (by kernel_rfl) (by kernel_rfl) (by kernel_rfl) (fun _ _ _ h => h) rfl rfl (Val.move rfl) ?_
    first | (refine RW.v 6 rfl (by kernel_rfl) (by kernel_rfl) (by kernel_rfl) (fun _ _ _ h => h) rfl rfl (Val.indexAddrN rfl rfl Try.underlying22 Try.sizeOf36 (by omega)) ?_) | (refine RW.v 6 rfl (by kernel_rfl) (by kernel_rfl) (by kernel_rfl) (fun _ _ _ h => h) rfl rfl (Val.indexAddr rfl rfl Try.underlying22 Try.sizeOf36 (by omega) (by omega)) ?_)
    refine RW.v 7 rfl (by kernel_rfl) (by kernel_rfl) (by kernel_rfl) (fun _ _ _ h => h) rfl rfl (Val.loadOA rfl Try.isAgg36 hb2 (by simp [ids]) (hr2 k s hy) Try.sizeOf36) ?_
    refine RW.any [8, 9] (by kernel_rfl) (by simp) ?_
    intro i hi
    simp only [List.mem_cons, List.not_mem_nil, or_false] at hi
    rcases hi with rfl | rfl
    · refine RO.e rfl rfl rfl (Eff.allocA (by exact Try.zeroValue36)) (fun x => ⟨_, (by repeat (first | exact .nil | apply Pick.cons | exact .here | apply Ext.there))⟩) ?_
      intro b6 _
      refine RW.e 9 rfl (by kernel_rfl) rfl rfl (Eff.allocA (by exact Try.zeroValue36)) (fun x => ⟨_, (by repeat (first | exact .nil | apply Pick.cons | exact .here | apply Ext.there))⟩) ?_
      intro b7 _
      first | (refine RW.eN 10 rfl (by kernel_rfl) rfl (Eff.storeW rfl rfl (by repeat (first | exact .here | apply Upd.there)) (by rfl) Try.sizeOf36 (by rfl)) (fun x => ⟨_, (by repeat (first | exact .nil | apply Pick.cons | exact .here | apply Ext.there))⟩) ?_) | (refine RW.eN 10 rfl (by kernel_rfl) rfl (Eff.storeA (l' := _) rfl rfl (by repeat (first | exact .here | apply Upd.there)) (by rfl) (by decide) Try.sizeOf36 (by rfl)) (fun x => ⟨_, (by repeat (first | exact .nil | apply Pick.cons | exact .here | apply Ext.there))⟩) ?_)
      intro _ _
      first | (refine RW.eN 11 rfl (by kernel_rfl) rfl (Eff.storeW rfl rfl (by repeat (first | exact .here | apply Upd.there)) (by rfl) Try.sizeOf36 (by rfl)) (fun x => ⟨_, (by repeat (first | exact .nil | apply Pick.cons | exact .here | apply Ext.there))⟩) ?_) | (refine RW.eN 11 rfl (by kernel_rfl) rfl (Eff.storeA (l' := _) rfl rfl (by repeat (first | exact .here | apply Upd.there)) (by rfl) (by decide) Try.sizeOf36 (by rfl)) (fun x => ⟨_, (by repeat (first | exact .nil | apply Pick.cons | exact .here | apply Ext.there))⟩) ?_)
      intro _ _
      refine RW.done (by kernel_rfl) ?_
      refine PQ.seq ?_
      refine CW.seq ?_
      refine CW.region ?_
      refine LW.v rfl rfl (Val.fieldAddr 0 rfl Try.underlying36 rfl rfl Try.sizeOf3) ?_
      refine LW.v rfl rfl (Val.load rfl Try.isAgg3 (by repeat (first | exact .here | refine .there ?_)) (by rfl)) ?_
      refine LW.v rfl rfl (Val.fieldAddr 0 rfl Try.underlying36 rfl rfl Try.sizeOf3) ?_
      refine LW.v rfl rfl (Val.load rfl Try.isAgg3 (by repeat (first | exact .here | refine .there ?_)) (by rfl)) ?_
      refine LW.v rfl rfl (Val.cmp rfl rfl rfl) ?_
      refine LW.re 31 (.bool false) rfl (by simp [Sto.reA, Sto.reC]) ?_
      refine LW.v rfl rfl (Val.move rfl) ?_
      refine LW.v rfl rfl (Val.fieldAddr 12 rfl Try.underlying36 rfl rfl Try.sizeOf3) ?_
      refine LW.v rfl rfl (Val.load rfl Try.isAgg3 (by repeat (first | exact .here | refine .there ?_)) (by rfl)) ?_
      refine LW.v rfl rfl (Val.fieldAddr 12 rfl Try.underlying36 rfl rfl Try.sizeOf3) ?_
      refine LW.v rfl rfl (Val.load rfl Try.isAgg3 (by repeat (first | exact .here | refine .there ?_)) (by rfl)) ?_
      refine LW.v rfl rfl (Val.cmp rfl rfl rfl) ?_
      refine LW.re 37 (.bool false) rfl (by simp [Sto.reA, Sto.reC]) ?_
      refine LW.v rfl rfl (Val.pick_f rfl rfl) ?_
      refine LW.v rfl rfl (Val.move rfl) ?_
      refine LW.v rfl rfl (Val.fieldAddr 13 rfl Try.underlying36 rfl rfl Try.sizeOf3) ?_
      refine LW.v rfl rfl (Val.load rfl Try.isAgg3 (by repeat (first | exact .here | refine .there ?_)) (by rfl)) ?_
      refine LW.v rfl rfl (Val.fieldAddr 13 rfl Try.underlying36 rfl rfl Try.sizeOf3) ?_
      refine LW.v rfl rfl (Val.load rfl Try.isAgg3 (by repeat (first | exact .here | refine .there ?_)) (by rfl)) ?_
      refine LW.v rfl rfl (Val.cmp rfl rfl rfl) ?_
      refine LW.re 44 (.bool false) rfl (by simp [Sto.reA, Sto.reC]) ?_
      refine LW.v rfl rfl (Val.pick_f rfl rfl) ?_
      refine LW.v rfl rfl (Val.move rfl) ?_
      refine LW.v rfl rfl (Val.fieldAddr 1 rfl Try.underlying36 rfl rfl Try.sizeOf28) ?_
      refine LW.v rfl rfl (Val.loadA (s.call.re g1).cells (r := ((s.reC g1).reA p q).cells.drop 6) rfl Try.isAgg28 (by repeat (first | exact .here | refine .there ?_)) (by rfl) Try.sizeOf28) ?_
      refine LW.v rfl rfl (Val.fieldAddr 1 rfl Try.underlying36 rfl rfl Try.sizeOf28) ?_
      refine LW.v rfl rfl (Val.loadA (s.call.re s.call.grp).cells (r := s.cells.drop 6) rfl Try.isAgg28 (by repeat (first | exact .here | refine .there ?_)) (by rfl) Try.sizeOf28) ?_
      refine LW.e rfl rfl (Eff.callV rfl Try.call54 (fun w hw => sameCall_c s.call g1 s.call.grp l1 l2 u1 v1 e1 z1 z2 (by omega) w (hw.slAt u2 (by simp [ids])) (hw.slAt v2 (by simp [ids])))) ?_
      intro _ _
      refine LW.v rfl rfl (Val.not rfl) ?_
      refine LW.re 52 (.bool false) rfl (by rfl) ?_
      refine LW.v rfl rfl (Val.pick_f rfl rfl) ?_
      refine LW.v rfl rfl (Val.move rfl) ?_
      refine LW.v rfl rfl (Val.fieldAddr 6 rfl Try.underlying36 rfl rfl Try.sizeOf34) ?_
      refine LW.v rfl rfl (Val.loadA (ansC (s.reA p q)) (r := ((s.reC g1).reA p q).cells.drop 12) rfl Try.isAgg34 (by repeat (first | exact .here | refine .there ?_)) (by rfl) Try.sizeOf34) ?_
      refine LW.v rfl rfl (Val.fieldAddr 6 rfl Try.underlying36 rfl rfl Try.sizeOf34) ?_
      refine LW.v rfl rfl (Val.loadA (ansC (s.reA s.prs s.hts)) (r := s.cells.drop 12) rfl Try.isAgg34 (by repeat (first | exact .here | refine .there ?_)) (by rfl) Try.sizeOf34) ?_
      refine LW.e rfl rfl (Eff.callV rfl Try.call55 (fun w hw => sameAns_c s p q s.prs s.hts pl hl u3 v3 u5 v5 (by omega) w (hw.slAt u4 (by simp [ids])) (hw.slAt v4 (by simp [ids])) (hw.slAt u6 (by simp [ids])) (hw.slAt v6 (by simp [ids])))) ?_
      intro _ _
      refine LW.v rfl rfl (Val.not rfl) ?_
      refine LW.re 60 (.bool false) rfl (by rfl) ?_
      refine LW.v rfl rfl (Val.pick_f rfl rfl) ?_
      refine LW.nil ?_
      refine PQ.seq ?_
      refine CW.cond_f rfl ?_
      refine CW.skip ?_
      refine PQ.in_normal ?_
      refine PQ.seq ?_
      refine CW.region ?_
      refine LW.v rfl rfl (Val.move rfl) ?_
      refine LW.v rfl rfl (Val.ar rfl rfl rfl (IntWalk.i64_in _ (by omega))) ?_
      refine LW.v rfl rfl (Val.assign rfl) ?_
      refine LW.nil ?_
      refine PQ.round (k + 1) (by omega) (by omega) (by repeat (first | exact trivial | refine ⟨rfl, ?_⟩)) (by repeat (first | exact .nil | apply Pick.cons | exact .here | apply Ext.there))
    · refine RO.e rfl rfl rfl (Eff.allocA (by exact Try.zeroValue36)) (fun x => ⟨_, (by repeat (first | exact .nil | apply Pick.cons | exact .here | apply Ext.there))⟩) ?_
      intro b7 _
      refine RW.e 8 rfl (by kernel_rfl) rfl rfl (Eff.allocA (by exact Try.zeroValue36)) (fun x => ⟨_, (by repeat (first | exact .nil | apply Pick.cons | exact .here | apply Ext.there))⟩) ?_
      intro b6 _
      first | (refine RW.eN 10 rfl (by kernel_rfl) rfl (Eff.storeW rfl rfl (by repeat (first | exact .here | apply Upd.there)) (by rfl) Try.sizeOf36 (by rfl)) (fun x => ⟨_, (by repeat (first | exact .nil | apply Pick.cons | exact .here | apply Ext.there))⟩) ?_) | (refine RW.eN 10 rfl (by kernel_rfl) rfl (Eff.storeA (l' := _) rfl rfl (by repeat (first | exact .here | apply Upd.there)) (by rfl) (by decide) Try.sizeOf36 (by rfl)) (fun x => ⟨_, (by repeat (first | exact .nil | apply Pick.cons | exact .here | apply Ext.there))⟩) ?_)
      intro _ _
      first | (refine RW.eN 11 rfl (by kernel_rfl) rfl (Eff.storeW rfl rfl (by repeat (first | exact .here | apply Upd.there)) (by rfl) Try.sizeOf36 (by rfl)) (fun x => ⟨_, (by repeat (first | exact .nil | apply Pick.cons | exact .here | apply Ext.there))⟩) ?_) | (refine RW.eN 11 rfl (by kernel_rfl) rfl (Eff.storeA (l' := _) rfl rfl (by repeat (first | exact .here | apply Upd.there)) (by rfl) (by decide) Try.sizeOf36 (by rfl)) (fun x => ⟨_, (by repeat (first | exact .nil | apply Pick.cons | exact .here | apply Ext.there))⟩) ?_)
      intro _ _
      refine RW.done (by kernel_rfl) ?_
      refine PQ.seq ?_
      refine CW.seq ?_
      refine CW.region ?_
      refine LW.v rfl rfl (Val.fieldAddr 0 rfl Try.underlying36 rfl rfl Try.sizeOf3) ?_
      refine LW.v rfl rfl (Val.load rfl Try.isAgg3 (by repeat (first | exact .here | refine .there ?_)) (by rfl)) ?_
      refine LW.v rfl rfl (Val.fieldAddr 0 rfl Try.underlying36 rfl rfl Try.sizeOf3) ?_
      refine LW.v rfl rfl (Val.load rfl Try.isAgg3 (by repeat (first | exact .here | refine .there ?_)) (by rfl)) ?_
      refine LW.v rfl rfl (Val.cmp rfl rfl rfl) ?_
      refine LW.re 31 (.bool false) rfl (by simp [Sto.reA, Sto.reC]) ?_
      refine LW.v rfl rfl (Val.move rfl) ?_
      refine LW.v rfl rfl (Val.fieldAddr 12 rfl Try.underlying36 rfl rfl Try.sizeOf3) ?_
      refine LW.v rfl rfl (Val.load rfl Try.isAgg3 (by repeat (first | exact .here | refine .there ?_)) (by rfl)) ?_
      refine LW.v rfl rfl (Val.fieldAddr 12 rfl Try.underlying36 rfl rfl Try.sizeOf3) ?_
      refine LW.v rfl rfl (Val.load rfl Try.isAgg3 (by repeat (first | exact .here | refine .there ?_)) (by rfl)) ?_
      refine LW.v rfl rfl (Val.cmp rfl rfl rfl) ?_
      refine LW.re 37 (.bool false) rfl (by simp [Sto.reA, Sto.reC]) ?_
      refine LW.v rfl rfl (Val.pick_f rfl rfl) ?_
      refine LW.v rfl rfl (Val.move rfl) ?_
      refine LW.v rfl rfl (Val.fieldAddr 13 rfl Try.underlying36 rfl rfl Try.sizeOf3) ?_
      refine LW.v rfl rfl (Val.load rfl Try.isAgg3 (by repeat (first | exact .here | refine .there ?_)) (by rfl)) ?_
      refine LW.v rfl rfl (Val.fieldAddr 13 rfl Try.underlying36 rfl rfl Try.sizeOf3) ?_
      refine LW.v rfl rfl (Val.load rfl Try.isAgg3 (by repeat (first | exact .here | refine .there ?_)) (by rfl)) ?_
      refine LW.v rfl rfl (Val.cmp rfl rfl rfl) ?_
      refine LW.re 44 (.bool false) rfl (by simp [Sto.reA, Sto.reC]) ?_
      refine LW.v rfl rfl (Val.pick_f rfl rfl) ?_
      refine LW.v rfl rfl (Val.move rfl) ?_
      refine LW.v rfl rfl (Val.fieldAddr 1 rfl Try.underlying36 rfl rfl Try.sizeOf28) ?_
      refine LW.v rfl rfl (Val.loadA (s.call.re g1).cells (r := ((s.reC g1).reA p q).cells.drop 6) rfl Try.isAgg28 (by repeat (first | exact .here | refine .there ?_)) (by rfl) Try.sizeOf28) ?_
      refine LW.v rfl rfl (Val.fieldAddr 1 rfl Try.underlying36 rfl rfl Try.sizeOf28) ?_
      refine LW.v rfl rfl (Val.loadA (s.call.re s.call.grp).cells (r := s.cells.drop 6) rfl Try.isAgg28 (by repeat (first | exact .here | refine .there ?_)) (by rfl) Try.sizeOf28) ?_
      refine LW.e rfl rfl (Eff.callV rfl Try.call54 (fun w hw => sameCall_c s.call g1 s.call.grp l1 l2 u1 v1 e1 z1 z2 (by omega) w (hw.slAt u2 (by simp [ids])) (hw.slAt v2 (by simp [ids])))) ?_
      intro _ _
      refine LW.v rfl rfl (Val.not rfl) ?_
      refine LW.re 52 (.bool false) rfl (by rfl) ?_
      refine LW.v rfl rfl (Val.pick_f rfl rfl) ?_
      refine LW.v rfl rfl (Val.move rfl) ?_
      refine LW.v rfl rfl (Val.fieldAddr 6 rfl Try.underlying36 rfl rfl Try.sizeOf34) ?_
      refine LW.v rfl rfl (Val.loadA (ansC (s.reA p q)) (r := ((s.reC g1).reA p q).cells.drop 12) rfl Try.isAgg34 (by repeat (first | exact .here | refine .there ?_)) (by rfl) Try.sizeOf34) ?_
      refine LW.v rfl rfl (Val.fieldAddr 6 rfl Try.underlying36 rfl rfl Try.sizeOf34) ?_
      refine LW.v rfl rfl (Val.loadA (ansC (s.reA s.prs s.hts)) (r := s.cells.drop 12) rfl Try.isAgg34 (by repeat (first | exact .here | refine .there ?_)) (by rfl) Try.sizeOf34) ?_
      refine LW.e rfl rfl (Eff.callV rfl Try.call55 (fun w hw => sameAns_c s p q s.prs s.hts pl hl u3 v3 u5 v5 (by omega) w (hw.slAt u4 (by simp [ids])) (hw.slAt v4 (by simp [ids])) (hw.slAt u6 (by simp [ids])) (hw.slAt v6 (by simp [ids])))) ?_
      intro _ _
      refine LW.v rfl rfl (Val.not rfl) ?_
      refine LW.re 60 (.bool false) rfl (by rfl) ?_
      refine LW.v rfl rfl (Val.pick_f rfl rfl) ?_
      refine LW.nil ?_
      refine PQ.seq ?_
      refine CW.cond_f rfl ?_
      refine CW.skip ?_
      refine PQ.in_normal ?_
      refine PQ.seq ?_
      refine CW.region ?_
      refine LW.v rfl rfl (Val.move rfl) ?_
      refine LW.v rfl rfl (Val.ar rfl rfl rfl (IntWalk.i64_in _ (by omega))) ?_
      refine LW.v rfl rfl (Val.assign rfl) ?_
      refine LW.nil ?_
      refine PQ.round (k + 1) (by omega) (by omega) (by repeat (first | exact trivial | refine ⟨rfl, ?_⟩)) (by repeat (first | exact .nil | apply Pick.cons | exact .here | apply Ext.there))
  · replace h16 := bF h16
    refine CW.exit ?_
    refine PQ.then_exit ?_
    refine PQ.then_exit ?_
    refine PQ.in_here ?_
    refine PQ.seq ?_
    refine CW.seq ?_
    refine CW.region ?_
    refine LW.v rfl rfl (Val.assign rfl) ?_
    refine LW.nil ?_
    refine PQ.seq ?_
    refine CW.ret ?_
    refine PQ.ret1 rfl rfl ?_
    intro w' hw; exact ⟨rfl, hw.below⟩
theorem overS_c (y : V.OwnO) (m : Nat) (xs : List Value) (hk : V.ownOk 14 m xs y) (hl : m ≤ 1000) (w : World) (hs : Sat (V.ownS 36 xs y) w) : Calls Try.prog 29 [V.ownV m y].toArray w fun e w' => ∃ _u : Unit, True ∧ e = .returned (.tuple #[]) ∧ Hp ⟨w, ids (V.ownS 36 xs y)⟩ [] w' := by
  rcases y with _ | ⟨g, rest, cap⟩
  · obtain ⟨hx, h0⟩ := hk
    simp only at h0
    subst h0
    obtain rfl : xs = [] := List.length_eq_zero_iff.1 (by omega)
    refine V.calls [] Try.func29 rfl Try.ntmps29 (Nat.le_of_ble_eq_true rfl) (V.sat_nil _) ?_
    refine CW.seq ?_
    refine CW.seq ?_
    refine CW.region ?_
    refine LW.v rfl rfl (Val.assign rfl) ?_
    refine LW.nil ?_
    refine PQ.seq ?_
    refine CW.block ?_
    refine CW.loop (γ := Nat) (fun k => [(0, .slice none 0 0), (2, .int .i64 (k : Nat))]) (fun _ => []) (fun k => k = 0) (fun k => 0) (0) rfl (by repeat (first | exact trivial | refine ⟨rfl, ?_⟩)) (by repeat (first | exact .nil | apply Pick.cons | exact .here | apply Ext.there)) ?_
    intro k
    intro hJ
    refine CW.seq ?_
    refine CW.seq ?_
    refine CW.region ?_
    refine LW.v rfl rfl (Val.move rfl) ?_
    refine LW.v rfl rfl (Val.move rfl) ?_
    refine LW.v rfl rfl (Val.lenSl rfl Try.underlying22) ?_
    refine LW.v rfl rfl (Val.cmp rfl rfl rfl) ?_
    refine LW.nil ?_
    refine PQ.seq ?_
    refine CW.cond rfl (fun h6 => ?_) (fun h6 => ?_)
    · exact absurd (bT h6) (by omega)
    · replace h6 := bF h6
      refine CW.exit ?_
      refine PQ.then_exit ?_
      refine PQ.then_exit ?_
      refine PQ.in_here ?_
      refine PQ.seq ?_
      refine CW.region ?_
      refine LW.v rfl rfl (Val.move rfl) ?_
      refine LW.v rfl rfl (Val.build [_, _, _, _, _, _, _, _, _, _, _, _, _, _] Try.zeroValue36 Try.underlying36 places36 rfl (by rfl)) ?_
      refine LW.e rfl rfl (Eff.buildSlice (rfl) [_, _, _, _, _, _, _, _, _, _, _, _, _, _] Try.underlying22 Try.sizeOf36 (by exact Try.zeroValue36) rfl rfl rfl rfl (by rfl)) ?_
      intro b15 _
      refine LW.e rfl rfl (Eff.appendAny ([.int .i64 (-8), .int .i64 0, .string ⟨#[]⟩, .string ⟨#[]⟩, .string ⟨#[]⟩, .slice none 0 0, .int .i64 0, .bool false, .string ⟨#[]⟩, .slice none 0 0, .slice none 0 0, .int .u64 0, .int .i64 0, .int .i64 0]) (sz := 14) (bytes := 192) (z := .agg #[.int .i64 0, .int .i64 0, .string ⟨#[]⟩, .string ⟨#[]⟩, .string ⟨#[]⟩, .slice none 0 0, .int .i64 0, .bool false, .string ⟨#[]⟩, .slice none 0 0, .slice none 0 0, .int .u64 0, .int .i64 0, .int .i64 0]) (xs := []) (m0 := 0) (o := none) (m := 1) (pk := []) rfl rfl Try.underlying22 (by kernel_rfl) rfl (by omega) .nil rfl ⟨rfl, rfl⟩ rfl (fun hm0 => ⟨b15, 0, rfl, fun w hw => V.range_of_block (o := 0) (cs := [.int .i64 (-8), .int .i64 0, .string ⟨#[]⟩, .string ⟨#[]⟩, .string ⟨#[]⟩, .slice none 0 0, .int .i64 0, .bool false, .string ⟨#[]⟩, .slice none 0 0, .slice none 0 0, .int .u64 0, .int .i64 0, .int .i64 0]) (r := []) (hw.own _ (show InS (b15, .cells ([.int .i64 (-8), .int .i64 0, .string ⟨#[]⟩, .string ⟨#[]⟩, .string ⟨#[]⟩, .slice none 0 0, .int .i64 0, .bool false, .string ⟨#[]⟩, .slice none 0 0, .slice none 0 0, .int .u64 0, .int .i64 0, .int .i64 0]).toArray 36 (0, 0)) _ from (by repeat (first | exact .here | refine .there ?_))).mem) rfl⟩) rfl (by omega) (by omega)) ?_
      intro _ _
      refine LW.nil ?_
      refine PQ.end0 rfl ?_
      intro w' hw; exact ⟨(), trivial, rfl, hw.pick (ss := []) .nil⟩
  · obtain ⟨hx, hcap⟩ := hk
    simp only at hcap
    obtain ⟨cs, hcs⟩ : ∃ cs, cs = xs ++ rest := ⟨_, rfl⟩
    have hlen : cs.length = cap * 14 := by rw [hcs, List.length_append]; exact hcap
    have hmc : m ≤ cap := by omega
    refine V.calls [[(g, .cells cs.toArray 36 (0, 0))]] Try.func29 rfl Try.ntmps29 (Nat.le_of_ble_eq_true rfl) (by rw [hcs]; exact hs) ?_
    refine CW.seq ?_
    refine CW.seq ?_
    refine CW.region ?_
    refine LW.v rfl rfl (Val.assign rfl) ?_
    refine LW.nil ?_
    refine PQ.seq ?_
    refine CW.block ?_
    refine CW.loop (γ := Nat × List Value) (fun k => [(0, .slice (some ⟨g, 0, none⟩) m cap), (2, .int .i64 (k.1 : Nat))]) (fun k => [[(g, .cells k.2.toArray 36 (0, 0))]]) (fun k => k.1 ≤ m ∧ k.2.length = cap * 14) (fun k => m - k.1) ((0, cs)) ⟨Nat.zero_le _, hlen⟩ (by repeat (first | exact trivial | refine ⟨rfl, ?_⟩)) (by repeat (first | exact .nil | apply Pick.cons | exact .here | apply Ext.there)) ?_
    intro k
    rintro ⟨hj1, hj2⟩
    refine CW.seq ?_
    refine CW.seq ?_
    refine CW.region ?_
    refine LW.v rfl rfl (Val.move rfl) ?_
    refine LW.v rfl rfl (Val.move rfl) ?_
    refine LW.v rfl rfl (Val.lenSl rfl Try.underlying22) ?_
    refine LW.v rfl rfl (Val.cmp rfl rfl rfl) ?_
    refine LW.nil ?_
    refine PQ.seq ?_
    refine CW.cond rfl (fun h6 => ?_) (fun h6 => ?_)
    · replace h6 := bT h6
      refine CW.skip ?_
      refine PQ.seq ?_
      refine CW.seq ?_
      refine CW.block ?_
      refine CW.region ?_
      refine LW.v rfl rfl (Val.move rfl) ?_
      refine LW.v rfl rfl (Val.move rfl) ?_
      refine LW.v rfl rfl (Val.build [_, _, _, _, _, _, _, _, _, _, _, _, _, _] Try.zeroValue36 Try.underlying36 places36 rfl (by rfl)) ?_
      first | (refine LW.v rfl rfl (Val.indexAddrN rfl rfl Try.underlying22 Try.sizeOf36 (by omega)) ?_) | (refine LW.v rfl rfl (Val.indexAddr rfl rfl Try.underlying22 Try.sizeOf36 (by omega) (by omega)) ?_)
      refine LW.eN rfl (Eff.storeA (cs := [.int .i64 (-9), .int .i64 0, .string ⟨#[]⟩, .string ⟨#[]⟩, .string ⟨#[]⟩, .slice none 0 0, .int .i64 0, .bool false, .string ⟨#[]⟩, .slice none 0 0, .slice none 0 0, .int .u64 0, .int .i64 0, .int .i64 0]) rfl rfl (by repeat (first | exact .here | apply Upd.there)) rfl (by simp only [List.length_cons, List.length_nil]; omega) Try.sizeOf36 rfl) ?_
      intro _ _
      refine LW.nil ?_
      refine PQ.in_normal ?_
      refine PQ.seq ?_
      refine CW.region ?_
      refine LW.v rfl rfl (Val.move rfl) ?_
      refine LW.v rfl rfl (Val.ar rfl rfl rfl (IntWalk.i64_in _ (by omega))) ?_
      refine LW.v rfl rfl (Val.assign rfl) ?_
      refine LW.nil ?_
      refine PQ.round ((k.1 + 1, V.splice k.2 (0 + k.1 * 14) ([.int .i64 (-9), .int .i64 0, .string ⟨#[]⟩, .string ⟨#[]⟩, .string ⟨#[]⟩, .slice none 0 0, .int .i64 0, .bool false, .string ⟨#[]⟩, .slice none 0 0, .slice none 0 0, .int .u64 0, .int .i64 0, .int .i64 0]))) ⟨by simp only; omega, by rw [V.length_splice]; exact hj2⟩ (by simp only; omega) (by repeat (first | exact trivial | refine ⟨rfl, ?_⟩)) (by repeat (first | exact .nil | apply Pick.cons | exact .here | apply Ext.there))
    · replace h6 := bF h6
      refine CW.exit ?_
      refine PQ.then_exit ?_
      refine PQ.then_exit ?_
      refine PQ.in_here ?_
      refine PQ.seq ?_
      refine CW.region ?_
      refine LW.v rfl rfl (Val.move rfl) ?_
      refine LW.v rfl rfl (Val.build [_, _, _, _, _, _, _, _, _, _, _, _, _, _] Try.zeroValue36 Try.underlying36 places36 rfl (by rfl)) ?_
      refine LW.e rfl rfl (Eff.buildSlice (rfl) [_, _, _, _, _, _, _, _, _, _, _, _, _, _] Try.underlying22 Try.sizeOf36 (by exact Try.zeroValue36) rfl rfl rfl rfl (by rfl)) ?_
      intro b15 _
      refine LW.e rfl rfl (Eff.appendAny ([.int .i64 (-8), .int .i64 0, .string ⟨#[]⟩, .string ⟨#[]⟩, .string ⟨#[]⟩, .slice none 0 0, .int .i64 0, .bool false, .string ⟨#[]⟩, .slice none 0 0, .slice none 0 0, .int .u64 0, .int .i64 0, .int .i64 0]) (sz := 14) (bytes := 192) (z := .agg #[.int .i64 0, .int .i64 0, .string ⟨#[]⟩, .string ⟨#[]⟩, .string ⟨#[]⟩, .slice none 0 0, .int .i64 0, .bool false, .string ⟨#[]⟩, .slice none 0 0, .slice none 0 0, .int .u64 0, .int .i64 0, .int .i64 0]) (xs := k.2.take (m * 14)) (m0 := m) (o := (some (g, k.2.drop (m * 14), cap))) (m := 1) (pk := [[(g, .cells k.2.toArray 36 (0, 0))]]) rfl rfl Try.underlying22 (by kernel_rfl) rfl (by omega) (by repeat (first | exact .nil | apply Pick.cons | exact .here | apply Ext.there)) (by simp [V.ownG_some, List.take_append_drop]) ⟨by rw [List.length_take]; omega, by show (k.2.take (m * 14)).length + (k.2.drop (m * 14)).length = cap * 14; rw [← List.length_append, List.take_append_drop]; exact hj2⟩ rfl (fun hm0 => ⟨b15, 0, rfl, fun w hw => V.range_of_block (o := 0) (cs := [.int .i64 (-8), .int .i64 0, .string ⟨#[]⟩, .string ⟨#[]⟩, .string ⟨#[]⟩, .slice none 0 0, .int .i64 0, .bool false, .string ⟨#[]⟩, .slice none 0 0, .slice none 0 0, .int .u64 0, .int .i64 0, .int .i64 0]) (r := []) (hw.own _ (show InS (b15, .cells ([.int .i64 (-8), .int .i64 0, .string ⟨#[]⟩, .string ⟨#[]⟩, .string ⟨#[]⟩, .slice none 0 0, .int .i64 0, .bool false, .string ⟨#[]⟩, .slice none 0 0, .slice none 0 0, .int .u64 0, .int .i64 0, .int .i64 0]).toArray 36 (0, 0)) _ from (by repeat (first | exact .here | refine .there ?_))).mem) rfl⟩) rfl (by omega) (by omega)) ?_
      intro _ _
      refine LW.nil ?_
      refine PQ.end0 rfl ?_
      intro w' hw; refine ⟨(), trivial, rfl, ?_⟩
      have h6 := hw.pick (ss := []) .nil
      rw [hcs] at h6
      exact h6
end Go.Proofs.Ytaihimbjdgmjgaa
