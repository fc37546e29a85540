/- Stores compared; stores that may be. -/
import Derived.Test.YtipnpnkniihdjaaRows
import Derived.Test.YtipnpnkniihdjaaV26
import Derived.Test.YtipnpnkniihdjaaV22
import Derived.Test.YtipnpnkniihdjaaV20
import Derived.Lib.Hide
namespace Go.Proofs.Ytipnpnkniihdjaa
open Go Go.RowKit V
set_option linter.unusedVariables false
set_option maxRecDepth 100000
open V (str byC ownV ownG ownS ownOk)
theorem places45 : ∀ w, ((Array.mapM (fun (f : Field) => do pure (f.offset, ← sizeOf f.type)) (Try.prog.fieldsOf 45) : Sem (Array (Nat × Nat)))).run Try.prog w = .ok [(0, 1), (1, 1)].toArray w := by
  intro w; kernel_rfl
theorem places25 : ∀ w, ((Array.mapM (fun (f : Field) => do pure (f.offset, ← sizeOf f.type)) (Try.prog.fieldsOf 25) : Sem (Array (Nat × Nat)))).run Try.prog w = .ok [(0, 1), (1, 1)].toArray w := by
  intro w; kernel_rfl
theorem mixed : Try.prog.follows .mixedOrders = true := by kernel_rfl
/-- A slice in memory. -/
structure Sl where
  a : Option Addr
  n : Nat
  c : Nat
/-- A key and its value. -/
structure Pr where
  key : List UInt8
  val : List UInt8
deriving DecidableEq
instance : Inhabited Pr := ⟨⟨[], []⟩⟩
def prC (x : Pr) : List Value := [str x.key, str x.val]
theorem prC_len (x : Pr) : (prC x).length = 2 := rfl
def stE (x : List UInt8) : List Value := [str x]
theorem stE_len (x : List UInt8) : (stE x).length = 1 := rfl
/-- A store: pairs, and what waits. -/
abbrev ShA := List Pr × List (List UInt8)
structure Sf where
  p : Sl
  q : Sl
def Sf.cells (s : Sf) : List Value := [.slice s.p.a s.p.n s.p.c, .slice s.q.a s.q.n s.q.c]
def SfR (w : World) (s : Sf) (A : ShA) : Prop := (s.p.n = A.1.length ∧ V.slAt w s.p.a 2 prC A.1) ∧ (s.q.n = A.2.length ∧ V.slAt w s.q.a 1 stE A.2) ∧ s.p.n ≤ s.p.c ∧ s.q.n ≤ s.q.c
theorem SfR.hp {w0 w : World} {F : List Nat} {sg : Sg} {s : Sf} {A : ShA} (h : SfR w0 s A) (hw : Hp ⟨w0, F⟩ sg w) (hF : ∀ b ∈ F, w0.heap.size ≤ b) : SfR w s A := by
  have key : ∀ {α : Type} {p : Option Addr} {sz : Nat} {enc : α → List Value} {l : List α}, V.slAt w0 p sz enc l → V.slAt w p sz enc l := by
    intro α p sz enc l h
    rcases h with h | ⟨b, o, hp, hb, hr⟩
    · exact .inl h
    · refine hw.slAt (.inr ⟨b, o, hp, hb, hr⟩) fun b2 o2 hp2 => ?_
      rw [hp] at hp2
      simp only [Option.some.injEq, Addr.mk.injEq] at hp2
      intro hm
      have := hF b2 hm
      omega
  exact ⟨⟨h.1.1, key h.1.2⟩, ⟨h.2.1.1, key h.2.1.2⟩, h.2.2⟩
theorem pr_ne (x y : Pr) : (!(decide ((⟨x.key.toArray⟩ : ByteArray) = ⟨y.key.toArray⟩) && (decide ((⟨x.val.toArray⟩ : ByteArray) = ⟨y.val.toArray⟩) && true))) = !decide (x = y) := by
  rw [V.str_dec, V.str_dec]
  obtain ⟨a, b⟩ := x; obtain ⟨c, d⟩ := y
  simp only [Pr.mk.injEq, Bool.and_true, Bool.decide_and]
theorem pr_eq (x y : Pr) : (decide ((⟨x.key.toArray⟩ : ByteArray) = ⟨y.key.toArray⟩) && (decide ((⟨x.val.toArray⟩ : ByteArray) = ⟨y.val.toArray⟩) && true)) = decide (x = y) := by
  rw [V.str_dec, V.str_dec]
  obtain ⟨a, b⟩ := x; obtain ⟨c, d⟩ := y
  simp only [Pr.mk.injEq, Bool.and_true, Bool.decide_and]
theorem take_step {α : Type} {l1 l2 : List α} {k : Nat} {x : α} (h : l1.take k = l2.take k) (h1 : l1[k]? = some x) (h2 : l2[k]? = some x) : l1.take (k + 1) = l2.take (k + 1) := by rw [List.take_add_one, List.take_add_one, h, h1, h2]
theorem take_end {α : Type} {l1 l2 : List α} {k : Nat} (h : l1.take k = l2.take k) (h1 : l1.length ≤ k) (h2 : l2.length ≤ k) : l1 = l2 := by rw [← List.take_of_length_le h1, h, List.take_of_length_le h2]
theorem ne_at {α : Type} {l1 l2 : List α} {k : Nat} {x y : α} (h1 : l1[k]? = some x) (h2 : l2[k]? = some y) (hn : x ≠ y) : l1 ≠ l2 := fun e => by subst e; rw [h1] at h2; exact hn (Option.some.inj h2)
theorem samePairs_c (l1 l2 : List (Pr)) (p1 p2 : Option Addr) (n1 n2 c1 c2 : Nat) (hn1 : n1 = l1.length) (hn2 : n2 = l2.length) (hl : l1.length ≤ 100000) (w : World) (h1 : V.slAt w p1 2 prC l1) (h2 : V.slAt w p2 2 prC l2) : Calls Try.prog 23 [.slice p1 n1 c1, .slice p2 n2 c2].toArray w fun e w' => e = .returned (.bool (decide (l1 = l2))) ∧ Below w.heap.size w w' := by
  subst hn1; subst hn2
  refine V.calls [] Try.func23 rfl Try.ntmps23 (Nat.le_of_ble_eq_true rfl) (V.sat_nil _) ?_
  refine CW.seq ?_
  refine CW.region ?_
  refine LW.v rfl rfl (Val.assign rfl) ?_
  refine LW.nil ?_
  refine PQ.seq ?_
  refine CW.seq ?_
  refine CW.seq ?_
  refine CW.region ?_
  refine LW.v rfl rfl (Val.move rfl) ?_
  refine LW.v rfl rfl (Val.lenSl rfl Try.underlying22) ?_
  refine LW.v rfl rfl (Val.move rfl) ?_
  refine LW.v rfl rfl (Val.lenSl rfl Try.underlying22) ?_
  refine LW.v rfl rfl (Val.cmp rfl rfl rfl) ?_
  refine LW.nil ?_
  refine PQ.seq ?_
  refine CW.cond rfl (fun h10 => ?_) (fun h10 => ?_)
  · replace h10 := bT h10
    refine CW.seq ?_
    refine CW.region ?_
    refine LW.v rfl rfl (Val.assign rfl) ?_
    refine LW.nil ?_
    refine PQ.seq ?_
    refine CW.ret ?_
    refine PQ.then_ret ?_
    refine PQ.ret1 rfl rfl ?_
    intro w' hw; exact ⟨by rw [decide_eq_false (fun e => h10 (by rw [e]))], hw.below⟩
  · replace h10 := bF h10
    refine CW.skip ?_
    refine PQ.seq ?_
    refine CW.seq ?_
    refine CW.seq ?_
    refine CW.region ?_
    refine LW.v rfl rfl (Val.assign rfl) ?_
    refine LW.nil ?_
    refine PQ.seq ?_
    refine CW.block ?_
    refine CW.loop (γ := Nat) (fun k => [(0, .slice p1 l1.length c1), (1, .slice p2 l2.length c2), (5, .int .i64 (k : Nat))]) (fun _ => []) (fun k => k ≤ l1.length ∧ l1.take k = l2.take k) (fun k => l1.length - k) (0) ⟨Nat.zero_le _, rfl⟩ (by repeat (first | exact trivial | refine ⟨rfl, ?_⟩)) (by repeat (first | exact .nil | apply Pick.cons | exact .here | apply Ext.there)) ?_
    intro k
    rintro ⟨hk1, hk2⟩
    refine CW.seq ?_
    refine CW.seq ?_
    refine CW.region ?_
    refine LW.v rfl rfl (Val.move rfl) ?_
    refine LW.v rfl rfl (Val.move rfl) ?_
    refine LW.v rfl rfl (Val.lenSl rfl Try.underlying22) ?_
    refine LW.v rfl rfl (Val.cmp rfl rfl rfl) ?_
    refine LW.nil ?_
    refine PQ.seq ?_
    refine CW.cond rfl (fun h14 => ?_) (fun h14 => ?_)
    · replace h14 := bT h14
      obtain ⟨b1, o1, x, rfl, hb1, hx1, hr1⟩ := V.slAt_at h1 rfl (k := k) (by omega)
      obtain ⟨b2, o2, y, rfl, hb2, hx2, hr2⟩ := V.slAt_at h2 rfl (k := k) (by omega)
      refine CW.skip ?_
      refine PQ.seq ?_
      refine CW.seq ?_
      refine CW.block ?_
      refine CW.seq ?_
      refine CW.quiet mixed (by kernel_rfl) ?_
      refine QW.v rfl rfl (Val.move rfl) ?_
      refine QW.v rfl rfl (Val.move rfl) ?_
      first | (refine QW.v rfl rfl (Val.indexAddrN rfl rfl Try.underlying22 Try.sizeOf45 (by omega)) ?_) | (refine QW.v rfl rfl (Val.indexAddr rfl rfl Try.underlying22 Try.sizeOf45 (by omega) (by omega)) ?_)
      refine QW.v rfl rfl (Val.loadOA rfl Try.isAgg45 hb1 (by simp [ids]) (hr1 k x hx1) Try.sizeOf45) ?_
      refine QW.v rfl rfl (Val.move rfl) ?_
      refine QW.v rfl rfl (Val.move rfl) ?_
      first | (refine QW.v rfl rfl (Val.indexAddrN rfl rfl Try.underlying22 Try.sizeOf45 (by omega)) ?_) | (refine QW.v rfl rfl (Val.indexAddr rfl rfl Try.underlying22 Try.sizeOf45 (by omega) (by omega)) ?_)
      refine QW.v rfl rfl (Val.loadOA rfl Try.isAgg45 hb2 (by simp [ids]) (hr2 k y hx2) Try.sizeOf45) ?_
      refine QW.v rfl rfl (Val.neA rfl rfl (by kernel_rfl) Try.underlying45 (by kernel_rfl) (by exact (.str rfl rfl Try.isAgg9 Try.underlying9 (.str rfl rfl Try.isAgg9 Try.underlying9 .nil)))) ?_
      refine QW.re 25 (.bool (!decide (x = y))) rfl (by rw [← pr_ne]) ?_
      refine QW.nil ?_
      refine PQ.seq ?_
      refine CW.cond rfl (fun h25 => ?_) (fun h25 => ?_)
      · replace h25 := bT h25
        have h25 : x ≠ y := h25
        refine CW.seq ?_
        refine CW.region ?_
        refine LW.v rfl rfl (Val.assign rfl) ?_
        refine LW.nil ?_
        refine PQ.seq ?_
        refine CW.ret ?_
        refine PQ.in_ret ?_
        refine PQ.then_ret ?_
        refine PQ.then_ret ?_
        refine PQ.in_ret ?_
        refine PQ.then_ret ?_
        refine PQ.ret1 rfl rfl ?_
        intro w' hw; exact ⟨by rw [decide_eq_false (ne_at hx1 hx2 h25)], hw.below⟩
      · replace h25 := bF h25
        have h25 : x = y := h25
        subst h25
        refine CW.skip ?_
        refine PQ.in_normal ?_
        refine PQ.seq ?_
        refine CW.region ?_
        refine LW.v rfl rfl (Val.move rfl) ?_
        refine LW.v rfl rfl (Val.ar rfl rfl rfl (IntWalk.i64_in _ (by omega))) ?_
        refine LW.v rfl rfl (Val.assign rfl) ?_
        refine LW.nil ?_
        refine PQ.round (k + 1) ⟨by omega, take_step hk2 hx1 hx2⟩ (by omega) (by repeat (first | exact trivial | refine ⟨rfl, ?_⟩)) (by repeat (first | exact .nil | apply Pick.cons | exact .here | apply Ext.there))
    · replace h14 := bF h14
      refine CW.exit ?_
      refine PQ.then_exit ?_
      refine PQ.then_exit ?_
      refine PQ.in_here ?_
      refine PQ.seq ?_
      refine CW.seq ?_
      refine CW.region ?_
      refine LW.v rfl rfl (Val.assign rfl) ?_
      refine LW.nil ?_
      refine PQ.seq ?_
      refine CW.ret ?_
      refine PQ.ret1 rfl rfl ?_
      intro w' hw; exact ⟨by rw [decide_eq_true (take_end hk2 (by omega) (by omega))], hw.below⟩
theorem sameTexts_c (l1 l2 : List (List UInt8)) (p1 p2 : Option Addr) (n1 n2 c1 c2 : Nat) (hn1 : n1 = l1.length) (hn2 : n2 = l2.length) (hl : l1.length ≤ 100000) (w : World) (h1 : V.slAt w p1 1 stE l1) (h2 : V.slAt w p2 1 stE l2) : Calls Try.prog 24 [.slice p1 n1 c1, .slice p2 n2 c2].toArray w fun e w' => e = .returned (.bool (decide (l1 = l2))) ∧ Below w.heap.size w w' := by
  subst hn1; subst hn2
  refine V.calls [] Try.func24 rfl Try.ntmps24 (Nat.le_of_ble_eq_true rfl) (V.sat_nil _) ?_
  refine CW.seq ?_
  refine CW.region ?_
  refine LW.v rfl rfl (Val.assign rfl) ?_
  refine LW.nil ?_
  refine PQ.seq ?_
  refine CW.seq ?_
  refine CW.seq ?_
  refine CW.region ?_
  refine LW.v rfl rfl (Val.move rfl) ?_
  refine LW.v rfl rfl (Val.lenSl rfl Try.underlying23) ?_
  refine LW.v rfl rfl (Val.move rfl) ?_
  refine LW.v rfl rfl (Val.lenSl rfl Try.underlying23) ?_
  refine LW.v rfl rfl (Val.cmp rfl rfl rfl) ?_
  refine LW.nil ?_
  refine PQ.seq ?_
  refine CW.cond rfl (fun h10 => ?_) (fun h10 => ?_)
  · replace h10 := bT h10
    refine CW.seq ?_
    refine CW.region ?_
    refine LW.v rfl rfl (Val.assign rfl) ?_
    refine LW.nil ?_
    refine PQ.seq ?_
    refine CW.ret ?_
    refine PQ.then_ret ?_
    refine PQ.ret1 rfl rfl ?_
    intro w' hw; exact ⟨by rw [decide_eq_false (fun e => h10 (by rw [e]))], hw.below⟩
  · replace h10 := bF h10
    refine CW.skip ?_
    refine PQ.seq ?_
    refine CW.seq ?_
    refine CW.seq ?_
    refine CW.region ?_
    refine LW.v rfl rfl (Val.assign rfl) ?_
    refine LW.nil ?_
    refine PQ.seq ?_
    refine CW.block ?_
    refine CW.loop (γ := Nat) (fun k => [(0, .slice p1 l1.length c1), (1, .slice p2 l2.length c2), (5, .int .i64 (k : Nat))]) (fun _ => []) (fun k => k ≤ l1.length ∧ l1.take k = l2.take k) (fun k => l1.length - k) (0) ⟨Nat.zero_le _, rfl⟩ (by repeat (first | exact trivial | refine ⟨rfl, ?_⟩)) (by repeat (first | exact .nil | apply Pick.cons | exact .here | apply Ext.there)) ?_
    intro k
    rintro ⟨hk1, hk2⟩
    refine CW.seq ?_
    refine CW.seq ?_
    refine CW.region ?_
    refine LW.v rfl rfl (Val.move rfl) ?_
    refine LW.v rfl rfl (Val.move rfl) ?_
    refine LW.v rfl rfl (Val.lenSl rfl Try.underlying23) ?_
    refine LW.v rfl rfl (Val.cmp rfl rfl rfl) ?_
    refine LW.nil ?_
    refine PQ.seq ?_
    refine CW.cond rfl (fun h14 => ?_) (fun h14 => ?_)
    · replace h14 := bT h14
      obtain ⟨b1, o1, x, rfl, hb1, hx1, hr1⟩ := V.slAt_at h1 rfl (k := k) (by omega)
      obtain ⟨b2, o2, y, rfl, hb2, hx2, hr2⟩ := V.slAt_at h2 rfl (k := k) (by omega)
      refine CW.skip ?_
      refine PQ.seq ?_
      refine CW.seq ?_
      refine CW.block ?_
      refine CW.seq ?_
      refine CW.quiet mixed (by kernel_rfl) ?_
      refine QW.v rfl rfl (Val.move rfl) ?_
      refine QW.v rfl rfl (Val.move rfl) ?_
      first | (refine QW.v rfl rfl (Val.indexAddrN rfl rfl Try.underlying23 Try.sizeOf9 (by omega)) ?_) | (refine QW.v rfl rfl (Val.indexAddr rfl rfl Try.underlying23 Try.sizeOf9 (by omega) (by omega)) ?_)
      refine QW.v rfl rfl (Val.loadO rfl Try.isAgg9 hb1 (by simp [ids]) (hr1 k x hx1 0 _ rfl)) ?_
      refine QW.v rfl rfl (Val.move rfl) ?_
      refine QW.v rfl rfl (Val.move rfl) ?_
      first | (refine QW.v rfl rfl (Val.indexAddrN rfl rfl Try.underlying23 Try.sizeOf9 (by omega)) ?_) | (refine QW.v rfl rfl (Val.indexAddr rfl rfl Try.underlying23 Try.sizeOf9 (by omega) (by omega)) ?_)
      refine QW.v rfl rfl (Val.loadO rfl Try.isAgg9 hb2 (by simp [ids]) (hr2 k y hx2 0 _ rfl)) ?_
      refine QW.v rfl rfl (Val.neStr rfl rfl) ?_
      refine QW.nil ?_
      refine PQ.seq ?_
      refine CW.cond rfl (fun h25 => ?_) (fun h25 => ?_)
      · replace h25 := bT h25
        have h25 : x ≠ y := h25
        refine CW.seq ?_
        refine CW.region ?_
        refine LW.v rfl rfl (Val.assign rfl) ?_
        refine LW.nil ?_
        refine PQ.seq ?_
        refine CW.ret ?_
        refine PQ.in_ret ?_
        refine PQ.then_ret ?_
        refine PQ.then_ret ?_
        refine PQ.in_ret ?_
        refine PQ.then_ret ?_
        refine PQ.ret1 rfl rfl ?_
        intro w' hw; exact ⟨by rw [decide_eq_false (ne_at hx1 hx2 h25)], hw.below⟩
      · replace h25 := bF h25
        have h25 : x = y := h25
        subst h25
        refine CW.skip ?_
        refine PQ.in_normal ?_
        refine PQ.seq ?_
        refine CW.region ?_
        refine LW.v rfl rfl (Val.move rfl) ?_
        refine LW.v rfl rfl (Val.ar rfl rfl rfl (IntWalk.i64_in _ (by omega))) ?_
        refine LW.v rfl rfl (Val.assign rfl) ?_
        refine LW.nil ?_
        refine PQ.round (k + 1) ⟨by omega, take_step hk2 hx1 hx2⟩ (by omega) (by repeat (first | exact trivial | refine ⟨rfl, ?_⟩)) (by repeat (first | exact .nil | apply Pick.cons | exact .here | apply Ext.there))
    · replace h14 := bF h14
      refine CW.exit ?_
      refine PQ.then_exit ?_
      refine PQ.then_exit ?_
      refine PQ.in_here ?_
      refine PQ.seq ?_
      refine CW.seq ?_
      refine CW.region ?_
      refine LW.v rfl rfl (Val.assign rfl) ?_
      refine LW.nil ?_
      refine PQ.seq ?_
      refine CW.ret ?_
      refine PQ.ret1 rfl rfl ?_
      intro w' hw; exact ⟨by rw [decide_eq_true (take_end hk2 (by omega) (by omega))], hw.below⟩
theorem sameShelf_c (s1 s2 : Sf) (A B : ShA) (w : World) (hA : SfR w s1 A) (hB : SfR w s2 B) (hl : A.1.length ≤ 100000 ∧ A.2.length ≤ 100000) : Calls Try.prog 11 [.agg s1.cells.toArray, .agg s2.cells.toArray].toArray w fun e w' => e = .returned (.bool (decide (A = B))) ∧ Below w.heap.size w w' := by
  refine V.calls [] Try.func11 rfl Try.ntmps11 (Nat.le_of_ble_eq_true rfl) (V.sat_nil _) ?_
  refine CW.seq ?_
  refine CW.region ?_
  refine LW.e rfl rfl (Eff.boxA rfl) ?_
  intro b2 _
  refine LW.e rfl rfl (Eff.boxA rfl) ?_
  intro b3 _
  refine LW.v rfl rfl (Val.assign rfl) ?_
  refine LW.nil ?_
  refine PQ.seq ?_
  refine CW.seq ?_
  refine CW.region ?_
  refine LW.v rfl rfl (Val.fieldAddr 0 rfl Try.underlying25 rfl rfl Try.sizeOf22) ?_
  refine LW.v rfl rfl (Val.load rfl Try.isAgg22 (by repeat (first | exact .here | exact .inner .here | exact .inner (.inner .here) | refine .there ?_)) (by rfl)) ?_
  refine LW.v rfl rfl (Val.fieldAddr 0 rfl Try.underlying25 rfl rfl Try.sizeOf22) ?_
  refine LW.v rfl rfl (Val.load rfl Try.isAgg22 (by repeat (first | exact .here | exact .inner .here | exact .inner (.inner .here) | refine .there ?_)) (by rfl)) ?_
  refine LW.e rfl rfl (Eff.callV rfl Try.call23 (fun w hw => samePairs_c A.1 B.1 _ _ _ _ _ _ hA.1.1 hB.1.1 hl.1 w (hw.slAt hA.1.2 (by simp [ids])) (hw.slAt hB.1.2 (by simp [ids])))) ?_
  intro _ _
  refine LW.v rfl rfl (Val.move rfl) ?_
  refine LW.split (d := 10) rfl (fun h10 => ?_) (fun h10 => ?_)
  · replace h10 := bT h10
    refine LW.v rfl rfl (Val.fieldAddr 1 rfl Try.underlying25 rfl rfl Try.sizeOf23) ?_
    refine LW.v rfl rfl (Val.load rfl Try.isAgg23 (by repeat (first | exact .here | exact .inner .here | exact .inner (.inner .here) | refine .there ?_)) (by rfl)) ?_
    refine LW.v rfl rfl (Val.fieldAddr 1 rfl Try.underlying25 rfl rfl Try.sizeOf23) ?_
    refine LW.v rfl rfl (Val.load rfl Try.isAgg23 (by repeat (first | exact .here | exact .inner .here | exact .inner (.inner .here) | refine .there ?_)) (by rfl)) ?_
    refine LW.e rfl rfl (Eff.callV rfl Try.call24 (fun w hw => sameTexts_c A.2 B.2 _ _ _ _ _ _ hA.2.1.1 hB.2.1.1 hl.2 w (hw.slAt hA.2.1.2 (by simp [ids])) (hw.slAt hB.2.1.2 (by simp [ids])))) ?_
    intro _ _
    refine LW.v rfl rfl (Val.pick_t rfl rfl) ?_
    refine LW.v rfl rfl (Val.assign rfl) ?_
    refine LW.nil ?_
    refine PQ.seq ?_
    refine CW.ret ?_
    refine PQ.ret1 rfl rfl ?_
    intro w' hw; exact ⟨by congr 2; obtain ⟨a, c⟩ := A; obtain ⟨d, e⟩ := B; simp_all, hw.below⟩
  · replace h10 := bF h10
    refine LW.p rfl rfl ?_
    refine LW.p rfl rfl ?_
    refine LW.p rfl rfl ?_
    refine LW.p rfl rfl ?_
    refine LW.p rfl rfl ?_
    refine LW.v rfl rfl (Val.pick_f rfl rfl) ?_
    refine LW.v rfl rfl (Val.assign rfl) ?_
    refine LW.nil ?_
    refine PQ.seq ?_
    refine CW.ret ?_
    refine PQ.ret1 rfl rfl ?_
    intro w' hw; exact ⟨by congr 2; obtain ⟨a, c⟩ := A; obtain ⟨d, e⟩ := B; simp_all, hw.below⟩
end Go.Proofs.Ytipnpnkniihdjaa
