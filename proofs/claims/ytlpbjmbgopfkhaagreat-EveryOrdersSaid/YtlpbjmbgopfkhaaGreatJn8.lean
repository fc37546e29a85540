import Derived.Test.YtlpbjmbgopfkhaaGreatJn5
import Derived.Lib.Hide
import Derived.Test.YtlpbjmbgopfkhaaGreatV38
import Derived.WalkSmall
import Derived.Deep.Slices
/- Turns compared with others. -/
namespace Go.Proofs.YtlpbjmbgopfkhaaGreat
open Go Go.RowKit V
set_option linter.unusedVariables false
set_option maxRecDepth 100000
namespace I
open V (str byC ownV ownG ownS ownOk)
/-- An answer in memory. -/
structure RA where
  code : Int
  fd : Bool
  vl : List UInt8
  p : Sl
  h : Sl
  ep : Int
instance : Inhabited RA := ⟨⟨0, false, [], ⟨none, 0, 0⟩, ⟨none, 0, 0⟩, 0⟩⟩
def raC (a : RA) : List Value := [.int .i64 a.code, .bool a.fd, str a.vl, .slice a.p.a a.p.n a.p.c, .slice a.h.a a.h.n a.h.c, .int .u64 a.ep]
theorem raC_len (a : RA) : (raC a).length = 6 := rfl
abbrev RB := RA × List Bool
def RaR (w : World) (a : RB) : Prop := (a.1.h.n = a.2.length ∧ V.slAt w a.1.h.a 1 boE a.2) ∧ a.2.length ≤ 9223372036854775807
/-- A turn in memory. -/
structure RT where
  r : Sl
  a : Sl
  s : Sf
instance : Inhabited RT := ⟨⟨⟨none, 0, 0⟩, ⟨none, 0, 0⟩, ⟨⟨none, 0, 0⟩, ⟨none, 0, 0⟩⟩⟩⟩
def rtC (t : RT) : List Value := [.slice t.r.a t.r.n t.r.c, .slice t.a.a t.a.n t.a.c, .slice t.s.p.a t.s.p.n t.s.p.c, .slice t.s.q.a t.s.q.n t.s.q.c]
theorem rtC_len (t : RT) : (rtC t).length = 4 := rfl
abbrev TX := List RB × ShA
def RtR (w : World) (t : RT) (x : TX) : Prop := (t.a.n = x.1.length ∧ V.slAt w t.a.a 6 raC (x.1.map Prod.fst)) ∧ (∀ a ∈ x.1, RaR w a) ∧ SfR w t.s x.2 ∧ x.1.length ≤ 9223372036854775807 ∧ x.2.1.length ≤ 9223372036854775807 ∧ x.2.2.length ≤ 9223372036854775807
theorem slAt_hp {α : Type} {w0 w : World} {sg : V.Sg} {p : Option Addr} {sz : Nat} {enc : α → List Value} {l : List α} (h : V.slAt w0 p sz enc l) (hw : Hp ⟨w0, []⟩ sg w) : V.slAt w p sz enc l := hw.slAt h (by simp)
theorem RaR.hp {w0 w : World} {sg : V.Sg} {a : RB} (h : RaR w0 a) (hw : Hp ⟨w0, []⟩ sg w) : RaR w a := ⟨⟨h.1.1, slAt_hp h.1.2 hw⟩, h.2⟩
theorem RtR.hp {w0 w : World} {sg : V.Sg} {t : RT} {x : TX} (h : RtR w0 t x) (hw : Hp ⟨w0, []⟩ sg w) : RtR w t x := ⟨⟨h.1.1, slAt_hp h.1.2 hw⟩, fun a ha => (h.2.1 a ha).hp hw, h.2.2.1.hp hw (by simp), h.2.2.2⟩
def ansEq (a b : RB) : Bool := decide (a.1.code = b.1.code) && decide (a.1.fd = b.1.fd) && decide (a.1.vl = b.1.vl) && decide (a.2 = b.2)
def allEq : List RB → List RB → Bool
  | [], [] => true
  | a :: r, b :: s => ansEq a b && allEq r s
  | _, _ => false
def turnEq (x y : TX) : Bool := decide (x.2 = y.2) && allEq x.1 y.1
def amongF (x : TX) (l : List TX) : Bool := l.any (turnEq x)
theorem allEq_len {l m : List RB} (h : l.length ≠ m.length) : allEq l m = false := by
  induction l generalizing m with
  | nil => cases m with
    | nil => exact absurd rfl h
    | cons _ _ => rfl
  | cons a r ih => cases m with
    | nil => rfl
    | cons b s => simp only [allEq, ih (m := s) (fun e => h (by simp [e])), Bool.and_false]
theorem allEq_no {l m : List RB} {k : Nat} {a b : RB} (ha : l[k]? = some a) (hb : m[k]? = some b) (h : ansEq a b = false) : allEq l m = false := by
  induction k generalizing l m with
  | zero => match l, m with
    | [], _ => simp at ha
    | _, [] => simp at hb
    | x :: r, y :: s => simp at ha hb; subst ha; subst hb; simp [allEq, h]
  | succ k ih => match l, m with
    | [], _ => simp at ha
    | _, [] => simp at hb
    | x :: r, y :: s => simp only [allEq, ih (l := r) (m := s) (by simpa using ha) (by simpa using hb), Bool.and_false]
theorem allEq_yes {l m : List RB} (hl : l.length = m.length) (h : ∀ (i : Nat) (a b : RB), l[i]? = some a → m[i]? = some b → ansEq a b = true) : allEq l m = true := by
  induction l generalizing m with
  | nil => cases m with
    | nil => rfl
    | cons _ _ => simp at hl
  | cons a r ih => cases m with
    | nil => simp at hl
    | cons b s => simp only [allEq, h 0 a b rfl rfl, Bool.true_and]; exact ih (by simpa using hl) fun i x y hx hy => h (i + 1) x y (by simpa using hx) (by simpa using hy)
def UpTo (l m : List RB) (k : Nat) : Prop := ∀ (i : Nat) (a b : RB), i < k → l[i]? = some a → m[i]? = some b → ansEq a b = true
theorem UpTo.step {l m : List RB} {k : Nat} {a b : RB} (h : UpTo l m k) (ha : l[k]? = some a) (hb : m[k]? = some b) (he : ansEq a b = true) : UpTo l m (k + 1) := fun i x y hi hx hy => by
  by_cases e : i = k
  · subst e; rw [ha] at hx; rw [hb] at hy; cases hx; cases hy; exact he
  · exact h i x y (by omega) hx hy
theorem UpTo.end {l m : List RB} {k : Nat} (h : UpTo l m k) (hk : l.length ≤ k) (hl : l.length = m.length) : allEq l m = true := allEq_yes hl fun i a b ha hb => h i a b (by have := (List.getElem?_eq_some_iff.1 ha).1; omega) ha hb
theorem map_at {l : List RB} {k : Nat} {x : RA} (h : (l.map Prod.fst)[k]? = some x) : ∃ hs, l[k]? = some (x, hs) := by
  rw [List.getElem?_map] at h
  cases hl : l[k]? with
  | none => rw [hl] at h; cases h
  | some y => rw [hl] at h; simp at h; exact ⟨y.2, by rw [← h]⟩
theorem eqP_c (l1 l2 : List (Pr)) (p1 p2 : Option Addr) (n1 n2 c1 c2 : Nat) (hn1 : n1 = l1.length) (hn2 : n2 = l2.length) (hl : l1.length ≤ 9223372036854775807) (w : World) (h1 : V.slAt w p1 2 prC l1) (h2 : V.slAt w p2 2 prC l2) : Calls Tryz.prog 63 [.slice p1 n1 c1, .slice p2 n2 c2].toArray w fun e w' => e = .returned (.bool (decide (l1 = l2))) ∧ Below w.heap.size w w' := by
  subst hn1; subst hn2
  refine V.calls [] Tryz.func63 rfl Tryz.ntmps63 (Nat.le_of_ble_eq_true rfl) (V.sat_nil _) ?_
  refine CW.seq ?_
  refine CW.region ?_
  refine LW.v rfl rfl (Val.assign rfl) ?_
  refine LW.nil ?_
  refine PQ.seq ?_
  refine CW.seq ?_
  refine CW.seq ?_
  refine CW.region ?_
  refine LW.v rfl rfl (Val.move rfl) ?_
  refine LW.v rfl rfl (Val.lenSl rfl Tryz.underlying31) ?_
  refine LW.v rfl rfl (Val.move rfl) ?_
  refine LW.v rfl rfl (Val.lenSl rfl Tryz.underlying31) ?_
  refine LW.v rfl rfl (Val.cmp rfl rfl rfl) ?_
  refine LW.nil ?_
  refine PQ.seq ?_
  refine CW.cond rfl (fun h10 => ?_) (fun h10 => ?_)
  · replace h10 := bT h10
    refine CW.seq ?_
    refine CW.region ?_
    refine LW.v rfl rfl (Val.assign rfl) ?_
    refine LW.nil ?_
    refine PQ.seq ?_
    refine CW.ret ?_
    refine PQ.then_ret ?_
    refine PQ.ret1 rfl rfl ?_
    intro w' hw; exact ⟨by rw [decide_eq_false (fun e => h10 (by rw [e]))], hw.below⟩
  · replace h10 := bF h10
    refine CW.skip ?_
    refine PQ.seq ?_
    refine CW.seq ?_
    refine CW.seq ?_
    refine CW.region ?_
    refine LW.v rfl rfl (Val.move rfl) ?_
    refine LW.v rfl rfl (Val.lenSl rfl Tryz.underlying31) ?_
    refine LW.v rfl rfl (Val.move rfl) ?_
    refine LW.nil ?_
    refine PQ.seq ?_
    refine CW.block ?_
    refine CW.loop (γ := Nat) (fun k => [(0, .slice p1 l1.length c1), (1, .slice p2 l2.length c2), (12, .int .i64 (l1.length : Nat)), (13, .int .i64 (k : Nat))]) (fun _ => []) (fun k => k ≤ l1.length ∧ l1.take k = l2.take k) (fun k => l1.length - k) (0) ⟨Nat.zero_le _, rfl⟩ (by repeat (first | exact trivial | refine ⟨rfl, ?_⟩)) (by repeat (first | exact .nil | apply Pick.cons | exact .here | apply Ext.there)) ?_
    intro k
    rintro ⟨hk1, hk2⟩
    refine CW.seq ?_
    refine CW.region ?_
    refine LW.v rfl rfl (Val.cmp rfl rfl rfl) ?_
    refine LW.nil ?_
    refine PQ.seq ?_
    refine CW.seq ?_
    refine CW.cond rfl (fun h14 => ?_) (fun h14 => ?_)
    · replace h14 := bT h14
      obtain ⟨b1, o1, x, rfl, hb1, hx1, hr1⟩ := V.slAt_at h1 rfl (k := k) (by omega)
      obtain ⟨b2, o2, y, rfl, hb2, hx2, hr2⟩ := V.slAt_at h2 rfl (k := k) (by omega)
      refine CW.skip ?_
      refine PQ.seq ?_
      refine CW.seq ?_
      refine CW.block ?_
      refine CW.seq ?_
      refine CW.region ?_
      refine LW.v rfl rfl (Val.move rfl) ?_
      refine LW.v rfl rfl (Val.assign rfl) ?_
      refine LW.nil ?_
      refine PQ.seq ?_
      refine CW.seq ?_
      refine CW.quiet mixed (by kernel_rfl) ?_
      refine QW.v rfl rfl (Val.move rfl) ?_
      refine QW.v rfl rfl (Val.move rfl) ?_
      first | (refine QW.v rfl rfl (Val.indexAddrN rfl rfl Tryz.underlying31 Tryz.sizeOf69 (by omega)) ?_) | (refine QW.v rfl rfl (Val.indexAddr rfl rfl Tryz.underlying31 Tryz.sizeOf69 (by omega) (by omega)) ?_)
      refine QW.v rfl rfl (Val.loadOA rfl Tryz.isAgg69 hb1 (by simp [ids]) (hr1 k x hx1) Tryz.sizeOf69) ?_
      refine QW.v rfl rfl (Val.move rfl) ?_
      refine QW.v rfl rfl (Val.move rfl) ?_
      first | (refine QW.v rfl rfl (Val.indexAddrN rfl rfl Tryz.underlying31 Tryz.sizeOf69 (by omega)) ?_) | (refine QW.v rfl rfl (Val.indexAddr rfl rfl Tryz.underlying31 Tryz.sizeOf69 (by omega) (by omega)) ?_)
      refine QW.v rfl rfl (Val.loadOA rfl Tryz.isAgg69 hb2 (by simp [ids]) (hr2 k y hx2) Tryz.sizeOf69) ?_
      refine QW.v rfl rfl (Val.neA rfl rfl (by kernel_rfl) Tryz.underlying69 (by kernel_rfl) (by exact (.str rfl rfl Tryz.isAgg9 Tryz.underlying9 (.str rfl rfl Tryz.isAgg9 Tryz.underlying9 .nil)))) ?_
      refine QW.re 24 (.bool (!decide (x = y))) rfl (by rw [← pr_ne]) ?_
      refine QW.nil ?_
      refine PQ.seq ?_
      refine CW.cond rfl (fun h24 => ?_) (fun h24 => ?_)
      · replace h24 := bT h24
        have h24 : x ≠ y := by simpa using h24
        refine CW.seq ?_
        refine CW.region ?_
        refine LW.v rfl rfl (Val.assign rfl) ?_
        refine LW.nil ?_
        refine PQ.seq ?_
        refine CW.ret ?_
        refine PQ.in_ret ?_
        refine PQ.then_ret ?_
        refine PQ.then_ret ?_
        refine PQ.in_ret ?_
        refine PQ.then_ret ?_
        refine PQ.ret1 rfl rfl ?_
        intro w' hw; exact ⟨by rw [decide_eq_false (ne_at hx1 hx2 h24)], hw.below⟩
      · replace h24 := bF h24
        have h24 : x = y := by simpa using h24
        subst h24
        refine CW.skip ?_
        refine PQ.in_normal ?_
        refine PQ.seq ?_
        refine CW.region ?_
        refine LW.v rfl rfl (Val.ar rfl rfl rfl (IntWalk.i64_in _ (by omega))) ?_
        refine LW.v rfl rfl (Val.move rfl) ?_
        refine LW.nil ?_
        refine PQ.round (k + 1) ⟨by omega, take_step hk2 hx1 hx2⟩ (by omega) (by repeat (first | exact trivial | refine ⟨rfl, ?_⟩)) (by repeat (first | exact .nil | apply Pick.cons | exact .here | apply Ext.there))
    · replace h14 := bF h14
      refine CW.exit ?_
      refine PQ.then_exit ?_
      refine PQ.then_exit ?_
      refine PQ.in_here ?_
      refine PQ.seq ?_
      refine CW.seq ?_
      refine CW.region ?_
      refine LW.v rfl rfl (Val.assign rfl) ?_
      refine LW.nil ?_
      refine PQ.seq ?_
      refine CW.ret ?_
      refine PQ.ret1 rfl rfl ?_
      intro w' hw; exact ⟨by rw [decide_eq_true (take_end hk2 (by omega) (by omega))], hw.below⟩
theorem eqS_c (l1 l2 : List (List UInt8)) (p1 p2 : Option Addr) (n1 n2 c1 c2 : Nat) (hn1 : n1 = l1.length) (hn2 : n2 = l2.length) (hl : l1.length ≤ 9223372036854775807) (w : World) (h1 : V.slAt w p1 1 stE l1) (h2 : V.slAt w p2 1 stE l2) : Calls Tryz.prog 64 [.slice p1 n1 c1, .slice p2 n2 c2].toArray w fun e w' => e = .returned (.bool (decide (l1 = l2))) ∧ Below w.heap.size w w' := by
  subst hn1; subst hn2
  refine V.calls [] Tryz.func64 rfl Tryz.ntmps64 (Nat.le_of_ble_eq_true rfl) (V.sat_nil _) ?_
  refine CW.seq ?_
  refine CW.region ?_
  refine LW.v rfl rfl (Val.assign rfl) ?_
  refine LW.nil ?_
  refine PQ.seq ?_
  refine CW.seq ?_
  refine CW.seq ?_
  refine CW.region ?_
  refine LW.v rfl rfl (Val.move rfl) ?_
  refine LW.v rfl rfl (Val.lenSl rfl Tryz.underlying32) ?_
  refine LW.v rfl rfl (Val.move rfl) ?_
  refine LW.v rfl rfl (Val.lenSl rfl Tryz.underlying32) ?_
  refine LW.v rfl rfl (Val.cmp rfl rfl rfl) ?_
  refine LW.nil ?_
  refine PQ.seq ?_
  refine CW.cond rfl (fun h10 => ?_) (fun h10 => ?_)
  · replace h10 := bT h10
    refine CW.seq ?_
    refine CW.region ?_
    refine LW.v rfl rfl (Val.assign rfl) ?_
    refine LW.nil ?_
    refine PQ.seq ?_
    refine CW.ret ?_
    refine PQ.then_ret ?_
    refine PQ.ret1 rfl rfl ?_
    intro w' hw; exact ⟨by rw [decide_eq_false (fun e => h10 (by rw [e]))], hw.below⟩
  · replace h10 := bF h10
    refine CW.skip ?_
    refine PQ.seq ?_
    refine CW.seq ?_
    refine CW.seq ?_
    refine CW.region ?_
    refine LW.v rfl rfl (Val.move rfl) ?_
    refine LW.v rfl rfl (Val.lenSl rfl Tryz.underlying32) ?_
    refine LW.v rfl rfl (Val.move rfl) ?_
    refine LW.nil ?_
    refine PQ.seq ?_
    refine CW.block ?_
    refine CW.loop (γ := Nat) (fun k => [(0, .slice p1 l1.length c1), (1, .slice p2 l2.length c2), (12, .int .i64 (l1.length : Nat)), (13, .int .i64 (k : Nat))]) (fun _ => []) (fun k => k ≤ l1.length ∧ l1.take k = l2.take k) (fun k => l1.length - k) (0) ⟨Nat.zero_le _, rfl⟩ (by repeat (first | exact trivial | refine ⟨rfl, ?_⟩)) (by repeat (first | exact .nil | apply Pick.cons | exact .here | apply Ext.there)) ?_
    intro k
    rintro ⟨hk1, hk2⟩
    refine CW.seq ?_
    refine CW.region ?_
    refine LW.v rfl rfl (Val.cmp rfl rfl rfl) ?_
    refine LW.nil ?_
    refine PQ.seq ?_
    refine CW.seq ?_
    refine CW.cond rfl (fun h14 => ?_) (fun h14 => ?_)
    · replace h14 := bT h14
      obtain ⟨b1, o1, x, rfl, hb1, hx1, hr1⟩ := V.slAt_at h1 rfl (k := k) (by omega)
      obtain ⟨b2, o2, y, rfl, hb2, hx2, hr2⟩ := V.slAt_at h2 rfl (k := k) (by omega)
      refine CW.skip ?_
      refine PQ.seq ?_
      refine CW.seq ?_
      refine CW.block ?_
      refine CW.seq ?_
      refine CW.region ?_
      refine LW.v rfl rfl (Val.move rfl) ?_
      refine LW.v rfl rfl (Val.assign rfl) ?_
      refine LW.nil ?_
      refine PQ.seq ?_
      refine CW.seq ?_
      refine CW.quiet mixed (by kernel_rfl) ?_
      refine QW.v rfl rfl (Val.move rfl) ?_
      refine QW.v rfl rfl (Val.move rfl) ?_
      first | (refine QW.v rfl rfl (Val.indexAddrN rfl rfl Tryz.underlying32 Tryz.sizeOf9 (by omega)) ?_) | (refine QW.v rfl rfl (Val.indexAddr rfl rfl Tryz.underlying32 Tryz.sizeOf9 (by omega) (by omega)) ?_)
      refine QW.v rfl rfl (Val.loadO rfl Tryz.isAgg9 hb1 (by simp [ids]) (hr1 k x hx1 0 _ rfl)) ?_
      refine QW.v rfl rfl (Val.move rfl) ?_
      refine QW.v rfl rfl (Val.move rfl) ?_
      first | (refine QW.v rfl rfl (Val.indexAddrN rfl rfl Tryz.underlying32 Tryz.sizeOf9 (by omega)) ?_) | (refine QW.v rfl rfl (Val.indexAddr rfl rfl Tryz.underlying32 Tryz.sizeOf9 (by omega) (by omega)) ?_)
      refine QW.v rfl rfl (Val.loadO rfl Tryz.isAgg9 hb2 (by simp [ids]) (hr2 k y hx2 0 _ rfl)) ?_
      refine QW.v rfl rfl (Val.neStr rfl rfl) ?_
      refine QW.nil ?_
      refine PQ.seq ?_
      refine CW.cond rfl (fun h24 => ?_) (fun h24 => ?_)
      · replace h24 := bT h24
        have h24 : x ≠ y := by simpa using h24
        refine CW.seq ?_
        refine CW.region ?_
        refine LW.v rfl rfl (Val.assign rfl) ?_
        refine LW.nil ?_
        refine PQ.seq ?_
        refine CW.ret ?_
        refine PQ.in_ret ?_
        refine PQ.then_ret ?_
        refine PQ.then_ret ?_
        refine PQ.in_ret ?_
        refine PQ.then_ret ?_
        refine PQ.ret1 rfl rfl ?_
        intro w' hw; exact ⟨by rw [decide_eq_false (ne_at hx1 hx2 h24)], hw.below⟩
      · replace h24 := bF h24
        have h24 : x = y := by simpa using h24
        subst h24
        refine CW.skip ?_
        refine PQ.in_normal ?_
        refine PQ.seq ?_
        refine CW.region ?_
        refine LW.v rfl rfl (Val.ar rfl rfl rfl (IntWalk.i64_in _ (by omega))) ?_
        refine LW.v rfl rfl (Val.move rfl) ?_
        refine LW.nil ?_
        refine PQ.round (k + 1) ⟨by omega, take_step hk2 hx1 hx2⟩ (by omega) (by repeat (first | exact trivial | refine ⟨rfl, ?_⟩)) (by repeat (first | exact .nil | apply Pick.cons | exact .here | apply Ext.there))
    · replace h14 := bF h14
      refine CW.exit ?_
      refine PQ.then_exit ?_
      refine PQ.then_exit ?_
      refine PQ.in_here ?_
      refine PQ.seq ?_
      refine CW.seq ?_
      refine CW.region ?_
      refine LW.v rfl rfl (Val.assign rfl) ?_
      refine LW.nil ?_
      refine PQ.seq ?_
      refine CW.ret ?_
      refine PQ.ret1 rfl rfl ?_
      intro w' hw; exact ⟨by rw [decide_eq_true (take_end hk2 (by omega) (by omega))], hw.below⟩
theorem eqB_c (l1 l2 : List (Bool)) (p1 p2 : Option Addr) (n1 n2 c1 c2 : Nat) (hn1 : n1 = l1.length) (hn2 : n2 = l2.length) (hl : l1.length ≤ 9223372036854775807) (w : World) (h1 : V.slAt w p1 1 boE l1) (h2 : V.slAt w p2 1 boE l2) : Calls Tryz.prog 35 [.slice p1 n1 c1, .slice p2 n2 c2].toArray w fun e w' => e = .returned (.bool (decide (l1 = l2))) ∧ Below w.heap.size w w' := by
  subst hn1; subst hn2
  refine V.calls [] Tryz.func35 rfl Tryz.ntmps35 (Nat.le_of_ble_eq_true rfl) (V.sat_nil _) ?_
  refine CW.seq ?_
  refine CW.region ?_
  refine LW.v rfl rfl (Val.assign rfl) ?_
  refine LW.nil ?_
  refine PQ.seq ?_
  refine CW.seq ?_
  refine CW.seq ?_
  refine CW.region ?_
  refine LW.v rfl rfl (Val.move rfl) ?_
  refine LW.v rfl rfl (Val.lenSl rfl Tryz.underlying46) ?_
  refine LW.v rfl rfl (Val.move rfl) ?_
  refine LW.v rfl rfl (Val.lenSl rfl Tryz.underlying46) ?_
  refine LW.v rfl rfl (Val.cmp rfl rfl rfl) ?_
  refine LW.nil ?_
  refine PQ.seq ?_
  refine CW.cond rfl (fun h10 => ?_) (fun h10 => ?_)
  · replace h10 := bT h10
    refine CW.seq ?_
    refine CW.region ?_
    refine LW.v rfl rfl (Val.assign rfl) ?_
    refine LW.nil ?_
    refine PQ.seq ?_
    refine CW.ret ?_
    refine PQ.then_ret ?_
    refine PQ.ret1 rfl rfl ?_
    intro w' hw; exact ⟨by rw [decide_eq_false (fun e => h10 (by rw [e]))], hw.below⟩
  · replace h10 := bF h10
    refine CW.skip ?_
    refine PQ.seq ?_
    refine CW.seq ?_
    refine CW.seq ?_
    refine CW.region ?_
    refine LW.v rfl rfl (Val.move rfl) ?_
    refine LW.v rfl rfl (Val.lenSl rfl Tryz.underlying46) ?_
    refine LW.v rfl rfl (Val.move rfl) ?_
    refine LW.nil ?_
    refine PQ.seq ?_
    refine CW.block ?_
    refine CW.loop (γ := Nat) (fun k => [(0, .slice p1 l1.length c1), (1, .slice p2 l2.length c2), (12, .int .i64 (l1.length : Nat)), (13, .int .i64 (k : Nat))]) (fun _ => []) (fun k => k ≤ l1.length ∧ l1.take k = l2.take k) (fun k => l1.length - k) (0) ⟨Nat.zero_le _, rfl⟩ (by repeat (first | exact trivial | refine ⟨rfl, ?_⟩)) (by repeat (first | exact .nil | apply Pick.cons | exact .here | apply Ext.there)) ?_
    intro k
    rintro ⟨hk1, hk2⟩
    refine CW.seq ?_
    refine CW.region ?_
    refine LW.v rfl rfl (Val.cmp rfl rfl rfl) ?_
    refine LW.nil ?_
    refine PQ.seq ?_
    refine CW.seq ?_
    refine CW.cond rfl (fun h14 => ?_) (fun h14 => ?_)
    · replace h14 := bT h14
      obtain ⟨b1, o1, x, rfl, hb1, hx1, hr1⟩ := V.slAt_at h1 rfl (k := k) (by omega)
      obtain ⟨b2, o2, y, rfl, hb2, hx2, hr2⟩ := V.slAt_at h2 rfl (k := k) (by omega)
      refine CW.skip ?_
      refine PQ.seq ?_
      refine CW.seq ?_
      refine CW.block ?_
      refine CW.seq ?_
      refine CW.region ?_
      refine LW.v rfl rfl (Val.move rfl) ?_
      refine LW.v rfl rfl (Val.assign rfl) ?_
      refine LW.nil ?_
      refine PQ.seq ?_
      refine CW.seq ?_
      refine CW.quiet mixed (by kernel_rfl) ?_
      refine QW.v rfl rfl (Val.move rfl) ?_
      refine QW.v rfl rfl (Val.move rfl) ?_
      first | (refine QW.v rfl rfl (Val.indexAddrN rfl rfl Tryz.underlying46 Tryz.sizeOf4 (by omega)) ?_) | (refine QW.v rfl rfl (Val.indexAddr rfl rfl Tryz.underlying46 Tryz.sizeOf4 (by omega) (by omega)) ?_)
      refine QW.v rfl rfl (Val.loadO rfl Tryz.isAgg4 hb1 (by simp [ids]) (hr1 k x hx1 0 _ rfl)) ?_
      refine QW.v rfl rfl (Val.move rfl) ?_
      refine QW.v rfl rfl (Val.move rfl) ?_
      first | (refine QW.v rfl rfl (Val.indexAddrN rfl rfl Tryz.underlying46 Tryz.sizeOf4 (by omega)) ?_) | (refine QW.v rfl rfl (Val.indexAddr rfl rfl Tryz.underlying46 Tryz.sizeOf4 (by omega) (by omega)) ?_)
      refine QW.v rfl rfl (Val.loadO rfl Tryz.isAgg4 hb2 (by simp [ids]) (hr2 k y hx2 0 _ rfl)) ?_
      refine QW.v rfl rfl (Val.neB rfl rfl Tryz.underlying4) ?_
      refine QW.re 24 (.bool (!decide (x = y))) rfl (by cases x <;> cases y <;> rfl) ?_
      refine QW.nil ?_
      refine PQ.seq ?_
      refine CW.cond rfl (fun h24 => ?_) (fun h24 => ?_)
      · replace h24 := bT h24
        have h24 : x ≠ y := by simpa using h24
        refine CW.seq ?_
        refine CW.region ?_
        refine LW.v rfl rfl (Val.assign rfl) ?_
        refine LW.nil ?_
        refine PQ.seq ?_
        refine CW.ret ?_
        refine PQ.in_ret ?_
        refine PQ.then_ret ?_
        refine PQ.then_ret ?_
        refine PQ.in_ret ?_
        refine PQ.then_ret ?_
        refine PQ.ret1 rfl rfl ?_
        intro w' hw; exact ⟨by rw [decide_eq_false (ne_at hx1 hx2 h24)], hw.below⟩
      · replace h24 := bF h24
        have h24 : x = y := by simpa using h24
        subst h24
        refine CW.skip ?_
        refine PQ.in_normal ?_
        refine PQ.seq ?_
        refine CW.region ?_
        refine LW.v rfl rfl (Val.ar rfl rfl rfl (IntWalk.i64_in _ (by omega))) ?_
        refine LW.v rfl rfl (Val.move rfl) ?_
        refine LW.nil ?_
        refine PQ.round (k + 1) ⟨by omega, take_step hk2 hx1 hx2⟩ (by omega) (by repeat (first | exact trivial | refine ⟨rfl, ?_⟩)) (by repeat (first | exact .nil | apply Pick.cons | exact .here | apply Ext.there))
    · replace h14 := bF h14
      refine CW.exit ?_
      refine PQ.then_exit ?_
      refine PQ.then_exit ?_
      refine PQ.in_here ?_
      refine PQ.seq ?_
      refine CW.seq ?_
      refine CW.region ?_
      refine LW.v rfl rfl (Val.assign rfl) ?_
      refine LW.nil ?_
      refine PQ.seq ?_
      refine CW.ret ?_
      refine PQ.ret1 rfl rfl ?_
      intro w' hw; exact ⟨by rw [decide_eq_true (take_end hk2 (by omega) (by omega))], hw.below⟩
theorem same_c (s1 s2 : Sf) (A B : ShA) (w : World) (hA : SfR w s1 A) (hB : SfR w s2 B) (hl : A.1.length ≤ 9223372036854775807 ∧ A.2.length ≤ 9223372036854775807) : Calls Tryz.prog 29 [.agg s1.cells.toArray, .agg s2.cells.toArray].toArray w fun e w' => e = .returned (.bool (decide (A = B))) ∧ Below w.heap.size w w' := by
  refine V.calls [] Tryz.func29 rfl Tryz.ntmps29 (Nat.le_of_ble_eq_true rfl) (V.sat_nil _) ?_
  refine CW.seq ?_
  refine CW.region ?_
  refine LW.e rfl rfl (Eff.boxA rfl) ?_
  intro b2 _
  refine LW.e rfl rfl (Eff.boxA rfl) ?_
  intro b3 _
  refine LW.v rfl rfl (Val.assign rfl) ?_
  refine LW.nil ?_
  refine PQ.seq ?_
  refine CW.seq ?_
  refine CW.region ?_
  refine LW.v rfl rfl (Val.fieldAddr 0 rfl Tryz.underlying34 rfl rfl Tryz.sizeOf31) ?_
  refine LW.v rfl rfl (Val.load rfl Tryz.isAgg31 (by repeat (first | exact .here | exact .inner .here | exact .inner (.inner .here) | refine .there ?_)) (by rfl)) ?_
  refine LW.v rfl rfl (Val.fieldAddr 0 rfl Tryz.underlying34 rfl rfl Tryz.sizeOf31) ?_
  refine LW.v rfl rfl (Val.load rfl Tryz.isAgg31 (by repeat (first | exact .here | exact .inner .here | exact .inner (.inner .here) | refine .there ?_)) (by rfl)) ?_
  refine LW.e rfl rfl (Eff.callV rfl Tryz.call63 (fun w hw => eqP_c A.1 B.1 _ _ _ _ _ _ hA.1.1 hB.1.1 hl.1 w (hw.slAt hA.1.2 (by simp [ids])) (hw.slAt hB.1.2 (by simp [ids])))) ?_
  intro _ _
  refine LW.v rfl rfl (Val.move rfl) ?_
  refine LW.split (d := 10) rfl (fun h10 => ?_) (fun h10 => ?_)
  · replace h10 := bT h10
    refine LW.v rfl rfl (Val.fieldAddr 1 rfl Tryz.underlying34 rfl rfl Tryz.sizeOf32) ?_
    refine LW.v rfl rfl (Val.load rfl Tryz.isAgg32 (by repeat (first | exact .here | exact .inner .here | exact .inner (.inner .here) | refine .there ?_)) (by rfl)) ?_
    refine LW.v rfl rfl (Val.fieldAddr 1 rfl Tryz.underlying34 rfl rfl Tryz.sizeOf32) ?_
    refine LW.v rfl rfl (Val.load rfl Tryz.isAgg32 (by repeat (first | exact .here | exact .inner .here | exact .inner (.inner .here) | refine .there ?_)) (by rfl)) ?_
    refine LW.e rfl rfl (Eff.callV rfl Tryz.call64 (fun w hw => eqS_c A.2 B.2 _ _ _ _ _ _ hA.2.1.1 hB.2.1.1 hl.2 w (hw.slAt hA.2.1.2 (by simp [ids])) (hw.slAt hB.2.1.2 (by simp [ids])))) ?_
    intro _ _
    refine LW.v rfl rfl (Val.pick_t rfl rfl) ?_
    refine LW.v rfl rfl (Val.assign rfl) ?_
    refine LW.nil ?_
    refine PQ.seq ?_
    refine CW.ret ?_
    refine PQ.ret1 rfl rfl ?_
    intro w' hw; exact ⟨by congr 2; obtain ⟨a, c⟩ := A; obtain ⟨d, e⟩ := B; simp_all, hw.below⟩
  · replace h10 := bF h10
    refine LW.p rfl rfl ?_
    refine LW.p rfl rfl ?_
    refine LW.p rfl rfl ?_
    refine LW.p rfl rfl ?_
    refine LW.p rfl rfl ?_
    refine LW.v rfl rfl (Val.pick_f rfl rfl) ?_
    refine LW.v rfl rfl (Val.assign rfl) ?_
    refine LW.nil ?_
    refine PQ.seq ?_
    refine CW.ret ?_
    refine PQ.ret1 rfl rfl ?_
    intro w' hw; exact ⟨by congr 2; obtain ⟨a, c⟩ := A; obtain ⟨d, e⟩ := B; simp_all, hw.below⟩
theorem ansq_c (a b : RB) (w : World) (ha : RaR w a) (hb : RaR w b) : Calls Tryz.prog 34 [.agg (raC a.1).toArray, .agg (raC b.1).toArray].toArray w fun e w' => e = .returned (.bool (ansEq a b)) ∧ Below w.heap.size w w' := by
  refine V.calls [] Tryz.func34 rfl Tryz.ntmps34 (Nat.le_of_ble_eq_true rfl) (V.sat_nil _) ?_
  refine CW.seq ?_
  refine CW.region ?_
  refine LW.e rfl rfl (Eff.boxA rfl) ?_
  intro b2 _
  refine LW.e rfl rfl (Eff.boxA rfl) ?_
  intro b3 _
  refine LW.v rfl rfl (Val.assign rfl) ?_
  refine LW.nil ?_
  refine PQ.seq ?_
  refine CW.seq ?_
  refine CW.region ?_
  refine LW.v rfl rfl (Val.fieldAddr 0 rfl Tryz.underlying48 rfl rfl Tryz.sizeOf45) ?_
  refine LW.v rfl rfl (Val.load rfl Tryz.isAgg45 (by repeat (first | exact .here | exact .inner .here | exact .inner (.inner .here) | refine .there ?_)) (by rfl)) ?_
  refine LW.v rfl rfl (Val.fieldAddr 0 rfl Tryz.underlying48 rfl rfl Tryz.sizeOf45) ?_
  refine LW.v rfl rfl (Val.load rfl Tryz.isAgg45 (by repeat (first | exact .here | exact .inner .here | exact .inner (.inner .here) | refine .there ?_)) (by rfl)) ?_
  refine LW.v rfl rfl (Val.cmp rfl rfl rfl) ?_
  refine LW.v rfl rfl (Val.move rfl) ?_
  refine LW.split (d := 10) rfl (fun h10 => ?_) (fun h10 => ?_)
  · replace h10 := bT h10
    have h10 : a.1.code = b.1.code := by simpa using h10
    refine LW.v rfl rfl (Val.fieldAddr 1 rfl Tryz.underlying48 rfl rfl Tryz.sizeOf4) ?_
    refine LW.v rfl rfl (Val.load rfl Tryz.isAgg4 (by repeat (first | exact .here | exact .inner .here | exact .inner (.inner .here) | refine .there ?_)) (by rfl)) ?_
    refine LW.v rfl rfl (Val.fieldAddr 1 rfl Tryz.underlying48 rfl rfl Tryz.sizeOf4) ?_
    refine LW.v rfl rfl (Val.load rfl Tryz.isAgg4 (by repeat (first | exact .here | exact .inner .here | exact .inner (.inner .here) | refine .there ?_)) (by rfl)) ?_
    refine LW.v rfl rfl (Val.eqB rfl rfl Tryz.underlying4) ?_
    refine LW.v rfl rfl (Val.pick_t rfl rfl) ?_
    refine LW.v rfl rfl (Val.move rfl) ?_
    refine LW.split (d := 17) rfl (fun h17 => ?_) (fun h17 => ?_)
    · replace h17 := bT h17
      have h17 : a.1.fd = b.1.fd := by simpa using h17
      refine LW.v rfl rfl (Val.fieldAddr 2 rfl Tryz.underlying48 rfl rfl Tryz.sizeOf9) ?_
      refine LW.v rfl rfl (Val.load rfl Tryz.isAgg9 (by repeat (first | exact .here | exact .inner .here | exact .inner (.inner .here) | refine .there ?_)) (by rfl)) ?_
      refine LW.v rfl rfl (Val.fieldAddr 2 rfl Tryz.underlying48 rfl rfl Tryz.sizeOf9) ?_
      refine LW.v rfl rfl (Val.load rfl Tryz.isAgg9 (by repeat (first | exact .here | exact .inner .here | exact .inner (.inner .here) | refine .there ?_)) (by rfl)) ?_
      refine LW.v rfl rfl (Val.eqStr rfl rfl) ?_
      refine LW.v rfl rfl (Val.pick_t rfl rfl) ?_
      refine LW.v rfl rfl (Val.move rfl) ?_
      refine LW.split (d := 24) rfl (fun h24 => ?_) (fun h24 => ?_)
      · replace h24 := bT h24
        have h24 : a.1.vl = b.1.vl := by simpa using h24
        refine LW.v rfl rfl (Val.fieldAddr 4 rfl Tryz.underlying48 rfl rfl Tryz.sizeOf46) ?_
        refine LW.v rfl rfl (Val.load rfl Tryz.isAgg46 (by repeat (first | exact .here | exact .inner .here | exact .inner (.inner .here) | refine .there ?_)) (by rfl)) ?_
        refine LW.v rfl rfl (Val.fieldAddr 4 rfl Tryz.underlying48 rfl rfl Tryz.sizeOf46) ?_
        refine LW.v rfl rfl (Val.load rfl Tryz.isAgg46 (by repeat (first | exact .here | exact .inner .here | exact .inner (.inner .here) | refine .there ?_)) (by rfl)) ?_
        refine LW.e rfl rfl (Eff.callV rfl Tryz.call35 (fun w hw => eqB_c a.2 b.2 _ _ _ _ _ _ ha.1.1 hb.1.1 ha.2 w (hw.slAt ha.1.2 (by simp [ids])) (hw.slAt hb.1.2 (by simp [ids])))) ?_
        intro _ _
        refine LW.v rfl rfl (Val.pick_t rfl rfl) ?_
        refine LW.v rfl rfl (Val.assign rfl) ?_
        refine LW.nil ?_
        refine PQ.seq ?_
        refine CW.ret ?_
        refine PQ.ret1 rfl rfl ?_
        intro w' hw; exact ⟨by unfold ansEq; simp_all, hw.below⟩
      · replace h24 := bF h24
        have h24 : a.1.vl ≠ b.1.vl := by simpa using h24
        refine LW.p rfl rfl ?_
        refine LW.p rfl rfl ?_
        refine LW.p rfl rfl ?_
        refine LW.p rfl rfl ?_
        refine LW.p rfl rfl ?_
        refine LW.v rfl rfl (Val.pick_f rfl rfl) ?_
        refine LW.v rfl rfl (Val.assign rfl) ?_
        refine LW.nil ?_
        refine PQ.seq ?_
        refine CW.ret ?_
        refine PQ.ret1 rfl rfl ?_
        intro w' hw; exact ⟨by unfold ansEq; simp_all, hw.below⟩
    · replace h17 := bF h17
      have h17 : a.1.fd ≠ b.1.fd := by simpa using h17
      refine LW.p rfl rfl ?_
      refine LW.p rfl rfl ?_
      refine LW.p rfl rfl ?_
      refine LW.p rfl rfl ?_
      refine LW.p rfl rfl ?_
      refine LW.v rfl rfl (Val.pick_f rfl rfl) ?_
      refine LW.v rfl rfl (Val.move rfl) ?_
      refine LW.p rfl rfl ?_
      refine LW.p rfl rfl ?_
      refine LW.p rfl rfl ?_
      refine LW.p rfl rfl ?_
      refine LW.p rfl rfl ?_
      refine LW.v rfl rfl (Val.pick_f rfl rfl) ?_
      refine LW.v rfl rfl (Val.assign rfl) ?_
      refine LW.nil ?_
      refine PQ.seq ?_
      refine CW.ret ?_
      refine PQ.ret1 rfl rfl ?_
      intro w' hw; exact ⟨by unfold ansEq; simp_all, hw.below⟩
  · replace h10 := bF h10
    have h10 : a.1.code ≠ b.1.code := by simpa using h10
    refine LW.p rfl rfl ?_
    refine LW.p rfl rfl ?_
    refine LW.p rfl rfl ?_
    refine LW.p rfl rfl ?_
    refine LW.p rfl rfl ?_
    refine LW.v rfl rfl (Val.pick_f rfl rfl) ?_
    refine LW.v rfl rfl (Val.move rfl) ?_
    refine LW.p rfl rfl ?_
    refine LW.p rfl rfl ?_
    refine LW.p rfl rfl ?_
    refine LW.p rfl rfl ?_
    refine LW.p rfl rfl ?_
    refine LW.v rfl rfl (Val.pick_f rfl rfl) ?_
    refine LW.v rfl rfl (Val.move rfl) ?_
    refine LW.p rfl rfl ?_
    refine LW.p rfl rfl ?_
    refine LW.p rfl rfl ?_
    refine LW.p rfl rfl ?_
    refine LW.p rfl rfl ?_
    refine LW.v rfl rfl (Val.pick_f rfl rfl) ?_
    refine LW.v rfl rfl (Val.assign rfl) ?_
    refine LW.nil ?_
    refine PQ.seq ?_
    refine CW.ret ?_
    refine PQ.ret1 rfl rfl ?_
    intro w' hw; exact ⟨by unfold ansEq; simp_all, hw.below⟩
theorem eqF_c (l m : List RB) (p1 p2 : Option Addr) (n1 n2 c1 c2 : Nat) (hn1 : n1 = l.length) (hn2 : n2 = m.length) (hl : l.length ≤ 9223372036854775807) (w : World) (h1 : V.slAt w p1 6 raC (l.map Prod.fst)) (h2 : V.slAt w p2 6 raC (m.map Prod.fst)) (g1 : ∀ a ∈ l, RaR w a) (g2 : ∀ a ∈ m, RaR w a) : Calls Tryz.prog 33 [.slice p1 n1 c1, .slice p2 n2 c2, .func (.func 34) #[] #[]].toArray w fun e w' => e = .returned (.bool (allEq l m)) ∧ Below w.heap.size w w' := by
  subst hn1; subst hn2
  refine V.calls [] Tryz.func33 rfl Tryz.ntmps33 (Nat.le_of_ble_eq_true rfl) (V.sat_nil _) ?_
  refine CW.seq ?_
  refine CW.region ?_
  refine LW.v rfl rfl (Val.assign rfl) ?_
  refine LW.nil ?_
  refine PQ.seq ?_
  refine CW.seq ?_
  refine CW.seq ?_
  refine CW.region ?_
  refine LW.v rfl rfl (Val.move rfl) ?_
  refine LW.v rfl rfl (Val.lenSl rfl Tryz.underlying30) ?_
  refine LW.v rfl rfl (Val.move rfl) ?_
  refine LW.v rfl rfl (Val.lenSl rfl Tryz.underlying30) ?_
  refine LW.v rfl rfl (Val.cmp rfl rfl rfl) ?_
  refine LW.nil ?_
  refine PQ.seq ?_
  refine CW.cond rfl (fun h14 => ?_) (fun h14 => ?_)
  · replace h14 := bT h14
    have h14 : l.length ≠ m.length := fun e => by simp [e] at h14
    refine CW.seq ?_
    refine CW.region ?_
    refine LW.v rfl rfl (Val.assign rfl) ?_
    refine LW.nil ?_
    refine PQ.seq ?_
    refine CW.ret ?_
    refine PQ.then_ret ?_
    refine PQ.ret1 rfl rfl ?_
    intro w' hw; exact ⟨by rw [allEq_len h14], hw.below⟩
  · replace h14 := bF h14
    have h14 : l.length = m.length := by
      have h9 : (l.length : Int) = m.length := by simpa using h14
      omega
    refine CW.skip ?_
    refine PQ.seq ?_
    refine CW.seq ?_
    refine CW.seq ?_
    refine CW.region ?_
    refine LW.v rfl rfl (Val.move rfl) ?_
    refine LW.v rfl rfl (Val.lenSl rfl Tryz.underlying30) ?_
    refine LW.v rfl rfl (Val.move rfl) ?_
    refine LW.nil ?_
    refine PQ.seq ?_
    refine CW.block ?_
    refine CW.loop (γ := Nat) (fun k => [(0, .slice p1 l.length c1), (1, .slice p2 m.length c2), (2, .func (.func 34) #[] #[]), (15, .slice p1 l.length c1), (16, .int .i64 (l.length : Nat)), (17, .int .i64 (k : Nat))]) (fun _ => []) (fun k => k ≤ l.length ∧ UpTo l m k) (fun k => l.length - k) (0) ⟨Nat.zero_le _, fun i _ _ h => absurd h (Nat.not_lt_zero _)⟩ (by repeat (first | exact trivial | refine ⟨rfl, ?_⟩)) (by repeat (first | exact .nil | apply Pick.cons | exact .here | apply Ext.there)) ?_
    intro k
    rintro ⟨hk1, hk2⟩
    refine CW.seq ?_
    refine CW.region ?_
    refine LW.v rfl rfl (Val.cmp rfl rfl rfl) ?_
    refine LW.nil ?_
    refine PQ.seq ?_
    refine CW.seq ?_
    refine CW.cond rfl (fun h18 => ?_) (fun h18 => ?_)
    · replace h18 := bT h18
      have hk9 : k < l.length := by omega
      obtain ⟨bb1, o1, x, rfl, hb1, hx1, hr1⟩ := V.slAt_at h1 (by simp) (k := k) hk9
      obtain ⟨bb2, o2, y, rfl, hb2, hx2, hr2⟩ := V.slAt_at h2 (by simp) (k := k) (show k < m.length by omega)
      obtain ⟨hx, hl1⟩ := map_at hx1
      obtain ⟨hy, hl2⟩ := map_at hx2
      refine CW.skip ?_
      refine PQ.seq ?_
      refine CW.seq ?_
      refine CW.block ?_
      refine CW.seq ?_
      refine CW.region ?_
      refine LW.v rfl rfl (Val.move rfl) ?_
      first | (refine LW.v rfl rfl (Val.indexAddrN rfl rfl Tryz.underlying30 Tryz.sizeOf48 (by omega)) ?_) | (refine LW.v rfl rfl (Val.indexAddr rfl rfl Tryz.underlying30 Tryz.sizeOf48 (by omega) (by omega)) ?_)
      refine LW.v rfl rfl (Val.loadOA rfl Tryz.isAgg48 hb1 (by simp [ids]) (hr1 k x hx1) Tryz.sizeOf48) ?_
      refine LW.e rfl rfl (Eff.allocA (by exact Tryz.zeroValue48)) ?_
      intro b8 _
      refine LW.v rfl rfl (Val.assign rfl) ?_
      refine LW.eN rfl (Eff.storeW (cs := raC x) rfl rfl (by repeat (first | exact .here | exact .inner .here | exact .inner (.inner .here) | apply Upd.there)) (by rfl) Tryz.sizeOf48 (by rfl)) ?_
      intro _ _
      refine LW.nil ?_
      refine PQ.seq ?_
      refine CW.seq ?_
      refine CW.region ?_
      refine LW.v rfl rfl (Val.move rfl) ?_
      refine LW.v rfl rfl (Val.move rfl) ?_
      first | (refine LW.v rfl rfl (Val.indexAddrN rfl rfl Tryz.underlying30 Tryz.sizeOf48 (by omega)) ?_) | (refine LW.v rfl rfl (Val.indexAddr rfl rfl Tryz.underlying30 Tryz.sizeOf48 (by omega) (by omega)) ?_)
      refine LW.v rfl rfl (Val.loadOA rfl Tryz.isAgg48 hb2 (by simp [ids]) (hr2 k y hx2) Tryz.sizeOf48) ?_
      refine LW.e rfl rfl (Eff.allocA (by exact Tryz.zeroValue48)) ?_
      intro b9 _
      refine LW.eN rfl (Eff.storeW (cs := raC y) rfl rfl (by repeat (first | exact .here | exact .inner .here | exact .inner (.inner .here) | apply Upd.there)) (by rfl) Tryz.sizeOf48 (by rfl)) ?_
      intro _ _
      refine LW.nil ?_
      refine PQ.seq ?_
      refine CW.seq ?_
      refine CW.region ?_
      refine LW.v rfl rfl (Val.move rfl) ?_
      refine LW.v rfl rfl (Val.loadW (l := raC x) rfl Tryz.isAgg48 (by repeat (first | exact .here | exact .inner .here | exact .inner (.inner .here) | refine .there ?_)) (by exact Tryz.sizeOf48)) ?_
      refine LW.v rfl rfl (Val.loadW (l := raC y) rfl Tryz.isAgg48 (by repeat (first | exact .here | exact .inner .here | exact .inner (.inner .here) | refine .there ?_)) (by exact Tryz.sizeOf48)) ?_
      refine LW.e rfl rfl (Eff.callFV (f := 34) (caps := []) rfl rfl Tryz.call34 (fun w hw => ansq_c (x, hx) (y, hy) w ((g1 _ (List.mem_of_getElem? hl1)).hp hw) ((g2 _ (List.mem_of_getElem? hl2)).hp hw))) ?_
      intro _ _
      refine LW.split (d := 29) rfl (fun h29 => ?_) (fun h29 => ?_)
      · replace h29 := bT h29
        have h29 : ansEq (x, hx) (y, hy) = true := h29
        refine LW.v rfl rfl (Val.not rfl) ?_
        refine LW.nil ?_
        refine PQ.seq ?_
        refine CW.cond_f rfl ?_
        refine CW.skip ?_
        refine PQ.in_normal ?_
        refine PQ.seq ?_
        refine CW.region ?_
        refine LW.v rfl rfl (Val.ar rfl rfl rfl (IntWalk.i64_in _ (by omega))) ?_
        refine LW.v rfl rfl (Val.move rfl) ?_
        refine LW.nil ?_
        refine PQ.round (k + 1) ⟨by omega, hk2.step hl1 hl2 h29⟩ (by omega) (by repeat (first | exact trivial | refine ⟨rfl, ?_⟩)) (by repeat (first | exact .nil | apply Pick.cons | exact .here | apply Ext.there))
      · replace h29 := bF h29
        have h29 : ansEq (x, hx) (y, hy) = false := h29
        refine LW.v rfl rfl (Val.not rfl) ?_
        refine LW.nil ?_
        refine PQ.seq ?_
        refine CW.cond_t rfl ?_
        refine CW.seq ?_
        refine CW.region ?_
        refine LW.v rfl rfl (Val.assign rfl) ?_
        refine LW.nil ?_
        refine PQ.seq ?_
        refine CW.ret ?_
        refine PQ.in_ret ?_
        refine PQ.then_ret ?_
        refine PQ.then_ret ?_
        refine PQ.in_ret ?_
        refine PQ.then_ret ?_
        refine PQ.ret1 rfl rfl ?_
        intro w' hw; exact ⟨by rw [allEq_no hl1 hl2 h29], hw.below⟩
    · replace h18 := bF h18
      have hk9 : l.length ≤ k := by omega
      refine CW.exit ?_
      refine PQ.then_exit ?_
      refine PQ.then_exit ?_
      refine PQ.in_here ?_
      refine PQ.seq ?_
      refine CW.seq ?_
      refine CW.region ?_
      refine LW.v rfl rfl (Val.assign rfl) ?_
      refine LW.nil ?_
      refine PQ.seq ?_
      refine CW.ret ?_
      refine PQ.ret1 rfl rfl ?_
      intro w' hw; exact ⟨by rw [hk2.end hk9 h14], hw.below⟩
theorem amg_c (tx ty : RT) (x y : TX) (b : Nat) (w : World) (hx : RtR w tx x) (hy : RtR w ty y) (hb : w.heap[b]? = some (.cells (rtC tx).toArray 36 (0, 0))) : Calls Tryz.prog 32 [.agg (rtC ty).toArray, .pointer (some ⟨b, 0, none⟩)].toArray w fun e w' => e = .returned (.bool (turnEq x y)) ∧ Below w.heap.size w w' := by
  refine V.calls [] Tryz.func32 rfl Tryz.ntmps32 (Nat.le_of_ble_eq_true rfl) (V.sat_nil _) ?_
  refine CW.seq ?_
  refine CW.region ?_
  refine LW.e rfl rfl (Eff.boxA rfl) ?_
  intro b2 _
  refine LW.v rfl rfl (Val.assign rfl) ?_
  refine LW.nil ?_
  refine PQ.seq ?_
  refine CW.seq ?_
  refine CW.region ?_
  refine LW.v rfl rfl (Val.fieldAddr 2 rfl Tryz.underlying36 rfl rfl Tryz.sizeOf34) ?_
  refine LW.v rfl rfl (Val.loadOA (cs := tx.s.cells) rfl Tryz.isAgg34 (V.lt_of_some hb) (by simp [ids]) (V.range_of_block (r := []) hb rfl) Tryz.sizeOf34) ?_
  refine LW.v rfl rfl (Val.fieldAddr 2 rfl Tryz.underlying36 rfl rfl Tryz.sizeOf34) ?_
  refine LW.v rfl rfl (Val.loadA ty.s.cells (r := []) rfl Tryz.isAgg34 (by repeat (first | exact .here | exact .inner .here | exact .inner (.inner .here) | refine .there ?_)) (by rfl) Tryz.sizeOf34) ?_
  refine LW.e rfl rfl (Eff.callV rfl Tryz.call29 (fun w hw => same_c tx.s ty.s x.2 y.2 w (hx.hp hw).2.2.1 (hy.hp hw).2.2.1 hx.2.2.2.2)) ?_
  intro _ _
  refine LW.v rfl rfl (Val.move rfl) ?_
  refine LW.split (d := 9) rfl (fun h9 => ?_) (fun h9 => ?_)
  · replace h9 := bT h9
    have h9 : x.2 = y.2 := by simpa using h9
    refine LW.v rfl rfl (Val.fieldAddr 1 rfl Tryz.underlying36 rfl rfl Tryz.sizeOf30) ?_
    refine LW.v rfl rfl (Val.loadO rfl Tryz.isAgg30 (V.lt_of_some hb) (by simp [ids]) (V.cell_of_block hb rfl)) ?_
    refine LW.v rfl rfl (Val.fieldAddr 1 rfl Tryz.underlying36 rfl rfl Tryz.sizeOf30) ?_
    refine LW.v rfl rfl (Val.load rfl Tryz.isAgg30 (by repeat (first | exact .here | exact .inner .here | exact .inner (.inner .here) | refine .there ?_)) (by rfl)) ?_
    refine LW.e rfl rfl (Eff.callV rfl Tryz.call33 (fun w hw => eqF_c x.1 y.1 _ _ _ _ _ _ hx.1.1 hy.1.1 hx.2.2.2.1 w (hx.hp hw).1.2 (hy.hp hw).1.2 (hx.hp hw).2.1 (hy.hp hw).2.1)) ?_
    intro _ _
    refine LW.v rfl rfl (Val.pick_t rfl rfl) ?_
    refine LW.v rfl rfl (Val.assign rfl) ?_
    refine LW.nil ?_
    refine PQ.seq ?_
    refine CW.ret ?_
    refine PQ.ret1 rfl rfl ?_
    intro w' hw; exact ⟨by unfold turnEq; simp_all, hw.below⟩
  · replace h9 := bF h9
    have h9 : x.2 ≠ y.2 := by simpa using h9
    refine LW.p rfl rfl ?_
    refine LW.p rfl rfl ?_
    refine LW.p rfl rfl ?_
    refine LW.p rfl rfl ?_
    refine LW.p rfl rfl ?_
    refine LW.v rfl rfl (Val.pick_f rfl rfl) ?_
    refine LW.v rfl rfl (Val.assign rfl) ?_
    refine LW.nil ?_
    refine PQ.seq ?_
    refine CW.ret ?_
    refine PQ.ret1 rfl rfl ?_
    intro w' hw; exact ⟨by unfold turnEq; simp_all, hw.below⟩
abbrev TR := RT × TX
def TsR (w : World) (p : Option Addr) (l : List TR) : Prop := V.slAt w p 4 rtC (l.map Prod.fst) ∧ ∀ t ∈ l, RtR w t.1 t.2
theorem TsR.hp {w0 w : World} {sg : V.Sg} {p : Option Addr} {l : List TR} (h : TsR w0 p l) (hw : Hp ⟨w0, []⟩ sg w) : TsR w p l := ⟨slAt_hp h.1 hw, fun t ht => (h.2 t ht).hp hw⟩
theorem map_atT {l : List TR} {k : Nat} {x : RT} (h : (l.map Prod.fst)[k]? = some x) : ∃ y, l[k]? = some (x, y) := by
  rw [List.getElem?_map] at h
  cases hl : l[k]? with
  | none => rw [hl] at h; cases h
  | some y => rw [hl] at h; simp at h; exact ⟨y.2, by rw [← h]⟩
theorem anyT {l : List TR} {x : TX} {k : Nat} {y : TR} (hy : l[k]? = some y) (h : turnEq x y.2 = true) : ((0 : Int) ≤ (k : Nat)) = (amongF x (l.map Prod.snd) = true) := by
  simp only [eq_iff_iff]
  exact ⟨fun _ => List.any_eq_true.2 ⟨y.2, List.mem_map.2 ⟨y, List.mem_of_getElem? hy, rfl⟩, h⟩, fun _ => by omega⟩
theorem noneT {l : List TR} {x : TX} (h : ∀ y ∈ l, turnEq x y.2 = false) : amongF x (l.map Prod.snd) = false := by
  unfold amongF
  rw [List.any_eq_false]
  intro y hy
  obtain ⟨z, hz, rfl⟩ := List.mem_map.1 hy
  rw [h z hz]; decide
theorem noneT2 {l : List TR} {x : TX} (h : ∀ y ∈ l, turnEq x y.2 = false) : ((0 : Int) ≤ -1) = (amongF x (l.map Prod.snd) = true) := by
  rw [noneT h]
  simp only [eq_iff_iff]
  exact ⟨fun h => by omega, fun h => by cases h⟩
theorem upT {l : List TR} {x : TX} {k : Nat} {y : TR} (h : ∀ z ∈ l.take k, turnEq x z.2 = false) (hy : l[k]? = some y) (hn : turnEq x y.2 = false) : ∀ z ∈ l.take (k + 1), turnEq x z.2 = false := fun z hz => by
  rw [List.take_add_one, hy] at hz
  rcases List.mem_append.1 hz with h9 | h9
  · exact h z h9
  · obtain rfl : z = y := by simpa using h9
    exact hn
theorem amgIx_c (tx : RT) (x : TX) (b : Nat) (l : List TR) (p : Option Addr) (n c : Nat) (hn : n = l.length) (hl : l.length ≤ 1000) (w : World) (hx : RtR w tx x) (hT : TsR w p l) (hb : w.heap[b]? = some (.cells (rtC tx).toArray 36 (0, 0))) : Calls Tryz.prog 65 [.slice p n c, .func (.func 32) #[] #[.pointer (some ⟨b, 0, none⟩)]].toArray w fun e w' => ∃ i : Int, ((0 ≤ i) = (amongF x (l.map Prod.snd) = true)) ∧ e = .returned (.int .i64 i) ∧ Below w.heap.size w w' := by
  subst hn
  refine V.calls [] Tryz.func65 rfl Tryz.ntmps65 (Nat.le_of_ble_eq_true rfl) (V.sat_nil _) ?_
  refine CW.seq ?_
  refine CW.region ?_
  refine LW.v rfl rfl (Val.assign rfl) ?_
  refine LW.nil ?_
  refine PQ.seq ?_
  refine CW.seq ?_
  refine CW.seq ?_
  refine CW.region ?_
  refine LW.v rfl rfl (Val.move rfl) ?_
  refine LW.v rfl rfl (Val.lenSl rfl Tryz.underlying25) ?_
  refine LW.v rfl rfl (Val.move rfl) ?_
  refine LW.nil ?_
  refine PQ.seq ?_
  refine CW.block ?_
  refine CW.loop (γ := Nat) (fun k => [(0, .slice p l.length c), (1, .func (.func 32) #[] #[.pointer (some ⟨b, 0, none⟩)]), (7, .int .i64 (l.length : Nat)), (8, .int .i64 (k : Nat))]) (fun _ => []) (fun k => k ≤ l.length ∧ ∀ z ∈ l.take k, turnEq x z.2 = false) (fun k => l.length - k) (0) ⟨Nat.zero_le _, by simp⟩ (by repeat (first | exact trivial | refine ⟨rfl, ?_⟩)) (by repeat (first | exact .nil | apply Pick.cons | exact .here | apply Ext.there)) ?_
  intro k
  rintro ⟨hk1, hk2⟩
  refine CW.seq ?_
  refine CW.region ?_
  refine LW.v rfl rfl (Val.cmp rfl rfl rfl) ?_
  refine LW.nil ?_
  refine PQ.seq ?_
  refine CW.seq ?_
  refine CW.cond rfl (fun h9 => ?_) (fun h9 => ?_)
  · replace h9 := bT h9
    have hk9 : k < l.length := by omega
    obtain ⟨bb1, o1, ty, rfl, hb1, hx1, hr1⟩ := V.slAt_at hT.1 (by simp) (k := k) hk9
    obtain ⟨y, hl1⟩ := map_atT hx1
    refine CW.skip ?_
    refine PQ.seq ?_
    refine CW.seq ?_
    refine CW.block ?_
    refine CW.seq ?_
    refine CW.region ?_
    refine LW.v rfl rfl (Val.move rfl) ?_
    refine LW.v rfl rfl (Val.assign rfl) ?_
    refine LW.nil ?_
    refine PQ.seq ?_
    refine CW.seq ?_
    refine CW.region ?_
    refine LW.v rfl rfl (Val.move rfl) ?_
    refine LW.v rfl rfl (Val.move rfl) ?_
    refine LW.v rfl rfl (Val.move rfl) ?_
    first | (refine LW.v rfl rfl (Val.indexAddrN rfl rfl Tryz.underlying25 Tryz.sizeOf36 (by omega)) ?_) | (refine LW.v rfl rfl (Val.indexAddr rfl rfl Tryz.underlying25 Tryz.sizeOf36 (by omega) (by omega)) ?_)
    refine LW.v rfl rfl (Val.loadOA rfl Tryz.isAgg36 hb1 (by simp [ids]) (hr1 k ty hx1) Tryz.sizeOf36) ?_
    refine LW.e rfl rfl (Eff.callFV (f := 32) (caps := [.pointer (some ⟨b, 0, none⟩)]) rfl rfl Tryz.call32 (fun w hw => amg_c tx ty x y b w (hx.hp hw) ((hT.2 _ (List.mem_of_getElem? hl1)).hp hw) ((hw.below.block b (V.lt_of_some hb)).trans hb))) ?_
    intro _ _
    refine LW.nil ?_
    refine PQ.seq ?_
    refine CW.cond rfl (fun h16 => ?_) (fun h16 => ?_)
    · replace h16 := bT h16
      have h16 : turnEq x y = true := h16
      refine CW.seq ?_
      refine CW.region ?_
      refine LW.v rfl rfl (Val.move rfl) ?_
      refine LW.v rfl rfl (Val.assign rfl) ?_
      refine LW.nil ?_
      refine PQ.seq ?_
      refine CW.ret ?_
      refine PQ.in_ret ?_
      refine PQ.then_ret ?_
      refine PQ.then_ret ?_
      refine PQ.in_ret ?_
      refine PQ.then_ret ?_
      refine PQ.ret1 rfl rfl ?_
      intro w' hw; exact ⟨(k : Nat), anyT hl1 h16, rfl, hw.below⟩
    · replace h16 := bF h16
      have h16 : turnEq x y = false := h16
      refine CW.skip ?_
      refine PQ.in_normal ?_
      refine PQ.seq ?_
      refine CW.region ?_
      refine LW.v rfl rfl (Val.ar rfl rfl rfl (IntWalk.i64_in _ (by omega))) ?_
      refine LW.v rfl rfl (Val.move rfl) ?_
      refine LW.nil ?_
      refine PQ.round (k + 1) ⟨by omega, upT hk2 hl1 h16⟩ (by omega) (by repeat (first | exact trivial | refine ⟨rfl, ?_⟩)) (by repeat (first | exact .nil | apply Pick.cons | exact .here | apply Ext.there))
  · replace h9 := bF h9
    have hk9 : l.length ≤ k := by omega
    refine CW.exit ?_
    refine PQ.then_exit ?_
    refine PQ.then_exit ?_
    refine PQ.in_here ?_
    refine PQ.seq ?_
    refine CW.seq ?_
    refine CW.region ?_
    refine LW.v rfl rfl (Val.assign rfl) ?_
    refine LW.nil ?_
    refine PQ.seq ?_
    refine CW.ret ?_
    refine PQ.ret1 rfl rfl ?_
    intro w' hw; exact ⟨-1, noneT2 (fun z hz => hk2 z (by rw [List.take_of_length_le hk9]; exact hz)), rfl, hw.below⟩
theorem amgC_c (tx : RT) (x : TX) (b : Nat) (l : List TR) (p : Option Addr) (n c : Nat) (hn : n = l.length) (hl : l.length ≤ 1000) (w : World) (hx : RtR w tx x) (hT : TsR w p l) (hb : w.heap[b]? = some (.cells (rtC tx).toArray 36 (0, 0))) : Calls Tryz.prog 31 [.slice p n c, .func (.func 32) #[] #[.pointer (some ⟨b, 0, none⟩)]].toArray w fun e w' => e = .returned (.bool (amongF x (l.map Prod.snd))) ∧ Below w.heap.size w w' := by
  refine V.calls [] Tryz.func31 rfl Tryz.ntmps31 (Nat.le_of_ble_eq_true rfl) (V.sat_nil _) ?_
  refine CW.seq ?_
  refine CW.region ?_
  refine LW.v rfl rfl (Val.assign rfl) ?_
  refine LW.nil ?_
  refine PQ.seq ?_
  refine CW.seq ?_
  refine CW.region ?_
  refine LW.v rfl rfl (Val.move rfl) ?_
  refine LW.v rfl rfl (Val.move rfl) ?_
  refine LW.e rfl rfl (Eff.callR rfl Tryz.call65 (fun w hw => amgIx_c tx x b l p n c hn hl w (hx.hp hw) (hT.hp hw) ((hw.below.block b (V.lt_of_some hb)).trans hb))) ?_
  intro i hi
  refine LW.v rfl rfl (Val.cmp rfl rfl rfl) ?_
  refine LW.v rfl rfl (Val.assign rfl) ?_
  refine LW.nil ?_
  refine PQ.seq ?_
  refine CW.ret ?_
  refine PQ.ret1 rfl rfl ?_
  intro w' hw; exact ⟨by congr 2; rw [Bool.eq_iff_iff, decide_eq_true_eq, hi], hw.below⟩
theorem among_c (tx : RT) (x : TX) (l : List TR) (p : Option Addr) (n c : Nat) (hn : n = l.length) (hl : l.length ≤ 1000) (w : World) (hx : RtR w tx x) (hT : TsR w p l) : Calls Tryz.prog 16 [.agg (rtC tx).toArray, .slice p n c].toArray w fun e w' => e = .returned (.bool (amongF x (l.map Prod.snd))) ∧ Below w.heap.size w w' := by
  refine V.calls [] Tryz.func16 rfl Tryz.ntmps16 (Nat.le_of_ble_eq_true rfl) (V.sat_nil _) ?_
  refine CW.seq ?_
  refine CW.region ?_
  refine LW.e rfl rfl (Eff.boxA rfl) ?_
  intro b2 _
  refine LW.v rfl rfl (Val.assign rfl) ?_
  refine LW.nil ?_
  refine PQ.seq ?_
  refine CW.seq ?_
  refine CW.region ?_
  refine LW.v rfl rfl (Val.move rfl) ?_
  refine LW.v rfl rfl (Val.makeFunc rfl rfl) ?_
  refine LW.e rfl rfl (Eff.callV rfl Tryz.call31 (fun w hw => amgC_c tx x b2 l p n c hn hl w (hx.hp hw) (hT.hp hw) (hw.own (b2, .cells (rtC tx).toArray 36 (0, 0)) (by simp)))) ?_
  intro _ _
  refine LW.v rfl rfl (Val.assign rfl) ?_
  refine LW.nil ?_
  refine PQ.seq ?_
  refine CW.ret ?_
  refine PQ.ret1 rfl rfl ?_
  intro w' hw; exact ⟨rfl, hw.below⟩
end I
end Go.Proofs.YtlpbjmbgopfkhaaGreat

/- What the laws on all that can come out compare with: the weight of calls, lists, answers, the order of rows. -/
namespace Go.Proofs.YtlpbjmbgopfkhaaGreat
open Go Go.RowKit V
set_option linter.unusedVariables false
set_option maxRecDepth 100000
namespace I
open V (str byC ownV ownG ownS ownOk)
def Cal.le (c : Cal) (m : Int) : Prop := (c.key.length : Int) ≤ m ∧ (c.val.length : Int) ≤ m ∧ (c.to.length : Int) ≤ m
theorem weight_c (c : Cal) (gl : List Cal) (most : Int) (w : World) (hm : 0 ≤ most ∧ most ≤ 100000) (hR : CalR w c gl) : Calls Tryz.prog 22 [.agg (calC c).toArray, .int .i64 most].toArray w
    fun e w' => ∃ z : Int, (z ≤ most → (gl.length : Int) ≤ most ∧ c.le most) ∧ e = .returned (.int .i64 z) ∧ Below w.heap.size w w' := by
  obtain ⟨⟨hg0, _⟩, hs⟩ := hR
  have hg := hg0.symm
  refine V.calls [] Tryz.func22 rfl Tryz.ntmps22 (Nat.le_of_ble_eq_true rfl) (V.sat_nil _) ?_
  refine CW.seq ?_
  refine CW.region ?_
  refine LW.e rfl rfl (Eff.boxA rfl) ?_
  intro b2 _
  refine LW.v rfl rfl (Val.assign rfl) ?_
  refine LW.nil ?_
  refine PQ.seq ?_
  refine CW.seq ?_
  refine CW.region ?_
  refine LW.v rfl rfl (Val.assign rfl) ?_
  refine LW.nil ?_
  refine PQ.seq ?_
  refine CW.seq ?_
  refine CW.seq ?_
  refine CW.region ?_
  refine LW.v rfl rfl (Val.fieldAddr 1 rfl Tryz.underlying52 rfl rfl Tryz.sizeOf9) ?_
  refine LW.v rfl rfl (Val.load rfl Tryz.isAgg9 (by repeat (first | exact .here | exact .inner .here | exact .inner (.inner .here) | refine .there ?_)) (by rfl)) ?_
  refine LW.v rfl rfl (Val.lenStr rfl Tryz.underlying9) ?_
  refine LW.v rfl rfl (Val.move rfl) ?_
  refine LW.v rfl rfl (Val.cmp rfl rfl rfl) ?_
  refine LW.v rfl rfl (Val.move rfl) ?_
  refine LW.split (d := 13) rfl (fun h13 => ?_) (fun h13 => ?_)
  · replace h13 := bT h13
    refine LW.p rfl rfl ?_
    refine LW.p rfl rfl ?_
    refine LW.p rfl rfl ?_
    refine LW.p rfl rfl ?_
    refine LW.p rfl rfl ?_
    refine LW.v rfl rfl (Val.pick_t rfl rfl) ?_
    refine LW.v rfl rfl (Val.move rfl) ?_
    refine LW.p rfl rfl ?_
    refine LW.p rfl rfl ?_
    refine LW.p rfl rfl ?_
    refine LW.p rfl rfl ?_
    refine LW.p rfl rfl ?_
    refine LW.v rfl rfl (Val.pick_t rfl rfl) ?_
    refine LW.v rfl rfl (Val.move rfl) ?_
    refine LW.p rfl rfl ?_
    refine LW.p rfl rfl ?_
    refine LW.p rfl rfl ?_
    refine LW.p rfl rfl ?_
    refine LW.p rfl rfl ?_
    refine LW.v rfl rfl (Val.pick_t rfl rfl) ?_
    refine LW.nil ?_
    refine PQ.seq ?_
    refine CW.cond_t rfl ?_
    refine CW.seq ?_
    refine CW.region ?_
    refine LW.v rfl rfl (Val.move rfl) ?_
    refine LW.v rfl rfl (Val.ar rfl rfl rfl (IntWalk.i64_in _ (by omega))) ?_
    refine LW.v rfl rfl (Val.assign rfl) ?_
    refine LW.nil ?_
    refine PQ.seq ?_
    refine CW.ret ?_
    refine PQ.then_ret ?_
    refine PQ.ret1 rfl rfl ?_
    intro w hw; exact ⟨_, fun h => by omega, rfl, hw.below⟩
  · replace h13 := bF h13
    refine LW.v rfl rfl (Val.fieldAddr 2 rfl Tryz.underlying52 rfl rfl Tryz.sizeOf9) ?_
    refine LW.v rfl rfl (Val.load rfl Tryz.isAgg9 (by repeat (first | exact .here | exact .inner .here | exact .inner (.inner .here) | refine .there ?_)) (by rfl)) ?_
    refine LW.v rfl rfl (Val.lenStr rfl Tryz.underlying9) ?_
    refine LW.v rfl rfl (Val.move rfl) ?_
    refine LW.v rfl rfl (Val.cmp rfl rfl rfl) ?_
    refine LW.v rfl rfl (Val.pick_f rfl rfl) ?_
    refine LW.v rfl rfl (Val.move rfl) ?_
    refine LW.split (d := 20) rfl (fun h20 => ?_) (fun h20 => ?_)
    · replace h20 := bT h20
      refine LW.p rfl rfl ?_
      refine LW.p rfl rfl ?_
      refine LW.p rfl rfl ?_
      refine LW.p rfl rfl ?_
      refine LW.p rfl rfl ?_
      refine LW.v rfl rfl (Val.pick_t rfl rfl) ?_
      refine LW.v rfl rfl (Val.move rfl) ?_
      refine LW.p rfl rfl ?_
      refine LW.p rfl rfl ?_
      refine LW.p rfl rfl ?_
      refine LW.p rfl rfl ?_
      refine LW.p rfl rfl ?_
      refine LW.v rfl rfl (Val.pick_t rfl rfl) ?_
      refine LW.nil ?_
      refine PQ.seq ?_
      refine CW.cond_t rfl ?_
      refine CW.seq ?_
      refine CW.region ?_
      refine LW.v rfl rfl (Val.move rfl) ?_
      refine LW.v rfl rfl (Val.ar rfl rfl rfl (IntWalk.i64_in _ (by omega))) ?_
      refine LW.v rfl rfl (Val.assign rfl) ?_
      refine LW.nil ?_
      refine PQ.seq ?_
      refine CW.ret ?_
      refine PQ.then_ret ?_
      refine PQ.ret1 rfl rfl ?_
      intro w hw; exact ⟨_, fun h => by omega, rfl, hw.below⟩
    · replace h20 := bF h20
      refine LW.v rfl rfl (Val.fieldAddr 3 rfl Tryz.underlying52 rfl rfl Tryz.sizeOf9) ?_
      refine LW.v rfl rfl (Val.load rfl Tryz.isAgg9 (by repeat (first | exact .here | exact .inner .here | exact .inner (.inner .here) | refine .there ?_)) (by rfl)) ?_
      refine LW.v rfl rfl (Val.lenStr rfl Tryz.underlying9) ?_
      refine LW.v rfl rfl (Val.move rfl) ?_
      refine LW.v rfl rfl (Val.cmp rfl rfl rfl) ?_
      refine LW.v rfl rfl (Val.pick_f rfl rfl) ?_
      refine LW.v rfl rfl (Val.move rfl) ?_
      refine LW.split (d := 27) rfl (fun h27 => ?_) (fun h27 => ?_)
      · replace h27 := bT h27
        refine LW.p rfl rfl ?_
        refine LW.p rfl rfl ?_
        refine LW.p rfl rfl ?_
        refine LW.p rfl rfl ?_
        refine LW.p rfl rfl ?_
        refine LW.v rfl rfl (Val.pick_t rfl rfl) ?_
        refine LW.nil ?_
        refine PQ.seq ?_
        refine CW.cond_t rfl ?_
        refine CW.seq ?_
        refine CW.region ?_
        refine LW.v rfl rfl (Val.move rfl) ?_
        refine LW.v rfl rfl (Val.ar rfl rfl rfl (IntWalk.i64_in _ (by omega))) ?_
        refine LW.v rfl rfl (Val.assign rfl) ?_
        refine LW.nil ?_
        refine PQ.seq ?_
        refine CW.ret ?_
        refine PQ.then_ret ?_
        refine PQ.ret1 rfl rfl ?_
        intro w hw; exact ⟨_, fun h => by omega, rfl, hw.below⟩
      · replace h27 := bF h27
        refine LW.v rfl rfl (Val.fieldAddr 4 rfl Tryz.underlying52 rfl rfl Tryz.sizeOf22) ?_
        refine LW.v rfl rfl (Val.load rfl Tryz.isAgg22 (by repeat (first | exact .here | exact .inner .here | exact .inner (.inner .here) | refine .there ?_)) (by rfl)) ?_
        refine LW.v rfl rfl (Val.lenSl rfl Tryz.underlying22) ?_
        refine LW.v rfl rfl (Val.move rfl) ?_
        refine LW.v rfl rfl (Val.cmp rfl rfl rfl) ?_
        refine LW.v rfl rfl (Val.pick_f rfl rfl) ?_
        refine LW.nil ?_
        refine PQ.seq ?_
        refine CW.cond rfl (fun h33 => ?_) (fun h33 => ?_)
        · replace h33 := bT h33
          refine CW.seq ?_
          refine CW.region ?_
          refine LW.v rfl rfl (Val.move rfl) ?_
          refine LW.v rfl rfl (Val.ar rfl rfl rfl (IntWalk.i64_in _ (by omega))) ?_
          refine LW.v rfl rfl (Val.assign rfl) ?_
          refine LW.nil ?_
          refine PQ.seq ?_
          refine CW.ret ?_
          refine PQ.then_ret ?_
          refine PQ.ret1 rfl rfl ?_
          intro w hw; exact ⟨_, fun h => by omega, rfl, hw.below⟩
        · replace h33 := bF h33
          refine CW.skip ?_
          refine PQ.seq ?_
          refine CW.seq ?_
          refine CW.region ?_
          refine LW.v rfl rfl (Val.fieldAddr 1 rfl Tryz.underlying52 rfl rfl Tryz.sizeOf9) ?_
          refine LW.v rfl rfl (Val.load rfl Tryz.isAgg9 (by repeat (first | exact .here | exact .inner .here | exact .inner (.inner .here) | refine .there ?_)) (by rfl)) ?_
          refine LW.v rfl rfl (Val.lenStr rfl Tryz.underlying9) ?_
          refine LW.v rfl rfl (Val.fieldAddr 2 rfl Tryz.underlying52 rfl rfl Tryz.sizeOf9) ?_
          refine LW.v rfl rfl (Val.load rfl Tryz.isAgg9 (by repeat (first | exact .here | exact .inner .here | exact .inner (.inner .here) | refine .there ?_)) (by rfl)) ?_
          refine LW.v rfl rfl (Val.lenStr rfl Tryz.underlying9) ?_
          refine LW.v rfl rfl (Val.ar rfl rfl rfl (IntWalk.i64_in _ (by omega))) ?_
          refine LW.v rfl rfl (Val.fieldAddr 3 rfl Tryz.underlying52 rfl rfl Tryz.sizeOf9) ?_
          refine LW.v rfl rfl (Val.load rfl Tryz.isAgg9 (by repeat (first | exact .here | exact .inner .here | exact .inner (.inner .here) | refine .there ?_)) (by rfl)) ?_
          refine LW.v rfl rfl (Val.lenStr rfl Tryz.underlying9) ?_
          refine LW.v rfl rfl (Val.ar rfl rfl rfl (IntWalk.i64_in _ (by omega))) ?_
          refine LW.v rfl rfl (Val.assign rfl) ?_
          refine LW.nil ?_
          refine PQ.seq ?_
          refine CW.seq ?_
          refine CW.seq ?_
          refine CW.region ?_
          refine LW.v rfl rfl (Val.assign rfl) ?_
          refine LW.nil ?_
          refine PQ.seq ?_
          refine CW.block ?_
          refine CW.loop (γ := Nat × Int) (fun k => [(1, .int .i64 most), (2, .pointer (some ⟨b2, 0, none⟩)), (5, .int .i64 k.2), (6, .int .i64 (k.1 : Nat))]) (fun _ => [[(b2, .cells (calC c).toArray 52 (0, 0))]]) (fun k => k.1 ≤ gl.length ∧ ((c.key.length : Int) ≤ k.2 ∧ (c.val.length : Int) ≤ k.2 ∧ (c.to.length : Int) ≤ k.2 ∧ 0 ≤ k.2) ∧ k.2 ≤ 4 * most) (fun k => gl.length - k.1) ((0, (c.key.length : Int) + (c.val.length : Int) + (c.to.length : Int))) ⟨Nat.zero_le _, ⟨by simp only; omega, by simp only; omega, by simp only; omega, by simp only; omega⟩, by simp only; omega⟩ (by repeat (first | exact trivial | refine ⟨rfl, ?_⟩)) (by repeat (first | exact .nil | apply Pick.cons | exact .here | apply Ext.there)) ?_
          intro k
          rintro ⟨hk0, ⟨hk1a, hk1b, hk1c, hk1⟩, hk2⟩
          refine CW.seq ?_
          refine CW.seq ?_
          refine CW.region ?_
          refine LW.v rfl rfl (Val.move rfl) ?_
          refine LW.v rfl rfl (Val.fieldAddr 4 rfl Tryz.underlying52 rfl rfl Tryz.sizeOf22) ?_
          refine LW.v rfl rfl (Val.load rfl Tryz.isAgg22 (by repeat (first | exact .here | exact .inner .here | exact .inner (.inner .here) | refine .there ?_)) (by rfl)) ?_
          refine LW.v rfl rfl (Val.lenSl rfl Tryz.underlying22) ?_
          refine LW.v rfl rfl (Val.cmp rfl rfl rfl) ?_
          refine LW.v rfl rfl (Val.move rfl) ?_
          refine LW.split (d := 52) rfl (fun h52 => ?_) (fun h52 => ?_)
          · replace h52 := bT h52
            refine LW.v rfl rfl (Val.move rfl) ?_
            refine LW.v rfl rfl (Val.move rfl) ?_
            refine LW.v rfl rfl (Val.cmp rfl rfl rfl) ?_
            refine LW.v rfl rfl (Val.pick_t rfl rfl) ?_
            refine LW.nil ?_
            refine PQ.seq ?_
            refine CW.cond rfl (fun h56 => ?_) (fun h56 => ?_)
            · replace h56 := bT h56
              refine CW.skip ?_
              refine PQ.seq ?_
              refine CW.seq ?_
              refine CW.block ?_
              refine CW.seq ?_
              refine CW.region ?_
              refine LW.v rfl rfl (Val.fieldAddr 4 rfl Tryz.underlying52 rfl rfl Tryz.sizeOf22) ?_
              refine LW.v rfl rfl (Val.load rfl Tryz.isAgg22 (by repeat (first | exact .here | exact .inner .here | exact .inner (.inner .here) | refine .there ?_)) (by rfl)) ?_
              refine LW.v rfl rfl (Val.move rfl) ?_
              obtain ⟨bg, og, x', hpa, hbg, hx, hr⟩ := V.slAt_at hs hg (k := k.1) (by omega)
              refine LW.re 60 (.slice (some ⟨bg, og, none⟩) c.gn c.gc) rfl (by rw [hpa]) ?_
              first | (refine LW.v rfl rfl (Val.indexAddrN rfl rfl Tryz.underlying22 Tryz.sizeOf52 (by omega)) ?_) | (refine LW.v rfl rfl (Val.indexAddr rfl rfl Tryz.underlying22 Tryz.sizeOf52 (by omega) (by omega)) ?_)
              refine LW.v rfl rfl (Val.loadOA rfl Tryz.isAgg52 hbg (by simp [ids]) (hr _ _ hx) Tryz.sizeOf52) ?_
              refine LW.e rfl rfl (Eff.allocA (by exact Tryz.zeroValue52)) ?_
              intro b7 _
              first | (refine LW.eN rfl (Eff.storeW rfl rfl (by repeat (first | exact .here | exact .inner .here | exact .inner (.inner .here) | apply Upd.there)) (by rfl) Tryz.sizeOf52 (by rfl)) ?_) | (refine LW.eN rfl (Eff.storeA (l' := _) rfl rfl (by repeat (first | exact .here | exact .inner .here | exact .inner (.inner .here) | apply Upd.there)) (by rfl) (by decide) Tryz.sizeOf52 (by rfl)) ?_)
              intro _ _
              refine LW.nil ?_
              refine PQ.seq ?_
              refine CW.seq ?_
              refine CW.seq ?_
              refine CW.region ?_
              refine LW.v rfl rfl (Val.fieldAddr 1 rfl Tryz.underlying52 rfl rfl Tryz.sizeOf9) ?_
              refine LW.v rfl rfl (Val.load rfl Tryz.isAgg9 (by repeat (first | exact .here | exact .inner .here | exact .inner (.inner .here) | refine .there ?_)) (by rfl)) ?_
              refine LW.v rfl rfl (Val.lenStr rfl Tryz.underlying9) ?_
              refine LW.v rfl rfl (Val.move rfl) ?_
              refine LW.v rfl rfl (Val.cmp rfl rfl rfl) ?_
              refine LW.v rfl rfl (Val.move rfl) ?_
              refine LW.split (d := 69) rfl (fun h69 => ?_) (fun h69 => ?_)
              · replace h69 := bT h69
                refine LW.p rfl rfl ?_
                refine LW.p rfl rfl ?_
                refine LW.p rfl rfl ?_
                refine LW.p rfl rfl ?_
                refine LW.p rfl rfl ?_
                refine LW.v rfl rfl (Val.pick_t rfl rfl) ?_
                refine LW.v rfl rfl (Val.move rfl) ?_
                refine LW.p rfl rfl ?_
                refine LW.p rfl rfl ?_
                refine LW.p rfl rfl ?_
                refine LW.p rfl rfl ?_
                refine LW.p rfl rfl ?_
                refine LW.v rfl rfl (Val.pick_t rfl rfl) ?_
                refine LW.v rfl rfl (Val.move rfl) ?_
                refine LW.p rfl rfl ?_
                refine LW.p rfl rfl ?_
                refine LW.p rfl rfl ?_
                refine LW.p rfl rfl ?_
                refine LW.v rfl rfl (Val.pick_t rfl rfl) ?_
                refine LW.nil ?_
                refine PQ.seq ?_
                refine CW.cond_t rfl ?_
                refine CW.seq ?_
                refine CW.region ?_
                refine LW.v rfl rfl (Val.move rfl) ?_
                refine LW.v rfl rfl (Val.ar rfl rfl rfl (IntWalk.i64_in _ (by omega))) ?_
                refine LW.v rfl rfl (Val.assign rfl) ?_
                refine LW.nil ?_
                refine PQ.seq ?_
                refine CW.ret ?_
                refine PQ.then_ret ?_
                refine PQ.in_ret ?_
                refine PQ.then_ret ?_
                refine PQ.then_ret ?_
                refine PQ.in_ret ?_
                refine PQ.then_ret ?_
                refine PQ.ret1 rfl rfl ?_
                intro w hw; exact ⟨_, fun h => by omega, rfl, hw.below⟩
              · replace h69 := bF h69
                refine LW.v rfl rfl (Val.fieldAddr 2 rfl Tryz.underlying52 rfl rfl Tryz.sizeOf9) ?_
                refine LW.v rfl rfl (Val.load rfl Tryz.isAgg9 (by repeat (first | exact .here | exact .inner .here | exact .inner (.inner .here) | refine .there ?_)) (by rfl)) ?_
                refine LW.v rfl rfl (Val.lenStr rfl Tryz.underlying9) ?_
                refine LW.v rfl rfl (Val.move rfl) ?_
                refine LW.v rfl rfl (Val.cmp rfl rfl rfl) ?_
                refine LW.v rfl rfl (Val.pick_f rfl rfl) ?_
                refine LW.v rfl rfl (Val.move rfl) ?_
                refine LW.split (d := 76) rfl (fun h76 => ?_) (fun h76 => ?_)
                · replace h76 := bT h76
                  refine LW.p rfl rfl ?_
                  refine LW.p rfl rfl ?_
                  refine LW.p rfl rfl ?_
                  refine LW.p rfl rfl ?_
                  refine LW.p rfl rfl ?_
                  refine LW.v rfl rfl (Val.pick_t rfl rfl) ?_
                  refine LW.v rfl rfl (Val.move rfl) ?_
                  refine LW.p rfl rfl ?_
                  refine LW.p rfl rfl ?_
                  refine LW.p rfl rfl ?_
                  refine LW.p rfl rfl ?_
                  refine LW.v rfl rfl (Val.pick_t rfl rfl) ?_
                  refine LW.nil ?_
                  refine PQ.seq ?_
                  refine CW.cond_t rfl ?_
                  refine CW.seq ?_
                  refine CW.region ?_
                  refine LW.v rfl rfl (Val.move rfl) ?_
                  refine LW.v rfl rfl (Val.ar rfl rfl rfl (IntWalk.i64_in _ (by omega))) ?_
                  refine LW.v rfl rfl (Val.assign rfl) ?_
                  refine LW.nil ?_
                  refine PQ.seq ?_
                  refine CW.ret ?_
                  refine PQ.then_ret ?_
                  refine PQ.in_ret ?_
                  refine PQ.then_ret ?_
                  refine PQ.then_ret ?_
                  refine PQ.in_ret ?_
                  refine PQ.then_ret ?_
                  refine PQ.ret1 rfl rfl ?_
                  intro w hw; exact ⟨_, fun h => by omega, rfl, hw.below⟩
                · replace h76 := bF h76
                  refine LW.v rfl rfl (Val.fieldAddr 3 rfl Tryz.underlying52 rfl rfl Tryz.sizeOf9) ?_
                  refine LW.v rfl rfl (Val.load rfl Tryz.isAgg9 (by repeat (first | exact .here | exact .inner .here | exact .inner (.inner .here) | refine .there ?_)) (by rfl)) ?_
                  refine LW.v rfl rfl (Val.lenStr rfl Tryz.underlying9) ?_
                  refine LW.v rfl rfl (Val.move rfl) ?_
                  refine LW.v rfl rfl (Val.cmp rfl rfl rfl) ?_
                  refine LW.v rfl rfl (Val.pick_f rfl rfl) ?_
                  refine LW.v rfl rfl (Val.move rfl) ?_
                  refine LW.split (d := 83) rfl (fun h83 => ?_) (fun h83 => ?_)
                  · replace h83 := bT h83
                    refine LW.p rfl rfl ?_
                    refine LW.p rfl rfl ?_
                    refine LW.p rfl rfl ?_
                    refine LW.p rfl rfl ?_
                    refine LW.v rfl rfl (Val.pick_t rfl rfl) ?_
                    refine LW.nil ?_
                    refine PQ.seq ?_
                    refine CW.cond_t rfl ?_
                    refine CW.seq ?_
                    refine CW.region ?_
                    refine LW.v rfl rfl (Val.move rfl) ?_
                    refine LW.v rfl rfl (Val.ar rfl rfl rfl (IntWalk.i64_in _ (by omega))) ?_
                    refine LW.v rfl rfl (Val.assign rfl) ?_
                    refine LW.nil ?_
                    refine PQ.seq ?_
                    refine CW.ret ?_
                    refine PQ.then_ret ?_
                    refine PQ.in_ret ?_
                    refine PQ.then_ret ?_
                    refine PQ.then_ret ?_
                    refine PQ.in_ret ?_
                    refine PQ.then_ret ?_
                    refine PQ.ret1 rfl rfl ?_
                    intro w hw; exact ⟨_, fun h => by omega, rfl, hw.below⟩
                  · replace h83 := bF h83
                    refine LW.v rfl rfl (Val.fieldAddr 4 rfl Tryz.underlying52 rfl rfl Tryz.sizeOf22) ?_
                    refine LW.v rfl rfl (Val.load rfl Tryz.isAgg22 (by repeat (first | exact .here | exact .inner .here | exact .inner (.inner .here) | refine .there ?_)) (by rfl)) ?_
                    refine LW.v rfl rfl (Val.lenSl rfl Tryz.underlying22) ?_
                    refine LW.v rfl rfl (Val.cmp rfl rfl rfl) ?_
                    refine LW.v rfl rfl (Val.pick_f rfl rfl) ?_
                    refine LW.nil ?_
                    refine PQ.seq ?_
                    refine CW.cond rfl (fun h88 => ?_) (fun h88 => ?_)
                    · replace h88 := bT h88
                      refine CW.seq ?_
                      refine CW.region ?_
                      refine LW.v rfl rfl (Val.move rfl) ?_
                      refine LW.v rfl rfl (Val.ar rfl rfl rfl (IntWalk.i64_in _ (by omega))) ?_
                      refine LW.v rfl rfl (Val.assign rfl) ?_
                      refine LW.nil ?_
                      refine PQ.seq ?_
                      refine CW.ret ?_
                      refine PQ.then_ret ?_
                      refine PQ.in_ret ?_
                      refine PQ.then_ret ?_
                      refine PQ.then_ret ?_
                      refine PQ.in_ret ?_
                      refine PQ.then_ret ?_
                      refine PQ.ret1 rfl rfl ?_
                      intro w hw; exact ⟨_, fun h => by omega, rfl, hw.below⟩
                    · replace h88 := bF h88
                      refine CW.skip ?_
                      refine PQ.seq ?_
                      refine CW.region ?_
                      refine LW.v rfl rfl (Val.move rfl) ?_
                      refine LW.v rfl rfl (Val.fieldAddr 1 rfl Tryz.underlying52 rfl rfl Tryz.sizeOf9) ?_
                      refine LW.v rfl rfl (Val.load rfl Tryz.isAgg9 (by repeat (first | exact .here | exact .inner .here | exact .inner (.inner .here) | refine .there ?_)) (by rfl)) ?_
                      refine LW.v rfl rfl (Val.lenStr rfl Tryz.underlying9) ?_
                      refine LW.v rfl rfl (Val.ar rfl rfl rfl (IntWalk.i64_in _ (by omega))) ?_
                      refine LW.v rfl rfl (Val.fieldAddr 2 rfl Tryz.underlying52 rfl rfl Tryz.sizeOf9) ?_
                      refine LW.v rfl rfl (Val.load rfl Tryz.isAgg9 (by repeat (first | exact .here | exact .inner .here | exact .inner (.inner .here) | refine .there ?_)) (by rfl)) ?_
                      refine LW.v rfl rfl (Val.lenStr rfl Tryz.underlying9) ?_
                      refine LW.v rfl rfl (Val.ar rfl rfl rfl (IntWalk.i64_in _ (by omega))) ?_
                      refine LW.v rfl rfl (Val.fieldAddr 3 rfl Tryz.underlying52 rfl rfl Tryz.sizeOf9) ?_
                      refine LW.v rfl rfl (Val.load rfl Tryz.isAgg9 (by repeat (first | exact .here | exact .inner .here | exact .inner (.inner .here) | refine .there ?_)) (by rfl)) ?_
                      refine LW.v rfl rfl (Val.lenStr rfl Tryz.underlying9) ?_
                      refine LW.v rfl rfl (Val.ar rfl rfl rfl (IntWalk.i64_in _ (by omega))) ?_
                      refine LW.v rfl rfl (Val.assign rfl) ?_
                      refine LW.nil ?_
                      refine PQ.in_normal ?_
                      refine PQ.seq ?_
                      refine CW.region ?_
                      refine LW.v rfl rfl (Val.move rfl) ?_
                      refine LW.v rfl rfl (Val.ar rfl rfl rfl (IntWalk.i64_in _ (by omega))) ?_
                      refine LW.v rfl rfl (Val.assign rfl) ?_
                      refine LW.nil ?_
                      refine PQ.round ((k.1 + 1, k.2 + (x'.key.length : Int) + (x'.val.length : Int) + (x'.to.length : Int))) ⟨by simp only; omega, ⟨by simp only; omega, by simp only; omega, by simp only; omega, by simp only; omega⟩, by simp only; omega⟩ (by simp only; omega) (by repeat (first | exact trivial | refine ⟨rfl, ?_⟩)) (by repeat (first | exact .nil | apply Pick.cons | exact .here | apply Ext.there))
            · replace h56 := bF h56
              refine CW.exit ?_
              refine PQ.then_exit ?_
              refine PQ.then_exit ?_
              refine PQ.in_here ?_
              refine PQ.seq ?_
              refine CW.seq ?_
              refine CW.region ?_
              refine LW.v rfl rfl (Val.move rfl) ?_
              refine LW.v rfl rfl (Val.move rfl) ?_
              refine LW.v rfl rfl (Val.ar rfl rfl rfl (IntWalk.i64_in _ (by omega))) ?_
              refine LW.v rfl rfl (Val.minI rfl rfl) ?_
              refine LW.v rfl rfl (Val.assign rfl) ?_
              refine LW.nil ?_
              refine PQ.seq ?_
              refine CW.ret ?_
              refine PQ.ret1 rfl rfl ?_
              intro w hw; exact ⟨_, fun h => by split at h <;> omega, rfl, hw.below⟩
          · replace h52 := bF h52
            refine LW.p rfl rfl ?_
            refine LW.p rfl rfl ?_
            refine LW.p rfl rfl ?_
            refine LW.v rfl rfl (Val.pick_f rfl rfl) ?_
            refine LW.nil ?_
            refine PQ.seq ?_
            refine CW.cond_f rfl ?_
            refine CW.exit ?_
            refine PQ.then_exit ?_
            refine PQ.then_exit ?_
            refine PQ.in_here ?_
            refine PQ.seq ?_
            refine CW.seq ?_
            refine CW.region ?_
            refine LW.v rfl rfl (Val.move rfl) ?_
            refine LW.v rfl rfl (Val.move rfl) ?_
            refine LW.v rfl rfl (Val.ar rfl rfl rfl (IntWalk.i64_in _ (by omega))) ?_
            refine LW.v rfl rfl (Val.minI rfl rfl) ?_
            refine LW.v rfl rfl (Val.assign rfl) ?_
            refine LW.nil ?_
            refine PQ.seq ?_
            refine CW.ret ?_
            refine PQ.ret1 rfl rfl ?_
            intro w hw
            exact ⟨_, fun h => ⟨by omega, ⟨by omega, by omega, by omega⟩⟩, rfl, hw.below⟩
theorem map_atC {C : Crs} {k : Nat} {x : Cal} (h : (C.map Prod.fst)[k]? = some x) : ∃ y, C[k]? = some (x, y) := by
  rw [List.getElem?_map] at h
  cases hl : C[k]? with
  | none => rw [hl] at h; cases h
  | some y => rw [hl] at h; simp at h; exact ⟨y.2, by rw [← h]⟩
theorem heavy_c (C : Crs) (p : Option Addr) (n cap : Nat) (hn : n = C.length) (w : World) (hs : V.slAt w p 5 calC (C.map Prod.fst)) (ho : ∀ c ∈ C, CalR w c.1 c.2) : Calls Tryz.prog 7 [.slice p n cap].toArray w
    fun e' w' => ∃ x : Bool, (x = false → n ≤ 5 ∧ ∀ c ∈ C, c.2.length ≤ 600 ∧ c.1.le 600) ∧ e' = .returned (.bool x) ∧ Below w.heap.size w w' := by
  subst hn
  refine V.calls [] Tryz.func7 rfl Tryz.ntmps7 (Nat.le_of_ble_eq_true rfl) (V.sat_nil _) ?_
  refine CW.seq ?_
  refine CW.region ?_
  refine LW.v rfl rfl (Val.assign rfl) ?_
  refine LW.nil ?_
  refine PQ.seq ?_
  refine CW.seq ?_
  refine CW.seq ?_
  refine CW.region ?_
  refine LW.v rfl rfl (Val.move rfl) ?_
  refine LW.v rfl rfl (Val.lenSl rfl Tryz.underlying22) ?_
  refine LW.v rfl rfl (Val.cmp rfl rfl rfl) ?_
  refine LW.nil ?_
  refine PQ.seq ?_
  refine CW.cond rfl (fun h6 => ?_) (fun h6 => ?_)
  · replace h6 := bT h6
    refine CW.seq ?_
    refine CW.region ?_
    refine LW.v rfl rfl (Val.assign rfl) ?_
    refine LW.nil ?_
    refine PQ.seq ?_
    refine CW.ret ?_
    refine PQ.then_ret ?_
    refine PQ.ret1 rfl rfl ?_
    intro w hw; exact ⟨_, (fun h => by first | (cases h; done) | exact ⟨by omega, fun e he => by obtain ⟨i, hi⟩ := List.getElem?_of_mem he; exact hk2 i (by have := (List.getElem?_eq_some_iff.1 hi).1; omega) e hi⟩), rfl, hw.below⟩
  · replace h6 := bF h6
    refine CW.skip ?_
    refine PQ.seq ?_
    refine CW.seq ?_
    refine CW.seq ?_
    refine CW.region ?_
    refine LW.v rfl rfl (Val.assign rfl) ?_
    refine LW.nil ?_
    refine PQ.seq ?_
    refine CW.block ?_
    refine CW.loop (γ := Nat) (fun k => [(0, .slice p C.length cap), (3, .int .i64 (k : Nat))]) (fun _ => []) (fun k => k ≤ C.length ∧ ∀ i, i < k → ∀ e, C[i]? = some e → e.2.length ≤ 600 ∧ e.1.le 600) (fun k => C.length - k) (0) ⟨Nat.zero_le _, fun i hi => by omega⟩ (by repeat (first | exact trivial | refine ⟨rfl, ?_⟩)) (by repeat (first | exact .nil | apply Pick.cons | exact .here | apply Ext.there)) ?_
    intro k
    rintro ⟨hk1, hk2⟩
    refine CW.seq ?_
    refine CW.seq ?_
    refine CW.region ?_
    refine LW.v rfl rfl (Val.move rfl) ?_
    refine LW.v rfl rfl (Val.move rfl) ?_
    refine LW.v rfl rfl (Val.lenSl rfl Tryz.underlying22) ?_
    refine LW.v rfl rfl (Val.cmp rfl rfl rfl) ?_
    refine LW.nil ?_
    refine PQ.seq ?_
    refine CW.cond rfl (fun h10 => ?_) (fun h10 => ?_)
    · replace h10 := bT h10
      have hk9 : k < C.length := by omega
      obtain ⟨bb1, o1, x, rfl, hb1, hx1, hr1⟩ := V.slAt_at hs (by simp) (k := k) hk9
      obtain ⟨cl, hl1⟩ := map_atC hx1
      have hro := ho _ (List.mem_of_getElem? hl1)
      refine CW.skip ?_
      refine PQ.seq ?_
      refine CW.seq ?_
      refine CW.block ?_
      refine CW.seq ?_
      refine CW.region ?_
      refine LW.v rfl rfl (Val.move rfl) ?_
      refine LW.v rfl rfl (Val.move rfl) ?_
      first | (refine LW.v rfl rfl (Val.indexAddrN rfl rfl Tryz.underlying22 Tryz.sizeOf52 (by omega)) ?_) | (refine LW.v rfl rfl (Val.indexAddr rfl rfl Tryz.underlying22 Tryz.sizeOf52 (by omega) (by omega)) ?_)
      refine LW.v rfl rfl (Val.loadOA (cs := calC x) rfl Tryz.isAgg52 hb1 (by simp [ids]) (hr1 k x hx1) Tryz.sizeOf52) ?_
      refine LW.e rfl rfl (Eff.callR rfl Tryz.call22 (fun w hw => weight_c x cl 600 w (by omega) (hro.hp hw))) ?_
      intro z hz
      refine LW.v rfl rfl (Val.cmp rfl rfl rfl) ?_
      refine LW.nil ?_
      refine PQ.seq ?_
      refine CW.cond rfl (fun h18 => ?_) (fun h18 => ?_)
      · replace h18 := bT h18
        refine CW.seq ?_
        refine CW.region ?_
        refine LW.v rfl rfl (Val.assign rfl) ?_
        refine LW.nil ?_
        refine PQ.seq ?_
        refine CW.ret ?_
        refine PQ.in_ret ?_
        refine PQ.then_ret ?_
        refine PQ.then_ret ?_
        refine PQ.in_ret ?_
        refine PQ.then_ret ?_
        refine PQ.ret1 rfl rfl ?_
        intro w hw; exact ⟨_, (fun h => by first | (cases h; done) | exact ⟨by omega, fun e he => by obtain ⟨i, hi⟩ := List.getElem?_of_mem he; exact hk2 i (by have := (List.getElem?_eq_some_iff.1 hi).1; omega) e hi⟩), rfl, hw.below⟩
      · replace h18 := bF h18
        refine CW.skip ?_
        refine PQ.in_normal ?_
        refine PQ.seq ?_
        refine CW.region ?_
        refine LW.v rfl rfl (Val.move rfl) ?_
        refine LW.v rfl rfl (Val.ar rfl rfl rfl (IntWalk.i64_in _ (by omega))) ?_
        refine LW.v rfl rfl (Val.assign rfl) ?_
        refine LW.nil ?_
        refine PQ.round (k + 1) ⟨by omega, fun i hi y hy => by
          by_cases e1 : i = k
          · subst e1; rw [hl1] at hy; cases hy
            have h8 := hz (by omega)
            exact ⟨by have := h8.1; simp only; omega, h8.2⟩
          · exact hk2 i (by omega) y hy⟩ (by omega) (by repeat (first | exact trivial | refine ⟨rfl, ?_⟩)) (by repeat (first | exact .nil | apply Pick.cons | exact .here | apply Ext.there))
    · replace h10 := bF h10
      refine CW.exit ?_
      refine PQ.then_exit ?_
      refine PQ.then_exit ?_
      refine PQ.in_here ?_
      refine PQ.seq ?_
      refine CW.seq ?_
      refine CW.region ?_
      refine LW.v rfl rfl (Val.assign rfl) ?_
      refine LW.nil ?_
      refine PQ.seq ?_
      refine CW.ret ?_
      refine PQ.ret1 rfl rfl ?_
      intro w hw; exact ⟨_, (fun h => by first | (cases h; done) | exact ⟨by omega, fun e he => by obtain ⟨i, hi⟩ := List.getElem?_of_mem he; exact hk2 i (by have := (List.getElem?_eq_some_iff.1 hi).1; omega) e hi⟩), rfl, hw.below⟩
theorem sameBools_c (l1 l2 : List (Bool)) (p1 p2 : Option Addr) (n1 n2 c1 c2 : Nat) (hn1 : n1 = l1.length) (hn2 : n2 = l2.length) (hl : l1.length ≤ 9223372036854775807) (w : World) (h1 : V.slAt w p1 1 boE l1) (h2 : V.slAt w p2 1 boE l2) : Calls Tryz.prog 41 [.slice p1 n1 c1, .slice p2 n2 c2].toArray w fun e w' => e = .returned (.bool (decide (l1 = l2))) ∧ Below w.heap.size w w' := by
  subst hn1; subst hn2
  refine V.calls [] Tryz.func41 rfl Tryz.ntmps41 (Nat.le_of_ble_eq_true rfl) (V.sat_nil _) ?_
  refine CW.seq ?_
  refine CW.region ?_
  refine LW.v rfl rfl (Val.assign rfl) ?_
  refine LW.nil ?_
  refine PQ.seq ?_
  refine CW.seq ?_
  refine CW.seq ?_
  refine CW.region ?_
  refine LW.v rfl rfl (Val.move rfl) ?_
  refine LW.v rfl rfl (Val.lenSl rfl Tryz.underlying46) ?_
  refine LW.v rfl rfl (Val.move rfl) ?_
  refine LW.v rfl rfl (Val.lenSl rfl Tryz.underlying46) ?_
  refine LW.v rfl rfl (Val.cmp rfl rfl rfl) ?_
  refine LW.nil ?_
  refine PQ.seq ?_
  refine CW.cond rfl (fun h10 => ?_) (fun h10 => ?_)
  · replace h10 := bT h10
    refine CW.seq ?_
    refine CW.region ?_
    refine LW.v rfl rfl (Val.assign rfl) ?_
    refine LW.nil ?_
    refine PQ.seq ?_
    refine CW.ret ?_
    refine PQ.then_ret ?_
    refine PQ.ret1 rfl rfl ?_
    intro w' hw; exact ⟨by rw [decide_eq_false (fun e => h10 (by rw [e]))], hw.below⟩
  · replace h10 := bF h10
    refine CW.skip ?_
    refine PQ.seq ?_
    refine CW.seq ?_
    refine CW.seq ?_
    refine CW.region ?_
    refine LW.v rfl rfl (Val.assign rfl) ?_
    refine LW.nil ?_
    refine PQ.seq ?_
    refine CW.block ?_
    refine CW.loop (γ := Nat) (fun k => [(0, .slice p1 l1.length c1), (1, .slice p2 l2.length c2), (5, .int .i64 (k : Nat))]) (fun _ => []) (fun k => k ≤ l1.length ∧ l1.take k = l2.take k) (fun k => l1.length - k) (0) ⟨Nat.zero_le _, rfl⟩ (by repeat (first | exact trivial | refine ⟨rfl, ?_⟩)) (by repeat (first | exact .nil | apply Pick.cons | exact .here | apply Ext.there)) ?_
    intro k
    rintro ⟨hk1, hk2⟩
    refine CW.seq ?_
    refine CW.seq ?_
    refine CW.region ?_
    refine LW.v rfl rfl (Val.move rfl) ?_
    refine LW.v rfl rfl (Val.move rfl) ?_
    refine LW.v rfl rfl (Val.lenSl rfl Tryz.underlying46) ?_
    refine LW.v rfl rfl (Val.cmp rfl rfl rfl) ?_
    refine LW.nil ?_
    refine PQ.seq ?_
    refine CW.cond rfl (fun h14 => ?_) (fun h14 => ?_)
    · replace h14 := bT h14
      obtain ⟨b1, o1, x, rfl, hb1, hx1, hr1⟩ := V.slAt_at h1 rfl (k := k) (by omega)
      obtain ⟨b2, o2, y, rfl, hb2, hx2, hr2⟩ := V.slAt_at h2 rfl (k := k) (by omega)
      refine CW.skip ?_
      refine PQ.seq ?_
      refine CW.seq ?_
      refine CW.block ?_
      refine CW.seq ?_
      refine CW.quiet mixed (by kernel_rfl) ?_
      refine QW.v rfl rfl (Val.move rfl) ?_
      refine QW.v rfl rfl (Val.move rfl) ?_
      first | (refine QW.v rfl rfl (Val.indexAddrN rfl rfl Tryz.underlying46 Tryz.sizeOf4 (by omega)) ?_) | (refine QW.v rfl rfl (Val.indexAddr rfl rfl Tryz.underlying46 Tryz.sizeOf4 (by omega) (by omega)) ?_)
      refine QW.v rfl rfl (Val.loadO rfl Tryz.isAgg4 hb1 (by simp [ids]) (hr1 k x hx1 0 _ rfl)) ?_
      refine QW.v rfl rfl (Val.move rfl) ?_
      refine QW.v rfl rfl (Val.move rfl) ?_
      first | (refine QW.v rfl rfl (Val.indexAddrN rfl rfl Tryz.underlying46 Tryz.sizeOf4 (by omega)) ?_) | (refine QW.v rfl rfl (Val.indexAddr rfl rfl Tryz.underlying46 Tryz.sizeOf4 (by omega) (by omega)) ?_)
      refine QW.v rfl rfl (Val.loadO rfl Tryz.isAgg4 hb2 (by simp [ids]) (hr2 k y hx2 0 _ rfl)) ?_
      refine QW.v rfl rfl (Val.neB rfl rfl Tryz.underlying4) ?_
      refine QW.re 25 (.bool (!decide (x = y))) rfl (by cases x <;> cases y <;> rfl) ?_
      refine QW.nil ?_
      refine PQ.seq ?_
      refine CW.cond rfl (fun h25 => ?_) (fun h25 => ?_)
      · replace h25 := bT h25
        have h25 : x ≠ y := by first | simpa using h25 | (intro e; subst e; simp at h25)
        refine CW.seq ?_
        refine CW.region ?_
        refine LW.v rfl rfl (Val.assign rfl) ?_
        refine LW.nil ?_
        refine PQ.seq ?_
        refine CW.ret ?_
        refine PQ.in_ret ?_
        refine PQ.then_ret ?_
        refine PQ.then_ret ?_
        refine PQ.in_ret ?_
        refine PQ.then_ret ?_
        refine PQ.ret1 rfl rfl ?_
        intro w' hw; exact ⟨by rw [decide_eq_false (ne_at hx1 hx2 h25)], hw.below⟩
      · replace h25 := bF h25
        have h25 : x = y := by first | simpa using h25 | omega
        subst h25
        refine CW.skip ?_
        refine PQ.in_normal ?_
        refine PQ.seq ?_
        refine CW.region ?_
        refine LW.v rfl rfl (Val.move rfl) ?_
        refine LW.v rfl rfl (Val.ar rfl rfl rfl (IntWalk.i64_in _ (by omega))) ?_
        refine LW.v rfl rfl (Val.assign rfl) ?_
        refine LW.nil ?_
        refine PQ.round (k + 1) ⟨by omega, take_step hk2 hx1 hx2⟩ (by omega) (by repeat (first | exact trivial | refine ⟨rfl, ?_⟩)) (by repeat (first | exact .nil | apply Pick.cons | exact .here | apply Ext.there))
    · replace h14 := bF h14
      refine CW.exit ?_
      refine PQ.then_exit ?_
      refine PQ.then_exit ?_
      refine PQ.in_here ?_
      refine PQ.seq ?_
      refine CW.seq ?_
      refine CW.region ?_
      refine LW.v rfl rfl (Val.assign rfl) ?_
      refine LW.nil ?_
      refine PQ.seq ?_
      refine CW.ret ?_
      refine PQ.ret1 rfl rfl ?_
      intro w' hw; exact ⟨by rw [decide_eq_true (take_end hk2 (by omega) (by omega))], hw.below⟩
/-- An answer in memory, in full. -/
def AaR (w : World) (a : RA) (x : AnsA) : Prop := (a.code = x.code ∧ a.fd = x.fd ∧ a.vl = x.vl ∧ a.ep = 0) ∧ (a.p.n = x.ps.length ∧ V.slAt w a.p.a 2 prC x.ps) ∧ (a.h.n = x.hs.length ∧ V.slAt w a.h.a 1 boE x.hs) ∧ x.ps.length ≤ 100000 ∧ x.hs.length ≤ 100000
theorem AaR.hp {w0 w : World} {sg : V.Sg} {a : RA} {x : AnsA} (h : AaR w0 a x) (hw : Hp ⟨w0, []⟩ sg w) : AaR w a x := ⟨h.1, ⟨h.2.1.1, slAt_hp h.2.1.2 hw⟩, ⟨h.2.2.1.1, slAt_hp h.2.2.1.2 hw⟩, h.2.2.2⟩
theorem sameAns_c (a b : RA) (x y : AnsA) (w : World) (ha : AaR w a x) (hb : AaR w b y) : Calls Tryz.prog 19 [.agg (raC a).toArray, .agg (raC b).toArray].toArray w fun e w' => e = .returned (.bool (decide (x = y))) ∧ Below w.heap.size w w' := by
  obtain ⟨⟨e1, e2, e3, e4⟩, ⟨e5, e6⟩, ⟨e7, e8⟩, e9, e10⟩ := ha
  obtain ⟨⟨f1, f2, f3, f4⟩, ⟨f5, f6⟩, ⟨f7, f8⟩, f9, f10⟩ := hb
  obtain ⟨ac, af, av, ⟨ap, an, aq⟩, ⟨ah, am, ar⟩, ae⟩ := a
  obtain ⟨bc, bf, bv, ⟨bp, bn, bq⟩, ⟨bh, bm, br⟩, be⟩ := b
  obtain ⟨xc, xf, xv, xp, xh⟩ := x
  obtain ⟨yc, yf, yv, yp, yh⟩ := y
  simp only at e1 e2 e3 e4 e5 e6 e7 e8 e9 e10 f1 f2 f3 f4 f5 f6 f7 f8 f9 f10
  subst e1; subst e2; subst e3; subst e4; subst f1; subst f2; subst f3; subst f4
  refine V.calls [] Tryz.func19 rfl Tryz.ntmps19 (Nat.le_of_ble_eq_true rfl) (V.sat_nil _) ?_
  refine CW.seq ?_
  refine CW.region ?_
  refine LW.e rfl rfl (Eff.boxA rfl) ?_
  intro b2 _
  refine LW.e rfl rfl (Eff.boxA rfl) ?_
  intro b3 _
  refine LW.v rfl rfl (Val.assign rfl) ?_
  refine LW.nil ?_
  refine PQ.seq ?_
  refine CW.seq ?_
  refine CW.region ?_
  refine LW.v rfl rfl (Val.fieldAddr 0 rfl Tryz.underlying48 rfl rfl Tryz.sizeOf45) ?_
  refine LW.v rfl rfl (Val.load rfl Tryz.isAgg45 (by repeat (first | exact .here | exact .inner .here | exact .inner (.inner .here) | refine .there ?_)) (by rfl)) ?_
  refine LW.v rfl rfl (Val.fieldAddr 0 rfl Tryz.underlying48 rfl rfl Tryz.sizeOf45) ?_
  refine LW.v rfl rfl (Val.load rfl Tryz.isAgg45 (by repeat (first | exact .here | exact .inner .here | exact .inner (.inner .here) | refine .there ?_)) (by rfl)) ?_
  refine LW.v rfl rfl (Val.cmp rfl rfl rfl) ?_
  refine LW.v rfl rfl (Val.move rfl) ?_
  refine LW.split (d := 10) rfl (fun h10 => ?_) (fun h10 => ?_)
  · replace h10 := bT h10
    have h10 : ac = bc := by simpa using h10
    refine LW.v rfl rfl (Val.fieldAddr 1 rfl Tryz.underlying48 rfl rfl Tryz.sizeOf4) ?_
    refine LW.v rfl rfl (Val.load rfl Tryz.isAgg4 (by repeat (first | exact .here | exact .inner .here | exact .inner (.inner .here) | refine .there ?_)) (by rfl)) ?_
    refine LW.v rfl rfl (Val.fieldAddr 1 rfl Tryz.underlying48 rfl rfl Tryz.sizeOf4) ?_
    refine LW.v rfl rfl (Val.load rfl Tryz.isAgg4 (by repeat (first | exact .here | exact .inner .here | exact .inner (.inner .here) | refine .there ?_)) (by rfl)) ?_
    refine LW.v rfl rfl (Val.eqB rfl rfl Tryz.underlying4) ?_
    refine LW.v rfl rfl (Val.pick_t rfl rfl) ?_
    refine LW.v rfl rfl (Val.move rfl) ?_
    refine LW.split (d := 17) rfl (fun h17 => ?_) (fun h17 => ?_)
    · replace h17 := bT h17
      have h17 : af = bf := by simpa using h17
      refine LW.v rfl rfl (Val.fieldAddr 2 rfl Tryz.underlying48 rfl rfl Tryz.sizeOf9) ?_
      refine LW.v rfl rfl (Val.load rfl Tryz.isAgg9 (by repeat (first | exact .here | exact .inner .here | exact .inner (.inner .here) | refine .there ?_)) (by rfl)) ?_
      refine LW.v rfl rfl (Val.fieldAddr 2 rfl Tryz.underlying48 rfl rfl Tryz.sizeOf9) ?_
      refine LW.v rfl rfl (Val.load rfl Tryz.isAgg9 (by repeat (first | exact .here | exact .inner .here | exact .inner (.inner .here) | refine .there ?_)) (by rfl)) ?_
      refine LW.v rfl rfl (Val.eqStr rfl rfl) ?_
      refine LW.v rfl rfl (Val.pick_t rfl rfl) ?_
      refine LW.v rfl rfl (Val.move rfl) ?_
      refine LW.split (d := 24) rfl (fun h24 => ?_) (fun h24 => ?_)
      · replace h24 := bT h24
        have h24 : av = bv := by simpa using h24
        refine LW.v rfl rfl (Val.fieldAddr 5 rfl Tryz.underlying48 rfl rfl Tryz.sizeOf39) ?_
        refine LW.v rfl rfl (Val.load rfl Tryz.isAgg39 (by repeat (first | exact .here | exact .inner .here | exact .inner (.inner .here) | refine .there ?_)) (by rfl)) ?_
        refine LW.v rfl rfl (Val.fieldAddr 5 rfl Tryz.underlying48 rfl rfl Tryz.sizeOf39) ?_
        refine LW.v rfl rfl (Val.load rfl Tryz.isAgg39 (by repeat (first | exact .here | exact .inner .here | exact .inner (.inner .here) | refine .there ?_)) (by rfl)) ?_
        refine LW.v rfl rfl (Val.cmp rfl rfl rfl) ?_
        refine LW.v rfl rfl (Val.pick_t rfl rfl) ?_
        refine LW.v rfl rfl (Val.move rfl) ?_
        refine LW.split (d := 31) rfl (fun h31 => ?_) (fun h31 => ?_)
        · replace h31 := bT h31
          refine LW.v rfl rfl (Val.fieldAddr 3 rfl Tryz.underlying48 rfl rfl Tryz.sizeOf31) ?_
          refine LW.v rfl rfl (Val.load rfl Tryz.isAgg31 (by repeat (first | exact .here | exact .inner .here | exact .inner (.inner .here) | refine .there ?_)) (by rfl)) ?_
          refine LW.v rfl rfl (Val.fieldAddr 3 rfl Tryz.underlying48 rfl rfl Tryz.sizeOf31) ?_
          refine LW.v rfl rfl (Val.load rfl Tryz.isAgg31 (by repeat (first | exact .here | exact .inner .here | exact .inner (.inner .here) | refine .there ?_)) (by rfl)) ?_
          refine LW.e rfl rfl (Eff.callV rfl Tryz.call40 (fun w hw => samePairs_c xp yp _ _ _ _ _ _ e5 f5 e9 w (hw.slAt e6 (by simp [ids])) (hw.slAt f6 (by simp [ids])))) ?_
          intro _ _
          refine LW.v rfl rfl (Val.pick_t rfl rfl) ?_
          refine LW.v rfl rfl (Val.move rfl) ?_
          refine LW.split (d := 38) rfl (fun h38 => ?_) (fun h38 => ?_)
          · replace h38 := bT h38
            have h38 : xp = yp := by simpa using h38
            refine LW.v rfl rfl (Val.fieldAddr 4 rfl Tryz.underlying48 rfl rfl Tryz.sizeOf46) ?_
            refine LW.v rfl rfl (Val.load rfl Tryz.isAgg46 (by repeat (first | exact .here | exact .inner .here | exact .inner (.inner .here) | refine .there ?_)) (by rfl)) ?_
            refine LW.v rfl rfl (Val.fieldAddr 4 rfl Tryz.underlying48 rfl rfl Tryz.sizeOf46) ?_
            refine LW.v rfl rfl (Val.load rfl Tryz.isAgg46 (by repeat (first | exact .here | exact .inner .here | exact .inner (.inner .here) | refine .there ?_)) (by rfl)) ?_
            refine LW.e rfl rfl (Eff.callV rfl Tryz.call41 (fun w hw => sameBools_c xh yh _ _ _ _ _ _ e7 f7 (by omega) w (hw.slAt e8 (by simp [ids])) (hw.slAt f8 (by simp [ids])))) ?_
            intro _ _
            refine LW.v rfl rfl (Val.pick_t rfl rfl) ?_
            refine LW.v rfl rfl (Val.assign rfl) ?_
            refine LW.nil ?_
            refine PQ.seq ?_
            refine CW.ret ?_
            refine PQ.ret1 rfl rfl ?_
            intro w' hw; exact ⟨by simp_all, hw.below⟩
          · replace h38 := bF h38
            have h38 : xp ≠ yp := by simpa using h38
            refine LW.p rfl rfl ?_
            refine LW.p rfl rfl ?_
            refine LW.p rfl rfl ?_
            refine LW.p rfl rfl ?_
            refine LW.p rfl rfl ?_
            refine LW.v rfl rfl (Val.pick_f rfl rfl) ?_
            refine LW.v rfl rfl (Val.assign rfl) ?_
            refine LW.nil ?_
            refine PQ.seq ?_
            refine CW.ret ?_
            refine PQ.ret1 rfl rfl ?_
            intro w' hw; exact ⟨by simp_all, hw.below⟩
        · simp at h31
      · replace h24 := bF h24
        have h24 : av ≠ bv := by simpa using h24
        refine LW.p rfl rfl ?_
        refine LW.p rfl rfl ?_
        refine LW.p rfl rfl ?_
        refine LW.p rfl rfl ?_
        refine LW.p rfl rfl ?_
        refine LW.v rfl rfl (Val.pick_f rfl rfl) ?_
        refine LW.v rfl rfl (Val.move rfl) ?_
        refine LW.p rfl rfl ?_
        refine LW.p rfl rfl ?_
        refine LW.p rfl rfl ?_
        refine LW.p rfl rfl ?_
        refine LW.p rfl rfl ?_
        refine LW.v rfl rfl (Val.pick_f rfl rfl) ?_
        refine LW.v rfl rfl (Val.move rfl) ?_
        refine LW.p rfl rfl ?_
        refine LW.p rfl rfl ?_
        refine LW.p rfl rfl ?_
        refine LW.p rfl rfl ?_
        refine LW.p rfl rfl ?_
        refine LW.v rfl rfl (Val.pick_f rfl rfl) ?_
        refine LW.v rfl rfl (Val.assign rfl) ?_
        refine LW.nil ?_
        refine PQ.seq ?_
        refine CW.ret ?_
        refine PQ.ret1 rfl rfl ?_
        intro w' hw; exact ⟨by simp_all, hw.below⟩
    · replace h17 := bF h17
      have h17 : af ≠ bf := by simpa using h17
      refine LW.p rfl rfl ?_
      refine LW.p rfl rfl ?_
      refine LW.p rfl rfl ?_
      refine LW.p rfl rfl ?_
      refine LW.p rfl rfl ?_
      refine LW.v rfl rfl (Val.pick_f rfl rfl) ?_
      refine LW.v rfl rfl (Val.move rfl) ?_
      refine LW.p rfl rfl ?_
      refine LW.p rfl rfl ?_
      refine LW.p rfl rfl ?_
      refine LW.p rfl rfl ?_
      refine LW.p rfl rfl ?_
      refine LW.v rfl rfl (Val.pick_f rfl rfl) ?_
      refine LW.v rfl rfl (Val.move rfl) ?_
      refine LW.p rfl rfl ?_
      refine LW.p rfl rfl ?_
      refine LW.p rfl rfl ?_
      refine LW.p rfl rfl ?_
      refine LW.p rfl rfl ?_
      refine LW.v rfl rfl (Val.pick_f rfl rfl) ?_
      refine LW.v rfl rfl (Val.move rfl) ?_
      refine LW.p rfl rfl ?_
      refine LW.p rfl rfl ?_
      refine LW.p rfl rfl ?_
      refine LW.p rfl rfl ?_
      refine LW.p rfl rfl ?_
      refine LW.v rfl rfl (Val.pick_f rfl rfl) ?_
      refine LW.v rfl rfl (Val.assign rfl) ?_
      refine LW.nil ?_
      refine PQ.seq ?_
      refine CW.ret ?_
      refine PQ.ret1 rfl rfl ?_
      intro w' hw; exact ⟨by simp_all, hw.below⟩
  · replace h10 := bF h10
    have h10 : ac ≠ bc := by simpa using h10
    refine LW.p rfl rfl ?_
    refine LW.p rfl rfl ?_
    refine LW.p rfl rfl ?_
    refine LW.p rfl rfl ?_
    refine LW.p rfl rfl ?_
    refine LW.v rfl rfl (Val.pick_f rfl rfl) ?_
    refine LW.v rfl rfl (Val.move rfl) ?_
    refine LW.p rfl rfl ?_
    refine LW.p rfl rfl ?_
    refine LW.p rfl rfl ?_
    refine LW.p rfl rfl ?_
    refine LW.p rfl rfl ?_
    refine LW.v rfl rfl (Val.pick_f rfl rfl) ?_
    refine LW.v rfl rfl (Val.move rfl) ?_
    refine LW.p rfl rfl ?_
    refine LW.p rfl rfl ?_
    refine LW.p rfl rfl ?_
    refine LW.p rfl rfl ?_
    refine LW.p rfl rfl ?_
    refine LW.v rfl rfl (Val.pick_f rfl rfl) ?_
    refine LW.v rfl rfl (Val.move rfl) ?_
    refine LW.p rfl rfl ?_
    refine LW.p rfl rfl ?_
    refine LW.p rfl rfl ?_
    refine LW.p rfl rfl ?_
    refine LW.p rfl rfl ?_
    refine LW.v rfl rfl (Val.pick_f rfl rfl) ?_
    refine LW.v rfl rfl (Val.move rfl) ?_
    refine LW.p rfl rfl ?_
    refine LW.p rfl rfl ?_
    refine LW.p rfl rfl ?_
    refine LW.p rfl rfl ?_
    refine LW.p rfl rfl ?_
    refine LW.v rfl rfl (Val.pick_f rfl rfl) ?_
    refine LW.v rfl rfl (Val.assign rfl) ?_
    refine LW.nil ?_
    refine PQ.seq ?_
    refine CW.ret ?_
    refine PQ.ret1 rfl rfl ?_
    intro w' hw; exact ⟨by simp_all, hw.below⟩
def belowF : List Nat → List Nat → Bool
  | x :: r, y :: s => if x = y then belowF r s else decide (x < y)
  | _, _ => false
theorem below_eq {a b : List Nat} {k : Nat} {x : Nat} (ha : a[k]? = some x) (hb : b[k]? = some x) (h : belowF a b = belowF (a.drop k) (b.drop k)) : belowF a b = belowF (a.drop (k + 1)) (b.drop (k + 1)) := by
  rw [h, List.drop_eq_getElem?_toList_append (i := k) (l := a), List.drop_eq_getElem?_toList_append (i := k) (l := b), ha, hb]
  simp [belowF]
theorem below_ne {a b : List Nat} {k : Nat} {x y : Nat} (ha : a[k]? = some x) (hb : b[k]? = some y) (hn : x ≠ y) (h : belowF a b = belowF (a.drop k) (b.drop k)) : belowF a b = decide (x < y) := by
  rw [h, List.drop_eq_getElem?_toList_append (i := k) (l := a), List.drop_eq_getElem?_toList_append (i := k) (l := b), ha, hb]
  simp [belowF, hn]
theorem below_end {a b : List Nat} {k : Nat} (h : belowF a b = belowF (a.drop k) (b.drop k)) (he : a.length ≤ k ∨ b.length ≤ k) : belowF a b = false := by
  rw [h]
  rcases he with e | e
  · rw [List.drop_eq_nil_of_le e]; cases b.drop k <;> rfl
  · rw [List.drop_eq_nil_of_le e]; cases a.drop k <;> rfl
theorem below_c (a b : List Nat) (p1 p2 : Option Addr) (n1 n2 c1 c2 : Nat) (hn1 : n1 = a.length) (hn2 : n2 = b.length) (hl : a.length ≤ 9223372036854775807) (w : World) (h1 : V.slAt w p1 1 inE a) (h2 : V.slAt w p2 1 inE b) : Calls Tryz.prog 21 [.slice p1 n1 c1, .slice p2 n2 c2].toArray w fun e w' => e = .returned (.bool (belowF a b)) ∧ Below w.heap.size w w' := by
  subst hn1; subst hn2
  refine V.calls [] Tryz.func21 rfl Tryz.ntmps21 (Nat.le_of_ble_eq_true rfl) (V.sat_nil _) ?_
  refine CW.seq ?_
  refine CW.region ?_
  refine LW.v rfl rfl (Val.assign rfl) ?_
  refine LW.nil ?_
  refine PQ.seq ?_
  refine CW.seq ?_
  refine CW.seq ?_
  refine CW.region ?_
  refine LW.v rfl rfl (Val.assign rfl) ?_
  refine LW.nil ?_
  refine PQ.seq ?_
  refine CW.block ?_
  refine CW.loop (γ := Nat) (fun k => [(0, .slice p1 a.length c1), (1, .slice p2 b.length c2), (5, .int .i64 (k : Nat))]) (fun _ => []) (fun k => k ≤ a.length ∧ belowF a b = belowF (a.drop k) (b.drop k)) (fun k => a.length - k) (0) ⟨Nat.zero_le _, rfl⟩ (by repeat (first | exact trivial | refine ⟨rfl, ?_⟩)) (by repeat (first | exact .nil | apply Pick.cons | exact .here | apply Ext.there)) ?_
  intro k
  rintro ⟨hk1, hk2⟩
  refine CW.seq ?_
  refine CW.seq ?_
  refine CW.region ?_
  refine LW.v rfl rfl (Val.move rfl) ?_
  refine LW.v rfl rfl (Val.move rfl) ?_
  refine LW.v rfl rfl (Val.lenSl rfl Tryz.underlying29) ?_
  refine LW.v rfl rfl (Val.cmp rfl rfl rfl) ?_
  refine LW.split (d := 9) rfl (fun h9 => ?_) (fun h9 => ?_)
  · replace h9 := bT h9
    have hk8 : k < a.length := by omega
    refine LW.v rfl rfl (Val.move rfl) ?_
    refine LW.v rfl rfl (Val.move rfl) ?_
    refine LW.v rfl rfl (Val.move rfl) ?_
    refine LW.v rfl rfl (Val.lenSl rfl Tryz.underlying29) ?_
    refine LW.v rfl rfl (Val.cmp rfl rfl rfl) ?_
    refine LW.v rfl rfl (Val.pick_t rfl rfl) ?_
    refine LW.nil ?_
    refine PQ.seq ?_
    refine CW.cond rfl (fun h15 => ?_) (fun h15 => ?_)
    · replace h15 := bT h15
      obtain ⟨b1, o1, x, rfl, hb1, hx1, hr1⟩ := V.slAt_at h1 rfl (k := k) (by omega)
      obtain ⟨b2, o2, y, rfl, hb2, hx2, hr2⟩ := V.slAt_at h2 rfl (k := k) (by omega)
      refine CW.skip ?_
      refine PQ.seq ?_
      refine CW.seq ?_
      refine CW.block ?_
      refine CW.seq ?_
      refine CW.quiet mixed (by kernel_rfl) ?_
      refine QW.v rfl rfl (Val.move rfl) ?_
      refine QW.v rfl rfl (Val.move rfl) ?_
      first | (refine QW.v rfl rfl (Val.indexAddrN rfl rfl Tryz.underlying29 Tryz.sizeOf3 (by omega)) ?_) | (refine QW.v rfl rfl (Val.indexAddr rfl rfl Tryz.underlying29 Tryz.sizeOf3 (by omega) (by omega)) ?_)
      refine QW.v rfl rfl (Val.loadO rfl Tryz.isAgg3 hb1 (by simp [ids]) (hr1 k x hx1 0 _ rfl)) ?_
      refine QW.v rfl rfl (Val.move rfl) ?_
      refine QW.v rfl rfl (Val.move rfl) ?_
      first | (refine QW.v rfl rfl (Val.indexAddrN rfl rfl Tryz.underlying29 Tryz.sizeOf3 (by omega)) ?_) | (refine QW.v rfl rfl (Val.indexAddr rfl rfl Tryz.underlying29 Tryz.sizeOf3 (by omega) (by omega)) ?_)
      refine QW.v rfl rfl (Val.loadO rfl Tryz.isAgg3 hb2 (by simp [ids]) (hr2 k y hx2 0 _ rfl)) ?_
      refine QW.v rfl rfl (Val.cmp rfl rfl rfl) ?_
      refine QW.nil ?_
      refine PQ.seq ?_
      refine CW.cond rfl (fun h26 => ?_) (fun h26 => ?_)
      · replace h26 := bT h26
        have h26 : x ≠ y := fun e => by subst e; simp at h26
        refine CW.seq ?_
        refine CW.quiet mixed (by kernel_rfl) ?_
        refine QW.v rfl rfl (Val.move rfl) ?_
        refine QW.v rfl rfl (Val.move rfl) ?_
        first | (refine QW.v rfl rfl (Val.indexAddrN rfl rfl Tryz.underlying29 Tryz.sizeOf3 (by omega)) ?_) | (refine QW.v rfl rfl (Val.indexAddr rfl rfl Tryz.underlying29 Tryz.sizeOf3 (by omega) (by omega)) ?_)
        refine QW.v rfl rfl (Val.loadO rfl Tryz.isAgg3 hb1 (by simp [ids]) (hr1 k x hx1 0 _ rfl)) ?_
        refine QW.v rfl rfl (Val.move rfl) ?_
        refine QW.v rfl rfl (Val.move rfl) ?_
        first | (refine QW.v rfl rfl (Val.indexAddrN rfl rfl Tryz.underlying29 Tryz.sizeOf3 (by omega)) ?_) | (refine QW.v rfl rfl (Val.indexAddr rfl rfl Tryz.underlying29 Tryz.sizeOf3 (by omega) (by omega)) ?_)
        refine QW.v rfl rfl (Val.loadO rfl Tryz.isAgg3 hb2 (by simp [ids]) (hr2 k y hx2 0 _ rfl)) ?_
        refine QW.v rfl rfl (Val.cmp rfl rfl rfl) ?_
        refine QW.v rfl rfl (Val.assign rfl) ?_
        refine QW.nil ?_
        refine PQ.seq ?_
        refine CW.ret ?_
        refine PQ.in_ret ?_
        refine PQ.then_ret ?_
        refine PQ.then_ret ?_
        refine PQ.in_ret ?_
        refine PQ.then_ret ?_
        refine PQ.ret1 rfl rfl ?_
        intro w' hw; exact ⟨by rw [below_ne hx1 hx2 h26 hk2]; simp, hw.below⟩
      · replace h26 := bF h26
        have h26 : x = y := by omega
        subst h26
        refine CW.skip ?_
        refine PQ.in_normal ?_
        refine PQ.seq ?_
        refine CW.region ?_
        refine LW.v rfl rfl (Val.move rfl) ?_
        refine LW.v rfl rfl (Val.ar rfl rfl rfl (IntWalk.i64_in _ (by omega))) ?_
        refine LW.v rfl rfl (Val.assign rfl) ?_
        refine LW.nil ?_
        refine PQ.round (k + 1) ⟨by omega, below_eq hx1 hx2 hk2⟩ (by omega) (by repeat (first | exact trivial | refine ⟨rfl, ?_⟩)) (by repeat (first | exact .nil | apply Pick.cons | exact .here | apply Ext.there))
    · replace h15 := bF h15
      refine CW.exit ?_
      refine PQ.then_exit ?_
      refine PQ.then_exit ?_
      refine PQ.in_here ?_
      refine PQ.seq ?_
      refine CW.seq ?_
      refine CW.region ?_
      refine LW.v rfl rfl (Val.assign rfl) ?_
      refine LW.nil ?_
      refine PQ.seq ?_
      refine CW.ret ?_
      refine PQ.ret1 rfl rfl ?_
      intro w' hw; exact ⟨by rw [below_end hk2 (by omega)], hw.below⟩
  · replace h9 := bF h9
    have hk8 : a.length ≤ k := by omega
    refine LW.v rfl rfl (Val.move rfl) ?_
    refine LW.p rfl rfl ?_
    refine LW.p rfl rfl ?_
    refine LW.p rfl rfl ?_
    refine LW.p rfl rfl ?_
    refine LW.v rfl rfl (Val.pick_f rfl rfl) ?_
    refine LW.nil ?_
    refine PQ.seq ?_
    refine CW.cond_f rfl ?_
    refine CW.exit ?_
    refine PQ.then_exit ?_
    refine PQ.then_exit ?_
    refine PQ.in_here ?_
    refine PQ.seq ?_
    refine CW.seq ?_
    refine CW.region ?_
    refine LW.v rfl rfl (Val.assign rfl) ?_
    refine LW.nil ?_
    refine PQ.seq ?_
    refine CW.ret ?_
    refine PQ.ret1 rfl rfl ?_
    intro w' hw; exact ⟨by rw [below_end hk2 (by omega)], hw.below⟩
end I
end Go.Proofs.YtlpbjmbgopfkhaaGreat

/- Rows of turns as they lie in memory; what calls leave is small, and each answer stands where it was given. -/
namespace Go.Proofs.YtlpbjmbgopfkhaaGreat
open Go Go.RowKit V
set_option linter.unusedVariables false
set_option maxRecDepth 100000
namespace I
open V (str byC ownV ownG ownS ownOk)
/-- .. of this memory, pointwise. -/
abbrev Mem (s : V.Seg) (w : World) : Prop := ∀ p ∈ s, w.heap[p.1]? = some p.2
def slO (n : Nat) : V.OwnO → Sl
  | none => ⟨none, 0, 0⟩
  | some (g, _, cap) => ⟨some ⟨g, 0, none⟩, n, cap⟩
def slF (n : Nat) : OffO → Sl
  | none => ⟨none, 0, 0⟩
  | some (g, pre, _, cap) => ⟨some ⟨g, pre.length, none⟩, n, cap⟩
theorem slO_v (n : Nat) (o : V.OwnO) : ownV n o = .slice (slO n o).a (slO n o).n (slO n o).c := by rcases o with _ | ⟨_, _, _⟩ <;> rfl
theorem slF_v (n : Nat) (o : OffO) : offV n o = .slice (slF n o).a (slF n o).n (slF n o).c := by rcases o with _ | ⟨_, _, _, _⟩ <;> rfl
theorem slO_ok {α : Type} {enc : α → List Value} {sz e : Nat} {l : List α} {o : V.OwnO} {w : World} (hsz : ∀ x, (enc x).length = sz) (h0 : 0 < sz) (hk : ownOk sz l.length (l.flatMap enc) o) (hm : Mem (ownG e (l.flatMap enc) o) w) : ((slO l.length o).n = l.length ∧ V.slAt w (slO l.length o).a sz enc l) ∧ (slO l.length o).n ≤ (slO l.length o).c := by
  rcases o with _ | ⟨g, rest, cap⟩
  · have hl : l.length = 0 := hk.2
    exact ⟨⟨by rw [hl]; rfl, .inl (List.length_eq_zero_iff.1 hl)⟩, Nat.le_refl _⟩
  · have h2 : (l.flatMap enc).length + rest.length = cap * sz := hk.2
    have h1 := hk.1
    have hc : l.length ≤ cap := Nat.le_of_mul_le_mul_right (by omega : l.length * sz ≤ cap * sz) h0
    have hs : Sat [[(g, .cells (l.flatMap enc ++ rest).toArray e (0, 0))]] w := ⟨fun p hp => hm p (by simpa [V.ownG, V.ownS] using hp), by simp⟩
    exact ⟨⟨rfl, V.slAt_flat (Hp.start hs) hsz rfl .here⟩, hc⟩
theorem slF_ok {l : List (List UInt8)} {o : OffO} {w : World} (hk : offOk l.length o) (hm : Mem (offG 9 (l.flatMap stE) o) w) : ((slF l.length o).n = l.length ∧ V.slAt w (slF l.length o).a 1 stE l) ∧ (slF l.length o).n ≤ (slF l.length o).c := by
  obtain ⟨p, c, h1, h2, h3⟩ := off_sl l o hk
  rcases o with _ | ⟨g, pre, rest, cap⟩
  · have hl : l.length = 0 := hk
    exact ⟨⟨by rw [hl]; rfl, .inl (List.length_eq_zero_iff.1 hl)⟩, Nat.le_refl _⟩
  · have hs : Sat [offG 9 (l.flatMap stE) (some (g, pre, rest, cap))] w := ⟨fun p hp => hm p (by simpa using hp), by simp [offG]⟩
    have h4 := h3 (Hp.start hs) (.cons .here .nil)
    change Value.slice (some ⟨g, pre.length, none⟩) l.length cap = _ at h1
    cases h1
    exact ⟨⟨rfl, h4⟩, h2⟩
def raOf (p : AP) : RA := ⟨p.1.code, p.1.fd, p.1.vl, slO p.1.ps.length p.2.1, slO p.1.hs.length p.2.2, 0⟩
def rtOf (t : TO) : RT := ⟨slO t.row.length t.ro, ⟨some ⟨t.ab, 0, none⟩, t.aps.length, t.aps.length⟩, ⟨slO t.sh.1.length t.so.1, slF t.sh.2.length t.so.2⟩⟩
theorem raOf_c (p : AP) : apC p = raC (raOf p) := by unfold apC AnsA.cells ansC raC raOf; rw [slO_v, slO_v]
theorem rtOf_c (t : TO) : toC t = rtC (rtOf t) := by unfold toC rtC rtOf; rw [slO_v, slO_v, slF_v]
/-- A turn in memory, in full. -/
abbrev TF := RT × List RA × TurnA
structure TfR (w : World) (t : TF) : Prop where
  rn : t.1.r.n = t.2.2.row.length
  rs : V.slAt w t.1.r.a 1 inE t.2.2.row
  an : t.1.a.n = t.2.1.length
  asl : V.slAt w t.1.a.a 6 raC t.2.1
  al : t.2.1.length = t.2.2.ans.length
  aa : ∀ (i : Nat) a y, t.2.1[i]? = some a → t.2.2.ans[i]? = some y → AaR w a y
  sf : SfR w t.1.s t.2.2.sh
def TfsR (w : World) (p : Option Addr) (l : List TF) : Prop := V.slAt w p 4 rtC (l.map Prod.fst) ∧ ∀ t ∈ l, TfR w t
/-- Small. -/
def SmA (x : AnsA) : Prop := x.ps.length ≤ 100000 ∧ x.hs.length ≤ 100000
def tfOf (t : TO) : TF := (rtOf t, t.aps.map raOf, toA t)
theorem raOf_ok {p : AP} {w : World} (hk : ansOk p.1 p.2) (hs : SmA p.1) (hm : Mem (apM p) w) : AaR w (raOf p) p.1 := by
  have h1 := slO_ok (e := 69) prC_len (by decide) hk.1 (fun q hq => hm q (List.mem_append.2 (.inl hq)))
  have h2 := slO_ok (e := 4) boE_len (by decide) hk.2 (fun q hq => hm q (List.mem_append.2 (.inr hq)))
  exact ⟨⟨rfl, rfl, rfl, rfl⟩, h1.1, h2.1, hs⟩
theorem tfOf_ok {t : TO} {w : World} (hk : toOk t) (hs : ∀ p ∈ t.aps, SmA p.1) (hm : Mem (toM t) w) : TfR w (tfOf t) := by
  obtain ⟨k1, k2, k3, k4⟩ := hk
  have m1 : Mem (ownG 3 (t.row.flatMap inE) t.ro) w := fun q hq => hm q (by unfold toM; simp only [List.mem_append]; exact .inl hq)
  have m2 : Mem [(t.ab, .cells (t.aps.flatMap apC).toArray 48 (0, 0))] w := fun q hq => hm q (by unfold toM; simp only [List.mem_append]; exact .inr (.inl hq))
  have m3 : Mem (t.aps.flatMap apM) w := fun q hq => hm q (by unfold toM; simp only [List.mem_append]; exact .inr (.inr (.inl hq)))
  have m4 : Mem (ownG 69 (t.sh.1.flatMap prC) t.so.1) w := fun q hq => hm q (by unfold toM; simp only [List.mem_append]; exact .inr (.inr (.inr (.inl hq))))
  have m5 : Mem (offG 9 (t.sh.2.flatMap stE) t.so.2) w := fun q hq => hm q (by unfold toM; simp only [List.mem_append]; exact .inr (.inr (.inr (.inr hq))))
  have h1 := slO_ok inE_len (by decide) k1 m1
  have h4 := slO_ok prC_len (by decide) k3 m4
  have h5 := slF_ok k4 m5
  refine ⟨h1.1.1, h1.1.2, by simp [tfOf, rtOf], ?_, by simp [tfOf, toA], fun i a y ha hy => ?_, ⟨h4.1, h5.1, h4.2, h5.2⟩⟩
  · have hs9 : Sat [[(t.ab, .cells (t.aps.flatMap apC).toArray 48 (0, 0))]] w := ⟨fun p hp => m2 p (by simpa using hp), by simp⟩
    have h9 : V.slAt w (some ⟨t.ab, 0, none⟩) 6 apC t.aps := V.slAt_flat (r := []) (Hp.start hs9) apC_len (by simp) .here
    exact V.slAt_map (l := t.aps.map apC) (by
      rcases h9 with h | ⟨b, o, e, hb, hr⟩
      · exact .inl (by rw [h]; rfl)
      · exact .inr ⟨b, o, e, hb, fun i x hx => by
          rw [List.getElem?_map] at hx
          cases hq : t.aps[i]? with
          | none => rw [hq] at hx; cases hx
          | some q => rw [hq] at hx; cases hx; exact hr i q hq⟩) (by simp only [tfOf, List.map_map]; exact List.map_congr_left fun p _ => raOf_c p)
  · simp only [tfOf, toA, List.getElem?_map] at ha hy
    cases hq : t.aps[i]? with
    | none => rw [hq] at ha; cases ha
    | some q =>
      rw [hq] at ha hy
      cases ha
      cases hy
      have hqm := List.mem_of_getElem? hq
      exact raOf_ok (k2 q hqm) (hs q hqm) fun z hz => m3 z (List.mem_flatMap.2 ⟨q, hqm, hz⟩)
theorem tfs_of {g : List TO} {o : V.OwnO} {w : World} (hk : ∀ t ∈ g, toOk t) (ho : ownOk 4 g.length (g.flatMap toC) o) (hs : ∀ t ∈ g, ∀ p ∈ t.aps, SmA p.1) (hm : Mem (ownG 36 (g.flatMap toC) o) w) (hm2 : Mem (g.flatMap toM) w) : (slO g.length o).n = g.length ∧ TfsR w (slO g.length o).a (g.map tfOf) := by
  have h1 := slO_ok toC_len (by decide) ho hm
  refine ⟨h1.1.1, V.slAt_map (l := g.map toC) (by
      rcases h1.1.2 with h | ⟨b, o, e, hb, hr⟩
      · exact .inl (by rw [h]; rfl)
      · exact .inr ⟨b, o, e, hb, fun i x hx => by
          rw [List.getElem?_map] at hx
          cases hq : g[i]? with
          | none => rw [hq] at hx; cases hx
          | some q => rw [hq] at hx; cases hx; exact hr i q hq⟩) (by rw [List.map_map, List.map_map]; exact List.map_congr_left fun p _ => rtOf_c p), fun t ht => ?_⟩
  obtain ⟨q, hq, rfl⟩ := List.mem_map.1 ht
  exact tfOf_ok (hk q hq) (hs q hq) fun z hz => hm2 z (List.mem_flatMap.2 ⟨q, hq, hz⟩)
theorem scan_len (l : List Pr) (k to : List UInt8) : (scanF l k to).length ≤ l.length := List.length_filter_le _ _
theorem do_ans (A : ShA) (x : Cal) : (doA A x).2.ps.length ≤ A.1.length ∧ (doA A x).2.hs.length = 0 := by
  unfold doA
  have h1 := scan_len A.1 x.key x.to
  repeat' split
  all_goals first | exact ⟨Nat.zero_le _, rfl⟩ | exact ⟨h1, rfl⟩
theorem ap_ans (A : ShA) (x : Cal) (L : List Cal) : (apA A x L).2.ps.length ≤ A.1.length ∧ (apA A x L).2.hs.length ≤ 3 := by
  unfold apA
  split
  · simp only [List.length_nil]; omega
  · rename_i hg
    have hk := good_kind (show goodF x L = 0 by simpa using hg)
    split
    · rename_i h7
      have h1 := grp_len A L
      rcases hk with hk | ⟨_, hk, _⟩
      · omega
      · simp only [List.length_nil]; omega
    · have h2 := do_ans A x
      omega
/-- What stands behind m calls is small. -/
def Sm (m : Nat) (s : ShA × List AnsA) : Prop := (s.1.1.length ≤ 3 * m ∧ s.1.2.length ≤ 3 * m) ∧ ∀ a ∈ s.2, a.ps.length ≤ 3 * m ∧ a.hs.length ≤ 3
theorem sm_step {C : Crs} {m : Nat} {s : ShA × List AnsA} (h : Sm m s) (k : Nat) : Sm (m + 1) (stepT C s k) := by
  unfold stepT
  split
  · rename_i c hc
    have h1 := ap_len s.1 c.1 c.2
    have h2 := ap_ans s.1 c.1 c.2
    have h3 := h.1
    refine ⟨⟨by simp only; omega, by simp only; omega⟩, fun a ha => ?_⟩
    rcases List.mem_or_eq_of_mem_set ha with h9 | rfl
    · have := h.2 a h9; omega
    · omega
  · refine ⟨⟨by have := h.1; omega, by have := h.1; omega⟩, fun a ha => by have := h.2 a ha; omega⟩
theorem sm_fold {C : Crs} (row : List Nat) {m : Nat} {s : ShA × List AnsA} (h : Sm m s) : Sm (m + row.length) (row.foldl (stepT C) s) := by
  induction row generalizing m s with
  | nil => exact h
  | cons k r ih => have := ih (sm_step (C := C) h k); rw [List.foldl_cons, List.length_cons]; rwa [show m + (r.length + 1) = m + 1 + r.length by omega]
theorem sm_run (C : Crs) (row : List Nat) : Sm row.length (runT C row) := by
  have h : Sm 0 ((([], []), List.replicate C.length ⟨0, false, [], [], []⟩) : ShA × List AnsA) := ⟨⟨Nat.le_refl _, Nat.le_refl _⟩, fun a ha => by rw [List.eq_of_mem_replicate ha]; exact ⟨Nat.le_refl _, Nat.zero_le _⟩⟩
  have := sm_fold (C := C) row h
  rwa [Nat.zero_add] at this
theorem run_len (C : Crs) (row : List Nat) (s : ShA × List AnsA) : (row.foldl (stepT C) s).2.length = s.2.length := by
  induction row generalizing s with
  | nil => rfl
  | cons k r ih => rw [List.foldl_cons, ih]; unfold stepT; split <;> simp
theorem turn_ans_len (C : Crs) (row : List Nat) : (turnOf C row).ans.length = C.length := by unfold turnOf runT; rw [run_len]; simp
/-- A call that is not in the rest of a row keeps its answer. -/
theorem ans_keep {C : Crs} {k : Nat} : ∀ (row : List Nat) (s : ShA × List AnsA), k ∉ row → (row.foldl (stepT C) s).2[k]? = s.2[k]?
  | [], s, _ => rfl
  | j :: r, s, h => by
    rw [List.foldl_cons, ans_keep r _ (fun e => h (by simp [e]))]
    unfold stepT
    split
    · rw [List.getElem?_set_ne (fun e => h (by simp [e]))]
    · rfl
/-- The answer of the j-th call of a row is what Apply gives there. -/
theorem ans_at {C : Crs} {row : List Nat} {j k : Nat} {c : Cal × List Cal} (hd : row.Nodup) (hj : row[j]? = some k) (hc : C[k]? = some c) (hk : k < C.length) : (turnOf C row).ans[k]? = some (apA ((row.take j).foldl (stepT C) (([], []), List.replicate C.length ⟨0, false, [], [], []⟩)).1 c.1 c.2).2 := by
  have hjl := (List.getElem?_eq_some_iff.1 hj).1
  have e : row = row.take (j + 1) ++ row.drop (j + 1) := (List.take_append_drop _ _).symm
  have hn : k ∉ row.drop (j + 1) := fun hm => by
    have hd2 := hd
    rw [e, List.nodup_append] at hd2
    exact hd2.2.2 k (by rw [List.take_add_one, hj]; simp) k hm rfl
  unfold turnOf runT
  simp only
  conv => lhs; rw [e, List.foldl_append]
  rw [ans_keep _ _ hn, run_take _ hj hc]
  simp only
  rw [List.getElem?_set_self]
  rw [run_len]; simpa using hk
theorem sh_at {C : Crs} {row : List Nat} {j k : Nat} {c : Cal × List Cal} (s : ShA × List AnsA) (hj : row[j]? = some k) (hc : C[k]? = some c) : ((row.take (j + 1)).foldl (stepT C) s).1 = (apA ((row.take j).foldl (stepT C) s).1 c.1 c.2).1 := by rw [run_take s hj hc]
end I
end Go.Proofs.YtlpbjmbgopfkhaaGreat

/- All orders: every.Rows of any list of calls; turns to be looked for among them. -/
namespace Go.Proofs.YtlpbjmbgopfkhaaGreat
open Go Go.RowKit V
set_option linter.unusedVariables false
set_option maxRecDepth 100000
namespace I
open V (str byC ownV ownG ownS ownOk)
theorem rows_c (C : Crs) (pc : Option Addr) (n cc : Nat) (hC : n = C.length) (w : World) (hR : CrsR w pc C) : Calls Tryz.prog 9 [.slice pc n cc].toArray w fun e w' => ∃ g : List TO × V.OwnO, (g.1.map toA = rowsF C ∧ (∀ t ∈ g.1, toOk t) ∧ ownOk 4 g.1.length (g.1.flatMap toC) g.2) ∧ e = .returned (ownV g.1.length g.2) ∧ Hp ⟨w, []⟩ [ownG 36 (g.1.flatMap toC) g.2, g.1.flatMap toM] w' := by
  by_cases h : C.length = 0 ∨ 3 < C.length
  · refine (rows0_c pc n cc (by omega) w).mono fun e w' ⟨he, hb⟩ => ⟨([], none), ⟨by unfold rowsF; rw [if_pos h]; rfl, fun t ht => by simp at ht, ⟨rfl, rfl⟩⟩, he, ?_⟩
    have h9 := (hp_none w).call_ro hb
    exact h9.perm (by simp [V.ownG, V.ownS])
  · refine (rows1_c C pc n cc hC.symm (by omega) (by omega) w hR).mono fun e w' ⟨g, ⟨h1, h2, h3⟩, he, hw⟩ => ⟨g, ⟨by unfold rowsF; rw [if_neg h, h1, hC], h2, h3⟩, he, hw⟩
/-- .. as one who reads them sees them. -/
theorem rows_of {C : Crs} {g : List TO × V.OwnO} {w1 : World} (h1 : g.1.map toA = rowsF C) (h2 : ∀ t ∈ g.1, toOk t) (h3 : ownOk 4 g.1.length (g.1.flatMap toC) g.2) {B : V.Base} {sg r : V.Sg} (hw : Hp B sg w1) (hp : Pick [ownG 36 (g.1.flatMap toC) g.2, g.1.flatMap toM] sg r) : ∃ (p : Option Addr) (c : Nat) (l : List TF), ownV g.1.length g.2 = .slice p l.length c ∧ l.map (fun t => t.2.2) = rowsF C ∧ TfsR w1 p l := by
  have h4 := hw.pick hp
  have m1 : Mem (ownG 36 (g.1.flatMap toC) g.2) w1 := fun q hq => h4.own q (by simp only [List.flatten_cons, List.flatten_nil, List.append_nil, List.mem_append]; exact .inl hq)
  have m2 : Mem (g.1.flatMap toM) w1 := fun q hq => h4.own q (by simp only [List.flatten_cons, List.flatten_nil, List.append_nil, List.mem_append]; exact .inr hq)
  have hs : ∀ t ∈ g.1, ∀ p ∈ t.aps, SmA p.1 := fun t ht p hpp => by
    have h9 : toA t ∈ rowsF C := by rw [← h1]; exact List.mem_map.2 ⟨t, ht, rfl⟩
    unfold rowsF at h9
    split at h9
    · simp at h9
    · rename_i hn
      obtain ⟨row, hr, he⟩ := List.mem_map.1 h9
      have h10 := (perm_row (by omega) row hr).1
      have h11 := (sm_run C row).2 p.1 (by
        have h12 : (toA t).ans = (turnOf C row).ans := by rw [he]
        have h13 : p.1 ∈ (toA t).ans := List.mem_map.2 ⟨p, hpp, rfl⟩
        rw [h12] at h13
        exact h13)
      exact ⟨by omega, by omega⟩
  obtain ⟨h5, h6⟩ := tfs_of h2 h3 hs m1 m2
  refine ⟨_, _, g.1.map tfOf, by rw [slO_v, h5, List.length_map], ?_, h6⟩
  rw [List.map_map, ← h1]
  rfl
theorem rows_row {C : Crs} {l : List TF} {k : Nat} {t : TF} (h : l.map (fun t => t.2.2) = rowsF C) (hk : l[k]? = some t) : (0 < C.length ∧ C.length ≤ 3) ∧ (perms C.length)[k]? = some t.2.2.row ∧ t.2.2 = turnOf C t.2.2.row := by
  have h1 : (rowsF C)[k]? = some t.2.2 := by rw [← h, List.getElem?_map, hk]; rfl
  unfold rowsF at h1
  split at h1
  · simp at h1
  · rename_i hn
    rw [List.getElem?_map] at h1
    cases hq : (perms C.length)[k]? with
    | none => rw [hq] at h1; cases h1
    | some r =>
      rw [hq] at h1
      simp only [Option.map_some, Option.some.injEq] at h1
      have h2 : t.2.2.row = r := by rw [← h1]; rfl
      exact ⟨by omega, by rw [h2], by rw [h2, h1]⟩
def facI (n : Nat) : Int := if n = 1 then 1 else if n = 2 then 2 else 6
theorem rows_fac {C : Crs} (h1 : 0 < C.length) (h3 : C.length ≤ 3) : ((rowsF C).length : Int) = facI C.length := by
  unfold rowsF
  rw [if_neg (by omega), List.length_map]
  obtain h | h | h : C.length = 1 ∨ C.length = 2 ∨ C.length = 3 := by omega
  all_goals rw [h]; decide
theorem perm_nodup {n : Nat} (hn : n ≤ 3) : ∀ r ∈ perms n, r.Nodup := by
  obtain h | h | h | h : n = 0 ∨ n = 1 ∨ n = 2 ∨ n = 3 := by omega
  all_goals subst h; decide
theorem perm_below {n : Nat} (hn : n ≤ 3) {k : Nat} {r s : List Nat} (hr : (perms n)[k]? = some r) (hs : (perms n)[k + 1]? = some s) : belowF r s = true := by
  have key : ∀ m ≤ 3, ∀ i < 6, (match (perms m)[i]?, (perms m)[i + 1]? with | some a, some b => belowF a b | _, _ => true) = true := by decide
  have hk : k < 6 := by have := (List.getElem?_eq_some_iff.1 hr).1; have := perm_len hn; omega
  have := key n hn k hk
  rw [hr, hs] at this
  exact this
/-- A turn, as Among takes it. -/
def txOf (t : TF) : TX := (List.zipWith (fun a y => (a, y.hs)) t.2.1 t.2.2.ans, t.2.2.sh)
theorem zip_fst {xs : List RA} {ys : List AnsA} (h : xs.length = ys.length) : (List.zipWith (fun a y => ((a, y.hs) : RB)) xs ys).map Prod.fst = xs := by
  induction xs generalizing ys with
  | nil => rfl
  | cons a r ih => cases ys with
    | nil => simp at h
    | cons y s => simp only [List.zipWith_cons_cons, List.map_cons, ih (by simpa using h)]
def SmT (x : TurnA) : Prop := (x.row.length ≤ 3 ∧ x.ans.length ≤ 3) ∧ (x.sh.1.length ≤ 9 ∧ x.sh.2.length ≤ 9) ∧ ∀ a ∈ x.ans, SmA a
theorem smT_of {C : Crs} {l : List TF} (h : l.map (fun t => t.2.2) = rowsF C) : ∀ t ∈ l, SmT t.2.2 := fun t ht => by
  obtain ⟨k, hk⟩ := List.mem_iff_getElem?.1 ht
  obtain ⟨⟨_, h3⟩, hp, he⟩ := rows_row h hk
  have hr := (perm_row h3 _ (List.mem_of_getElem? hp)).1
  have hs := sm_run C t.2.2.row
  rw [he]
  refine ⟨⟨by show t.2.2.row.length ≤ 3; omega, by rw [turn_ans_len]; omega⟩, ⟨by have := hs.1; show (runT C t.2.2.row).1.1.length ≤ 9; omega, by have := hs.1; show (runT C t.2.2.row).1.2.length ≤ 9; omega⟩, fun a ha => by have := hs.2 a ha; exact ⟨by omega, by omega⟩⟩
theorem rtR_of {w : World} {t : TF} (h : TfR w t) (hs : SmT t.2.2) : RtR w t.1 (txOf t) := by
  have hz := zip_fst h.al
  have hl : (txOf t).1.length = t.2.1.length := by unfold txOf; simp [h.al]
  refine ⟨⟨by rw [hl]; exact h.an, by unfold txOf; simp only; rw [hz]; exact h.asl⟩, fun a ha => ?_, h.sf, by rw [hl, h.al]; have := hs.1; omega, by have := hs.2.1; show t.2.2.sh.1.length ≤ _; omega, by have := hs.2.1; show t.2.2.sh.2.length ≤ _; omega⟩
  obtain ⟨i, hi⟩ := List.mem_iff_getElem?.1 ha
  unfold txOf at hi
  simp only [List.getElem?_zipWith] at hi
  cases ha1 : t.2.1[i]? with
  | none => rw [ha1] at hi; simp at hi
  | some a1 =>
    cases hy1 : t.2.2.ans[i]? with
    | none => rw [ha1, hy1] at hi; simp at hi
    | some y1 =>
      rw [ha1, hy1] at hi
      simp only [Option.some.injEq] at hi
      subst hi
      have h9 := h.aa i a1 y1 ha1 hy1
      exact ⟨h9.2.2.1, by have := h9.2.2.2.2; simp only; omega⟩
def trOf (t : TF) : TR := (t.1, txOf t)
theorem tsR_of {w : World} {p : Option Addr} {l : List TF} (h : TfsR w p l) (hs : ∀ t ∈ l, SmT t.2.2) : TsR w p (l.map trOf) := by
  refine ⟨by rw [List.map_map]; exact h.1, fun t ht => ?_⟩
  obtain ⟨q, hq, rfl⟩ := List.mem_map.1 ht
  exact rtR_of (h.2 q hq) (hs q hq)
theorem turnEq_self (x : TX) : turnEq x x = true := by
  unfold turnEq
  rw [decide_eq_true rfl, allEq_yes rfl (fun i a b ha hb => by rw [ha] at hb; cases hb; unfold ansEq; simp)]
  rfl
theorem among_self {l : List TF} {k : Nat} {t : TF} (h : l[k]? = some t) : amongF (txOf t) ((l.map trOf).map Prod.snd) = true := by
  rw [amongF, List.any_eq_true]
  exact ⟨txOf t, by rw [List.map_map]; exact List.mem_map.2 ⟨t, List.mem_of_getElem? h, rfl⟩, turnEq_self _⟩
theorem map_atF {l : List TF} {k : Nat} {x : RT} (h : (l.map Prod.fst)[k]? = some x) : ∃ y, l[k]? = some (x, y) := by
  rw [List.getElem?_map] at h
  cases hl : l[k]? with
  | none => rw [hl] at h; cases h
  | some y => rw [hl] at h; simp at h; exact ⟨y.2, by rw [← h]⟩
end I
end Go.Proofs.YtlpbjmbgopfkhaaGreat

/- The row EveryOrders, walked. -/
namespace Go.Proofs.YtlpbjmbgopfkhaaGreat
open Go Go.RowKit V
set_option linter.unusedVariables false
set_option maxRecDepth 100000
namespace I
open V (str byC ownV ownG ownS ownOk)
def sfO (A : ShA) (o : ShO) : Sf := ⟨slO A.1.length o.1, slF A.2.length o.2⟩
theorem sfO_c (A : ShA) (o : ShO) : shC A o = (sfO A o).cells := by unfold shC sfO Sf.cells; rw [slO_v, slF_v]
theorem sfO_ok {A : ShA} {o : ShO} {B : V.Base} {sg r : V.Sg} {w : World} (hk : shOk A o) (hw : Hp B sg w) (hp : Pick [ownG 69 (A.1.flatMap prC) o.1, offG 9 (A.2.flatMap stE) o.2] sg r) : SfR w (sfO A o) A := by
  have h4 := hw.pick hp
  have h1 := slO_ok (e := 69) prC_len (by decide) hk.1 (fun q hq => h4.own q (by simp only [List.flatten_cons, List.flatten_nil, List.append_nil, List.mem_append]; exact .inl hq))
  have h2 := slF_ok hk.2 (fun q hq => h4.own q (by simp only [List.flatten_cons, List.flatten_nil, List.append_nil, List.mem_append]; exact .inr hq))
  exact ⟨h1.1, h2.1, h1.2, h2.2⟩
theorem mem_ap {p : AP} {B : V.Base} {sg r : V.Sg} {w : World} (hw : Hp B sg w) (hp : Pick [ownG 69 (p.1.ps.flatMap prC) p.2.1, ownG 4 (p.1.hs.flatMap boE) p.2.2] sg r) : Mem (apM p) w := fun q hq => (hw.pick hp).own q (by simpa [apM] using hq)
theorem sf_at {rt : RT} {q : Nat} {v : Value} (h : rt.s.cells[q]? = some v) : (rtC rt)[2 + q]? = some v := by rcases q with _ | _ | q <;> simp_all [rtC, Sf.cells]
theorem bo_at {sn : List Bool} {k : Nat} {b : Bool} (h : sn[k]? = some b) : (sn.flatMap boE)[0 + k * 1]? = some (.bool b) := by
  obtain ⟨q, hq⟩ := V.drop_flatMap boE_len sn k b h
  rw [← List.head?_drop, Nat.zero_add, hq]
  rfl
theorem fac_at {n : Nat} (h1 : 1 ≤ n) (h3 : n ≤ 3) : [Value.int .i64 1, Value.int .i64 1, Value.int .i64 2, Value.int .i64 6][0 + n * 1]? = some (.int .i64 (facI n)) := by
  obtain rfl | rfl | rfl : n = 1 ∨ n = 2 ∨ n = 3 := by omega
  all_goals rfl
theorem seen_0 (row : List Nat) (i : Nat) (b : Bool) (h : [false, false, false][i]? = some b) : b = decide (i ∈ row.take 0) := by
  rcases i with _ | _ | _ | i <;> simp_all
theorem bo_set {k : Nat} : ∀ (sn : List Bool), (sn.flatMap boE).set k (.bool true) = (sn.set k true).flatMap boE := by
  induction k with
  | zero => intro sn; cases sn <;> rfl
  | succ k ih => intro sn; cases sn with
    | nil => rfl
    | cons b r => simp only [List.flatMap_cons, boE, List.cons_append, List.nil_append, List.set_cons_succ, List.cons.injEq, true_and]; exact ih r
theorem bo_lt {sn : List Bool} {k : Nat} (h : k < sn.length) : (0 + k * 1).blt (sn.flatMap boE).length = true := by
  rw [V.flatMap_len boE_len, Nat.blt_eq]; omega
theorem shC_one (A : ShA) (o : ShO) : (shC A o).all (·.oneCell') = true := by simp [shC, V.ownV_one, offV_one]
theorem dup_no {row : List Nat} (h : row.Nodup) {i j kk : Nat} (hi : row[i]? = some kk) (hj : row[j]? = some kk) : i = j := by
  obtain ⟨h1, h2⟩ := List.getElem?_eq_some_iff.1 hi
  obtain ⟨h3, h4⟩ := List.getElem?_eq_some_iff.1 hj
  exact (List.getElem_inj h).1 (h2.trans h4.symm)
theorem seen_step {row : List Nat} {sn : List Bool} {j kk : Nat} (h5 : sn.length = 3) (h6 : ∀ (i : Nat) (b : Bool), sn[i]? = some b → b = decide (i ∈ row.take j)) (hrj : row[j]? = some kk) (hk : kk < 3) (i : Nat) (b : Bool) (hb : (sn.set kk true)[i]? = some b) : b = decide (i ∈ row.take (j + 1)) := by
  rw [List.take_add_one, hrj]
  simp only [Option.toList_some, List.mem_append, List.mem_singleton]
  by_cases e : i = kk
  · subst e
    rw [List.getElem?_set_self (by omega)] at hb
    cases hb
    simp
  · rw [List.getElem?_set_ne (fun e9 => e e9.symm)] at hb
    rw [h6 i b hb]
    simp [e]
set_option maxHeartbeats 1600000 in
theorem everyOrders_c (C : Crs) (p : Option Addr) (n cc : Nat) (hn : n = C.length) (w : World) (hcs : V.slAt w p 5 calC (C.map Prod.fst)) (hc : ∀ c ∈ C, CalR w c.1 c.2) : Calls Tryz.prog 6 [.slice p n cc].toArray w fun e w' => e = .returned (.bool true) ∧ Below w.heap.size w w' := by
  subst hn
  refine V.calls [] Tryz.func6 rfl Tryz.ntmps6 (Nat.le_of_ble_eq_true rfl) (V.sat_nil _) ?_
  refine CW.seq ?_
  refine CW.region ?_
  refine LW.v rfl rfl (Val.assign rfl) ?_
  refine LW.nil ?_
  refine PQ.seq ?_
  refine CW.seq ?_
  refine CW.seq ?_
  refine CW.region ?_
  refine LW.v rfl rfl (Val.move rfl) ?_
  refine LW.e rfl rfl (Eff.callR rfl Tryz.call7 (fun w hw => heavy_c C p _ cc rfl w (slAt_hp hcs hw) (fun c h => (hc c h).hp hw))) ?_
  intro z hz
  refine LW.nil ?_
  refine PQ.seq ?_
  refine CW.cond rfl (fun h13 => ?_) (fun h13 => ?_)
  · replace h13 := bT h13
    refine CW.seq ?_
    refine CW.region ?_
    refine LW.e rfl rfl (Eff.callV rfl Tryz.call8 (fun w hw => awake_c w)) ?_
    intro _ _
    refine LW.v rfl rfl (Val.assign rfl) ?_
    refine LW.nil ?_
    refine PQ.seq ?_
    refine CW.ret ?_
    refine PQ.then_ret ?_
    refine PQ.ret1 rfl rfl ?_
    intro w' hw; exact ⟨rfl, hw.below⟩
  · replace h13 := bF h13
    have hC := hz h13
    refine CW.skip ?_
    refine PQ.seq ?_
    refine CW.seq ?_
    refine CW.region ?_
    refine LW.v rfl rfl (Val.move rfl) ?_
    refine LW.e rfl rfl (Eff.callM ([]) .nil rfl Tryz.call9 (fun w hw hs => rows_c C p _ cc rfl w ⟨slAt_hp hcs hw, fun c h => ⟨(hc c h).hp hw, by have h9 := (hC.2 c h).1; omega⟩⟩)) ?_
    rintro g ⟨hg1, hg2, hg3⟩
    refine V.LW.rebase fun w1 hw1 => ?_
    obtain ⟨p9, c9, l9, hv9, hl9, hT9⟩ := rows_of hg1 hg2 hg3 hw1 (by repeat (first | exact .nil | apply Pick.cons | exact .here | apply Ext.there))
    have hbb := hw1.below
    have hs1 := slAt_hp hcs hw1
    have hc1 : ∀ c ∈ C, CalR w1 c.1 c.2 := fun c h => (hc c h).hp hw1
    have hS9 := smT_of hl9
    have hlen := congrArg List.length hl9
    rw [List.length_map] at hlen
    clear hw1 hg1 hg2 hg3
    refine LW.re 16 (.slice p9 l9.length c9) rfl hv9 ?_
    refine LW.v rfl rfl (Val.assign rfl) ?_
    refine LW.nil ?_
    refine PQ.seq ?_
    refine CW.seq ?_
    refine CW.region ?_
    refine LW.v rfl rfl (Val.move rfl) ?_
    refine LW.v rfl rfl (Val.lenSl rfl Tryz.underlying22) ?_
    refine LW.v rfl rfl (Val.assign rfl) ?_
    refine LW.nil ?_
    refine PQ.seq ?_
    refine CW.seq ?_
    refine CW.seq ?_
    refine CW.region ?_
    refine LW.v rfl rfl (Val.move rfl) ?_
    refine LW.v rfl rfl (Val.cmp rfl rfl rfl) ?_
    refine LW.v rfl rfl (Val.move rfl) ?_
    refine LW.split (d := 21) rfl (fun h21 => ?_) (fun h21 => ?_)
    · replace h21 := bT h21
      have h21 : (C.length : Int) < 1 := h21
      have hn3s : C.length < 1 ∨ 3 < C.length := by omega
      have hl0 : l9.length = 0 := by rw [hlen]; unfold rowsF; rw [if_pos (by omega)]; rfl
      refine LW.p rfl rfl ?_
      refine LW.p rfl rfl ?_
      refine LW.v rfl rfl (Val.pick_t rfl rfl) ?_
      refine LW.nil ?_
      refine PQ.seq ?_
      refine CW.cond_t rfl ?_
      refine CW.seq ?_
      refine CW.region ?_
      refine LW.v rfl rfl (Val.move rfl) ?_
      refine LW.v rfl rfl (Val.lenSl rfl Tryz.underlying25) ?_
      refine LW.v rfl rfl (Val.cmp rfl rfl rfl) ?_
      refine LW.re 27 (.bool true) rfl (by simp [hl0]) ?_
      refine LW.v rfl rfl (Val.move rfl) ?_
      refine LW.e rfl rfl (Eff.callV rfl Tryz.call8 (fun w hw => awake_c w)) ?_
      intro _ _
      refine LW.v rfl rfl (Val.pick_t rfl rfl) ?_
      refine LW.v rfl rfl (Val.assign rfl) ?_
      refine LW.nil ?_
      refine PQ.seq ?_
      refine CW.ret ?_
      refine PQ.then_ret ?_
      refine PQ.ret1 rfl rfl ?_
      intro w' hw; exact ⟨rfl, V.below_on hbb hw.below⟩
    · replace h21 := bF h21
      have h21 : ¬ (C.length : Int) < 1 := by omega
      refine LW.v rfl rfl (Val.move rfl) ?_
      refine LW.v rfl rfl (Val.cmp rfl rfl rfl) ?_
      refine LW.v rfl rfl (Val.pick_f rfl rfl) ?_
      refine LW.nil ?_
      refine PQ.seq ?_
      refine CW.cond rfl (fun h24 => ?_) (fun h24 => ?_)
      · replace h24 := bT h24
        have h24 : (C.length : Int) > 3 := h24
        have hn3s : C.length < 1 ∨ 3 < C.length := by omega
        have hl0 : l9.length = 0 := by rw [hlen]; unfold rowsF; rw [if_pos (by omega)]; rfl
        refine CW.seq ?_
        refine CW.region ?_
        refine LW.v rfl rfl (Val.move rfl) ?_
        refine LW.v rfl rfl (Val.lenSl rfl Tryz.underlying25) ?_
        refine LW.v rfl rfl (Val.cmp rfl rfl rfl) ?_
        refine LW.re 27 (.bool true) rfl (by simp [hl0]) ?_
        refine LW.v rfl rfl (Val.move rfl) ?_
        refine LW.e rfl rfl (Eff.callV rfl Tryz.call8 (fun w hw => awake_c w)) ?_
        intro _ _
        refine LW.v rfl rfl (Val.pick_t rfl rfl) ?_
        refine LW.v rfl rfl (Val.assign rfl) ?_
        refine LW.nil ?_
        refine PQ.seq ?_
        refine CW.ret ?_
        refine PQ.then_ret ?_
        refine PQ.ret1 rfl rfl ?_
        intro w' hw; exact ⟨rfl, V.below_on hbb hw.below⟩
      · replace h24 := bF h24
        have h24 : ¬ (C.length : Int) > 3 := by omega
        have hlf : (l9.length : Int) = facI C.length := by rw [hlen]; exact rows_fac (by omega) (by omega)
        refine CW.skip ?_
        refine PQ.seq ?_
        refine CW.seq ?_
        refine CW.seq ?_
        refine CW.region ?_
        refine LW.v rfl rfl (Val.move rfl) ?_
        refine LW.v rfl rfl (Val.lenSl rfl Tryz.underlying25) ?_
        refine LW.e rfl rfl (Eff.buildSlice (rfl) [_, _, _, _] Tryz.underlying29 Tryz.sizeOf3 (by exact Tryz.zeroValue3) rfl rfl rfl rfl (by rfl)) ?_
        intro b33 _
        refine LW.v rfl rfl (Val.move rfl) ?_
        refine LW.v rfl rfl (Val.indexAddrN rfl rfl Tryz.underlying29 Tryz.sizeOf3 (show C.length < 4 by omega)) ?_
        refine LW.v rfl rfl (Val.load (v := .int .i64 (facI C.length)) rfl Tryz.isAgg3 (by repeat (first | exact .here | exact .inner .here | exact .inner (.inner .here) | refine .there ?_)) (fac_at (by omega) (by omega))) ?_
        refine LW.v rfl rfl (Val.cmp rfl rfl rfl) ?_
        refine LW.re 37 (.bool false) rfl (by rw [hlf]; simp) ?_
        refine LW.nil ?_
        refine PQ.seq ?_
        refine CW.cond_f rfl ?_
        refine CW.skip ?_
        refine PQ.seq ?_
        refine CW.seq ?_
        refine CW.seq ?_
        refine CW.region ?_
        refine LW.v rfl rfl (Val.assign rfl) ?_
        refine LW.nil ?_
        refine PQ.seq ?_
        refine CW.block ?_
        refine CW.loop (γ := Nat) (fun k => [(0, .slice p C.length cc), (3, .slice p9 l9.length c9), (4, .int .i64 (C.length : Nat)), (5, .int .i64 (k : Nat))]) (fun _ => []) (fun k => k ≤ l9.length) (fun k => l9.length - k) (0) (Nat.zero_le _) (by repeat (first | exact trivial | refine ⟨rfl, ?_⟩)) (by repeat (first | exact .nil | apply Pick.cons | exact .here | apply Ext.there)) ?_
        intro k
        intro hk1
        refine CW.seq ?_
        refine CW.seq ?_
        refine CW.region ?_
        refine LW.v rfl rfl (Val.move rfl) ?_
        refine LW.v rfl rfl (Val.move rfl) ?_
        refine LW.v rfl rfl (Val.lenSl rfl Tryz.underlying25) ?_
        refine LW.v rfl rfl (Val.cmp rfl rfl rfl) ?_
        refine LW.nil ?_
        refine PQ.seq ?_
        refine CW.cond rfl (fun h41 => ?_) (fun h41 => ?_)
        · replace h41 := bT h41
          have hk9 : k < l9.length := by omega
          obtain ⟨bb1, o1, rt, rfl, hb1, hx1, hr1⟩ := V.slAt_at hT9.1 (by simp) (k := k) hk9
          obtain ⟨⟨as9, x9⟩, hl1⟩ := map_atF hx1
          have ht := hT9.2 _ (List.mem_of_getElem? hl1)
          have hst := hS9 _ (List.mem_of_getElem? hl1)
          obtain ⟨⟨hn0, hn3⟩, hpr, hxe⟩ := rows_row hl9 hl1
          obtain ⟨hrl, hrk⟩ := perm_row hn3 _ (List.mem_of_getElem? hpr)
          have hnd := perm_nodup hn3 _ (List.mem_of_getElem? hpr)
          have hal : x9.ans.length = C.length := by
            have h9 := congrArg TurnA.ans hxe
            simp only at h9
            rw [h9, turn_ans_len]
          have hrt := rtR_of ht hst
          have hll : l9.length ≤ 1000 := by
            have h9 := perm_len hn3
            rw [hlen]; unfold rowsF; split
            · exact Nat.zero_le _
            · rw [List.length_map]; omega
          have ha9 := among_self hl1
          have e1 : rt.r.n = C.length := ht.rn.trans hrl
          have e2 : rt.a.n = C.length := ht.an.trans (ht.al.trans hal)
          refine CW.skip ?_
          refine PQ.seq ?_
          refine CW.seq ?_
          refine CW.block ?_
          refine CW.seq ?_
          refine CW.region ?_
          refine LW.v rfl rfl (Val.move rfl) ?_
          refine LW.v rfl rfl (Val.move rfl) ?_
          refine LW.v rfl rfl (Val.indexAddrN rfl rfl Tryz.underlying25 Tryz.sizeOf36 hk9) ?_
          refine LW.v rfl rfl (Val.fieldAddr 0 rfl Tryz.underlying36 rfl rfl Tryz.sizeOf29) ?_
          refine LW.v rfl rfl (Val.loadO rfl Tryz.isAgg29 hb1 (by simp [ids]) (hr1 k _ hx1 0 _ rfl)) ?_
          refine LW.v rfl rfl (Val.assign rfl) ?_
          refine LW.nil ?_
          refine PQ.seq ?_
          refine CW.seq ?_
          refine CW.seq ?_
          refine CW.region ?_
          refine LW.v rfl rfl (Val.move rfl) ?_
          refine LW.v rfl rfl (Val.lenSl rfl Tryz.underlying29) ?_
          refine LW.v rfl rfl (Val.move rfl) ?_
          refine LW.v rfl rfl (Val.cmp rfl rfl rfl) ?_
          refine LW.re 52 (.bool false) rfl (by rw [e1]; simp) ?_
          refine LW.v rfl rfl (Val.move rfl) ?_
          refine LW.v rfl rfl (Val.move rfl) ?_
          refine LW.v rfl rfl (Val.move rfl) ?_
          refine LW.v rfl rfl (Val.indexAddrN rfl rfl Tryz.underlying25 Tryz.sizeOf36 hk9) ?_
          refine LW.v rfl rfl (Val.fieldAddr 1 rfl Tryz.underlying36 rfl rfl Tryz.sizeOf30) ?_
          refine LW.v rfl rfl (Val.loadO rfl Tryz.isAgg30 hb1 (by simp [ids]) (hr1 k _ hx1 1 _ rfl)) ?_
          refine LW.v rfl rfl (Val.lenSl rfl Tryz.underlying30) ?_
          refine LW.v rfl rfl (Val.move rfl) ?_
          refine LW.v rfl rfl (Val.cmp rfl rfl rfl) ?_
          refine LW.re 61 (.bool false) rfl (by rw [e2]; simp) ?_
          refine LW.v rfl rfl (Val.pick_f rfl rfl) ?_
          refine LW.v rfl rfl (Val.move rfl) ?_
          refine LW.v rfl rfl (Val.move rfl) ?_
          refine LW.v rfl rfl (Val.move rfl) ?_
          refine LW.v rfl rfl (Val.indexAddrN rfl rfl Tryz.underlying25 Tryz.sizeOf36 hk9) ?_
          refine LW.v rfl rfl (Val.loadOA rfl Tryz.isAgg36 hb1 (by simp [ids]) (hr1 k rt hx1) Tryz.sizeOf36) ?_
          refine LW.v rfl rfl (Val.move rfl) ?_
          refine LW.e rfl rfl (Eff.callV rfl Tryz.call16 (fun w hw => among_c rt (txOf (rt, as9, x9)) (l9.map trOf) _ _ c9 (by simp) (by simpa using hll) w (hrt.hp hw) ((tsR_of hT9 hS9).hp hw))) ?_
          intro _ _
          refine LW.v rfl rfl (Val.not rfl) ?_
          refine LW.re 70 (.bool false) rfl (by rw [ha9]; rfl) ?_
          refine LW.v rfl rfl (Val.pick_f rfl rfl) ?_
          refine LW.nil ?_
          refine PQ.seq ?_
          refine CW.cond_f rfl ?_
          refine CW.skip ?_
          refine PQ.seq ?_
          refine CW.seq ?_
          refine CW.region ?_
          refine LW.e rfl rfl (Eff.allocA (by exact Tryz.zeroValue34)) ?_
          intro b7 _
          refine LW.nil ?_
          refine PQ.seq ?_
          refine CW.seq ?_
          refine CW.region ?_
          refine LW.e rfl rfl (Eff.allocA (by exact Tryz.zeroValue44)) ?_
          intro b8 _
          refine LW.nil ?_
          refine PQ.seq ?_
          refine CW.seq ?_
          refine CW.seq ?_
          refine CW.region ?_
          refine LW.v rfl rfl (Val.assign rfl) ?_
          refine LW.nil ?_
          refine PQ.seq ?_
          refine CW.block ?_
          refine V.CW.perm (sg' := [[(b7, .cells (shC (([], []) : ShA) ((none, none) : ShO)).toArray 34 (0, 0))], [(b8, .cells ([false, false, false].flatMap boE).toArray 44 (0, 0))], ownG 69 ((([], []) : ShA).1.flatMap prC) ((none, none) : ShO).1, offG 9 ((([], []) : ShA).2.flatMap stE) ((none, none) : ShO).2]) ?_ (by first | (simp [V.ownG, V.ownS, offG]; done) | (simp [V.ownG, V.ownS, offG]; exact List.Perm.swap _ _ _))
          refine CW.loop (γ := Nat × ShA × ShO × List Bool) (fun x => [(0, .slice p C.length cc), (3, .slice (some ⟨bb1, o1, none⟩) l9.length c9), (4, .int .i64 (C.length : Nat)), (5, .int .i64 (k : Nat)), (6, .slice rt.r.a rt.r.n rt.r.c), (7, .pointer (some ⟨b7, 0, none⟩)), (8, .pointer (some ⟨b8, 0, none⟩)), (9, .int .i64 (x.1 : Nat))]) (fun x => [[(b7, .cells (shC x.2.1 x.2.2.1).toArray 34 (0, 0))], [(b8, .cells (x.2.2.2.flatMap boE).toArray 44 (0, 0))], ownG 69 (x.2.1.1.flatMap prC) x.2.2.1.1, offG 9 (x.2.1.2.flatMap stE) x.2.2.1.2]) (fun x => x.1 ≤ C.length ∧ x.2.1 = ((x9.row.take x.1).foldl (stepT C) (([], []), List.replicate C.length ⟨0, false, [], [], []⟩)).1 ∧ shOk x.2.1 x.2.2.1 ∧ (x.2.1.1.length ≤ 3 * x.1 ∧ x.2.1.2.length ≤ 3 * x.1) ∧ x.2.2.2.length = 3 ∧ ∀ (i : Nat) (b : Bool), x.2.2.2[i]? = some b → b = decide (i ∈ x9.row.take x.1)) (fun x => C.length - x.1) ((0, ([], []), (none, none), [false, false, false])) ⟨Nat.zero_le _, rfl, ⟨⟨rfl, rfl⟩, rfl⟩, ⟨Nat.le_refl _, Nat.le_refl _⟩, rfl, seen_0 _⟩ (by repeat (first | exact trivial | refine ⟨rfl, ?_⟩)) (by repeat (first | exact .nil | apply Pick.cons | exact .here | apply Ext.there)) ?_
          intro x
          obtain ⟨j, A, so, sn⟩ := x
          rintro ⟨hj1, hj2, hj3, hj4, hj5, hj6⟩
          simp only at hj1 hj2 hj3 hj4 hj5 hj6
          refine CW.seq ?_
          refine CW.seq ?_
          refine CW.region ?_
          refine LW.v rfl rfl (Val.move rfl) ?_
          refine LW.v rfl rfl (Val.move rfl) ?_
          refine LW.v rfl rfl (Val.cmp rfl rfl rfl) ?_
          refine LW.nil ?_
          refine PQ.seq ?_
          refine CW.cond rfl (fun h74 => ?_) (fun h74 => ?_)
          · replace h74 := bT h74
            have hj9 : j < C.length := by omega
            have hjr : j < rt.r.n := by omega
            obtain ⟨br, orr, kk, hpa, hbr, hrj, hrr⟩ := V.slAt_at ht.rs ht.rn.symm (k := j) hjr
            have hkn := hrk kk (List.mem_of_getElem? hrj)
            have hkn3 : kk < 3 := by omega
            obtain ⟨bc, oc, cx, rfl, hbc, hxc, hrc⟩ := V.slAt_at hs1 (by simp) (k := kk) hkn
            obtain ⟨L, hck⟩ := map_atC hxc
            have hL : L.length ≤ 600 := (hC.2 _ (List.mem_of_getElem? hck)).1
            have hka : kk < rt.a.n := by omega
            obtain ⟨ba, oa, ax, hpb, hba, hxa, hra⟩ := V.slAt_at ht.asl ht.an.symm (k := kk) hka
            have hya : x9.ans[kk]? = some (apA A cx L).2 := by
              have h9 := ans_at hnd hrj hck hkn
              rw [hj2]
              rw [← hxe] at h9
              exact h9
            have hsa := hst.2.2 _ (List.mem_of_getElem? hya)
            obtain ⟨bv, hbv⟩ : ∃ bv, sn[kk]? = some bv := ⟨sn[kk]'(by omega), by simp⟩
            have hbf : bv = false := by
              rw [hj6 kk bv hbv, decide_eq_false]
              intro hm
              obtain ⟨i, hi⟩ := List.mem_iff_getElem?.1 hm
              have hij : i < j := by have h9 := (List.getElem?_eq_some_iff.1 hi).1; rw [List.length_take] at h9; omega
              rw [List.getElem?_take_of_lt hij] at hi
              have h9 := dup_no hnd hi hrj
              omega
            have hks : kk < sn.length := by omega
            subst hbf
            have hb8 := bo_at hbv
            refine CW.skip ?_
            refine PQ.seq ?_
            refine CW.seq ?_
            refine CW.block ?_
            refine CW.seq ?_
            refine CW.seq ?_
            refine CW.region ?_
            refine LW.v rfl rfl (Val.move rfl) ?_
            refine LW.re 77 (.slice (some ⟨br, orr, none⟩) rt.r.n rt.r.c) rfl (by rw [hpa]) ?_
            refine LW.v rfl rfl (Val.move rfl) ?_
            refine LW.v rfl rfl (Val.indexAddrN rfl rfl Tryz.underlying29 Tryz.sizeOf3 hjr) ?_
            refine LW.v rfl rfl (Val.loadO rfl Tryz.isAgg3 hbr (by simp [ids]) (hrr j kk hrj 0 _ rfl)) ?_
            refine LW.v rfl rfl (Val.cmp rfl rfl rfl) ?_
            refine LW.re 81 (.bool false) rfl (by simp <;> omega) ?_
            refine LW.v rfl rfl (Val.move rfl) ?_
            refine LW.v rfl rfl (Val.move rfl) ?_
            refine LW.re 83 (.slice (some ⟨br, orr, none⟩) rt.r.n rt.r.c) rfl (by rw [hpa]) ?_
            refine LW.v rfl rfl (Val.move rfl) ?_
            refine LW.v rfl rfl (Val.indexAddrN rfl rfl Tryz.underlying29 Tryz.sizeOf3 hjr) ?_
            refine LW.v rfl rfl (Val.loadO rfl Tryz.isAgg3 hbr (by simp [ids]) (hrr j kk hrj 0 _ rfl)) ?_
            refine LW.v rfl rfl (Val.move rfl) ?_
            refine LW.v rfl rfl (Val.cmp rfl rfl rfl) ?_
            refine LW.re 88 (.bool false) rfl (by simp <;> omega) ?_
            refine LW.v rfl rfl (Val.pick_f rfl rfl) ?_
            refine LW.v rfl rfl (Val.move rfl) ?_
            refine LW.v rfl rfl (Val.move rfl) ?_
            refine LW.re 91 (.slice (some ⟨br, orr, none⟩) rt.r.n rt.r.c) rfl (by rw [hpa]) ?_
            refine LW.v rfl rfl (Val.move rfl) ?_
            refine LW.v rfl rfl (Val.indexAddrN rfl rfl Tryz.underlying29 Tryz.sizeOf3 hjr) ?_
            refine LW.v rfl rfl (Val.loadO rfl Tryz.isAgg3 hbr (by simp [ids]) (hrr j kk hrj 0 _ rfl)) ?_
            first | (refine LW.v rfl rfl (Val.indexAddrA rfl rfl Tryz.underlying44 Tryz.sizeOf4 (by omega)) ?_) | (refine LW.v rfl rfl (Val.indexAddrAI rfl rfl Tryz.underlying44 Tryz.sizeOf4 (by omega) (by omega)) ?_)
            refine LW.v rfl rfl (Val.load (v := .bool false) rfl Tryz.isAgg4 (by repeat (first | exact .here | exact .inner .here | exact .inner (.inner .here) | refine .there ?_)) hb8) ?_
            refine LW.v rfl rfl (Val.pick_f rfl rfl) ?_
            refine LW.nil ?_
            refine PQ.seq ?_
            refine CW.cond_f rfl ?_
            refine CW.skip ?_
            refine PQ.seq ?_
            refine CW.seq ?_
            refine CW.region ?_
            refine LW.v rfl rfl (Val.move rfl) ?_
            refine LW.re 98 (.slice (some ⟨br, orr, none⟩) rt.r.n rt.r.c) rfl (by rw [hpa]) ?_
            refine LW.v rfl rfl (Val.move rfl) ?_
            refine LW.v rfl rfl (Val.indexAddrN rfl rfl Tryz.underlying29 Tryz.sizeOf3 hjr) ?_
            refine LW.v rfl rfl (Val.loadO rfl Tryz.isAgg3 hbr (by simp [ids]) (hrr j kk hrj 0 _ rfl)) ?_
            first | (refine LW.v rfl rfl (Val.indexAddrA rfl rfl Tryz.underlying44 Tryz.sizeOf4 (by omega)) ?_) | (refine LW.v rfl rfl (Val.indexAddrAI rfl rfl Tryz.underlying44 Tryz.sizeOf4 (by omega) (by omega)) ?_)
            refine LW.eN rfl (Eff.store (l' := (sn.set kk true).flatMap boE) rfl rfl rfl (by repeat (first | exact .here | exact .inner .here | exact .inner (.inner .here) | apply Upd.there)) (by rw [Nat.zero_add, Nat.mul_one]; exact bo_set sn) (bo_lt hks) Tryz.sizeOf4) ?_
            intro _ _
            refine LW.nil ?_
            refine PQ.seq ?_
            refine CW.seq ?_
            refine CW.drawn ([[(b7, .cells (shC A so).toArray 34 (0, 0))]]) mixed (by repeat (first | exact .nil | apply Pick.cons | exact .here | apply Ext.there)) ?_
            refine RW.v 0 rfl (by kernel_rfl) (by kernel_rfl) (by kernel_rfl) (fun _ _ _ h => h) rfl rfl (Val.loadW (l := shC A so) rfl Tryz.isAgg34 (by repeat (first | exact .here | exact .inner .here | exact .inner (.inner .here) | refine .there ?_)) (by exact Tryz.sizeOf34)) ?_
            refine RW.re 104 (.agg (sfO A so).cells.toArray) rfl (by rw [sfO_c]) ?_
            refine RW.v 1 rfl (by kernel_rfl) (by kernel_rfl) (by kernel_rfl) (fun _ _ _ h => h) rfl rfl (Val.move rfl) ?_
            refine RW.v 2 rfl (by kernel_rfl) (by kernel_rfl) (by kernel_rfl) (fun _ _ _ h => h) rfl rfl (Val.move rfl) ?_
            refine RW.re 106 (.slice (some ⟨br, orr, none⟩) rt.r.n rt.r.c) rfl (by rw [hpa]) ?_
            refine RW.v 3 rfl (by kernel_rfl) (by kernel_rfl) (by kernel_rfl) (fun _ _ _ h => h) rfl rfl (Val.move rfl) ?_
            refine RW.v 4 rfl (by kernel_rfl) (by kernel_rfl) (by kernel_rfl) (fun _ _ _ h => h) rfl rfl (Val.indexAddrN rfl rfl Tryz.underlying29 Tryz.sizeOf3 hjr) ?_
            refine RW.v 5 rfl (by kernel_rfl) (by kernel_rfl) (by kernel_rfl) (fun _ _ _ h => h) rfl rfl (Val.loadO rfl Tryz.isAgg3 hbr (by simp [ids]) (hrr j kk hrj 0 _ rfl)) ?_
            refine RW.v 6 rfl (by kernel_rfl) (by kernel_rfl) (by kernel_rfl) (fun _ _ _ h => h) rfl rfl (Val.indexAddrN rfl rfl Tryz.underlying22 Tryz.sizeOf52 hkn) ?_
            refine RW.v 7 rfl (by kernel_rfl) (by kernel_rfl) (by kernel_rfl) (fun _ _ _ h => h) rfl rfl (Val.loadOA rfl Tryz.isAgg52 hbc (by simp [ids]) (hrc kk cx hxc) Tryz.sizeOf52) ?_
            refine RW.any [8, 12, 13] (by kernel_rfl) (by simp) ?_
            intro i hi
            simp only [List.mem_cons, List.not_mem_nil, or_false] at hi
            rcases hi with rfl | rfl | rfl
            · refine RO.e rfl rfl rfl (Eff.callM ([]) .nil rfl Tryz.call18 (fun w hw hs => apply_c (sfO A so) A cx L w (sfO_ok hj3 hw (by repeat (first | exact .nil | apply Pick.cons | exact .here | apply Ext.there))) ((hc1 _ (List.mem_of_getElem? hck)).hp hw) (by omega) (by omega))) (fun x => ⟨_, (by repeat (first | exact .nil | apply Pick.cons | exact .here | apply Ext.there))⟩) ?_
              intro r hr
              refine RW.v 9 rfl (by kernel_rfl) (by kernel_rfl) (by kernel_rfl) (fun _ _ _ h => h) rfl rfl (Val.move rfl) ?_
              refine RW.v 10 rfl (by kernel_rfl) (by kernel_rfl) (by kernel_rfl) (fun _ _ _ h => h) rfl rfl (Val.extract rfl rfl) ?_
              refine RW.v 11 rfl (by kernel_rfl) (by kernel_rfl) (by kernel_rfl) (fun _ _ _ h => h) rfl rfl (Val.extract rfl rfl) ?_
              refine RW.any [12, 13] (by kernel_rfl) (by simp) ?_
              intro i hi
              simp only [List.mem_cons, List.not_mem_nil, or_false] at hi
              rcases hi with rfl | rfl
              · refine RO.e rfl rfl rfl (Eff.allocA (by exact Tryz.zeroValue34)) (fun x => ⟨_, (by repeat (first | exact .nil | apply Pick.cons | exact .here | apply Ext.there))⟩) ?_
                intro b10 _
                refine RW.e 13 rfl (by kernel_rfl) rfl rfl (Eff.allocA (by exact Tryz.zeroValue48)) (fun x => ⟨_, (by repeat (first | exact .nil | apply Pick.cons | exact .here | apply Ext.there))⟩) ?_
                intro b11 _
                refine RW.eN 14 rfl (by kernel_rfl) rfl (Eff.storeW (cs := shC (apA A cx L).1 r.1) rfl rfl (by repeat (first | exact .here | exact .inner .here | exact .inner (.inner .here) | apply Upd.there)) (by rfl) Tryz.sizeOf34 (shC_one _ _)) (fun x => ⟨_, (by repeat (first | exact .nil | apply Pick.cons | exact .here | apply Ext.there))⟩) ?_
                intro _ _
                refine RW.eN 15 rfl (by kernel_rfl) rfl (Eff.storeW (cs := apC ((apA A cx L).2, r.2)) rfl rfl (by repeat (first | exact .here | exact .inner .here | exact .inner (.inner .here) | apply Upd.there)) (by rfl) Tryz.sizeOf48 (apC_one _)) (fun x => ⟨_, (by repeat (first | exact .nil | apply Pick.cons | exact .here | apply Ext.there))⟩) ?_
                intro _ _
                refine RW.done (by kernel_rfl) ?_
                refine PQ.seq ?_
                refine CW.seq ?_
                refine CW.seq ?_
                refine CW.quiet mixed (by kernel_rfl) ?_
                refine QW.v rfl rfl (Val.loadW (l := apC ((apA A cx L).2, r.2)) rfl Tryz.isAgg48 (by repeat (first | exact .here | exact .inner .here | exact .inner (.inner .here) | refine .there ?_)) (by exact Tryz.sizeOf48)) ?_
                refine QW.re 115 (.agg (raC (raOf ((apA A cx L).2, r.2))).toArray) rfl (by rw [raOf_c]) ?_
                refine QW.v rfl rfl (Val.move rfl) ?_
                refine QW.v rfl rfl (Val.move rfl) ?_
                refine QW.v rfl rfl (Val.indexAddrN rfl rfl Tryz.underlying25 Tryz.sizeOf36 hk9) ?_
                refine QW.v rfl rfl (Val.fieldAddr 1 rfl Tryz.underlying36 rfl rfl Tryz.sizeOf30) ?_
                refine QW.v rfl rfl (Val.loadO rfl Tryz.isAgg30 hb1 (by simp [ids]) (hr1 k _ hx1 1 _ rfl)) ?_
                refine QW.re 120 (.slice (some ⟨ba, oa, none⟩) rt.a.n rt.a.c) rfl (by rw [hpb]) ?_
                refine QW.v rfl rfl (Val.move rfl) ?_
                refine QW.re 121 (.slice (some ⟨br, orr, none⟩) rt.r.n rt.r.c) rfl (by rw [hpa]) ?_
                refine QW.v rfl rfl (Val.move rfl) ?_
                refine QW.v rfl rfl (Val.indexAddrN rfl rfl Tryz.underlying29 Tryz.sizeOf3 hjr) ?_
                refine QW.v rfl rfl (Val.loadO rfl Tryz.isAgg3 hbr (by simp [ids]) (hrr j kk hrj 0 _ rfl)) ?_
                refine QW.v rfl rfl (Val.indexAddrN rfl rfl Tryz.underlying30 Tryz.sizeOf48 hka) ?_
                refine QW.v rfl rfl (Val.loadOA rfl Tryz.isAgg48 hba (by simp [ids]) (hra kk ax hxa) Tryz.sizeOf48) ?_
                refine QW.c rfl rfl (Qcall.of rfl Tryz.call19 (fun w hw => sameAns_c (raOf ((apA A cx L).2, r.2)) ax (apA A cx L).2 (apA A cx L).2 w (raOf_ok hr.2 hsa (mem_ap (p := ((apA A cx L).2, r.2)) hw (by repeat (first | exact .nil | apply Pick.cons | exact .here | apply Ext.there)))) ((ht.aa kk ax _ hxa hya).hp hw))) ?_
                refine QW.v rfl rfl (Val.not rfl) ?_
                refine QW.re 128 (.bool false) rfl (by simp) ?_
                refine QW.nil ?_
                refine PQ.seq ?_
                refine CW.cond_f rfl ?_
                refine CW.skip ?_
                refine PQ.seq ?_
                refine CW.region ?_
                refine LW.v rfl rfl (Val.loadW (l := shC (apA A cx L).1 r.1) rfl Tryz.isAgg34 (by repeat (first | exact .here | exact .inner .here | exact .inner (.inner .here) | refine .there ?_)) (by exact Tryz.sizeOf34)) ?_
                refine LW.eN rfl (Eff.storeW (cs := shC (apA A cx L).1 r.1) rfl rfl (by repeat (first | exact .here | exact .inner .here | exact .inner (.inner .here) | apply Upd.there)) (by rfl) Tryz.sizeOf34 (shC_one _ _)) ?_
                intro _ _
                refine LW.nil ?_
                refine PQ.in_normal ?_
                refine PQ.seq ?_
                refine CW.region ?_
                refine LW.v rfl rfl (Val.move rfl) ?_
                refine LW.v rfl rfl (Val.ar rfl rfl rfl (IntWalk.i64_in _ (by omega))) ?_
                refine LW.v rfl rfl (Val.assign rfl) ?_
                refine LW.nil ?_
                refine PQ.round ((j + 1, (apA A cx L).1, r.1, sn.set kk true)) ⟨by simp only; omega, by simp only; rw [sh_at _ hrj hck, ← hj2], hr.1, ⟨by have h9 := (ap_len A cx L).1; simp only; omega, by have h9 := (ap_len A cx L).2; simp only; omega⟩, by simp [hj5], fun i b hb => seen_step hj5 hj6 hrj hkn3 i b hb⟩ (by simp only; omega) (by repeat (first | exact trivial | refine ⟨rfl, ?_⟩)) (by repeat (first | exact .nil | apply Pick.cons | exact .here | apply Ext.there))
              · refine RO.e rfl rfl rfl (Eff.allocA (by exact Tryz.zeroValue48)) (fun x => ⟨_, (by repeat (first | exact .nil | apply Pick.cons | exact .here | apply Ext.there))⟩) ?_
                intro b11 _
                refine RW.e 12 rfl (by kernel_rfl) rfl rfl (Eff.allocA (by exact Tryz.zeroValue34)) (fun x => ⟨_, (by repeat (first | exact .nil | apply Pick.cons | exact .here | apply Ext.there))⟩) ?_
                intro b10 _
                refine RW.eN 14 rfl (by kernel_rfl) rfl (Eff.storeW (cs := shC (apA A cx L).1 r.1) rfl rfl (by repeat (first | exact .here | exact .inner .here | exact .inner (.inner .here) | apply Upd.there)) (by rfl) Tryz.sizeOf34 (shC_one _ _)) (fun x => ⟨_, (by repeat (first | exact .nil | apply Pick.cons | exact .here | apply Ext.there))⟩) ?_
                intro _ _
                refine RW.eN 15 rfl (by kernel_rfl) rfl (Eff.storeW (cs := apC ((apA A cx L).2, r.2)) rfl rfl (by repeat (first | exact .here | exact .inner .here | exact .inner (.inner .here) | apply Upd.there)) (by rfl) Tryz.sizeOf48 (apC_one _)) (fun x => ⟨_, (by repeat (first | exact .nil | apply Pick.cons | exact .here | apply Ext.there))⟩) ?_
                intro _ _
                refine RW.done (by kernel_rfl) ?_
                refine PQ.seq ?_
                refine CW.seq ?_
                refine CW.seq ?_
                refine CW.quiet mixed (by kernel_rfl) ?_
                refine QW.v rfl rfl (Val.loadW (l := apC ((apA A cx L).2, r.2)) rfl Tryz.isAgg48 (by repeat (first | exact .here | exact .inner .here | exact .inner (.inner .here) | refine .there ?_)) (by exact Tryz.sizeOf48)) ?_
                refine QW.re 115 (.agg (raC (raOf ((apA A cx L).2, r.2))).toArray) rfl (by rw [raOf_c]) ?_
                refine QW.v rfl rfl (Val.move rfl) ?_
                refine QW.v rfl rfl (Val.move rfl) ?_
                refine QW.v rfl rfl (Val.indexAddrN rfl rfl Tryz.underlying25 Tryz.sizeOf36 hk9) ?_
                refine QW.v rfl rfl (Val.fieldAddr 1 rfl Tryz.underlying36 rfl rfl Tryz.sizeOf30) ?_
                refine QW.v rfl rfl (Val.loadO rfl Tryz.isAgg30 hb1 (by simp [ids]) (hr1 k _ hx1 1 _ rfl)) ?_
                refine QW.re 120 (.slice (some ⟨ba, oa, none⟩) rt.a.n rt.a.c) rfl (by rw [hpb]) ?_
                refine QW.v rfl rfl (Val.move rfl) ?_
                refine QW.re 121 (.slice (some ⟨br, orr, none⟩) rt.r.n rt.r.c) rfl (by rw [hpa]) ?_
                refine QW.v rfl rfl (Val.move rfl) ?_
                refine QW.v rfl rfl (Val.indexAddrN rfl rfl Tryz.underlying29 Tryz.sizeOf3 hjr) ?_
                refine QW.v rfl rfl (Val.loadO rfl Tryz.isAgg3 hbr (by simp [ids]) (hrr j kk hrj 0 _ rfl)) ?_
                refine QW.v rfl rfl (Val.indexAddrN rfl rfl Tryz.underlying30 Tryz.sizeOf48 hka) ?_
                refine QW.v rfl rfl (Val.loadOA rfl Tryz.isAgg48 hba (by simp [ids]) (hra kk ax hxa) Tryz.sizeOf48) ?_
                refine QW.c rfl rfl (Qcall.of rfl Tryz.call19 (fun w hw => sameAns_c (raOf ((apA A cx L).2, r.2)) ax (apA A cx L).2 (apA A cx L).2 w (raOf_ok hr.2 hsa (mem_ap (p := ((apA A cx L).2, r.2)) hw (by repeat (first | exact .nil | apply Pick.cons | exact .here | apply Ext.there)))) ((ht.aa kk ax _ hxa hya).hp hw))) ?_
                refine QW.v rfl rfl (Val.not rfl) ?_
                refine QW.re 128 (.bool false) rfl (by simp) ?_
                refine QW.nil ?_
                refine PQ.seq ?_
                refine CW.cond_f rfl ?_
                refine CW.skip ?_
                refine PQ.seq ?_
                refine CW.region ?_
                refine LW.v rfl rfl (Val.loadW (l := shC (apA A cx L).1 r.1) rfl Tryz.isAgg34 (by repeat (first | exact .here | exact .inner .here | exact .inner (.inner .here) | refine .there ?_)) (by exact Tryz.sizeOf34)) ?_
                refine LW.eN rfl (Eff.storeW (cs := shC (apA A cx L).1 r.1) rfl rfl (by repeat (first | exact .here | exact .inner .here | exact .inner (.inner .here) | apply Upd.there)) (by rfl) Tryz.sizeOf34 (shC_one _ _)) ?_
                intro _ _
                refine LW.nil ?_
                refine PQ.in_normal ?_
                refine PQ.seq ?_
                refine CW.region ?_
                refine LW.v rfl rfl (Val.move rfl) ?_
                refine LW.v rfl rfl (Val.ar rfl rfl rfl (IntWalk.i64_in _ (by omega))) ?_
                refine LW.v rfl rfl (Val.assign rfl) ?_
                refine LW.nil ?_
                refine PQ.round ((j + 1, (apA A cx L).1, r.1, sn.set kk true)) ⟨by simp only; omega, by simp only; rw [sh_at _ hrj hck, ← hj2], hr.1, ⟨by have h9 := (ap_len A cx L).1; simp only; omega, by have h9 := (ap_len A cx L).2; simp only; omega⟩, by simp [hj5], fun i b hb => seen_step hj5 hj6 hrj hkn3 i b hb⟩ (by simp only; omega) (by repeat (first | exact trivial | refine ⟨rfl, ?_⟩)) (by repeat (first | exact .nil | apply Pick.cons | exact .here | apply Ext.there))
            · refine RO.e rfl rfl rfl (Eff.allocA (by exact Tryz.zeroValue34)) (fun x => ⟨_, (by repeat (first | exact .nil | apply Pick.cons | exact .here | apply Ext.there))⟩) ?_
              intro b10 _
              refine RW.any [8, 13] (by kernel_rfl) (by simp) ?_
              intro i hi
              simp only [List.mem_cons, List.not_mem_nil, or_false] at hi
              rcases hi with rfl | rfl
              · refine RO.e rfl rfl rfl (Eff.callM ([]) .nil rfl Tryz.call18 (fun w hw hs => apply_c (sfO A so) A cx L w (sfO_ok hj3 hw (by repeat (first | exact .nil | apply Pick.cons | exact .here | apply Ext.there))) ((hc1 _ (List.mem_of_getElem? hck)).hp hw) (by omega) (by omega))) (fun x => ⟨_, (by repeat (first | exact .nil | apply Pick.cons | exact .here | apply Ext.there))⟩) ?_
                intro r hr
                refine RW.v 9 rfl (by kernel_rfl) (by kernel_rfl) (by kernel_rfl) (fun _ _ _ h => h) rfl rfl (Val.move rfl) ?_
                refine RW.v 10 rfl (by kernel_rfl) (by kernel_rfl) (by kernel_rfl) (fun _ _ _ h => h) rfl rfl (Val.extract rfl rfl) ?_
                refine RW.v 11 rfl (by kernel_rfl) (by kernel_rfl) (by kernel_rfl) (fun _ _ _ h => h) rfl rfl (Val.extract rfl rfl) ?_
                refine RW.e 13 rfl (by kernel_rfl) rfl rfl (Eff.allocA (by exact Tryz.zeroValue48)) (fun x => ⟨_, (by repeat (first | exact .nil | apply Pick.cons | exact .here | apply Ext.there))⟩) ?_
                intro b11 _
                refine RW.eN 14 rfl (by kernel_rfl) rfl (Eff.storeW (cs := shC (apA A cx L).1 r.1) rfl rfl (by repeat (first | exact .here | exact .inner .here | exact .inner (.inner .here) | apply Upd.there)) (by rfl) Tryz.sizeOf34 (shC_one _ _)) (fun x => ⟨_, (by repeat (first | exact .nil | apply Pick.cons | exact .here | apply Ext.there))⟩) ?_
                intro _ _
                refine RW.eN 15 rfl (by kernel_rfl) rfl (Eff.storeW (cs := apC ((apA A cx L).2, r.2)) rfl rfl (by repeat (first | exact .here | exact .inner .here | exact .inner (.inner .here) | apply Upd.there)) (by rfl) Tryz.sizeOf48 (apC_one _)) (fun x => ⟨_, (by repeat (first | exact .nil | apply Pick.cons | exact .here | apply Ext.there))⟩) ?_
                intro _ _
                refine RW.done (by kernel_rfl) ?_
                refine PQ.seq ?_
                refine CW.seq ?_
                refine CW.seq ?_
                refine CW.quiet mixed (by kernel_rfl) ?_
                refine QW.v rfl rfl (Val.loadW (l := apC ((apA A cx L).2, r.2)) rfl Tryz.isAgg48 (by repeat (first | exact .here | exact .inner .here | exact .inner (.inner .here) | refine .there ?_)) (by exact Tryz.sizeOf48)) ?_
                refine QW.re 115 (.agg (raC (raOf ((apA A cx L).2, r.2))).toArray) rfl (by rw [raOf_c]) ?_
                refine QW.v rfl rfl (Val.move rfl) ?_
                refine QW.v rfl rfl (Val.move rfl) ?_
                refine QW.v rfl rfl (Val.indexAddrN rfl rfl Tryz.underlying25 Tryz.sizeOf36 hk9) ?_
                refine QW.v rfl rfl (Val.fieldAddr 1 rfl Tryz.underlying36 rfl rfl Tryz.sizeOf30) ?_
                refine QW.v rfl rfl (Val.loadO rfl Tryz.isAgg30 hb1 (by simp [ids]) (hr1 k _ hx1 1 _ rfl)) ?_
                refine QW.re 120 (.slice (some ⟨ba, oa, none⟩) rt.a.n rt.a.c) rfl (by rw [hpb]) ?_
                refine QW.v rfl rfl (Val.move rfl) ?_
                refine QW.re 121 (.slice (some ⟨br, orr, none⟩) rt.r.n rt.r.c) rfl (by rw [hpa]) ?_
                refine QW.v rfl rfl (Val.move rfl) ?_
                refine QW.v rfl rfl (Val.indexAddrN rfl rfl Tryz.underlying29 Tryz.sizeOf3 hjr) ?_
                refine QW.v rfl rfl (Val.loadO rfl Tryz.isAgg3 hbr (by simp [ids]) (hrr j kk hrj 0 _ rfl)) ?_
                refine QW.v rfl rfl (Val.indexAddrN rfl rfl Tryz.underlying30 Tryz.sizeOf48 hka) ?_
                refine QW.v rfl rfl (Val.loadOA rfl Tryz.isAgg48 hba (by simp [ids]) (hra kk ax hxa) Tryz.sizeOf48) ?_
                refine QW.c rfl rfl (Qcall.of rfl Tryz.call19 (fun w hw => sameAns_c (raOf ((apA A cx L).2, r.2)) ax (apA A cx L).2 (apA A cx L).2 w (raOf_ok hr.2 hsa (mem_ap (p := ((apA A cx L).2, r.2)) hw (by repeat (first | exact .nil | apply Pick.cons | exact .here | apply Ext.there)))) ((ht.aa kk ax _ hxa hya).hp hw))) ?_
                refine QW.v rfl rfl (Val.not rfl) ?_
                refine QW.re 128 (.bool false) rfl (by simp) ?_
                refine QW.nil ?_
                refine PQ.seq ?_
                refine CW.cond_f rfl ?_
                refine CW.skip ?_
                refine PQ.seq ?_
                refine CW.region ?_
                refine LW.v rfl rfl (Val.loadW (l := shC (apA A cx L).1 r.1) rfl Tryz.isAgg34 (by repeat (first | exact .here | exact .inner .here | exact .inner (.inner .here) | refine .there ?_)) (by exact Tryz.sizeOf34)) ?_
                refine LW.eN rfl (Eff.storeW (cs := shC (apA A cx L).1 r.1) rfl rfl (by repeat (first | exact .here | exact .inner .here | exact .inner (.inner .here) | apply Upd.there)) (by rfl) Tryz.sizeOf34 (shC_one _ _)) ?_
                intro _ _
                refine LW.nil ?_
                refine PQ.in_normal ?_
                refine PQ.seq ?_
                refine CW.region ?_
                refine LW.v rfl rfl (Val.move rfl) ?_
                refine LW.v rfl rfl (Val.ar rfl rfl rfl (IntWalk.i64_in _ (by omega))) ?_
                refine LW.v rfl rfl (Val.assign rfl) ?_
                refine LW.nil ?_
                refine PQ.round ((j + 1, (apA A cx L).1, r.1, sn.set kk true)) ⟨by simp only; omega, by simp only; rw [sh_at _ hrj hck, ← hj2], hr.1, ⟨by have h9 := (ap_len A cx L).1; simp only; omega, by have h9 := (ap_len A cx L).2; simp only; omega⟩, by simp [hj5], fun i b hb => seen_step hj5 hj6 hrj hkn3 i b hb⟩ (by simp only; omega) (by repeat (first | exact trivial | refine ⟨rfl, ?_⟩)) (by repeat (first | exact .nil | apply Pick.cons | exact .here | apply Ext.there))
              · refine RO.e rfl rfl rfl (Eff.allocA (by exact Tryz.zeroValue48)) (fun x => ⟨_, (by repeat (first | exact .nil | apply Pick.cons | exact .here | apply Ext.there))⟩) ?_
                intro b11 _
                refine RW.e 8 rfl (by kernel_rfl) rfl rfl (Eff.callM ([]) .nil rfl Tryz.call18 (fun w hw hs => apply_c (sfO A so) A cx L w (sfO_ok hj3 hw (by repeat (first | exact .nil | apply Pick.cons | exact .here | apply Ext.there))) ((hc1 _ (List.mem_of_getElem? hck)).hp hw) (by omega) (by omega))) (fun x => ⟨_, (by repeat (first | exact .nil | apply Pick.cons | exact .here | apply Ext.there))⟩) ?_
                intro r hr
                refine RW.v 9 rfl (by kernel_rfl) (by kernel_rfl) (by kernel_rfl) (fun _ _ _ h => h) rfl rfl (Val.move rfl) ?_
                refine RW.v 10 rfl (by kernel_rfl) (by kernel_rfl) (by kernel_rfl) (fun _ _ _ h => h) rfl rfl (Val.extract rfl rfl) ?_
                refine RW.v 11 rfl (by kernel_rfl) (by kernel_rfl) (by kernel_rfl) (fun _ _ _ h => h) rfl rfl (Val.extract rfl rfl) ?_
                refine RW.eN 14 rfl (by kernel_rfl) rfl (Eff.storeW (cs := shC (apA A cx L).1 r.1) rfl rfl (by repeat (first | exact .here | exact .inner .here | exact .inner (.inner .here) | apply Upd.there)) (by rfl) Tryz.sizeOf34 (shC_one _ _)) (fun x => ⟨_, (by repeat (first | exact .nil | apply Pick.cons | exact .here | apply Ext.there))⟩) ?_
                intro _ _
                refine RW.eN 15 rfl (by kernel_rfl) rfl (Eff.storeW (cs := apC ((apA A cx L).2, r.2)) rfl rfl (by repeat (first | exact .here | exact .inner .here | exact .inner (.inner .here) | apply Upd.there)) (by rfl) Tryz.sizeOf48 (apC_one _)) (fun x => ⟨_, (by repeat (first | exact .nil | apply Pick.cons | exact .here | apply Ext.there))⟩) ?_
                intro _ _
                refine RW.done (by kernel_rfl) ?_
                refine PQ.seq ?_
                refine CW.seq ?_
                refine CW.seq ?_
                refine CW.quiet mixed (by kernel_rfl) ?_
                refine QW.v rfl rfl (Val.loadW (l := apC ((apA A cx L).2, r.2)) rfl Tryz.isAgg48 (by repeat (first | exact .here | exact .inner .here | exact .inner (.inner .here) | refine .there ?_)) (by exact Tryz.sizeOf48)) ?_
                refine QW.re 115 (.agg (raC (raOf ((apA A cx L).2, r.2))).toArray) rfl (by rw [raOf_c]) ?_
                refine QW.v rfl rfl (Val.move rfl) ?_
                refine QW.v rfl rfl (Val.move rfl) ?_
                refine QW.v rfl rfl (Val.indexAddrN rfl rfl Tryz.underlying25 Tryz.sizeOf36 hk9) ?_
                refine QW.v rfl rfl (Val.fieldAddr 1 rfl Tryz.underlying36 rfl rfl Tryz.sizeOf30) ?_
                refine QW.v rfl rfl (Val.loadO rfl Tryz.isAgg30 hb1 (by simp [ids]) (hr1 k _ hx1 1 _ rfl)) ?_
                refine QW.re 120 (.slice (some ⟨ba, oa, none⟩) rt.a.n rt.a.c) rfl (by rw [hpb]) ?_
                refine QW.v rfl rfl (Val.move rfl) ?_
                refine QW.re 121 (.slice (some ⟨br, orr, none⟩) rt.r.n rt.r.c) rfl (by rw [hpa]) ?_
                refine QW.v rfl rfl (Val.move rfl) ?_
                refine QW.v rfl rfl (Val.indexAddrN rfl rfl Tryz.underlying29 Tryz.sizeOf3 hjr) ?_
                refine QW.v rfl rfl (Val.loadO rfl Tryz.isAgg3 hbr (by simp [ids]) (hrr j kk hrj 0 _ rfl)) ?_
                refine QW.v rfl rfl (Val.indexAddrN rfl rfl Tryz.underlying30 Tryz.sizeOf48 hka) ?_
                refine QW.v rfl rfl (Val.loadOA rfl Tryz.isAgg48 hba (by simp [ids]) (hra kk ax hxa) Tryz.sizeOf48) ?_
                refine QW.c rfl rfl (Qcall.of rfl Tryz.call19 (fun w hw => sameAns_c (raOf ((apA A cx L).2, r.2)) ax (apA A cx L).2 (apA A cx L).2 w (raOf_ok hr.2 hsa (mem_ap (p := ((apA A cx L).2, r.2)) hw (by repeat (first | exact .nil | apply Pick.cons | exact .here | apply Ext.there)))) ((ht.aa kk ax _ hxa hya).hp hw))) ?_
                refine QW.v rfl rfl (Val.not rfl) ?_
                refine QW.re 128 (.bool false) rfl (by simp) ?_
                refine QW.nil ?_
                refine PQ.seq ?_
                refine CW.cond_f rfl ?_
                refine CW.skip ?_
                refine PQ.seq ?_
                refine CW.region ?_
                refine LW.v rfl rfl (Val.loadW (l := shC (apA A cx L).1 r.1) rfl Tryz.isAgg34 (by repeat (first | exact .here | exact .inner .here | exact .inner (.inner .here) | refine .there ?_)) (by exact Tryz.sizeOf34)) ?_
                refine LW.eN rfl (Eff.storeW (cs := shC (apA A cx L).1 r.1) rfl rfl (by repeat (first | exact .here | exact .inner .here | exact .inner (.inner .here) | apply Upd.there)) (by rfl) Tryz.sizeOf34 (shC_one _ _)) ?_
                intro _ _
                refine LW.nil ?_
                refine PQ.in_normal ?_
                refine PQ.seq ?_
                refine CW.region ?_
                refine LW.v rfl rfl (Val.move rfl) ?_
                refine LW.v rfl rfl (Val.ar rfl rfl rfl (IntWalk.i64_in _ (by omega))) ?_
                refine LW.v rfl rfl (Val.assign rfl) ?_
                refine LW.nil ?_
                refine PQ.round ((j + 1, (apA A cx L).1, r.1, sn.set kk true)) ⟨by simp only; omega, by simp only; rw [sh_at _ hrj hck, ← hj2], hr.1, ⟨by have h9 := (ap_len A cx L).1; simp only; omega, by have h9 := (ap_len A cx L).2; simp only; omega⟩, by simp [hj5], fun i b hb => seen_step hj5 hj6 hrj hkn3 i b hb⟩ (by simp only; omega) (by repeat (first | exact trivial | refine ⟨rfl, ?_⟩)) (by repeat (first | exact .nil | apply Pick.cons | exact .here | apply Ext.there))
            · refine RO.e rfl rfl rfl (Eff.allocA (by exact Tryz.zeroValue48)) (fun x => ⟨_, (by repeat (first | exact .nil | apply Pick.cons | exact .here | apply Ext.there))⟩) ?_
              intro b11 _
              refine RW.any [8, 12] (by kernel_rfl) (by simp) ?_
              intro i hi
              simp only [List.mem_cons, List.not_mem_nil, or_false] at hi
              rcases hi with rfl | rfl
              · refine RO.e rfl rfl rfl (Eff.callM ([]) .nil rfl Tryz.call18 (fun w hw hs => apply_c (sfO A so) A cx L w (sfO_ok hj3 hw (by repeat (first | exact .nil | apply Pick.cons | exact .here | apply Ext.there))) ((hc1 _ (List.mem_of_getElem? hck)).hp hw) (by omega) (by omega))) (fun x => ⟨_, (by repeat (first | exact .nil | apply Pick.cons | exact .here | apply Ext.there))⟩) ?_
                intro r hr
                refine RW.v 9 rfl (by kernel_rfl) (by kernel_rfl) (by kernel_rfl) (fun _ _ _ h => h) rfl rfl (Val.move rfl) ?_
                refine RW.v 10 rfl (by kernel_rfl) (by kernel_rfl) (by kernel_rfl) (fun _ _ _ h => h) rfl rfl (Val.extract rfl rfl) ?_
                refine RW.v 11 rfl (by kernel_rfl) (by kernel_rfl) (by kernel_rfl) (fun _ _ _ h => h) rfl rfl (Val.extract rfl rfl) ?_
                refine RW.e 12 rfl (by kernel_rfl) rfl rfl (Eff.allocA (by exact Tryz.zeroValue34)) (fun x => ⟨_, (by repeat (first | exact .nil | apply Pick.cons | exact .here | apply Ext.there))⟩) ?_
                intro b10 _
                refine RW.eN 14 rfl (by kernel_rfl) rfl (Eff.storeW (cs := shC (apA A cx L).1 r.1) rfl rfl (by repeat (first | exact .here | exact .inner .here | exact .inner (.inner .here) | apply Upd.there)) (by rfl) Tryz.sizeOf34 (shC_one _ _)) (fun x => ⟨_, (by repeat (first | exact .nil | apply Pick.cons | exact .here | apply Ext.there))⟩) ?_
                intro _ _
                refine RW.eN 15 rfl (by kernel_rfl) rfl (Eff.storeW (cs := apC ((apA A cx L).2, r.2)) rfl rfl (by repeat (first | exact .here | exact .inner .here | exact .inner (.inner .here) | apply Upd.there)) (by rfl) Tryz.sizeOf48 (apC_one _)) (fun x => ⟨_, (by repeat (first | exact .nil | apply Pick.cons | exact .here | apply Ext.there))⟩) ?_
                intro _ _
                refine RW.done (by kernel_rfl) ?_
                refine PQ.seq ?_
                refine CW.seq ?_
                refine CW.seq ?_
                refine CW.quiet mixed (by kernel_rfl) ?_
                refine QW.v rfl rfl (Val.loadW (l := apC ((apA A cx L).2, r.2)) rfl Tryz.isAgg48 (by repeat (first | exact .here | exact .inner .here | exact .inner (.inner .here) | refine .there ?_)) (by exact Tryz.sizeOf48)) ?_
                refine QW.re 115 (.agg (raC (raOf ((apA A cx L).2, r.2))).toArray) rfl (by rw [raOf_c]) ?_
                refine QW.v rfl rfl (Val.move rfl) ?_
                refine QW.v rfl rfl (Val.move rfl) ?_
                refine QW.v rfl rfl (Val.indexAddrN rfl rfl Tryz.underlying25 Tryz.sizeOf36 hk9) ?_
                refine QW.v rfl rfl (Val.fieldAddr 1 rfl Tryz.underlying36 rfl rfl Tryz.sizeOf30) ?_
                refine QW.v rfl rfl (Val.loadO rfl Tryz.isAgg30 hb1 (by simp [ids]) (hr1 k _ hx1 1 _ rfl)) ?_
                refine QW.re 120 (.slice (some ⟨ba, oa, none⟩) rt.a.n rt.a.c) rfl (by rw [hpb]) ?_
                refine QW.v rfl rfl (Val.move rfl) ?_
                refine QW.re 121 (.slice (some ⟨br, orr, none⟩) rt.r.n rt.r.c) rfl (by rw [hpa]) ?_
                refine QW.v rfl rfl (Val.move rfl) ?_
                refine QW.v rfl rfl (Val.indexAddrN rfl rfl Tryz.underlying29 Tryz.sizeOf3 hjr) ?_
                refine QW.v rfl rfl (Val.loadO rfl Tryz.isAgg3 hbr (by simp [ids]) (hrr j kk hrj 0 _ rfl)) ?_
                refine QW.v rfl rfl (Val.indexAddrN rfl rfl Tryz.underlying30 Tryz.sizeOf48 hka) ?_
                refine QW.v rfl rfl (Val.loadOA rfl Tryz.isAgg48 hba (by simp [ids]) (hra kk ax hxa) Tryz.sizeOf48) ?_
                refine QW.c rfl rfl (Qcall.of rfl Tryz.call19 (fun w hw => sameAns_c (raOf ((apA A cx L).2, r.2)) ax (apA A cx L).2 (apA A cx L).2 w (raOf_ok hr.2 hsa (mem_ap (p := ((apA A cx L).2, r.2)) hw (by repeat (first | exact .nil | apply Pick.cons | exact .here | apply Ext.there)))) ((ht.aa kk ax _ hxa hya).hp hw))) ?_
                refine QW.v rfl rfl (Val.not rfl) ?_
                refine QW.re 128 (.bool false) rfl (by simp) ?_
                refine QW.nil ?_
                refine PQ.seq ?_
                refine CW.cond_f rfl ?_
                refine CW.skip ?_
                refine PQ.seq ?_
                refine CW.region ?_
                refine LW.v rfl rfl (Val.loadW (l := shC (apA A cx L).1 r.1) rfl Tryz.isAgg34 (by repeat (first | exact .here | exact .inner .here | exact .inner (.inner .here) | refine .there ?_)) (by exact Tryz.sizeOf34)) ?_
                refine LW.eN rfl (Eff.storeW (cs := shC (apA A cx L).1 r.1) rfl rfl (by repeat (first | exact .here | exact .inner .here | exact .inner (.inner .here) | apply Upd.there)) (by rfl) Tryz.sizeOf34 (shC_one _ _)) ?_
                intro _ _
                refine LW.nil ?_
                refine PQ.in_normal ?_
                refine PQ.seq ?_
                refine CW.region ?_
                refine LW.v rfl rfl (Val.move rfl) ?_
                refine LW.v rfl rfl (Val.ar rfl rfl rfl (IntWalk.i64_in _ (by omega))) ?_
                refine LW.v rfl rfl (Val.assign rfl) ?_
                refine LW.nil ?_
                refine PQ.round ((j + 1, (apA A cx L).1, r.1, sn.set kk true)) ⟨by simp only; omega, by simp only; rw [sh_at _ hrj hck, ← hj2], hr.1, ⟨by have h9 := (ap_len A cx L).1; simp only; omega, by have h9 := (ap_len A cx L).2; simp only; omega⟩, by simp [hj5], fun i b hb => seen_step hj5 hj6 hrj hkn3 i b hb⟩ (by simp only; omega) (by repeat (first | exact trivial | refine ⟨rfl, ?_⟩)) (by repeat (first | exact .nil | apply Pick.cons | exact .here | apply Ext.there))
              · refine RO.e rfl rfl rfl (Eff.allocA (by exact Tryz.zeroValue34)) (fun x => ⟨_, (by repeat (first | exact .nil | apply Pick.cons | exact .here | apply Ext.there))⟩) ?_
                intro b10 _
                refine RW.e 8 rfl (by kernel_rfl) rfl rfl (Eff.callM ([]) .nil rfl Tryz.call18 (fun w hw hs => apply_c (sfO A so) A cx L w (sfO_ok hj3 hw (by repeat (first | exact .nil | apply Pick.cons | exact .here | apply Ext.there))) ((hc1 _ (List.mem_of_getElem? hck)).hp hw) (by omega) (by omega))) (fun x => ⟨_, (by repeat (first | exact .nil | apply Pick.cons | exact .here | apply Ext.there))⟩) ?_
                intro r hr
                refine RW.v 9 rfl (by kernel_rfl) (by kernel_rfl) (by kernel_rfl) (fun _ _ _ h => h) rfl rfl (Val.move rfl) ?_
                refine RW.v 10 rfl (by kernel_rfl) (by kernel_rfl) (by kernel_rfl) (fun _ _ _ h => h) rfl rfl (Val.extract rfl rfl) ?_
                refine RW.v 11 rfl (by kernel_rfl) (by kernel_rfl) (by kernel_rfl) (fun _ _ _ h => h) rfl rfl (Val.extract rfl rfl) ?_
                refine RW.eN 14 rfl (by kernel_rfl) rfl (Eff.storeW (cs := shC (apA A cx L).1 r.1) rfl rfl (by repeat (first | exact .here | exact .inner .here | exact .inner (.inner .here) | apply Upd.there)) (by rfl) Tryz.sizeOf34 (shC_one _ _)) (fun x => ⟨_, (by repeat (first | exact .nil | apply Pick.cons | exact .here | apply Ext.there))⟩) ?_
                intro _ _
                refine RW.eN 15 rfl (by kernel_rfl) rfl (Eff.storeW (cs := apC ((apA A cx L).2, r.2)) rfl rfl (by repeat (first | exact .here | exact .inner .here | exact .inner (.inner .here) | apply Upd.there)) (by rfl) Tryz.sizeOf48 (apC_one _)) (fun x => ⟨_, (by repeat (first | exact .nil | apply Pick.cons | exact .here | apply Ext.there))⟩) ?_
                intro _ _
                refine RW.done (by kernel_rfl) ?_
                refine PQ.seq ?_
                refine CW.seq ?_
                refine CW.seq ?_
                refine CW.quiet mixed (by kernel_rfl) ?_
                refine QW.v rfl rfl (Val.loadW (l := apC ((apA A cx L).2, r.2)) rfl Tryz.isAgg48 (by repeat (first | exact .here | exact .inner .here | exact .inner (.inner .here) | refine .there ?_)) (by exact Tryz.sizeOf48)) ?_
                refine QW.re 115 (.agg (raC (raOf ((apA A cx L).2, r.2))).toArray) rfl (by rw [raOf_c]) ?_
                refine QW.v rfl rfl (Val.move rfl) ?_
                refine QW.v rfl rfl (Val.move rfl) ?_
                refine QW.v rfl rfl (Val.indexAddrN rfl rfl Tryz.underlying25 Tryz.sizeOf36 hk9) ?_
                refine QW.v rfl rfl (Val.fieldAddr 1 rfl Tryz.underlying36 rfl rfl Tryz.sizeOf30) ?_
                refine QW.v rfl rfl (Val.loadO rfl Tryz.isAgg30 hb1 (by simp [ids]) (hr1 k _ hx1 1 _ rfl)) ?_
                refine QW.re 120 (.slice (some ⟨ba, oa, none⟩) rt.a.n rt.a.c) rfl (by rw [hpb]) ?_
                refine QW.v rfl rfl (Val.move rfl) ?_
                refine QW.re 121 (.slice (some ⟨br, orr, none⟩) rt.r.n rt.r.c) rfl (by rw [hpa]) ?_
                refine QW.v rfl rfl (Val.move rfl) ?_
                refine QW.v rfl rfl (Val.indexAddrN rfl rfl Tryz.underlying29 Tryz.sizeOf3 hjr) ?_
                refine QW.v rfl rfl (Val.loadO rfl Tryz.isAgg3 hbr (by simp [ids]) (hrr j kk hrj 0 _ rfl)) ?_
                refine QW.v rfl rfl (Val.indexAddrN rfl rfl Tryz.underlying30 Tryz.sizeOf48 hka) ?_
                refine QW.v rfl rfl (Val.loadOA rfl Tryz.isAgg48 hba (by simp [ids]) (hra kk ax hxa) Tryz.sizeOf48) ?_
                refine QW.c rfl rfl (Qcall.of rfl Tryz.call19 (fun w hw => sameAns_c (raOf ((apA A cx L).2, r.2)) ax (apA A cx L).2 (apA A cx L).2 w (raOf_ok hr.2 hsa (mem_ap (p := ((apA A cx L).2, r.2)) hw (by repeat (first | exact .nil | apply Pick.cons | exact .here | apply Ext.there)))) ((ht.aa kk ax _ hxa hya).hp hw))) ?_
                refine QW.v rfl rfl (Val.not rfl) ?_
                refine QW.re 128 (.bool false) rfl (by simp) ?_
                refine QW.nil ?_
                refine PQ.seq ?_
                refine CW.cond_f rfl ?_
                refine CW.skip ?_
                refine PQ.seq ?_
                refine CW.region ?_
                refine LW.v rfl rfl (Val.loadW (l := shC (apA A cx L).1 r.1) rfl Tryz.isAgg34 (by repeat (first | exact .here | exact .inner .here | exact .inner (.inner .here) | refine .there ?_)) (by exact Tryz.sizeOf34)) ?_
                refine LW.eN rfl (Eff.storeW (cs := shC (apA A cx L).1 r.1) rfl rfl (by repeat (first | exact .here | exact .inner .here | exact .inner (.inner .here) | apply Upd.there)) (by rfl) Tryz.sizeOf34 (shC_one _ _)) ?_
                intro _ _
                refine LW.nil ?_
                refine PQ.in_normal ?_
                refine PQ.seq ?_
                refine CW.region ?_
                refine LW.v rfl rfl (Val.move rfl) ?_
                refine LW.v rfl rfl (Val.ar rfl rfl rfl (IntWalk.i64_in _ (by omega))) ?_
                refine LW.v rfl rfl (Val.assign rfl) ?_
                refine LW.nil ?_
                refine PQ.round ((j + 1, (apA A cx L).1, r.1, sn.set kk true)) ⟨by simp only; omega, by simp only; rw [sh_at _ hrj hck, ← hj2], hr.1, ⟨by have h9 := (ap_len A cx L).1; simp only; omega, by have h9 := (ap_len A cx L).2; simp only; omega⟩, by simp [hj5], fun i b hb => seen_step hj5 hj6 hrj hkn3 i b hb⟩ (by simp only; omega) (by repeat (first | exact trivial | refine ⟨rfl, ?_⟩)) (by repeat (first | exact .nil | apply Pick.cons | exact .here | apply Ext.there))
          · replace h74 := bF h74
            have hj9 : j = C.length := by omega
            have hAe : A = x9.sh := by
              rw [hj2, List.take_of_length_le (by have h8 : x9.row.length = C.length := hrl; omega)]
              exact (congrArg TurnA.sh hxe).symm
            refine CW.exit ?_
            refine PQ.then_exit ?_
            refine PQ.then_exit ?_
            refine PQ.in_here ?_
            refine PQ.seq ?_
            refine CW.seq ?_
            refine CW.quiet mixed (by kernel_rfl) ?_
            refine QW.v rfl rfl (Val.loadW (l := shC A so) rfl Tryz.isAgg34 (by repeat (first | exact .here | exact .inner .here | exact .inner (.inner .here) | refine .there ?_)) (by exact Tryz.sizeOf34)) ?_
            refine QW.re 130 (.agg (sfO A so).cells.toArray) rfl (by rw [sfO_c]) ?_
            refine QW.v rfl rfl (Val.move rfl) ?_
            refine QW.v rfl rfl (Val.move rfl) ?_
            refine QW.v rfl rfl (Val.indexAddrN rfl rfl Tryz.underlying25 Tryz.sizeOf36 hk9) ?_
            refine QW.v rfl rfl (Val.fieldAddr 2 rfl Tryz.underlying36 rfl rfl Tryz.sizeOf34) ?_
            refine QW.v rfl rfl (Val.loadOA (cs := rt.s.cells) rfl Tryz.isAgg34 hb1 (by simp [ids]) (fun q v hv => by have h9 := hr1 k rt hx1 (2 + q) v (sf_at hv); rwa [← Nat.add_assoc] at h9) Tryz.sizeOf34) ?_
            refine QW.c rfl rfl (Qcall.of rfl Tryz.call20 (fun w hw => sameShelf_c (sfO A so) rt.s A x9.sh w (sfO_ok hj3 hw (by repeat (first | exact .nil | apply Pick.cons | exact .here | apply Ext.there))) (ht.sf.hp hw (by simp [ids])) (by omega))) ?_
            refine QW.v rfl rfl (Val.not rfl) ?_
            refine QW.re 137 (.bool false) rfl (by rw [decide_eq_true hAe]; rfl) ?_
            refine QW.v rfl rfl (Val.move rfl) ?_
            refine QW.v rfl rfl (Val.move rfl) ?_
            refine QW.v rfl rfl (Val.cmp rfl rfl rfl) ?_
            refine QW.split (d := 140) rfl (fun h140 => ?_) (fun h140 => ?_)
            · replace h140 := bT h140
              have hk8 : k - 1 < l9.length := by omega
              obtain ⟨bb2, o2, rt2, hpp2, hb2, hx2, hr2⟩ := V.slAt_at hT9.1 (by simp) (k := k - 1) hk8
              cases hpp2
              obtain ⟨⟨bs9, y9⟩, hl2⟩ := map_atF hx2
              have hty := hT9.2 _ (List.mem_of_getElem? hl2)
              obtain ⟨_, hpr2, _⟩ := rows_row hl9 hl2
              have hbel : belowF y9.row x9.row = true := perm_below hn3 hpr2 (by rw [show k - 1 + 1 = k by omega]; exact hpr)
              refine QW.v rfl rfl (Val.move rfl) ?_
              refine QW.v rfl rfl (Val.move rfl) ?_
              refine QW.v rfl rfl (Val.move rfl) ?_
              refine QW.v rfl rfl (Val.ar rfl rfl rfl (IntWalk.i64_in _ (by omega))) ?_
              refine QW.re 144 (.int .i64 ((k - 1 : Nat) : Int)) rfl (by congr 1; omega) ?_
              refine QW.v rfl rfl (Val.indexAddrN rfl rfl Tryz.underlying25 Tryz.sizeOf36 hk8) ?_
              refine QW.v rfl rfl (Val.fieldAddr 0 rfl Tryz.underlying36 rfl rfl Tryz.sizeOf29) ?_
              refine QW.v rfl rfl (Val.loadO rfl Tryz.isAgg29 hb1 (by simp [ids]) (hr1 (k - 1) rt2 hx2 0 _ rfl)) ?_
              refine QW.v rfl rfl (Val.move rfl) ?_
              refine QW.c rfl rfl (Qcall.of rfl Tryz.call21 (fun w hw => below_c y9.row x9.row _ _ _ _ _ _ hty.rn ht.rn (by have h8 : y9.row.length ≤ 3 := (hS9 _ (List.mem_of_getElem? hl2)).1.1; omega) w (slAt_hp hty.rs hw) (slAt_hp ht.rs hw))) ?_
              refine QW.v rfl rfl (Val.not rfl) ?_
              refine QW.re 150 (.bool false) rfl (by rw [hbel]; rfl) ?_
              refine QW.v rfl rfl (Val.pick_t rfl rfl) ?_
              refine QW.v rfl rfl (Val.pick_f rfl rfl) ?_
              refine QW.nil ?_
              refine PQ.seq ?_
              refine CW.cond_f rfl ?_
              refine CW.skip ?_
              refine PQ.in_normal ?_
              refine PQ.seq ?_
              refine CW.region ?_
              refine LW.v rfl rfl (Val.move rfl) ?_
              refine LW.v rfl rfl (Val.ar rfl rfl rfl (IntWalk.i64_in _ (by omega))) ?_
              refine LW.v rfl rfl (Val.assign rfl) ?_
              refine LW.nil ?_
              refine PQ.round (k + 1) (by omega) (by omega) (by repeat (first | exact trivial | refine ⟨rfl, ?_⟩)) (by repeat (first | exact .nil | apply Pick.cons | exact .here | apply Ext.there))
            · replace h140 := bF h140
              refine QW.v rfl rfl (Val.move rfl) ?_
              refine QW.p rfl rfl ?_
              refine QW.p rfl rfl ?_
              refine QW.p rfl rfl ?_
              refine QW.p rfl rfl ?_
              refine QW.p rfl rfl ?_
              refine QW.p rfl rfl ?_
              refine QW.p rfl rfl ?_
              refine QW.p rfl rfl ?_
              refine QW.p rfl rfl ?_
              refine QW.v rfl rfl (Val.pick_f rfl rfl) ?_
              refine QW.v rfl rfl (Val.pick_f rfl rfl) ?_
              refine QW.nil ?_
              refine PQ.seq ?_
              refine CW.cond_f rfl ?_
              refine CW.skip ?_
              refine PQ.in_normal ?_
              refine PQ.seq ?_
              refine CW.region ?_
              refine LW.v rfl rfl (Val.move rfl) ?_
              refine LW.v rfl rfl (Val.ar rfl rfl rfl (IntWalk.i64_in _ (by omega))) ?_
              refine LW.v rfl rfl (Val.assign rfl) ?_
              refine LW.nil ?_
              refine PQ.round (k + 1) (by omega) (by omega) (by repeat (first | exact trivial | refine ⟨rfl, ?_⟩)) (by repeat (first | exact .nil | apply Pick.cons | exact .here | apply Ext.there))
        · replace h41 := bF h41
          have hk9 : l9.length ≤ k := by omega
          refine CW.exit ?_
          refine PQ.then_exit ?_
          refine PQ.then_exit ?_
          refine PQ.in_here ?_
          refine PQ.seq ?_
          refine CW.seq ?_
          refine CW.region ?_
          refine LW.e rfl rfl (Eff.callV rfl Tryz.call8 (fun w hw => awake_c w)) ?_
          intro _ _
          refine LW.v rfl rfl (Val.assign rfl) ?_
          refine LW.nil ?_
          refine PQ.seq ?_
          refine CW.ret ?_
          refine PQ.ret1 rfl rfl ?_
          intro w' hw; exact ⟨rfl, V.below_on hbb hw.below⟩
end I
end Go.Proofs.YtlpbjmbgopfkhaaGreat

/- Calls that came in: their cells. -/
namespace Go.Proofs.YtlpbjmbgopfkhaaGreat
open Go Go.RowKit V
set_option linter.unusedVariables false
set_option maxRecDepth 100000
namespace I
open V (str byC ownV ownG ownS ownOk)
section
variable {H : Type} {enc : TypeId × Value → H} {P : Program} {w : World} {base : Nat} {spare : Nat → Bool} {held : Bool} {fuel : Nat} {x : DataW H × List MemPlace}
theorem sl_cap {t e : TypeId} {p : Option Addr} {n c : Nat} (ht : P.underlying t = some (.slice e)) (h : DataW.trod enc P w base spare held fuel t [.slice p n c] = some x) : n ≤ c := by
  rcases Deep.open_slice ht h with ⟨hcs, _⟩ | ⟨a, len, cap, m, n2, D, Pl, hcs, _, hl, _⟩
  · simp only [List.cons.injEq, Value.slice.injEq, and_true] at hcs
    omega
  · simp only [List.cons.injEq, Value.slice.injEq, and_true] at hcs
    obtain ⟨_, rfl, rfl⟩ := hcs
    exact hl
end
theorem cellsOf3 : Tryz.prog.cellsOf 3 = 1 := by kernel_rfl
theorem cellsOf9 : Tryz.prog.cellsOf 9 = 1 := by kernel_rfl
theorem cellsOf22 : Tryz.prog.cellsOf 22 = 1 := by kernel_rfl
theorem cellsOf52 : Tryz.prog.cellsOf 52 = 5 := by kernel_rfl
theorem open52 {H : Type} {enc : TypeId × Value → H} {w : World} {base : Nat} {spare : Nat → Bool} {held : Bool} {fuel : Nat} {cs : List Value} {x : DataW H × List MemPlace} (h : DataW.trod enc Tryz.prog w base spare held fuel 52 cs = some x) :
    ∃ (v0 : Int) (v1 : ByteArray) (v2 : ByteArray) (v3 : ByteArray) (p4 : Option Addr) (n4 : Nat) (q4 : Nat) (l4 : List (List Value)), cs = [.int .i64 v0, .string v1, .string v2, .string v3, .slice p4 n4 q4] ∧ (Lit.int .i64 v0).wf = true ∧ v1.size ≤ maxLen ∧ v2.size ≤ maxLen ∧ v3.size ≤ maxLen ∧ n4 = l4.length ∧ n4 ≤ maxLen ∧ V.slAt w p4 5 id l4 ∧ (∀ c ∈ l4, ∃ m y, DataW.trod enc Tryz.prog w base spare held m 52 c = some y) ∧ n4 ≤ q4 := by
  have hlen := (V.trod_fields Tryz.underlying52 h).1
  rw [cellsOf52] at hlen
  match cs, hlen with
  | [c0, c1, c2, c3, c4], _ =>
    obtain ⟨_, m0, g0⟩ := V.trod_fields Tryz.underlying52 h
    obtain ⟨y0_0, f0_0⟩ := g0 0 _ rfl 3 0 1 rfl rfl cellsOf3
    simp only [List.drop, List.take] at f0_0
    obtain ⟨v0, e0, _, w0⟩ := DataW.trod_int Tryz.underlying3 f0_0
    simp only [List.cons.injEq, and_true] at e0; subst e0
    obtain ⟨y0_1, f0_1⟩ := g0 1 _ rfl 9 1 1 rfl rfl cellsOf9
    simp only [List.drop, List.take] at f0_1
    obtain ⟨v1, e1, _, w1⟩ := DataW.trod_string Tryz.underlying9 f0_1
    simp only [List.cons.injEq, and_true] at e1; subst e1
    obtain ⟨y0_2, f0_2⟩ := g0 2 _ rfl 9 2 1 rfl rfl cellsOf9
    simp only [List.drop, List.take] at f0_2
    obtain ⟨v2, e2, _, w2⟩ := DataW.trod_string Tryz.underlying9 f0_2
    simp only [List.cons.injEq, and_true] at e2; subst e2
    obtain ⟨y0_3, f0_3⟩ := g0 3 _ rfl 9 3 1 rfl rfl cellsOf9
    simp only [List.drop, List.take] at f0_3
    obtain ⟨v3, e3, _, w3⟩ := DataW.trod_string Tryz.underlying9 f0_3
    simp only [List.cons.injEq, and_true] at e3; subst e3
    obtain ⟨y0_4, f0_4⟩ := g0 4 _ rfl 22 4 1 rfl rfl cellsOf22
    simp only [List.drop, List.take] at f0_4
    obtain ⟨p4, n4, q4, l4, e4, z4, x4, s4, t4⟩ := V.open_sl (sz := 5) Tryz.underlying22 cellsOf52 (by decide) f0_4
    simp only [List.cons.injEq, and_true] at e4; subst e4
    have u4 := sl_cap Tryz.underlying22 f0_4
    exact ⟨v0, v1, v2, v3, p4, n4, q4, l4, rfl, w0, w1, w2, w3, z4, x4, s4, t4, u4⟩
section
variable {H : Type} {enc : TypeId × Value → H} {w : World} {base : Nat} {spare : Nat → Bool} {held : Bool} {fuel : Nat} {cs : List Value} {x : DataW H × List MemPlace}
theorem open_call1 (h : DataW.trod enc Tryz.prog w base spare held fuel 52 cs = some x) : ∃ c : Cal, cs = calC c ∧ True := by
  obtain ⟨v0, v1, v2, v3, p4, n4, q4, l4, rfl, _⟩ := open52 h
  exact ⟨⟨v0, v1.data.toList, v2.data.toList, v3.data.toList, p4, n4, q4⟩, rfl, trivial⟩
theorem open_call (h : DataW.trod enc Tryz.prog w base spare held fuel 52 cs = some x) : ∃ c : Cal × List Cal, cs = calC c.1 ∧ CalR w c.1 c.2 := by
  obtain ⟨v0, v1, v2, v3, p4, n4, q4, l4, rfl, _, _, _, _, f1, f2, f3, f4, f5⟩ := open52 h
  obtain ⟨L, hL, _⟩ := V.list_choice (enc' := calC) (p := fun _ => True) (l := l4) (fun c hc => by
    obtain ⟨m, y, hy⟩ := f4 c hc
    exact open_call1 hy)
  exact ⟨(⟨v0, v1.data.toList, v2.data.toList, v3.data.toList, p4, n4, q4⟩, L), rfl, ⟨by simp [f1, hL], f5⟩, V.slAt_map f3 hL⟩
theorem open_calls {p : Option Addr} {l : List (List Value)} (hs : V.slAt w p 5 id l) (ht : ∀ c ∈ l, ∃ m y, DataW.trod enc Tryz.prog w base spare held m 52 c = some y) : ∃ C : Crs, l.length = C.length ∧ V.slAt w p 5 calC (C.map Prod.fst) ∧ ∀ c ∈ C, CalR w c.1 c.2 := by
  obtain ⟨m, hm, ho⟩ := V.list_choice (enc' := fun c : Cal × List Cal => calC c.1) (p := fun c => CalR w c.1 c.2) (l := l) (fun c hc => by
    obtain ⟨k, y, hy⟩ := ht c hc
    exact open_call hy)
  exact ⟨m, by simp [hm], V.slAt_map hs (by rw [hm]; simp), ho⟩
end
end I
end Go.Proofs.YtlpbjmbgopfkhaaGreat
