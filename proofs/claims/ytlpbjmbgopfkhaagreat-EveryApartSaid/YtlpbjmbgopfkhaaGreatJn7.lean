import Derived.Test.YtlpbjmbgopfkhaaGreatJn5
import Derived.Lib.Hide
import Derived.Test.YtlpbjmbgopfkhaaGreatV37
import Derived.WalkSmall
import Derived.Deep.Slices
/- Turns compared with others. -/
namespace Go.Proofs.YtlpbjmbgopfkhaaGreat
open Go Go.RowKit V
set_option linter.unusedVariables false
set_option maxRecDepth 100000
namespace I
open V (str byC ownV ownG ownS ownOk)
/-- An answer in memory. -/
structure RA where
  code : Int
  fd : Bool
  vl : List UInt8
  p : Sl
  h : Sl
  ep : Int
instance : Inhabited RA := ⟨⟨0, false, [], ⟨none, 0, 0⟩, ⟨none, 0, 0⟩, 0⟩⟩
def raC (a : RA) : List Value := [.int .i64 a.code, .bool a.fd, str a.vl, .slice a.p.a a.p.n a.p.c, .slice a.h.a a.h.n a.h.c, .int .u64 a.ep]
theorem raC_len (a : RA) : (raC a).length = 6 := rfl
abbrev RB := RA × List Bool
def RaR (w : World) (a : RB) : Prop := (a.1.h.n = a.2.length ∧ V.slAt w a.1.h.a 1 boE a.2) ∧ a.2.length ≤ 9223372036854775807
/-- A turn in memory. -/
structure RT where
  r : Sl
  a : Sl
  s : Sf
instance : Inhabited RT := ⟨⟨⟨none, 0, 0⟩, ⟨none, 0, 0⟩, ⟨⟨none, 0, 0⟩, ⟨none, 0, 0⟩⟩⟩⟩
def rtC (t : RT) : List Value := [.slice t.r.a t.r.n t.r.c, .slice t.a.a t.a.n t.a.c, .slice t.s.p.a t.s.p.n t.s.p.c, .slice t.s.q.a t.s.q.n t.s.q.c]
theorem rtC_len (t : RT) : (rtC t).length = 4 := rfl
abbrev TX := List RB × ShA
def RtR (w : World) (t : RT) (x : TX) : Prop := (t.a.n = x.1.length ∧ V.slAt w t.a.a 6 raC (x.1.map Prod.fst)) ∧ (∀ a ∈ x.1, RaR w a) ∧ SfR w t.s x.2 ∧ x.1.length ≤ 9223372036854775807 ∧ x.2.1.length ≤ 9223372036854775807 ∧ x.2.2.length ≤ 9223372036854775807
theorem slAt_hp {α : Type} {w0 w : World} {sg : V.Sg} {p : Option Addr} {sz : Nat} {enc : α → List Value} {l : List α} (h : V.slAt w0 p sz enc l) (hw : Hp ⟨w0, []⟩ sg w) : V.slAt w p sz enc l := hw.slAt h (by simp)
theorem RaR.hp {w0 w : World} {sg : V.Sg} {a : RB} (h : RaR w0 a) (hw : Hp ⟨w0, []⟩ sg w) : RaR w a := ⟨⟨h.1.1, slAt_hp h.1.2 hw⟩, h.2⟩
theorem RtR.hp {w0 w : World} {sg : V.Sg} {t : RT} {x : TX} (h : RtR w0 t x) (hw : Hp ⟨w0, []⟩ sg w) : RtR w t x := ⟨⟨h.1.1, slAt_hp h.1.2 hw⟩, fun a ha => (h.2.1 a ha).hp hw, h.2.2.1.hp hw (by simp), h.2.2.2⟩
def ansEq (a b : RB) : Bool := decide (a.1.code = b.1.code) && decide (a.1.fd = b.1.fd) && decide (a.1.vl = b.1.vl) && decide (a.2 = b.2)
def allEq : List RB → List RB → Bool
  | [], [] => true
  | a :: r, b :: s => ansEq a b && allEq r s
  | _, _ => false
def turnEq (x y : TX) : Bool := decide (x.2 = y.2) && allEq x.1 y.1
def amongF (x : TX) (l : List TX) : Bool := l.any (turnEq x)
theorem allEq_len {l m : List RB} (h : l.length ≠ m.length) : allEq l m = false := by
  induction l generalizing m with
  | nil => cases m with
    | nil => exact absurd rfl h
    | cons _ _ => rfl
  | cons a r ih => cases m with
    | nil => rfl
    | cons b s => simp only [allEq, ih (m := s) (fun e => h (by simp [e])), Bool.and_false]
theorem allEq_no {l m : List RB} {k : Nat} {a b : RB} (ha : l[k]? = some a) (hb : m[k]? = some b) (h : ansEq a b = false) : allEq l m = false := by
  induction k generalizing l m with
  | zero => match l, m with
    | [], _ => simp at ha
    | _, [] => simp at hb
    | x :: r, y :: s => simp at ha hb; subst ha; subst hb; simp [allEq, h]
  | succ k ih => match l, m with
    | [], _ => simp at ha
    | _, [] => simp at hb
    | x :: r, y :: s => simp only [allEq, ih (l := r) (m := s) (by simpa using ha) (by simpa using hb), Bool.and_false]
theorem allEq_yes {l m : List RB} (hl : l.length = m.length) (h : ∀ (i : Nat) (a b : RB), l[i]? = some a → m[i]? = some b → ansEq a b = true) : allEq l m = true := by
  induction l generalizing m with
  | nil => cases m with
    | nil => rfl
    | cons _ _ => simp at hl
  | cons a r ih => cases m with
    | nil => simp at hl
    | cons b s => simp only [allEq, h 0 a b rfl rfl, Bool.true_and]; exact ih (by simpa using hl) fun i x y hx hy => h (i + 1) x y (by simpa using hx) (by simpa using hy)
def UpTo (l m : List RB) (k : Nat) : Prop := ∀ (i : Nat) (a b : RB), i < k → l[i]? = some a → m[i]? = some b → ansEq a b = true
theorem UpTo.step {l m : List RB} {k : Nat} {a b : RB} (h : UpTo l m k) (ha : l[k]? = some a) (hb : m[k]? = some b) (he : ansEq a b = true) : UpTo l m (k + 1) := fun i x y hi hx hy => by
  by_cases e : i = k
  · subst e; rw [ha] at hx; rw [hb] at hy; cases hx; cases hy; exact he
  · exact h i x y (by omega) hx hy
theorem UpTo.end {l m : List RB} {k : Nat} (h : UpTo l m k) (hk : l.length ≤ k) (hl : l.length = m.length) : allEq l m = true := allEq_yes hl fun i a b ha hb => h i a b (by have := (List.getElem?_eq_some_iff.1 ha).1; omega) ha hb
theorem map_at {l : List RB} {k : Nat} {x : RA} (h : (l.map Prod.fst)[k]? = some x) : ∃ hs, l[k]? = some (x, hs) := by
  rw [List.getElem?_map] at h
  cases hl : l[k]? with
  | none => rw [hl] at h; cases h
  | some y => rw [hl] at h; simp at h; exact ⟨y.2, by rw [← h]⟩
theorem eqP_c (l1 l2 : List (Pr)) (p1 p2 : Option Addr) (n1 n2 c1 c2 : Nat) (hn1 : n1 = l1.length) (hn2 : n2 = l2.length) (hl : l1.length ≤ 9223372036854775807) (w : World) (h1 : V.slAt w p1 2 prC l1) (h2 : V.slAt w p2 2 prC l2) : Calls Tryz.prog 63 [.slice p1 n1 c1, .slice p2 n2 c2].toArray w fun e w' => e = .returned (.bool (decide (l1 = l2))) ∧ Below w.heap.size w w' := by
  subst hn1; subst hn2
  refine V.calls [] Tryz.func63 rfl Tryz.ntmps63 (Nat.le_of_ble_eq_true rfl) (V.sat_nil _) ?_
  refine CW.seq ?_
  refine CW.region ?_
  refine LW.v rfl rfl (Val.assign rfl) ?_
  refine LW.nil ?_
  refine PQ.seq ?_
  refine CW.seq ?_
  refine CW.seq ?_
  refine CW.region ?_
  refine LW.v rfl rfl (Val.move rfl) ?_
  refine LW.v rfl rfl (Val.lenSl rfl Tryz.underlying31) ?_
  refine LW.v rfl rfl (Val.move rfl) ?_
  refine LW.v rfl rfl (Val.lenSl rfl Tryz.underlying31) ?_
  refine LW.v rfl rfl (Val.cmp rfl rfl rfl) ?_
  refine LW.nil ?_
  refine PQ.seq ?_
  refine CW.cond rfl (fun h10 => ?_) (fun h10 => ?_)
  · replace h10 := bT h10
    refine CW.seq ?_
    refine CW.region ?_
    refine LW.v rfl rfl (Val.assign rfl) ?_
    refine LW.nil ?_
    refine PQ.seq ?_
    refine CW.ret ?_
    refine PQ.then_ret ?_
    refine PQ.ret1 rfl rfl ?_
    intro w' hw; exact ⟨by rw [decide_eq_false (fun e => h10 (by rw [e]))], hw.below⟩
  · replace h10 := bF h10
    refine CW.skip ?_
    refine PQ.seq ?_
    refine CW.seq ?_
    refine CW.seq ?_
    refine CW.region ?_
    refine LW.v rfl rfl (Val.move rfl) ?_
    refine LW.v rfl rfl (Val.lenSl rfl Tryz.underlying31) ?_
    refine LW.v rfl rfl (Val.move rfl) ?_
    refine LW.nil ?_
    refine PQ.seq ?_
    refine CW.block ?_
    refine CW.loop (γ := Nat) (fun k => [(0, .slice p1 l1.length c1), (1, .slice p2 l2.length c2), (12, .int .i64 (l1.length : Nat)), (13, .int .i64 (k : Nat))]) (fun _ => []) (fun k => k ≤ l1.length ∧ l1.take k = l2.take k) (fun k => l1.length - k) (0) ⟨Nat.zero_le _, rfl⟩ (by repeat (first | exact trivial | refine ⟨rfl, ?_⟩)) (by repeat (first | exact .nil | apply Pick.cons | exact .here | apply Ext.there)) ?_
    intro k
    rintro ⟨hk1, hk2⟩
    refine CW.seq ?_
    refine CW.region ?_
    refine LW.v rfl rfl (Val.cmp rfl rfl rfl) ?_
    refine LW.nil ?_
    refine PQ.seq ?_
    refine CW.seq ?_
    refine CW.cond rfl (fun h14 => ?_) (fun h14 => ?_)
    · replace h14 := bT h14
      obtain ⟨b1, o1, x, rfl, hb1, hx1, hr1⟩ := V.slAt_at h1 rfl (k := k) (by omega)
      obtain ⟨b2, o2, y, rfl, hb2, hx2, hr2⟩ := V.slAt_at h2 rfl (k := k) (by omega)
      refine CW.skip ?_
      refine PQ.seq ?_
      refine CW.seq ?_
      refine CW.block ?_
      refine CW.seq ?_
      refine CW.region ?_
      refine LW.v rfl rfl (Val.move rfl) ?_
      refine LW.v rfl rfl (Val.assign rfl) ?_
      refine LW.nil ?_
      refine PQ.seq ?_
      refine CW.seq ?_
      refine CW.quiet mixed (by kernel_rfl) ?_
      refine QW.v rfl rfl (Val.move rfl) ?_
      refine QW.v rfl rfl (Val.move rfl) ?_
      first | (refine QW.v rfl rfl (Val.indexAddrN rfl rfl Tryz.underlying31 Tryz.sizeOf69 (by omega)) ?_) | (refine QW.v rfl rfl (Val.indexAddr rfl rfl Tryz.underlying31 Tryz.sizeOf69 (by omega) (by omega)) ?_)
      refine QW.v rfl rfl (Val.loadOA rfl Tryz.isAgg69 hb1 (by simp [ids]) (hr1 k x hx1) Tryz.sizeOf69) ?_
      refine QW.v rfl rfl (Val.move rfl) ?_
      refine QW.v rfl rfl (Val.move rfl) ?_
      first | (refine QW.v rfl rfl (Val.indexAddrN rfl rfl Tryz.underlying31 Tryz.sizeOf69 (by omega)) ?_) | (refine QW.v rfl rfl (Val.indexAddr rfl rfl Tryz.underlying31 Tryz.sizeOf69 (by omega) (by omega)) ?_)
      refine QW.v rfl rfl (Val.loadOA rfl Tryz.isAgg69 hb2 (by simp [ids]) (hr2 k y hx2) Tryz.sizeOf69) ?_
      refine QW.v rfl rfl (Val.neA rfl rfl (by kernel_rfl) Tryz.underlying69 (by kernel_rfl) (by exact (.str rfl rfl Tryz.isAgg9 Tryz.underlying9 (.str rfl rfl Tryz.isAgg9 Tryz.underlying9 .nil)))) ?_
      refine QW.re 24 (.bool (!decide (x = y))) rfl (by rw [← pr_ne]) ?_
      refine QW.nil ?_
      refine PQ.seq ?_
      refine CW.cond rfl (fun h24 => ?_) (fun h24 => ?_)
      · replace h24 := bT h24
        have h24 : x ≠ y := by simpa using h24
        refine CW.seq ?_
        refine CW.region ?_
        refine LW.v rfl rfl (Val.assign rfl) ?_
        refine LW.nil ?_
        refine PQ.seq ?_
        refine CW.ret ?_
        refine PQ.in_ret ?_
        refine PQ.then_ret ?_
        refine PQ.then_ret ?_
        refine PQ.in_ret ?_
        refine PQ.then_ret ?_
        refine PQ.ret1 rfl rfl ?_
        intro w' hw; exact ⟨by rw [decide_eq_false (ne_at hx1 hx2 h24)], hw.below⟩
      · replace h24 := bF h24
        have h24 : x = y := by simpa using h24
        subst h24
        refine CW.skip ?_
        refine PQ.in_normal ?_
        refine PQ.seq ?_
        refine CW.region ?_
        refine LW.v rfl rfl (Val.ar rfl rfl rfl (IntWalk.i64_in _ (by omega))) ?_
        refine LW.v rfl rfl (Val.move rfl) ?_
        refine LW.nil ?_
        refine PQ.round (k + 1) ⟨by omega, take_step hk2 hx1 hx2⟩ (by omega) (by repeat (first | exact trivial | refine ⟨rfl, ?_⟩)) (by repeat (first | exact .nil | apply Pick.cons | exact .here | apply Ext.there))
    · replace h14 := bF h14
      refine CW.exit ?_
      refine PQ.then_exit ?_
      refine PQ.then_exit ?_
      refine PQ.in_here ?_
      refine PQ.seq ?_
      refine CW.seq ?_
      refine CW.region ?_
      refine LW.v rfl rfl (Val.assign rfl) ?_
      refine LW.nil ?_
      refine PQ.seq ?_
      refine CW.ret ?_
      refine PQ.ret1 rfl rfl ?_
      intro w' hw; exact ⟨by rw [decide_eq_true (take_end hk2 (by omega) (by omega))], hw.below⟩
theorem eqS_c (l1 l2 : List (List UInt8)) (p1 p2 : Option Addr) (n1 n2 c1 c2 : Nat) (hn1 : n1 = l1.length) (hn2 : n2 = l2.length) (hl : l1.length ≤ 9223372036854775807) (w : World) (h1 : V.slAt w p1 1 stE l1) (h2 : V.slAt w p2 1 stE l2) : Calls Tryz.prog 64 [.slice p1 n1 c1, .slice p2 n2 c2].toArray w fun e w' => e = .returned (.bool (decide (l1 = l2))) ∧ Below w.heap.size w w' := by
  subst hn1; subst hn2
  refine V.calls [] Tryz.func64 rfl Tryz.ntmps64 (Nat.le_of_ble_eq_true rfl) (V.sat_nil _) ?_
  refine CW.seq ?_
  refine CW.region ?_
  refine LW.v rfl rfl (Val.assign rfl) ?_
  refine LW.nil ?_
  refine PQ.seq ?_
  refine CW.seq ?_
  refine CW.seq ?_
  refine CW.region ?_
  refine LW.v rfl rfl (Val.move rfl) ?_
  refine LW.v rfl rfl (Val.lenSl rfl Tryz.underlying32) ?_
  refine LW.v rfl rfl (Val.move rfl) ?_
  refine LW.v rfl rfl (Val.lenSl rfl Tryz.underlying32) ?_
  refine LW.v rfl rfl (Val.cmp rfl rfl rfl) ?_
  refine LW.nil ?_
  refine PQ.seq ?_
  refine CW.cond rfl (fun h10 => ?_) (fun h10 => ?_)
  · replace h10 := bT h10
    refine CW.seq ?_
    refine CW.region ?_
    refine LW.v rfl rfl (Val.assign rfl) ?_
    refine LW.nil ?_
    refine PQ.seq ?_
    refine CW.ret ?_
    refine PQ.then_ret ?_
    refine PQ.ret1 rfl rfl ?_
    intro w' hw; exact ⟨by rw [decide_eq_false (fun e => h10 (by rw [e]))], hw.below⟩
  · replace h10 := bF h10
    refine CW.skip ?_
    refine PQ.seq ?_
    refine CW.seq ?_
    refine CW.seq ?_
    refine CW.region ?_
    refine LW.v rfl rfl (Val.move rfl) ?_
    refine LW.v rfl rfl (Val.lenSl rfl Tryz.underlying32) ?_
    refine LW.v rfl rfl (Val.move rfl) ?_
    refine LW.nil ?_
    refine PQ.seq ?_
    refine CW.block ?_
    refine CW.loop (γ := Nat) (fun k => [(0, .slice p1 l1.length c1), (1, .slice p2 l2.length c2), (12, .int .i64 (l1.length : Nat)), (13, .int .i64 (k : Nat))]) (fun _ => []) (fun k => k ≤ l1.length ∧ l1.take k = l2.take k) (fun k => l1.length - k) (0) ⟨Nat.zero_le _, rfl⟩ (by repeat (first | exact trivial | refine ⟨rfl, ?_⟩)) (by repeat (first | exact .nil | apply Pick.cons | exact .here | apply Ext.there)) ?_
    intro k
    rintro ⟨hk1, hk2⟩
    refine CW.seq ?_
    refine CW.region ?_
    refine LW.v rfl rfl (Val.cmp rfl rfl rfl) ?_
    refine LW.nil ?_
    refine PQ.seq ?_
    refine CW.seq ?_
    refine CW.cond rfl (fun h14 => ?_) (fun h14 => ?_)
    · replace h14 := bT h14
      obtain ⟨b1, o1, x, rfl, hb1, hx1, hr1⟩ := V.slAt_at h1 rfl (k := k) (by omega)
      obtain ⟨b2, o2, y, rfl, hb2, hx2, hr2⟩ := V.slAt_at h2 rfl (k := k) (by omega)
      refine CW.skip ?_
      refine PQ.seq ?_
      refine CW.seq ?_
      refine CW.block ?_
      refine CW.seq ?_
      refine CW.region ?_
      refine LW.v rfl rfl (Val.move rfl) ?_
      refine LW.v rfl rfl (Val.assign rfl) ?_
      refine LW.nil ?_
      refine PQ.seq ?_
      refine CW.seq ?_
      refine CW.quiet mixed (by kernel_rfl) ?_
      refine QW.v rfl rfl (Val.move rfl) ?_
      refine QW.v rfl rfl (Val.move rfl) ?_
      first | (refine QW.v rfl rfl (Val.indexAddrN rfl rfl Tryz.underlying32 Tryz.sizeOf9 (by omega)) ?_) | (refine QW.v rfl rfl (Val.indexAddr rfl rfl Tryz.underlying32 Tryz.sizeOf9 (by omega) (by omega)) ?_)
      refine QW.v rfl rfl (Val.loadO rfl Tryz.isAgg9 hb1 (by simp [ids]) (hr1 k x hx1 0 _ rfl)) ?_
      refine QW.v rfl rfl (Val.move rfl) ?_
      refine QW.v rfl rfl (Val.move rfl) ?_
      first | (refine QW.v rfl rfl (Val.indexAddrN rfl rfl Tryz.underlying32 Tryz.sizeOf9 (by omega)) ?_) | (refine QW.v rfl rfl (Val.indexAddr rfl rfl Tryz.underlying32 Tryz.sizeOf9 (by omega) (by omega)) ?_)
      refine QW.v rfl rfl (Val.loadO rfl Tryz.isAgg9 hb2 (by simp [ids]) (hr2 k y hx2 0 _ rfl)) ?_
      refine QW.v rfl rfl (Val.neStr rfl rfl) ?_
      refine QW.nil ?_
      refine PQ.seq ?_
      refine CW.cond rfl (fun h24 => ?_) (fun h24 => ?_)
      · replace h24 := bT h24
        have h24 : x ≠ y := by simpa using h24
        refine CW.seq ?_
        refine CW.region ?_
        refine LW.v rfl rfl (Val.assign rfl) ?_
        refine LW.nil ?_
        refine PQ.seq ?_
        refine CW.ret ?_
        refine PQ.in_ret ?_
        refine PQ.then_ret ?_
        refine PQ.then_ret ?_
        refine PQ.in_ret ?_
        refine PQ.then_ret ?_
        refine PQ.ret1 rfl rfl ?_
        intro w' hw; exact ⟨by rw [decide_eq_false (ne_at hx1 hx2 h24)], hw.below⟩
      · replace h24 := bF h24
        have h24 : x = y := by simpa using h24
        subst h24
        refine CW.skip ?_
        refine PQ.in_normal ?_
        refine PQ.seq ?_
        refine CW.region ?_
        refine LW.v rfl rfl (Val.ar rfl rfl rfl (IntWalk.i64_in _ (by omega))) ?_
        refine LW.v rfl rfl (Val.move rfl) ?_
        refine LW.nil ?_
        refine PQ.round (k + 1) ⟨by omega, take_step hk2 hx1 hx2⟩ (by omega) (by repeat (first | exact trivial | refine ⟨rfl, ?_⟩)) (by repeat (first | exact .nil | apply Pick.cons | exact .here | apply Ext.there))
    · replace h14 := bF h14
      refine CW.exit ?_
      refine PQ.then_exit ?_
      refine PQ.then_exit ?_
      refine PQ.in_here ?_
      refine PQ.seq ?_
      refine CW.seq ?_
      refine CW.region ?_
      refine LW.v rfl rfl (Val.assign rfl) ?_
      refine LW.nil ?_
      refine PQ.seq ?_
      refine CW.ret ?_
      refine PQ.ret1 rfl rfl ?_
      intro w' hw; exact ⟨by rw [decide_eq_true (take_end hk2 (by omega) (by omega))], hw.below⟩
theorem eqB_c (l1 l2 : List (Bool)) (p1 p2 : Option Addr) (n1 n2 c1 c2 : Nat) (hn1 : n1 = l1.length) (hn2 : n2 = l2.length) (hl : l1.length ≤ 9223372036854775807) (w : World) (h1 : V.slAt w p1 1 boE l1) (h2 : V.slAt w p2 1 boE l2) : Calls Tryz.prog 35 [.slice p1 n1 c1, .slice p2 n2 c2].toArray w fun e w' => e = .returned (.bool (decide (l1 = l2))) ∧ Below w.heap.size w w' := by
  subst hn1; subst hn2
  refine V.calls [] Tryz.func35 rfl Tryz.ntmps35 (Nat.le_of_ble_eq_true rfl) (V.sat_nil _) ?_
  refine CW.seq ?_
  refine CW.region ?_
  refine LW.v rfl rfl (Val.assign rfl) ?_
  refine LW.nil ?_
  refine PQ.seq ?_
  refine CW.seq ?_
  refine CW.seq ?_
  refine CW.region ?_
  refine LW.v rfl rfl (Val.move rfl) ?_
  refine LW.v rfl rfl (Val.lenSl rfl Tryz.underlying46) ?_
  refine LW.v rfl rfl (Val.move rfl) ?_
  refine LW.v rfl rfl (Val.lenSl rfl Tryz.underlying46) ?_
  refine LW.v rfl rfl (Val.cmp rfl rfl rfl) ?_
  refine LW.nil ?_
  refine PQ.seq ?_
  refine CW.cond rfl (fun h10 => ?_) (fun h10 => ?_)
  · replace h10 := bT h10
    refine CW.seq ?_
    refine CW.region ?_
    refine LW.v rfl rfl (Val.assign rfl) ?_
    refine LW.nil ?_
    refine PQ.seq ?_
    refine CW.ret ?_
    refine PQ.then_ret ?_
    refine PQ.ret1 rfl rfl ?_
    intro w' hw; exact ⟨by rw [decide_eq_false (fun e => h10 (by rw [e]))], hw.below⟩
  · replace h10 := bF h10
    refine CW.skip ?_
    refine PQ.seq ?_
    refine CW.seq ?_
    refine CW.seq ?_
    refine CW.region ?_
    refine LW.v rfl rfl (Val.move rfl) ?_
    refine LW.v rfl rfl (Val.lenSl rfl Tryz.underlying46) ?_
    refine LW.v rfl rfl (Val.move rfl) ?_
    refine LW.nil ?_
    refine PQ.seq ?_
    refine CW.block ?_
    refine CW.loop (γ := Nat) (fun k => [(0, .slice p1 l1.length c1), (1, .slice p2 l2.length c2), (12, .int .i64 (l1.length : Nat)), (13, .int .i64 (k : Nat))]) (fun _ => []) (fun k => k ≤ l1.length ∧ l1.take k = l2.take k) (fun k => l1.length - k) (0) ⟨Nat.zero_le _, rfl⟩ (by repeat (first | exact trivial | refine ⟨rfl, ?_⟩)) (by repeat (first | exact .nil | apply Pick.cons | exact .here | apply Ext.there)) ?_
    intro k
    rintro ⟨hk1, hk2⟩
    refine CW.seq ?_
    refine CW.region ?_
    refine LW.v rfl rfl (Val.cmp rfl rfl rfl) ?_
    refine LW.nil ?_
    refine PQ.seq ?_
    refine CW.seq ?_
    refine CW.cond rfl (fun h14 => ?_) (fun h14 => ?_)
    · replace h14 := bT h14
      obtain ⟨b1, o1, x, rfl, hb1, hx1, hr1⟩ := V.slAt_at h1 rfl (k := k) (by omega)
      obtain ⟨b2, o2, y, rfl, hb2, hx2, hr2⟩ := V.slAt_at h2 rfl (k := k) (by omega)
      refine CW.skip ?_
      refine PQ.seq ?_
      refine CW.seq ?_
      refine CW.block ?_
      refine CW.seq ?_
      refine CW.region ?_
      refine LW.v rfl rfl (Val.move rfl) ?_
      refine LW.v rfl rfl (Val.assign rfl) ?_
      refine LW.nil ?_
      refine PQ.seq ?_
      refine CW.seq ?_
      refine CW.quiet mixed (by kernel_rfl) ?_
      refine QW.v rfl rfl (Val.move rfl) ?_
      refine QW.v rfl rfl (Val.move rfl) ?_
      first | (refine QW.v rfl rfl (Val.indexAddrN rfl rfl Tryz.underlying46 Tryz.sizeOf4 (by omega)) ?_) | (refine QW.v rfl rfl (Val.indexAddr rfl rfl Tryz.underlying46 Tryz.sizeOf4 (by omega) (by omega)) ?_)
      refine QW.v rfl rfl (Val.loadO rfl Tryz.isAgg4 hb1 (by simp [ids]) (hr1 k x hx1 0 _ rfl)) ?_
      refine QW.v rfl rfl (Val.move rfl) ?_
      refine QW.v rfl rfl (Val.move rfl) ?_
      first | (refine QW.v rfl rfl (Val.indexAddrN rfl rfl Tryz.underlying46 Tryz.sizeOf4 (by omega)) ?_) | (refine QW.v rfl rfl (Val.indexAddr rfl rfl Tryz.underlying46 Tryz.sizeOf4 (by omega) (by omega)) ?_)
      refine QW.v rfl rfl (Val.loadO rfl Tryz.isAgg4 hb2 (by simp [ids]) (hr2 k y hx2 0 _ rfl)) ?_
      refine QW.v rfl rfl (Val.neB rfl rfl Tryz.underlying4) ?_
      refine QW.re 24 (.bool (!decide (x = y))) rfl (by cases x <;> cases y <;> rfl) ?_
      refine QW.nil ?_
      refine PQ.seq ?_
      refine CW.cond rfl (fun h24 => ?_) (fun h24 => ?_)
      · replace h24 := bT h24
        have h24 : x ≠ y := by simpa using h24
        refine CW.seq ?_
        refine CW.region ?_
        refine LW.v rfl rfl (Val.assign rfl) ?_
        refine LW.nil ?_
        refine PQ.seq ?_
        refine CW.ret ?_
        refine PQ.in_ret ?_
        refine PQ.then_ret ?_
        refine PQ.then_ret ?_
        refine PQ.in_ret ?_
        refine PQ.then_ret ?_
        refine PQ.ret1 rfl rfl ?_
        intro w' hw; exact ⟨by rw [decide_eq_false (ne_at hx1 hx2 h24)], hw.below⟩
      · replace h24 := bF h24
        have h24 : x = y := by simpa using h24
        subst h24
        refine CW.skip ?_
        refine PQ.in_normal ?_
        refine PQ.seq ?_
        refine CW.region ?_
        refine LW.v rfl rfl (Val.ar rfl rfl rfl (IntWalk.i64_in _ (by omega))) ?_
        refine LW.v rfl rfl (Val.move rfl) ?_
        refine LW.nil ?_
        refine PQ.round (k + 1) ⟨by omega, take_step hk2 hx1 hx2⟩ (by omega) (by repeat (first | exact trivial | refine ⟨rfl, ?_⟩)) (by repeat (first | exact .nil | apply Pick.cons | exact .here | apply Ext.there))
    · replace h14 := bF h14
      refine CW.exit ?_
      refine PQ.then_exit ?_
      refine PQ.then_exit ?_
      refine PQ.in_here ?_
      refine PQ.seq ?_
      refine CW.seq ?_
      refine CW.region ?_
      refine LW.v rfl rfl (Val.assign rfl) ?_
      refine LW.nil ?_
      refine PQ.seq ?_
      refine CW.ret ?_
      refine PQ.ret1 rfl rfl ?_
      intro w' hw; exact ⟨by rw [decide_eq_true (take_end hk2 (by omega) (by omega))], hw.below⟩
theorem same_c (s1 s2 : Sf) (A B : ShA) (w : World) (hA : SfR w s1 A) (hB : SfR w s2 B) (hl : A.1.length ≤ 9223372036854775807 ∧ A.2.length ≤ 9223372036854775807) : Calls Tryz.prog 29 [.agg s1.cells.toArray, .agg s2.cells.toArray].toArray w fun e w' => e = .returned (.bool (decide (A = B))) ∧ Below w.heap.size w w' := by
  refine V.calls [] Tryz.func29 rfl Tryz.ntmps29 (Nat.le_of_ble_eq_true rfl) (V.sat_nil _) ?_
  refine CW.seq ?_
  refine CW.region ?_
  refine LW.e rfl rfl (Eff.boxA rfl) ?_
  intro b2 _
  refine LW.e rfl rfl (Eff.boxA rfl) ?_
  intro b3 _
  refine LW.v rfl rfl (Val.assign rfl) ?_
  refine LW.nil ?_
  refine PQ.seq ?_
  refine CW.seq ?_
  refine CW.region ?_
  refine LW.v rfl rfl (Val.fieldAddr 0 rfl Tryz.underlying34 rfl rfl Tryz.sizeOf31) ?_
  refine LW.v rfl rfl (Val.load rfl Tryz.isAgg31 (by repeat (first | exact .here | exact .inner .here | exact .inner (.inner .here) | refine .there ?_)) (by rfl)) ?_
  refine LW.v rfl rfl (Val.fieldAddr 0 rfl Tryz.underlying34 rfl rfl Tryz.sizeOf31) ?_
  refine LW.v rfl rfl (Val.load rfl Tryz.isAgg31 (by repeat (first | exact .here | exact .inner .here | exact .inner (.inner .here) | refine .there ?_)) (by rfl)) ?_
  refine LW.e rfl rfl (Eff.callV rfl Tryz.call63 (fun w hw => eqP_c A.1 B.1 _ _ _ _ _ _ hA.1.1 hB.1.1 hl.1 w (hw.slAt hA.1.2 (by simp [ids])) (hw.slAt hB.1.2 (by simp [ids])))) ?_
  intro _ _
  refine LW.v rfl rfl (Val.move rfl) ?_
  refine LW.split (d := 10) rfl (fun h10 => ?_) (fun h10 => ?_)
  · replace h10 := bT h10
    refine LW.v rfl rfl (Val.fieldAddr 1 rfl Tryz.underlying34 rfl rfl Tryz.sizeOf32) ?_
    refine LW.v rfl rfl (Val.load rfl Tryz.isAgg32 (by repeat (first | exact .here | exact .inner .here | exact .inner (.inner .here) | refine .there ?_)) (by rfl)) ?_
    refine LW.v rfl rfl (Val.fieldAddr 1 rfl Tryz.underlying34 rfl rfl Tryz.sizeOf32) ?_
    refine LW.v rfl rfl (Val.load rfl Tryz.isAgg32 (by repeat (first | exact .here | exact .inner .here | exact .inner (.inner .here) | refine .there ?_)) (by rfl)) ?_
    refine LW.e rfl rfl (Eff.callV rfl Tryz.call64 (fun w hw => eqS_c A.2 B.2 _ _ _ _ _ _ hA.2.1.1 hB.2.1.1 hl.2 w (hw.slAt hA.2.1.2 (by simp [ids])) (hw.slAt hB.2.1.2 (by simp [ids])))) ?_
    intro _ _
    refine LW.v rfl rfl (Val.pick_t rfl rfl) ?_
    refine LW.v rfl rfl (Val.assign rfl) ?_
    refine LW.nil ?_
    refine PQ.seq ?_
    refine CW.ret ?_
    refine PQ.ret1 rfl rfl ?_
    intro w' hw; exact ⟨by congr 2; obtain ⟨a, c⟩ := A; obtain ⟨d, e⟩ := B; simp_all, hw.below⟩
  · replace h10 := bF h10
    refine LW.p rfl rfl ?_
    refine LW.p rfl rfl ?_
    refine LW.p rfl rfl ?_
    refine LW.p rfl rfl ?_
    refine LW.p rfl rfl ?_
    refine LW.v rfl rfl (Val.pick_f rfl rfl) ?_
    refine LW.v rfl rfl (Val.assign rfl) ?_
    refine LW.nil ?_
    refine PQ.seq ?_
    refine CW.ret ?_
    refine PQ.ret1 rfl rfl ?_
    intro w' hw; exact ⟨by congr 2; obtain ⟨a, c⟩ := A; obtain ⟨d, e⟩ := B; simp_all, hw.below⟩
theorem rsame_c (s1 s2 : Sf) (A B : ShA) (w : World) (hA : SfR w s1 A) (hB : SfR w s2 B) (hl : A.1.length ≤ 9223372036854775807 ∧ A.2.length ≤ 9223372036854775807) : Calls Tryz.prog 30 [.agg s1.cells.toArray, .agg s2.cells.toArray].toArray w fun e w' => e = .returned (.bool (decide (A = B))) ∧ Below w.heap.size w w' := by
  obtain ⟨⟨p1, n1, c1⟩, ⟨q1, m1, d1⟩⟩ := s1
  obtain ⟨⟨p2, n2, c2⟩, ⟨q2, m2, d2⟩⟩ := s2
  obtain ⟨l1, r1⟩ := A
  obtain ⟨l2, r2⟩ := B
  obtain ⟨⟨e1, h1⟩, ⟨e2, g1⟩, _, _⟩ := hA
  obtain ⟨⟨e3, h2⟩, ⟨e4, g2⟩, _, _⟩ := hB
  simp only at e1 h1 e2 g1 e3 h2 e4 g2 hl
  subst e1; subst e2; subst e3; subst e4
  refine V.calls [] Tryz.func30 rfl Tryz.ntmps30 (Nat.le_of_ble_eq_true rfl) (V.sat_nil _) ?_
  refine CW.seq ?_
  refine CW.region ?_
  refine LW.e rfl rfl (Eff.boxA rfl) ?_
  intro b2 _
  refine LW.e rfl rfl (Eff.boxA rfl) ?_
  intro b3 _
  refine LW.v rfl rfl (Val.assign rfl) ?_
  refine LW.nil ?_
  refine PQ.seq ?_
  refine CW.seq ?_
  refine CW.seq ?_
  refine CW.region ?_
  refine LW.v rfl rfl (Val.fieldAddr 0 rfl Tryz.underlying34 rfl rfl Tryz.sizeOf31) ?_
  refine LW.v rfl rfl (Val.load rfl Tryz.isAgg31 (by repeat (first | exact .here | exact .inner .here | exact .inner (.inner .here) | refine .there ?_)) (by rfl)) ?_
  refine LW.v rfl rfl (Val.lenSl rfl Tryz.underlying31) ?_
  refine LW.v rfl rfl (Val.fieldAddr 0 rfl Tryz.underlying34 rfl rfl Tryz.sizeOf31) ?_
  refine LW.v rfl rfl (Val.load rfl Tryz.isAgg31 (by repeat (first | exact .here | exact .inner .here | exact .inner (.inner .here) | refine .there ?_)) (by rfl)) ?_
  refine LW.v rfl rfl (Val.lenSl rfl Tryz.underlying31) ?_
  refine LW.v rfl rfl (Val.cmp rfl rfl rfl) ?_
  refine LW.v rfl rfl (Val.move rfl) ?_
  refine LW.split (d := 14) rfl (fun h14 => ?_) (fun h14 => ?_)
  · replace h14 := bT h14
    have h14 : (l1.length : Int) ≠ l2.length := by simpa using h14
    refine LW.p rfl rfl ?_
    refine LW.p rfl rfl ?_
    refine LW.p rfl rfl ?_
    refine LW.p rfl rfl ?_
    refine LW.p rfl rfl ?_
    refine LW.p rfl rfl ?_
    refine LW.p rfl rfl ?_
    refine LW.v rfl rfl (Val.pick_t rfl rfl) ?_
    refine LW.nil ?_
    refine PQ.seq ?_
    refine CW.cond_t rfl ?_
    refine CW.seq ?_
    refine CW.region ?_
    refine LW.v rfl rfl (Val.assign rfl) ?_
    refine LW.nil ?_
    refine PQ.seq ?_
    refine CW.ret ?_
    refine PQ.then_ret ?_
    refine PQ.ret1 rfl rfl ?_
    intro w' hw; exact ⟨by rw [decide_eq_false (fun e => by cases e; simp_all)], hw.below⟩
  · replace h14 := bF h14
    have h14 : (l1.length : Int) = l2.length := by simpa using h14
    refine LW.v rfl rfl (Val.fieldAddr 1 rfl Tryz.underlying34 rfl rfl Tryz.sizeOf32) ?_
    refine LW.v rfl rfl (Val.load rfl Tryz.isAgg32 (by repeat (first | exact .here | exact .inner .here | exact .inner (.inner .here) | refine .there ?_)) (by rfl)) ?_
    refine LW.v rfl rfl (Val.lenSl rfl Tryz.underlying32) ?_
    refine LW.v rfl rfl (Val.fieldAddr 1 rfl Tryz.underlying34 rfl rfl Tryz.sizeOf32) ?_
    refine LW.v rfl rfl (Val.load rfl Tryz.isAgg32 (by repeat (first | exact .here | exact .inner .here | exact .inner (.inner .here) | refine .there ?_)) (by rfl)) ?_
    refine LW.v rfl rfl (Val.lenSl rfl Tryz.underlying32) ?_
    refine LW.v rfl rfl (Val.cmp rfl rfl rfl) ?_
    refine LW.v rfl rfl (Val.pick_f rfl rfl) ?_
    refine LW.nil ?_
    refine PQ.seq ?_
    refine CW.cond rfl (fun h22 => ?_) (fun h22 => ?_)
    · replace h22 := bT h22
      have h22 : (r1.length : Int) ≠ r2.length := by simpa using h22
      refine CW.seq ?_
      refine CW.region ?_
      refine LW.v rfl rfl (Val.assign rfl) ?_
      refine LW.nil ?_
      refine PQ.seq ?_
      refine CW.ret ?_
      refine PQ.then_ret ?_
      refine PQ.ret1 rfl rfl ?_
      intro w' hw; exact ⟨by rw [decide_eq_false (fun e => by cases e; simp_all)], hw.below⟩
    · replace h22 := bF h22
      have h22 : (r1.length : Int) = r2.length := by simpa using h22
      refine CW.skip ?_
      refine PQ.seq ?_
      refine CW.seq ?_
      refine CW.seq ?_
      refine CW.region ?_
      refine LW.v rfl rfl (Val.assign rfl) ?_
      refine LW.nil ?_
      refine PQ.seq ?_
      refine CW.block ?_
      refine CW.loop (γ := Nat) (fun k => [(2, .pointer (some ⟨b2, 0, none⟩)), (3, .pointer (some ⟨b3, 0, none⟩)), (5, .int .i64 (k : Nat))]) (fun _ => [[(b2, .cells [.slice p1 l1.length c1, .slice q1 r1.length d1].toArray 34 (0, 0))], [(b3, .cells [.slice p2 l2.length c2, .slice q2 r2.length d2].toArray 34 (0, 0))]]) (fun k => k ≤ l1.length ∧ l1.take k = l2.take k) (fun k => l1.length - k) (0) ⟨Nat.zero_le _, rfl⟩ (by repeat (first | exact trivial | refine ⟨rfl, ?_⟩)) (by repeat (first | exact .nil | apply Pick.cons | exact .here | apply Ext.there)) ?_
      intro k
      rintro ⟨hk1, hk2⟩
      refine CW.seq ?_
      refine CW.seq ?_
      refine CW.region ?_
      refine LW.v rfl rfl (Val.move rfl) ?_
      refine LW.v rfl rfl (Val.fieldAddr 0 rfl Tryz.underlying34 rfl rfl Tryz.sizeOf31) ?_
      refine LW.v rfl rfl (Val.load rfl Tryz.isAgg31 (by repeat (first | exact .here | exact .inner .here | exact .inner (.inner .here) | refine .there ?_)) (by rfl)) ?_
      refine LW.v rfl rfl (Val.lenSl rfl Tryz.underlying31) ?_
      refine LW.v rfl rfl (Val.cmp rfl rfl rfl) ?_
      refine LW.nil ?_
      refine PQ.seq ?_
      refine CW.cond rfl (fun h27 => ?_) (fun h27 => ?_)
      · replace h27 := bT h27
        have hk9 : k < l1.length := by omega
        obtain ⟨bb1, o1, x, hpp1, hb1, hx1, hr1⟩ := V.slAt_at h1 rfl (k := k) hk9
        obtain ⟨bb2, o2, y, hpp2, hb2, hx2, hr2⟩ := V.slAt_at h2 rfl (k := k) (by omega)
        refine CW.skip ?_
        refine PQ.seq ?_
        refine CW.seq ?_
        refine CW.block ?_
        refine CW.seq ?_
        refine CW.quiet mixed (by kernel_rfl) ?_
        refine QW.v rfl rfl (Val.fieldAddr 0 rfl Tryz.underlying34 rfl rfl Tryz.sizeOf31) ?_
        refine QW.v rfl rfl (Val.load rfl Tryz.isAgg31 (by repeat (first | exact .here | exact .inner .here | exact .inner (.inner .here) | refine .there ?_)) (by rfl)) ?_
        refine V.QW.re 31 (.slice (some ⟨bb1, o1, none⟩) l1.length c1) rfl (by rw [hpp1]) ?_
        refine QW.v rfl rfl (Val.move rfl) ?_
        first | (refine QW.v rfl rfl (Val.indexAddrN rfl rfl Tryz.underlying31 Tryz.sizeOf69 (by omega)) ?_) | (refine QW.v rfl rfl (Val.indexAddr rfl rfl Tryz.underlying31 Tryz.sizeOf69 (by omega) (by omega)) ?_)
        refine QW.v rfl rfl (Val.loadOA rfl Tryz.isAgg69 hb1 (by simp [ids]) (hr1 k x hx1) Tryz.sizeOf69) ?_
        refine QW.v rfl rfl (Val.fieldAddr 0 rfl Tryz.underlying34 rfl rfl Tryz.sizeOf31) ?_
        refine QW.v rfl rfl (Val.load rfl Tryz.isAgg31 (by repeat (first | exact .here | exact .inner .here | exact .inner (.inner .here) | refine .there ?_)) (by rfl)) ?_
        refine V.QW.re 36 (.slice (some ⟨bb2, o2, none⟩) l2.length c2) rfl (by rw [hpp2]) ?_
        refine QW.v rfl rfl (Val.move rfl) ?_
        first | (refine QW.v rfl rfl (Val.indexAddrN rfl rfl Tryz.underlying31 Tryz.sizeOf69 (by omega)) ?_) | (refine QW.v rfl rfl (Val.indexAddr rfl rfl Tryz.underlying31 Tryz.sizeOf69 (by omega) (by omega)) ?_)
        refine QW.v rfl rfl (Val.loadOA rfl Tryz.isAgg69 hb2 (by simp [ids]) (hr2 k y hx2) Tryz.sizeOf69) ?_
        refine QW.v rfl rfl (Val.neA rfl rfl (by kernel_rfl) Tryz.underlying69 (by kernel_rfl) (by exact (.str rfl rfl Tryz.isAgg9 Tryz.underlying9 (.str rfl rfl Tryz.isAgg9 Tryz.underlying9 .nil)))) ?_
        refine QW.re 40 (.bool (!decide (x = y))) rfl (by rw [← pr_ne]) ?_
        refine QW.nil ?_
        refine PQ.seq ?_
        refine CW.cond rfl (fun h40 => ?_) (fun h40 => ?_)
        · replace h40 := bT h40
          have h40 : x ≠ y := by simpa using h40
          refine CW.seq ?_
          refine CW.region ?_
          refine LW.v rfl rfl (Val.assign rfl) ?_
          refine LW.nil ?_
          refine PQ.seq ?_
          refine CW.ret ?_
          refine PQ.in_ret ?_
          refine PQ.then_ret ?_
          refine PQ.then_ret ?_
          refine PQ.in_ret ?_
          refine PQ.then_ret ?_
          refine PQ.ret1 rfl rfl ?_
          intro w' hw; exact ⟨by rw [decide_eq_false (fun e => by cases e; exact ne_at hx1 hx2 h40 rfl)], hw.below⟩
        · replace h40 := bF h40
          have h40 : x = y := by simpa using h40
          subst h40
          refine CW.skip ?_
          refine PQ.in_normal ?_
          refine PQ.seq ?_
          refine CW.region ?_
          refine LW.v rfl rfl (Val.move rfl) ?_
          refine LW.v rfl rfl (Val.ar rfl rfl rfl (IntWalk.i64_in _ (by omega))) ?_
          refine LW.v rfl rfl (Val.assign rfl) ?_
          refine LW.nil ?_
          refine PQ.round (k + 1) ⟨by omega, take_step hk2 hx1 hx2⟩ (by omega) (by repeat (first | exact trivial | refine ⟨rfl, ?_⟩)) (by repeat (first | exact .nil | apply Pick.cons | exact .here | apply Ext.there))
      · replace h27 := bF h27
        have hk9 : l1.length ≤ k := by omega
        refine CW.exit ?_
        refine PQ.then_exit ?_
        refine PQ.then_exit ?_
        refine PQ.in_here ?_
        refine PQ.seq ?_
        refine CW.seq ?_
        refine CW.seq ?_
        refine CW.region ?_
        refine LW.v rfl rfl (Val.assign rfl) ?_
        refine LW.nil ?_
        refine PQ.seq ?_
        refine CW.block ?_
        refine CW.loop (γ := Nat) (fun k => [(2, .pointer (some ⟨b2, 0, none⟩)), (3, .pointer (some ⟨b3, 0, none⟩)), (6, .int .i64 (k : Nat))]) (fun _ => [[(b2, .cells [.slice p1 l1.length c1, .slice q1 r1.length d1].toArray 34 (0, 0))], [(b3, .cells [.slice p2 l2.length c2, .slice q2 r2.length d2].toArray 34 (0, 0))]]) (fun k => k ≤ r1.length ∧ r1.take k = r2.take k) (fun k => r1.length - k) (0) ⟨Nat.zero_le _, rfl⟩ (by repeat (first | exact trivial | refine ⟨rfl, ?_⟩)) (by repeat (first | exact .nil | apply Pick.cons | exact .here | apply Ext.there)) ?_
        intro k
        rintro ⟨hj1, hj2⟩
        refine CW.seq ?_
        refine CW.seq ?_
        refine CW.region ?_
        refine LW.v rfl rfl (Val.move rfl) ?_
        refine LW.v rfl rfl (Val.fieldAddr 1 rfl Tryz.underlying34 rfl rfl Tryz.sizeOf32) ?_
        refine LW.v rfl rfl (Val.load rfl Tryz.isAgg32 (by repeat (first | exact .here | exact .inner .here | exact .inner (.inner .here) | refine .there ?_)) (by rfl)) ?_
        refine LW.v rfl rfl (Val.lenSl rfl Tryz.underlying32) ?_
        refine LW.v rfl rfl (Val.cmp rfl rfl rfl) ?_
        refine LW.nil ?_
        refine PQ.seq ?_
        refine CW.cond rfl (fun h45 => ?_) (fun h45 => ?_)
        · replace h45 := bT h45
          have hj9 : k < r1.length := by omega
          obtain ⟨bd1, u1, x, hpp1, hd1, hy1, hs1⟩ := V.slAt_at g1 rfl (k := k) hj9
          obtain ⟨bd2, u2, y, hpp2, hd2, hy2, hs2⟩ := V.slAt_at g2 rfl (k := k) (by omega)
          refine CW.skip ?_
          refine PQ.seq ?_
          refine CW.seq ?_
          refine CW.block ?_
          refine CW.seq ?_
          refine CW.quiet mixed (by kernel_rfl) ?_
          refine QW.v rfl rfl (Val.fieldAddr 1 rfl Tryz.underlying34 rfl rfl Tryz.sizeOf32) ?_
          refine QW.v rfl rfl (Val.load rfl Tryz.isAgg32 (by repeat (first | exact .here | exact .inner .here | exact .inner (.inner .here) | refine .there ?_)) (by rfl)) ?_
          refine V.QW.re 49 (.slice (some ⟨bd1, u1, none⟩) r1.length d1) rfl (by rw [hpp1]) ?_
          refine QW.v rfl rfl (Val.move rfl) ?_
          first | (refine QW.v rfl rfl (Val.indexAddrN rfl rfl Tryz.underlying32 Tryz.sizeOf9 (by omega)) ?_) | (refine QW.v rfl rfl (Val.indexAddr rfl rfl Tryz.underlying32 Tryz.sizeOf9 (by omega) (by omega)) ?_)
          refine QW.v rfl rfl (Val.loadO rfl Tryz.isAgg9 hd1 (by simp [ids]) (hs1 k x hy1 0 _ rfl)) ?_
          refine QW.v rfl rfl (Val.fieldAddr 1 rfl Tryz.underlying34 rfl rfl Tryz.sizeOf32) ?_
          refine QW.v rfl rfl (Val.load rfl Tryz.isAgg32 (by repeat (first | exact .here | exact .inner .here | exact .inner (.inner .here) | refine .there ?_)) (by rfl)) ?_
          refine V.QW.re 54 (.slice (some ⟨bd2, u2, none⟩) r2.length d2) rfl (by rw [hpp2]) ?_
          refine QW.v rfl rfl (Val.move rfl) ?_
          first | (refine QW.v rfl rfl (Val.indexAddrN rfl rfl Tryz.underlying32 Tryz.sizeOf9 (by omega)) ?_) | (refine QW.v rfl rfl (Val.indexAddr rfl rfl Tryz.underlying32 Tryz.sizeOf9 (by omega) (by omega)) ?_)
          refine QW.v rfl rfl (Val.loadO rfl Tryz.isAgg9 hd2 (by simp [ids]) (hs2 k y hy2 0 _ rfl)) ?_
          refine QW.v rfl rfl (Val.neStr rfl rfl) ?_
          refine QW.nil ?_
          refine PQ.seq ?_
          refine CW.cond rfl (fun h58 => ?_) (fun h58 => ?_)
          · replace h58 := bT h58
            have h58 : x ≠ y := by simpa using h58
            refine CW.seq ?_
            refine CW.region ?_
            refine LW.v rfl rfl (Val.assign rfl) ?_
            refine LW.nil ?_
            refine PQ.seq ?_
            refine CW.ret ?_
            refine PQ.in_ret ?_
            refine PQ.then_ret ?_
            refine PQ.then_ret ?_
            refine PQ.in_ret ?_
            refine PQ.then_ret ?_
            refine PQ.ret1 rfl rfl ?_
            intro w' hw; exact ⟨by rw [decide_eq_false (fun e => by cases e; exact ne_at hy1 hy2 h58 rfl)], hw.below⟩
          · replace h58 := bF h58
            have h58 : x = y := by simpa using h58
            subst h58
            refine CW.skip ?_
            refine PQ.in_normal ?_
            refine PQ.seq ?_
            refine CW.region ?_
            refine LW.v rfl rfl (Val.move rfl) ?_
            refine LW.v rfl rfl (Val.ar rfl rfl rfl (IntWalk.i64_in _ (by omega))) ?_
            refine LW.v rfl rfl (Val.assign rfl) ?_
            refine LW.nil ?_
            refine PQ.round (k + 1) ⟨by omega, take_step hj2 hy1 hy2⟩ (by omega) (by repeat (first | exact trivial | refine ⟨rfl, ?_⟩)) (by repeat (first | exact .nil | apply Pick.cons | exact .here | apply Ext.there))
        · replace h45 := bF h45
          have hj9 : r1.length ≤ k := by omega
          refine CW.exit ?_
          refine PQ.then_exit ?_
          refine PQ.then_exit ?_
          refine PQ.in_here ?_
          refine PQ.seq ?_
          refine CW.seq ?_
          refine CW.region ?_
          refine LW.v rfl rfl (Val.assign rfl) ?_
          refine LW.nil ?_
          refine PQ.seq ?_
          refine CW.ret ?_
          refine PQ.ret1 rfl rfl ?_
          intro w' hw; exact ⟨by rw [decide_eq_true (by rw [take_end hk2 (by omega) (by omega), take_end hj2 (by omega) (by omega)])], hw.below⟩
theorem ansq_c (a b : RB) (w : World) (ha : RaR w a) (hb : RaR w b) : Calls Tryz.prog 34 [.agg (raC a.1).toArray, .agg (raC b.1).toArray].toArray w fun e w' => e = .returned (.bool (ansEq a b)) ∧ Below w.heap.size w w' := by
  refine V.calls [] Tryz.func34 rfl Tryz.ntmps34 (Nat.le_of_ble_eq_true rfl) (V.sat_nil _) ?_
  refine CW.seq ?_
  refine CW.region ?_
  refine LW.e rfl rfl (Eff.boxA rfl) ?_
  intro b2 _
  refine LW.e rfl rfl (Eff.boxA rfl) ?_
  intro b3 _
  refine LW.v rfl rfl (Val.assign rfl) ?_
  refine LW.nil ?_
  refine PQ.seq ?_
  refine CW.seq ?_
  refine CW.region ?_
  refine LW.v rfl rfl (Val.fieldAddr 0 rfl Tryz.underlying48 rfl rfl Tryz.sizeOf45) ?_
  refine LW.v rfl rfl (Val.load rfl Tryz.isAgg45 (by repeat (first | exact .here | exact .inner .here | exact .inner (.inner .here) | refine .there ?_)) (by rfl)) ?_
  refine LW.v rfl rfl (Val.fieldAddr 0 rfl Tryz.underlying48 rfl rfl Tryz.sizeOf45) ?_
  refine LW.v rfl rfl (Val.load rfl Tryz.isAgg45 (by repeat (first | exact .here | exact .inner .here | exact .inner (.inner .here) | refine .there ?_)) (by rfl)) ?_
  refine LW.v rfl rfl (Val.cmp rfl rfl rfl) ?_
  refine LW.v rfl rfl (Val.move rfl) ?_
  refine LW.split (d := 10) rfl (fun h10 => ?_) (fun h10 => ?_)
  · replace h10 := bT h10
    have h10 : a.1.code = b.1.code := by simpa using h10
    refine LW.v rfl rfl (Val.fieldAddr 1 rfl Tryz.underlying48 rfl rfl Tryz.sizeOf4) ?_
    refine LW.v rfl rfl (Val.load rfl Tryz.isAgg4 (by repeat (first | exact .here | exact .inner .here | exact .inner (.inner .here) | refine .there ?_)) (by rfl)) ?_
    refine LW.v rfl rfl (Val.fieldAddr 1 rfl Tryz.underlying48 rfl rfl Tryz.sizeOf4) ?_
    refine LW.v rfl rfl (Val.load rfl Tryz.isAgg4 (by repeat (first | exact .here | exact .inner .here | exact .inner (.inner .here) | refine .there ?_)) (by rfl)) ?_
    refine LW.v rfl rfl (Val.eqB rfl rfl Tryz.underlying4) ?_
    refine LW.v rfl rfl (Val.pick_t rfl rfl) ?_
    refine LW.v rfl rfl (Val.move rfl) ?_
    refine LW.split (d := 17) rfl (fun h17 => ?_) (fun h17 => ?_)
    · replace h17 := bT h17
      have h17 : a.1.fd = b.1.fd := by simpa using h17
      refine LW.v rfl rfl (Val.fieldAddr 2 rfl Tryz.underlying48 rfl rfl Tryz.sizeOf9) ?_
      refine LW.v rfl rfl (Val.load rfl Tryz.isAgg9 (by repeat (first | exact .here | exact .inner .here | exact .inner (.inner .here) | refine .there ?_)) (by rfl)) ?_
      refine LW.v rfl rfl (Val.fieldAddr 2 rfl Tryz.underlying48 rfl rfl Tryz.sizeOf9) ?_
      refine LW.v rfl rfl (Val.load rfl Tryz.isAgg9 (by repeat (first | exact .here | exact .inner .here | exact .inner (.inner .here) | refine .there ?_)) (by rfl)) ?_
      refine LW.v rfl rfl (Val.eqStr rfl rfl) ?_
      refine LW.v rfl rfl (Val.pick_t rfl rfl) ?_
      refine LW.v rfl rfl (Val.move rfl) ?_
      refine LW.split (d := 24) rfl (fun h24 => ?_) (fun h24 => ?_)
      · replace h24 := bT h24
        have h24 : a.1.vl = b.1.vl := by simpa using h24
        refine LW.v rfl rfl (Val.fieldAddr 4 rfl Tryz.underlying48 rfl rfl Tryz.sizeOf46) ?_
        refine LW.v rfl rfl (Val.load rfl Tryz.isAgg46 (by repeat (first | exact .here | exact .inner .here | exact .inner (.inner .here) | refine .there ?_)) (by rfl)) ?_
        refine LW.v rfl rfl (Val.fieldAddr 4 rfl Tryz.underlying48 rfl rfl Tryz.sizeOf46) ?_
        refine LW.v rfl rfl (Val.load rfl Tryz.isAgg46 (by repeat (first | exact .here | exact .inner .here | exact .inner (.inner .here) | refine .there ?_)) (by rfl)) ?_
        refine LW.e rfl rfl (Eff.callV rfl Tryz.call35 (fun w hw => eqB_c a.2 b.2 _ _ _ _ _ _ ha.1.1 hb.1.1 ha.2 w (hw.slAt ha.1.2 (by simp [ids])) (hw.slAt hb.1.2 (by simp [ids])))) ?_
        intro _ _
        refine LW.v rfl rfl (Val.pick_t rfl rfl) ?_
        refine LW.v rfl rfl (Val.assign rfl) ?_
        refine LW.nil ?_
        refine PQ.seq ?_
        refine CW.ret ?_
        refine PQ.ret1 rfl rfl ?_
        intro w' hw; exact ⟨by unfold ansEq; simp_all, hw.below⟩
      · replace h24 := bF h24
        have h24 : a.1.vl ≠ b.1.vl := by simpa using h24
        refine LW.p rfl rfl ?_
        refine LW.p rfl rfl ?_
        refine LW.p rfl rfl ?_
        refine LW.p rfl rfl ?_
        refine LW.p rfl rfl ?_
        refine LW.v rfl rfl (Val.pick_f rfl rfl) ?_
        refine LW.v rfl rfl (Val.assign rfl) ?_
        refine LW.nil ?_
        refine PQ.seq ?_
        refine CW.ret ?_
        refine PQ.ret1 rfl rfl ?_
        intro w' hw; exact ⟨by unfold ansEq; simp_all, hw.below⟩
    · replace h17 := bF h17
      have h17 : a.1.fd ≠ b.1.fd := by simpa using h17
      refine LW.p rfl rfl ?_
      refine LW.p rfl rfl ?_
      refine LW.p rfl rfl ?_
      refine LW.p rfl rfl ?_
      refine LW.p rfl rfl ?_
      refine LW.v rfl rfl (Val.pick_f rfl rfl) ?_
      refine LW.v rfl rfl (Val.move rfl) ?_
      refine LW.p rfl rfl ?_
      refine LW.p rfl rfl ?_
      refine LW.p rfl rfl ?_
      refine LW.p rfl rfl ?_
      refine LW.p rfl rfl ?_
      refine LW.v rfl rfl (Val.pick_f rfl rfl) ?_
      refine LW.v rfl rfl (Val.assign rfl) ?_
      refine LW.nil ?_
      refine PQ.seq ?_
      refine CW.ret ?_
      refine PQ.ret1 rfl rfl ?_
      intro w' hw; exact ⟨by unfold ansEq; simp_all, hw.below⟩
  · replace h10 := bF h10
    have h10 : a.1.code ≠ b.1.code := by simpa using h10
    refine LW.p rfl rfl ?_
    refine LW.p rfl rfl ?_
    refine LW.p rfl rfl ?_
    refine LW.p rfl rfl ?_
    refine LW.p rfl rfl ?_
    refine LW.v rfl rfl (Val.pick_f rfl rfl) ?_
    refine LW.v rfl rfl (Val.move rfl) ?_
    refine LW.p rfl rfl ?_
    refine LW.p rfl rfl ?_
    refine LW.p rfl rfl ?_
    refine LW.p rfl rfl ?_
    refine LW.p rfl rfl ?_
    refine LW.v rfl rfl (Val.pick_f rfl rfl) ?_
    refine LW.v rfl rfl (Val.move rfl) ?_
    refine LW.p rfl rfl ?_
    refine LW.p rfl rfl ?_
    refine LW.p rfl rfl ?_
    refine LW.p rfl rfl ?_
    refine LW.p rfl rfl ?_
    refine LW.v rfl rfl (Val.pick_f rfl rfl) ?_
    refine LW.v rfl rfl (Val.assign rfl) ?_
    refine LW.nil ?_
    refine PQ.seq ?_
    refine CW.ret ?_
    refine PQ.ret1 rfl rfl ?_
    intro w' hw; exact ⟨by unfold ansEq; simp_all, hw.below⟩
theorem ransw_c (a b : RB) (w : World) (ha : RaR w a) (hb : RaR w b) : Calls Tryz.prog 36 [.agg (raC a.1).toArray, .agg (raC b.1).toArray].toArray w fun e w' => e = .returned (.bool (ansEq a b)) ∧ Below w.heap.size w w' := by
  obtain ⟨⟨en1, hs1⟩, hm1⟩ := ha
  obtain ⟨⟨en2, hs2⟩, hm2⟩ := hb
  refine V.calls [] Tryz.func36 rfl Tryz.ntmps36 (Nat.le_of_ble_eq_true rfl) (V.sat_nil _) ?_
  refine CW.seq ?_
  refine CW.region ?_
  refine LW.e rfl rfl (Eff.boxA rfl) ?_
  intro b2 _
  refine LW.e rfl rfl (Eff.boxA rfl) ?_
  intro b3 _
  refine LW.v rfl rfl (Val.assign rfl) ?_
  refine LW.nil ?_
  refine PQ.seq ?_
  refine CW.seq ?_
  refine CW.seq ?_
  refine CW.region ?_
  refine LW.v rfl rfl (Val.fieldAddr 0 rfl Tryz.underlying48 rfl rfl Tryz.sizeOf45) ?_
  refine LW.v rfl rfl (Val.load rfl Tryz.isAgg45 (by repeat (first | exact .here | exact .inner .here | exact .inner (.inner .here) | refine .there ?_)) (by rfl)) ?_
  refine LW.v rfl rfl (Val.fieldAddr 0 rfl Tryz.underlying48 rfl rfl Tryz.sizeOf45) ?_
  refine LW.v rfl rfl (Val.load rfl Tryz.isAgg45 (by repeat (first | exact .here | exact .inner .here | exact .inner (.inner .here) | refine .there ?_)) (by rfl)) ?_
  refine LW.v rfl rfl (Val.cmp rfl rfl rfl) ?_
  refine LW.v rfl rfl (Val.move rfl) ?_
  refine LW.split (d := 11) rfl (fun h11 => ?_) (fun h11 => ?_)
  · replace h11 := bT h11
    have h11 : a.1.code ≠ b.1.code := by simpa using h11
    refine LW.p rfl rfl ?_
    refine LW.p rfl rfl ?_
    refine LW.p rfl rfl ?_
    refine LW.p rfl rfl ?_
    refine LW.p rfl rfl ?_
    refine LW.v rfl rfl (Val.pick_t rfl rfl) ?_
    refine LW.v rfl rfl (Val.move rfl) ?_
    refine LW.p rfl rfl ?_
    refine LW.p rfl rfl ?_
    refine LW.p rfl rfl ?_
    refine LW.p rfl rfl ?_
    refine LW.p rfl rfl ?_
    refine LW.v rfl rfl (Val.pick_t rfl rfl) ?_
    refine LW.v rfl rfl (Val.move rfl) ?_
    refine LW.p rfl rfl ?_
    refine LW.p rfl rfl ?_
    refine LW.p rfl rfl ?_
    refine LW.p rfl rfl ?_
    refine LW.p rfl rfl ?_
    refine LW.p rfl rfl ?_
    refine LW.p rfl rfl ?_
    refine LW.v rfl rfl (Val.pick_t rfl rfl) ?_
    refine LW.nil ?_
    refine PQ.seq ?_
    refine CW.cond_t rfl ?_
    refine CW.seq ?_
    refine CW.region ?_
    refine LW.v rfl rfl (Val.assign rfl) ?_
    refine LW.nil ?_
    refine PQ.seq ?_
    refine CW.ret ?_
    refine PQ.then_ret ?_
    refine PQ.ret1 rfl rfl ?_
    intro w' hw; exact ⟨by unfold ansEq; simp_all, hw.below⟩
  · replace h11 := bF h11
    have h11 : a.1.code = b.1.code := by simpa using h11
    refine LW.v rfl rfl (Val.fieldAddr 1 rfl Tryz.underlying48 rfl rfl Tryz.sizeOf4) ?_
    refine LW.v rfl rfl (Val.load rfl Tryz.isAgg4 (by repeat (first | exact .here | exact .inner .here | exact .inner (.inner .here) | refine .there ?_)) (by rfl)) ?_
    refine LW.v rfl rfl (Val.fieldAddr 1 rfl Tryz.underlying48 rfl rfl Tryz.sizeOf4) ?_
    refine LW.v rfl rfl (Val.load rfl Tryz.isAgg4 (by repeat (first | exact .here | exact .inner .here | exact .inner (.inner .here) | refine .there ?_)) (by rfl)) ?_
    refine LW.v rfl rfl (Val.neB rfl rfl Tryz.underlying4) ?_
    refine LW.v rfl rfl (Val.pick_f rfl rfl) ?_
    refine LW.v rfl rfl (Val.move rfl) ?_
    refine LW.split (d := 18) rfl (fun h18 => ?_) (fun h18 => ?_)
    · replace h18 := bT h18
      have h18 : a.1.fd ≠ b.1.fd := by simpa using h18
      refine LW.p rfl rfl ?_
      refine LW.p rfl rfl ?_
      refine LW.p rfl rfl ?_
      refine LW.p rfl rfl ?_
      refine LW.p rfl rfl ?_
      refine LW.v rfl rfl (Val.pick_t rfl rfl) ?_
      refine LW.v rfl rfl (Val.move rfl) ?_
      refine LW.p rfl rfl ?_
      refine LW.p rfl rfl ?_
      refine LW.p rfl rfl ?_
      refine LW.p rfl rfl ?_
      refine LW.p rfl rfl ?_
      refine LW.p rfl rfl ?_
      refine LW.p rfl rfl ?_
      refine LW.v rfl rfl (Val.pick_t rfl rfl) ?_
      refine LW.nil ?_
      refine PQ.seq ?_
      refine CW.cond_t rfl ?_
      refine CW.seq ?_
      refine CW.region ?_
      refine LW.v rfl rfl (Val.assign rfl) ?_
      refine LW.nil ?_
      refine PQ.seq ?_
      refine CW.ret ?_
      refine PQ.then_ret ?_
      refine PQ.ret1 rfl rfl ?_
      intro w' hw; exact ⟨by unfold ansEq; simp_all, hw.below⟩
    · replace h18 := bF h18
      have h18 : a.1.fd = b.1.fd := by simpa using h18
      refine LW.v rfl rfl (Val.fieldAddr 2 rfl Tryz.underlying48 rfl rfl Tryz.sizeOf9) ?_
      refine LW.v rfl rfl (Val.load rfl Tryz.isAgg9 (by repeat (first | exact .here | exact .inner .here | exact .inner (.inner .here) | refine .there ?_)) (by rfl)) ?_
      refine LW.v rfl rfl (Val.fieldAddr 2 rfl Tryz.underlying48 rfl rfl Tryz.sizeOf9) ?_
      refine LW.v rfl rfl (Val.load rfl Tryz.isAgg9 (by repeat (first | exact .here | exact .inner .here | exact .inner (.inner .here) | refine .there ?_)) (by rfl)) ?_
      refine LW.v rfl rfl (Val.neStr rfl rfl) ?_
      refine LW.v rfl rfl (Val.pick_f rfl rfl) ?_
      refine LW.v rfl rfl (Val.move rfl) ?_
      refine LW.split (d := 25) rfl (fun h25 => ?_) (fun h25 => ?_)
      · replace h25 := bT h25
        have h25 : a.1.vl ≠ b.1.vl := by simpa using h25
        refine LW.p rfl rfl ?_
        refine LW.p rfl rfl ?_
        refine LW.p rfl rfl ?_
        refine LW.p rfl rfl ?_
        refine LW.p rfl rfl ?_
        refine LW.p rfl rfl ?_
        refine LW.p rfl rfl ?_
        refine LW.v rfl rfl (Val.pick_t rfl rfl) ?_
        refine LW.nil ?_
        refine PQ.seq ?_
        refine CW.cond_t rfl ?_
        refine CW.seq ?_
        refine CW.region ?_
        refine LW.v rfl rfl (Val.assign rfl) ?_
        refine LW.nil ?_
        refine PQ.seq ?_
        refine CW.ret ?_
        refine PQ.then_ret ?_
        refine PQ.ret1 rfl rfl ?_
        intro w' hw; exact ⟨by unfold ansEq; simp_all, hw.below⟩
      · replace h25 := bF h25
        have h25 : a.1.vl = b.1.vl := by simpa using h25
        refine LW.v rfl rfl (Val.fieldAddr 4 rfl Tryz.underlying48 rfl rfl Tryz.sizeOf46) ?_
        refine LW.v rfl rfl (Val.load rfl Tryz.isAgg46 (by repeat (first | exact .here | exact .inner .here | exact .inner (.inner .here) | refine .there ?_)) (by rfl)) ?_
        refine LW.v rfl rfl (Val.lenSl rfl Tryz.underlying46) ?_
        refine LW.v rfl rfl (Val.fieldAddr 4 rfl Tryz.underlying48 rfl rfl Tryz.sizeOf46) ?_
        refine LW.v rfl rfl (Val.load rfl Tryz.isAgg46 (by repeat (first | exact .here | exact .inner .here | exact .inner (.inner .here) | refine .there ?_)) (by rfl)) ?_
        refine LW.v rfl rfl (Val.lenSl rfl Tryz.underlying46) ?_
        refine LW.v rfl rfl (Val.cmp rfl rfl rfl) ?_
        refine LW.v rfl rfl (Val.pick_f rfl rfl) ?_
        refine LW.nil ?_
        refine PQ.seq ?_
        refine CW.cond rfl (fun h33 => ?_) (fun h33 => ?_)
        · replace h33 := bT h33
          have h33 : a.2.length ≠ b.2.length := fun e => by rw [← en1, ← en2] at e; simp [e] at h33
          refine CW.seq ?_
          refine CW.region ?_
          refine LW.v rfl rfl (Val.assign rfl) ?_
          refine LW.nil ?_
          refine PQ.seq ?_
          refine CW.ret ?_
          refine PQ.then_ret ?_
          refine PQ.ret1 rfl rfl ?_
          intro w' hw; exact ⟨by unfold ansEq; rw [decide_eq_false (show a.2 ≠ b.2 from fun e => h33 (by rw [e]))]; simp, hw.below⟩
        · replace h33 := bF h33
          have h33 : a.2.length = b.2.length := by
            have h9 : (a.1.h.n : Int) = b.1.h.n := by simpa using h33
            omega
          refine CW.skip ?_
          refine PQ.seq ?_
          refine CW.seq ?_
          refine CW.seq ?_
          refine CW.region ?_
          refine LW.v rfl rfl (Val.assign rfl) ?_
          refine LW.nil ?_
          refine PQ.seq ?_
          refine CW.block ?_
          refine CW.loop (γ := Nat) (fun k => [(2, .pointer (some ⟨b2, 0, none⟩)), (3, .pointer (some ⟨b3, 0, none⟩)), (5, .int .i64 (k : Nat))]) (fun _ => [[(b2, .cells (raC a.1).toArray 48 (0, 0))], [(b3, .cells (raC b.1).toArray 48 (0, 0))]]) (fun k => k ≤ a.2.length ∧ a.2.take k = b.2.take k) (fun k => a.2.length - k) (0) ⟨Nat.zero_le _, rfl⟩ (by repeat (first | exact trivial | refine ⟨rfl, ?_⟩)) (by repeat (first | exact .nil | apply Pick.cons | exact .here | apply Ext.there)) ?_
          intro k
          rintro ⟨hk1, hk2⟩
          refine CW.seq ?_
          refine CW.seq ?_
          refine CW.region ?_
          refine LW.v rfl rfl (Val.move rfl) ?_
          refine LW.v rfl rfl (Val.fieldAddr 4 rfl Tryz.underlying48 rfl rfl Tryz.sizeOf46) ?_
          refine LW.v rfl rfl (Val.load rfl Tryz.isAgg46 (by repeat (first | exact .here | exact .inner .here | exact .inner (.inner .here) | refine .there ?_)) (by rfl)) ?_
          refine LW.v rfl rfl (Val.lenSl rfl Tryz.underlying46) ?_
          refine LW.v rfl rfl (Val.cmp rfl rfl rfl) ?_
          refine LW.nil ?_
          refine PQ.seq ?_
          refine CW.cond rfl (fun h38 => ?_) (fun h38 => ?_)
          · replace h38 := bT h38
            have hk9 : k < a.2.length := by omega
            obtain ⟨bb1, o1, x, hpp1, hb1, hx1, hr1⟩ := V.slAt_at hs1 rfl (k := k) hk9
            obtain ⟨bb2, o2, y, hpp2, hb2, hx2, hr2⟩ := V.slAt_at hs2 rfl (k := k) (by omega)
            refine CW.skip ?_
            refine PQ.seq ?_
            refine CW.seq ?_
            refine CW.block ?_
            refine CW.seq ?_
            refine CW.quiet mixed (by kernel_rfl) ?_
            refine QW.v rfl rfl (Val.fieldAddr 4 rfl Tryz.underlying48 rfl rfl Tryz.sizeOf46) ?_
            refine QW.v rfl rfl (Val.load rfl Tryz.isAgg46 (by repeat (first | exact .here | exact .inner .here | exact .inner (.inner .here) | refine .there ?_)) (by rfl)) ?_
            refine V.QW.re 42 (.slice (some ⟨bb1, o1, none⟩) a.2.length a.1.h.c) rfl (by rw [hpp1, en1]) ?_
            refine QW.v rfl rfl (Val.move rfl) ?_
            first | (refine QW.v rfl rfl (Val.indexAddrN rfl rfl Tryz.underlying46 Tryz.sizeOf4 (by omega)) ?_) | (refine QW.v rfl rfl (Val.indexAddr rfl rfl Tryz.underlying46 Tryz.sizeOf4 (by omega) (by omega)) ?_)
            refine QW.v rfl rfl (Val.loadO rfl Tryz.isAgg4 hb1 (by simp [ids]) (hr1 k x hx1 0 _ rfl)) ?_
            refine QW.v rfl rfl (Val.fieldAddr 4 rfl Tryz.underlying48 rfl rfl Tryz.sizeOf46) ?_
            refine QW.v rfl rfl (Val.load rfl Tryz.isAgg46 (by repeat (first | exact .here | exact .inner .here | exact .inner (.inner .here) | refine .there ?_)) (by rfl)) ?_
            refine V.QW.re 47 (.slice (some ⟨bb2, o2, none⟩) b.2.length b.1.h.c) rfl (by rw [hpp2, en2]) ?_
            refine QW.v rfl rfl (Val.move rfl) ?_
            first | (refine QW.v rfl rfl (Val.indexAddrN rfl rfl Tryz.underlying46 Tryz.sizeOf4 (by omega)) ?_) | (refine QW.v rfl rfl (Val.indexAddr rfl rfl Tryz.underlying46 Tryz.sizeOf4 (by omega) (by omega)) ?_)
            refine QW.v rfl rfl (Val.loadO rfl Tryz.isAgg4 hb2 (by simp [ids]) (hr2 k y hx2 0 _ rfl)) ?_
            refine QW.v rfl rfl (Val.neB rfl rfl Tryz.underlying4) ?_
            refine QW.re 51 (.bool (!decide (x = y))) rfl (by cases x <;> cases y <;> rfl) ?_
            refine QW.nil ?_
            refine PQ.seq ?_
            refine CW.cond rfl (fun h51 => ?_) (fun h51 => ?_)
            · replace h51 := bT h51
              have h51 : x ≠ y := by simpa using h51
              refine CW.seq ?_
              refine CW.region ?_
              refine LW.v rfl rfl (Val.assign rfl) ?_
              refine LW.nil ?_
              refine PQ.seq ?_
              refine CW.ret ?_
              refine PQ.in_ret ?_
              refine PQ.then_ret ?_
              refine PQ.then_ret ?_
              refine PQ.in_ret ?_
              refine PQ.then_ret ?_
              refine PQ.ret1 rfl rfl ?_
              intro w' hw; exact ⟨by unfold ansEq; rw [decide_eq_false (ne_at hx1 hx2 h51)]; simp, hw.below⟩
            · replace h51 := bF h51
              have h51 : x = y := by simpa using h51
              subst h51
              refine CW.skip ?_
              refine PQ.in_normal ?_
              refine PQ.seq ?_
              refine CW.region ?_
              refine LW.v rfl rfl (Val.move rfl) ?_
              refine LW.v rfl rfl (Val.ar rfl rfl rfl (IntWalk.i64_in _ (by omega))) ?_
              refine LW.v rfl rfl (Val.assign rfl) ?_
              refine LW.nil ?_
              refine PQ.round (k + 1) ⟨by omega, take_step hk2 hx1 hx2⟩ (by omega) (by repeat (first | exact trivial | refine ⟨rfl, ?_⟩)) (by repeat (first | exact .nil | apply Pick.cons | exact .here | apply Ext.there))
          · replace h38 := bF h38
            have hk9 : a.2.length ≤ k := by omega
            refine CW.exit ?_
            refine PQ.then_exit ?_
            refine PQ.then_exit ?_
            refine PQ.in_here ?_
            refine PQ.seq ?_
            refine CW.seq ?_
            refine CW.region ?_
            refine LW.v rfl rfl (Val.assign rfl) ?_
            refine LW.nil ?_
            refine PQ.seq ?_
            refine CW.ret ?_
            refine PQ.ret1 rfl rfl ?_
            intro w' hw; exact ⟨by unfold ansEq; rw [decide_eq_true (take_end hk2 (by omega) (by omega))]; simp_all, hw.below⟩
theorem eqF_c (l m : List RB) (p1 p2 : Option Addr) (n1 n2 c1 c2 : Nat) (hn1 : n1 = l.length) (hn2 : n2 = m.length) (hl : l.length ≤ 9223372036854775807) (w : World) (h1 : V.slAt w p1 6 raC (l.map Prod.fst)) (h2 : V.slAt w p2 6 raC (m.map Prod.fst)) (g1 : ∀ a ∈ l, RaR w a) (g2 : ∀ a ∈ m, RaR w a) : Calls Tryz.prog 33 [.slice p1 n1 c1, .slice p2 n2 c2, .func (.func 34) #[] #[]].toArray w fun e w' => e = .returned (.bool (allEq l m)) ∧ Below w.heap.size w w' := by
  subst hn1; subst hn2
  refine V.calls [] Tryz.func33 rfl Tryz.ntmps33 (Nat.le_of_ble_eq_true rfl) (V.sat_nil _) ?_
  refine CW.seq ?_
  refine CW.region ?_
  refine LW.v rfl rfl (Val.assign rfl) ?_
  refine LW.nil ?_
  refine PQ.seq ?_
  refine CW.seq ?_
  refine CW.seq ?_
  refine CW.region ?_
  refine LW.v rfl rfl (Val.move rfl) ?_
  refine LW.v rfl rfl (Val.lenSl rfl Tryz.underlying30) ?_
  refine LW.v rfl rfl (Val.move rfl) ?_
  refine LW.v rfl rfl (Val.lenSl rfl Tryz.underlying30) ?_
  refine LW.v rfl rfl (Val.cmp rfl rfl rfl) ?_
  refine LW.nil ?_
  refine PQ.seq ?_
  refine CW.cond rfl (fun h14 => ?_) (fun h14 => ?_)
  · replace h14 := bT h14
    have h14 : l.length ≠ m.length := fun e => by simp [e] at h14
    refine CW.seq ?_
    refine CW.region ?_
    refine LW.v rfl rfl (Val.assign rfl) ?_
    refine LW.nil ?_
    refine PQ.seq ?_
    refine CW.ret ?_
    refine PQ.then_ret ?_
    refine PQ.ret1 rfl rfl ?_
    intro w' hw; exact ⟨by rw [allEq_len h14], hw.below⟩
  · replace h14 := bF h14
    have h14 : l.length = m.length := by
      have h9 : (l.length : Int) = m.length := by simpa using h14
      omega
    refine CW.skip ?_
    refine PQ.seq ?_
    refine CW.seq ?_
    refine CW.seq ?_
    refine CW.region ?_
    refine LW.v rfl rfl (Val.move rfl) ?_
    refine LW.v rfl rfl (Val.lenSl rfl Tryz.underlying30) ?_
    refine LW.v rfl rfl (Val.move rfl) ?_
    refine LW.nil ?_
    refine PQ.seq ?_
    refine CW.block ?_
    refine CW.loop (γ := Nat) (fun k => [(0, .slice p1 l.length c1), (1, .slice p2 m.length c2), (2, .func (.func 34) #[] #[]), (15, .slice p1 l.length c1), (16, .int .i64 (l.length : Nat)), (17, .int .i64 (k : Nat))]) (fun _ => []) (fun k => k ≤ l.length ∧ UpTo l m k) (fun k => l.length - k) (0) ⟨Nat.zero_le _, fun i _ _ h => absurd h (Nat.not_lt_zero _)⟩ (by repeat (first | exact trivial | refine ⟨rfl, ?_⟩)) (by repeat (first | exact .nil | apply Pick.cons | exact .here | apply Ext.there)) ?_
    intro k
    rintro ⟨hk1, hk2⟩
    refine CW.seq ?_
    refine CW.region ?_
    refine LW.v rfl rfl (Val.cmp rfl rfl rfl) ?_
    refine LW.nil ?_
    refine PQ.seq ?_
    refine CW.seq ?_
    refine CW.cond rfl (fun h18 => ?_) (fun h18 => ?_)
    · replace h18 := bT h18
      have hk9 : k < l.length := by omega
      obtain ⟨bb1, o1, x, rfl, hb1, hx1, hr1⟩ := V.slAt_at h1 (by simp) (k := k) hk9
      obtain ⟨bb2, o2, y, rfl, hb2, hx2, hr2⟩ := V.slAt_at h2 (by simp) (k := k) (show k < m.length by omega)
      obtain ⟨hx, hl1⟩ := map_at hx1
      obtain ⟨hy, hl2⟩ := map_at hx2
      refine CW.skip ?_
      refine PQ.seq ?_
      refine CW.seq ?_
      refine CW.block ?_
      refine CW.seq ?_
      refine CW.region ?_
      refine LW.v rfl rfl (Val.move rfl) ?_
      first | (refine LW.v rfl rfl (Val.indexAddrN rfl rfl Tryz.underlying30 Tryz.sizeOf48 (by omega)) ?_) | (refine LW.v rfl rfl (Val.indexAddr rfl rfl Tryz.underlying30 Tryz.sizeOf48 (by omega) (by omega)) ?_)
      refine LW.v rfl rfl (Val.loadOA rfl Tryz.isAgg48 hb1 (by simp [ids]) (hr1 k x hx1) Tryz.sizeOf48) ?_
      refine LW.e rfl rfl (Eff.allocA (by exact Tryz.zeroValue48)) ?_
      intro b8 _
      refine LW.v rfl rfl (Val.assign rfl) ?_
      refine LW.eN rfl (Eff.storeW (cs := raC x) rfl rfl (by repeat (first | exact .here | exact .inner .here | exact .inner (.inner .here) | apply Upd.there)) (by rfl) Tryz.sizeOf48 (by rfl)) ?_
      intro _ _
      refine LW.nil ?_
      refine PQ.seq ?_
      refine CW.seq ?_
      refine CW.region ?_
      refine LW.v rfl rfl (Val.move rfl) ?_
      refine LW.v rfl rfl (Val.move rfl) ?_
      first | (refine LW.v rfl rfl (Val.indexAddrN rfl rfl Tryz.underlying30 Tryz.sizeOf48 (by omega)) ?_) | (refine LW.v rfl rfl (Val.indexAddr rfl rfl Tryz.underlying30 Tryz.sizeOf48 (by omega) (by omega)) ?_)
      refine LW.v rfl rfl (Val.loadOA rfl Tryz.isAgg48 hb2 (by simp [ids]) (hr2 k y hx2) Tryz.sizeOf48) ?_
      refine LW.e rfl rfl (Eff.allocA (by exact Tryz.zeroValue48)) ?_
      intro b9 _
      refine LW.eN rfl (Eff.storeW (cs := raC y) rfl rfl (by repeat (first | exact .here | exact .inner .here | exact .inner (.inner .here) | apply Upd.there)) (by rfl) Tryz.sizeOf48 (by rfl)) ?_
      intro _ _
      refine LW.nil ?_
      refine PQ.seq ?_
      refine CW.seq ?_
      refine CW.region ?_
      refine LW.v rfl rfl (Val.move rfl) ?_
      refine LW.v rfl rfl (Val.loadW (l := raC x) rfl Tryz.isAgg48 (by repeat (first | exact .here | exact .inner .here | exact .inner (.inner .here) | refine .there ?_)) (by exact Tryz.sizeOf48)) ?_
      refine LW.v rfl rfl (Val.loadW (l := raC y) rfl Tryz.isAgg48 (by repeat (first | exact .here | exact .inner .here | exact .inner (.inner .here) | refine .there ?_)) (by exact Tryz.sizeOf48)) ?_
      refine LW.e rfl rfl (Eff.callFV (f := 34) (caps := []) rfl rfl Tryz.call34 (fun w hw => ansq_c (x, hx) (y, hy) w ((g1 _ (List.mem_of_getElem? hl1)).hp hw) ((g2 _ (List.mem_of_getElem? hl2)).hp hw))) ?_
      intro _ _
      refine LW.split (d := 29) rfl (fun h29 => ?_) (fun h29 => ?_)
      · replace h29 := bT h29
        have h29 : ansEq (x, hx) (y, hy) = true := h29
        refine LW.v rfl rfl (Val.not rfl) ?_
        refine LW.nil ?_
        refine PQ.seq ?_
        refine CW.cond_f rfl ?_
        refine CW.skip ?_
        refine PQ.in_normal ?_
        refine PQ.seq ?_
        refine CW.region ?_
        refine LW.v rfl rfl (Val.ar rfl rfl rfl (IntWalk.i64_in _ (by omega))) ?_
        refine LW.v rfl rfl (Val.move rfl) ?_
        refine LW.nil ?_
        refine PQ.round (k + 1) ⟨by omega, hk2.step hl1 hl2 h29⟩ (by omega) (by repeat (first | exact trivial | refine ⟨rfl, ?_⟩)) (by repeat (first | exact .nil | apply Pick.cons | exact .here | apply Ext.there))
      · replace h29 := bF h29
        have h29 : ansEq (x, hx) (y, hy) = false := h29
        refine LW.v rfl rfl (Val.not rfl) ?_
        refine LW.nil ?_
        refine PQ.seq ?_
        refine CW.cond_t rfl ?_
        refine CW.seq ?_
        refine CW.region ?_
        refine LW.v rfl rfl (Val.assign rfl) ?_
        refine LW.nil ?_
        refine PQ.seq ?_
        refine CW.ret ?_
        refine PQ.in_ret ?_
        refine PQ.then_ret ?_
        refine PQ.then_ret ?_
        refine PQ.in_ret ?_
        refine PQ.then_ret ?_
        refine PQ.ret1 rfl rfl ?_
        intro w' hw; exact ⟨by rw [allEq_no hl1 hl2 h29], hw.below⟩
    · replace h18 := bF h18
      have hk9 : l.length ≤ k := by omega
      refine CW.exit ?_
      refine PQ.then_exit ?_
      refine PQ.then_exit ?_
      refine PQ.in_here ?_
      refine PQ.seq ?_
      refine CW.seq ?_
      refine CW.region ?_
      refine LW.v rfl rfl (Val.assign rfl) ?_
      refine LW.nil ?_
      refine PQ.seq ?_
      refine CW.ret ?_
      refine PQ.ret1 rfl rfl ?_
      intro w' hw; exact ⟨by rw [hk2.end hk9 h14], hw.below⟩
theorem amg_c (tx ty : RT) (x y : TX) (b : Nat) (w : World) (hx : RtR w tx x) (hy : RtR w ty y) (hb : w.heap[b]? = some (.cells (rtC tx).toArray 36 (0, 0))) : Calls Tryz.prog 32 [.agg (rtC ty).toArray, .pointer (some ⟨b, 0, none⟩)].toArray w fun e w' => e = .returned (.bool (turnEq x y)) ∧ Below w.heap.size w w' := by
  refine V.calls [] Tryz.func32 rfl Tryz.ntmps32 (Nat.le_of_ble_eq_true rfl) (V.sat_nil _) ?_
  refine CW.seq ?_
  refine CW.region ?_
  refine LW.e rfl rfl (Eff.boxA rfl) ?_
  intro b2 _
  refine LW.v rfl rfl (Val.assign rfl) ?_
  refine LW.nil ?_
  refine PQ.seq ?_
  refine CW.seq ?_
  refine CW.region ?_
  refine LW.v rfl rfl (Val.fieldAddr 2 rfl Tryz.underlying36 rfl rfl Tryz.sizeOf34) ?_
  refine LW.v rfl rfl (Val.loadOA (cs := tx.s.cells) rfl Tryz.isAgg34 (V.lt_of_some hb) (by simp [ids]) (V.range_of_block (r := []) hb rfl) Tryz.sizeOf34) ?_
  refine LW.v rfl rfl (Val.fieldAddr 2 rfl Tryz.underlying36 rfl rfl Tryz.sizeOf34) ?_
  refine LW.v rfl rfl (Val.loadA ty.s.cells (r := []) rfl Tryz.isAgg34 (by repeat (first | exact .here | exact .inner .here | exact .inner (.inner .here) | refine .there ?_)) (by rfl) Tryz.sizeOf34) ?_
  refine LW.e rfl rfl (Eff.callV rfl Tryz.call29 (fun w hw => same_c tx.s ty.s x.2 y.2 w (hx.hp hw).2.2.1 (hy.hp hw).2.2.1 hx.2.2.2.2)) ?_
  intro _ _
  refine LW.v rfl rfl (Val.move rfl) ?_
  refine LW.split (d := 9) rfl (fun h9 => ?_) (fun h9 => ?_)
  · replace h9 := bT h9
    have h9 : x.2 = y.2 := by simpa using h9
    refine LW.v rfl rfl (Val.fieldAddr 1 rfl Tryz.underlying36 rfl rfl Tryz.sizeOf30) ?_
    refine LW.v rfl rfl (Val.loadO rfl Tryz.isAgg30 (V.lt_of_some hb) (by simp [ids]) (V.cell_of_block hb rfl)) ?_
    refine LW.v rfl rfl (Val.fieldAddr 1 rfl Tryz.underlying36 rfl rfl Tryz.sizeOf30) ?_
    refine LW.v rfl rfl (Val.load rfl Tryz.isAgg30 (by repeat (first | exact .here | exact .inner .here | exact .inner (.inner .here) | refine .there ?_)) (by rfl)) ?_
    refine LW.e rfl rfl (Eff.callV rfl Tryz.call33 (fun w hw => eqF_c x.1 y.1 _ _ _ _ _ _ hx.1.1 hy.1.1 hx.2.2.2.1 w (hx.hp hw).1.2 (hy.hp hw).1.2 (hx.hp hw).2.1 (hy.hp hw).2.1)) ?_
    intro _ _
    refine LW.v rfl rfl (Val.pick_t rfl rfl) ?_
    refine LW.v rfl rfl (Val.assign rfl) ?_
    refine LW.nil ?_
    refine PQ.seq ?_
    refine CW.ret ?_
    refine PQ.ret1 rfl rfl ?_
    intro w' hw; exact ⟨by unfold turnEq; simp_all, hw.below⟩
  · replace h9 := bF h9
    have h9 : x.2 ≠ y.2 := by simpa using h9
    refine LW.p rfl rfl ?_
    refine LW.p rfl rfl ?_
    refine LW.p rfl rfl ?_
    refine LW.p rfl rfl ?_
    refine LW.p rfl rfl ?_
    refine LW.v rfl rfl (Val.pick_f rfl rfl) ?_
    refine LW.v rfl rfl (Val.assign rfl) ?_
    refine LW.nil ?_
    refine PQ.seq ?_
    refine CW.ret ?_
    refine PQ.ret1 rfl rfl ?_
    intro w' hw; exact ⟨by unfold turnEq; simp_all, hw.below⟩
abbrev TR := RT × TX
def TsR (w : World) (p : Option Addr) (l : List TR) : Prop := V.slAt w p 4 rtC (l.map Prod.fst) ∧ ∀ t ∈ l, RtR w t.1 t.2
theorem TsR.hp {w0 w : World} {sg : V.Sg} {p : Option Addr} {l : List TR} (h : TsR w0 p l) (hw : Hp ⟨w0, []⟩ sg w) : TsR w p l := ⟨slAt_hp h.1 hw, fun t ht => (h.2 t ht).hp hw⟩
theorem map_atT {l : List TR} {k : Nat} {x : RT} (h : (l.map Prod.fst)[k]? = some x) : ∃ y, l[k]? = some (x, y) := by
  rw [List.getElem?_map] at h
  cases hl : l[k]? with
  | none => rw [hl] at h; cases h
  | some y => rw [hl] at h; simp at h; exact ⟨y.2, by rw [← h]⟩
theorem anyT {l : List TR} {x : TX} {k : Nat} {y : TR} (hy : l[k]? = some y) (h : turnEq x y.2 = true) : ((0 : Int) ≤ (k : Nat)) = (amongF x (l.map Prod.snd) = true) := by
  simp only [eq_iff_iff]
  exact ⟨fun _ => List.any_eq_true.2 ⟨y.2, List.mem_map.2 ⟨y, List.mem_of_getElem? hy, rfl⟩, h⟩, fun _ => by omega⟩
theorem noneT {l : List TR} {x : TX} (h : ∀ y ∈ l, turnEq x y.2 = false) : amongF x (l.map Prod.snd) = false := by
  unfold amongF
  rw [List.any_eq_false]
  intro y hy
  obtain ⟨z, hz, rfl⟩ := List.mem_map.1 hy
  rw [h z hz]; decide
theorem noneT2 {l : List TR} {x : TX} (h : ∀ y ∈ l, turnEq x y.2 = false) : ((0 : Int) ≤ -1) = (amongF x (l.map Prod.snd) = true) := by
  rw [noneT h]
  simp only [eq_iff_iff]
  exact ⟨fun h => by omega, fun h => by cases h⟩
theorem upT {l : List TR} {x : TX} {k : Nat} {y : TR} (h : ∀ z ∈ l.take k, turnEq x z.2 = false) (hy : l[k]? = some y) (hn : turnEq x y.2 = false) : ∀ z ∈ l.take (k + 1), turnEq x z.2 = false := fun z hz => by
  rw [List.take_add_one, hy] at hz
  rcases List.mem_append.1 hz with h9 | h9
  · exact h z h9
  · obtain rfl : z = y := by simpa using h9
    exact hn
theorem amgIx_c (tx : RT) (x : TX) (b : Nat) (l : List TR) (p : Option Addr) (n c : Nat) (hn : n = l.length) (hl : l.length ≤ 1000) (w : World) (hx : RtR w tx x) (hT : TsR w p l) (hb : w.heap[b]? = some (.cells (rtC tx).toArray 36 (0, 0))) : Calls Tryz.prog 65 [.slice p n c, .func (.func 32) #[] #[.pointer (some ⟨b, 0, none⟩)]].toArray w fun e w' => ∃ i : Int, ((0 ≤ i) = (amongF x (l.map Prod.snd) = true)) ∧ e = .returned (.int .i64 i) ∧ Below w.heap.size w w' := by
  subst hn
  refine V.calls [] Tryz.func65 rfl Tryz.ntmps65 (Nat.le_of_ble_eq_true rfl) (V.sat_nil _) ?_
  refine CW.seq ?_
  refine CW.region ?_
  refine LW.v rfl rfl (Val.assign rfl) ?_
  refine LW.nil ?_
  refine PQ.seq ?_
  refine CW.seq ?_
  refine CW.seq ?_
  refine CW.region ?_
  refine LW.v rfl rfl (Val.move rfl) ?_
  refine LW.v rfl rfl (Val.lenSl rfl Tryz.underlying25) ?_
  refine LW.v rfl rfl (Val.move rfl) ?_
  refine LW.nil ?_
  refine PQ.seq ?_
  refine CW.block ?_
  refine CW.loop (γ := Nat) (fun k => [(0, .slice p l.length c), (1, .func (.func 32) #[] #[.pointer (some ⟨b, 0, none⟩)]), (7, .int .i64 (l.length : Nat)), (8, .int .i64 (k : Nat))]) (fun _ => []) (fun k => k ≤ l.length ∧ ∀ z ∈ l.take k, turnEq x z.2 = false) (fun k => l.length - k) (0) ⟨Nat.zero_le _, by simp⟩ (by repeat (first | exact trivial | refine ⟨rfl, ?_⟩)) (by repeat (first | exact .nil | apply Pick.cons | exact .here | apply Ext.there)) ?_
  intro k
  rintro ⟨hk1, hk2⟩
  refine CW.seq ?_
  refine CW.region ?_
  refine LW.v rfl rfl (Val.cmp rfl rfl rfl) ?_
  refine LW.nil ?_
  refine PQ.seq ?_
  refine CW.seq ?_
  refine CW.cond rfl (fun h9 => ?_) (fun h9 => ?_)
  · replace h9 := bT h9
    have hk9 : k < l.length := by omega
    obtain ⟨bb1, o1, ty, rfl, hb1, hx1, hr1⟩ := V.slAt_at hT.1 (by simp) (k := k) hk9
    obtain ⟨y, hl1⟩ := map_atT hx1
    refine CW.skip ?_
    refine PQ.seq ?_
    refine CW.seq ?_
    refine CW.block ?_
    refine CW.seq ?_
    refine CW.region ?_
    refine LW.v rfl rfl (Val.move rfl) ?_
    refine LW.v rfl rfl (Val.assign rfl) ?_
    refine LW.nil ?_
    refine PQ.seq ?_
    refine CW.seq ?_
    refine CW.region ?_
    refine LW.v rfl rfl (Val.move rfl) ?_
    refine LW.v rfl rfl (Val.move rfl) ?_
    refine LW.v rfl rfl (Val.move rfl) ?_
    first | (refine LW.v rfl rfl (Val.indexAddrN rfl rfl Tryz.underlying25 Tryz.sizeOf36 (by omega)) ?_) | (refine LW.v rfl rfl (Val.indexAddr rfl rfl Tryz.underlying25 Tryz.sizeOf36 (by omega) (by omega)) ?_)
    refine LW.v rfl rfl (Val.loadOA rfl Tryz.isAgg36 hb1 (by simp [ids]) (hr1 k ty hx1) Tryz.sizeOf36) ?_
    refine LW.e rfl rfl (Eff.callFV (f := 32) (caps := [.pointer (some ⟨b, 0, none⟩)]) rfl rfl Tryz.call32 (fun w hw => amg_c tx ty x y b w (hx.hp hw) ((hT.2 _ (List.mem_of_getElem? hl1)).hp hw) ((hw.below.block b (V.lt_of_some hb)).trans hb))) ?_
    intro _ _
    refine LW.nil ?_
    refine PQ.seq ?_
    refine CW.cond rfl (fun h16 => ?_) (fun h16 => ?_)
    · replace h16 := bT h16
      have h16 : turnEq x y = true := h16
      refine CW.seq ?_
      refine CW.region ?_
      refine LW.v rfl rfl (Val.move rfl) ?_
      refine LW.v rfl rfl (Val.assign rfl) ?_
      refine LW.nil ?_
      refine PQ.seq ?_
      refine CW.ret ?_
      refine PQ.in_ret ?_
      refine PQ.then_ret ?_
      refine PQ.then_ret ?_
      refine PQ.in_ret ?_
      refine PQ.then_ret ?_
      refine PQ.ret1 rfl rfl ?_
      intro w' hw; exact ⟨(k : Nat), anyT hl1 h16, rfl, hw.below⟩
    · replace h16 := bF h16
      have h16 : turnEq x y = false := h16
      refine CW.skip ?_
      refine PQ.in_normal ?_
      refine PQ.seq ?_
      refine CW.region ?_
      refine LW.v rfl rfl (Val.ar rfl rfl rfl (IntWalk.i64_in _ (by omega))) ?_
      refine LW.v rfl rfl (Val.move rfl) ?_
      refine LW.nil ?_
      refine PQ.round (k + 1) ⟨by omega, upT hk2 hl1 h16⟩ (by omega) (by repeat (first | exact trivial | refine ⟨rfl, ?_⟩)) (by repeat (first | exact .nil | apply Pick.cons | exact .here | apply Ext.there))
  · replace h9 := bF h9
    have hk9 : l.length ≤ k := by omega
    refine CW.exit ?_
    refine PQ.then_exit ?_
    refine PQ.then_exit ?_
    refine PQ.in_here ?_
    refine PQ.seq ?_
    refine CW.seq ?_
    refine CW.region ?_
    refine LW.v rfl rfl (Val.assign rfl) ?_
    refine LW.nil ?_
    refine PQ.seq ?_
    refine CW.ret ?_
    refine PQ.ret1 rfl rfl ?_
    intro w' hw; exact ⟨-1, noneT2 (fun z hz => hk2 z (by rw [List.take_of_length_le hk9]; exact hz)), rfl, hw.below⟩
theorem amgC_c (tx : RT) (x : TX) (b : Nat) (l : List TR) (p : Option Addr) (n c : Nat) (hn : n = l.length) (hl : l.length ≤ 1000) (w : World) (hx : RtR w tx x) (hT : TsR w p l) (hb : w.heap[b]? = some (.cells (rtC tx).toArray 36 (0, 0))) : Calls Tryz.prog 31 [.slice p n c, .func (.func 32) #[] #[.pointer (some ⟨b, 0, none⟩)]].toArray w fun e w' => e = .returned (.bool (amongF x (l.map Prod.snd))) ∧ Below w.heap.size w w' := by
  refine V.calls [] Tryz.func31 rfl Tryz.ntmps31 (Nat.le_of_ble_eq_true rfl) (V.sat_nil _) ?_
  refine CW.seq ?_
  refine CW.region ?_
  refine LW.v rfl rfl (Val.assign rfl) ?_
  refine LW.nil ?_
  refine PQ.seq ?_
  refine CW.seq ?_
  refine CW.region ?_
  refine LW.v rfl rfl (Val.move rfl) ?_
  refine LW.v rfl rfl (Val.move rfl) ?_
  refine LW.e rfl rfl (Eff.callR rfl Tryz.call65 (fun w hw => amgIx_c tx x b l p n c hn hl w (hx.hp hw) (hT.hp hw) ((hw.below.block b (V.lt_of_some hb)).trans hb))) ?_
  intro i hi
  refine LW.v rfl rfl (Val.cmp rfl rfl rfl) ?_
  refine LW.v rfl rfl (Val.assign rfl) ?_
  refine LW.nil ?_
  refine PQ.seq ?_
  refine CW.ret ?_
  refine PQ.ret1 rfl rfl ?_
  intro w' hw; exact ⟨by congr 2; rw [Bool.eq_iff_iff, decide_eq_true_eq, hi], hw.below⟩
theorem among_c (tx : RT) (x : TX) (l : List TR) (p : Option Addr) (n c : Nat) (hn : n = l.length) (hl : l.length ≤ 1000) (w : World) (hx : RtR w tx x) (hT : TsR w p l) : Calls Tryz.prog 16 [.agg (rtC tx).toArray, .slice p n c].toArray w fun e w' => e = .returned (.bool (amongF x (l.map Prod.snd))) ∧ Below w.heap.size w w' := by
  refine V.calls [] Tryz.func16 rfl Tryz.ntmps16 (Nat.le_of_ble_eq_true rfl) (V.sat_nil _) ?_
  refine CW.seq ?_
  refine CW.region ?_
  refine LW.e rfl rfl (Eff.boxA rfl) ?_
  intro b2 _
  refine LW.v rfl rfl (Val.assign rfl) ?_
  refine LW.nil ?_
  refine PQ.seq ?_
  refine CW.seq ?_
  refine CW.region ?_
  refine LW.v rfl rfl (Val.move rfl) ?_
  refine LW.v rfl rfl (Val.makeFunc rfl rfl) ?_
  refine LW.e rfl rfl (Eff.callV rfl Tryz.call31 (fun w hw => amgC_c tx x b2 l p n c hn hl w (hx.hp hw) (hT.hp hw) (hw.own (b2, .cells (rtC tx).toArray 36 (0, 0)) (by simp)))) ?_
  intro _ _
  refine LW.v rfl rfl (Val.assign rfl) ?_
  refine LW.nil ?_
  refine PQ.seq ?_
  refine CW.ret ?_
  refine PQ.ret1 rfl rfl ?_
  intro w' hw; exact ⟨rfl, hw.below⟩
end I
end Go.Proofs.YtlpbjmbgopfkhaaGreat

/- What is alike: every.Alike and the document's; the row EveryApart, walked. -/
namespace Go.Proofs.YtlpbjmbgopfkhaaGreat
open Go Go.RowKit V
set_option linter.unusedVariables false
set_option maxRecDepth 100000
namespace I
open V (str byC ownV ownG ownS ownOk M2 m2O wget wfind kE K2)
theorem places73 : ∀ w, ((Array.mapM (fun (f : Field) => do pure (f.offset, ← sizeOf f.type)) (Tryz.prog.fieldsOf 73) : Sem (Array (Nat × Nat)))).run Tryz.prog w = .ok [(0, 1), (1, 1)].toArray w := by
  intro w; kernel_rfl
/-- What a stop left behind, in memory. -/
structure Lf where
  atm : Int
  kp : Sl
  ep : Int
  s : Sf
instance : Inhabited Lf := ⟨⟨0, ⟨none, 0, 0⟩, 0, ⟨⟨none, 0, 0⟩, ⟨none, 0, 0⟩⟩⟩⟩
def lfC (x : Lf) : List Value := [.int .i64 x.atm, .slice x.kp.a x.kp.n x.kp.c, .int .u64 x.ep, .slice x.s.p.a x.s.p.n x.s.p.c, .slice x.s.q.a x.s.q.n x.s.q.c]
theorem lf_sh {x : Lf} {q : Nat} {v : Value} (h : x.s.cells[q]? = some v) : (lfC x)[3 + q]? = some v := by rcases q with _ | _ | q <;> simp_all [lfC, Sf.cells]
theorem lfC_len (x : Lf) : (lfC x).length = 5 := rfl
abbrev LR := Lf × ShA
def lfK (x : Lf) : Int × Int := (x.atm, x.ep)
def LfsR (w : World) (p : Option Addr) (l : List LR) : Prop := V.slAt w p 5 lfC (l.map Prod.fst) ∧ ∀ z ∈ l, SfR w z.1.s z.2 ∧ z.2.1.length ≤ 9223372036854775807 ∧ z.2.2.length ≤ 9223372036854775807
theorem LfsR.hp {w0 w : World} {sg : V.Sg} {p : Option Addr} {l : List LR} (h : LfsR w0 p l) (hw : Hp ⟨w0, []⟩ sg w) : LfsR w p l := ⟨slAt_hp h.1 hw, fun z hz => ⟨(h.2 z hz).1.hp hw (by simp), (h.2 z hz).2⟩⟩
theorem map_atL {l : List LR} {k : Nat} {x : Lf} (h : (l.map Prod.fst)[k]? = some x) : ∃ y, l[k]? = some (x, y) := by
  rw [List.getElem?_map] at h
  cases hl : l[k]? with
  | none => rw [hl] at h; cases h
  | some y => rw [hl] at h; simp at h; exact ⟨y.2, by rw [← h]⟩
def alikeF (l : List LR) : Bool := l.all fun x => l.all fun y => !(decide (lfK x.1 = lfK y.1)) || decide (x.2 = y.2)
theorem alikeF_no {l : List LR} {i j : Nat} {x y : LR} (hx : l[i]? = some x) (hy : l[j]? = some y) (hk : lfK x.1 = lfK y.1) (hn : x.2 ≠ y.2) : alikeF l = false := by
  unfold alikeF
  rw [List.all_eq_false]
  refine ⟨x, List.mem_of_getElem? hx, ?_⟩
  simp only [Bool.not_eq_true, List.all_eq_false]
  exact ⟨y, List.mem_of_getElem? hy, by simp [hk, hn]⟩
theorem alikeF_yes {l : List LR} (h : ∀ x ∈ l, ∀ y ∈ l, lfK x.1 = lfK y.1 → x.2 = y.2) : alikeF l = true := by
  unfold alikeF
  rw [List.all_eq_true]
  intro x hx
  rw [List.all_eq_true]
  intro y hy
  by_cases e : lfK x.1 = lfK y.1
  · simp [h x hx y hy e]
  · simp [e]
/-- What the map knows behind k of them. -/
structure Al (l : List LR) (k : Nat) (E : M2) : Prop where
  a : ∀ q v, wget E q = some v → ∃ (j : Nat) (x : LR), j < k ∧ l[j]? = some x ∧ v = .int .i64 (j : Nat) ∧ lfK x.1 = q
  b : ∀ (i : Nat) (x : LR), i < k → l[i]? = some x → ∃ (j : Nat) (y : LR), j < k ∧ l[j]? = some y ∧ wget E (lfK x.1) = some (.int .i64 (j : Nat)) ∧ lfK y.1 = lfK x.1 ∧ y.2 = x.2
theorem Al.nil (l : List LR) : Al l 0 [] := ⟨fun q v h => (by cases h), fun i x h => absurd h (Nat.not_lt_zero _)⟩
theorem Al.fresh {l : List LR} {k c : Nat} {E : M2} {x : LR} (h : Al l k E) (hx : l[k]? = some x) (hn : wget E (lfK x.1) = none) : Al l (k + 1) (E ++ [(c, lfK x.1, .int .i64 (k : Nat))]) := by
  refine ⟨fun q v hq => ?_, fun i y hi hy => ?_⟩
  · rw [V.wget_append] at hq
    cases hg : wget E q with
    | some u =>
      rw [hg] at hq
      change some u = some v at hq
      obtain rfl : u = v := Option.some.inj hq
      obtain ⟨j, z, h1, h2⟩ := h.a q u hg
      exact ⟨j, z, by omega, h2⟩
    | none =>
      rw [hg] at hq
      change (if q = lfK x.1 then _ else none) = some v at hq
      split at hq
      · rename_i e
        cases hq
        exact ⟨k, x, by omega, hx, rfl, e.symm⟩
      · cases hq
  · by_cases e : i = k
    · subst e
      rw [hx] at hy
      cases hy
      exact ⟨i, x, by omega, hx, by rw [V.wget_append, hn]; simp, rfl, rfl⟩
    · obtain ⟨j, z, h1, h2, h3, h4⟩ := h.b i y (by omega) hy
      exact ⟨j, z, by omega, h2, by rw [V.wget_append, h3]; rfl, h4⟩
theorem Al.old {l : List LR} {k j : Nat} {E : M2} {x y : LR} (h : Al l k E) (hx : l[k]? = some x) (hj : j < k) (hy : l[j]? = some y) (hg : wget E (lfK x.1) = some (.int .i64 (j : Nat))) (hk : lfK y.1 = lfK x.1) (he : y.2 = x.2) : Al l (k + 1) E := by
  refine ⟨fun q v hq => ?_, fun i z hi hz => ?_⟩
  · obtain ⟨j, z, h1, h2⟩ := h.a q v hq
    exact ⟨j, z, by omega, h2⟩
  · by_cases e : i = k
    · subst e
      rw [hx] at hz
      cases hz
      exact ⟨j, y, by omega, hy, hg, hk, he⟩
    · obtain ⟨j', z', h1, h2⟩ := h.b i z (by omega) hz
      exact ⟨j', z', by omega, h2⟩
theorem Al.end {l : List LR} {k : Nat} {E : M2} (h : Al l k E) (hk : l.length ≤ k) : alikeF l = true := alikeF_yes fun x hx y hy e => by
  obtain ⟨i, hi⟩ := List.mem_iff_getElem?.1 hx
  obtain ⟨j, hj⟩ := List.mem_iff_getElem?.1 hy
  obtain ⟨i', x', _, h2, h3, _, h5⟩ := h.b i x (by have := (List.getElem?_eq_some_iff.1 hi).1; omega) hi
  obtain ⟨j', y', _, g2, g3, _, g5⟩ := h.b j y (by have := (List.getElem?_eq_some_iff.1 hj).1; omega) hj
  rw [e, g3] at h3
  simp only [Option.some.injEq, Value.int.injEq, true_and] at h3
  have : i' = j' := by omega
  subst this
  rw [h2] at g2
  cases g2
  rw [← h5, g5]
theorem k2W : K2 Tryz.prog 73 := K2.of Tryz.underlying73 (by decide) (by decide) Tryz.underlying3 Tryz.underlying39 rfl rfl (by kernel_rfl)
theorem alike_c (l : List LR) (p : Option Addr) (n c : Nat) (hn : n = l.length) (hl : l.length ≤ 1000) (w : World) (hT : LfsR w p l) : Calls Tryz.prog 14 [.slice p n c].toArray w fun e w' => e = .returned (.bool (alikeF l)) ∧ Below w.heap.size w w' := by
  subst hn
  refine V.calls [] Tryz.func14 rfl Tryz.ntmps14 (Nat.le_of_ble_eq_true rfl) (V.sat_nil _) ?_
  refine CW.seq ?_
  refine CW.region ?_
  refine LW.v rfl rfl (Val.assign rfl) ?_
  refine LW.nil ?_
  refine PQ.seq ?_
  refine CW.seq ?_
  refine CW.region ?_
  refine LW.e rfl rfl (Eff.wmakeMap) ?_
  intro b8 _
  refine LW.v rfl rfl (Val.assign rfl) ?_
  refine LW.nil ?_
  refine PQ.seq ?_
  refine CW.seq ?_
  refine CW.seq ?_
  refine CW.region ?_
  refine LW.v rfl rfl (Val.move rfl) ?_
  refine LW.v rfl rfl (Val.lenSl rfl Tryz.underlying38) ?_
  refine LW.v rfl rfl (Val.move rfl) ?_
  refine LW.nil ?_
  refine PQ.seq ?_
  refine CW.block ?_
  refine CW.loop (γ := Nat × M2 × Nat) (fun k => [(0, .slice p l.length c), (3, .map (some b8)), (9, .slice p l.length c), (10, .int .i64 (l.length : Nat)), (11, .int .i64 (k.1 : Nat))]) (fun k => [[(b8, m2O k.2.1 k.2.2)]]) (fun k => k.1 ≤ l.length ∧ Al l k.1 k.2.1) (fun k => l.length - k.1) ((0, [], 0)) ⟨Nat.zero_le _, Al.nil l⟩ (by repeat (first | exact trivial | refine ⟨rfl, ?_⟩)) (by repeat (first | exact .nil | apply Pick.cons | exact .here | apply Ext.there)) ?_
  intro k
  rintro ⟨hk1, hk2⟩
  refine CW.seq ?_
  refine CW.region ?_
  refine LW.v rfl rfl (Val.cmp rfl rfl rfl) ?_
  refine LW.nil ?_
  refine PQ.seq ?_
  refine CW.seq ?_
  refine CW.cond rfl (fun h12 => ?_) (fun h12 => ?_)
  · replace h12 := bT h12
    have hk9 : k.1 < l.length := by omega
    obtain ⟨bb1, o1, x, rfl, hb1, hx1, hr1⟩ := V.slAt_at hT.1 (by simp) (k := k.1) hk9
    obtain ⟨xs, hl1⟩ := map_atL hx1
    refine CW.skip ?_
    refine PQ.seq ?_
    refine CW.seq ?_
    refine CW.block ?_
    refine CW.seq ?_
    refine CW.region ?_
    refine LW.v rfl rfl (Val.move rfl) ?_
    first | (refine LW.v rfl rfl (Val.indexAddrN rfl rfl Tryz.underlying38 Tryz.sizeOf41 (by omega)) ?_) | (refine LW.v rfl rfl (Val.indexAddr rfl rfl Tryz.underlying38 Tryz.sizeOf41 (by omega) (by omega)) ?_)
    refine LW.v rfl rfl (Val.loadOA (cs := lfC x) rfl Tryz.isAgg41 hb1 (by simp [ids]) (hr1 k.1 x hx1) Tryz.sizeOf41) ?_
    refine LW.e rfl rfl (Eff.allocA (by exact Tryz.zeroValue41)) ?_
    intro b5 _
    refine LW.v rfl rfl (Val.assign rfl) ?_
    refine LW.eN rfl (Eff.storeW (cs := lfC x) rfl rfl (by repeat (first | exact .here | exact .inner .here | exact .inner (.inner .here) | apply Upd.there)) (by rfl) Tryz.sizeOf41 (by rfl)) ?_
    intro _ _
    refine LW.nil ?_
    refine PQ.seq ?_
    refine CW.seq ?_
    refine CW.region ?_
    refine LW.v rfl rfl (Val.move rfl) ?_
    refine LW.v rfl rfl (Val.fieldAddr 0 rfl Tryz.underlying41 rfl rfl Tryz.sizeOf3) ?_
    refine LW.v rfl rfl (Val.load rfl Tryz.isAgg3 (by repeat (first | exact .here | exact .inner .here | exact .inner (.inner .here) | refine .there ?_)) (by rfl)) ?_
    refine LW.v rfl rfl (Val.fieldAddr 2 rfl Tryz.underlying41 rfl rfl Tryz.sizeOf39) ?_
    refine LW.v rfl rfl (Val.load rfl Tryz.isAgg39 (by repeat (first | exact .here | exact .inner .here | exact .inner (.inner .here) | refine .there ?_)) (by rfl)) ?_
    refine LW.v rfl rfl (Val.build [_, _] Tryz.zeroValue73 Tryz.underlying73 places73 rfl (by rfl)) ?_
    refine LW.v rfl rfl (Val.wlookup (k := lfK x) rfl rfl Tryz.underlying70 k2W (by intro w; exact Tryz.zeroValue3 w) (by repeat (first | exact .here | exact .inner .here | exact .inner (.inner .here) | refine .there ?_))) ?_
    refine LW.v rfl rfl (Val.move rfl) ?_
    refine LW.v rfl rfl (Val.extract rfl rfl) ?_
    refine LW.v rfl rfl (Val.extract rfl rfl) ?_
    refine LW.v rfl rfl (Val.assign rfl) ?_
    refine LW.v rfl rfl (Val.assign rfl) ?_
    refine LW.nil ?_
    refine PQ.seq ?_
    refine CW.seq ?_
    refine CW.seq ?_
    refine CW.region ?_
    refine LW.v rfl rfl (Val.move rfl) ?_
    refine LW.v rfl rfl (Val.not rfl) ?_
    refine LW.nil ?_
    refine PQ.seq ?_
    refine CW.cond rfl (fun h27 => ?_) (fun h27 => ?_)
    · replace h27 := bT h27
      have h27 : wget k.2.1 (lfK x) = none := by simpa using h27
      refine CW.seq ?_
      refine CW.region ?_
      refine LW.v rfl rfl (Val.move rfl) ?_
      refine LW.v rfl rfl (Val.fieldAddr 0 rfl Tryz.underlying41 rfl rfl Tryz.sizeOf3) ?_
      refine LW.v rfl rfl (Val.load rfl Tryz.isAgg3 (by repeat (first | exact .here | exact .inner .here | exact .inner (.inner .here) | refine .there ?_)) (by rfl)) ?_
      refine LW.v rfl rfl (Val.fieldAddr 2 rfl Tryz.underlying41 rfl rfl Tryz.sizeOf39) ?_
      refine LW.v rfl rfl (Val.load rfl Tryz.isAgg39 (by repeat (first | exact .here | exact .inner .here | exact .inner (.inner .here) | refine .there ?_)) (by rfl)) ?_
      refine LW.v rfl rfl (Val.build [_, _] Tryz.zeroValue73 Tryz.underlying73 places73 rfl (by rfl)) ?_
      refine LW.v rfl rfl (Val.move rfl) ?_
      refine LW.eN rfl (Eff.wnew (k := lfK x) rfl rfl rfl Tryz.underlying70 k2W (by repeat (first | exact .here | exact .inner .here | exact .inner (.inner .here) | apply Upd.there)) (V.wfind_none h27)) ?_
      intro _ _
      refine LW.nil ?_
      refine PQ.seq ?_
      refine CW.exit ?_
      refine PQ.then_exit ?_
      refine PQ.in_here ?_
      refine PQ.seq ?_
      refine CW.region ?_
      refine LW.v rfl rfl (Val.ar rfl rfl rfl (IntWalk.i64_in _ (by omega))) ?_
      refine LW.v rfl rfl (Val.move rfl) ?_
      refine LW.nil ?_
      refine PQ.round ((k.1 + 1, k.2.1 ++ [(k.2.2, lfK x, .int .i64 (k.1 : Nat))], k.2.2 + 1)) ⟨by simp only; omega, hk2.fresh hl1 h27⟩ (by simp only; omega) (by repeat (first | exact trivial | refine ⟨rfl, ?_⟩)) (by repeat (first | exact .nil | apply Pick.cons | exact .here | apply Ext.there))
    · replace h27 := bF h27
      have h27 : (wget k.2.1 (lfK x)).isSome = true := by simpa using h27
      obtain ⟨vv, hvv⟩ := Option.isSome_iff_exists.1 h27
      obtain ⟨j, ⟨y0, ys0⟩, hjk, hl20, rfl, hkk0⟩ := hk2.a _ _ hvv
      have hj9 : j < l.length := by omega
      obtain ⟨bb2, o2, y, hpp2, hb2, hx2, hr2⟩ := V.slAt_at hT.1 (by simp) (k := j) hj9
      cases hpp2
      obtain ⟨ys, hl2⟩ := map_atL hx2
      have hkk : lfK y = lfK x := by
        rw [hl2] at hl20
        cases hl20
        exact hkk0
      clear hkk0 hl20
      refine CW.skip ?_
      refine PQ.seq ?_
      refine CW.seq ?_
      refine CW.quiet mixed (by kernel_rfl) ?_
      refine QW.v rfl rfl (Val.move rfl) ?_
      refine V.QW.re 6 (.int .i64 (j : Nat)) rfl (by rw [hvv]; rfl) ?_
      refine QW.v rfl rfl (Val.move rfl) ?_
      refine QW.v rfl rfl (Val.indexAddrN rfl rfl Tryz.underlying38 Tryz.sizeOf41 hj9) ?_
      refine QW.v rfl rfl (Val.fieldAddr 3 rfl Tryz.underlying41 rfl rfl Tryz.sizeOf34) ?_
      refine QW.v rfl rfl (Val.loadOA (cs := y.s.cells) rfl Tryz.isAgg34 hb2 (by simp [ids]) (fun q v hv => by have h9 := hr2 j y hx2 (3 + q) v (lf_sh hv); rwa [← Nat.add_assoc] at h9) Tryz.sizeOf34) ?_
      refine QW.v rfl rfl (Val.fieldAddr 3 rfl Tryz.underlying41 rfl rfl Tryz.sizeOf34) ?_
      refine QW.v rfl rfl (Val.loadA x.s.cells (r := []) rfl Tryz.isAgg34 (by repeat (first | exact .here | exact .inner .here | exact .inner (.inner .here) | refine .there ?_)) (by rfl) Tryz.sizeOf34) ?_
      refine QW.c rfl rfl (Qcall.of rfl Tryz.call29 (fun w hw => same_c y.s x.s ys xs w ((hT.2 _ (List.mem_of_getElem? hl2)).1.hp hw (by simp [ids])) ((hT.2 _ (List.mem_of_getElem? hl1)).1.hp hw (by simp [ids])) (hT.2 _ (List.mem_of_getElem? hl2)).2)) ?_
      refine QW.v rfl rfl (Val.not rfl) ?_
      refine QW.nil ?_
      refine PQ.seq ?_
      refine CW.cond rfl (fun h43 => ?_) (fun h43 => ?_)
      · replace h43 := bT h43
        have h43 : ys ≠ xs := by simpa using h43
        refine CW.seq ?_
        refine CW.region ?_
        refine LW.v rfl rfl (Val.assign rfl) ?_
        refine LW.nil ?_
        refine PQ.seq ?_
        refine CW.ret ?_
        refine PQ.in_ret ?_
        refine PQ.then_ret ?_
        refine PQ.then_ret ?_
        refine PQ.in_ret ?_
        refine PQ.then_ret ?_
        refine PQ.ret1 rfl rfl ?_
        intro w' hw; exact ⟨by rw [alikeF_no hl2 hl1 hkk h43], hw.below⟩
      · replace h43 := bF h43
        have h43 : ys = xs := by simpa using h43
        refine CW.skip ?_
        refine PQ.in_normal ?_
        refine PQ.seq ?_
        refine CW.region ?_
        refine LW.v rfl rfl (Val.ar rfl rfl rfl (IntWalk.i64_in _ (by omega))) ?_
        refine LW.v rfl rfl (Val.move rfl) ?_
        refine LW.nil ?_
        refine PQ.round ((k.1 + 1, k.2.1, k.2.2)) ⟨by simp only; omega, hk2.old hl1 hjk hl2 hvv hkk h43⟩ (by simp only; omega) (by repeat (first | exact trivial | refine ⟨rfl, ?_⟩)) (by repeat (first | exact .nil | apply Pick.cons | exact .here | apply Ext.there))
  · replace h12 := bF h12
    have hk9 : l.length ≤ k.1 := by omega
    refine CW.exit ?_
    refine PQ.then_exit ?_
    refine PQ.then_exit ?_
    refine PQ.in_here ?_
    refine PQ.seq ?_
    refine CW.seq ?_
    refine CW.region ?_
    refine LW.v rfl rfl (Val.assign rfl) ?_
    refine LW.nil ?_
    refine PQ.seq ?_
    refine CW.ret ?_
    refine PQ.ret1 rfl rfl ?_
    intro w' hw; exact ⟨by rw [hk2.end hk9], hw.below⟩
def UpA (l : List LR) (k : Nat) : Prop := ∀ (i j : Nat) (x y : LR), i < k → j < i → l[i]? = some x → l[j]? = some y → lfK y.1 = lfK x.1 → y.2 = x.2
def UpB (l : List LR) (k j : Nat) : Prop := ∀ (i : Nat) (x y : LR), i < j → l[k]? = some x → l[i]? = some y → lfK y.1 = lfK x.1 → y.2 = x.2
theorem UpB.step {l : List LR} {k j : Nat} {x y : LR} (h : UpB l k j) (hx : l[k]? = some x) (hy : l[j]? = some y) (e : lfK y.1 = lfK x.1 → y.2 = x.2) : UpB l k (j + 1) := fun i a b hi ha hb hk => by
  by_cases e9 : i = j
  · subst e9; rw [hx] at ha; rw [hy] at hb; cases ha; cases hb; exact e hk
  · exact h i a b (by omega) ha hb hk
theorem UpA.step {l : List LR} {k j : Nat} (h : UpA l k) (h2 : UpB l k j) (hj : k ≤ j) : UpA l (k + 1) := fun a b x y ha hb hx hy hk => by
  by_cases e : a = k
  · subst e; exact h2 b x y (by omega) hx hy hk
  · exact h a b x y (by omega) hb hx hy hk
theorem UpA.end {l : List LR} {k : Nat} (h : UpA l k) (hk : l.length ≤ k) : alikeF l = true := alikeF_yes fun x hx y hy e => by
  obtain ⟨i, hi⟩ := List.mem_iff_getElem?.1 hx
  obtain ⟨j, hj⟩ := List.mem_iff_getElem?.1 hy
  have hil := (List.getElem?_eq_some_iff.1 hi).1
  have hjl := (List.getElem?_eq_some_iff.1 hj).1
  rcases Nat.lt_trichotomy i j with h9 | h9 | h9
  · exact h j i y x (by omega) h9 hj hi e
  · subst h9; rw [hi] at hj; cases hj; rfl
  · exact (h i j x y (by omega) h9 hi hj e.symm).symm
theorem ralike_c (l : List LR) (p : Option Addr) (n c : Nat) (hn : n = l.length) (hl : l.length ≤ 1000) (w : World) (hT : LfsR w p l) : Calls Tryz.prog 15 [.slice p n c].toArray w fun e w' => e = .returned (.bool (alikeF l)) ∧ Below w.heap.size w w' := by
  subst hn
  refine V.calls [] Tryz.func15 rfl Tryz.ntmps15 (Nat.le_of_ble_eq_true rfl) (V.sat_nil _) ?_
  refine CW.seq ?_
  refine CW.region ?_
  refine LW.v rfl rfl (Val.assign rfl) ?_
  refine LW.nil ?_
  refine PQ.seq ?_
  refine CW.seq ?_
  refine CW.seq ?_
  refine CW.region ?_
  refine LW.v rfl rfl (Val.assign rfl) ?_
  refine LW.nil ?_
  refine PQ.seq ?_
  refine CW.block ?_
  refine CW.loop (γ := Nat) (fun k => [(0, .slice p l.length c), (3, .int .i64 (k : Nat))]) (fun _ => []) (fun k => k ≤ l.length ∧ UpA l k) (fun k => l.length - k) (0) ⟨Nat.zero_le _, fun i j x y h => absurd h (Nat.not_lt_zero _)⟩ (by repeat (first | exact trivial | refine ⟨rfl, ?_⟩)) (by repeat (first | exact .nil | apply Pick.cons | exact .here | apply Ext.there)) ?_
  intro k
  rintro ⟨hk1, hk2⟩
  refine CW.seq ?_
  refine CW.seq ?_
  refine CW.region ?_
  refine LW.v rfl rfl (Val.move rfl) ?_
  refine LW.v rfl rfl (Val.move rfl) ?_
  refine LW.v rfl rfl (Val.lenSl rfl Tryz.underlying38) ?_
  refine LW.v rfl rfl (Val.cmp rfl rfl rfl) ?_
  refine LW.nil ?_
  refine PQ.seq ?_
  refine CW.cond rfl (fun h8 => ?_) (fun h8 => ?_)
  · replace h8 := bT h8
    have hk9 : k < l.length := by omega
    obtain ⟨bb1, o1, x, rfl, hb1, hx1, hr1⟩ := V.slAt_at hT.1 (by simp) (k := k) hk9
    obtain ⟨xs, hl1⟩ := map_atL hx1
    refine CW.skip ?_
    refine PQ.seq ?_
    refine CW.seq ?_
    refine CW.block ?_
    refine CW.seq ?_
    refine CW.region ?_
    refine LW.v rfl rfl (Val.assign rfl) ?_
    refine LW.nil ?_
    refine PQ.seq ?_
    refine CW.block ?_
    refine CW.loop (γ := Nat) (fun j => [(0, .slice (some ⟨bb1, o1, none⟩) l.length c), (3, .int .i64 (k : Nat)), (4, .int .i64 (j : Nat))]) (fun _ => []) (fun j => j ≤ k ∧ UpB l k j) (fun j => k - j) (0) ⟨Nat.zero_le _, fun i x y h => absurd h (Nat.not_lt_zero _)⟩ (by repeat (first | exact trivial | refine ⟨rfl, ?_⟩)) (by repeat (first | exact .nil | apply Pick.cons | exact .here | apply Ext.there)) ?_
    intro j
    rintro ⟨hj1, hj2⟩
    refine CW.seq ?_
    refine CW.seq ?_
    refine CW.region ?_
    refine LW.v rfl rfl (Val.move rfl) ?_
    refine LW.v rfl rfl (Val.move rfl) ?_
    refine LW.v rfl rfl (Val.cmp rfl rfl rfl) ?_
    refine LW.nil ?_
    refine PQ.seq ?_
    refine CW.cond rfl (fun h13 => ?_) (fun h13 => ?_)
    · replace h13 := bT h13
      have hj9 : j < k := by omega
      have hj8 : j < l.length := by omega
      obtain ⟨bb2, o2, y, hpp2, hb2, hx2, hr2⟩ := V.slAt_at hT.1 (by simp) (k := j) hj8
      cases hpp2
      obtain ⟨ys, hl2⟩ := map_atL hx2
      refine CW.skip ?_
      refine PQ.seq ?_
      refine CW.seq ?_
      refine CW.block ?_
      refine CW.seq ?_
      refine CW.quiet mixed (by kernel_rfl) ?_
      refine QW.v rfl rfl (Val.move rfl) ?_
      refine QW.v rfl rfl (Val.move rfl) ?_
      refine QW.v rfl rfl (Val.indexAddrN rfl rfl Tryz.underlying38 Tryz.sizeOf41 hj8) ?_
      refine QW.v rfl rfl (Val.fieldAddr 0 rfl Tryz.underlying41 rfl rfl Tryz.sizeOf3) ?_
      refine QW.v rfl rfl (Val.loadO rfl Tryz.isAgg3 hb2 (by simp [ids]) (hr2 j y hx2 0 _ rfl)) ?_
      refine QW.v rfl rfl (Val.move rfl) ?_
      refine QW.v rfl rfl (Val.move rfl) ?_
      refine QW.v rfl rfl (Val.indexAddrN rfl rfl Tryz.underlying38 Tryz.sizeOf41 hk9) ?_
      refine QW.v rfl rfl (Val.fieldAddr 0 rfl Tryz.underlying41 rfl rfl Tryz.sizeOf3) ?_
      refine QW.v rfl rfl (Val.loadO rfl Tryz.isAgg3 hb1 (by simp [ids]) (hr1 k x hx1 0 _ rfl)) ?_
      refine QW.v rfl rfl (Val.cmp rfl rfl rfl) ?_
      refine QW.split (d := 26) rfl (fun h26 => ?_) (fun h26 => ?_)
      · replace h26 := bT h26
        have h26 : y.atm = x.atm := by simpa using h26
        refine QW.v rfl rfl (Val.move rfl) ?_
        refine QW.v rfl rfl (Val.move rfl) ?_
        refine QW.v rfl rfl (Val.move rfl) ?_
        refine QW.v rfl rfl (Val.indexAddrN rfl rfl Tryz.underlying38 Tryz.sizeOf41 hj8) ?_
        refine QW.v rfl rfl (Val.fieldAddr 2 rfl Tryz.underlying41 rfl rfl Tryz.sizeOf39) ?_
        refine QW.v rfl rfl (Val.loadO rfl Tryz.isAgg39 hb2 (by simp [ids]) (hr2 j y hx2 2 _ rfl)) ?_
        refine QW.v rfl rfl (Val.move rfl) ?_
        refine QW.v rfl rfl (Val.move rfl) ?_
        refine QW.v rfl rfl (Val.indexAddrN rfl rfl Tryz.underlying38 Tryz.sizeOf41 hk9) ?_
        refine QW.v rfl rfl (Val.fieldAddr 2 rfl Tryz.underlying41 rfl rfl Tryz.sizeOf39) ?_
        refine QW.v rfl rfl (Val.loadO rfl Tryz.isAgg39 hb1 (by simp [ids]) (hr1 k x hx1 2 _ rfl)) ?_
        refine QW.v rfl rfl (Val.cmp rfl rfl rfl) ?_
        refine QW.v rfl rfl (Val.pick_t rfl rfl) ?_
        refine QW.split (d := 39) rfl (fun h39 => ?_) (fun h39 => ?_)
        · replace h39 := bT h39
          have h39 : y.ep = x.ep := by simpa using h39
          refine QW.v rfl rfl (Val.move rfl) ?_
          refine QW.v rfl rfl (Val.move rfl) ?_
          refine QW.v rfl rfl (Val.move rfl) ?_
          refine QW.v rfl rfl (Val.indexAddrN rfl rfl Tryz.underlying38 Tryz.sizeOf41 hj8) ?_
          refine QW.v rfl rfl (Val.fieldAddr 3 rfl Tryz.underlying41 rfl rfl Tryz.sizeOf34) ?_
          refine QW.v rfl rfl (Val.loadOA (cs := y.s.cells) rfl Tryz.isAgg34 hb2 (by simp [ids]) (fun q v hv => by have h9 := hr2 j y hx2 (3 + q) v (lf_sh hv); rwa [← Nat.add_assoc] at h9) Tryz.sizeOf34) ?_
          refine QW.v rfl rfl (Val.move rfl) ?_
          refine QW.v rfl rfl (Val.move rfl) ?_
          refine QW.v rfl rfl (Val.indexAddrN rfl rfl Tryz.underlying38 Tryz.sizeOf41 hk9) ?_
          refine QW.v rfl rfl (Val.fieldAddr 3 rfl Tryz.underlying41 rfl rfl Tryz.sizeOf34) ?_
          refine QW.v rfl rfl (Val.loadOA (cs := x.s.cells) rfl Tryz.isAgg34 hb1 (by simp [ids]) (fun q v hv => by have h9 := hr1 k x hx1 (3 + q) v (lf_sh hv); rwa [← Nat.add_assoc] at h9) Tryz.sizeOf34) ?_
          refine QW.c rfl rfl (Qcall.of rfl Tryz.call30 (fun w hw => rsame_c y.s x.s ys xs w ((hT.2 _ (List.mem_of_getElem? hl2)).1.hp hw (by simp [ids])) ((hT.2 _ (List.mem_of_getElem? hl1)).1.hp hw (by simp [ids])) (hT.2 _ (List.mem_of_getElem? hl2)).2)) ?_
          refine QW.v rfl rfl (Val.not rfl) ?_
          refine QW.v rfl rfl (Val.pick_t rfl rfl) ?_
          refine QW.nil ?_
          refine PQ.seq ?_
          refine CW.cond rfl (fun h53 => ?_) (fun h53 => ?_)
          · replace h53 := bT h53
            have h53 : ys ≠ xs := by simpa using h53
            refine CW.seq ?_
            refine CW.region ?_
            refine LW.v rfl rfl (Val.assign rfl) ?_
            refine LW.nil ?_
            refine PQ.seq ?_
            refine CW.ret ?_
            refine PQ.in_ret ?_
            refine PQ.then_ret ?_
            refine PQ.then_ret ?_
            refine PQ.in_ret ?_
            refine PQ.in_ret ?_
            refine PQ.then_ret ?_
            refine PQ.then_ret ?_
            refine PQ.in_ret ?_
            refine PQ.then_ret ?_
            refine PQ.ret1 rfl rfl ?_
            intro w' hw; exact ⟨by rw [alikeF_no hl2 hl1 (by simp only [lfK, h26, h39]) h53], hw.below⟩
          · replace h53 := bF h53
            have h53 : ys = xs := by simpa using h53
            refine CW.skip ?_
            refine PQ.in_normal ?_
            refine PQ.seq ?_
            refine CW.region ?_
            refine LW.v rfl rfl (Val.move rfl) ?_
            refine LW.v rfl rfl (Val.ar rfl rfl rfl (IntWalk.i64_in _ (by omega))) ?_
            refine LW.v rfl rfl (Val.assign rfl) ?_
            refine LW.nil ?_
            refine PQ.round (j + 1) ⟨by omega, hj2.step hl1 hl2 (fun e => by first | exact h53 | exact absurd e h39 | exact absurd (congrArg Prod.fst e) h26)⟩ (by omega) (by repeat (first | exact trivial | refine ⟨rfl, ?_⟩)) (by repeat (first | exact .nil | apply Pick.cons | exact .here | apply Ext.there))
        · replace h39 := bF h39
          have h39 : ¬ (lfK y = lfK x) := fun e => by simp_all [lfK]
          refine QW.v rfl rfl (Val.move rfl) ?_
          refine QW.p rfl rfl ?_
          refine QW.p rfl rfl ?_
          refine QW.p rfl rfl ?_
          refine QW.p rfl rfl ?_
          refine QW.p rfl rfl ?_
          refine QW.p rfl rfl ?_
          refine QW.p rfl rfl ?_
          refine QW.p rfl rfl ?_
          refine QW.p rfl rfl ?_
          refine QW.p rfl rfl ?_
          refine QW.p rfl rfl ?_
          refine QW.p rfl rfl ?_
          refine QW.v rfl rfl (Val.pick_f rfl rfl) ?_
          refine QW.nil ?_
          refine PQ.seq ?_
          refine CW.cond_f rfl ?_
          refine CW.skip ?_
          refine PQ.in_normal ?_
          refine PQ.seq ?_
          refine CW.region ?_
          refine LW.v rfl rfl (Val.move rfl) ?_
          refine LW.v rfl rfl (Val.ar rfl rfl rfl (IntWalk.i64_in _ (by omega))) ?_
          refine LW.v rfl rfl (Val.assign rfl) ?_
          refine LW.nil ?_
          refine PQ.round (j + 1) ⟨by omega, hj2.step hl1 hl2 (fun e => by first | exact h53 | exact absurd e h39 | exact absurd (congrArg Prod.fst e) h26)⟩ (by omega) (by repeat (first | exact trivial | refine ⟨rfl, ?_⟩)) (by repeat (first | exact .nil | apply Pick.cons | exact .here | apply Ext.there))
      · replace h26 := bF h26
        have h26 : y.atm ≠ x.atm := by simpa using h26
        refine QW.v rfl rfl (Val.move rfl) ?_
        refine QW.p rfl rfl ?_
        refine QW.p rfl rfl ?_
        refine QW.p rfl rfl ?_
        refine QW.p rfl rfl ?_
        refine QW.p rfl rfl ?_
        refine QW.p rfl rfl ?_
        refine QW.p rfl rfl ?_
        refine QW.p rfl rfl ?_
        refine QW.p rfl rfl ?_
        refine QW.p rfl rfl ?_
        refine QW.p rfl rfl ?_
        refine QW.v rfl rfl (Val.pick_f rfl rfl) ?_
        refine QW.v rfl rfl (Val.move rfl) ?_
        refine QW.p rfl rfl ?_
        refine QW.p rfl rfl ?_
        refine QW.p rfl rfl ?_
        refine QW.p rfl rfl ?_
        refine QW.p rfl rfl ?_
        refine QW.p rfl rfl ?_
        refine QW.p rfl rfl ?_
        refine QW.p rfl rfl ?_
        refine QW.p rfl rfl ?_
        refine QW.p rfl rfl ?_
        refine QW.p rfl rfl ?_
        refine QW.p rfl rfl ?_
        refine QW.v rfl rfl (Val.pick_f rfl rfl) ?_
        refine QW.nil ?_
        refine PQ.seq ?_
        refine CW.cond_f rfl ?_
        refine CW.skip ?_
        refine PQ.in_normal ?_
        refine PQ.seq ?_
        refine CW.region ?_
        refine LW.v rfl rfl (Val.move rfl) ?_
        refine LW.v rfl rfl (Val.ar rfl rfl rfl (IntWalk.i64_in _ (by omega))) ?_
        refine LW.v rfl rfl (Val.assign rfl) ?_
        refine LW.nil ?_
        refine PQ.round (j + 1) ⟨by omega, hj2.step hl1 hl2 (fun e => by first | exact h53 | exact absurd e h39 | exact absurd (congrArg Prod.fst e) h26)⟩ (by omega) (by repeat (first | exact trivial | refine ⟨rfl, ?_⟩)) (by repeat (first | exact .nil | apply Pick.cons | exact .here | apply Ext.there))
    · replace h13 := bF h13
      have hj9 : k ≤ j := by omega
      refine CW.exit ?_
      refine PQ.then_exit ?_
      refine PQ.then_exit ?_
      refine PQ.in_here ?_
      refine PQ.in_normal ?_
      refine PQ.seq ?_
      refine CW.region ?_
      refine LW.v rfl rfl (Val.move rfl) ?_
      refine LW.v rfl rfl (Val.ar rfl rfl rfl (IntWalk.i64_in _ (by omega))) ?_
      refine LW.v rfl rfl (Val.assign rfl) ?_
      refine LW.nil ?_
      refine PQ.round (k + 1) ⟨by omega, hk2.step hj2 hj9⟩ (by omega) (by repeat (first | exact trivial | refine ⟨rfl, ?_⟩)) (by repeat (first | exact .nil | apply Pick.cons | exact .here | apply Ext.there))
  · replace h8 := bF h8
    have hk9 : l.length ≤ k := by omega
    refine CW.exit ?_
    refine PQ.then_exit ?_
    refine PQ.then_exit ?_
    refine PQ.in_here ?_
    refine PQ.seq ?_
    refine CW.seq ?_
    refine CW.region ?_
    refine LW.v rfl rfl (Val.assign rfl) ?_
    refine LW.nil ?_
    refine PQ.seq ?_
    refine CW.ret ?_
    refine PQ.ret1 rfl rfl ?_
    intro w' hw; exact ⟨by rw [hk2.end hk9], hw.below⟩
end I
end Go.Proofs.YtlpbjmbgopfkhaaGreat

/- The row EveryApart, walked; what stops left behind that came in: their cells. -/
namespace Go.Proofs.YtlpbjmbgopfkhaaGreat
open Go Go.RowKit V
set_option linter.unusedVariables false
set_option maxRecDepth 100000
namespace I
open V (str byC ownV ownG ownS ownOk)
theorem everyApart_c (l : List LR) (p : Option Addr) (n c : Nat) (hn : n = l.length) (w : World) (hT : LfsR w p l) : Calls Tryz.prog 4 [.slice p n c].toArray w fun e w' => e = .returned (.bool true) ∧ Below w.heap.size w w' := by
  subst hn
  refine V.calls [] Tryz.func4 rfl Tryz.ntmps4 (Nat.le_of_ble_eq_true rfl) (V.sat_nil _) ?_
  refine CW.seq ?_
  refine CW.region ?_
  refine LW.v rfl rfl (Val.assign rfl) ?_
  refine LW.nil ?_
  refine PQ.seq ?_
  refine CW.seq ?_
  refine CW.seq ?_
  refine CW.region ?_
  refine LW.v rfl rfl (Val.move rfl) ?_
  refine LW.v rfl rfl (Val.lenSl rfl Tryz.underlying38) ?_
  refine LW.v rfl rfl (Val.cmp rfl rfl rfl) ?_
  refine LW.nil ?_
  refine PQ.seq ?_
  refine CW.cond rfl (fun h6 => ?_) (fun h6 => ?_)
  · replace h6 := bT h6
    refine CW.seq ?_
    refine CW.region ?_
    refine LW.e rfl rfl (Eff.callV rfl Tryz.call8 (fun w hw => awake_c w)) ?_
    intro _ _
    refine LW.v rfl rfl (Val.assign rfl) ?_
    refine LW.nil ?_
    refine PQ.seq ?_
    refine CW.ret ?_
    refine PQ.then_ret ?_
    refine PQ.ret1 rfl rfl ?_
    intro w' hw; exact ⟨rfl, hw.below⟩
  · replace h6 := bF h6
    have h6 : (l.length : Int) ≤ 40 := h6
    refine CW.skip ?_
    refine PQ.seq ?_
    refine CW.seq ?_
    refine CW.seq ?_
    refine CW.region ?_
    refine LW.v rfl rfl (Val.assign rfl) ?_
    refine LW.nil ?_
    refine PQ.seq ?_
    refine CW.block ?_
    refine CW.loop (γ := Nat) (fun k => [(0, .slice p l.length c), (3, .int .i64 (k : Nat))]) (fun _ => []) (fun k => k ≤ l.length) (fun k => l.length - k) (0) (Nat.zero_le _) (by repeat (first | exact trivial | refine ⟨rfl, ?_⟩)) (by repeat (first | exact .nil | apply Pick.cons | exact .here | apply Ext.there)) ?_
    intro k
    intro hk1
    refine CW.seq ?_
    refine CW.seq ?_
    refine CW.region ?_
    refine LW.v rfl rfl (Val.move rfl) ?_
    refine LW.v rfl rfl (Val.move rfl) ?_
    refine LW.v rfl rfl (Val.lenSl rfl Tryz.underlying38) ?_
    refine LW.v rfl rfl (Val.cmp rfl rfl rfl) ?_
    refine LW.nil ?_
    refine PQ.seq ?_
    refine CW.cond rfl (fun h11 => ?_) (fun h11 => ?_)
    · replace h11 := bT h11
      have hk9 : k < l.length := by omega
      obtain ⟨bb1, o1, x, rfl, hb1, hx1, hr1⟩ := V.slAt_at hT.1 (by simp) (k := k) hk9
      refine CW.skip ?_
      refine PQ.seq ?_
      refine CW.seq ?_
      refine CW.block ?_
      refine CW.seq ?_
      refine CW.region ?_
      refine LW.v rfl rfl (Val.move rfl) ?_
      refine LW.v rfl rfl (Val.move rfl) ?_
      refine LW.v rfl rfl (Val.indexAddrN rfl rfl Tryz.underlying38 Tryz.sizeOf41 hk9) ?_
      refine LW.v rfl rfl (Val.fieldAddr 3 rfl Tryz.underlying41 rfl rfl Tryz.sizeOf34) ?_
      refine LW.v rfl rfl (Val.fieldAddr 0 rfl Tryz.underlying34 rfl rfl Tryz.sizeOf31) ?_
      refine LW.v rfl rfl (Val.loadO rfl Tryz.isAgg31 hb1 (by simp [ids]) (hr1 k x hx1 3 _ rfl)) ?_
      refine LW.v rfl rfl (Val.lenSl rfl Tryz.underlying31) ?_
      refine LW.v rfl rfl (Val.cmp rfl rfl rfl) ?_
      refine LW.split (d := 21) rfl (fun h21 => ?_) (fun h21 => ?_)
      · replace h21 := bT h21
        refine LW.v rfl rfl (Val.move rfl) ?_
        refine LW.p rfl rfl ?_
        refine LW.p rfl rfl ?_
        refine LW.p rfl rfl ?_
        refine LW.p rfl rfl ?_
        refine LW.p rfl rfl ?_
        refine LW.p rfl rfl ?_
        refine LW.p rfl rfl ?_
        refine LW.p rfl rfl ?_
        refine LW.v rfl rfl (Val.pick_t rfl rfl) ?_
        refine LW.nil ?_
        refine PQ.seq ?_
        refine CW.cond_t rfl ?_
        refine CW.seq ?_
        refine CW.region ?_
        refine LW.e rfl rfl (Eff.callV rfl Tryz.call8 (fun w hw => awake_c w)) ?_
        intro _ _
        refine LW.v rfl rfl (Val.assign rfl) ?_
        refine LW.nil ?_
        refine PQ.seq ?_
        refine CW.ret ?_
        refine PQ.in_ret ?_
        refine PQ.then_ret ?_
        refine PQ.then_ret ?_
        refine PQ.in_ret ?_
        refine PQ.then_ret ?_
        refine PQ.ret1 rfl rfl ?_
        intro w' hw; exact ⟨rfl, hw.below⟩
      · replace h21 := bF h21
        refine LW.v rfl rfl (Val.move rfl) ?_
        refine LW.v rfl rfl (Val.move rfl) ?_
        refine LW.v rfl rfl (Val.move rfl) ?_
        refine LW.v rfl rfl (Val.indexAddrN rfl rfl Tryz.underlying38 Tryz.sizeOf41 hk9) ?_
        refine LW.v rfl rfl (Val.fieldAddr 3 rfl Tryz.underlying41 rfl rfl Tryz.sizeOf34) ?_
        refine LW.v rfl rfl (Val.fieldAddr 1 rfl Tryz.underlying34 rfl rfl Tryz.sizeOf32) ?_
        refine LW.v rfl rfl (Val.loadO rfl Tryz.isAgg32 hb1 (by simp [ids]) (hr1 k x hx1 4 _ rfl)) ?_
        refine LW.v rfl rfl (Val.lenSl rfl Tryz.underlying32) ?_
        refine LW.v rfl rfl (Val.cmp rfl rfl rfl) ?_
        refine LW.v rfl rfl (Val.pick_f rfl rfl) ?_
        refine LW.nil ?_
        refine PQ.seq ?_
        refine CW.cond rfl (fun h31 => ?_) (fun h31 => ?_)
        · replace h31 := bT h31
          refine CW.seq ?_
          refine CW.region ?_
          refine LW.e rfl rfl (Eff.callV rfl Tryz.call8 (fun w hw => awake_c w)) ?_
          intro _ _
          refine LW.v rfl rfl (Val.assign rfl) ?_
          refine LW.nil ?_
          refine PQ.seq ?_
          refine CW.ret ?_
          refine PQ.in_ret ?_
          refine PQ.then_ret ?_
          refine PQ.then_ret ?_
          refine PQ.in_ret ?_
          refine PQ.then_ret ?_
          refine PQ.ret1 rfl rfl ?_
          intro w' hw; exact ⟨rfl, hw.below⟩
        · replace h31 := bF h31
          refine CW.skip ?_
          refine PQ.in_normal ?_
          refine PQ.seq ?_
          refine CW.region ?_
          refine LW.v rfl rfl (Val.move rfl) ?_
          refine LW.v rfl rfl (Val.ar rfl rfl rfl (IntWalk.i64_in _ (by omega))) ?_
          refine LW.v rfl rfl (Val.assign rfl) ?_
          refine LW.nil ?_
          refine PQ.round (k + 1) (by omega) (by omega) (by repeat (first | exact trivial | refine ⟨rfl, ?_⟩)) (by repeat (first | exact .nil | apply Pick.cons | exact .here | apply Ext.there))
    · replace h11 := bF h11
      have hk9 : l.length ≤ k := by omega
      refine CW.exit ?_
      refine PQ.then_exit ?_
      refine PQ.then_exit ?_
      refine PQ.in_here ?_
      refine PQ.seq ?_
      refine CW.seq ?_
      refine CW.region ?_
      refine LW.v rfl rfl (Val.move rfl) ?_
      refine LW.e rfl rfl (Eff.callV rfl Tryz.call14 (fun w hw => alike_c l p _ c rfl (by omega) w (hT.hp hw))) ?_
      intro _ _
      refine LW.v rfl rfl (Val.move rfl) ?_
      refine LW.e rfl rfl (Eff.callV rfl Tryz.call15 (fun w hw => ralike_c l p _ c rfl (by omega) w (hT.hp hw))) ?_
      intro _ _
      refine LW.v rfl rfl (Val.eqB rfl rfl Tryz.underlying4) ?_
      refine LW.v rfl rfl (Val.move rfl) ?_
      refine LW.re 38 (.bool true) rfl (by simp) ?_
      refine LW.e rfl rfl (Eff.callV rfl Tryz.call8 (fun w hw => awake_c w)) ?_
      intro _ _
      refine LW.v rfl rfl (Val.pick_t rfl rfl) ?_
      refine LW.v rfl rfl (Val.assign rfl) ?_
      refine LW.nil ?_
      refine PQ.seq ?_
      refine CW.ret ?_
      refine PQ.ret1 rfl rfl ?_
      intro w' hw; exact ⟨rfl, hw.below⟩
section
variable {H : Type} {enc : TypeId × Value → H} {P : Program} {w : World} {base : Nat} {spare : Nat → Bool} {held : Bool} {fuel : Nat} {x : DataW H × List MemPlace}
theorem sl_cap {t e : TypeId} {p : Option Addr} {n c : Nat} (ht : P.underlying t = some (.slice e)) (h : DataW.trod enc P w base spare held fuel t [.slice p n c] = some x) : n ≤ c := by
  rcases Deep.open_slice ht h with ⟨hcs, _⟩ | ⟨a, len, cap, m, n2, D, Pl, hcs, _, hl, _⟩
  · simp only [List.cons.injEq, Value.slice.injEq, and_true] at hcs
    omega
  · simp only [List.cons.injEq, Value.slice.injEq, and_true] at hcs
    obtain ⟨_, rfl, rfl⟩ := hcs
    exact hl
end
theorem cellsOf3 : Tryz.prog.cellsOf 3 = 1 := by kernel_rfl
theorem cellsOf9 : Tryz.prog.cellsOf 9 = 1 := by kernel_rfl
theorem cellsOf29 : Tryz.prog.cellsOf 29 = 1 := by kernel_rfl
theorem cellsOf31 : Tryz.prog.cellsOf 31 = 1 := by kernel_rfl
theorem cellsOf32 : Tryz.prog.cellsOf 32 = 1 := by kernel_rfl
theorem cellsOf34 : Tryz.prog.cellsOf 34 = 2 := by kernel_rfl
theorem cellsOf39 : Tryz.prog.cellsOf 39 = 1 := by kernel_rfl
theorem cellsOf41 : Tryz.prog.cellsOf 41 = 5 := by kernel_rfl
theorem cellsOf69 : Tryz.prog.cellsOf 69 = 2 := by kernel_rfl
theorem open41 {H : Type} {enc : TypeId × Value → H} {w : World} {base : Nat} {spare : Nat → Bool} {held : Bool} {fuel : Nat} {cs : List Value} {x : DataW H × List MemPlace} (h : DataW.trod enc Tryz.prog w base spare held fuel 41 cs = some x) :
    ∃ (v0 : Int) (p1 : Option Addr) (n1 : Nat) (q1 : Nat) (l1 : List (List Value)) (v2 : Int) (p3 : Option Addr) (n3 : Nat) (q3 : Nat) (l3 : List (List Value)) (p4 : Option Addr) (n4 : Nat) (q4 : Nat) (l4 : List (List Value)), cs = [.int .i64 v0, .slice p1 n1 q1, .int .u64 v2, .slice p3 n3 q3, .slice p4 n4 q4] ∧ (Lit.int .i64 v0).wf = true ∧ n1 = l1.length ∧ n1 ≤ maxLen ∧ V.slAt w p1 1 id l1 ∧ (∀ c ∈ l1, ∃ m y, DataW.trod enc Tryz.prog w base spare held m 3 c = some y) ∧ n1 ≤ q1 ∧ (Lit.int .u64 v2).wf = true ∧ n3 = l3.length ∧ n3 ≤ maxLen ∧ V.slAt w p3 2 id l3 ∧ (∀ c ∈ l3, ∃ m y, DataW.trod enc Tryz.prog w base spare held m 69 c = some y) ∧ n3 ≤ q3 ∧ n4 = l4.length ∧ n4 ≤ maxLen ∧ V.slAt w p4 1 id l4 ∧ (∀ c ∈ l4, ∃ m y, DataW.trod enc Tryz.prog w base spare held m 9 c = some y) ∧ n4 ≤ q4 := by
  have hlen := (V.trod_fields Tryz.underlying41 h).1
  rw [cellsOf41] at hlen
  match cs, hlen with
  | [c0, c1, c2, c3, c4], _ =>
    obtain ⟨_, m0, g0⟩ := V.trod_fields Tryz.underlying41 h
    obtain ⟨y0_0, f0_0⟩ := g0 0 _ rfl 3 0 1 rfl rfl cellsOf3
    simp only [List.drop, List.take] at f0_0
    obtain ⟨v0, e0, _, w0⟩ := DataW.trod_int Tryz.underlying3 f0_0
    simp only [List.cons.injEq, and_true] at e0; subst e0
    obtain ⟨y0_1, f0_1⟩ := g0 1 _ rfl 29 1 1 rfl rfl cellsOf29
    simp only [List.drop, List.take] at f0_1
    obtain ⟨p1, n1, q1, l1, e1, z1, x1, s1, t1⟩ := V.open_sl (sz := 1) Tryz.underlying29 cellsOf3 (by decide) f0_1
    simp only [List.cons.injEq, and_true] at e1; subst e1
    have u1 := sl_cap Tryz.underlying29 f0_1
    obtain ⟨y0_2, f0_2⟩ := g0 2 _ rfl 39 2 1 rfl rfl cellsOf39
    simp only [List.drop, List.take] at f0_2
    obtain ⟨v2, e2, _, w2⟩ := DataW.trod_int Tryz.underlying39 f0_2
    simp only [List.cons.injEq, and_true] at e2; subst e2
    obtain ⟨y0_3, f0_3⟩ := g0 3 _ rfl 34 3 2 rfl rfl cellsOf34
    simp only [List.drop, List.take] at f0_3
    obtain ⟨_, m1, g1⟩ := V.trod_fields Tryz.underlying34 f0_3
    obtain ⟨y1_0, f1_0⟩ := g1 0 _ rfl 31 0 1 rfl rfl cellsOf31
    simp only [List.drop, List.take] at f1_0
    obtain ⟨p3, n3, q3, l3, e3, z3, x3, s3, t3⟩ := V.open_sl (sz := 2) Tryz.underlying31 cellsOf69 (by decide) f1_0
    simp only [List.cons.injEq, and_true] at e3; subst e3
    have u3 := sl_cap Tryz.underlying31 f1_0
    obtain ⟨y1_1, f1_1⟩ := g1 1 _ rfl 32 1 1 rfl rfl cellsOf32
    simp only [List.drop, List.take] at f1_1
    obtain ⟨p4, n4, q4, l4, e4, z4, x4, s4, t4⟩ := V.open_sl (sz := 1) Tryz.underlying32 cellsOf9 (by decide) f1_1
    simp only [List.cons.injEq, and_true] at e4; subst e4
    have u4 := sl_cap Tryz.underlying32 f1_1
    exact ⟨v0, p1, n1, q1, l1, v2, p3, n3, q3, l3, p4, n4, q4, l4, rfl, w0, z1, x1, s1, t1, u1, w2, z3, x3, s3, t3, u3, z4, x4, s4, t4, u4⟩
theorem open69 {H : Type} {enc : TypeId × Value → H} {w : World} {base : Nat} {spare : Nat → Bool} {held : Bool} {fuel : Nat} {cs : List Value} {x : DataW H × List MemPlace} (h : DataW.trod enc Tryz.prog w base spare held fuel 69 cs = some x) :
    ∃ (v0 : ByteArray) (v1 : ByteArray), cs = [.string v0, .string v1] ∧ v0.size ≤ maxLen ∧ v1.size ≤ maxLen := by
  have hlen := (V.trod_fields Tryz.underlying69 h).1
  rw [cellsOf69] at hlen
  match cs, hlen with
  | [c0, c1], _ =>
    obtain ⟨_, m0, g0⟩ := V.trod_fields Tryz.underlying69 h
    obtain ⟨y0_0, f0_0⟩ := g0 0 _ rfl 9 0 1 rfl rfl cellsOf9
    simp only [List.drop, List.take] at f0_0
    obtain ⟨v0, e0, _, w0⟩ := DataW.trod_string Tryz.underlying9 f0_0
    simp only [List.cons.injEq, and_true] at e0; subst e0
    obtain ⟨y0_1, f0_1⟩ := g0 1 _ rfl 9 1 1 rfl rfl cellsOf9
    simp only [List.drop, List.take] at f0_1
    obtain ⟨v1, e1, _, w1⟩ := DataW.trod_string Tryz.underlying9 f0_1
    simp only [List.cons.injEq, and_true] at e1; subst e1
    exact ⟨v0, v1, rfl, w0, w1⟩
section
variable {H : Type} {enc : TypeId × Value → H} {w : World} {base : Nat} {spare : Nat → Bool} {held : Bool} {fuel : Nat} {cs : List Value} {x : DataW H × List MemPlace}
theorem open_pr (h : DataW.trod enc Tryz.prog w base spare held fuel 69 cs = some x) : ∃ c : Pr, cs = prC c ∧ True := by
  obtain ⟨a0, a1, rfl, _⟩ := open69 h
  exact ⟨⟨a0.data.toList, a1.data.toList⟩, rfl, trivial⟩
theorem open_st (h : DataW.trod enc Tryz.prog w base spare held fuel 9 cs = some x) : ∃ z : List UInt8, cs = stE z ∧ True := by
  obtain ⟨v, e, _⟩ := DataW.trod_string Tryz.underlying9 h
  exact ⟨v.data.toList, e, trivial⟩
theorem open_left (h : DataW.trod enc Tryz.prog w base spare held fuel 41 cs = some x) : ∃ t : LR, cs = lfC t.1 ∧ SfR w t.1.s t.2 ∧ t.2.1.length ≤ 9223372036854775807 ∧ t.2.2.length ≤ 9223372036854775807 := by
  obtain ⟨v0, p1, n1, q1, l1, v2, p3, n3, q3, l3, p4, n4, q4, l4, rfl, _, f1, f2, f3, f4, f5, _, g1, g2, g3, g4, g5, k1, k2, k3, k4, k5⟩ := open41 h
  obtain ⟨gl, hgl, _⟩ := V.list_choice (enc' := prC) (p := fun _ => True) (l := l3) (fun c hc => by
    obtain ⟨m, y, hy⟩ := g4 c hc
    exact open_pr hy)
  obtain ⟨kl, hkl, _⟩ := V.list_choice (enc' := stE) (p := fun _ => True) (l := l4) (fun c hc => by
    obtain ⟨m, y, hy⟩ := k4 c hc
    exact open_st hy)
  have e2 : n3 = gl.length := by simp [g1, hgl]
  have e3 : n4 = kl.length := by simp [k1, hkl]
  unfold maxLen at g2 k2
  exact ⟨(⟨v0, ⟨p1, n1, q1⟩, v2, ⟨⟨p3, n3, q3⟩, ⟨p4, n4, q4⟩⟩⟩, (gl, kl)), rfl, ⟨⟨e2, V.slAt_map g3 hgl⟩, ⟨e3, V.slAt_map k3 hkl⟩, g5, k5⟩, by simp only; omega, by simp only; omega⟩
theorem open_lefts {p : Option Addr} {l : List (List Value)} (hs : V.slAt w p 5 id l) (ht : ∀ c ∈ l, ∃ m y, DataW.trod enc Tryz.prog w base spare held m 41 c = some y) : ∃ m : List LR, l.length = m.length ∧ LfsR w p m := by
  obtain ⟨m, hm, ho⟩ := V.list_choice (enc' := fun t : LR => lfC t.1) (p := fun t => SfR w t.1.s t.2 ∧ t.2.1.length ≤ 9223372036854775807 ∧ t.2.2.length ≤ 9223372036854775807) (l := l) (fun c hc => by
    obtain ⟨k, y, hy⟩ := ht c hc
    exact open_left hy)
  exact ⟨m, by simp [hm], V.slAt_map hs (by rw [hm]; simp), ho⟩
end
end I
end Go.Proofs.YtlpbjmbgopfkhaaGreat
