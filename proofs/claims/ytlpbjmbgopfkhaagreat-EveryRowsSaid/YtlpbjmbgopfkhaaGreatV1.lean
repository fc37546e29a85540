/- A small calculus of symbolic states over the walk's own rules: what slots and blocks hold, as lists. Part 1: states, control. No program in sight. -/
import Derived.WalkKit
import Derived.OrdersHeld
import Derived.Deep.MidRow
import Derived.KernelRfl
import Derived.Deep.LoopGhost
import Derived.OwnWalk
import Derived.Scope
namespace Go.Proofs.YtlpbjmbgopfkhaaGreat.V
open Go Go.RowKit

set_option linter.unusedVariables false
theorem nbeq {i j : Nat} (h : ¬ i = j) : Nat.beq i j = false := by
  cases hb : Nat.beq i j
  · rfl
  · exact absurd (Nat.eq_of_beq_eq_true hb) h

/-! ### Slots -/
abbrev Ks := List (Nat × Value)
def look : Ks → Nat → Option Value
  | [], _ => none
  | (i, v) :: r, j => match Nat.beq i j with | true => some v | false => look r j
structure Fr (n : Nat) (ks : Ks) (a : Act) : Prop where
  defers : a.defers = []
  size : a.tmps.size = n
  at_ : ∀ i v, look ks i = some v → a.tmps[i]? = some v
def ev (ks : Ks) : Operand → Option Value
  | .tmp t => look ks t
  | .const v => some v
  | .global g => some (.pointer (some ⟨g, 0, none⟩))
  | .func f => some (.func (.func f) #[] #[])
theorem Fr.ev {n : Nat} {ks : Ks} {a : Act} (h : Fr n ks a) {x : Operand} {v : Value} (he : ev ks x = some v) : a.eval x = v := by
  cases x with
  | tmp t => simp [V.ev] at he; simp [Act.eval, h.at_ _ _ he]
  | const u => simp [V.ev] at he; simp [Act.eval, he]
  | global g => simp [V.ev] at he; simp [Act.eval, he]
  | func f => simp [V.ev] at he; simp [Act.eval, he]
def push (ks : Ks) : Option Tmp → Value → Ks
  | none, _ => ks
  | some d, v => (d, v) :: ks
def dok (n : Nat) : Option Tmp → Bool
  | none => true
  | some d => Nat.blt d n
theorem Fr.put {n : Nat} {ks : Ks} {a : Act} (h : Fr n ks a) {dst : Option Tmp} (hd : dok n dst = true) (v : Value) : Fr n (push ks dst v) (a.put dst v) := by
  cases dst with
  | none => exact h
  | some d =>
    have hd' : d < n := by simpa [dok, Nat.blt_eq] using hd
    refine ⟨h.defers, by simp [Act.put, h.size], fun i u hi => ?_⟩
    simp only [push, look] at hi
    by_cases e : d = i
    · subst e
      simp at hi
      have hs := h.size
      simp [Act.put, hs, hd', hi]
    · have : Nat.beq d i = false := nbeq e
      rw [this] at hi
      simp only at hi
      simp [Act.put, Array.getElem?_setIfInBounds_ne e, h.at_ _ _ hi]
def subK : Ks → Ks → Prop
  | [], _ => True
  | (i, v) :: r, ks => look ks i = some v ∧ subK r ks
theorem look_of_subK {ks : Ks} : ∀ {t : Ks}, subK t ks → ∀ i v, look t i = some v → look ks i = some v
  | [], _, i, v, h => by cases h
  | (j, u) :: r, hs, i, v, h => by
    simp only [look] at h
    by_cases e : j = i
    · subst e; simp at h; subst h; exact hs.1
    · have : Nat.beq j i = false := nbeq e
      rw [this] at h
      exact look_of_subK hs.2 i v h
theorem Fr.sub {n : Nat} {ks t : Ks} {a : Act} (h : Fr n ks a) (hs : subK t ks) : Fr n t a := ⟨h.defers, h.size, fun i v hi => h.at_ i v (look_of_subK hs i v hi)⟩

/-! ### Blocks -/
abbrev Seg := List (Nat × Obj)
abbrev Sg := List Seg
structure Base where
  w : World
  F : List Nat
structure Hp (B : Base) (sg : Sg) (w : World) : Prop where
  os : w.os = B.w.os
  tape : w.tape = B.w.tape
  output : w.output = B.w.output
  size : B.w.heap.size ≤ w.heap.size
  old : ∀ b, b < B.w.heap.size → b ∉ B.F → w.heap[b]? = B.w.heap[b]?
  own : ∀ p ∈ sg.flatten, w.heap[p.1]? = some p.2
  lo : ∀ p ∈ sg.flatten, B.w.heap.size ≤ p.1 ∨ p.1 ∈ B.F
  nd : (sg.flatten.map Prod.fst).Nodup
/-- These segments lie in this world, apart from one another. -/
structure Sat (sg : Sg) (w : World) : Prop where
  own : ∀ p ∈ sg.flatten, w.heap[p.1]? = some p.2
  nd : (sg.flatten.map Prod.fst).Nodup
theorem Hp.sat {B : Base} {sg : Sg} {w : World} (h : Hp B sg w) : Sat sg w := ⟨h.own, h.nd⟩
def ids (sg : Sg) : List Nat := sg.flatten.map Prod.fst
theorem Hp.start {sg : Sg} {w : World} (h : Sat sg w) : Hp ⟨w, ids sg⟩ sg w :=
  ⟨rfl, rfl, rfl, Nat.le_refl _, fun _ _ _ => rfl, h.own, fun p hp => .inr (List.mem_map.2 ⟨p, hp, rfl⟩), h.nd⟩
theorem hp_none (w : World) : Hp ⟨w, []⟩ [] w := ⟨rfl, rfl, rfl, Nat.le_refl _, fun _ _ _ => rfl, fun _ h => by simp at h, fun _ h => by simp at h, by simp⟩
theorem Hp.below {w0 : World} {sg : Sg} {w : World} (h : Hp ⟨w0, []⟩ sg w) : Below w0.heap.size w0 w :=
  ⟨h.os, h.tape, h.output, h.size, fun k hk => h.old k hk (by simp)⟩
theorem lt_of_some {w : World} {b : Nat} {o : Obj} (h : w.heap[b]? = some o) : b < w.heap.size := by
  rcases Nat.lt_or_ge b w.heap.size with h' | h'
  · exact h'
  · rw [Array.getElem?_eq_none h'] at h; cases h
theorem Hp.drew {B : Base} {sg : Sg} {w : World} (h : Hp B sg w) : Hp B sg { w with drawn := w.drawn + 1 } := ⟨h.os, h.tape, h.output, h.size, h.old, h.own, h.lo, h.nd⟩
theorem Hp.drawn {B : Base} {sg : Sg} {w : World} (h : Hp B sg w) (n : Nat) : Hp B sg { w with drawn := n } := ⟨h.os, h.tape, h.output, h.size, h.old, h.own, h.lo, h.nd⟩
/-- A new block. -/
theorem Hp.alloc {B : Base} {sg : Sg} {w : World} (h : Hp B sg w) (o : Obj) : Hp B ([(w.heap.size, o)] :: sg) { w with heap := w.heap.push o } := by
  refine ⟨h.os, h.tape, h.output, by simp; exact Nat.le_succ_of_le h.size, fun b hb hf => ?_, fun p hp => ?_, fun p hp => ?_, ?_⟩
  · rw [Array.getElem?_push, if_neg (by have := h.size; omega)]; exact h.old b hb hf
  · simp only [List.flatten_cons, List.singleton_append, List.mem_cons] at hp
    rcases hp with rfl | hp
    · simp
    · have := h.own p hp
      have hlt := lt_of_some this
      rw [Array.getElem?_push, if_neg (by omega)]; exact this
  · simp only [List.flatten_cons, List.singleton_append, List.mem_cons] at hp
    rcases hp with rfl | hp
    · exact .inl h.size
    · exact h.lo p hp
  · simp only [List.flatten_cons, List.singleton_append, List.map_cons, List.nodup_cons]
    refine ⟨fun hm => ?_, h.nd⟩
    obtain ⟨p, hp, he⟩ := List.mem_map.1 hm
    have := lt_of_some (h.own p hp)
    omega

/-! ### Finding, taking out, putting -/
/-- p is one of the blocks. -/
inductive InS (p : Nat × Obj) : Sg → Prop
  | here {s : Seg} {r : Sg} : InS p ((p :: s) :: r)
  | inner {q : Nat × Obj} {s : Seg} {r : Sg} : InS p (s :: r) → InS p ((q :: s) :: r)
  | there {s : Seg} {r : Sg} : InS p r → InS p (s :: r)
theorem InS.mem {p : Nat × Obj} {sg : Sg} (h : InS p sg) : p ∈ sg.flatten := by
  induction h with
  | here => simp
  | inner _ ih => simp only [List.flatten_cons, List.mem_append] at ih ⊢; rcases ih with h | h <;> simp [h]
  | there _ ih => simp only [List.flatten_cons, List.mem_append]; exact .inr ih
/-- Block b, which held o, holds o'. -/
inductive Upd (b : Nat) (o o' : Obj) : Sg → Sg → Prop
  | here {s : Seg} {r : Sg} : Upd b o o' (((b, o) :: s) :: r) (((b, o') :: s) :: r)
  | inner {q : Nat × Obj} {s s' : Seg} {r r' : Sg} : Upd b o o' (s :: r) (s' :: r') → Upd b o o' ((q :: s) :: r) ((q :: s') :: r')
  | there {s : Seg} {r r' : Sg} : Upd b o o' r r' → Upd b o o' (s :: r) (s :: r')
theorem Upd.ids {b : Nat} {o o' : Obj} {sg sg' : Sg} (h : Upd b o o' sg sg') : sg'.flatten.map Prod.fst = sg.flatten.map Prod.fst := by
  induction h with
  | here => simp
  | inner _ ih => simp only [List.flatten_cons, List.map_append, List.map_cons, List.cons_append] at ih ⊢; rw [ih]
  | there _ ih => simp only [List.flatten_cons, List.map_append] at ih ⊢; rw [ih]
theorem Upd.mem {b : Nat} {o o' : Obj} {sg sg' : Sg} (h : Upd b o o' sg sg') : (b, o) ∈ sg.flatten := by
  induction h with
  | here => simp
  | inner _ ih => simp only [List.flatten_cons, List.mem_append] at ih ⊢; rcases ih with h | h <;> simp [h]
  | there _ ih => simp only [List.flatten_cons, List.mem_append]; exact .inr ih
theorem Upd.new {b : Nat} {o o' : Obj} {sg sg' : Sg} (h : Upd b o o' sg sg') : ∀ p ∈ sg'.flatten, p = (b, o') ∨ p ∈ sg.flatten := by
  induction h with
  | here =>
    intro p hp
    simp only [List.flatten_cons, List.cons_append, List.mem_cons] at hp ⊢
    rcases hp with h | h
    · exact .inl h
    · exact .inr (.inr h)
  | inner _ ih =>
    intro p hp
    simp only [List.flatten_cons, List.cons_append, List.mem_cons] at hp ih ⊢
    rcases hp with h | h
    · exact .inr (.inl h)
    · rcases ih p h with h | h
      · exact .inl h
      · exact .inr (.inr h)
  | there _ ih =>
    intro p hp
    simp only [List.flatten_cons, List.mem_append] at hp ih ⊢
    rcases hp with h | h
    · exact .inr (.inl h)
    · rcases ih p h with h | h
      · exact .inl h
      · exact .inr (.inr h)
theorem nodup_fst {l : List (Nat × Obj)} (h : (l.map Prod.fst).Nodup) {p q : Nat × Obj} (hp : p ∈ l) (hq : q ∈ l) (e : p.1 = q.1) : p = q := by
  induction l with
  | nil => cases hp
  | cons x l ih =>
    simp only [List.map_cons, List.nodup_cons] at h
    simp only [List.mem_cons] at hp hq
    rcases hp with rfl | hp <;> rcases hq with rfl | hq
    · rfl
    · exact absurd (List.mem_map.2 ⟨q, hq, e.symm⟩) h.1
    · exact absurd (List.mem_map.2 ⟨p, hp, e⟩) h.1
    · exact ih h.2 hp hq
theorem Upd.old {b : Nat} {o o' : Obj} {sg sg' : Sg} (h : Upd b o o' sg sg') (nd : (sg.flatten.map Prod.fst).Nodup) : ∀ p ∈ sg'.flatten, p.1 ≠ b → p ∈ sg.flatten := fun p hp hb => by
  rcases h.new p hp with rfl | h
  · exact absurd rfl hb
  · exact h
theorem Hp.upd {B : Base} {b : Nat} {o o' : Obj} {sg sg' : Sg} {w w' : World} (h : Hp B sg w) (u : Upd b o o' sg sg')
    (hos : w'.os = w.os) (ht : w'.tape = w.tape) (hout : w'.output = w.output) (hsz : w'.heap.size = w.heap.size) (hb : w'.heap[b]? = some o') (hne : ∀ k, k ≠ b → w'.heap[k]? = w.heap[k]?) : Hp B sg' w' := by
  have hbm := u.mem
  refine ⟨hos.trans h.os, ht.trans h.tape, hout.trans h.output, by rw [hsz]; exact h.size, fun k hk hf => ?_, fun p hp => ?_, fun p hp => ?_, by rw [u.ids]; exact h.nd⟩
  · rw [hne k (fun e => ?_)]
    · exact h.old k hk hf
    · subst e
      rcases h.lo _ hbm with h1 | h1
      · exact absurd hk (by simpa using h1)
      · exact hf h1
  · by_cases e : p.1 = b
    · have : p = (b, o') := by
        rcases u.new p hp with h1 | h1
        · exact h1
        · have nd' : (sg'.flatten.map Prod.fst).Nodup := by rw [u.ids]; exact h.nd
          have hm : (b, o') ∈ sg'.flatten := by
            clear hb hne hsz hout ht hos hp h1 e nd' h hbm
            induction u with
            | here => simp
            | inner _ ih => simp only [List.flatten_cons, List.mem_append] at ih ⊢; rcases ih with h | h <;> simp [h]
            | there _ ih => simp only [List.flatten_cons, List.mem_append]; exact .inr ih
          exact nodup_fst nd' hp hm e
      rw [this]; exact hb
    · rw [hne _ e]; exact h.own p (u.old h.nd p hp e)
  · have : p.1 ∈ sg.flatten.map Prod.fst := by rw [← u.ids]; exact List.mem_map.2 ⟨p, hp, rfl⟩
    obtain ⟨q, hq, e⟩ := List.mem_map.1 this
    rw [← e]; exact h.lo q hq
/-- s is one of the segments; the others are r. -/
inductive Ext (s : Seg) : Sg → Sg → Prop
  | here {r : Sg} : Ext s (s :: r) r
  | there {t : Seg} {r r' : Sg} : Ext s r r' → Ext s (t :: r) (t :: r')
theorem Ext.perm {s : Seg} {sg r : Sg} (h : Ext s sg r) : sg.Perm (s :: r) := by
  induction h with
  | here => exact .refl _
  | there _ ih => exact (List.Perm.cons _ ih).trans (.swap ..)
/-- ss are among the segments; the others are r. -/
inductive Pick : Sg → Sg → Sg → Prop
  | nil {sg : Sg} : Pick [] sg sg
  | cons {s : Seg} {ss sg r r' : Sg} : Ext s sg r → Pick ss r r' → Pick (s :: ss) sg r'
theorem Pick.perm {ss sg r : Sg} (h : Pick ss sg r) : sg.Perm (ss ++ r) := by
  induction h with
  | nil => exact .refl _
  | cons e _ ih => exact e.perm.trans (List.Perm.cons _ ih)
theorem Pick.perm' {ss sg r : Sg} (h : Pick ss sg r) : sg.flatten.Perm (ss.flatten ++ r.flatten) := by
  have := h.perm.flatten
  rwa [List.flatten_append] at this
theorem Hp.perm {B : Base} {sg sg' : Sg} {w : World} (h : Hp B sg w) (hp : sg.flatten.Perm sg'.flatten) : Hp B sg' w :=
  ⟨h.os, h.tape, h.output, h.size, h.old, fun p hm => h.own p (hp.symm.mem_iff.1 hm), fun p hm => h.lo p (hp.symm.mem_iff.1 hm), (hp.map _).nodup_iff.1 h.nd⟩
theorem Hp.left {B : Base} {ss r : Sg} {w : World} (h : Hp B (ss ++ r) w) : Hp B ss w := by
  have nd := h.nd
  simp only [List.flatten_append, List.map_append, List.nodup_append] at nd
  exact ⟨h.os, h.tape, h.output, h.size, h.old, fun p hm => h.own p (by simp only [List.flatten_append, List.mem_append]; exact .inl hm), fun p hm => h.lo p (by simp only [List.flatten_append, List.mem_append]; exact .inl hm), nd.1⟩
/-- Forget what is not picked. -/
theorem Hp.pick {B : Base} {ss sg r : Sg} {w : World} (h : Hp B sg w) (hp : Pick ss sg r) : Hp B ss w :=
  (h.perm (by rw [List.flatten_append]; exact hp.perm') : Hp B (ss ++ r) w).left
theorem Sat.pick {ss sg r : Sg} {w : World} (h : Sat sg w) (hp : Pick ss sg r) : Sat ss w := by
  have hq := hp.perm'
  have nd := (hq.map Prod.fst).nodup_iff.1 h.nd
  simp only [List.map_append, List.nodup_append] at nd
  exact ⟨fun p hm => h.own p (hq.mem_iff.2 (List.mem_append.2 (.inl hm))), nd.1⟩
/-- A callee that was given the segments ss, and leaves so. -/
theorem Hp.call {B : Base} {ss sg r so : Sg} {w w' : World} (h : Hp B sg w) (hp : Pick ss sg r) (hc : Hp ⟨w, ids ss⟩ so w') : Hp B (so ++ r) w' := by
  have hq := hp.perm'
  have nd := (hq.map Prod.fst).nodup_iff.1 h.nd
  simp only [List.map_append] at nd
  have ndr := (List.nodup_append.1 nd)
  have hF : ∀ b ∈ ids ss, B.w.heap.size ≤ b ∨ b ∈ B.F := fun b hb => by
    obtain ⟨p, hm, rfl⟩ := List.mem_map.1 hb
    exact h.lo p (hq.mem_iff.2 (List.mem_append.2 (.inl hm)))
  have hr : ∀ p ∈ r.flatten, p.1 ∉ ids ss := fun p hm hc => ndr.2.2 p.1 hc p.1 (List.mem_map.2 ⟨p, hm, rfl⟩) rfl
  have hr' : ∀ p ∈ r.flatten, w.heap[p.1]? = some p.2 := fun p hm => h.own p (hq.mem_iff.2 (List.mem_append.2 (.inr hm)))
  refine ⟨hc.os.trans h.os, hc.tape.trans h.tape, hc.output.trans h.output, Nat.le_trans h.size hc.size, fun b hb hf => ?_, fun p hm => ?_, fun p hm => ?_, ?_⟩
  · refine (hc.old b (Nat.lt_of_lt_of_le hb h.size) (fun hin => ?_)).trans (h.old b hb hf)
    rcases hF b hin with h1 | h1
    · omega
    · exact hf h1
  · simp only [List.flatten_append, List.mem_append] at hm
    rcases hm with hm | hm
    · exact hc.own p hm
    · exact (hc.old p.1 (lt_of_some (hr' p hm)) (hr p hm)).trans (hr' p hm)
  · simp only [List.flatten_append, List.mem_append] at hm
    rcases hm with hm | hm
    · rcases hc.lo p hm with h1 | h1
      · exact .inl (Nat.le_trans h.size h1)
      · exact hF _ h1
    · exact h.lo p (hq.mem_iff.2 (List.mem_append.2 (.inr hm)))
  · simp only [List.flatten_append, List.map_append, List.nodup_append]
    refine ⟨hc.nd, ndr.2.1, fun x hx y hy e => ?_⟩
    subst e
    obtain ⟨p, hm, rfl⟩ := List.mem_map.1 hx
    obtain ⟨q, hm', e'⟩ := List.mem_map.1 hy
    rcases hc.lo p hm with h1 | h1
    · have := lt_of_some (hr' q hm')
      simp only at h1
      omega
    · exact hr q hm' (e' ▸ h1)
theorem Hp.call_ro {B : Base} {sg : Sg} {w w' : World} (h : Hp B sg w) (hc : Below w.heap.size w w') : Hp B sg w' :=
  h.call (ss := []) (so := []) .nil ⟨hc.os, hc.tape, hc.output, hc.size, fun b hb _ => hc.block b hb, fun _ hm => by simp at hm, fun _ hm => by simp at hm, by simp⟩

/-! ### Code, lists of operations, ends -/
section
variable (P : Program) (n : Nat) (B : Base)
def CW (Q : Exit → Act → World → Prop) (c : Code) (ks : Ks) (sg : Sg) : Prop := ∀ a w, Fr n ks a → Hp B sg w → c.wp P Q a w
def LW (ops : Array Oper) (Q : Exit → Act → World → Prop) (l : List Oper) (ks : Ks) (sg : Sg) : Prop := ∀ a w, Fr n ks a → Hp B sg w → wpList P ops Q l a w
def PQ (Q : Exit → Act → World → Prop) (e : Exit) (ks : Ks) (sg : Sg) : Prop := ∀ a w, Fr n ks a → Hp B sg w → Q e a w
end
section
variable {P : Program} {n : Nat} {B : Base} {Q : Exit → Act → World → Prop} {ks : Ks} {sg : Sg} {ops : Array Oper}
theorem CW.seq {x y : Code} (h : CW P n B (Exit.then (y.wp P Q) Q) x ks sg) : CW P n B Q (.seq x y) ks sg := fun a w ha hw => wp_seq (h a w ha hw)
theorem CW.skip (h : PQ n B Q .normal ks sg) : CW P n B Q .skip ks sg := fun a w ha hw => wp_skip (h a w ha hw)
theorem CW.ret (h : PQ n B Q .ret ks sg) : CW P n B Q .ret ks sg := fun a w ha hw => wp_ret (h a w ha hw)
theorem CW.exit {id : Nat} (h : PQ n B Q (.exit id) ks sg) : CW P n B Q (.exit id) ks sg := fun a w ha hw => wp_exit (h a w ha hw)
theorem CW.block {id : Nat} {c : Code} (h : CW P n B (Exit.inBlock id Q) c ks sg) : CW P n B Q (.block id c) ks sg := fun a w ha hw => wp_block (h a w ha hw)
theorem CW.scope {c : Code} (h : CW P n B (Exit.noGoto Q) c ks sg) : CW P n B Q (.scope c) ks sg := fun a w ha hw => wp_scope_straight (h a w ha hw)
theorem CW.label {l : Nat} (h : PQ n B Q .normal ks sg) : CW P n B Q (.label l) ks sg := fun a w ha hw => wp_label (h a w ha hw)
theorem CW.region {id : Nat} {l : List Oper} (h : LW P n B l.toArray Q l ks sg) : CW P n B Q (.region id l.toArray false) ks sg := fun a w ha hw => wp_region_lit (h a w ha hw)
theorem CW.cond {c : Operand} {x y : Code} {t : Bool} (hc : ev ks c = some (.bool t)) (h1 : t = true → CW P n B Q x ks sg) (h2 : t = false → CW P n B Q y ks sg) : CW P n B Q (.cond c x y) ks sg :=
  fun a w ha hw => wp_cond_split (ha.ev hc) (fun e => h1 e a w ha hw) (fun e => h2 e a w ha hw)
theorem CW.cond_t {c : Operand} {x y : Code} (hc : ev ks c = some (.bool true)) (h1 : CW P n B Q x ks sg) : CW P n B Q (.cond c x y) ks sg :=
  fun a w ha hw => wp_cond_true (ha.ev hc) (h1 a w ha hw)
theorem CW.cond_f {c : Operand} {x y : Code} (hc : ev ks c = some (.bool false)) (h1 : CW P n B Q y ks sg) : CW P n B Q (.cond c x y) ks sg :=
  fun a w ha hw => wp_cond_false (ha.ev hc) (h1 a w ha hw)
theorem CW.sub {c : Code} {t : Ks} (h : CW P n B Q c t sg) (hs : subK t ks) : CW P n B Q c ks sg := fun a w ha hw => h a w (ha.sub hs) hw
theorem CW.pick {c : Code} {ss r : Sg} (h : CW P n B Q c ks ss) (hp : Pick ss sg r) : CW P n B Q c ks sg := fun a w ha hw => h a w ha (hw.pick hp)
/-- The state at hand gives the one that is asked. -/
theorem CW.from {c : Code} {t : Ks} {ss r : Sg} (h : CW P n B Q c t ss) (hs : subK t ks) (hp : Pick ss sg r) : CW P n B Q c ks sg := fun a w ha hw => h a w (ha.sub hs) (hw.pick hp)
/-- A loop, by what a round's head looks like: x tells which. -/
theorem CW.loop {γ : Type} {c : Code} {r : Sg} (K : γ → Ks) (G : γ → Sg) (J : γ → Prop) (μ : γ → Nat) (x0 : γ) (hj : J x0) (hk : subK (K x0) ks) (hg : Pick (G x0) sg r)
    (round : ∀ x, J x → CW P n B (Exit.then (fun a w => ∃ x', J x' ∧ μ x' < μ x ∧ Fr n (K x') a ∧ Hp B (G x') w) Q) c (K x) (G x)) : CW P n B Q (.loop c) ks sg := fun a w ha hw => by
  refine wp_loop_ghost (fun m a w => ∃ x, μ x = m ∧ J x ∧ Fr n (K x) a ∧ Hp B (G x) w) (μ x0) ⟨x0, rfl, hj, ha.sub hk, hw.pick hg⟩ ?_
  rintro m a w ⟨x, rfl, hJ, ha, hw⟩
  refine Code.wp_mono (fun e a w q => ?_) (round x hJ a w ha hw)
  cases e with
  | normal => obtain ⟨x', h1, h2, h3, h4⟩ := q; exact ⟨_, h2, x', rfl, h1, h3, h4⟩
  | _ => exact q
/-- A round's end. -/
theorem PQ.round {γ : Type} {K : γ → Ks} {G : γ → Sg} {J : γ → Prop} {μ : γ → Nat} {m : Nat} {r : Sg} (x' : γ) (hj : J x') (hm : μ x' < m) (hk : subK (K x') ks) (hg : Pick (G x') sg r) :
    PQ n B (Exit.then (fun a w => ∃ x', J x' ∧ μ x' < m ∧ Fr n (K x') a ∧ Hp B (G x') w) Q) .normal ks sg := fun a w ha hw => ⟨x', hj, hm, ha.sub hk, hw.pick hg⟩
theorem PQ.seq {y : Code} (h : CW P n B Q y ks sg) : PQ n B (Exit.then (y.wp P Q) Q) .normal ks sg := h
theorem PQ.then_exit {K : Act → World → Prop} {id : Nat} (h : PQ n B Q (.exit id) ks sg) : PQ n B (Exit.then K Q) (.exit id) ks sg := h
theorem PQ.then_ret {K : Act → World → Prop} (h : PQ n B Q .ret ks sg) : PQ n B (Exit.then K Q) .ret ks sg := h
theorem PQ.in_normal {id : Nat} (h : PQ n B Q .normal ks sg) : PQ n B (Exit.inBlock id Q) .normal ks sg := h
theorem PQ.in_ret {id : Nat} (h : PQ n B Q .ret ks sg) : PQ n B (Exit.inBlock id Q) .ret ks sg := h
theorem PQ.in_here {id : Nat} (h : PQ n B Q .normal ks sg) : PQ n B (Exit.inBlock id Q) (.exit id) ks sg := fun a w ha hw => by
  simp only [Exit.inBlock, if_true]; exact h a w ha hw
theorem PQ.in_out {id id' : Nat} (hne : Nat.beq id' id = false) (h : PQ n B Q (.exit id') ks sg) : PQ n B (Exit.inBlock id Q) (.exit id') ks sg := fun a w ha hw => by
  have : ¬ id' = id := fun e => by subst e; simp at hne
  simp only [Exit.inBlock, this, if_false]; exact h a w ha hw
theorem PQ.sub {e : Exit} {t : Ks} {ss r : Sg} (h : PQ n B Q e t ss) (hs : subK t ks) (hp : Pick ss sg r) : PQ n B Q e ks sg := fun a w ha hw => h a w (ha.sub hs) (hw.pick hp)
theorem getD_of {tmps : Array Value} {t : Nat} {v : Value} (h : tmps[t]? = some v) : tmps.getD t undef = v := by simp [h]
theorem PQ.ret0 {fn : Func} {R : Ending → World → Prop} (hr : fn.results = #[]) (h : ∀ w, Hp B sg w → R (.returned (.tuple #[])) w) : PQ n B (bodyPost P fn R) .ret ks sg :=
  fun a w ha hw => bodyPost_ret (results_none hr _ _ _) ha.defers (h w hw)
theorem PQ.end0 {fn : Func} {R : Ending → World → Prop} (hr : fn.results = #[]) (h : ∀ w, Hp B sg w → R (.returned (.tuple #[])) w) : PQ n B (bodyPost P fn R) .normal ks sg :=
  fun a w ha hw => bodyPost_end (results_none hr _ _ _) ha.defers (h w hw)
theorem PQ.ret1 {fn : Func} {R : Ending → World → Prop} {t : Nat} {v : Value} (hr : fn.results = #[.tmp t]) (hv : look ks t = some v) (h : ∀ w, Hp B sg w → R (.returned v) w) : PQ n B (bodyPost P fn R) .ret ks sg :=
  fun a w ha hw => bodyPost_ret (by rw [results_tmp hr, getD_of (ha.at_ _ _ hv)]) ha.defers (h w hw)
theorem PQ.ret2 {fn : Func} {R : Ending → World → Prop} {t u : Nat} {v x : Value} (hr : fn.results = #[.tmp t, .tmp u]) (hv : look ks t = some v) (hx : look ks u = some x) (h : ∀ w, Hp B sg w → R (.returned (.tuple #[v, x])) w) : PQ n B (bodyPost P fn R) .ret ks sg :=
  fun a w ha hw => bodyPost_ret (by rw [results_tmp2 hr, getD_of (ha.at_ _ _ hv), getD_of (ha.at_ _ _ hx)]) ha.defers (h w hw)
theorem PQ.ret3 {fn : Func} {R : Ending → World → Prop} {t u s : Nat} {v x y : Value} (hr : fn.results = #[.tmp t, .tmp u, .tmp s]) (hv : look ks t = some v) (hx : look ks u = some x) (hy : look ks s = some y) (h : ∀ w, Hp B sg w → R (.returned (.tuple #[v, x, y])) w) : PQ n B (bodyPost P fn R) .ret ks sg :=
  fun a w ha hw => bodyPost_ret (by rw [results_tmp3 hr, getD_of (ha.at_ _ _ hv), getD_of (ha.at_ _ _ hx), getD_of (ha.at_ _ _ hy)]) ha.defers (h w hw)
/-- Whatever the results' variables are. -/
theorem PQ.ret_of {fn : Func} {R : Ending → World → Prop} {v : Value} (hv : ∀ a w, Fr n ks a → Hp B sg w → (results fn a.tmps).run P w = .ok v w) (h : ∀ w, Hp B sg w → R (.returned v) w) : PQ n B (bodyPost P fn R) .ret ks sg :=
  fun a w ha hw => bodyPost_ret (hv a w ha hw) ha.defers (h w hw)
def initK : Nat → List Value → Ks
  | _, [] => []
  | i, v :: r => (i, v) :: initK (i + 1) r
theorem look_initK : ∀ (l : List Value) (i j : Nat) (v : Value), look (initK i l) j = some v → ∃ k, j = i + k ∧ l[k]? = some v
  | [], _, _, _, h => by cases h
  | u :: r, i, j, v, h => by
    simp only [initK, look] at h
    by_cases e : i = j
    · subst e; simp at h; subst h; exact ⟨0, rfl, rfl⟩
    · have : Nat.beq i j = false := nbeq e
      rw [this] at h
      obtain ⟨k, hk, hv⟩ := look_initK r (i + 1) j v h
      exact ⟨k + 1, by omega, by simpa using hv⟩
/-- A call, by its body. -/
theorem calls {f : FuncId} {fn : Func} {c : Code} {l : List Value} {w : World} {R : Ending → World → Prop} {m : Nat} (sg0 : Sg)
    (hf : P.funcs[f]? = some fn) (hb : fn.body = some c) (hn : fn.ntmps = m) (hl : l.length ≤ m) (hs : Sat sg0 w)
    (h : CW P m ⟨w, ids sg0⟩ (bodyPost P fn R) c (initK 0 l) sg0) : Calls P f l.toArray w R := by
  refine calls_of_wp hf hb (h _ w ⟨rfl, ?_, fun i v hi => ?_⟩ (Hp.start hs))
  · simp [hn]; omega
  · obtain ⟨k, rfl, hv⟩ := look_initK l 0 i v hi
    have hk : k < l.length := (List.getElem?_eq_some_iff.1 hv).1
    simp only [Nat.zero_add]
    rw [Array.getElem?_append_left (by simpa using hk)]
    simpa using hv
theorem sat_nil (w : World) : Sat [] w := ⟨fun _ h => by simp at h, by simp⟩
end
end Go.Proofs.YtlpbjmbgopfkhaaGreat.V
