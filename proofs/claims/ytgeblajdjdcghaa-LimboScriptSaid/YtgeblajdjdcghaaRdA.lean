/- What the functions of reader and its reference do to a symbolic state. -/
import Derived.Test.YtgeblajdjdcghaaRows
import Derived.Test.YtgeblajdjdcghaaV5
import Derived.Lib.Hide
namespace Go.Proofs.Ytgeblajdjdcghaa
open Go Go.RowKit V
set_option linter.unusedVariables false
set_option maxRecDepth 100000
theorem mixed : Try.prog.follows .mixedOrders = true := by kernel_rfl
theorem x_load {a : Addr} {x : Int} {w : World} (hc : w.cell? a = some (.int .u64 x)) : (callFunc 78 #[.pointer (some a)]).run Try.prog w = .ok (.value (.int .u64 x)) w := run_call_load Try.func78 (by kernel_rfl) (by kernel_rfl) (by kernel_rfl) .u64 (by kernel_rfl) hc
theorem x_store {a : Addr} {u : Value} {y : Int} {w : World} (hc : w.cell? a = some u) (hz : w.frozen? a = false) : (callFunc 74 #[.pointer (some a), .int .u64 y]).run Try.prog w = .ok (.value (.tuple #[])) (w.setCell a (.int .u64 y)) := run_call_store Try.func74 (by kernel_rfl) (by kernel_rfl) (by kernel_rfl) (by kernel_rfl) hc hz
theorem x_swap {a : Addr} {x y : Int} {w : World} (hc : w.cell? a = some (.int .u64 x)) (hz : w.frozen? a = false) : (callFunc 76 #[.pointer (some a), .int .u64 y]).run Try.prog w = .ok (.value (.int .u64 x)) (w.setCell a (.int .u64 y)) := V.run_call_swap Try.func76 (by kernel_rfl) (by kernel_rfl) (by kernel_rfl) .u64 (by kernel_rfl) hc hz
theorem x_add {a : Addr} {x y : Int} {w : World} (hc : w.cell? a = some (.int .u64 x)) (hz : w.frozen? a = false) : (callFunc 77 #[.pointer (some a), .int .u64 y]).run Try.prog w = .ok (.value (.int .u64 (IntKind.u64.wrap (x + y)))) (w.setCell a (.int .u64 (IntKind.u64.wrap (x + y)))) := run_call_add Try.func77 (by kernel_rfl) (by kernel_rfl) (by kernel_rfl) .u64 (by kernel_rfl) hc hz rfl
theorem x_hit {a : Addr} {x y : Int} {w : World} (hc : w.cell? a = some (.int .u64 x)) (hz : w.frozen? a = false) : (callFunc 75 #[.pointer (some a), .int .u64 x, .int .u64 y]).run Try.prog w = .ok (.value (.bool true)) (w.setCell a (.int .u64 y)) := run_call_cas_hit Try.func75 (by kernel_rfl) (by kernel_rfl) (by kernel_rfl) .u64 (by kernel_rfl) hc hz
theorem x_miss {a : Addr} {x y o : Int} {w : World} (hc : w.cell? a = some (.int .u64 x)) (hz : w.frozen? a = false) (hne : ¬ x = o) : (callFunc 75 #[.pointer (some a), .int .u64 o, .int .u64 y]).run Try.prog w = .ok (.value (.bool false)) w := run_call_cas_miss Try.func75 (by kernel_rfl) (by kernel_rfl) (by kernel_rfl) .u64 (by kernel_rfl) hc hz hne
theorem aLoad_c {b o : Nat} {l : List Value} {T : TypeId} {x : Int} (hl : l[o]? = some (.int .u64 x)) (w : World) (hs : Sat [[(b, .cells l.toArray T (0, 0))]] w) : Calls Try.prog 65 [.pointer (some ⟨b, o, none⟩)].toArray w fun e w' => e = .returned (.int .u64 x) ∧ Below w.heap.size w w' := by
  refine V.calls [[(b, .cells l.toArray T (0, 0))]] Try.func65 rfl Try.ntmps65 (Nat.le_of_ble_eq_true rfl) hs ?_
  refine CW.seq ?_
  refine CW.region ?_
  refine LW.v rfl rfl (Val.assign rfl) ?_
  refine LW.nil ?_
  refine PQ.seq ?_
  refine CW.seq ?_
  refine CW.region ?_
  refine LW.v rfl rfl (Val.move rfl) ?_
  refine LW.v rfl rfl (Val.nilCheck rfl) ?_
  refine LW.v rfl rfl (Val.fieldAddr 0 rfl Try.underlying112 rfl rfl Try.sizeOf28) ?_
  refine LW.v rfl rfl (Val.ext rfl (fun w hw => x_load (V.cell_of_block (hw.own _ InS.here.mem) (by exact hl)))) ?_
  refine LW.v rfl rfl (Val.assign rfl) ?_
  refine LW.nil ?_
  refine PQ.seq ?_
  refine CW.ret ?_
  refine PQ.ret1 rfl rfl ?_
  intro w' hw; exact ⟨rfl, hw.ro (by repeat (first | exact .nil | apply Pick.cons | exact .here | apply Ext.there)) hs⟩
theorem aStore_c {b o : Nat} {l : List Value} {T : TypeId} {x : Int} (hl : l[o]? = some (.int .u64 x)) (y : Int) (w : World) (hs : Sat [[(b, .cells l.toArray T (0, 0))]] w) : Calls Try.prog 57 [.pointer (some ⟨b, o, none⟩), .int .u64 y].toArray w fun e w' => ∃ _u : Unit, True ∧ e = .returned (.tuple #[]) ∧ Hp ⟨w, ids [[(b, .cells l.toArray T (0, 0))]]⟩ [[(b, .cells (l.set o (.int .u64 y)).toArray T (0, 0))]] w' := by
  refine V.calls [[(b, .cells l.toArray T (0, 0))]] Try.func57 rfl Try.ntmps57 (Nat.le_of_ble_eq_true rfl) hs ?_
  refine CW.region ?_
  refine LW.v rfl rfl (Val.move rfl) ?_
  refine LW.v rfl rfl (Val.nilCheck rfl) ?_
  refine LW.v rfl rfl (Val.fieldAddr 0 rfl Try.underlying112 rfl rfl Try.sizeOf28) ?_
  refine LW.v rfl rfl (Val.move rfl) ?_
  refine LW.e rfl rfl (Eff.ext (l' := l.set o (.int .u64 y)) rfl .here rfl (fun w hb => x_store (V.cell_of_block hb (by exact hl)) (V.frozen_of hb))) ?_
  intro _ _
  refine LW.nil ?_
  refine PQ.end0 rfl ?_
  intro w' hw; exact ⟨(), trivial, rfl, hw⟩
theorem aSwap_c {b o : Nat} {l : List Value} {T : TypeId} {x : Int} (hl : l[o]? = some (.int .u64 x)) (y : Int) (w : World) (hs : Sat [[(b, .cells l.toArray T (0, 0))]] w) : Calls Try.prog 60 [.pointer (some ⟨b, o, none⟩), .int .u64 y].toArray w fun e w' => ∃ _u : Unit, True ∧ e = .returned (.int .u64 x) ∧ Hp ⟨w, ids [[(b, .cells l.toArray T (0, 0))]]⟩ [[(b, .cells (l.set o (.int .u64 y)).toArray T (0, 0))]] w' := by
  refine V.calls [[(b, .cells l.toArray T (0, 0))]] Try.func60 rfl Try.ntmps60 (Nat.le_of_ble_eq_true rfl) hs ?_
  refine CW.seq ?_
  refine CW.region ?_
  refine LW.v rfl rfl (Val.assign rfl) ?_
  refine LW.nil ?_
  refine PQ.seq ?_
  refine CW.seq ?_
  refine CW.region ?_
  refine LW.v rfl rfl (Val.move rfl) ?_
  refine LW.v rfl rfl (Val.nilCheck rfl) ?_
  refine LW.v rfl rfl (Val.fieldAddr 0 rfl Try.underlying112 rfl rfl Try.sizeOf28) ?_
  refine LW.v rfl rfl (Val.move rfl) ?_
  refine LW.e rfl rfl (Eff.ext (l' := l.set o (.int .u64 y)) rfl .here rfl (fun w hb => x_swap (V.cell_of_block hb (by exact hl)) (V.frozen_of hb))) ?_
  intro _ _
  refine LW.v rfl rfl (Val.assign rfl) ?_
  refine LW.nil ?_
  refine PQ.seq ?_
  refine CW.ret ?_
  refine PQ.ret1 rfl rfl ?_
  intro w' hw; exact ⟨(), trivial, rfl, hw⟩
theorem aAdd_c {b o : Nat} {l : List Value} {T : TypeId} {x : Int} (hl : l[o]? = some (.int .u64 x)) (y : Int) (w : World) (hs : Sat [[(b, .cells l.toArray T (0, 0))]] w) (hin : IntKind.u64.wrap (x + y) = x + y) : Calls Try.prog 61 [.pointer (some ⟨b, o, none⟩), .int .u64 y].toArray w fun e w' => ∃ _u : Unit, True ∧ e = .returned (.int .u64 (x + y)) ∧ Hp ⟨w, ids [[(b, .cells l.toArray T (0, 0))]]⟩ [[(b, .cells (l.set o (.int .u64 (x + y))).toArray T (0, 0))]] w' := by
  rw [← hin]
  refine V.calls [[(b, .cells l.toArray T (0, 0))]] Try.func61 rfl Try.ntmps61 (Nat.le_of_ble_eq_true rfl) hs ?_
  refine CW.seq ?_
  refine CW.region ?_
  refine LW.v rfl rfl (Val.assign rfl) ?_
  refine LW.nil ?_
  refine PQ.seq ?_
  refine CW.seq ?_
  refine CW.region ?_
  refine LW.v rfl rfl (Val.move rfl) ?_
  refine LW.v rfl rfl (Val.nilCheck rfl) ?_
  refine LW.v rfl rfl (Val.fieldAddr 0 rfl Try.underlying112 rfl rfl Try.sizeOf28) ?_
  refine LW.v rfl rfl (Val.move rfl) ?_
  refine LW.e rfl rfl (Eff.ext (l' := l.set o (.int .u64 (IntKind.u64.wrap (x + y)))) rfl .here rfl (fun w hb => x_add (V.cell_of_block hb (by exact hl)) (V.frozen_of hb))) ?_
  intro _ _
  refine LW.v rfl rfl (Val.assign rfl) ?_
  refine LW.nil ?_
  refine PQ.seq ?_
  refine CW.ret ?_
  refine PQ.ret1 rfl rfl ?_
  intro w' hw; exact ⟨(), trivial, rfl, hw⟩
theorem aHit_c {b o : Nat} {l : List Value} {T : TypeId} {x : Int} (hl : l[o]? = some (.int .u64 x)) (y : Int) (w : World) (hs : Sat [[(b, .cells l.toArray T (0, 0))]] w) : Calls Try.prog 59 [.pointer (some ⟨b, o, none⟩), .int .u64 x, .int .u64 y].toArray w fun e w' => ∃ _u : Unit, True ∧ e = .returned (.bool true) ∧ Hp ⟨w, ids [[(b, .cells l.toArray T (0, 0))]]⟩ [[(b, .cells (l.set o (.int .u64 y)).toArray T (0, 0))]] w' := by
  refine V.calls [[(b, .cells l.toArray T (0, 0))]] Try.func59 rfl Try.ntmps59 (Nat.le_of_ble_eq_true rfl) hs ?_
  refine CW.seq ?_
  refine CW.region ?_
  refine LW.v rfl rfl (Val.assign rfl) ?_
  refine LW.nil ?_
  refine PQ.seq ?_
  refine CW.seq ?_
  refine CW.region ?_
  refine LW.v rfl rfl (Val.move rfl) ?_
  refine LW.v rfl rfl (Val.nilCheck rfl) ?_
  refine LW.v rfl rfl (Val.fieldAddr 0 rfl Try.underlying112 rfl rfl Try.sizeOf28) ?_
  refine LW.v rfl rfl (Val.move rfl) ?_
  refine LW.v rfl rfl (Val.move rfl) ?_
  refine LW.e rfl rfl (Eff.ext (l' := l.set o (.int .u64 y)) rfl .here rfl (fun w hb => x_hit (V.cell_of_block hb (by exact hl)) (V.frozen_of hb))) ?_
  intro _ _
  refine LW.v rfl rfl (Val.assign rfl) ?_
  refine LW.nil ?_
  refine PQ.seq ?_
  refine CW.ret ?_
  refine PQ.ret1 rfl rfl ?_
  intro w' hw; exact ⟨(), trivial, rfl, hw⟩
theorem aMiss_c {b o : Nat} {l : List Value} {T : TypeId} {x : Int} (hl : l[o]? = some (.int .u64 x)) (z y : Int) (w : World) (hs : Sat [[(b, .cells l.toArray T (0, 0))]] w) (hne : ¬ x = z) : Calls Try.prog 59 [.pointer (some ⟨b, o, none⟩), .int .u64 z, .int .u64 y].toArray w fun e w' => e = .returned (.bool false) ∧ Below w.heap.size w w' := by
  refine V.calls [[(b, .cells l.toArray T (0, 0))]] Try.func59 rfl Try.ntmps59 (Nat.le_of_ble_eq_true rfl) hs ?_
  refine CW.seq ?_
  refine CW.region ?_
  refine LW.v rfl rfl (Val.assign rfl) ?_
  refine LW.nil ?_
  refine PQ.seq ?_
  refine CW.seq ?_
  refine CW.region ?_
  refine LW.v rfl rfl (Val.move rfl) ?_
  refine LW.v rfl rfl (Val.nilCheck rfl) ?_
  refine LW.v rfl rfl (Val.fieldAddr 0 rfl Try.underlying112 rfl rfl Try.sizeOf28) ?_
  refine LW.v rfl rfl (Val.move rfl) ?_
  refine LW.v rfl rfl (Val.move rfl) ?_
  refine LW.v rfl rfl (Val.ext rfl (fun w hw => x_miss (V.cell_of_block (hw.own _ InS.here.mem) (by exact hl)) (V.frozen_of (hw.own _ InS.here.mem)) hne)) ?_
  refine LW.v rfl rfl (Val.assign rfl) ?_
  refine LW.nil ?_
  refine PQ.seq ?_
  refine CW.ret ?_
  refine PQ.ret1 rfl rfl ?_
  intro w' hw; exact ⟨rfl, hw.ro (by repeat (first | exact .nil | apply Pick.cons | exact .here | apply Ext.there)) hs⟩
/-! ### The readers: what a block holds; what each call answers, in plain Lean -/
def rdB (now : Int) (a n : Nat) : Obj := .cells [.int .u64 now, .slice (some ⟨a, 0, none⟩) n n].toArray 114 (0, 0)
def rdA (l : List Int) : Obj := .cells (l.map (Value.int .u64)).toArray 112 (0, 0)
def rfB (now : Int) (a n : Nat) : Obj := .cells [.slice (some ⟨a, 0, none⟩) n n, .int .u64 now].toArray 118 (0, 0)
def rfA (l : List Int) : Obj := .cells (l.map (Value.int .u64)).toArray 28 (0, 0)
/-- The program's readers: their own block b, what each has announced in block a. -/
def rdG (b a : Nat) (now : Int) (l : List Int) : Sg := [[(b, rdB now a l.length)], [(a, rdA l)]]
/-- The reference's. -/
def rfG (b a : Nat) (now : Int) (l : List Int) : Sg := [[(b, rfB now a l.length)], [(a, rfA l)]]
def inR (l : List Int) (t : Int) : Prop := 0 ≤ t ∧ t < l.length
instance (l : List Int) (t : Int) : Decidable (inR l t) := inferInstanceAs (Decidable (_ ∧ _))
def enF (now : Int) (l : List Int) (t : Int) : List Int × Int × Int := if inR l t then (if l.getD t.toNat 0 = 0 then (l.set t.toNat now, now, 0) else (l, 0, 7)) else (l, 0, 1)
def leF (l : List Int) (t : Int) : List Int × Int := if inR l t then (if l.getD t.toNat 0 = 0 then (l, 12) else (l.set t.toNat 0, 0)) else (l, 1)
def inF (l : List Int) (t : Int) : Int × Bool := if inR l t then (l.getD t.toNat 0, l.getD t.toNat 0 != 0) else (0, false)
def lsStep (p : Int × Bool) (x : Int) : Int × Bool := if x ≠ 0 ∧ (p.2 = false ∨ x < p.1) then (x, true) else p
def lsF (l : List Int) : Int × Bool := l.foldl lsStep (0, false)
def quF (l : List Int) (e : Int) : Bool := l.all fun x => !(decide (0 < x) && decide (x ≤ e))
theorem getD_map {l : List Int} {t : Nat} (h : t < l.length) : (l.map (Value.int .u64))[t]? = some (.int .u64 (l.getD t 0)) := by
  simp [h]
theorem set_map (l : List Int) (t : Nat) (v : Int) : (l.map (Value.int .u64)).set t (.int .u64 v) = (l.set t v).map (Value.int .u64) := by
  rw [List.map_set]
theorem getD_mem {l : List Int} {t : Nat} (h : t < l.length) : l.getD t 0 ∈ l := by
  simp [h]
theorem set_self {l : List Int} {t : Nat} (h : l.getD t 0 = 0) : l.set t 0 = l := by
  apply List.ext_getElem?
  intro i
  rw [List.getElem?_set]
  split
  · rename_i e
    subst e
    split
    · rename_i hlt
      simp [hlt] at h ⊢; exact h.symm
    · rename_i hlt
      simp at hlt; simp [hlt]
  · rfl
theorem lsF_snoc (l : List Int) (x : Int) : lsF (l ++ [x]) = lsStep (lsF l) x := by simp [lsF]
/-- The least is there just if somebody is; it is announced, and nobody announced less. -/
theorem lsF_spec : ∀ (l : List Int), (∀ x ∈ l, 0 ≤ x) → ((lsF l).2 = false ∧ (∀ x ∈ l, x = 0)) ∨ ((lsF l).2 = true ∧ (lsF l).1 ∈ l ∧ 0 < (lsF l).1 ∧ ∀ x ∈ l, x ≠ 0 → (lsF l).1 ≤ x) := by
  intro l
  have key : ∀ (r p : List Int), (∀ x ∈ p ++ r, 0 ≤ x) → (((lsF p).2 = false ∧ (∀ x ∈ p, x = 0)) ∨ ((lsF p).2 = true ∧ (lsF p).1 ∈ p ∧ 0 < (lsF p).1 ∧ ∀ x ∈ p, x ≠ 0 → (lsF p).1 ≤ x)) → (((lsF (p ++ r)).2 = false ∧ (∀ x ∈ p ++ r, x = 0)) ∨ ((lsF (p ++ r)).2 = true ∧ (lsF (p ++ r)).1 ∈ p ++ r ∧ 0 < (lsF (p ++ r)).1 ∧ ∀ x ∈ p ++ r, x ≠ 0 → (lsF (p ++ r)).1 ≤ x)) := by
    intro r
    induction r with
    | nil => intro p _ h; simpa using h
    | cons y r ih =>
      intro p h0 h
      have e : p ++ y :: r = (p ++ [y]) ++ r := by simp
      rw [e] at h0 ⊢
      refine ih (p ++ [y]) h0 ?_
      have hy : 0 ≤ y := h0 y (by simp)
      rw [lsF_snoc]
      unfold lsStep
      by_cases hc : y ≠ 0 ∧ ((lsF p).2 = false ∨ y < (lsF p).1)
      · rw [if_pos hc]
        refine .inr ⟨rfl, by simp, by simp only; omega, fun x hx hx0 => ?_⟩
        simp only [List.mem_append, List.mem_singleton] at hx
        rcases hx with hx | rfl
        · rcases h with h | h
          · exact absurd (h.2 x hx) hx0
          · rcases hc.2 with h2 | h2
            · rw [h.1] at h2; cases h2
            · have := h.2.2.2 x hx hx0; simp only; omega
        · exact Int.le_refl _
      · rw [if_neg hc]
        rcases h with h | h
        · have : y = 0 := by
            by_cases hy0 : y = 0
            · exact hy0
            · exact absurd ⟨hy0, .inl h.1⟩ hc
          exact .inl ⟨h.1, fun x hx => by simp at hx; rcases hx with hx | rfl; exact h.2 x hx; exact this⟩
        · refine .inr ⟨h.1, by simp [h.2.1], h.2.2.1, fun x hx hx0 => ?_⟩
          simp at hx
          rcases hx with hx | rfl
          · exact h.2.2.2 x hx hx0
          · by_cases hlt : x < (lsF p).1
            · exact absurd ⟨hx0, .inr hlt⟩ hc
            · omega
  intro h0
  have := key l [] (by simpa using h0) (.inl ⟨rfl, by simp⟩)
  simpa using this
theorem quF_ls (l : List Int) (h0 : ∀ x ∈ l, 0 ≤ x) (e : Int) : (!(lsF l).2 || decide (e < (lsF l).1)) = quF l e := by
  rw [Bool.eq_iff_iff]
  rcases lsF_spec l h0 with ⟨h1, h2⟩ | ⟨h1, h2, h3, h4⟩
  · simp only [h1, Bool.not_false, Bool.true_or, true_iff, quF, List.all_eq_true]
    intro x hx; simp [h2 x hx]
  · simp only [h1, Bool.not_true, Bool.false_or, decide_eq_true_eq, quF, List.all_eq_true]
    constructor
    · intro h x hx
      by_cases hx0 : x = 0
      · simp [hx0]
      · have := h4 x hx hx0; simp; omega
    · intro h
      have := h _ h2
      simp at this
      rcases this with h | h
      · omega
      · exact h
def thV (a : Nat) (l : List Int) (t : Int) : Value := if inR l t then .pointer (some ⟨a, t.toNat, none⟩) else .pointer none
theorem thread_c (b a : Nat) (now : Int) (l : List Int) (t : Int) (w : World) (hs : Sat (rdG b a now l) w) : Calls Try.prog 58 [.pointer (some ⟨b, 0, none⟩), .int .i64 t].toArray w fun e w' => e = .returned (thV a l t) ∧ Below w.heap.size w w' := by
  refine V.calls (rdG b a now l) Try.func58 rfl Try.ntmps58 (Nat.le_of_ble_eq_true rfl) hs ?_
  refine CW.seq ?_
  refine CW.region ?_
  refine LW.v rfl rfl (Val.assign rfl) ?_
  refine LW.nil ?_
  refine PQ.seq ?_
  refine CW.seq ?_
  refine CW.seq ?_
  refine CW.region ?_
  refine LW.v rfl rfl (Val.move rfl) ?_
  refine LW.v rfl rfl (Val.eqP false rfl rfl Try.underlying49 (.inr ⟨rfl, rfl⟩)) ?_
  refine LW.v rfl rfl (Val.move rfl) ?_
  refine LW.v rfl rfl (Val.move rfl) ?_
  refine LW.v rfl rfl (Val.cmp rfl rfl rfl) ?_
  refine LW.v rfl rfl (Val.pick_f rfl rfl) ?_
  refine LW.v rfl rfl (Val.move rfl) ?_
  refine LW.split (d := 11) rfl (fun h11 => ?_) (fun h11 => ?_)
  · replace h11 := bT h11
    refine LW.p rfl rfl ?_
    refine LW.p rfl rfl ?_
    refine LW.p rfl rfl ?_
    refine LW.p rfl rfl ?_
    refine LW.p rfl rfl ?_
    refine LW.p rfl rfl ?_
    refine LW.p rfl rfl ?_
    refine LW.v rfl rfl (Val.pick_t rfl rfl) ?_
    refine LW.nil ?_
    refine PQ.seq ?_
    refine CW.cond_t rfl ?_
    refine CW.seq ?_
    refine CW.region ?_
    refine LW.v rfl rfl (Val.assign rfl) ?_
    refine LW.nil ?_
    refine PQ.seq ?_
    refine CW.ret ?_
    refine PQ.then_ret ?_
    refine PQ.ret1 rfl rfl ?_
    intro w' hw; exact ⟨by rw [thV, if_neg (by unfold inR; omega)], hw.ro (by repeat (first | exact .nil | apply Pick.cons | exact .here | apply Ext.there)) hs⟩
  · replace h11 := bF h11
    refine LW.v rfl rfl (Val.move rfl) ?_
    refine LW.v rfl rfl (Val.move rfl) ?_
    refine LW.v rfl rfl (Val.nilCheck rfl) ?_
    refine LW.v rfl rfl (Val.fieldAddr 1 rfl Try.underlying114 rfl rfl Try.sizeOf107) ?_
    refine LW.v rfl rfl (Val.load rfl Try.isAgg107 (by repeat (first | exact .here | refine .there ?_)) (by rfl)) ?_
    refine LW.v rfl rfl (Val.lenSl rfl Try.underlying107) ?_
    refine LW.v rfl rfl (Val.cmp rfl rfl rfl) ?_
    refine LW.v rfl rfl (Val.pick_f rfl rfl) ?_
    refine LW.nil ?_
    refine PQ.seq ?_
    refine CW.cond rfl (fun h19 => ?_) (fun h19 => ?_)
    · replace h19 := bT h19
      refine CW.seq ?_
      refine CW.region ?_
      refine LW.v rfl rfl (Val.assign rfl) ?_
      refine LW.nil ?_
      refine PQ.seq ?_
      refine CW.ret ?_
      refine PQ.then_ret ?_
      refine PQ.ret1 rfl rfl ?_
      intro w' hw; exact ⟨by rw [thV, if_neg (by unfold inR; omega)], hw.ro (by repeat (first | exact .nil | apply Pick.cons | exact .here | apply Ext.there)) hs⟩
    · replace h19 := bF h19
      refine CW.skip ?_
      refine PQ.seq ?_
      refine CW.seq ?_
      refine CW.region ?_
      refine LW.v rfl rfl (Val.move rfl) ?_
      refine LW.v rfl rfl (Val.nilCheck rfl) ?_
      refine LW.v rfl rfl (Val.fieldAddr 1 rfl Try.underlying114 rfl rfl Try.sizeOf107) ?_
      refine LW.v rfl rfl (Val.load rfl Try.isAgg107 (by repeat (first | exact .here | refine .there ?_)) (by rfl)) ?_
      refine LW.v rfl rfl (Val.move rfl) ?_
      first | (refine LW.v rfl rfl (Val.indexAddrN rfl rfl Try.underlying107 Try.sizeOf112 (by omega)) ?_) | (refine LW.v rfl rfl (Val.indexAddr rfl rfl Try.underlying107 Try.sizeOf112 (by omega) (by omega)) ?_)
      refine LW.v rfl rfl (Val.assign rfl) ?_
      refine LW.nil ?_
      refine PQ.seq ?_
      refine CW.ret ?_
      refine PQ.ret1 rfl rfl ?_
      intro w' hw; exact ⟨by rw [thV, if_pos (by unfold inR; omega)]; simp, hw.ro (by repeat (first | exact .nil | apply Pick.cons | exact .here | apply Ext.there)) hs⟩
theorem now_c (b a : Nat) (now : Int) (l : List Int) (w : World) (hs : Sat (rdG b a now l) w) : Calls Try.prog 36 [.pointer (some ⟨b, 0, none⟩)].toArray w fun e w' => e = .returned (.int .u64 now) ∧ Below w.heap.size w w' := by
  refine V.calls (rdG b a now l) Try.func36 rfl Try.ntmps36 (Nat.le_of_ble_eq_true rfl) hs ?_
  refine CW.seq ?_
  refine CW.region ?_
  refine LW.v rfl rfl (Val.assign rfl) ?_
  refine LW.nil ?_
  refine PQ.seq ?_
  refine CW.seq ?_
  refine CW.seq ?_
  refine CW.region ?_
  refine LW.v rfl rfl (Val.move rfl) ?_
  refine LW.v rfl rfl (Val.eqP false rfl rfl Try.underlying49 (.inr ⟨rfl, rfl⟩)) ?_
  refine LW.nil ?_
  refine PQ.seq ?_
  refine CW.cond_f rfl ?_
  refine CW.skip ?_
  refine PQ.seq ?_
  refine CW.seq ?_
  refine CW.region ?_
  refine LW.v rfl rfl (Val.move rfl) ?_
  refine LW.v rfl rfl (Val.nilCheck rfl) ?_
  refine LW.v rfl rfl (Val.fieldAddr 0 rfl Try.underlying114 rfl rfl Try.sizeOf112) ?_
  refine LW.e rfl rfl (Eff.callV rfl Try.call65 (fun w hw => aLoad_c (l := [.int .u64 now, .slice (some ⟨a, 0, none⟩) l.length l.length]) (T := 114) (o := 0) rfl w (hw.sat.pick (ss := [[(b, rdB now a l.length)]]) (by repeat (first | exact .nil | apply Pick.cons | exact .here | apply Ext.there))))) ?_
  intro _ _
  refine LW.v rfl rfl (Val.assign rfl) ?_
  refine LW.nil ?_
  refine PQ.seq ?_
  refine CW.ret ?_
  refine PQ.ret1 rfl rfl ?_
  intro w' hw; exact ⟨rfl, hw.ro (by repeat (first | exact .nil | apply Pick.cons | exact .here | apply Ext.there)) hs⟩
theorem adv_c (b a : Nat) (now : Int) (l : List Int) (w : World) (hs : Sat (rdG b a now l) w) (hin : 0 ≤ now ∧ now < 18446744073709551615) : Calls Try.prog 33 [.pointer (some ⟨b, 0, none⟩)].toArray w fun e w' => ∃ _u : Unit, True ∧ e = .returned (.int .u64 (now + 1)) ∧ Hp ⟨w, ids (rdG b a now l)⟩ (rdG b a (now + 1) l) w' := by
  refine V.calls (rdG b a now l) Try.func33 rfl Try.ntmps33 (Nat.le_of_ble_eq_true rfl) hs ?_
  refine CW.seq ?_
  refine CW.region ?_
  refine LW.v rfl rfl (Val.assign rfl) ?_
  refine LW.nil ?_
  refine PQ.seq ?_
  refine CW.seq ?_
  refine CW.seq ?_
  refine CW.region ?_
  refine LW.v rfl rfl (Val.move rfl) ?_
  refine LW.v rfl rfl (Val.eqP false rfl rfl Try.underlying49 (.inr ⟨rfl, rfl⟩)) ?_
  refine LW.nil ?_
  refine PQ.seq ?_
  refine CW.cond_f rfl ?_
  refine CW.skip ?_
  refine PQ.seq ?_
  refine CW.seq ?_
  refine CW.region ?_
  refine LW.v rfl rfl (Val.move rfl) ?_
  refine LW.v rfl rfl (Val.nilCheck rfl) ?_
  refine LW.v rfl rfl (Val.fieldAddr 0 rfl Try.underlying114 rfl rfl Try.sizeOf112) ?_
  refine LW.e rfl rfl (Eff.callM ([[(b, rdB now a l.length)]]) (by repeat (first | exact .nil | apply Pick.cons | exact .here | apply Ext.there)) rfl Try.call61 (fun w hw hs => aAdd_c (l := [.int .u64 now, .slice (some ⟨a, 0, none⟩) l.length l.length]) (T := 114) (o := 0) rfl 1 w hs (IntWalk.u64_in _ (by omega)))) ?_
  intro _ _
  refine LW.v rfl rfl (Val.assign rfl) ?_
  refine LW.nil ?_
  refine PQ.seq ?_
  refine CW.ret ?_
  refine PQ.ret1 rfl rfl ?_
  intro w' hw; exact ⟨(), trivial, rfl, hw.pick (by repeat (first | exact .nil | apply Pick.cons | exact .here | apply Ext.there))⟩
theorem inside_c (b a : Nat) (now : Int) (l : List Int) (t : Int) (w : World) (hs : Sat (rdG b a now l) w) : Calls Try.prog 40 [.pointer (some ⟨b, 0, none⟩), .int .i64 t].toArray w fun e w' => e = .returned (.tuple #[.int .u64 (inF l t).1, .bool (inF l t).2]) ∧ Below w.heap.size w w' := by
  by_cases ht : inR l t
  · rw [show inF l t = (l.getD t.toNat 0, l.getD t.toNat 0 != 0) from if_pos ht]
    refine V.calls (rdG b a now l) Try.func40 rfl Try.ntmps40 (Nat.le_of_ble_eq_true rfl) hs ?_
    refine CW.seq ?_
    refine CW.region ?_
    refine LW.v rfl rfl (Val.assign rfl) ?_
    refine LW.v rfl rfl (Val.assign rfl) ?_
    refine LW.nil ?_
    refine PQ.seq ?_
    refine CW.seq ?_
    refine CW.region ?_
    refine LW.v rfl rfl (Val.move rfl) ?_
    refine LW.v rfl rfl (Val.move rfl) ?_
    refine LW.e rfl rfl (Eff.callV rfl Try.call58 (fun w hw => thread_c b a now l t w hw.sat)) ?_
    intro _ _
    refine LW.re 10 (.pointer (some ⟨a, t.toNat, none⟩)) rfl (if_pos ht) ?_
    refine LW.v rfl rfl (Val.assign rfl) ?_
    refine LW.nil ?_
    refine PQ.seq ?_
    refine CW.seq ?_
    refine CW.seq ?_
    refine CW.region ?_
    refine LW.v rfl rfl (Val.move rfl) ?_
    refine LW.v rfl rfl (Val.eqP false rfl rfl Try.underlying119 (.inr ⟨rfl, rfl⟩)) ?_
    refine LW.nil ?_
    refine PQ.seq ?_
    refine CW.cond_f rfl ?_
    refine CW.skip ?_
    refine PQ.seq ?_
    refine CW.seq ?_
    refine CW.region ?_
    refine LW.v rfl rfl (Val.move rfl) ?_
    refine LW.e rfl rfl (Eff.callV rfl Try.call65 (fun w hw => aLoad_c (l := l.map (Value.int .u64)) (T := 112) (o := t.toNat) (getD_map (by unfold inR at ht; omega)) w (hw.sat.pick (ss := [[(a, rdA l)]]) (by repeat (first | exact .nil | apply Pick.cons | exact .here | apply Ext.there))))) ?_
    intro _ _
    refine LW.v rfl rfl (Val.assign rfl) ?_
    refine LW.nil ?_
    refine PQ.seq ?_
    refine CW.seq ?_
    refine CW.region ?_
    refine LW.v rfl rfl (Val.move rfl) ?_
    refine LW.v rfl rfl (Val.move rfl) ?_
    refine LW.v rfl rfl (Val.cmp rfl rfl rfl) ?_
    refine LW.v rfl rfl (Val.assign rfl) ?_
    refine LW.v rfl rfl (Val.assign rfl) ?_
    refine LW.nil ?_
    refine PQ.seq ?_
    refine CW.ret ?_
    refine PQ.ret2 rfl rfl rfl ?_
    intro w' hw; exact ⟨rfl, hw.ro (by repeat (first | exact .nil | apply Pick.cons | exact .here | apply Ext.there)) hs⟩
  · rw [show inF l t = (0, false) from if_neg ht]
    refine V.calls (rdG b a now l) Try.func40 rfl Try.ntmps40 (Nat.le_of_ble_eq_true rfl) hs ?_
    refine CW.seq ?_
    refine CW.region ?_
    refine LW.v rfl rfl (Val.assign rfl) ?_
    refine LW.v rfl rfl (Val.assign rfl) ?_
    refine LW.nil ?_
    refine PQ.seq ?_
    refine CW.seq ?_
    refine CW.region ?_
    refine LW.v rfl rfl (Val.move rfl) ?_
    refine LW.v rfl rfl (Val.move rfl) ?_
    refine LW.e rfl rfl (Eff.callV rfl Try.call58 (fun w hw => thread_c b a now l t w hw.sat)) ?_
    intro _ _
    refine LW.re 10 (.pointer none) rfl (if_neg ht) ?_
    refine LW.v rfl rfl (Val.assign rfl) ?_
    refine LW.nil ?_
    refine PQ.seq ?_
    refine CW.seq ?_
    refine CW.seq ?_
    refine CW.region ?_
    refine LW.v rfl rfl (Val.move rfl) ?_
    refine LW.v rfl rfl (Val.eqP true rfl rfl Try.underlying119 (.inr ⟨rfl, rfl⟩)) ?_
    refine LW.nil ?_
    refine PQ.seq ?_
    refine CW.cond_t rfl ?_
    refine CW.seq ?_
    refine CW.region ?_
    refine LW.v rfl rfl (Val.assign rfl) ?_
    refine LW.v rfl rfl (Val.assign rfl) ?_
    refine LW.nil ?_
    refine PQ.seq ?_
    refine CW.ret ?_
    refine PQ.then_ret ?_
    refine PQ.ret2 rfl rfl rfl ?_
    intro w' hw; exact ⟨rfl, hw.ro (by repeat (first | exact .nil | apply Pick.cons | exact .here | apply Ext.there)) hs⟩
theorem enter_c (b a : Nat) (now : Int) (l : List Int) (t : Int) (w : World) (hs : Sat (rdG b a now l) w) : Calls Try.prog 29 [.pointer (some ⟨b, 0, none⟩), .int .i64 t].toArray w fun e w' => ∃ _u : Unit, True ∧ e = .returned (.tuple #[.int .u64 (enF now l t).2.1, .int .i64 (enF now l t).2.2]) ∧ Hp ⟨w, ids (rdG b a now l)⟩ (rdG b a now (enF now l t).1) w' := by
  by_cases ht : inR l t
  · by_cases h0 : l.getD t.toNat 0 = 0
    · rw [show enF now l t = (l.set t.toNat now, now, 0) from (if_pos ht).trans (if_pos h0)]
      refine V.calls (rdG b a now l) Try.func29 rfl Try.ntmps29 (Nat.le_of_ble_eq_true rfl) hs ?_
      refine CW.seq ?_
      refine CW.region ?_
      refine LW.v rfl rfl (Val.assign rfl) ?_
      refine LW.v rfl rfl (Val.assign rfl) ?_
      refine LW.nil ?_
      refine PQ.seq ?_
      refine CW.seq ?_
      refine CW.region ?_
      refine LW.v rfl rfl (Val.move rfl) ?_
      refine LW.v rfl rfl (Val.move rfl) ?_
      refine LW.e rfl rfl (Eff.callV rfl Try.call58 (fun w hw => thread_c b a now l t w hw.sat)) ?_
      intro _ _
      refine LW.re 10 (.pointer (some ⟨a, t.toNat, none⟩)) rfl (if_pos ht) ?_
      refine LW.v rfl rfl (Val.assign rfl) ?_
      refine LW.nil ?_
      refine PQ.seq ?_
      refine CW.seq ?_
      refine CW.seq ?_
      refine CW.region ?_
      refine LW.v rfl rfl (Val.move rfl) ?_
      refine LW.v rfl rfl (Val.eqP false rfl rfl Try.underlying119 (.inr ⟨rfl, rfl⟩)) ?_
      refine LW.nil ?_
      refine PQ.seq ?_
      refine CW.cond_f rfl ?_
      refine CW.skip ?_
      refine PQ.seq ?_
      refine CW.seq ?_
      refine CW.region ?_
      refine LW.v rfl rfl (Val.move rfl) ?_
      refine LW.e rfl rfl (Eff.callV rfl Try.call36 (fun w hw => now_c b a now l w hw.sat)) ?_
      intro _ _
      refine LW.v rfl rfl (Val.assign rfl) ?_
      refine LW.nil ?_
      refine PQ.seq ?_
      refine CW.seq ?_
      refine CW.seq ?_
      refine CW.region ?_
      refine LW.v rfl rfl (Val.move rfl) ?_
      refine LW.v rfl rfl (Val.move rfl) ?_
      refine LW.e rfl rfl (Eff.callM ([[(a, rdA l)]]) (by repeat (first | exact .nil | apply Pick.cons | exact .here | apply Ext.there)) rfl Try.call59 (fun w hw hs => h0 ▸ aHit_c (l := l.map (Value.int .u64)) (T := 112) (o := t.toNat) (x := l.getD t.toNat 0) (getD_map (by unfold inR at ht; omega)) now w hs)) ?_
      intro _ _
      refine LW.v rfl rfl (Val.not rfl) ?_
      refine LW.nil ?_
      refine PQ.seq ?_
      refine CW.cond_f rfl ?_
      refine CW.skip ?_
      refine PQ.seq ?_
      refine CW.seq ?_
      refine CW.region ?_
      refine LW.v rfl rfl (Val.move rfl) ?_
      refine LW.v rfl rfl (Val.assign rfl) ?_
      refine LW.v rfl rfl (Val.assign rfl) ?_
      refine LW.nil ?_
      refine PQ.seq ?_
      refine CW.ret ?_
      refine PQ.ret2 rfl rfl rfl ?_
      intro w' hw; refine ⟨(), trivial, rfl, ?_⟩
      rw [set_map] at hw
      have h2 := hw.pick (ss := [[(b, rdB now a l.length)], [(a, rdA (l.set t.toNat now))]]) (by repeat (first | exact .nil | apply Pick.cons | exact .here | apply Ext.there))
      unfold rdG
      rw [List.length_set]
      exact h2
    · rw [show enF now l t = (l, 0, 7) from (if_pos ht).trans (if_neg h0)]
      refine V.calls (rdG b a now l) Try.func29 rfl Try.ntmps29 (Nat.le_of_ble_eq_true rfl) hs ?_
      refine CW.seq ?_
      refine CW.region ?_
      refine LW.v rfl rfl (Val.assign rfl) ?_
      refine LW.v rfl rfl (Val.assign rfl) ?_
      refine LW.nil ?_
      refine PQ.seq ?_
      refine CW.seq ?_
      refine CW.region ?_
      refine LW.v rfl rfl (Val.move rfl) ?_
      refine LW.v rfl rfl (Val.move rfl) ?_
      refine LW.e rfl rfl (Eff.callV rfl Try.call58 (fun w hw => thread_c b a now l t w hw.sat)) ?_
      intro _ _
      refine LW.re 10 (.pointer (some ⟨a, t.toNat, none⟩)) rfl (if_pos ht) ?_
      refine LW.v rfl rfl (Val.assign rfl) ?_
      refine LW.nil ?_
      refine PQ.seq ?_
      refine CW.seq ?_
      refine CW.seq ?_
      refine CW.region ?_
      refine LW.v rfl rfl (Val.move rfl) ?_
      refine LW.v rfl rfl (Val.eqP false rfl rfl Try.underlying119 (.inr ⟨rfl, rfl⟩)) ?_
      refine LW.nil ?_
      refine PQ.seq ?_
      refine CW.cond_f rfl ?_
      refine CW.skip ?_
      refine PQ.seq ?_
      refine CW.seq ?_
      refine CW.region ?_
      refine LW.v rfl rfl (Val.move rfl) ?_
      refine LW.e rfl rfl (Eff.callV rfl Try.call36 (fun w hw => now_c b a now l w hw.sat)) ?_
      intro _ _
      refine LW.v rfl rfl (Val.assign rfl) ?_
      refine LW.nil ?_
      refine PQ.seq ?_
      refine CW.seq ?_
      refine CW.seq ?_
      refine CW.region ?_
      refine LW.v rfl rfl (Val.move rfl) ?_
      refine LW.v rfl rfl (Val.move rfl) ?_
      refine LW.e rfl rfl (Eff.callV rfl Try.call59 (fun w hw => aMiss_c (l := l.map (Value.int .u64)) (T := 112) (o := t.toNat) (x := l.getD t.toNat 0) (getD_map (by unfold inR at ht; omega)) 0 now w (hw.sat.pick (ss := [[(a, rdA l)]]) (by repeat (first | exact .nil | apply Pick.cons | exact .here | apply Ext.there))) h0)) ?_
      intro _ _
      refine LW.v rfl rfl (Val.not rfl) ?_
      refine LW.nil ?_
      refine PQ.seq ?_
      refine CW.cond_t rfl ?_
      refine CW.seq ?_
      refine CW.region ?_
      refine LW.v rfl rfl (Val.assign rfl) ?_
      refine LW.v rfl rfl (Val.assign rfl) ?_
      refine LW.nil ?_
      refine PQ.seq ?_
      refine CW.ret ?_
      refine PQ.then_ret ?_
      refine PQ.ret2 rfl rfl rfl ?_
      intro w' hw; exact ⟨(), trivial, rfl, hw.pick (by repeat (first | exact .nil | apply Pick.cons | exact .here | apply Ext.there))⟩
  · rw [show enF now l t = (l, 0, 1) from if_neg ht]
    refine V.calls (rdG b a now l) Try.func29 rfl Try.ntmps29 (Nat.le_of_ble_eq_true rfl) hs ?_
    refine CW.seq ?_
    refine CW.region ?_
    refine LW.v rfl rfl (Val.assign rfl) ?_
    refine LW.v rfl rfl (Val.assign rfl) ?_
    refine LW.nil ?_
    refine PQ.seq ?_
    refine CW.seq ?_
    refine CW.region ?_
    refine LW.v rfl rfl (Val.move rfl) ?_
    refine LW.v rfl rfl (Val.move rfl) ?_
    refine LW.e rfl rfl (Eff.callV rfl Try.call58 (fun w hw => thread_c b a now l t w hw.sat)) ?_
    intro _ _
    refine LW.re 10 (.pointer none) rfl (if_neg ht) ?_
    refine LW.v rfl rfl (Val.assign rfl) ?_
    refine LW.nil ?_
    refine PQ.seq ?_
    refine CW.seq ?_
    refine CW.seq ?_
    refine CW.region ?_
    refine LW.v rfl rfl (Val.move rfl) ?_
    refine LW.v rfl rfl (Val.eqP true rfl rfl Try.underlying119 (.inr ⟨rfl, rfl⟩)) ?_
    refine LW.nil ?_
    refine PQ.seq ?_
    refine CW.cond_t rfl ?_
    refine CW.seq ?_
    refine CW.region ?_
    refine LW.v rfl rfl (Val.assign rfl) ?_
    refine LW.v rfl rfl (Val.assign rfl) ?_
    refine LW.nil ?_
    refine PQ.seq ?_
    refine CW.ret ?_
    refine PQ.then_ret ?_
    refine PQ.ret2 rfl rfl rfl ?_
    intro w' hw; exact ⟨(), trivial, rfl, hw.pick (by repeat (first | exact .nil | apply Pick.cons | exact .here | apply Ext.there))⟩
theorem leave_c (b a : Nat) (now : Int) (l : List Int) (t : Int) (w : World) (hs : Sat (rdG b a now l) w) : Calls Try.prog 31 [.pointer (some ⟨b, 0, none⟩), .int .i64 t].toArray w fun e w' => ∃ _u : Unit, True ∧ e = .returned (.int .i64 (leF l t).2) ∧ Hp ⟨w, ids (rdG b a now l)⟩ (rdG b a now (leF l t).1) w' := by
  by_cases ht : inR l t
  · by_cases h0 : l.getD t.toNat 0 = 0
    · rw [show leF l t = (l, 12) from (if_pos ht).trans (if_pos h0)]
      refine V.calls (rdG b a now l) Try.func31 rfl Try.ntmps31 (Nat.le_of_ble_eq_true rfl) hs ?_
      refine CW.seq ?_
      refine CW.region ?_
      refine LW.v rfl rfl (Val.assign rfl) ?_
      refine LW.nil ?_
      refine PQ.seq ?_
      refine CW.seq ?_
      refine CW.region ?_
      refine LW.v rfl rfl (Val.move rfl) ?_
      refine LW.v rfl rfl (Val.move rfl) ?_
      refine LW.e rfl rfl (Eff.callV rfl Try.call58 (fun w hw => thread_c b a now l t w hw.sat)) ?_
      intro _ _
      refine LW.re 8 (.pointer (some ⟨a, t.toNat, none⟩)) rfl (if_pos ht) ?_
      refine LW.v rfl rfl (Val.assign rfl) ?_
      refine LW.nil ?_
      refine PQ.seq ?_
      refine CW.seq ?_
      refine CW.seq ?_
      refine CW.region ?_
      refine LW.v rfl rfl (Val.move rfl) ?_
      refine LW.v rfl rfl (Val.eqP false rfl rfl Try.underlying119 (.inr ⟨rfl, rfl⟩)) ?_
      refine LW.nil ?_
      refine PQ.seq ?_
      refine CW.cond_f rfl ?_
      refine CW.skip ?_
      refine PQ.seq ?_
      refine CW.seq ?_
      refine CW.seq ?_
      refine CW.region ?_
      refine LW.v rfl rfl (Val.move rfl) ?_
      refine LW.e rfl rfl (Eff.callM ([[(a, rdA l)]]) (by repeat (first | exact .nil | apply Pick.cons | exact .here | apply Ext.there)) rfl Try.call60 (fun w hw hs => aSwap_c (l := l.map (Value.int .u64)) (T := 112) (o := t.toNat) (x := l.getD t.toNat 0) (getD_map (by unfold inR at ht; omega)) 0 w hs)) ?_
      intro _ _
      refine LW.v rfl rfl (Val.cmp rfl rfl rfl) ?_
      refine LW.re 13 (.bool true) rfl (by rw [h0]; rfl) ?_
      refine LW.nil ?_
      refine PQ.seq ?_
      refine CW.cond_t rfl ?_
      refine CW.seq ?_
      refine CW.region ?_
      refine LW.v rfl rfl (Val.assign rfl) ?_
      refine LW.nil ?_
      refine PQ.seq ?_
      refine CW.ret ?_
      refine PQ.then_ret ?_
      refine PQ.ret1 rfl rfl ?_
      intro w' hw; refine ⟨(), trivial, rfl, ?_⟩
      rw [set_map, set_self h0] at hw
      have h2 := hw.pick (ss := [[(b, rdB now a l.length)], [(a, rdA l)]]) (by repeat (first | exact .nil | apply Pick.cons | exact .here | apply Ext.there))
      unfold rdG
      exact h2
    · rw [show leF l t = (l.set t.toNat 0, 0) from (if_pos ht).trans (if_neg h0)]
      refine V.calls (rdG b a now l) Try.func31 rfl Try.ntmps31 (Nat.le_of_ble_eq_true rfl) hs ?_
      refine CW.seq ?_
      refine CW.region ?_
      refine LW.v rfl rfl (Val.assign rfl) ?_
      refine LW.nil ?_
      refine PQ.seq ?_
      refine CW.seq ?_
      refine CW.region ?_
      refine LW.v rfl rfl (Val.move rfl) ?_
      refine LW.v rfl rfl (Val.move rfl) ?_
      refine LW.e rfl rfl (Eff.callV rfl Try.call58 (fun w hw => thread_c b a now l t w hw.sat)) ?_
      intro _ _
      refine LW.re 8 (.pointer (some ⟨a, t.toNat, none⟩)) rfl (if_pos ht) ?_
      refine LW.v rfl rfl (Val.assign rfl) ?_
      refine LW.nil ?_
      refine PQ.seq ?_
      refine CW.seq ?_
      refine CW.seq ?_
      refine CW.region ?_
      refine LW.v rfl rfl (Val.move rfl) ?_
      refine LW.v rfl rfl (Val.eqP false rfl rfl Try.underlying119 (.inr ⟨rfl, rfl⟩)) ?_
      refine LW.nil ?_
      refine PQ.seq ?_
      refine CW.cond_f rfl ?_
      refine CW.skip ?_
      refine PQ.seq ?_
      refine CW.seq ?_
      refine CW.seq ?_
      refine CW.region ?_
      refine LW.v rfl rfl (Val.move rfl) ?_
      refine LW.e rfl rfl (Eff.callM ([[(a, rdA l)]]) (by repeat (first | exact .nil | apply Pick.cons | exact .here | apply Ext.there)) rfl Try.call60 (fun w hw hs => aSwap_c (l := l.map (Value.int .u64)) (T := 112) (o := t.toNat) (x := l.getD t.toNat 0) (getD_map (by unfold inR at ht; omega)) 0 w hs)) ?_
      intro _ _
      refine LW.v rfl rfl (Val.cmp rfl rfl rfl) ?_
      refine LW.re 13 (.bool false) rfl (by rw [beq_eq_false_iff_ne.2 h0]) ?_
      refine LW.nil ?_
      refine PQ.seq ?_
      refine CW.cond_f rfl ?_
      refine CW.skip ?_
      refine PQ.seq ?_
      refine CW.seq ?_
      refine CW.region ?_
      refine LW.v rfl rfl (Val.assign rfl) ?_
      refine LW.nil ?_
      refine PQ.seq ?_
      refine CW.ret ?_
      refine PQ.ret1 rfl rfl ?_
      intro w' hw; refine ⟨(), trivial, rfl, ?_⟩
      rw [set_map] at hw
      have h2 := hw.pick (ss := [[(b, rdB now a l.length)], [(a, rdA (l.set t.toNat 0))]]) (by repeat (first | exact .nil | apply Pick.cons | exact .here | apply Ext.there))
      unfold rdG
      rw [List.length_set]
      exact h2
  · rw [show leF l t = (l, 1) from if_neg ht]
    refine V.calls (rdG b a now l) Try.func31 rfl Try.ntmps31 (Nat.le_of_ble_eq_true rfl) hs ?_
    refine CW.seq ?_
    refine CW.region ?_
    refine LW.v rfl rfl (Val.assign rfl) ?_
    refine LW.nil ?_
    refine PQ.seq ?_
    refine CW.seq ?_
    refine CW.region ?_
    refine LW.v rfl rfl (Val.move rfl) ?_
    refine LW.v rfl rfl (Val.move rfl) ?_
    refine LW.e rfl rfl (Eff.callV rfl Try.call58 (fun w hw => thread_c b a now l t w hw.sat)) ?_
    intro _ _
    refine LW.re 8 (.pointer none) rfl (if_neg ht) ?_
    refine LW.v rfl rfl (Val.assign rfl) ?_
    refine LW.nil ?_
    refine PQ.seq ?_
    refine CW.seq ?_
    refine CW.seq ?_
    refine CW.region ?_
    refine LW.v rfl rfl (Val.move rfl) ?_
    refine LW.v rfl rfl (Val.eqP true rfl rfl Try.underlying119 (.inr ⟨rfl, rfl⟩)) ?_
    refine LW.nil ?_
    refine PQ.seq ?_
    refine CW.cond_t rfl ?_
    refine CW.seq ?_
    refine CW.region ?_
    refine LW.v rfl rfl (Val.assign rfl) ?_
    refine LW.nil ?_
    refine PQ.seq ?_
    refine CW.ret ?_
    refine PQ.then_ret ?_
    refine PQ.ret1 rfl rfl ?_
    intro w' hw; exact ⟨(), trivial, rfl, hw.pick (by repeat (first | exact .nil | apply Pick.cons | exact .here | apply Ext.there))⟩
theorem least_c (b a : Nat) (now : Int) (l : List Int) (w : World) (hs : Sat (rdG b a now l) w) (hm : l.length ≤ 1000) : Calls Try.prog 39 [.pointer (some ⟨b, 0, none⟩)].toArray w fun e w' => e = .returned (.tuple #[.int .u64 (lsF l).1, .bool (lsF l).2]) ∧ Below w.heap.size w w' := by
  have hstep : ∀ k, k < l.length → lsF (l.take (k + 1)) = lsStep (lsF (l.take k)) (l.getD k 0) := fun k hk => by
    rw [List.take_succ_eq_append_getElem hk, lsF_snoc]; simp [hk]
  refine V.calls (rdG b a now l) Try.func39 rfl Try.ntmps39 (Nat.le_of_ble_eq_true rfl) hs ?_
  refine CW.seq ?_
  refine CW.region ?_
  refine LW.v rfl rfl (Val.assign rfl) ?_
  refine LW.v rfl rfl (Val.assign rfl) ?_
  refine LW.nil ?_
  refine PQ.seq ?_
  refine CW.seq ?_
  refine CW.seq ?_
  refine CW.region ?_
  refine LW.v rfl rfl (Val.move rfl) ?_
  refine LW.v rfl rfl (Val.eqP false rfl rfl Try.underlying49 (.inr ⟨rfl, rfl⟩)) ?_
  refine LW.nil ?_
  refine PQ.seq ?_
  refine CW.cond_f rfl ?_
  refine CW.skip ?_
  refine PQ.seq ?_
  refine CW.seq ?_
  refine CW.region ?_
  refine LW.v rfl rfl (Val.assign rfl) ?_
  refine LW.v rfl rfl (Val.assign rfl) ?_
  refine LW.nil ?_
  refine PQ.seq ?_
  refine CW.seq ?_
  refine CW.seq ?_
  refine CW.region ?_
  refine LW.v rfl rfl (Val.move rfl) ?_
  refine LW.v rfl rfl (Val.nilCheck rfl) ?_
  refine LW.v rfl rfl (Val.fieldAddr 1 rfl Try.underlying114 rfl rfl Try.sizeOf107) ?_
  refine LW.v rfl rfl (Val.load rfl Try.isAgg107 (by repeat (first | exact .here | refine .there ?_)) (by rfl)) ?_
  refine LW.v rfl rfl (Val.lenSl rfl Try.underlying107) ?_
  refine LW.v rfl rfl (Val.move rfl) ?_
  refine LW.nil ?_
  refine PQ.seq ?_
  refine CW.block ?_
  refine CW.loop (γ := Nat) (fun k => [(0, .pointer (some ⟨b, 0, none⟩)), (4, .int .u64 (lsF (l.take k)).1), (5, .bool (lsF (l.take k)).2), (15, .int .i64 (l.length : Nat)), (16, .int .i64 (k : Nat))]) (fun _ => rdG b a now l) (fun k => k ≤ l.length) (fun k => l.length - k) (0) (Nat.zero_le _) (by repeat (first | exact trivial | refine ⟨rfl, ?_⟩)) (by repeat (first | exact .nil | apply Pick.cons | exact .here | apply Ext.there)) ?_
  intro k
  intro hJ
  refine CW.seq ?_
  refine CW.region ?_
  refine LW.v rfl rfl (Val.cmp rfl rfl rfl) ?_
  refine LW.nil ?_
  refine PQ.seq ?_
  refine CW.seq ?_
  refine CW.cond rfl (fun h17 => ?_) (fun h17 => ?_)
  · replace h17 := bT h17
    refine CW.skip ?_
    refine PQ.seq ?_
    refine CW.seq ?_
    refine CW.block ?_
    refine CW.seq ?_
    refine CW.region ?_
    refine LW.v rfl rfl (Val.move rfl) ?_
    refine LW.v rfl rfl (Val.assign rfl) ?_
    refine LW.nil ?_
    refine PQ.seq ?_
    refine CW.seq ?_
    refine CW.region ?_
    refine LW.v rfl rfl (Val.move rfl) ?_
    refine LW.v rfl rfl (Val.move rfl) ?_
    refine LW.e rfl rfl (Eff.callV rfl Try.call40 (fun w hw => inside_c b a now l k w hw.sat)) ?_
    intro _ _
    refine LW.re 22 (.tuple #[.int .u64 (l.getD k 0), .bool (l.getD k 0 != 0)]) rfl (by rw [show inF l (k : Int) = (l.getD k 0, l.getD k 0 != 0) from if_pos (by unfold inR; omega)]) ?_
    refine LW.v rfl rfl (Val.move rfl) ?_
    refine LW.v rfl rfl (Val.extract rfl rfl) ?_
    refine LW.v rfl rfl (Val.extract rfl rfl) ?_
    refine LW.v rfl rfl (Val.assign rfl) ?_
    refine LW.v rfl rfl (Val.assign rfl) ?_
    refine LW.nil ?_
    refine PQ.seq ?_
    refine CW.seq ?_
    refine CW.region ?_
    refine LW.v rfl rfl (Val.move rfl) ?_
    refine LW.v rfl rfl (Val.move rfl) ?_
    refine LW.split (d := 26) rfl (fun h26 => ?_) (fun h26 => ?_)
    · replace h26 := bT h26
      refine LW.v rfl rfl (Val.move rfl) ?_
      refine LW.v rfl rfl (Val.not rfl) ?_
      refine LW.v rfl rfl (Val.move rfl) ?_
      refine LW.split (d := 29) rfl (fun h29 => ?_) (fun h29 => ?_)
      · replace h29 := bT h29
        refine LW.p rfl rfl ?_
        refine LW.p rfl rfl ?_
        refine LW.p rfl rfl ?_
        refine LW.v rfl rfl (Val.pick_t rfl rfl) ?_
        refine LW.v rfl rfl (Val.pick_t rfl rfl) ?_
        refine LW.nil ?_
        refine PQ.seq ?_
        refine CW.cond_t rfl ?_
        refine CW.region ?_
        refine LW.v rfl rfl (Val.move rfl) ?_
        refine LW.v rfl rfl (Val.assign rfl) ?_
        refine LW.v rfl rfl (Val.assign rfl) ?_
        refine LW.nil ?_
        refine PQ.in_normal ?_
        refine PQ.seq ?_
        refine CW.region ?_
        refine LW.v rfl rfl (Val.ar rfl rfl rfl (IntWalk.i64_in _ (by omega))) ?_
        refine LW.v rfl rfl (Val.move rfl) ?_
        refine LW.nil ?_
        have hv : lsF (l.take (k + 1)) = (l.getD k 0, true) := by rw [hstep k (by omega)]; unfold lsStep; exact if_pos ⟨h26, by first | exact .inl h29 | exact .inr h34⟩
        refine PQ.round (k + 1) (by omega) (by omega) ⟨rfl, by rw [hv]; rfl, by rw [hv]; rfl, rfl, rfl, trivial⟩ (by repeat (first | exact .nil | apply Pick.cons | exact .here | apply Ext.there))
      · replace h29 := bF h29
        refine LW.v rfl rfl (Val.move rfl) ?_
        refine LW.v rfl rfl (Val.move rfl) ?_
        refine LW.v rfl rfl (Val.cmp rfl rfl rfl) ?_
        refine LW.v rfl rfl (Val.pick_f rfl rfl) ?_
        refine LW.v rfl rfl (Val.pick_t rfl rfl) ?_
        refine LW.nil ?_
        refine PQ.seq ?_
        refine CW.cond rfl (fun h34 => ?_) (fun h34 => ?_)
        · replace h34 := bT h34
          refine CW.region ?_
          refine LW.v rfl rfl (Val.move rfl) ?_
          refine LW.v rfl rfl (Val.assign rfl) ?_
          refine LW.v rfl rfl (Val.assign rfl) ?_
          refine LW.nil ?_
          refine PQ.in_normal ?_
          refine PQ.seq ?_
          refine CW.region ?_
          refine LW.v rfl rfl (Val.ar rfl rfl rfl (IntWalk.i64_in _ (by omega))) ?_
          refine LW.v rfl rfl (Val.move rfl) ?_
          refine LW.nil ?_
          have hv : lsF (l.take (k + 1)) = (l.getD k 0, true) := by rw [hstep k (by omega)]; unfold lsStep; exact if_pos ⟨h26, by first | exact .inl h29 | exact .inr h34⟩
          refine PQ.round (k + 1) (by omega) (by omega) ⟨rfl, by rw [hv]; rfl, by rw [hv]; rfl, rfl, rfl, trivial⟩ (by repeat (first | exact .nil | apply Pick.cons | exact .here | apply Ext.there))
        · replace h34 := bF h34
          refine CW.skip ?_
          refine PQ.in_normal ?_
          refine PQ.seq ?_
          refine CW.region ?_
          refine LW.v rfl rfl (Val.ar rfl rfl rfl (IntWalk.i64_in _ (by omega))) ?_
          refine LW.v rfl rfl (Val.move rfl) ?_
          refine LW.nil ?_
          have hv : lsF (l.take (k + 1)) = lsF (l.take k) := by rw [hstep k (by omega)]; unfold lsStep; exact if_neg (fun hc => by rcases hc.2 with h | h; (rw [h29] at h; cases h); omega)
          refine PQ.round (k + 1) (by omega) (by omega) ⟨rfl, by rw [hv]; rfl, by rw [hv]; rfl, rfl, rfl, trivial⟩ (by repeat (first | exact .nil | apply Pick.cons | exact .here | apply Ext.there))
    · replace h26 := bF h26
      refine LW.p rfl rfl ?_
      refine LW.p rfl rfl ?_
      refine LW.p rfl rfl ?_
      refine LW.p rfl rfl ?_
      refine LW.p rfl rfl ?_
      refine LW.p rfl rfl ?_
      refine LW.p rfl rfl ?_
      refine LW.v rfl rfl (Val.pick_f rfl rfl) ?_
      refine LW.nil ?_
      refine PQ.seq ?_
      refine CW.cond_f rfl ?_
      refine CW.skip ?_
      refine PQ.in_normal ?_
      refine PQ.seq ?_
      refine CW.region ?_
      refine LW.v rfl rfl (Val.ar rfl rfl rfl (IntWalk.i64_in _ (by omega))) ?_
      refine LW.v rfl rfl (Val.move rfl) ?_
      refine LW.nil ?_
      have hv : lsF (l.take (k + 1)) = lsF (l.take k) := by rw [hstep k (by omega)]; unfold lsStep; exact if_neg (fun hc => hc.1 h26)
      refine PQ.round (k + 1) (by omega) (by omega) ⟨rfl, by rw [hv]; rfl, by rw [hv]; rfl, rfl, rfl, trivial⟩ (by repeat (first | exact .nil | apply Pick.cons | exact .here | apply Ext.there))
  · replace h17 := bF h17
    refine CW.exit ?_
    refine PQ.then_exit ?_
    refine PQ.then_exit ?_
    refine PQ.in_here ?_
    refine PQ.seq ?_
    refine CW.seq ?_
    refine CW.region ?_
    refine LW.v rfl rfl (Val.move rfl) ?_
    refine LW.v rfl rfl (Val.move rfl) ?_
    refine LW.v rfl rfl (Val.assign rfl) ?_
    refine LW.v rfl rfl (Val.assign rfl) ?_
    refine LW.nil ?_
    refine PQ.seq ?_
    refine CW.ret ?_
    refine PQ.ret2 rfl rfl rfl ?_
    intro w' hw; exact ⟨by rw [List.take_of_length_le (by omega)], hw.ro (by repeat (first | exact .nil | apply Pick.cons | exact .here | apply Ext.there)) hs⟩
theorem quiet_c (b a : Nat) (now : Int) (l : List Int) (e : Int) (w : World) (hs : Sat (rdG b a now l) w) (hm : l.length ≤ 1000) (h0 : ∀ x ∈ l, 0 ≤ x) : Calls Try.prog 38 [.pointer (some ⟨b, 0, none⟩), .int .u64 e].toArray w fun r w' => r = .returned (.bool (quF l e)) ∧ Below w.heap.size w w' := by
  rw [← quF_ls l h0 e]
  refine V.calls (rdG b a now l) Try.func38 rfl Try.ntmps38 (Nat.le_of_ble_eq_true rfl) hs ?_
  refine CW.seq ?_
  refine CW.region ?_
  refine LW.v rfl rfl (Val.assign rfl) ?_
  refine LW.nil ?_
  refine PQ.seq ?_
  refine CW.seq ?_
  refine CW.seq ?_
  refine CW.region ?_
  refine LW.v rfl rfl (Val.move rfl) ?_
  refine LW.v rfl rfl (Val.eqP false rfl rfl Try.underlying49 (.inr ⟨rfl, rfl⟩)) ?_
  refine LW.nil ?_
  refine PQ.seq ?_
  refine CW.cond_f rfl ?_
  refine CW.skip ?_
  refine PQ.seq ?_
  refine CW.seq ?_
  refine CW.region ?_
  refine LW.v rfl rfl (Val.move rfl) ?_
  refine LW.e rfl rfl (Eff.callV rfl Try.call39 (fun w hw => least_c b a now l w hw.sat hm)) ?_
  intro _ _
  refine LW.v rfl rfl (Val.move rfl) ?_
  refine LW.v rfl rfl (Val.extract rfl rfl) ?_
  refine LW.v rfl rfl (Val.extract rfl rfl) ?_
  refine LW.v rfl rfl (Val.assign rfl) ?_
  refine LW.v rfl rfl (Val.assign rfl) ?_
  refine LW.nil ?_
  refine PQ.seq ?_
  refine CW.seq ?_
  refine CW.region ?_
  refine LW.v rfl rfl (Val.move rfl) ?_
  refine LW.v rfl rfl (Val.not rfl) ?_
  refine LW.v rfl rfl (Val.move rfl) ?_
  refine LW.split (d := 16) rfl (fun h16 => ?_) (fun h16 => ?_)
  · replace h16 := bT h16
    refine LW.p rfl rfl ?_
    refine LW.p rfl rfl ?_
    refine LW.p rfl rfl ?_
    refine LW.v rfl rfl (Val.pick_t rfl rfl) ?_
    refine LW.v rfl rfl (Val.assign rfl) ?_
    refine LW.nil ?_
    refine PQ.seq ?_
    refine CW.ret ?_
    refine PQ.ret1 rfl rfl ?_
    intro w' hw; exact ⟨by first | rfl | (rw [h16]; rfl) | simp [h16], hw.ro (by repeat (first | exact .nil | apply Pick.cons | exact .here | apply Ext.there)) hs⟩
  · replace h16 := bF h16
    refine LW.v rfl rfl (Val.move rfl) ?_
    refine LW.v rfl rfl (Val.move rfl) ?_
    refine LW.v rfl rfl (Val.cmp rfl rfl rfl) ?_
    refine LW.v rfl rfl (Val.pick_f rfl rfl) ?_
    refine LW.v rfl rfl (Val.assign rfl) ?_
    refine LW.nil ?_
    refine PQ.seq ?_
    refine CW.ret ?_
    refine PQ.ret1 rfl rfl ?_
    intro w' hw; exact ⟨by first | rfl | (rw [h16]; rfl) | simp [h16], hw.ro (by repeat (first | exact .nil | apply Pick.cons | exact .here | apply Ext.there)) hs⟩
theorem newBad_c (n : Int) (w : World) (hn : n < 1 ∨ 4 < n) : Calls Try.prog 26 [.int .i64 n].toArray w fun e w' => e = .returned (.tuple #[.pointer none, .int .i64 2]) ∧ Below w.heap.size w w' := by
  refine V.calls [] Try.func26 rfl Try.ntmps26 (Nat.le_of_ble_eq_true rfl) (V.sat_nil _) ?_
  refine CW.seq ?_
  refine CW.region ?_
  refine LW.v rfl rfl (Val.assign rfl) ?_
  refine LW.v rfl rfl (Val.assign rfl) ?_
  refine LW.nil ?_
  refine PQ.seq ?_
  refine CW.seq ?_
  refine CW.seq ?_
  refine CW.region ?_
  refine LW.v rfl rfl (Val.move rfl) ?_
  refine LW.v rfl rfl (Val.cmp rfl rfl rfl) ?_
  refine LW.v rfl rfl (Val.move rfl) ?_
  refine LW.split (d := 7) rfl (fun h7 => ?_) (fun h7 => ?_)
  · replace h7 := bT h7
    refine LW.p rfl rfl ?_
    refine LW.p rfl rfl ?_
    refine LW.v rfl rfl (Val.pick_t rfl rfl) ?_
    refine LW.nil ?_
    refine PQ.seq ?_
    refine CW.cond_t rfl ?_
    refine CW.seq ?_
    refine CW.region ?_
    refine LW.v rfl rfl (Val.assign rfl) ?_
    refine LW.v rfl rfl (Val.assign rfl) ?_
    refine LW.nil ?_
    refine PQ.seq ?_
    refine CW.ret ?_
    refine PQ.then_ret ?_
    refine PQ.ret2 rfl rfl rfl ?_
    intro w' hw; exact ⟨rfl, hw.below⟩
  · replace h7 := bF h7
    refine LW.v rfl rfl (Val.move rfl) ?_
    refine LW.v rfl rfl (Val.cmp rfl rfl rfl) ?_
    refine LW.v rfl rfl (Val.pick_f rfl rfl) ?_
    refine LW.nil ?_
    refine PQ.seq ?_
    refine CW.cond rfl (fun h10 => ?_) (fun h10 => ?_)
    · replace h10 := bT h10
      refine CW.seq ?_
      refine CW.region ?_
      refine LW.v rfl rfl (Val.assign rfl) ?_
      refine LW.v rfl rfl (Val.assign rfl) ?_
      refine LW.nil ?_
      refine PQ.seq ?_
      refine CW.ret ?_
      refine PQ.then_ret ?_
      refine PQ.ret2 rfl rfl rfl ?_
      intro w' hw; exact ⟨rfl, hw.below⟩
    · exact absurd (bF h10) (by omega)
theorem places114 : ∀ w, ((Array.mapM (fun (f : Field) => do pure (f.offset, ← sizeOf f.type)) (Try.prog.fieldsOf 114) : Sem (Array (Nat × Nat)))).run Try.prog w = .ok [(0, 1), (1, 1)].toArray w := by
  intro w; kernel_rfl
theorem new_c (n : Nat) (w : World) (hn : 1 ≤ n ∧ n ≤ 4) : Calls Try.prog 26 [.int .i64 (n : Nat)].toArray w fun e w' => ∃ x : Nat × Nat, True ∧ e = .returned (.tuple #[.pointer (some ⟨x.1, 0, none⟩), .int .i64 0]) ∧ Hp ⟨w, []⟩ (rdG x.1 x.2 1 (List.replicate n 0)) w' := by
  refine V.calls [] Try.func26 rfl Try.ntmps26 (Nat.le_of_ble_eq_true rfl) (V.sat_nil _) ?_
  refine CW.seq ?_
  refine CW.region ?_
  refine LW.v rfl rfl (Val.assign rfl) ?_
  refine LW.v rfl rfl (Val.assign rfl) ?_
  refine LW.nil ?_
  refine PQ.seq ?_
  refine CW.seq ?_
  refine CW.seq ?_
  refine CW.region ?_
  refine LW.v rfl rfl (Val.move rfl) ?_
  refine LW.v rfl rfl (Val.cmp rfl rfl rfl) ?_
  refine LW.v rfl rfl (Val.move rfl) ?_
  refine LW.split (d := 7) rfl (fun h7 => ?_) (fun h7 => ?_)
  · exact absurd (bT h7) (by first | (simp; done) | omega)
  · replace h7 := bF h7
    refine LW.v rfl rfl (Val.move rfl) ?_
    refine LW.v rfl rfl (Val.cmp rfl rfl rfl) ?_
    refine LW.v rfl rfl (Val.pick_f rfl rfl) ?_
    refine LW.nil ?_
    refine PQ.seq ?_
    refine CW.cond rfl (fun h10 => ?_) (fun h10 => ?_)
    · exact absurd (bT h10) (by first | (simp; done) | omega)
    · replace h10 := bF h10
      refine CW.skip ?_
      refine PQ.seq ?_
      refine CW.seq ?_
      refine CW.region ?_
      refine LW.v rfl rfl (Val.move rfl) ?_
      refine LW.e rfl rfl (Eff.makeSlice (by_ := 8) rfl rfl Try.underlying107 (by kernel_rfl) Try.sizeOf112 (by exact Try.zeroValue112) rfl rfl (by omega) (by omega) (by omega)) ?_
      intro b12 _
      refine LW.v rfl rfl (Val.build [_, _] Try.zeroValue114 Try.underlying114 places114 rfl (by rfl)) ?_
      refine LW.e rfl rfl (Eff.boxA rfl) ?_
      intro b14 _
      refine LW.v rfl rfl (Val.assign rfl) ?_
      refine LW.nil ?_
      refine PQ.seq ?_
      refine CW.seq ?_
      refine CW.region ?_
      refine LW.v rfl rfl (Val.move rfl) ?_
      refine LW.v rfl rfl (Val.nilCheck rfl) ?_
      refine LW.v rfl rfl (Val.fieldAddr 0 rfl Try.underlying114 rfl rfl Try.sizeOf112) ?_
      refine LW.e rfl rfl (Eff.callM ([[(b14, .cells [.int .u64 0, .slice (some ⟨b12, 0, none⟩) n n].toArray 114 (0, 0))]]) (by repeat (first | exact .nil | apply Pick.cons | exact .here | apply Ext.there)) rfl Try.call57 (fun w hw hs => aStore_c (o := 0) (x := 0) rfl 1 w hs)) ?_
      intro _ _
      refine LW.nil ?_
      refine PQ.seq ?_
      refine CW.seq ?_
      refine CW.region ?_
      refine LW.v rfl rfl (Val.move rfl) ?_
      refine LW.v rfl rfl (Val.assign rfl) ?_
      refine LW.v rfl rfl (Val.assign rfl) ?_
      refine LW.nil ?_
      refine PQ.seq ?_
      refine CW.ret ?_
      refine PQ.ret2 rfl rfl rfl ?_
      intro w' hw; refine ⟨(b14, b12), trivial, rfl, ?_⟩
      have h2 := hw.pick (ss := [[(b14, rdB 1 b12 n)], [(b12, .cells (V.repL [.int .u64 0] n).toArray 112 (0, 0))]]) (by repeat (first | exact .nil | apply Pick.cons | exact .here | apply Ext.there))
      rw [V.repL_one] at h2
      unfold rdG rdA
      rw [List.map_replicate, List.length_replicate]
      exact h2
end Go.Proofs.Ytgeblajdjdcghaa
