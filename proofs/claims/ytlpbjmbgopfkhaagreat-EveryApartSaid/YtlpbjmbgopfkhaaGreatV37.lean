/- A small calculus of symbolic states, part 37: maps whose keys are structs of two whole numbers: look-ups, new entries. No program in sight. -/
import Derived.Test.YtlpbjmbgopfkhaaGreatV23
import Derived.ChangeKeysEq
import Derived.WideKeyRuns
namespace Go.Proofs.YtlpbjmbgopfkhaaGreat.V
open Go Go.RowKit Go.MapKept
open Go.ChangeMaps (setBlock)
set_option linter.unusedVariables false
abbrev M2 := List (Nat × (Int × Int) × Value)
def kE (k : Int × Int) : Value := .agg #[.int .i64 k.1, .int .u64 k.2]
def wE (e : Nat × (Int × Int) × Value) : MapEntry := ⟨kE e.2.1, e.2.2, e.1⟩
def m2O (E : M2) (c : Nat) : Obj := .map (E.map wE).toArray c
def wfind : M2 → Int × Int → Nat → Option (Nat × Value)
  | [], _, _ => none
  | e :: r, k, i => if k = e.2.1 then some (i, e.2.2) else wfind r k (i + 1)
def wget : M2 → Int × Int → Option Value
  | [], _ => none
  | e :: r, k => if k = e.2.1 then some e.2.2 else wget r k
theorem wfind_get (k : Int × Int) : ∀ (E : M2) (i : Nat), (wfind E k i).map (·.2) = wget E k
  | [], i => rfl
  | e :: r, i => by
    simp only [wfind, wget]
    split
    · rfl
    · exact wfind_get k r (i + 1)
/-- What a type of keys must be. -/
structure K2 (P : Program) (kt : TypeId) : Prop where
  chk : ∀ (w : World) (e : Bool) (k : Int × Int), (Instr.checkKey e 10000 kt (kE k)).run P w = .ok () w
  eq : ∀ (w : World) (k k' : Int × Int), (Op.equal kt (kE k) (kE k')).run P w = .ok (decide (k = k')) w
  wide : (match P.underlying kt with | some (.array _ _) | some (.struct _) => true | _ => false) = true
theorem K2.of {P : Program} {kt : TypeId} {f g : Field} (hu : P.underlying kt = some (.struct #[f, g])) (hf : f.name ≠ "_") (hg : g.name ≠ "_") (h1 : P.underlying f.type = some (.int .i64)) (h2 : P.underlying g.type = some (.int .u64)) (o1 : f.offset = 0) (o2 : g.offset = 1) (hs : P.stoodInHeld kt = false) : K2 P kt := by
  have p1 : ∀ w a b, (part f.type #[.int .i64 a, .int .u64 b] f.offset).run P w = .ok (.int .i64 a) w := fun w a b => by simp [part, isAgg, run_underlying h1, o1]
  have p2 : ∀ w a b, (part g.type #[.int .i64 a, .int .u64 b] g.offset).run P w = .ok (.int .u64 b) w := fun w a b => by simp [part, isAgg, run_underlying h2, o2]
  refine ⟨fun w e k => ?_, fun w k k' => ?_, by rw [hu]⟩
  · have c1 : ∀ n a, (Instr.checkKey e (n + 1) f.type (.int .i64 a)).run P w = .ok () w := fun n a => by simp [Instr.checkKey, run_underlying h1]
    have c2 : ∀ n a, (Instr.checkKey e (n + 1) g.type (.int .u64 a)).run P w = .ok () w := fun n a => by simp [Instr.checkKey, run_underlying h2]
    unfold Instr.checkKey
    simp [kE, run_underlying hu, hf, hg, p1, p2, c1 9998, c2 9998]
  · have c1 : ∀ n a b, (Op.equalIn (n + 1) f.type (.int .i64 a) (.int .i64 b)).run P w = .ok (a == b) w := fun n a b => by simp [Op.equalIn, run_underlying h1]
    have c2 : ∀ n a b, (Op.equalIn (n + 1) g.type (.int .u64 a) (.int .u64 b)).run P w = .ok (a == b) w := fun n a b => by simp [Op.equalIn, run_underlying h2]
    obtain ⟨a, b⟩ := k
    obtain ⟨a', b'⟩ := k'
    have key : ∀ m, (Op.equalIn (m + 2) kt (kE (a, b)) (kE (a', b'))).run P w = .ok (decide ((a, b) = (a', b'))) w := by
      intro m
      have hb : ∀ x y : Int, (x == y) = decide (x = y) := fun x y => rfl
      have d1 := c1 m
      have d2 := c2 m
      simp only [kE]
      rw [Op.equalIn]
      clear c1 c2
      by_cases e1 : a = a' <;> by_cases e2 : b = b' <;> simp [run_underlying hu, hf, hg, p1, p2, d1, d2, hs, e1, e2]
    exact key 9998
section
variable {P : Program} {n : Nat} {B : Base} {ks : Ks} {sg : Sg} {d : Option Tmp} {ty : TypeId} {pos : String} {aft : Array Edge} {g : Option (Nat × Bool)}
theorem run_findAsking_w {w : World} {kt : TypeId} {k : Int × Int} (hk : K2 P kt) : ∀ (E : M2) (i : Nat), (Instr.findAsking kt (kE k) (E.map wE) i).run P w = .ok (wfind E k i) w
  | [], i => rfl
  | e :: r, i => by
    simp only [List.map_cons, Instr.findAsking, Sem.run_bind, wE, hk.eq, Result.andThen_ok, wfind]
    by_cases h : k = e.2.1
    · simp [h]
    · simp only [h, decide_false, Bool.false_eq_true, if_false]
      exact run_findAsking_w hk r (i + 1)
theorem run_findKey_w {w : World} {kt : TypeId} {k : Int × Int} {E : M2} (hk : K2 P kt) : (Instr.findKey kt (kE k) (E.map wE)).run P w = .ok (wfind E k 0) w := (run_findKey_eq w hk.wide _ _).trans (run_findAsking_w hk E 0)
theorem run_wlookup {t kt et : TypeId} {b c : Nat} {E : M2} {k : Int × Int} {z : Value} {w : World} (hu : P.underlying t = some (.map kt et)) (hk : K2 P kt) (hz : ∀ w, (zeroValue et).run P w = .ok z w) (hb0 : w.heap[b]? = some (m2O E c)) :
    (Instr.lookup t (.map (some b)) (kE k) true).run P w = .ok (.tuple [(wget E k).getD z, .bool (wget E k).isSome].toArray) w := by
  have hb : w.heap[b]? = some (.map (E.map wE).toArray c) := hb0
  have hc := fun e => hk.chk w e k
  have hf := run_findKey_w (w := w) (k := k) (E := E) hk
  have hg := wfind_get k E 0
  simp only [Instr.lookup, Sem.run_bind, run_underlying hu, Result.andThen_ok, MapKept.run_getObj_map hb, Sem.run_pure, hc, hf]
  cases hq : wfind E k 0 with
  | none => rw [hq] at hg; simp only [Option.map_none] at hg; simp [← hg, hz]
  | some p => rw [hq] at hg; simp only [Option.map_some] at hg; simp [← hg]
theorem Val.wlookup {t kt et : TypeId} {x y : Operand} {b c : Nat} {E : M2} {k : Int × Int} {z : Value} (hx : ev ks x = some (.map (some b))) (hy : ev ks y = some (kE k)) (hu : P.underlying t = some (.map kt et)) (hk : K2 P kt) (hz : ∀ w, (zeroValue et).run P w = .ok z w) (hm : InS (b, m2O E c) sg) :
    Val P n B ⟨d, .lookup t x y true, ty, pos, aft, g⟩ ks sg (.tuple [(wget E k).getD z, .bool (wget E k).isSome].toArray) := fun a w ha hw => by
  show (do pure (Next.value (← Instr.lookup t (a.eval x) (a.eval y) true)) : Sem Next).run P w = _
  rw [ha.ev hx, ha.ev hy]
  exact run_value (run_wlookup hu hk hz (hw.own _ hm.mem))
theorem Eff.wmakeMap {t : TypeId} : Eff P n B ⟨d, .makeMap t none, ty, pos, aft, g⟩ ks sg (α := Nat) (fun _ => True) (fun b => .map (some b)) (fun b => [(b, m2O [] 0)] :: sg) := Eff.makeMap
/-- A new key. -/
theorem Eff.wnew {t kt et : TypeId} {x y z : Operand} {b c : Nat} {E : M2} {k : Int × Int} {v : Value} {sg' : Sg} (hx : ev ks x = some (.map (some b))) (hy : ev ks y = some (kE k)) (hz : ev ks z = some v) (hu : P.underlying t = some (.map kt et)) (hk : K2 P kt)
    (hU : Upd b (m2O E c) (m2O (E ++ [(c, k, v)]) (c + 1)) sg sg') (hn : wfind E k 0 = none) : Eff P n B ⟨d, .mapUpdate t x y z, ty, pos, aft, g⟩ ks sg (α := Unit) (fun _ => True) (fun _ => undef) (fun _ => sg') := fun a w K Q ha hw hk' => by
  have hb : w.heap[b]? = some (.map (E.map wE).toArray c) := hw.own _ hU.mem
  have hc := fun e => hk.chk w e k
  have hf := run_findKey_w (w := w) (k := k) (E := E) hk
  have hrun : (Instr.mapUpdate t (.map (some b)) (kE k) v).run P w = .ok () { w with heap := w.heap.setIfInBounds b (m2O (E ++ [(c, k, v)]) (c + 1)) } := by
    simp only [Instr.mapUpdate, Sem.run_bind, run_underlying hu, Result.andThen_ok, MapKept.run_getObj_map hb, Sem.run_pure, hc, hf, hn]
    simp only [run_setObj_map _ hb, m2O, List.map_append, List.map_cons, List.map_nil, wE, List.push_toArray]
  unfold Oper.wp
  have : (execOp a.eval ⟨d, .mapUpdate t x y z, ty, pos, aft, g⟩).run P w = .ok .skip { w with heap := w.heap.setIfInBounds b (m2O (E ++ [(c, k, v)]) (c + 1)) } := by
    show (do Instr.mapUpdate t (a.eval x) (a.eval y) (a.eval z); pure .skip : Sem Next).run P w = _
    rw [ha.ev hx, ha.ev hy, ha.ev hz, Sem.run_bind, hrun]; rfl
  rw [this]
  exact hk' () _ trivial (hw.upd hU rfl rfl rfl (by simp) (heap_set hb).1 (fun k hk => (heap_set hb).2 k hk))
theorem wget_append (E : M2) (s : Nat) (k k' : Int × Int) (v : Value) : wget (E ++ [(s, k, v)]) k' = (wget E k').or (if k' = k then some v else none) := by
  induction E with
  | nil => simp [wget]
  | cons e r ih =>
    simp only [List.cons_append, wget]
    split
    · simp
    · exact ih
theorem wfind_none {E : M2} {k : Int × Int} (h : wget E k = none) : wfind E k 0 = none := by
  have := wfind_get k E 0
  rw [h] at this
  simpa using this
end
end Go.Proofs.YtlpbjmbgopfkhaaGreat.V
