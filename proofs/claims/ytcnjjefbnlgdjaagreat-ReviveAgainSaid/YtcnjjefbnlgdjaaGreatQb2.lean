import Derived.Test.YtcnjjefbnlgdjaaGreatQb1
import Derived.Maps.RangeRun
import Derived.WideLaws
import Derived.Laws.Entries
import Derived.Laws.Externs
import Derived.Laws.IdiomCopy
import Derived.WalkKit
import Derived.Sort.Walk0
import Derived.Lib.AppendZerosOnto
import Derived.Stop.BytesEq
import Derived.Shelf.SlSortCmp.WholeK
import Derived.Shelf.SlIter.Sorted
import Derived.Test.YtcnjjefbnlgdjaaGreatRows
import Derived.Lib.Hide
import Derived.LoopN
import Derived.Defers
/- A small calculus of symbolic states, part 23: maps by whole numbers: literals, look-ups, ranges. No program in sight. -/
namespace Go.Proofs.YtcnjjefbnlgdjaaGreat.V
open Go Go.RowKit Go.MapKept
open Go.ChangeMaps (setBlock)
set_option linter.unusedVariables false
abbrev MI := List (Nat × Int × Value)
def iE (e : Nat × Int × Value) : MapEntry := ⟨.int .i64 e.2.1, e.2.2, e.1⟩
def imO (E : MI) (c : Nat) : Obj := .map (E.map iE).toArray c
def ifind : MI → Int → Nat → Option (Nat × Value)
  | [], _, _ => none
  | e :: r, k, i => if e.2.1 = k then some (i, e.2.2) else ifind r k (i + 1)
def iget : MI → Int → Option Value
  | [], _ => none
  | e :: r, k => if e.2.1 = k then some e.2.2 else iget r k
theorem findNow_ifind (k : Int) : ∀ (E : MI) (i : Nat), Instr.findNow (.int .i64) (.int .i64 k) (E.map iE) i = some (ifind E k i)
  | [], i => rfl
  | e :: r, i => by
    simp only [List.map_cons, Instr.findNow, iE, Instr.sameNow, ifind, if_true]
    by_cases h : e.2.1 = k
    · have : (k == e.2.1) = true := by simp [h]
      rw [this, if_pos h]
    · have : (k == e.2.1) = false := by simp; exact fun e1 => h e1.symm
      simp only [this, if_neg h]
      exact findNow_ifind k r (i + 1)
theorem ifind_get (k : Int) : ∀ (E : MI) (i : Nat), (ifind E k i).map (·.2) = iget E k
  | [], i => rfl
  | e :: r, i => by
    simp only [ifind, iget]
    split
    · rfl
    · exact ifind_get k r (i + 1)
section
variable {P : Program} {n : Nat} {B : Base} {ks : Ks} {sg : Sg} {d : Option Tmp} {ty : TypeId} {pos : String} {aft : Array Edge} {g : Option (Nat × Bool)}
theorem run_findKey_i {w : World} {kt : TypeId} {k : Int} {E : MI} (hk : P.underlying kt = some (.int .i64)) : (Instr.findKey kt (.int .i64 k) (E.map iE)).run P w = .ok (ifind E k 0) w := run_findKey hk (findNow_ifind k E 0)
theorem run_ilookup {t kt et : TypeId} {b c : Nat} {E : MI} {k : Int} {z : Value} (ok : Bool) {w : World} (hu : P.underlying t = some (.map kt et)) (hk : P.underlying kt = some (.int .i64)) (hz : ∀ w, (zeroValue et).run P w = .ok z w) (hb0 : w.heap[b]? = some (imO E c)) :
    (Instr.lookup t (.map (some b)) (.int .i64 k) ok).run P w = .ok (if ok then .tuple [(iget E k).getD z, .bool (iget E k).isSome].toArray else (iget E k).getD z) w := by
  have hb : w.heap[b]? = some (.map (E.map iE).toArray c) := hb0
  have hc : ∀ e, (Instr.checkKey e 10000 kt (.int .i64 k)).run P w = .ok () w := fun e => run_checkKey hk (show IsKey (.int .i64) (.int .i64 k) from rfl) e 9999
  have hf := run_findKey_i (P := P) (w := w) (k := k) (E := E) hk
  have hg := ifind_get k E 0
  simp only [Instr.lookup, Sem.run_bind, run_underlying hu, Result.andThen_ok, MapKept.run_getObj_map hb, Sem.run_pure, hc, hf]
  cases ok <;> cases hq : ifind E k 0 with
  | none => rw [hq] at hg; simp only [Option.map_none] at hg; simp [← hg, hz]
  | some p => rw [hq] at hg; simp only [Option.map_some] at hg; simp [← hg]
theorem Val.ilookup {t kt et : TypeId} {x y : Operand} {b c : Nat} {E : MI} {k : Int} {z : Value} (hx : ev ks x = some (.map (some b))) (hy : ev ks y = some (.int .i64 k)) (hu : P.underlying t = some (.map kt et)) (hk : P.underlying kt = some (.int .i64)) (hz : ∀ w, (zeroValue et).run P w = .ok z w) (hm : InS (b, imO E c) sg) :
    Val P n B ⟨d, .lookup t x y true, ty, pos, aft, g⟩ ks sg (.tuple [(iget E k).getD z, .bool (iget E k).isSome].toArray) := fun a w ha hw => by
  show (do pure (Next.value (← Instr.lookup t (a.eval x) (a.eval y) true)) : Sem Next).run P w = _
  rw [ha.ev hx, ha.ev hy]
  exact run_value (run_ilookup true hu hk hz (hw.own _ hm.mem))
theorem Val.ilookup1 {t kt et : TypeId} {x y : Operand} {b c : Nat} {E : MI} {k : Int} {z : Value} (hx : ev ks x = some (.map (some b))) (hy : ev ks y = some (.int .i64 k)) (hu : P.underlying t = some (.map kt et)) (hk : P.underlying kt = some (.int .i64)) (hz : ∀ w, (zeroValue et).run P w = .ok z w) (hm : InS (b, imO E c) sg) :
    Val P n B ⟨d, .lookup t x y false, ty, pos, aft, g⟩ ks sg ((iget E k).getD z) := fun a w ha hw => by
  show (do pure (Next.value (← Instr.lookup t (a.eval x) (a.eval y) false)) : Sem Next).run P w = _
  rw [ha.ev hx, ha.ev hy]
  exact run_value (run_ilookup false hu hk hz (hw.own _ hm.mem))
theorem Eff.imakeMap {t : TypeId} : Eff P n B ⟨d, .makeMap t none, ty, pos, aft, g⟩ ks sg (α := Nat) (fun _ => True) (fun b => .map (some b)) (fun b => [(b, imO [] 0)] :: sg) := Eff.makeMap
/-- An entry of a literal: its key is new. -/
theorem Eff.insert {t kt et : TypeId} {x y z : Operand} {b c : Nat} {E : MI} {k : Int} {v : Value} {sg' : Sg} (hx : ev ks x = some (.map (some b))) (hy : ev ks y = some (.int .i64 k)) (hz : ev ks z = some v) (hu : P.underlying t = some (.map kt et)) (hk : P.underlying kt = some (.int .i64)) 
    (hU : Upd b (imO E c) (imO (E ++ [(c, k, v)]) (c + 1)) sg sg') (hn : ifind E k 0 = none) : Eff P n B ⟨d, .insert t x y z, ty, pos, aft, g⟩ ks sg (α := Unit) (fun _ => True) (fun _ => undef) (fun _ => sg') := fun a w K Q ha hw hk' => by
  have hb : w.heap[b]? = some (.map (E.map iE).toArray c) := hw.own _ hU.mem
  have hc : ∀ e, (Instr.checkKey e 10000 kt (.int .i64 k)).run P w = .ok () w := fun e => run_checkKey hk (show IsKey (.int .i64) (.int .i64 k) from rfl) e 9999
  have hf := run_findKey_i (P := P) (w := w) (k := k) (E := E) hk
  have hrun : (Instr.mapUpdate t (.map (some b)) (.int .i64 k) v).run P w = .ok () { w with heap := w.heap.setIfInBounds b (imO (E ++ [(c, k, v)]) (c + 1)) } := by
    simp only [Instr.mapUpdate, Sem.run_bind, run_underlying hu, Result.andThen_ok, MapKept.run_getObj_map hb, Sem.run_pure, hc, hf, hn]
    simp only [run_setObj_map _ hb, imO, List.map_append, List.map_cons, List.map_nil, iE, List.push_toArray]
  unfold Oper.wp
  have : (execOp a.eval ⟨d, .insert t x y z, ty, pos, aft, g⟩).run P w = .ok .skip { w with heap := w.heap.setIfInBounds b (imO (E ++ [(c, k, v)]) (c + 1)) } := by
    show (do Instr.mapUpdate t (a.eval x) (a.eval y) (a.eval z); pure .skip : Sem Next).run P w = _
    rw [ha.ev hx, ha.ev hy, ha.ev hz, Sem.run_bind, hrun]; rfl
  rw [this]
  exact hk' () _ trivial (hw.upd hU rfl rfl rfl (by simp) (heap_set hb).1 (fun k hk => (heap_set hb).2 k hk))
end
/-- An iterator over the map at b, of clock c, that has handed out D. -/
def iitO (b c : Nat) (D : MI) : Obj := .mapIter (some b) c ((D.map (·.1)).toArray) c
/-- The stamps of a map's entries. -/
structure IStp (E : MI) (c : Nat) : Prop where
  lt : ∀ e ∈ E, e.1 < c
  nd : (E.map (·.1)).Nodup
theorem IStp.nil (c : Nat) : IStp [] c := ⟨by simp, by simp⟩
theorem istamp_inj {E : MI} (h : (E.map (·.1)).Nodup) {x y : Nat × Int × Value} (hx : x ∈ E) (hy : y ∈ E) (e : x.1 = y.1) : x = y := by
  induction E with
  | nil => simp at hx
  | cons a r ih =>
    simp only [List.map_cons, List.nodup_cons] at h
    rcases List.mem_cons.1 hx with hx1 | hx1
    · rcases List.mem_cons.1 hy with hy1 | hy1
      · rw [hx1, hy1]
      · exact absurd (List.mem_map_of_mem (f := (·.1)) hy1) (by rw [← e, hx1]; exact h.1)
    · rcases List.mem_cons.1 hy with hy1 | hy1
      · exact absurd (List.mem_map_of_mem (f := (·.1)) hx1) (by rw [e, hy1]; exact h.1)
      · exact ih h.2 hx1 hy1
theorem inodup_of_stamps {E : MI} (h : (E.map (·.1)).Nodup) : E.Nodup := by
  induction E with
  | nil => simp
  | cons a r ih =>
    simp only [List.map_cons, List.nodup_cons] at h ⊢
    exact ⟨fun ha => h.1 (List.mem_map_of_mem ha), ih h.2⟩
/-- What an iterator has handed out so far: entries of the map, none twice. -/
structure IVis (E D : MI) : Prop where
  sub : ∀ e ∈ D, e ∈ E
  nd : (D.map (·.1)).Nodup
theorem IVis.nil (E : MI) : IVis E [] := ⟨by simp, by simp⟩
theorem IVis.snoc {E D : MI} {e : Nat × Int × Value} (h : IVis E D) (he : e ∈ E) (hn : e.1 ∉ D.map (·.1)) : IVis E (D ++ [e]) := by
  refine ⟨fun x hx => ?_, ?_⟩
  · rcases List.mem_append.1 hx with hx | hx
    · exact h.sub x hx
    · simp at hx; subst hx; exact he
  · rw [List.map_append, List.nodup_append]
    refine ⟨h.nd, by simp, fun a ha b hb => ?_⟩
    simp at hb; subst hb
    intro e1; subst e1; exact hn ha
theorem IVis.le {E D : MI} (h : IVis E D) : D.length ≤ E.length :=
  len_le_of_nodup (inodup_of_stamps h.nd) (fun e he => h.sub e he)
theorem IVis.lt {E D : MI} {e : Nat × Int × Value} (h : IVis E D) (he : e ∈ E) (hn : e.1 ∉ D.map (·.1)) : D.length < E.length := by
  have := (h.snoc he hn).le
  simp at this; omega
theorem IVis.perm {E D : MI} (h : IVis E D) (hE : (E.map (·.1)).Nodup) (ha : ∀ e ∈ E, e.1 ∈ D.map (·.1)) : D.Perm E := by
  refine (List.perm_ext_iff_of_nodup (inodup_of_stamps h.nd) (inodup_of_stamps hE)).2 fun e => ⟨h.sub e, fun he => ?_⟩
  obtain ⟨x, hx, hx1⟩ := List.mem_map.1 (ha e he)
  rwa [← istamp_inj hE (h.sub x hx) he hx1]
section
variable {P : Program} {n : Nat} {B : Base} {ks : Ks} {sg : Sg} {d : Option Tmp} {ty : TypeId} {pos : String} {aft : Array Edge} {g : Option (Nat × Bool)}
theorem Eff.irange {t kt et : TypeId} {x : Operand} {b c : Nat} {E : MI} (hx : ev ks x = some (.map (some b))) (hu : P.underlying t = some (.map kt et)) (hm : InS (b, imO E c) sg) :
    Eff P n B ⟨d, .range t x, ty, pos, aft, g⟩ ks sg (α := Nat) (fun _ => True) (fun r => .pointer (some ⟨r, 0, none⟩)) (fun r => [(r, iitO b c [])] :: sg) :=
  Eff.new (f := fun r => .pointer (some ⟨r, 0, none⟩)) fun a w ha hw => by
    have hb : w.heap[b]? = some (.map (E.map iE).toArray c) := hw.own _ hm.mem
    have e := ha.ev hx
    have h1 := run_range_map w t kt et b (E.map iE).toArray c hu hb
    show (do pure (Next.value (← Instr.range t (a.eval x))) : Sem Next).run P w = _
    rw [e]
    exact run_value h1
/-- A step: an entry that was not handed out, or the end behind all of them. -/
theorem Eff.inext {x : Operand} {r b c : Nat} {E D : MI} {sg' : Nat × Int × Value → Sg} (hx : ev ks x = some (.pointer (some ⟨r, 0, none⟩))) (hm : InS (b, imO E c) sg) (hs : IStp E c) (hU : ∀ e, Upd r (iitO b c D) (iitO b c (D ++ [e])) sg (sg' e)) :
    Eff P n B ⟨d, .next x false, ty, pos, aft, g⟩ ks sg (α := Option (Nat × Int × Value)) (fun o => match o with | none => ∀ e ∈ E, e.1 ∈ D.map (·.1) | some e => e ∈ E ∧ e.1 ∉ D.map (·.1))
      (fun o => match o with | none => .tuple #[.bool false] | some e => .tuple #[.bool true, .int .i64 e.2.1, e.2.2]) (fun o => match o with | none => sg | some e => sg' e) := fun a w K Q ha hw hk => by
  have hb : w.heap[b]? = some (.map (E.map iE).toArray c) := hw.own _ hm.mem
  have hr := hw.own _ (hU (0, 0, undef)).mem
  simp only [iitO] at hr
  have e := ha.ev hx
  have hold : ∀ y ∈ (E.map iE).toArray.toList, y.born < c := fun y hy => by
    simp only [List.toList_toArray, List.mem_map] at hy
    obtain ⟨z, hz, rfl⟩ := hy
    exact hs.lt z hz
  unfold Oper.wp
  rcases run_next_at (P := P) w ty r b c c _ _ c hr hb hold (Nat.le_refl _) with ⟨h0, hrun⟩ | ⟨y, hy, w1, hal, hrun⟩
  · have : (execOp a.eval ⟨d, .next x false, ty, pos, aft, g⟩).run P w = .ok (.value (.tuple #[.bool false])) w := by
      show (do pure (Next.value (← Instr.next (a.eval x) false ty)) : Sem Next).run P w = _
      rw [e]; exact run_value hrun
    rw [this]
    refine hk none w (fun y hy => ?_) hw
    by_cases hin : y.1 ∈ D.map (·.1)
    · exact hin
    · exfalso
      have hmem : iE y ∈ (leftOf (E.map iE).toArray ((D.map (·.1)).toArray)).toList := by
        unfold leftOf
        simp only [List.filter_toArray, List.toList_toArray, List.mem_filter]
        refine ⟨List.mem_map_of_mem hy, ?_⟩
        simp only [List.contains_toArray, Bool.not_eq_true', iE]
        simpa using hin
      have := List.length_pos_of_mem hmem
      simp only [Array.length_toList] at this
      omega
  · unfold leftOf at hy
    simp only [List.filter_toArray, List.toList_toArray, List.mem_filter] at hy
    obtain ⟨hy1, hy2⟩ := hy
    obtain ⟨z, hz, rfl⟩ := List.mem_map.1 hy1
    have hz2 : z.1 ∉ D.map (·.1) := by
      simp only [List.contains_toArray, Bool.not_eq_true', iE] at hy2
      simpa using hy2
    have : (execOp a.eval ⟨d, .next x false, ty, pos, aft, g⟩).run P w = .ok (.value (.tuple #[.bool true, .int .i64 z.2.1, z.2.2])) (setBlock w1 r (.mapIter (some b) c (((D.map (·.1)).toArray).push z.1) c)) := by
      show (do pure (Next.value (← Instr.next (a.eval x) false ty)) : Sem Next).run P w = _
      rw [e]; exact run_value hrun
    rw [this]
    have hw1 : Hp B sg w1 := by
      rcases hal with rfl | rfl
      · exact hw
      · exact ⟨hw.os, hw.tape, hw.output, hw.size, hw.old, hw.own, hw.lo, hw.nd⟩
    have hr1 := hw1.own _ (hU z).mem
    have hset := heap_set (o' := .mapIter (some b) c (((D.map (·.1)).toArray).push z.1) c) hr1
    refine hk (some z) _ ⟨hz, hz2⟩ (hw1.upd (hU z) rfl rfl rfl (by simp [setBlock]) ?_ (fun k hk => hset.2 k hk))
    refine Eq.trans hset.1 ?_
    simp [iitO]
theorem Val.ientry {x : Operand} {r b c : Nat} {E D : MI} {e : Nat × Int × Value} (hx : ev ks x = some (.pointer (some ⟨r, 0, none⟩))) (hr : InS (r, iitO b c (D ++ [e])) sg) (hm : InS (b, imO E c) sg) (he : e ∈ E) (hn : (E.map (·.1)).Nodup) :
    Val P n B ⟨d, .entry x, ty, pos, aft, g⟩ ks sg (.tuple [.int .i64 e.2.1, e.2.2].toArray) := fun a w ha hw => by
  have hb : w.heap[b]? = some (.map (E.map iE).toArray c) := hw.own _ hm.mem
  have h1 := hw.own _ hr.mem
  simp only [iitO, List.map_append, List.map_cons, List.map_nil] at h1
  have ee := ha.ev hx
  show (do pure (Next.value (← Instr.entry (a.eval x))) : Sem Next).run P w = _
  rw [ee]
  refine run_value (run_entry_at (P := P) w r b c ((D.map (·.1)).toArray) (E.map iE).toArray c (iE e) ?_ hb (by simp; exact ⟨_, _, _, he, rfl⟩) ?_)
  · rw [h1]; simp [iE]
  · simp only [List.toList_toArray, List.map_map]
    exact hn
end
end Go.Proofs.YtcnjjefbnlgdjaaGreat.V

/- A small calculus of symbolic states, part 24: an interface's value against nil. No program in sight. -/
namespace Go.Proofs.YtcnjjefbnlgdjaaGreat.V
open Go Go.RowKit
set_option linter.unusedVariables false
section
variable {P : Program} {n : Nat} {B : Base} {ks : Ks} {sg : Sg} {d : Option Tmp} {ty : TypeId} {pos : String} {aft : Array Edge} {g : Option (Nat × Bool)}
theorem Val.neIface {t t' : TypeId} {x : Operand} {v : Value} (r : Bool) (hx : ev ks x = some v) (hu : P.underlying t = some (.interface (P.methodsAt t))) (h : (v = .nilIface ∧ r = false) ∨ ((∃ u p, v = .iface u p) ∧ r = true)) :
    Val P n B ⟨d, .binOp .neq t x (.const .nilIface) t', ty, pos, aft, g⟩ ks sg (.bool r) := Val.bin hx rfl fun w => by
  rcases h with ⟨rfl, rfl⟩ | ⟨⟨u, p, rfl⟩, rfl⟩
  · have h1 : (eqGuard .neq t x (.const .nilIface) .nilIface .nilIface).run P w = .ok () w := by cases x <;> rfl
    simp only [Sem.run_bind, h1, Result.andThen_ok]
    exact run_neq_nil_nil w t hu
  · have h1 : (eqGuard .neq t x (.const .nilIface) (.iface u p) .nilIface).run P w = .ok () w := by cases x <;> rfl
    simp only [Sem.run_bind, h1, Result.andThen_ok]
    exact run_neq_held_nil w t u p hu
end
end Go.Proofs.YtcnjjefbnlgdjaaGreat.V

/- A small calculus of symbolic states, part 25: what holds in every memory of the state holds. No program in sight. -/
namespace Go.Proofs.YtcnjjefbnlgdjaaGreat.V
open Go Go.RowKit
theorem LW.know {P : Program} {n : Nat} {B : Base} {ops : Array Oper} {Q : Exit → Act → World → Prop} {l : List Oper} {ks : Ks} {sg : Sg} (φ : Prop) (h : ∀ w, Hp B sg w → φ) (k : φ → LW P n B ops Q l ks sg) : LW P n B ops Q l ks sg := fun a w ha hw => k (h w hw) a w ha hw
theorem CW.know {P : Program} {n : Nat} {B : Base} {Q : Exit → Act → World → Prop} {c : Code} {ks : Ks} {sg : Sg} (φ : Prop) (h : ∀ w, Hp B sg w → φ) (k : φ → CW P n B Q c ks sg) : CW P n B Q c ks sg := fun a w ha hw => k (h w hw) a w ha hw
theorem PQ.know {n : Nat} {B : Base} {Q : Exit → Act → World → Prop} {x : Exit} {ks : Ks} {sg : Sg} (φ : Prop) (h : ∀ w, Hp B sg w → φ) (k : φ → PQ n B Q x ks sg) : PQ n B Q x ks sg := fun a w ha hw => k (h w hw) a w ha hw
end Go.Proofs.YtcnjjefbnlgdjaaGreat.V

/- A small calculus of symbolic states, part 26: texts' order, calls of functions without a body, copies. No program in sight. -/
namespace Go.Proofs.YtcnjjefbnlgdjaaGreat.V
open Go Go.RowKit
set_option linter.unusedVariables false
section
variable {P : Program} {n : Nat} {B : Base} {ks : Ks} {sg : Sg} {d : Option Tmp} {ty : TypeId} {pos : String} {aft : Array Edge} {g : Option (Nat × Bool)}
theorem str_less (i j : List UInt8) : Op.bytesLess (⟨i.toArray⟩ : ByteArray).toList (⟨j.toArray⟩ : ByteArray).toList = decide (i < j) := by
  rw [ByteArray.toList_eq, ByteArray.toList_eq, Go.Proofs.bytesLess_eq]
theorem str_dec (i j : List UInt8) : decide ((⟨i.toArray⟩ : ByteArray) = ⟨j.toArray⟩) = decide (i = j) := by simp
theorem Val.ltStr {t t' : TypeId} {x y : Operand} {i j : List UInt8} (hx : ev ks x = some (str i)) (hy : ev ks y = some (str j)) : Val P n B ⟨d, .binOp .lss t x y t', ty, pos, aft, g⟩ ks sg (.bool (decide (i < j))) := by
  have h := Val.cmpS (P := P) (n := n) (B := B) (sg := sg) (d := d) (ty := ty) (pos := pos) (aft := aft) (g := g) (op := .lss) (t := t) (t' := t') hx hy rfl
  rw [str_less] at h
  exact h
theorem Val.geStr {t t' : TypeId} {x y : Operand} {i j : List UInt8} (hx : ev ks x = some (str i)) (hy : ev ks y = some (str j)) : Val P n B ⟨d, .binOp .geq t x y t', ty, pos, aft, g⟩ ks sg (.bool (!decide (i < j))) := by
  have h := Val.cmpS (P := P) (n := n) (B := B) (sg := sg) (d := d) (ty := ty) (pos := pos) (aft := aft) (g := g) (op := .geq) (t := t) (t' := t') hx hy rfl
  rw [str_less] at h
  exact h
theorem gt_dec (i j : List UInt8) : (!(decide (i < j) || decide (i = j))) = decide (j < i) := by
  rw [Bool.eq_iff_iff]
  simp only [Bool.not_eq_true', Bool.or_eq_false_iff, decide_eq_false_iff_not, decide_eq_true_eq, List.not_lt]
  constructor
  · rintro ⟨h1, h2⟩
    rcases List.le_iff_lt_or_eq.1 h1 with h | h
    · exact h
    · exact absurd h.symm h2
  · intro h
    exact ⟨List.le_of_lt h, fun e => by subst e; exact List.lt_irrefl _ h⟩
theorem Val.gtStr {t t' : TypeId} {x y : Operand} {i j : List UInt8} (hx : ev ks x = some (str i)) (hy : ev ks y = some (str j)) : Val P n B ⟨d, .binOp .gtr t x y t', ty, pos, aft, g⟩ ks sg (.bool (decide (j < i))) := by
  have h := Val.cmpS (P := P) (n := n) (B := B) (sg := sg) (d := d) (ty := ty) (pos := pos) (aft := aft) (g := g) (op := .gtr) (t := t) (t' := t') hx hy rfl
  rw [str_less, str_dec, gt_dec] at h
  exact h
/-- The call of a function without a body. -/
theorem Val.callX {v : Value} {f : FuncId} {xs : List Operand} {vs : List Value} {ats : Array TypeId} (hxs : evs ks xs = some vs) (h : ∀ w, Hp B sg w → (callFunc f vs.toArray).run P w = .ok (.value v) w) :
    Val P n B ⟨d, .call { callee := .value (.func f), args := xs.toArray, argTypes := ats }, ty, pos, aft, g⟩ ks sg v := fun a w ha hw => by
  have hm := ha.evs hxs
  simp only [execOp, resolve, Act.eval, Deferred.ofValue, Sem.run_bind, Sem.run_pure, Result.andThen_ok, invoke, List.map_toArray, hm]
  simp [h w hw]
theorem run_copyN (w : World) (dT sT ty elem : TypeId) (g o dLen dCap : Nat) (a : Addr) (sLen sCap m sz : Nat) (cur : Array Value) (t : TypeId) (cs : List Value)
    (hu : P.underlying dT = some (.slice elem)) (hs : (P.info? elem).map (·.size) = some sz)
    (hg : w.heap[g]? = some (.cells cur t (0, 0))) (hm : Nat.min sLen dLen = m) (hn : cs.length = m * sz)
    (hsrc : ∀ j v, cs[j]? = some v → w.cell? (a.add j) = some v) (hfit : o + cs.length ≤ cur.size) (h1 : ∀ v ∈ cs, v.oneCell' = true) :
    (Builtin.copy_ #[dT, sT] ty #[.slice (some ⟨g, o, none⟩) dLen dCap, .slice (some a) sLen sCap]).run P w =
      .ok (goInt m) (w.setRow g (cur.toList.take o ++ cs ++ cur.toList.drop (o + cs.length)).toArray) := by
  have hl := run_loadCells_list (P := P) w a cs hsrc
  have hst := run_storeCells_at P g o t cs 0 cur w hg (by simpa using hfit) h1
  cases hq : P.info? elem with
  | none => simp [hq] at hs
  | some i =>
    have hi : i.size = sz := by simpa [hq] using hs
    simp [Builtin.copy_, run_underlying hu, Builtin.lenOf, Builtin.firstCells, sizeOf, typeInfo, hq, hi, hm, ← hn, hl, hst]
/-- Elements are copied into a block of the state. -/
theorem Eff.copy {t t2 e sz gb o dl dc sl sc m : Nat} {a : Addr} {x y : Operand} {cur cs cells' : List Value} {sg' : Sg} (hx : ev ks x = some (.slice (some ⟨gb, o, none⟩) dl dc)) (hy : ev ks y = some (.slice (some a) sl sc)) (hu : P.underlying t = some (.slice e)) (hs : (P.info? e).map (·.size) = some sz)
    (hU : Upd gb (.cells cur.toArray e (0, 0)) (.cells cells'.toArray e (0, 0)) sg sg') (hc : cur.take o ++ cs ++ cur.drop (o + cs.length) = cells') (hm : Nat.min sl dl = m) (hn : cs.length = m * sz) (hsrc : ∀ w, Hp B sg w → ∀ j v, cs[j]? = some v → w.cell? (a.add j) = some v) (hfit : o + cs.length ≤ cur.length) (h1 : cs.all (·.oneCell') = true) :
    Eff P n B ⟨d, .call { callee := .builtin .copy, args := #[x, y], argTypes := #[t, t2] }, ty, pos, aft, g⟩ ks sg (α := Unit) (fun _ => True) (fun _ => .int .i64 (m : Nat)) (fun _ => sg') := fun ac w K Q ha hw hk => by
  have e1 := ha.ev hx
  have e2 := ha.ev hy
  have hb := hw.own _ hU.mem
  simp only at hb
  have hrun := run_copyN (P := P) w t t2 ty e gb o dl dc a sl sc m sz cur.toArray e cs hu hs hb hm hn (hsrc w hw) (by simpa using hfit) (fun v hv => List.all_eq_true.1 h1 v hv)
  simp only [hc] at hrun
  unfold Oper.wp
  have hex : (execOp ac.eval ⟨d, .call { callee := .builtin .copy, args := #[x, y], argTypes := #[t, t2] }, ty, pos, aft, g⟩).run P w = .ok (.value (.int .i64 (m : Nat))) (w.setRow gb cells'.toArray) := by
    simp only [execOp, resolve, invoke, Go.builtin, Sem.run_bind, Sem.run_pure, Result.andThen_ok, List.map_toArray, List.map_cons, List.map_nil, e1, e2, hrun]
    rfl
  rw [hex]
  refine hk () _ trivial (hw.upd hU rfl rfl rfl (by simp [World.setRow]) ?_ (fun k hk => ?_))
  · simp [World.setRow, Array.getElem?_modify, hb]
  · simp [World.setRow, Array.getElem?_modify, Ne.symm hk]
/-- A slice made of no elements: not nil. -/
theorem Eff.makeSlice0 {t e : TypeId} {x y : Operand} {by_ sz : Nat} (hx : ev ks x = some (.int .i64 0)) (hy : ev ks y = some (.int .i64 0)) (hu : P.underlying t = some (.slice e)) (hi : (P.info? e).map (·.bytes) = some by_) (hs : ∀ w, (sizeOf e).run P w = .ok sz w) :
    Eff P n B ⟨d, .makeSlice t x y, ty, pos, aft, g⟩ ks sg (α := Nat) (fun _ => True) (fun b => .slice (some ⟨b, 0, none⟩) 0 0) (fun b => [(b, .cells ([] ++ []).toArray e (0, 0))] :: sg) :=
  Eff.new fun a w ha hw => by
    show (do pure (Next.value (← Instr.makeSlice t (a.eval x) (a.eval y))) : Sem Next).run P w = _
    rw [ha.ev hx, ha.ev hy]
    refine run_value ?_
    have hw1 : IntKind.i64.wrap 0 = 0 := by decide
    cases hq : P.info? e with
    | none => simp [hq] at hi
    | some i =>
      have hti : (typeInfo e).run P w = .ok i w := by simp [typeInfo, hq]
      have hb : i.bytes = by_ := by simpa [hq] using hi
      have h1 : ¬ (0 : Int) < 0 := by decide
      have h2 : ¬ ((by_ : Nat) : Int) * 0 > 2 ^ 48 := by rw [Int.mul_zero]; decide
      have h3 : ¬ 0 * by_ > roomBytes := by rw [Nat.zero_mul]; unfold roomBytes; omega
      have h6 : (Int.toNat 0) = 0 := rfl
      simp only [Instr.makeSlice, Sem.run_bind, run_underlying hu, Result.andThen_ok, asInt, asIntOf, Sem.run_pure, hti, hw1, hb, h1, h2, decide_false, Bool.or_false, Bool.false_eq_true, if_false, Int.lt_irrefl, gt_iff_lt, h6, askRoom, h3, hs, Nat.zero_mul, if_true, newRow, newObj, Sem.run]
      rw [show ∀ f : Nat → Value, (Array.range 0).map f = #[] from fun f => Array.eq_empty_of_size_eq_zero (by simp)]
      rfl
/-- A slice of a slice, wherever it lies. -/
theorem Val.sliceG {t e sz m c : Nat} {q : Option Addr} {x : Operand} {lo hi mx : Option Operand} (L Hh M : Nat) (hx : ev ks x = some (.slice q m c)) (hu : P.underlying t = some (.slice e)) (hs : ∀ w, (sizeOf e).run P w = .ok sz w)
    (hlo : optI ks lo L 0) (hhi : optI ks hi Hh m) (hmx : optI ks mx M c) (hno : hi = none → mx = none) (h1 : L ≤ Hh) (h2 : Hh ≤ M) (h3 : M ≤ c) :
    Val P n B ⟨d, .slice t x lo hi mx, ty, pos, aft, g⟩ ks sg (.slice (if M = L then q else q.map (·.add (L * sz))) (Hh - L) (M - L)) := fun a w ha hw => by
  have conv : ∀ {o : Option Operand} {v dflt : Nat}, optI ks o v dflt → (o.map a.eval = none ∧ v = dflt ∧ o = none) ∨ ∃ k, o.map a.eval = some (.int k (v : Nat)) := fun {o v dflt} h => by
    cases o with
    | none => exact .inl ⟨rfl, h, rfl⟩
    | some y => obtain ⟨k, hk⟩ := h; exact .inr ⟨k, by simp [ha.ev hk]⟩
  have key : ∀ {lo hi mx : Option Value}, (lo = none ∧ L = 0 ∨ ∃ k, lo = some (.int k (L : Nat))) → (hi = none ∧ Hh = m ∧ mx = none ∨ ∃ k, hi = some (.int k (Hh : Nat))) → (mx = none ∧ M = c ∨ ∃ k, mx = some (.int k (M : Nat))) → (Instr.sliceBounds true m c lo hi mx).run P w = .ok (L, Hh, M) w := by
    intro lo hi mx hlo hhi hmx
    rcases hmx with ⟨rfl, rfl⟩ | ⟨k3, rfl⟩
    · rcases hhi with ⟨rfl, rfl, _⟩ | ⟨k2, rfl⟩
      · rcases hlo with ⟨rfl, rfl⟩ | ⟨k1, rfl⟩
        · simp [Instr.sliceBounds]
        · simp [Instr.sliceBounds, Sem.run_bind, run_sliceBound h1]
      · rcases hlo with ⟨rfl, rfl⟩ | ⟨k1, rfl⟩
        · simp [Instr.sliceBounds, Sem.run_bind, run_sliceBound h2]
        · simp [Instr.sliceBounds, Sem.run_bind, run_sliceBound h2, run_sliceBound h1]
    · rcases hhi with ⟨_, _, h⟩ | ⟨k2, rfl⟩
      · cases h
      · rcases hlo with ⟨rfl, rfl⟩ | ⟨k1, rfl⟩
        · simp [Instr.sliceBounds, Sem.run_bind, run_sliceBound h2, run_sliceBound h3]
        · simp [Instr.sliceBounds, Sem.run_bind, run_sliceBound h2, run_sliceBound h1, run_sliceBound h3]
  have hrun : (Instr.slice t (.slice q m c) (lo.map a.eval) (hi.map a.eval) (mx.map a.eval)).run P w = .ok (.slice (if M = L then q else q.map (·.add (L * sz))) (Hh - L) (M - L)) w := by
    have hk := key (lo := lo.map a.eval) (hi := hi.map a.eval) (mx := mx.map a.eval) (by
      rcases conv hlo with ⟨p, q, _⟩ | ⟨k, p⟩
      · exact .inl ⟨p, q⟩
      · exact .inr ⟨k, p⟩) (by
      rcases conv hhi with ⟨p, q, r⟩ | ⟨k, p⟩
      · exact .inl ⟨p, q, by rw [hno r]; rfl⟩
      · exact .inr ⟨k, p⟩) (by
      rcases conv hmx with ⟨p, q, _⟩ | ⟨k, p⟩
      · exact .inl ⟨p, q⟩
      · exact .inr ⟨k, p⟩)
    simp only [Instr.slice, Sem.run_bind, run_underlying hu, Result.andThen_ok, hk, hs, Sem.run_pure]
  show (do pure (Next.value (← Instr.sliceAt t (a.eval x) (lo.map a.eval) (hi.map a.eval) (mx.map a.eval))) : Sem Next).run P w = _
  rw [ha.ev hx]
  refine run_value ?_
  simp only [Instr.sliceAt, Sem.run_bind, run_underlying hu, Result.andThen_ok]
  exact hrun
/-- A part of a slice's elements. -/
theorem slAt_part {α : Type} {w : World} {p : Option Addr} {c k sz : Nat} {enc : α → List Value} {L : List α} (h : slAt w p sz enc L) (hk : k ≤ L.length) (hc : L.length ≤ c) (m : Nat) : slAt w (if c = k then p else p.map (·.add (k * sz))) sz enc ((L.drop k).take m) := by
  rcases h with h | ⟨b, o, rfl, hb, hr⟩
  · left; rw [h]; simp
  · by_cases e : c = k
    · left; rw [show L.drop k = [] from List.drop_eq_nil_iff.2 (by omega)]; simp
    · rw [if_neg e]
      refine .inr ⟨b, o + k * sz, by simp [Addr.add_mid], hb, fun i x hx => ?_⟩
      have hi : i < m := by have := (List.getElem?_eq_some_iff.1 hx).1; rw [List.length_take] at this; omega
      rw [List.getElem?_take_of_lt hi, List.getElem?_drop] at hx
      have := hr (k + i) x hx
      rw [show o + k * sz + i * sz = o + (k + i) * sz by rw [Nat.add_mul]; omega]
      exact this
theorem slAt_drop {α : Type} {w : World} {p : Option Addr} {c k sz : Nat} {enc : α → List Value} {L : List α} (h : slAt w p sz enc L) (hk : k ≤ L.length) (hc : L.length ≤ c) : slAt w (if c = k then p else p.map (·.add (k * sz))) sz enc (L.drop k) := by
  have := slAt_part h hk hc L.length
  rwa [List.take_of_length_le (by rw [List.length_drop]; omega)] at this
end
end Go.Proofs.YtcnjjefbnlgdjaaGreat.V

/- A small calculus of symbolic states, part 27: an append of a make; capacities. No program in sight. -/
namespace Go.Proofs.YtcnjjefbnlgdjaaGreat.V
open Go Go.RowKit
set_option linter.unusedVariables false
section
variable {P : Program} {n : Nat} {B : Base} {ks : Ks} {sg : Sg} {d : Option Tmp} {ty : TypeId} {pos : String} {aft : Array Edge} {g : Option (Nat × Bool)}
theorem Val.capSl {x : Operand} {t : TypeId} {e : TypeId} {p : Option Addr} {m c : Nat} (hx : ev ks x = some (.slice p m c)) (hu : P.underlying t = some (.slice e)) : Val P n B ⟨d, .call { callee := .builtin .cap, args := #[x], argTypes := #[t] }, ty, pos, aft, g⟩ ks sg (.int .i64 (c : Nat)) := fun a w ha hw => by
  have e := ha.ev hx
  simp [execOp, resolve, invoke, Go.builtin, Builtin.cap_, e, goInt, run_underlying hu]
/-- A slice that has no room for so many zero elements more: a new one. -/
theorem Eff.appendMake {t tn e sz bytes : Nat} {kn : IntKind} {z : Value} {zl : List Value} {x y : Operand} {b i cap k : Nat} {olds : List Value} (hx : ev ks x = some (.slice (some ⟨b, 0, none⟩) i cap)) (hy : ev ks y = some (.int .i64 (k : Nat))) (hu : P.underlying t = some (.slice e)) (hun : P.underlying tn = some (.int kn))
    (hi : (P.info? e).map (fun i => (i.zero, i.size, i.bytes)) = some (some z, sz, bytes)) (hzl : z.cells = zl.toArray) (hzs : zl.length = sz) (hsz : 0 < sz) (hol : olds.length = i * sz) (hold : ∀ w, Hp B sg w → w.rangeAt b 0 olds) (hk : 0 < k) (hg : cap < i + k) (hmax : (i + k) * bytes ≤ 140737488355328) (hmax2 : i + k ≤ 9223372036854775807) :
    Eff P n B ⟨d, .call { callee := .builtin .append, args := #[x, y], argTypes := #[t, tn] }, ty, pos, aft, g⟩ ks sg (α := OwnO) (fun o' => ownOk sz (i + k) (olds ++ repL zl k) o' ∧ o'.isSome = true) (fun o' => ownV (i + k) o') (fun o' => ownG e (olds ++ repL zl k) o' :: sg) := fun a w K Q ha hw hK => by
  have e1 := ha.ev hx
  have e2 := ha.ev hy
  cases hq : P.info? e with
  | none => simp [hq] at hi
  | some inf =>
    simp only [hq, Option.map_some, Option.some.injEq, Prod.mk.injEq] at hi
    obtain ⟨hz, hs, hb⟩ := hi
    have hrng := hold w hw
    have hdrew : ∀ j v, olds[j]? = some v → w.drew.cell? ((⟨b, 0, none⟩ : Addr).add j) = some v := fun j v h => by rw [Addr.add_mid]; exact hrng j v h
    have hfc := run_firstCells_some (P := P) (w := w.drew) inf.size i ⟨b, 0, none⟩ i cap olds (by rw [hs]; exact hol) hdrew
    have hkb : k * inf.bytes ≤ 281474976710656 := by
      have : k * bytes ≤ (i + k) * bytes := Nat.mul_le_mul_right _ (by omega)
      rw [hb]; omega
    have hrun := Go.Lib.run_append_grow_zeros (P := P) w t tn ty e inf z .i64 kn hu hun hq hz (some ⟨b, 0, none⟩) i cap olds hfc k hk (by rw [hs]; exact hsz) hg (by omega) hkb (growslice_fits hg (by rw [hb]; exact hmax))
    have hge := grownCap_ge w (i + k) cap e
    have hzc : ∀ m, Builtin.zeroCells z.cells m = (repL zl m).toArray := fun m => by
      unfold Builtin.zeroCells
      rw [hzl]
      exact range_rep zl m
    rw [hzc, hzc] at hrun
    have hcells : (olds.toArray ++ (repL zl k).toArray ++ (repL zl (grownCap w (i + k) cap e - (i + k))).toArray) = ((olds ++ repL zl k) ++ repL zl (grownCap w (i + k) cap e - (i + k))).toArray := by simp
    rw [hcells] at hrun
    unfold Oper.wp
    have : (execOp a.eval ⟨d, .call { callee := .builtin .append, args := #[x, y], argTypes := #[t, tn] }, ty, pos, aft, g⟩).run P w = .ok (.value (.slice (some ⟨w.heap.size, 0, none⟩) (i + k) (grownCap w (i + k) cap e))) (w.drew.alloc (.cells ((olds ++ repL zl k) ++ repL zl (grownCap w (i + k) cap e - (i + k))).toArray e (0, 0))) := by
      simp only [execOp, resolve, invoke, Go.builtin, Sem.run_bind, Sem.run_pure, Result.andThen_ok, List.map_toArray, List.map_cons, List.map_nil, e1, e2, hrun]
    rw [this]
    refine hK (some (w.heap.size, repL zl (grownCap w (i + k) cap e - (i + k)), grownCap w (i + k) cap e)) _ ⟨⟨by rw [List.length_append, hol, repL_length, hzs, Nat.add_mul], ?_⟩, rfl⟩ ?_
    · simp only [List.length_append, repL_length, hol, hzs]
      rw [← Nat.add_mul, ← Nat.add_mul]
      congr 1
      omega
    · exact hw.drew.alloc _
/-- Structs in two results' cells. -/
theorem PQ.retCC {fn : Func} {R : Ending → World → Prop} {p u : Nat} {t T t2 T2 : TypeId} {b b2 : Nat} {fr fr2 : Nat × Nat} {l l2 : List Value} (hr : fn.results = #[.cell p t, .cell u t2]) (hp : look ks p = some (.pointer (some ⟨b, 0, none⟩))) (hu : look ks u = some (.pointer (some ⟨b2, 0, none⟩)))
    (hm : InS (b, .cells l.toArray T fr) sg) (hg : ∀ w, (isAgg t).run P w = .ok true w) (hs : ∀ w, (sizeOf t).run P w = .ok l.length w) (hm2 : InS (b2, .cells l2.toArray T2 fr2) sg) (hg2 : ∀ w, (isAgg t2).run P w = .ok true w) (hs2 : ∀ w, (sizeOf t2).run P w = .ok l2.length w)
    (h : ∀ w, Hp B sg w → R (.returned (.tuple #[.agg l.toArray, .agg l2.toArray])) w) : PQ n B (bodyPost P fn R) .ret ks sg :=
  PQ.ret_of (fun a w ha hw => by
    have h1 : (loadVar t ⟨b, 0, none⟩).run P w = .ok (.agg l.toArray) w := run_loadVar_many (P := P) (t := t) (range_of_block (o := 0) (r := []) (hw.own _ hm.mem) (by simp : l.drop 0 = l ++ [])) hg hs
    have h2 : (loadVar t2 ⟨b2, 0, none⟩).run P w = .ok (.agg l2.toArray) w := run_loadVar_many (P := P) (t := t2) (range_of_block (o := 0) (r := []) (hw.own _ hm2.mem) (by simp : l2.drop 0 = l2 ++ [])) hg2 hs2
    have h3 : a.tmps[p]?.getD undef = .pointer (some ⟨b, 0, none⟩) := by rw [ha.at_ _ _ hp]; rfl
    have h4 : a.tmps[u]?.getD undef = .pointer (some ⟨b2, 0, none⟩) := by rw [ha.at_ _ _ hu]; rfl
    simp only [results, hr]
    simp [Sem.run_bind, Result.andThen, asAddr, h3, h4, h1, h2]) h
end
end Go.Proofs.YtcnjjefbnlgdjaaGreat.V

/- A small calculus of symbolic states, part 28: short forms of the rules: what is found by itself is left out. No program in sight. -/
namespace Go.Proofs.YtcnjjefbnlgdjaaGreat.V
open Go Go.RowKit
set_option linter.unusedVariables false
/-! ### What a program says of its types -/
class Und (P : Program) (t : TypeId) (d : outParam TypeDesc) : Prop where
  u : P.underlying t = some d
class Siz (P : Program) (t : TypeId) (k : outParam Nat) : Prop where
  s : ∀ w, (sizeOf t).run P w = .ok k w
class AgF (P : Program) (t : TypeId) : Prop where
  a : ∀ w, (isAgg t).run P w = .ok false w
class AgT (P : Program) (t : TypeId) : Prop where
  a : ∀ w, (isAgg t).run P w = .ok true w
class Zer (P : Program) (t : TypeId) (v : outParam Value) : Prop where
  z : ∀ w, (zeroValue t).run P w = .ok v w
class Plc (P : Program) (t : TypeId) (fs : outParam (Array Field)) (pl : outParam (List (Nat × Nat))) : Prop where
  p : ∀ w, (fs.mapM fun f => do pure (f.offset, ← sizeOf f.type) : Sem (Array (Nat × Nat))).run P w = .ok pl.toArray w
  u : P.underlying t = some (.struct fs)
class Mix (P : Program) : Prop where
  m : P.follows .mixedOrders = true
class Cal (P : Program) (f : FuncId) : Prop where
  c : ∀ (args : Array Value) (w : World), (callFunc f args).run P w = .ok (.enter f args) w
abbrev dOf {o : Option TypeDesc} {d : TypeDesc} (_ : o = some d) : TypeDesc := d
abbrev fOf {o : Option TypeDesc} {d : Array Field} (_ : o = some (.struct d)) : Array Field := d
abbrev kOf {P : Program} {t : TypeId} {k : Nat} (_ : ∀ w, (sizeOf t).run P w = .ok k w) : Nat := k
abbrev zOf {P : Program} {t : TypeId} {v : Value} (_ : ∀ w, (zeroValue t).run P w = .ok v w) : Value := v
abbrev lOf {P : Program} {s : Sem (Array (Nat × Nat))} {l : List (Nat × Nat)} (_ : ∀ w, s.run P w = .ok l.toArray w) : List (Nat × Nat) := l
section
variable {P : Program} {n : Nat} {B : Base} {Q : Exit → Act → World → Prop} {ks : Ks} {sg : Sg} {ops : Array Oper} {rest : List Oper}
variable {d : Nat} {op : Op} {ty : TypeId} {pos : String} {aft : Array Edge} {g : Option (Nat × Bool)}
theorem Lv {v : Value} (hv : Val P n B ⟨some d, op, ty, pos, aft, g⟩ ks sg v) (h : LW P n B ops Q rest ((d, v) :: ks) sg) (hg : gd ops ks g = some true := by rfl) (hd : Nat.blt d n = true := by rfl) : LW P n B ops Q (⟨some d, op, ty, pos, aft, g⟩ :: rest) ks sg := LW.v hg hd hv h
theorem Lp (h : LW P n B ops Q rest ((d, undef) :: ks) sg) (hg : gd ops ks g = some false := by rfl) (hd : Nat.blt d n = true := by rfl) : LW P n B ops Q (⟨some d, op, ty, pos, aft, g⟩ :: rest) ks sg := LW.p hg hd h
theorem LpN (h : LW P n B ops Q rest ks sg) (hg : gd ops ks g = some false := by rfl) : LW P n B ops Q (⟨none, op, ty, pos, aft, g⟩ :: rest) ks sg := LW.pN hg h
theorem Le {α : Type} {φ : α → Prop} {v : α → Value} {sg' : α → Sg} (he : Eff P n B ⟨some d, op, ty, pos, aft, g⟩ ks sg φ v sg')
    (h : ∀ x, φ x → LW P n B ops Q rest ((d, v x) :: ks) (sg' x)) (hg : gd ops ks g = some true := by rfl) (hd : Nat.blt d n = true := by rfl) : LW P n B ops Q (⟨some d, op, ty, pos, aft, g⟩ :: rest) ks sg := LW.e hg hd he h
theorem LeN {α : Type} {φ : α → Prop} {v : α → Value} {sg' : α → Sg} (he : Eff P n B ⟨none, op, ty, pos, aft, g⟩ ks sg φ v sg')
    (h : ∀ x, φ x → LW P n B ops Q rest ks (sg' x)) (hg : gd ops ks g = some true := by rfl) : LW P n B ops Q (⟨none, op, ty, pos, aft, g⟩ :: rest) ks sg := LW.eN hg he h
theorem Qv {v : Value} (hv : Val P n B ⟨some d, op, ty, pos, aft, g⟩ ks sg v) (h : QW P n B ops Q sg rest ((d, v) :: ks)) (hg : gd ops ks g = some true := by rfl) (hd : Nat.blt d n = true := by rfl) : QW P n B ops Q sg (⟨some d, op, ty, pos, aft, g⟩ :: rest) ks := QW.v hg hd hv h
theorem Qp (h : QW P n B ops Q sg rest ((d, undef) :: ks)) (hg : gd ops ks g = some false := by rfl) (hd : Nat.blt d n = true := by rfl) : QW P n B ops Q sg (⟨some d, op, ty, pos, aft, g⟩ :: rest) ks := QW.p hg hd h
theorem QpN (h : QW P n B ops Q sg rest ks) (hg : gd ops ks g = some false := by rfl) : QW P n B ops Q sg (⟨none, op, ty, pos, aft, g⟩ :: rest) ks := QW.pN hg h
theorem Qc {v : Value} (hv : Qcall P n B ⟨some d, op, ty, pos, aft, g⟩ ks sg v) (h : QW P n B ops Q sg rest ((d, v) :: ks)) (hg : gd ops ks g = some true := by rfl) (hd : Nat.blt d n = true := by rfl) : QW P n B ops Q sg (⟨some d, op, ty, pos, aft, g⟩ :: rest) ks := QW.c hg hd hv h
theorem Rv {S : Sg} {fuel : Nat} {listed : Array Bool} {v : Value} (i : Nat) (hi : ops[i]? = some ⟨some d, op, ty, pos, aft, g⟩) (hv : Val P n B ⟨some d, op, ty, pos, aft, g⟩ ks S v)
    (h : RW P n B ops Q S fuel (listed.setIfInBounds i true) ((d, v) :: ks) sg) (hs : Region.noSelect ops = true := by kernel_rfl) (hf : Region.free .any ops listed i = true := by kernel_rfl) (hr : (Region.ready .any ops listed).contains i = true := by kernel_rfl)
    (hQ : ∀ c a w, Q (.panic c) (a.put (some d) v) w → Q (.panic c) a w := by exact fun _ _ _ h => h) (hg : gd ops ks g = some true := by rfl) (hd : Nat.blt d n = true := by rfl) : RW P n B ops Q S (fuel + 1) listed ks sg := RW.v i hi hs hf hr hQ hg hd hv h
theorem Rp {S : Sg} {fuel : Nat} {listed : Array Bool} (i : Nat) (hi : ops[i]? = some ⟨some d, op, ty, pos, aft, g⟩)
    (h : RW P n B ops Q S fuel (listed.setIfInBounds i true) ((d, undef) :: ks) sg) (hs : Region.noSelect ops = true := by kernel_rfl) (hf : Region.free .any ops listed i = true := by kernel_rfl) (hr : (Region.ready .any ops listed).contains i = true := by kernel_rfl)
    (hQ : ∀ c a w, Q (.panic c) (a.put (some d) undef) w → Q (.panic c) a w := by exact fun _ _ _ h => h) (hg : gd ops ks g = some false := by rfl) (hd : Nat.blt d n = true := by rfl) : RW P n B ops Q S (fuel + 1) listed ks sg := RW.p i hi hs hf hr hQ hg hd h
theorem Re {S : Sg} {fuel : Nat} {listed : Array Bool} {α : Type} {φ : α → Prop} {v : α → Value} {sg' : α → Sg} (i : Nat) (hi : ops[i]? = some ⟨some d, op, ty, pos, aft, g⟩) (he : Eff P n B ⟨some d, op, ty, pos, aft, g⟩ ks sg φ v sg')
    (h : ∀ x, φ x → RW P n B ops Q S fuel (listed.setIfInBounds i true) ((d, v x) :: ks) (sg' x)) (hr : Region.ready .any ops listed = [i] := by kernel_rfl) (hg : gd ops ks g = some true := by rfl) (hd : Nat.blt d n = true := by rfl)
    (hS : ∀ x, ∃ r, Pick S (sg' x) r := by exact fun x => ⟨_, by repeat (first | exact .nil | apply Pick.cons | exact .here | apply Ext.there)⟩) : RW P n B ops Q S (fuel + 1) listed ks sg := RW.e i hi hr hg hd he hS h
theorem ReN {S : Sg} {fuel : Nat} {listed : Array Bool} {α : Type} {φ : α → Prop} {v : α → Value} {sg' : α → Sg} (i : Nat) (hi : ops[i]? = some ⟨none, op, ty, pos, aft, g⟩) (he : Eff P n B ⟨none, op, ty, pos, aft, g⟩ ks sg φ v sg')
    (h : ∀ x, φ x → RW P n B ops Q S fuel (listed.setIfInBounds i true) ks (sg' x)) (hr : Region.ready .any ops listed = [i] := by kernel_rfl) (hg : gd ops ks g = some true := by rfl)
    (hS : ∀ x, ∃ r, Pick S (sg' x) r := by exact fun x => ⟨_, by repeat (first | exact .nil | apply Pick.cons | exact .here | apply Ext.there)⟩) : RW P n B ops Q S (fuel + 1) listed ks sg := RW.eN i hi hr hg he hS h
theorem Ro {S : Sg} {fuel : Nat} {listed : Array Bool} {α : Type} {φ : α → Prop} {v : α → Value} {sg' : α → Sg} {i : Nat} (hi : ops[i]? = some ⟨some d, op, ty, pos, aft, g⟩) (he : Eff P n B ⟨some d, op, ty, pos, aft, g⟩ ks sg φ v sg')
    (h : ∀ x, φ x → RW P n B ops Q S fuel (listed.setIfInBounds i true) ((d, v x) :: ks) (sg' x)) (hg : gd ops ks g = some true := by rfl) (hd : Nat.blt d n = true := by rfl)
    (hS : ∀ x, ∃ r, Pick S (sg' x) r := by exact fun x => ⟨_, by repeat (first | exact .nil | apply Pick.cons | exact .here | apply Ext.there)⟩) : RO P n B ops Q S fuel listed ks sg i := RO.e hi hg hd he hS h
theorem RoN {S : Sg} {fuel : Nat} {listed : Array Bool} {α : Type} {φ : α → Prop} {v : α → Value} {sg' : α → Sg} {i : Nat} (hi : ops[i]? = some ⟨none, op, ty, pos, aft, g⟩) (he : Eff P n B ⟨none, op, ty, pos, aft, g⟩ ks sg φ v sg')
    (h : ∀ x, φ x → RW P n B ops Q S fuel (listed.setIfInBounds i true) ks (sg' x)) (hg : gd ops ks g = some true := by rfl)
    (hS : ∀ x, ∃ r, Pick S (sg' x) r := by exact fun x => ⟨_, by repeat (first | exact .nil | apply Pick.cons | exact .here | apply Ext.there)⟩) : RO P n B ops Q S fuel listed ks sg i := RO.eN hi hg he hS h
theorem Rd {S : Sg} {fuel : Nat} {listed : Array Bool} (h : PQ n B Q .normal ks sg) (hr : Region.ready .any ops listed = [] := by kernel_rfl) : RW P n B ops Q S fuel listed ks sg := RW.done hr h
/-- A drawn region, its stable blocks S. -/
theorem Dr {id : Nat} {l : List Oper} {r : Sg} (S : Sg) (h : RW P n B l.toArray Q S l.length (Array.replicate l.length false) ks sg) (hm : P.follows .mixedOrders = true := by exact Mix.m) (hp : Pick S sg r := by repeat (first | exact .nil | apply Pick.cons | exact .here | apply Ext.there)) : CW P n B Q (.region id l.toArray true) ks sg := CW.drawn S hm hp h
theorem Qt {id : Nat} {l : List Oper} (h : QW P n B l.toArray Q sg l ks) (hm : P.follows .mixedOrders = true := by exact Mix.m) (hB : Region.lexB .any l.toArray = true := by kernel_rfl) : CW P n B Q (.region id l.toArray true) ks sg := CW.quiet hm hB h
theorem Sq {x y : Code} (h : CW P n B (Exit.then (y.wp P Q) Q) x ks sg) : CW P n B Q (.seq x y) ks sg := CW.seq h
theorem Rg {id : Nat} {l : List Oper} (h : LW P n B l.toArray Q l ks sg) : CW P n B Q (.region id l.toArray false) ks sg := CW.region h
theorem Nl (h : PQ n B Q .normal ks sg) : LW P n B ops Q [] ks sg := LW.nil h
theorem Ql (h : PQ n B Q .normal ks sg) : QW P n B ops Q sg [] ks := QW.nil h
theorem Ps {y : Code} (h : CW P n B Q y ks sg) : PQ n B (Exit.then (y.wp P Q) Q) .normal ks sg := PQ.seq h
theorem Bk {id : Nat} {c : Code} (h : CW P n B (Exit.inBlock id Q) c ks sg) : CW P n B Q (.block id c) ks sg := CW.block h
theorem Te {K : Act → World → Prop} {id : Nat} (h : PQ n B Q (.exit id) ks sg) : PQ n B (Exit.then K Q) (.exit id) ks sg := PQ.then_exit h
theorem Tr {K : Act → World → Prop} (h : PQ n B Q .ret ks sg) : PQ n B (Exit.then K Q) .ret ks sg := PQ.then_ret h
theorem Bn {id : Nat} (h : PQ n B Q .normal ks sg) : PQ n B (Exit.inBlock id Q) .normal ks sg := PQ.in_normal h
theorem Br {id : Nat} (h : PQ n B Q .ret ks sg) : PQ n B (Exit.inBlock id Q) .ret ks sg := PQ.in_ret h
theorem Bh {id : Nat} (h : PQ n B Q .normal ks sg) : PQ n B (Exit.inBlock id Q) (.exit id) ks sg := PQ.in_here h
theorem Rt (h : PQ n B Q .ret ks sg) : CW P n B Q .ret ks sg := CW.ret h
theorem Xt {id : Nat} (h : PQ n B Q (.exit id) ks sg) : CW P n B Q (.exit id) ks sg := CW.exit h
theorem Sk (h : PQ n B Q .normal ks sg) : CW P n B Q .skip ks sg := CW.skip h
/-- A loop. -/
theorem loopA {γ : Type} {c : Code} {r : Sg} (K : γ → Ks) (G : γ → Sg) (J : γ → Prop) (μ : γ → Nat) (x0 : γ) (hj : J x0)
    (round : ∀ x, J x → CW P n B (Exit.then (fun a w => ∃ x', J x' ∧ μ x' < μ x ∧ Fr n (K x') a ∧ Hp B (G x') w) Q) c (K x) (G x)) (hk : subK (K x0) ks := by repeat (first | exact trivial | refine ⟨rfl, ?_⟩)) (hg : Pick (G x0) sg r := by repeat (first | exact .nil | apply Pick.cons | exact .here | apply Ext.there)) : CW P n B Q (.loop c) ks sg := CW.loop K G J μ x0 hj hk hg round
theorem roundA {γ : Type} {K : γ → Ks} {G : γ → Sg} {J : γ → Prop} {μ : γ → Nat} {m : Nat} {r : Sg} (x' : γ) (hj : J x') (hm : μ x' < m) (hk : subK (K x') ks := by repeat (first | exact trivial | refine ⟨rfl, ?_⟩)) (hg : Pick (G x') sg r := by repeat (first | exact .nil | apply Pick.cons | exact .here | apply Ext.there)) :
    PQ n B (Exit.then (fun a w => ∃ x', J x' ∧ μ x' < m ∧ Fr n (K x') a ∧ Hp B (G x') w) Q) .normal ks sg := PQ.round x' hj hm hk hg
theorem joinA {α : Type} {φ : α → Prop} {T : α → Ks} {G : α → Sg} {r : Sg} (x : α) (hx : φ x) (hs : subK (T x) ks := by repeat (first | exact trivial | refine ⟨rfl, ?_⟩)) (hp : Pick (G x) sg r := by repeat (first | exact .nil | apply Pick.cons | exact .here | apply Ext.there)) : PQ n B (Jn n B φ T G) .normal ks sg := PQ.joined x hx hs hp
theorem joinC {α : Type} {φ : α → Prop} {T : α → Ks} {G : α → Sg} {r : Sg} (x : α) (hx : φ x) (hs : subK (T x) ks := by repeat (first | exact trivial | refine ⟨rfl, ?_⟩)) (hp : Pick (G x) sg r := by repeat (first | exact .nil | apply Pick.cons | exact .here | apply Ext.there)) : PQ n B (Exit.then (fun a w => ∃ x, φ x ∧ Fr n (T x) a ∧ Hp B (G x) w) Q) .normal ks sg := PQ.joinedC x hx hs hp
theorem Bo {id id' : Nat} (h : PQ n B Q (.exit id') ks sg) (hne : Nat.beq id' id = false := by rfl) : PQ n B (Exit.inBlock id Q) (.exit id') ks sg := PQ.in_out hne h
theorem Bs {e : Exit} (h : PQ n B Q e ks sg) (he : isGo e = false := by rfl) : PQ n B (Exit.noGoto Q) e ks sg := PQ.in_scope he h
theorem Ct {c : Operand} {x y : Code} (h1 : CW P n B Q x ks sg) (hc : ev ks c = some (.bool true) := by rfl) : CW P n B Q (.cond c x y) ks sg := CW.cond_t hc h1
theorem Cf {c : Operand} {x y : Code} (h1 : CW P n B Q y ks sg) (hc : ev ks c = some (.bool false) := by rfl) : CW P n B Q (.cond c x y) ks sg := CW.cond_f hc h1
theorem Rt1 {fn : Func} {R : Ending → World → Prop} {t : Nat} {v : Value} (h : ∀ w, Hp B sg w → R (.returned v) w) (hr : fn.results = #[.tmp t] := by rfl) (hv : look ks t = some v := by rfl) : PQ n B (bodyPost P fn R) .ret ks sg := PQ.ret1 hr hv h
theorem Rt2 {fn : Func} {R : Ending → World → Prop} {t u : Nat} {v x : Value} (h : ∀ w, Hp B sg w → R (.returned (.tuple #[v, x])) w) (hr : fn.results = #[.tmp t, .tmp u] := by rfl) (hv : look ks t = some v := by rfl) (hx : look ks u = some x := by rfl) : PQ n B (bodyPost P fn R) .ret ks sg := PQ.ret2 hr hv hx h
theorem Rt3 {fn : Func} {R : Ending → World → Prop} {t u s : Nat} {v x y : Value} (h : ∀ w, Hp B sg w → R (.returned (.tuple #[v, x, y])) w) (hr : fn.results = #[.tmp t, .tmp u, .tmp s] := by rfl) (hv : look ks t = some v := by rfl) (hx : look ks u = some x := by rfl) (hy : look ks s = some y := by rfl) : PQ n B (bodyPost P fn R) .ret ks sg := PQ.ret3 hr hv hx hy h
end
section
variable {P : Program} {n : Nat} {B : Base} {ks : Ks} {sg : Sg} {d : Option Tmp} {ty : TypeId} {pos : String} {aft : Array Edge} {g : Option (Nat × Bool)}
theorem Mv {x : Operand} {v : Value} (hx : ev ks x = some v := by rfl) : Val P n B ⟨d, .move x, ty, pos, aft, g⟩ ks sg v := Val.move hx
theorem Av {x : Operand} {v : Value} (hx : ev ks x = some v := by rfl) : Val P n B ⟨d, .assign x, ty, pos, aft, g⟩ ks sg v := Val.assign hx
theorem Pk {c x y : Operand} {t : Bool} {vx vy : Value} (hc : ev ks c = some (.bool t) := by rfl) (hx : ev ks x = some vx := by rfl) (hy : ev ks y = some vy := by rfl) : Val P n B ⟨d, .pick c x y, ty, pos, aft, g⟩ ks sg (if t then vx else vy) := Val.pick hc hx hy
theorem Pt {c x y : Operand} {v : Value} (hc : ev ks c = some (.bool true) := by rfl) (hx : ev ks x = some v := by rfl) : Val P n B ⟨d, .pick c x y, ty, pos, aft, g⟩ ks sg v := Val.pick_t hc hx
theorem Pf {c x y : Operand} {v : Value} (hc : ev ks c = some (.bool false) := by rfl) (hx : ev ks y = some v := by rfl) : Val P n B ⟨d, .pick c x y, ty, pos, aft, g⟩ ks sg v := Val.pick_f hc hx
theorem Nt {t : TypeId} {x : Operand} {b : Bool} (hx : ev ks x = some (.bool b) := by rfl) : Val P n B ⟨d, .unOp .not t x, ty, pos, aft, g⟩ ks sg (.bool (!b)) := Val.not hx
theorem Cm {op : BinOp} {t t' : TypeId} {x y : Operand} {k : IntKind} {i j : Int} {r : Bool} (hx : ev ks x = some (.int k i) := by rfl) (hy : ev ks y = some (.int k j) := by rfl) (hc : cmpI op i j = some r := by rfl) : Val P n B ⟨d, .binOp op t x y t', ty, pos, aft, g⟩ ks sg (.bool r) := Val.cmp hx hy hc
theorem Ar {op : BinOp} {t t' : TypeId} {x y : Operand} {k : IntKind} {i j r : Int} (hx : ev ks x = some (.int k i) := by rfl) (hy : ev ks y = some (.int k j) := by rfl) (hc : arI op i j = some r := by rfl)
    (hin : k.wrap r = r := by first | exact IntWalk.i64_in _ (by omega) | exact IntWalk.u64_in _ (by omega) | exact IntWalk.u8_in _ (by omega) | exact IntWalk.u32_in _ (by omega)) : Val P n B ⟨d, .binOp op t x y t', ty, pos, aft, g⟩ ks sg (.int k r) := Val.ar hx hy hc hin
theorem Aw {op : BinOp} {t t' : TypeId} {x y : Operand} {k : IntKind} {i j r : Int} (hx : ev ks x = some (.int k i) := by rfl) (hy : ev ks y = some (.int k j) := by rfl) (hc : arI op i j = some r := by rfl) : Val P n B ⟨d, .binOp op t x y t', ty, pos, aft, g⟩ ks sg (.int k (k.wrap r)) := Val.arw hx hy hc
theorem Fa {s : TypeId} {x : Operand} {i : Nat} {fs : Array Field} {f : Field} {b o sz : Nat} (off ft : Nat) (hx : ev ks x = some (.pointer (some ⟨b, o, none⟩)) := by rfl) (hu : P.underlying s = some (.struct fs) := by exact Und.u) (hf : fs[i]? = some f := by rfl) (hoff : f.offset = off := by rfl) (hft : f.type = ft := by rfl)
    (hs : ∀ w, (sizeOf ft).run P w = .ok sz w := by exact Siz.s) (hpos : (sz == 0) = false := by rfl) : Val P n B ⟨d, .fieldAddr s x i, ty, pos, aft, g⟩ ks sg (.pointer (some ⟨b, o + off, none⟩)) := by
  cases sz with
  | zero => cases hpos
  | succ k => exact Val.fieldAddr off hx hu hf hoff (by rw [hft]; exact hs)
/-- An index that is a natural number, or one that is not written so. -/
inductive IdxR : Int → Nat → Prop
  | nat (i : Nat) : IdxR (i : Nat) i
  | int (i : Int) (h : 0 ≤ i) : IdxR i i.toNat
theorem IdxR.eq {i : Int} {j : Nat} (h : IdxR i j) : i = (j : Nat) := by cases h with
  | nat => rfl
  | int h => omega
theorem Ix {t e : TypeId} {x y : Operand} {k : IntKind} {i : Int} {j b o m c sz : Nat} (hx : ev ks x = some (.slice (some ⟨b, o, none⟩) m c) := by rfl) (hy : ev ks y = some (.int k i) := by rfl) (hj : IdxR i j := by first | exact IdxR.nat _ | exact IdxR.int _ (by omega)) (hu : P.underlying t = some (.slice e) := by exact Und.u)
    (hs : ∀ w, (sizeOf e).run P w = .ok sz w := by exact Siz.s) (h1 : j < m := by omega) : Val P n B ⟨d, .indexAddr t x y, ty, pos, aft, g⟩ ks sg (.pointer (some ⟨b, o + j * sz, none⟩)) := by
  have e := hj.eq; subst e; exact Val.indexAddrN hx hy hu hs h1
theorem Ixa {t e : TypeId} {x y : Operand} {k : IntKind} {i : Int} {j b o m sz : Nat} (hx : ev ks x = some (.pointer (some ⟨b, o, none⟩)) := by rfl) (hy : ev ks y = some (.int k i) := by rfl) (hj : IdxR i j := by first | exact IdxR.nat _ | exact IdxR.int _ (by omega)) (hu : P.underlying t = some (.array m e) := by exact Und.u)
    (hs : ∀ w, (sizeOf e).run P w = .ok sz w := by exact Siz.s) (h1 : j < m := by omega) : Val P n B ⟨d, .indexAddr t x y, ty, pos, aft, g⟩ ks sg (.pointer (some ⟨b, o + j * sz, none⟩)) := by
  have e := hj.eq; subst e; exact Val.indexAddrA hx hy hu hs h1
theorem Ln {x : Operand} {t : TypeId} {e : TypeId} {p : Option Addr} {m c : Nat} (hx : ev ks x = some (.slice p m c) := by rfl) (hu : P.underlying t = some (.slice e) := by exact Und.u) : Val P n B ⟨d, .call { callee := .builtin .len, args := #[x], argTypes := #[t] }, ty, pos, aft, g⟩ ks sg (.int .i64 (m : Nat)) := Val.lenSl hx hu
theorem LnS {x : Operand} {t : TypeId} {l : List UInt8} (hx : ev ks x = some (str l) := by rfl) (hu : P.underlying t = some .string := by exact Und.u) : Val P n B ⟨d, .call { callee := .builtin .len, args := #[x], argTypes := #[t] }, ty, pos, aft, g⟩ ks sg (.int .i64 (l.length : Nat)) := Val.lenStr hx hu
theorem Ex {x : Operand} {i : Nat} {vs : List Value} {v : Value} (hx : ev ks x = some (.tuple vs.toArray) := by rfl) (hi : vs[i]? = some v := by rfl) : Val P n B ⟨d, .extract x i, ty, pos, aft, g⟩ ks sg v := Val.extract hx hi
theorem Nz {x : Operand} {p : Addr} (hx : ev ks x = some (.pointer (some p)) := by rfl) : Val P n B ⟨d, .nilCheck x, ty, pos, aft, g⟩ ks sg (.pointer (some p)) := Val.nilCheck hx
theorem Ld {t T : TypeId} {x : Operand} {b o : Nat} {fr : Nat × Nat} {l : List Value} {v : Value} (hx : ev ks x = some (.pointer (some ⟨b, o, none⟩)) := by rfl) (hg : ∀ w, (isAgg t).run P w = .ok false w := by exact AgF.a)
    (hm : InS (b, .cells l.toArray T fr) sg := by repeat (first | exact .here | exact .inner .here | exact .inner (.inner .here) | exact .inner (.inner (.inner .here)) | refine .there ?_)) (hl : l[o]? = some v := by rfl) : Val P n B ⟨d, .load t x, ty, pos, aft, g⟩ ks sg v := Val.load hx hg hm hl
theorem Lw {t T : TypeId} {x : Operand} {b : Nat} {fr : Nat × Nat} {l : List Value} (hx : ev ks x = some (.pointer (some ⟨b, 0, none⟩)) := by rfl) (hg : ∀ w, (isAgg t).run P w = .ok true w := by exact AgT.a)
    (hm : InS (b, .cells l.toArray T fr) sg := by repeat (first | exact .here | exact .inner .here | exact .inner (.inner .here) | exact .inner (.inner (.inner .here)) | refine .there ?_)) (hs : ∀ w, (sizeOf t).run P w = .ok l.length w := by exact Siz.s) : Val P n B ⟨d, .load t x, ty, pos, aft, g⟩ ks sg (.agg l.toArray) := Val.loadW hx hg hm hs
theorem La {t T : TypeId} {x : Operand} {b o : Nat} {fr : Nat × Nat} {l : List Value} (cs : List Value) {r : List Value} (hx : ev ks x = some (.pointer (some ⟨b, o, none⟩)) := by rfl) (hg : ∀ w, (isAgg t).run P w = .ok true w := by exact AgT.a)
    (hm : InS (b, .cells l.toArray T fr) sg := by repeat (first | exact .here | exact .inner .here | exact .inner (.inner .here) | exact .inner (.inner (.inner .here)) | refine .there ?_)) (hl : l.drop o = cs ++ r := by rfl) (hs : ∀ w, (sizeOf t).run P w = .ok cs.length w := by exact Siz.s) : Val P n B ⟨d, .load t x, ty, pos, aft, g⟩ ks sg (.agg cs.toArray) := Val.loadA cs hx hg hm hl hs
theorem Bd {t : TypeId} (cs : List Value) {ps : List (Nat × Operand)} {vs : List (Nat × Value)} {zs : List Value} {fs : Array Field} {pl : List (Nat × Nat)} [hP : Plc P t fs pl] (hz : ∀ w, (zeroValue t).run P w = .ok (.agg zs.toArray) w := by exact Zer.z)
    (hv : evp ks ps = some vs := by rfl) (hf : fillL (fun (i : Nat) => pl[i]?) zs vs = some cs := by rfl) : Val P n B ⟨d, .build t ps.toArray, ty, pos, aft, g⟩ ks sg (.agg cs.toArray) := Val.build cs hz hP.u hP.p hv hf
theorem Cv {s t : TypeId} {x : Operand} {k k' : IntKind} {i : Int} {ds : TypeDesc} (hx : ev ks x = some (.int k i) := by rfl) (hs : P.underlying s = some ds := by exact Und.u) (hu : P.underlying t = some (.int k') := by exact Und.u) : Val P n B ⟨d, .convert s t x, ty, pos, aft, g⟩ ks sg (.int k' (k'.wrap i)) := Val.convI hx hs hu
theorem ES {t t' : TypeId} {x y : Operand} {i j : List UInt8} (hx : ev ks x = some (str i) := by rfl) (hy : ev ks y = some (str j) := by rfl) : Val P n B ⟨d, .binOp .eql t x y t', ty, pos, aft, g⟩ ks sg (.bool (decide (i = j))) := Val.eqStr hx hy
theorem NS {t t' : TypeId} {x y : Operand} {i j : List UInt8} (hx : ev ks x = some (str i) := by rfl) (hy : ev ks y = some (str j) := by rfl) : Val P n B ⟨d, .binOp .neq t x y t', ty, pos, aft, g⟩ ks sg (.bool (!decide (i = j))) := Val.neStr hx hy
/-- A pointer against nil, which it is not. -/
theorem EP {t e t' : TypeId} {x y : Operand} {p : Addr} (hx : ev ks x = some (.pointer (some p)) := by rfl) (hy : ev ks y = some (.pointer none) := by rfl) (hu : P.underlying t = some (.pointer e) := by exact Und.u) : Val P n B ⟨d, .binOp .eql t x y t', ty, pos, aft, g⟩ ks sg (.bool false) := Val.eqP false hx hy hu (.inr ⟨rfl, rfl⟩)
theorem EP0 {t e t' : TypeId} {x y : Operand} (hx : ev ks x = some (.pointer none) := by rfl) (hy : ev ks y = some (.pointer none) := by rfl) (hu : P.underlying t = some (.pointer e) := by exact Und.u) : Val P n B ⟨d, .binOp .eql t x y t', ty, pos, aft, g⟩ ks sg (.bool true) := Val.eqP true hx hy hu (.inr ⟨rfl, rfl⟩)
theorem NP {t e t' : TypeId} {x y : Operand} {p : Addr} (hx : ev ks x = some (.pointer (some p)) := by rfl) (hy : ev ks y = some (.pointer none) := by rfl) (hu : P.underlying t = some (.pointer e) := by exact Und.u) : Val P n B ⟨d, .binOp .neq t x y t', ty, pos, aft, g⟩ ks sg (.bool true) := Val.neP false hx hy hu (.inr ⟨rfl, rfl⟩)
theorem NP0 {t e t' : TypeId} {x y : Operand} (hx : ev ks x = some (.pointer none) := by rfl) (hy : ev ks y = some (.pointer none) := by rfl) (hu : P.underlying t = some (.pointer e) := by exact Und.u) : Val P n B ⟨d, .binOp .neq t x y t', ty, pos, aft, g⟩ ks sg (.bool false) := Val.neP true hx hy hu (.inr ⟨rfl, rfl⟩)
theorem Mf {f : Fn} {xs ys : List Operand} {vs us : List Value} (hx : evs ks xs = some vs := by rfl) (hy : evs ks ys = some us := by rfl) : Val P n B ⟨d, .makeFunc f xs.toArray ys.toArray, ty, pos, aft, g⟩ ks sg (.func f vs.toArray us.toArray) := Val.makeFunc hx hy
theorem AA {t : TypeId} {l : List Value} (hz : ∀ w, (zeroValue t).run P w = .ok (.agg l.toArray) w := by exact Zer.z) : Eff P n B ⟨d, .alloc t, ty, pos, aft, g⟩ ks sg (α := Nat) (fun _ => True) (fun b => .pointer (some ⟨b, 0, none⟩)) (fun b => [(b, .cells l.toArray t (0, 0))] :: sg) := Eff.allocA hz
theorem AS {t : TypeId} {v : Value} (hz : ∀ w, (zeroValue t).run P w = .ok v w := by exact Zer.z) (h1 : v.oneCell' = true := by rfl) : Eff P n B ⟨d, .alloc t, ty, pos, aft, g⟩ ks sg (α := Nat) (fun _ => True) (fun b => .pointer (some ⟨b, 0, none⟩)) (fun b => [(b, .cells [v].toArray t (0, 0))] :: sg) := Eff.allocS h1 hz
theorem XA {t : TypeId} {x : Operand} {l : List Value} (hx : ev ks x = some (.agg l.toArray) := by rfl) : Eff P n B ⟨d, .box t x, ty, pos, aft, g⟩ ks sg (α := Nat) (fun _ => True) (fun b => .pointer (some ⟨b, 0, none⟩)) (fun b => [(b, .cells l.toArray t (0, 0))] :: sg) := Eff.boxA hx
theorem XS {t : TypeId} {x : Operand} {v : Value} (hx : ev ks x = some v := by rfl) (h1 : v.oneCell' = true := by rfl) : Eff P n B ⟨d, .box t x, ty, pos, aft, g⟩ ks sg (α := Nat) (fun _ => True) (fun b => .pointer (some ⟨b, 0, none⟩)) (fun b => [(b, .cells [v].toArray t (0, 0))] :: sg) := Eff.boxS hx h1
theorem StS {t T : TypeId} {x y : Operand} {b o : Nat} {v : Value} {l l' : List Value} {sg' : Sg} (hx : ev ks x = some (.pointer (some ⟨b, o, none⟩)) := by rfl) (hy : ev ks y = some v := by rfl) (h1 : v.oneCell' = true := by rfl)
    (hu : Upd b (.cells l.toArray T (0, 0)) (.cells l'.toArray T (0, 0)) sg sg' := by repeat (first | exact .here | exact .inner .here | exact .inner (.inner .here) | exact .inner (.inner (.inner .here)) | apply Upd.there)) (hl : l.set o v = l' := by rfl) (hlen : Nat.blt o l.length = true := by rfl) (hs : ∀ w, (sizeOf t).run P w = .ok 1 w := by exact Siz.s) :
    Eff P n B ⟨d, .store t x y, ty, pos, aft, g⟩ ks sg (α := Unit) (fun _ => True) (fun _ => undef) (fun _ => sg') := Eff.store hx hy h1 hu hl hlen hs
theorem StW {t T : TypeId} {x y : Operand} {b : Nat} {l cs : List Value} {sg' : Sg} (hx : ev ks x = some (.pointer (some ⟨b, 0, none⟩)) := by rfl) (hy : ev ks y = some (.agg cs.toArray) := by rfl)
    (hu : Upd b (.cells l.toArray T (0, 0)) (.cells cs.toArray T (0, 0)) sg sg' := by repeat (first | exact .here | exact .inner .here | exact .inner (.inner .here) | exact .inner (.inner (.inner .here)) | apply Upd.there)) (hlen : l.length = cs.length := by rfl) (hs : ∀ w, (sizeOf t).run P w = .ok cs.length w := by exact Siz.s) (h1 : cs.all (·.oneCell') = true := by rfl) :
    Eff P n B ⟨d, .store t x y, ty, pos, aft, g⟩ ks sg (α := Unit) (fun _ => True) (fun _ => undef) (fun _ => sg') := Eff.storeW hx hy hu hlen hs h1
theorem CV {v : Value} {f : FuncId} {xs : List Operand} {vs : List Value} {ats : Array TypeId} [Cal P f] (h : ∀ w, Hp B sg w → Calls P f vs.toArray w (fun e w' => e = .returned v ∧ Below w.heap.size w w')) (hxs : evs ks xs = some vs := by rfl) :
    Eff P n B ⟨d, .call { callee := .value (.func f), args := xs.toArray, argTypes := ats }, ty, pos, aft, g⟩ ks sg (α := Unit) (fun _ => True) (fun _ => v) (fun _ => sg) := Eff.callV hxs Cal.c h
theorem CR {α : Type} {φ : α → Prop} {v : α → Value} {f : FuncId} {xs : List Operand} {vs : List Value} {ats : Array TypeId} [Cal P f]
    (h : ∀ w, Hp B sg w → Calls P f vs.toArray w (fun e w' => ∃ x, φ x ∧ e = .returned (v x) ∧ Below w.heap.size w w')) (hxs : evs ks xs = some vs := by rfl) :
    Eff P n B ⟨d, .call { callee := .value (.func f), args := xs.toArray, argTypes := ats }, ty, pos, aft, g⟩ ks sg φ v (fun _ => sg) := Eff.callR hxs Cal.c h
theorem CM {α : Type} {φ : α → Prop} {v : α → Value} {so : α → Sg} {f : FuncId} {xs : List Operand} {vs : List Value} {ats : Array TypeId} (ss : Sg) {r : Sg} [Cal P f]
    (h : ∀ w, Hp B sg w → Sat ss w → Calls P f vs.toArray w (fun e w' => ∃ x, φ x ∧ e = .returned (v x) ∧ Hp ⟨w, ids ss⟩ (so x) w')) (hp : Pick ss sg r := by repeat (first | exact .nil | apply Pick.cons | exact .here | apply Ext.there)) (hxs : evs ks xs = some vs := by rfl) :
    Eff P n B ⟨d, .call { callee := .value (.func f), args := xs.toArray, argTypes := ats }, ty, pos, aft, g⟩ ks sg φ v (fun x => so x ++ r) := Eff.callM ss hp hxs Cal.c h
theorem QV {v : Value} {f : FuncId} {xs : List Operand} {vs : List Value} {ats : Array TypeId} [Cal P f]
    (h : ∀ w, Hp B sg w → Calls P f vs.toArray w (fun e w' => e = .returned v ∧ Below w.heap.size w w')) (hxs : evs ks xs = some vs := by rfl) :
    Qcall P n B ⟨d, .call { callee := .value (.func f), args := xs.toArray, argTypes := ats }, ty, pos, aft, g⟩ ks sg v := Qcall.of hxs Cal.c h
end
end Go.Proofs.YtcnjjefbnlgdjaaGreat.V

/- A small calculus of symbolic states, part 29: arrays of bytes: slices of them, compared, out of slices. No program in sight. -/
namespace Go.Proofs.YtcnjjefbnlgdjaaGreat.V
open Go Go.RowKit
set_option linter.unusedVariables false
section
variable {P : Program} {n : Nat} {B : Base} {ks : Ks} {sg : Sg} {d : Option Tmp} {ty : TypeId} {pos : String} {aft : Array Edge} {g : Option (Nat × Bool)}
/-- A slice of an array in memory. -/
theorem Val.sliceArr {t e sz b off m : Nat} {x : Operand} {lo hi : Option Operand} (L Hh : Nat) (hx : ev ks x = some (.pointer (some ⟨b, off, none⟩))) (hu : P.underlying t = some (.array m e)) (hs : ∀ w, (sizeOf e).run P w = .ok sz w)
    (hlo : optI ks lo L 0) (hhi : optI ks hi Hh m) (h1 : L ≤ Hh) (h2 : Hh ≤ m) :
    Val P n B ⟨d, .slice t x lo hi none, ty, pos, aft, g⟩ ks sg (.slice (some ⟨b, if m = L then off else off + L * sz, none⟩) (Hh - L) (m - L)) := fun a w ha hw => by
  show (do pure (Next.value (← Instr.sliceAt t (a.eval x) (lo.map a.eval) (hi.map a.eval) none)) : Sem Next).run P w = _
  rw [ha.ev hx]
  refine run_value ?_
  have hl : (match lo.map a.eval with | some v => Instr.sliceBound v Hh .sliceB | none => pure 0 : Sem Nat).run P w = .ok L w := by
    cases lo with
    | none => obtain rfl : L = 0 := hlo; rfl
    | some y => obtain ⟨k, hk⟩ := hlo; simp only [Option.map_some, ha.ev hk]; exact run_sliceBound h1 _ w
  have hh : (match hi.map a.eval with | some v => Instr.sliceBound v m .sliceAlen | none => pure m : Sem Nat).run P w = .ok Hh w := by
    cases hi with
    | none => obtain rfl : Hh = m := hhi; rfl
    | some y => obtain ⟨k, hk⟩ := hhi; simp only [Option.map_some, ha.ev hk]; exact run_sliceBound h2 _ w
  have hb : (Instr.sliceBounds false m m (lo.map a.eval) (hi.map a.eval) none).run P w = .ok (L, Hh, m) w := by
    cases hlo' : lo.map a.eval <;> cases hhi' : hi.map a.eval <;> simp only [hlo', hhi'] at hl hh <;>
      simp_all [Instr.sliceBounds, Sem.run_bind, Result.andThen_ok]
  simp only [Instr.sliceAt, Sem.run_bind, run_underlying hu, Result.andThen_ok, Instr.sureAddr, Sem.run_pure, hb, hs]
  split
  · rfl
  · rw [Addr.add_mid]
/-- A slice's first elements as an array's place. -/
theorem Val.arrPtr {t e b o k m c : Nat} {x : Operand} (hx : ev ks x = some (.slice (some ⟨b, o, none⟩) m c)) (hu : P.underlying t = some (.array k e)) (h : k ≤ m) :
    Val P n B ⟨d, .sliceToArrayPointer t x, ty, pos, aft, g⟩ ks sg (.pointer (some ⟨b, o, none⟩)) := fun a w ha hw => by
  show (do pure (Next.value (← Instr.arrayAt t (a.eval x))) : Sem Next).run P w = _
  rw [ha.ev hx]
  refine run_value ?_
  simp only [Instr.arrayAt, Sem.run_bind, run_underlying hu, Result.andThen_ok, if_neg (Nat.not_lt.2 h), Sem.run_pure]
theorem Val.eqBy {t t' e m : TypeId} {x y : Operand} {a b : List UInt8} (hx : ev ks x = some (.agg (byC a).toArray)) (hy : ev ks y = some (.agg (byC b).toArray)) (hm : P.eqGuardType P.depth t = false) (hu : P.underlying t = some (.array m e)) (he : P.underlying e = some (.int .u8)) (hs : ∀ w, (sizeOf e).run P w = .ok 1 w) (ha : a.length = m) (hb : b.length = m) :
    Val P n B ⟨d, .binOp .eql t x y t', ty, pos, aft, g⟩ ks sg (.bool (decide (a = b))) := Val.bin hx hy fun w => by
  rw [Sem.run_bind, run_eqGuard_agg w .eql t x y _ _ hm]
  simp only [Result.andThen_ok]
  have h := run_eql_bytes (P := P) w t e m hu he hs a b ha hb
  have e1 : (a == b) = decide (a = b) := by by_cases h : a = b <;> simp [h]
  rw [e1] at h
  exact h
theorem Val.neBy {t t' e m : TypeId} {x y : Operand} {a b : List UInt8} (hx : ev ks x = some (.agg (byC a).toArray)) (hy : ev ks y = some (.agg (byC b).toArray)) (hm : P.eqGuardType P.depth t = false) (hu : P.underlying t = some (.array m e)) (he : P.underlying e = some (.int .u8)) (hs : ∀ w, (sizeOf e).run P w = .ok 1 w) (ha : a.length = m) (hb : b.length = m) :
    Val P n B ⟨d, .binOp .neq t x y t', ty, pos, aft, g⟩ ks sg (.bool (!decide (a = b))) := Val.bin hx hy fun w => by
  rw [Sem.run_bind, run_eqGuard_agg w .neq t x y _ _ hm]
  simp only [Result.andThen_ok]
  have h := run_equalIn_bytes (P := P) w 9998 t e m hu he hs a b ha hb
  have e1 : (a == b) = decide (a = b) := by by_cases h : a = b <;> simp [h]
  rw [e1] at h
  rw [run_neq_struct]
  have h2 : (Op.equalIn 10000 t (.agg (byC a).toArray) (.agg (byC b).toArray)).run P w = .ok (decide (a = b)) w := h
  rw [h2]
  rfl
/-- Elements are copied into a part of a block of the state. -/
theorem Eff.copyT {T t t2 e sz gb o dl dc sl sc m : Nat} {a : Addr} {x y : Operand} {cur cs cells' : List Value} {sg' : Sg} (hx : ev ks x = some (.slice (some ⟨gb, o, none⟩) dl dc)) (hy : ev ks y = some (.slice (some a) sl sc)) (hu : P.underlying t = some (.slice e)) (hs : (P.info? e).map (·.size) = some sz)
    (hU : Upd gb (.cells cur.toArray T (0, 0)) (.cells cells'.toArray T (0, 0)) sg sg') (hc : cur.take o ++ cs ++ cur.drop (o + cs.length) = cells') (hm : Nat.min sl dl = m) (hn : cs.length = m * sz) (hsrc : ∀ w, Hp B sg w → ∀ j v, cs[j]? = some v → w.cell? (a.add j) = some v) (hfit : o + cs.length ≤ cur.length) (h1 : cs.all (·.oneCell') = true) :
    Eff P n B ⟨d, .call { callee := .builtin .copy, args := #[x, y], argTypes := #[t, t2] }, ty, pos, aft, g⟩ ks sg (α := Unit) (fun _ => True) (fun _ => .int .i64 (m : Nat)) (fun _ => sg') := fun ac w K Q ha hw hk => by
  have e1 := ha.ev hx
  have e2 := ha.ev hy
  have hb := hw.own _ hU.mem
  simp only at hb
  have hrun := run_copyN (P := P) w t t2 ty e gb o dl dc a sl sc m sz cur.toArray T cs hu hs hb hm hn (hsrc w hw) (by simpa using hfit) (fun v hv => List.all_eq_true.1 h1 v hv)
  simp only [hc] at hrun
  unfold Oper.wp
  have hex : (execOp ac.eval ⟨d, .call { callee := .builtin .copy, args := #[x, y], argTypes := #[t, t2] }, ty, pos, aft, g⟩).run P w = .ok (.value (.int .i64 (m : Nat))) (w.setRow gb cells'.toArray) := by
    simp only [execOp, resolve, invoke, Go.builtin, Sem.run_bind, Sem.run_pure, Result.andThen_ok, List.map_toArray, List.map_cons, List.map_nil, e1, e2, hrun]
    rfl
  rw [hex]
  refine hk () _ trivial (hw.upd hU rfl rfl rfl (by simp [World.setRow]) ?_ (fun k hk => ?_))
  · simp [World.setRow, Array.getElem?_modify, hb]
  · simp [World.setRow, Array.getElem?_modify, Ne.symm hk]
end
end Go.Proofs.YtcnjjefbnlgdjaaGreat.V

/- A small calculus of symbolic states, part 18: a sort of one's own structs, in the calculus's words. No program in sight. -/
namespace Go.Proofs.YtcnjjefbnlgdjaaGreat.V
open Go Go.RowKit
open Go.Sort (putRow putCells mapBlock grow Holds ahead flatK putRowK HoldsK)
open Go.Proofs (sortWorldK)
set_option linter.unusedVariables false
theorem flatMap_len {α : Type} {enc : α → List Value} {k : Nat} (hk : ∀ x, (enc x).length = k) (l : List α) : (l.flatMap enc).length = l.length * k := by
  induction l with
  | nil => simp
  | cons x r ih => simp only [List.flatMap_cons, List.length_append, hk, ih, List.length_cons, Nat.add_mul, Nat.one_mul]; omega
theorem putCells_flat {α : Type} {enc : α → List Value} {k : Nat} (hk : ∀ x, (enc x).length = k) (l l' : List α) (hl : l'.length = l.length) (rest : List Value) : putCells id 0 (l'.flatMap enc).toArray (l.flatMap enc ++ rest).toArray = (l'.flatMap enc ++ rest).toArray := by
  have h1 := flatMap_len hk l
  have h2 := flatMap_len hk l'
  have h3 : (l'.flatMap enc).length = (l.flatMap enc).length := by rw [h1, h2, hl]
  apply Array.ext
  · simp only [putCells, Array.size_mapIdx, List.size_toArray, List.length_append]; omega
  · intro j hj1 hj2
    simp only [putCells, Array.getElem_mapIdx, Nat.zero_le, true_and, Nat.zero_add, Nat.sub_zero, List.size_toArray, id_eq, List.getElem_toArray]
    split
    · rename_i h
      rw [List.getElem_append_left h, getElem!_pos _ _ (by simpa using h)]
      simp
    · rename_i h
      rw [List.getElem_append_right (by omega), List.getElem_append_right (by omega)]
      congr 1; omega
section
variable {α : Type} [Inhabited α]
theorem flatMap_get {enc : α → List Value} {k : Nat} (hk : ∀ x, (enc x).length = k) (l : List α) {j : Nat} (hj : j < l.length * k) : (l.flatMap enc)[j]? = (enc (l[j / k]!))[j % k]? := by
  have hk0 : 0 < k := by rcases Nat.eq_zero_or_pos k with h | h; (subst h; omega); exact h
  have hq : j / k < l.length := (Nat.div_lt_iff_lt_mul hk0).2 hj
  have hx : l[j / k]? = some l[j / k]! := by rw [List.getElem?_eq_getElem hq, getElem!_pos l _ hq]
  obtain ⟨r, hr⟩ := drop_flatMap hk l (j / k) _ hx
  have hm : j % k < (enc (l[j / k]!)).length := by rw [hk]; exact Nat.mod_lt _ hk0
  have h1 : ((l.flatMap enc).drop (j / k * k))[j % k]? = (enc (l[j / k]!))[j % k]? := by rw [hr, List.getElem?_append_left hm]
  rw [List.getElem?_drop] at h1
  rw [← h1]
  congr 1
  have := Nat.div_add_mod j k
  rw [Nat.mul_comm] at this; omega
theorem flatK_eq {enc : α → List Value} {k : Nat} (hk : ∀ x, (enc x).length = k) (l : List α) : flatK enc k l.toArray = (l.flatMap enc).toArray := by
  apply Array.ext
  · rw [Go.Sort.size_flatK]; simp only [List.size_toArray]; rw [flatMap_len hk]
  · intro j h1 h2
    rw [Go.Sort.size_flatK, List.size_toArray] at h1
    have h3 := Go.Sort.get_flatK enc k l.toArray j (by simpa using h1)
    rw [getElem!_pos _ j (by rw [Go.Sort.size_flatK]; simpa using h1)] at h3
    rw [h3]
    have h4 := flatMap_get hk l h1
    rw [List.getElem?_eq_getElem (by rw [flatMap_len hk]; exact h1)] at h4
    have h5 := (List.getElem?_eq_some_iff.1 h4.symm)
    obtain ⟨h6, h7⟩ := h5
    have e1 : (l.toArray[j / k]! : α) = l[j / k]! := by simp
    rw [e1, getElem!_pos (enc (l[j / k]!)) _ h6, h7]
    simp
theorem holdsK_own {enc : α → List Value} {k T g : Nat} (hk : ∀ x, (enc x).length = k) (l : List α) (rest : List Value) {w : World} (h : w.heap[g]? = some (.cells (l.flatMap enc ++ rest).toArray T (0, 0))) : HoldsK enc k w g 0 l.toArray := by
  unfold HoldsK
  rw [flatK_eq hk]
  intro j hj
  simp only [List.size_toArray] at hj
  refine ⟨?_, frozen_of h⟩
  refine cell_of_block h ?_
  rw [Nat.zero_add, List.getElem?_append_left hj, List.getElem?_eq_getElem hj]
  rw [getElem!_pos _ _ (by simpa using hj)]
  simp
/-- What a sort leaves. -/
theorem sorted_hp {enc : α → List Value} {k T g m : Nat} (hk : ∀ x, (enc x).length = k) (l l' : List α) (hl : l'.length = l.length) (rest : List Value) {w : World} (os : Array Obj) (h : w.heap[g]? = some (.cells (l.flatMap enc ++ rest).toArray T (0, 0))) :
    Hp ⟨w, [g]⟩ [[(g, .cells (l'.flatMap enc ++ rest).toArray T (0, 0))]] (sortWorldK enc k w g 0 m l'.toArray os) := by
  have hlt : g < w.heap.size := lt_of_some h
  have hheap : (sortWorldK enc k w g 0 m l'.toArray os).heap = (w.heap.modify g (Go.Sort.onCells (putCells id 0 (l'.flatMap enc).toArray))) ++ os := by
    unfold sortWorldK putRowK putRow mapBlock grow
    rw [flatK_eq hk]; rfl
  have hg : (sortWorldK enc k w g 0 m l'.toArray os).heap[g]? = some (.cells (l'.flatMap enc ++ rest).toArray T (0, 0)) := by
    rw [hheap, Array.getElem?_append_left (by simpa using hlt), Array.getElem?_modify, if_pos rfl, h]
    simp only [Option.map_some, Go.Sort.onCells]
    rw [putCells_flat hk l l' hl]
  refine ⟨rfl, rfl, rfl, by rw [hheap]; simp, fun b hb hf => ?_, fun p hp => ?_, fun p hp => ?_, by simp⟩
  · have hne : b ≠ g := fun e => hf (by simp [e])
    rw [hheap, Array.getElem?_append_left (by simpa using hb), Array.getElem?_modify, if_neg (fun e => hne e.symm)]
  · simp at hp; subst hp; exact hg
  · simp at hp; subst hp; exact .inr (by simp)
end
/-- A slice that nothing old holds. -/
theorem hp_of_below {e sz n : Nat} {v : Value} {xs : List Value} {w w' : World} (hb : Below w.heap.size w w') (hr : w'.ownsRow w.heap.size e sz v n xs) : ∃ o, v = ownV n o ∧ ownOk sz n xs o ∧ Hp ⟨w, []⟩ [ownG e xs o] w' := by
  have h0 : Hp ⟨w, []⟩ [] w' := ⟨hb.os, hb.tape, hb.output, hb.size, fun b h1 _ => hb.block b h1, by simp, by simp, by simp⟩
  obtain ⟨hlen, ⟨rfl, h⟩ | ⟨g, cap, cur, rfl, hbg, hg, hnc, hcm, hcs, htake⟩⟩ := hr
  · subst h
    have : xs = [] := List.length_eq_zero_iff.1 (by omega)
    subst this
    exact ⟨none, rfl, ⟨by simp, rfl⟩, h0.perm (.refl _)⟩
  · have hcur : cur = (xs ++ cur.toList.drop (n * sz)).toArray := by rw [← htake, List.take_append_drop]
    refine ⟨some (g, cur.toList.drop (n * sz), cap), rfl, ⟨hlen, ?_⟩, ?_⟩
    · have hle : n * sz ≤ cap * sz := Nat.mul_le_mul_right _ hnc
      simp only [List.length_drop, Array.length_toList, hcs, hlen]
      omega
    · have h2 := h0.cons (o := .cells (xs ++ cur.toList.drop (n * sz)).toArray e (0, 0)) (y := g) (by rw [← hcur]; exact hg) (.inl hbg) (by simp [ids])
      exact h2.perm (by simp [ownG, ownS])
end Go.Proofs.YtcnjjefbnlgdjaaGreat.V

/- A small calculus of symbolic states, part 19: a look-up for its value alone; the kit's maps. No program in sight. -/
namespace Go.Proofs.YtcnjjefbnlgdjaaGreat.V
open Go Go.RowKit Go.MapKept
set_option linter.unusedVariables false
section
variable {P : Program} {n : Nat} {B : Base} {ks : Ks} {sg : Sg} {d : Option Tmp} {ty : TypeId} {pos : String} {aft : Array Edge} {g : Option (Nat × Bool)}
theorem Val.lookup1 {t kt et : TypeId} {x y : Operand} {b c : Nat} {E : ME} {k : ByteArray} {z : Value} (hx : ev ks x = some (.map (some b))) (hy : ev ks y = some (.string k)) (hu : P.underlying t = some (.map kt et)) (hk : P.underlying kt = some .string) (hz : ∀ w, (zeroValue et).run P w = .ok z w) (hm : InS (b, mpO E c) sg) :
    Val P n B ⟨d, .lookup t x y false, ty, pos, aft, g⟩ ks sg ((mget E k).getD z) := fun a w ha hw => by
  show (do pure (Next.value (← Instr.lookup t (a.eval x) (a.eval y) false)) : Sem Next).run P w = _
  rw [ha.ev hx, ha.ev hy]
  refine run_value ?_
  have hb : w.heap[b]? = some (.map (E.map mE).toArray c) := hw.own _ hm.mem
  have hc : ∀ e, (Instr.checkKey e 10000 kt (.string k)).run P w = .ok () w := fun e => run_checkKey hk (show IsKey .string (.string k) from trivial) e 9999
  have hf := run_findKey_m (P := P) (w := w) (k := k) (E := E) hk
  have hg := mfind_get k E 0
  simp only [Instr.lookup, Sem.run_bind, run_underlying hu, Result.andThen_ok, MapKept.run_getObj_map hb, Sem.run_pure, hc, hf]
  cases hq : mfind E k 0 with
  | none => rw [hq] at hg; simp only [Option.map_none] at hg; simp [← hg, hz]
  | some p => rw [hq] at hg; simp only [Option.map_some] at hg; simp [← hg]
end
/-- How a map's block reads to the kit: its keys alone. -/
def keyD (E : ME) : DataW Unit := .map ((E.map fun e => ((Lit.string e.2.1.data.toList, DataW.nil) : Lit × DataW Unit)).foldr DataW.insert [])
theorem keyD_size (E : ME) : Maps.size (keyD E) = E.length := by
  show ((E.map fun e => ((Lit.string e.2.1.data.toList, DataW.nil) : Lit × DataW Unit)).foldr DataW.insert []).length = _
  rw [length_sorted, List.length_map]
theorem keyD_keys (E : ME) : (Go.strKeys (keyD E)).Perm (E.map fun e => e.2.1.data.toList) := by
  have h := (Go.WideShapes.sorted_perm (E.map fun e => ((Lit.string e.2.1.data.toList, DataW.nil) : Lit × DataW Unit))).map (fun p => Go.strOf p.1)
  simp only [List.map_map] at h
  exact h
theorem owns_keys {P : Program} {kt : TypeId} (hk : P.underlying kt = some .string) {E : ME} {b c : Nat} (hE : mnd E) (hS : Stp E c) (hs : ∀ e ∈ E, e.2.1.size ≤ maxLen) (hn : E.length ≤ maxLen) {w : World} (hb : w.heap[b]? = some (mpO E c)) : w.ownsMap P kt (fun _ => some (DataW.nil, [])) b E.length (keyD E) := by
  have hrd : ∀ e ∈ E, Go.WideElems.rd P kt (fun _ => some ((DataW.nil : DataW Unit), [])) (mE e) = some (Lit.string e.2.1.data.toList, DataW.nil) := fun e he => by
    simp [Go.WideElems.rd, mE, Go.WideMaps.keyOf_string_mk hk (hs e he)]
  refine ⟨(E.map mE).toArray, c, hb, ⟨by simpa using hn, ⟨fun x hx => ?_, ?_, ?_⟩, fun x hx => ?_⟩, by simp, ?_⟩
  · simp only [List.toList_toArray, List.mem_map] at hx
    obtain ⟨e, he, rfl⟩ := hx
    exact hS.lt e he
  · simp only [List.toList_toArray, List.map_map]
    exact hS.nd
  · simp only [List.toList_toArray, List.map_map]
    have : (E.map (fun e => e.2.1)).Nodup := hE
    have h2 := List.Pairwise.map (R := (· ≠ ·)) (S := (· ≠ ·)) (fun k : ByteArray => Value.string k) (fun a b hab h => hab (by injection h)) this
    simpa [List.map_map, Function.comp_def, mE, List.Nodup] using h2
  · simp only [List.toList_toArray, List.mem_map] at hx
    obtain ⟨e, he, rfl⟩ := hx
    exact ⟨_, hrd e he⟩
  · unfold keyD
    congr 2
    simp only [List.toList_toArray, List.map_map]
    refine List.map_congr_left fun e he => ?_
    simp [Go.WideElems.rg, hrd e he]
end Go.Proofs.YtcnjjefbnlgdjaaGreat.V

/- A small calculus of symbolic states, part 20: a nil slice of one's own. No program in sight. -/
namespace Go.Proofs.YtcnjjefbnlgdjaaGreat.V
open Go Go.RowKit
theorem CW.addOwn {P : Program} {n : Nat} {B : Base} {Q : Exit → Act → World → Prop} {ks : Ks} {sg : Sg} {e : Code} (t : TypeId) (h : CW P n B Q e ks (ownG t [] none :: sg)) : CW P n B Q e ks sg := CW.perm h (.refl _)
end Go.Proofs.YtcnjjefbnlgdjaaGreat.V

/- A small calculus of symbolic states, part 21: calls of function values; elements of one's own read and stored anew. No program in sight. -/
namespace Go.Proofs.YtcnjjefbnlgdjaaGreat.V
open Go Go.RowKit
set_option linter.unusedVariables false
theorem splice_mid : ∀ (cs p l r : List Value), l.length = cs.length → V.splice (p ++ (l ++ r)) p.length cs = p ++ (cs ++ r)
  | [], p, l, r, h => by
    have : l = [] := List.length_eq_zero_iff.1 (by simpa using h)
    subst this; simp [V.splice]
  | c :: cs, p, l, r, h => by
    cases l with
    | nil => simp at h
    | cons x l =>
      simp only [V.splice, List.cons_append, List.set_append_right _ _ (Nat.le_refl _), Nat.sub_self, List.set_cons_zero]
      have := splice_mid cs (p ++ [c]) l r (by simpa using h)
      simpa using this
theorem splice_flat {α : Type} {enc : α → List Value} {k : Nat} (hk : ∀ x, (enc x).length = k) (l : List α) (i : Nat) (x : α) (rest : List Value) (hi : i < l.length) :
    splice (l.flatMap enc ++ rest) (i * k) (enc x) = (l.set i x).flatMap enc ++ rest := by
  obtain ⟨p, y, q, rfl, hp⟩ : ∃ p y q, l = p ++ y :: q ∧ p.length = i := ⟨l.take i, l[i], l.drop (i + 1), by rw [← List.drop_eq_getElem_cons hi, List.take_append_drop], by simp; omega⟩
  subst hp
  have h1 : (p.flatMap enc).length = p.length * k := flatMap_len hk p
  have h2 := splice_mid (enc x) (p.flatMap enc) (enc y) (q.flatMap enc ++ rest) (by rw [hk, hk])
  rw [h1] at h2
  simp only [List.flatMap_append, List.flatMap_cons, List.append_assoc, List.set_append_right _ _ (Nat.le_refl _), Nat.sub_self, List.set_cons_zero]
  exact h2
section
variable {P : Program} {n : Nat} {B : Base} {ks : Ks} {sg : Sg} {d : Option Tmp} {ty : TypeId} {pos : String} {aft : Array Edge} {g : Option (Nat × Bool)}
theorem run_callF {f : FuncId} {x : Operand} {caps : List Value} {xs : List Operand} {vs : List Value} {ats : Array TypeId} {a : Act} (w : World) (ha : Fr n ks a) (hx : ev ks x = some (.func (.func f) #[] caps.toArray)) (hxs : evs ks xs = some vs) (hc : ∀ (args : Array Value) (w : World), (callFunc f args).run P w = .ok (.enter f args) w) :
    (execOp a.eval ⟨d, .call { callee := .value x, args := xs.toArray, argTypes := ats }, ty, pos, aft, g⟩).run P w = .ok (.enter f (vs ++ caps).toArray) w := by
  have hm := ha.evs hxs
  have h0 := ha.ev hx
  simp only [execOp, resolve, h0, Deferred.ofValue, Sem.run_bind, Sem.run_pure, Result.andThen_ok, invoke, List.map_toArray, hm]
  simp [hc]
theorem Eff.callF {α : Type} {φ : α → Prop} {v : α → Value} {sg' : α → Sg} {f : FuncId} {x : Operand} {caps : List Value} {xs : List Operand} {vs : List Value} {ats : Array TypeId} (hx : ev ks x = some (.func (.func f) #[] caps.toArray)) (hxs : evs ks xs = some vs) (hc : ∀ (args : Array Value) (w : World), (callFunc f args).run P w = .ok (.enter f args) w)
    (h : ∀ w, Hp B sg w → Calls P f (vs ++ caps).toArray w (fun e w' => ∃ x, φ x ∧ e = .returned (v x) ∧ Hp B (sg' x) w')) :
    Eff P n B ⟨d, .call { callee := .value x, args := xs.toArray, argTypes := ats }, ty, pos, aft, g⟩ ks sg φ v sg' := fun a w K Q ha hw hk => by
  unfold Oper.wp
  rw [run_callF w ha hx hxs hc]
  exact (h w hw).mono fun e w' ⟨x, hx, he, hw'⟩ => by subst he; exact hk x w' hx hw'
theorem Eff.callFR {α : Type} {φ : α → Prop} {v : α → Value} {f : FuncId} {x : Operand} {caps : List Value} {xs : List Operand} {vs : List Value} {ats : Array TypeId} (hx : ev ks x = some (.func (.func f) #[] caps.toArray)) (hxs : evs ks xs = some vs) (hc : ∀ (args : Array Value) (w : World), (callFunc f args).run P w = .ok (.enter f args) w)
    (h : ∀ w, Hp B sg w → Calls P f (vs ++ caps).toArray w (fun e w' => ∃ x, φ x ∧ e = .returned (v x) ∧ Below w.heap.size w w')) :
    Eff P n B ⟨d, .call { callee := .value x, args := xs.toArray, argTypes := ats }, ty, pos, aft, g⟩ ks sg φ v (fun _ => sg) :=
  Eff.callF hx hxs hc fun w hw => (h w hw).mono fun e w' ⟨x, hx, he, hb⟩ => ⟨x, hx, he, hw.call_ro hb⟩
theorem Eff.callFV {v : Value} {f : FuncId} {x : Operand} {caps : List Value} {xs : List Operand} {vs : List Value} {ats : Array TypeId} (hx : ev ks x = some (.func (.func f) #[] caps.toArray)) (hxs : evs ks xs = some vs) (hc : ∀ (args : Array Value) (w : World), (callFunc f args).run P w = .ok (.enter f args) w)
    (h : ∀ w, Hp B sg w → Calls P f (vs ++ caps).toArray w (fun e w' => e = .returned v ∧ Below w.heap.size w w')) :
    Eff P n B ⟨d, .call { callee := .value x, args := xs.toArray, argTypes := ats }, ty, pos, aft, g⟩ ks sg (α := Unit) (fun _ => True) (fun _ => v) (fun _ => sg) :=
  Eff.callF hx hxs hc fun w hw => (h w hw).mono fun e w' ⟨he, hb⟩ => ⟨(), trivial, he, hw.call_ro hb⟩
theorem Eff.callFM {α : Type} {φ : α → Prop} {v : α → Value} {so : α → Sg} {f : FuncId} {x : Operand} {caps : List Value} {xs : List Operand} {vs : List Value} {ats : Array TypeId} (ss : Sg) {r : Sg} (hp : Pick ss sg r) (hx : ev ks x = some (.func (.func f) #[] caps.toArray)) (hxs : evs ks xs = some vs) (hc : ∀ (args : Array Value) (w : World), (callFunc f args).run P w = .ok (.enter f args) w)
    (h : ∀ w, Hp B sg w → Sat ss w → Calls P f (vs ++ caps).toArray w (fun e w' => ∃ x, φ x ∧ e = .returned (v x) ∧ Hp ⟨w, ids ss⟩ (so x) w')) :
    Eff P n B ⟨d, .call { callee := .value x, args := xs.toArray, argTypes := ats }, ty, pos, aft, g⟩ ks sg φ v (fun x => so x ++ r) :=
  Eff.callF hx hxs hc fun w hw => (h w hw (hw.sat.pick hp)).mono fun e w' ⟨x, hx, he, hb⟩ => ⟨x, hx, he, hw.call hp hb⟩
theorem Qcall.ofF {v : Value} {f : FuncId} {x : Operand} {caps : List Value} {xs : List Operand} {vs : List Value} {ats : Array TypeId} (hx : ev ks x = some (.func (.func f) #[] caps.toArray)) (hxs : evs ks xs = some vs) (hc : ∀ (args : Array Value) (w : World), (callFunc f args).run P w = .ok (.enter f args) w)
    (h : ∀ w, Hp B sg w → Calls P f (vs ++ caps).toArray w (fun e w' => e = .returned v ∧ Below w.heap.size w w')) :
    Qcall P n B ⟨d, .call { callee := .value x, args := xs.toArray, argTypes := ats }, ty, pos, aft, g⟩ ks sg v := fun a w ha hw => ⟨f, (vs ++ caps).toArray, run_callF w ha hx hxs hc, h w hw⟩
/-- An element of one's own. -/
theorem Val.loadFl {α : Type} {enc : α → List Value} {sz : Nat} {t T : TypeId} {x : Operand} {b i : Nat} {fr : Nat × Nat} {l : List α} {rest : List Value} {y : α} (hx : ev ks x = some (.pointer (some ⟨b, 0 + i * sz, none⟩))) (hg : ∀ w, (isAgg t).run P w = .ok true w) (hm : InS (b, .cells (l.flatMap enc ++ rest).toArray T fr) sg)
    (hk : ∀ x, (enc x).length = sz) (hy : l[i]? = some y) (hs : ∀ w, (sizeOf t).run P w = .ok sz w) : Val P n B ⟨d, .load t x, ty, pos, aft, g⟩ ks sg (.agg (enc y).toArray) := by
  obtain ⟨r, hr⟩ := drop_flatMap hk l i y hy
  refine Val.loadA (enc y) (r := r ++ rest) hx hg hm ?_ (by rw [hk]; exact hs)
  have hi : i < l.length := (List.getElem?_eq_some_iff.1 hy).1
  have : i * sz ≤ (l.flatMap enc).length := by rw [flatMap_len hk]; exact Nat.mul_le_mul_right _ (by omega)
  rw [Nat.zero_add, List.drop_append_of_le_length this, hr, List.append_assoc]
theorem Eff.storeFl {α : Type} {enc : α → List Value} {sz : Nat} {t T : TypeId} {x z : Operand} {b i : Nat} {l : List α} {rest : List Value} {y : α} {sg' : Sg} (hx : ev ks x = some (.pointer (some ⟨b, 0 + i * sz, none⟩))) (hz : ev ks z = some (.agg (enc y).toArray))
    (hu : Upd b (.cells (l.flatMap enc ++ rest).toArray T (0, 0)) (.cells ((l.set i y).flatMap enc ++ rest).toArray T (0, 0)) sg sg') (hk : ∀ x, (enc x).length = sz) (hi : i < l.length) (hs : ∀ w, (sizeOf t).run P w = .ok sz w) (h1 : ∀ x, (enc x).all (·.oneCell') = true) :
    Eff P n B ⟨d, .store t x z, ty, pos, aft, g⟩ ks sg (α := Unit) (fun _ => True) (fun _ => undef) (fun _ => sg') := by
  have hle : i * sz + sz ≤ l.length * sz := by
    have := Nat.mul_le_mul_right sz (show i + 1 ≤ l.length by omega)
    rwa [Nat.add_mul, Nat.one_mul] at this
  refine Eff.storeA hx hz hu ?_ ?_ (by rw [hk]; exact hs) (h1 y)
  · rw [Nat.zero_add]; exact splice_flat hk l i y rest hi
  · rw [hk, Nat.zero_add, List.length_append, flatMap_len hk]; omega
end
end Go.Proofs.YtcnjjefbnlgdjaaGreat.V

/- A small calculus of symbolic states, part 22: slices of nil. No program in sight. -/
namespace Go.Proofs.YtcnjjefbnlgdjaaGreat.V
open Go Go.RowKit
set_option linter.unusedVariables false
section
variable {P : Program} {n : Nat} {B : Base} {ks : Ks} {sg : Sg} {d : Option Tmp} {ty : TypeId} {pos : String} {aft : Array Edge} {g : Option (Nat × Bool)}
theorem Val.sliceNil {t e sz : Nat} {x : Operand} {lo hi : Option Operand} (hx : ev ks x = some (.slice none 0 0)) (hu : P.underlying t = some (.slice e)) (hs : ∀ w, (sizeOf e).run P w = .ok sz w)
    (hlo : optI ks lo 0 0) (hhi : optI ks hi 0 0) : Val P n B ⟨d, .slice t x lo hi none, ty, pos, aft, g⟩ ks sg (.slice none 0 0) := fun a w ha hw => by
  have conv : ∀ {o : Option Operand}, optI ks o 0 0 → o.map a.eval = none ∨ ∃ k, o.map a.eval = some (.int k ((0 : Nat) : Int)) := fun {o} h => by
    cases o with
    | none => exact .inl rfl
    | some y => obtain ⟨k, hk⟩ := h; exact .inr ⟨k, by simp [ha.ev hk]⟩
  show (do pure (Next.value (← Instr.sliceAt t (a.eval x) (lo.map a.eval) (hi.map a.eval) ((none : Option Operand).map a.eval))) : Sem Next).run P w = _
  rw [ha.ev hx]
  refine run_value ?_
  rcases conv hlo with h1 | ⟨k1, h1⟩ <;> rcases conv hhi with h2 | ⟨k2, h2⟩ <;>
    simp [Instr.sliceAt, Instr.slice, Instr.sliceBounds, Instr.sliceBound, asIntOf, Sem.run_bind, run_underlying hu, hs, h1, h2]
theorem LW.perm {Q : Exit → Act → World → Prop} {ops : Array Oper} {l : List Oper} {sg' : Sg} (h : LW P n B ops Q l ks sg') (hp : sg.flatten.Perm sg'.flatten) : LW P n B ops Q l ks sg := fun a w ha hw => h a w ha (hw.perm hp)
end
end Go.Proofs.YtcnjjefbnlgdjaaGreat.V

/- Lists of cells: parts written over; devices. -/
namespace Go.Proofs.YtcnjjefbnlgdjaaGreat
open Go Go.RowKit V
set_option linter.unusedVariables false
set_option maxRecDepth 100000
open V (str byC ownV ownG ownS ownOk)
theorem mixed : Tryz.prog.follows .mixedOrders = true := by kernel_rfl
instance : Mix Tryz.prog := ⟨mixed⟩
theorem all_one {α : Type} {enc : α → List Value} (h : ∀ x, (enc x).all (·.oneCell') = true) (l : List α) : (l.flatMap enc).all (·.oneCell') = true := by
  induction l with
  | nil => rfl
  | cons y t ih => simp only [List.flatMap_cons, List.all_append, ih, Bool.and_true]; exact h y
theorem range_flat {α : Type} [Inhabited α] {enc : α → List Value} {sz : Nat} (hk : ∀ x, (enc x).length = sz) {l : List α} {b o : Nat} {w : World} (h : ∀ i x, l[i]? = some x → w.rangeAt b (o + i * sz) (enc x)) : w.rangeAt b o (l.flatMap enc) := fun j v hv => by
  have hj : j < l.length * sz := by rw [← V.flatMap_len hk]; exact (List.getElem?_eq_some_iff.1 hv).1
  rw [V.flatMap_get hk l hj] at hv
  have hs0 : 0 < sz := by rcases Nat.eq_zero_or_pos sz with e | e; (subst e; omega); exact e
  have hq : j / sz < l.length := (Nat.div_lt_iff_lt_mul hs0).2 hj
  have hx : l[j / sz]? = some l[j / sz]! := by rw [List.getElem?_eq_getElem hq, getElem!_pos l _ hq]
  have h1 := h _ _ hx (j % sz) v hv
  have := Nat.div_add_mod j sz
  rw [Nat.mul_comm] at this
  rw [show o + j = o + j / sz * sz + j % sz by omega]
  exact h1
theorem sl_range {α : Type} [Inhabited α] {enc : α → List Value} {sz : Nat} (hk : ∀ x, (enc x).length = sz) {l : List α} {p : Option Addr} {w0 : World} {F : List Nat} (h : V.slAt w0 p sz enc l) (hn : 0 < l.length) (hf : ∀ b o, p = some ⟨b, o, none⟩ → b ∉ F) : ∃ b o, p = some ⟨b, o, none⟩ ∧ ∀ {sg : Sg} (w : World), Hp ⟨w0, F⟩ sg w → w.rangeAt b o (l.flatMap enc) := by
  rcases h with h | ⟨b, o, hp, hb, hr⟩
  · rw [h] at hn; simp at hn
  · refine ⟨b, o, hp, fun {sg} w hw => range_flat hk fun i x hx => ?_⟩
    have h8 := hw.slAt (F := F) (.inr ⟨b, o, hp, hb, hr⟩ : V.slAt w0 p sz enc l) hf
    rcases h8 with h8 | ⟨b2, o2, hp2, _, hr2⟩
    · rw [h8] at hx; simp at hx
    · rw [hp] at hp2
      simp only [Option.some.injEq, Addr.mk.injEq] at hp2
      obtain ⟨rfl, rfl, _⟩ := hp2
      exact hr2 i x hx
theorem own_slg {α : Type} {enc : α → List Value} {sz e : Nat} (hk : ∀ x, (enc x).length = sz) (l : List α) (y : V.OwnO) (hy : ownOk sz l.length (l.flatMap enc) y) : ∃ (p : Option Addr) (c : Nat), ownV l.length y = .slice p l.length c ∧ (0 < sz → l.length ≤ c) ∧ ∀ {B : V.Base} {sg r : V.Sg} {w : World}, Hp B sg w → Pick [ownG e (l.flatMap enc) y] sg r → V.slAt w p sz enc l := by
  rcases y with _ | ⟨gb, rest, cap⟩
  · have hl0 : l.length = 0 := hy.2
    exact ⟨none, 0, by rw [hl0]; rfl, fun _ => by omega, fun _ _ => .inl (List.length_eq_zero_iff.1 hl0)⟩
  · refine ⟨some ⟨gb, 0, none⟩, cap, rfl, fun hs => ?_, fun hw hp => V.slAt_flat (hw.pick hp) hk rfl .here⟩
    have h1 := hy.1
    have h2 : (l.flatMap enc).length + rest.length = cap * sz := hy.2
    exact Nat.le_of_mul_le_mul_right (show l.length * sz ≤ cap * sz by omega) hs
theorem not_in {B : V.Base} {ss sg r : V.Sg} {w : World} {p : Nat × Obj} (hw : Hp B sg w) (hp : Pick ss sg r) (hm : InS p r) : p.1 ∉ V.ids ss := fun h => by
  have hnd := (hw.perm (sg' := ss ++ r) (by rw [List.flatten_append]; exact hp.perm')).nd
  rw [List.flatten_append, List.map_append] at hnd
  exact (List.nodup_append.1 hnd).2.2 _ h _ (List.mem_map.2 ⟨p, hm.mem, rfl⟩) rfl
/-- Blocks of the state that suffice. -/
theorem V.Hp.pk {B : V.Base} {ss sg r : V.Sg} {w : World} (h : Hp B sg w) (hp : Pick ss sg r := by repeat (first | exact .nil | apply Pick.cons | exact .here | apply Ext.there)) : Hp B ss w := h.pick hp
theorem V.Hp.at {B : V.Base} {sg : V.Sg} {w : World} {b : Nat} {o : Obj} (h : Hp B sg w) (hm : InS (b, o) sg := by repeat (first | exact .here | exact .inner .here | exact .inner (.inner .here) | refine .there ?_)) : w.heap[b]? = some o := h.own _ hm.mem
theorem splice_app : ∀ (cs p y : List Value) (o : Nat), V.splice (p ++ y) (p.length + o) cs = p ++ V.splice y o cs
  | [], p, y, o => rfl
  | v :: r, p, y, o => by
    show V.splice ((p ++ y).set (p.length + o) v) (p.length + o + 1) r = p ++ V.splice (y.set o v) (o + 1) r
    rw [List.set_append_right _ _ (Nat.le_add_right _ _), Nat.add_sub_cancel_left, Nat.add_assoc, splice_app r p]
theorem splice_left : ∀ (cs e r : List Value) (o : Nat), o + cs.length ≤ e.length → V.splice (e ++ r) o cs = V.splice e o cs ++ r
  | [], e, r, o, _ => rfl
  | v :: cs, e, r, o, h => by
    rw [List.length_cons] at h
    show V.splice ((e ++ r).set o v) (o + 1) cs = V.splice (e.set o v) (o + 1) cs ++ r
    rw [List.set_append_left _ _ (by omega), splice_left cs (e.set o v) r (o + 1) (by rw [List.length_set]; omega)]
theorem splice_cut : ∀ (cs l : List Value) (o : Nat), o + cs.length ≤ l.length → V.splice l o cs = l.take o ++ cs ++ l.drop (o + cs.length) := fun cs l o h => by
  have e : l = l.take o ++ (((l.drop o).take cs.length) ++ (l.drop o).drop cs.length) := by rw [List.take_append_drop, List.take_append_drop]
  have h1 : (l.take o).length = o := by rw [List.length_take]; omega
  have h2 := splice_app cs (l.take o) (((l.drop o).take cs.length) ++ (l.drop o).drop cs.length) 0
  rw [h1, ← e, Nat.add_zero] at h2
  have h3 := V.splice_mid cs [] ((l.drop o).take cs.length) ((l.drop o).drop cs.length) (by rw [List.length_take, List.length_drop]; omega)
  simp only [List.nil_append, List.length_nil] at h3
  rw [h2, h3, List.drop_drop, List.append_assoc]
/-- A part of an element written over. -/
theorem splice_in {α : Type} {enc : α → List Value} {k : Nat} (hk : ∀ x, (enc x).length = k) {l : List α} {i : Nat} {x y : α} (hx : l[i]? = some x) (o : Nat) (cs : List Value) (hc : V.splice (enc x) o cs = enc y) (ho : o + cs.length ≤ k) (r : List Value := []) : V.splice (l.flatMap enc ++ r) (i * k + o) cs = (l.set i y).flatMap enc ++ r := by
  have hi := (List.getElem?_eq_some_iff.1 hx).1
  have e1 : l = l.take i ++ x :: l.drop (i + 1) := by
    have h := List.take_append_drop i l
    rw [List.drop_eq_getElem_cons hi, (List.getElem?_eq_some_iff.1 hx).2] at h
    exact h.symm
  have hP : ((l.take i).flatMap enc).length = i * k := by rw [V.flatMap_len hk, List.length_take, Nat.min_eq_left (Nat.le_of_lt hi)]
  have e2 : l.flatMap enc ++ r = (l.take i).flatMap enc ++ (enc x ++ ((l.drop (i + 1)).flatMap enc ++ r)) := by
    conv => lhs; rw [e1]
    simp
  have e3 : (l.set i y).flatMap enc ++ r = (l.take i).flatMap enc ++ (enc y ++ ((l.drop (i + 1)).flatMap enc ++ r)) := by
    rw [List.set_eq_take_append_cons_drop, if_pos hi]
    simp
  rw [e2, e3, ← hP, splice_app, splice_left _ _ _ _ (by rw [hk]; exact ho), hc]
theorem set_splice (l : List Value) (o : Nat) (v : Value) : l.set o v = V.splice l o [v] := rfl
/-! ### A line's copies -/
abbrev B64 := {l : List UInt8 // l.length = 64}
structure Ce where
  now : B64
  kept : B64
  way : B64
  sent : Bool
def z64 : B64 := ⟨List.replicate 64 0, by simp⟩
instance : Inhabited Ce := ⟨⟨z64, z64, z64, false⟩⟩
def ce0 : Ce := ⟨z64, z64, z64, false⟩
def ceC (c : Ce) : List Value := byC c.now.1 ++ (byC c.kept.1 ++ (byC c.way.1 ++ [.bool c.sent]))
theorem byC64 (b : B64) : (byC b.1).length = 64 := by rw [V.byC_len, b.2]
theorem ceC_len (c : Ce) : (ceC c).length = 193 := by unfold ceC; simp only [List.length_append, byC64, List.length_cons, List.length_nil]
theorem ceC_one (c : Ce) : (ceC c).all (·.oneCell') = true := by unfold ceC; simp only [List.all_append, V.byC_one, Bool.true_and]; rfl
theorem ce_now (c : Ce) (b : B64) : V.splice (ceC c) 0 (byC b.1) = ceC { c with now := b } := by
  have h := V.splice_mid (byC b.1) [] (byC c.now.1) (byC c.kept.1 ++ (byC c.way.1 ++ [.bool c.sent])) (by rw [byC64, byC64])
  simpa [ceC] using h
theorem ce_kept (c : Ce) (b : B64) : V.splice (ceC c) 64 (byC b.1) = ceC { c with kept := b } := by
  have h := V.splice_mid (byC b.1) (byC c.now.1) (byC c.kept.1) (byC c.way.1 ++ [.bool c.sent]) (by rw [byC64, byC64])
  rw [byC64] at h
  exact h
theorem ce_way (c : Ce) (b : B64) : V.splice (ceC c) 128 (byC b.1) = ceC { c with way := b } := by
  have h := V.splice_mid (byC b.1) (byC c.now.1 ++ byC c.kept.1) (byC c.way.1) [.bool c.sent] (by rw [byC64, byC64])
  rw [List.length_append, byC64, byC64, List.append_assoc] at h
  rw [show ceC c = byC c.now.1 ++ (byC c.kept.1 ++ (byC c.way.1 ++ [.bool c.sent])) from rfl, h]
  simp [ceC]
theorem ce_sent (c : Ce) (b : Bool) : V.splice (ceC c) 192 [.bool b] = ceC { c with sent := b } := by
  have h := V.splice_mid [.bool b] (byC c.now.1 ++ (byC c.kept.1 ++ byC c.way.1)) [.bool c.sent] [] rfl
  simp only [List.length_append, byC64, List.append_assoc, List.append_nil] at h
  exact h
theorem ce_at0 (c : Ce) : ceC c = byC c.now.1 ++ (byC c.kept.1 ++ (byC c.way.1 ++ [.bool c.sent])) := rfl
theorem ce_at64 (c : Ce) : (ceC c).drop 64 = byC c.kept.1 ++ (byC c.way.1 ++ [.bool c.sent]) := by rw [ce_at0]; exact List.drop_left' (byC64 _)
theorem ce_at128 (c : Ce) : (ceC c).drop 128 = byC c.way.1 ++ [.bool c.sent] := by rw [show 128 = 64 + 64 from rfl, ← List.drop_drop, ce_at64]; exact List.drop_left' (byC64 _)
theorem ce_at192 (c : Ce) : (ceC c).drop 192 = [.bool c.sent] := by rw [show 192 = 128 + 64 from rfl, ← List.drop_drop, ce_at128]; exact List.drop_left' (byC64 _)
/-- An element's cells from a place on, among those of all. -/
theorem flat_at {α : Type} {enc : α → List Value} {k : Nat} (hk : ∀ x, (enc x).length = k) {l : List α} {i : Nat} {x : α} (hx : l[i]? = some x) {o : Nat} (ho : o ≤ k) {cs r : List Value} (h : (enc x).drop o = cs ++ r) : ∃ r2, (l.flatMap enc).drop (i * k + o) = cs ++ r2 := by
  obtain ⟨r1, h1⟩ := V.drop_flatMap hk l i x hx
  refine ⟨r ++ r1, ?_⟩
  rw [← List.drop_drop, h1, List.drop_append_of_le_length (by rw [hk]; exact ho), h, List.append_assoc]
/-- How often a device was asked. -/
structure Cnt where
  a : Int
  b : Int
  c : Int
  d : Int
  e : Int
def ctC (k : Cnt) : List Value := [.int .i64 k.a, .int .i64 k.b, .int .i64 k.c, .int .i64 k.d, .int .i64 k.e]
def dvC (cb : Nat) (D : List Ce) (k : Cnt) : List Value := .slice (some ⟨cb, 0, none⟩) D.length D.length :: ctC k
/-- A device's two blocks. -/
abbrev devS (db cb : Nat) (D : List Ce) (k : Cnt) : Sg := [[(db, .cells (dvC cb D k).toArray 96 (0, 0))], [(cb, .cells (D.flatMap ceC).toArray 87 (0, 0))]]
def byE (u : UInt8) : List Value := [.int .u8 (u.toNat : Nat)]
theorem byE_len (u : UInt8) : (byE u).length = 1 := rfl
theorem byE_one (u : UInt8) : (byE u).all (·.oneCell') = true := rfl
theorem byC_flat (l : List UInt8) : byC l = l.flatMap byE := by
  induction l with
  | nil => rfl
  | cons a r ih => rw [List.flatMap_cons, ← ih]; rfl
theorem dev_at {w : World} {cb : Nat} {D : List Ce} {i : Nat} {c : Ce} (hx : D[i]? = some c) (hb : w.heap[cb]? = some (.cells (D.flatMap ceC).toArray 87 (0, 0))) {o : Nat} (ho : o ≤ 193) {b : B64} {r : List Value} (h : (ceC c).drop o = byC b.1 ++ r) : V.slAt w (some ⟨cb, i * 193 + o, none⟩) 1 byE b.1 := by
  obtain ⟨r2, h2⟩ := flat_at ceC_len hx ho h
  refine .inr ⟨cb, i * 193 + o, rfl, V.lt_of_some hb, fun j x hj => ?_⟩
  have h3 : w.rangeAt cb (i * 193 + o) (byC b.1) := V.range_of_block hb h2
  intro m v hv
  have hm : m = 0 := by have := (List.getElem?_eq_some_iff.1 hv).1; simp [byE] at this; exact this
  subst hm
  have h4 := h3 j v (by rw [byC_flat, ← Nat.mul_one j]; obtain ⟨r3, h5⟩ := V.drop_flatMap byE_len b.1 j x hj; have h6 := congrArg (fun l => l[0]?) h5; simp only [List.getElem?_drop, Nat.add_zero] at h6; rw [h6]; simp [byE] at hv ⊢; exact hv)
  rw [Nat.mul_one, Nat.add_zero]
  exact h4
end Go.Proofs.YtcnjjefbnlgdjaaGreat

/- A device: made, asked, stored to, flushed, fenced. -/
namespace Go.Proofs.YtcnjjefbnlgdjaaGreat
open Go Go.RowKit V
set_option linter.unusedVariables false
set_option maxRecDepth 100000
theorem places96 : ∀ w, ((Array.mapM (fun (f : Field) => do pure (f.offset, ← sizeOf f.type)) (Tryz.prog.fieldsOf 96) : Sem (Array (Nat × Nat)))).run Tryz.prog w = .ok [(0, 1), (1, 5)].toArray w := by
  intro w; kernel_rfl
instance : Und Tryz.prog 2 (dOf Tryz.underlying2) := ⟨Tryz.underlying2⟩
instance : Siz Tryz.prog 2 (kOf Tryz.sizeOf2) := ⟨Tryz.sizeOf2⟩
instance : AgF Tryz.prog 2 := ⟨Tryz.isAgg2⟩
instance : Zer Tryz.prog 2 (zOf Tryz.zeroValue2) := ⟨Tryz.zeroValue2⟩
instance : Und Tryz.prog 3 (dOf Tryz.underlying3) := ⟨Tryz.underlying3⟩
instance : Siz Tryz.prog 3 (kOf Tryz.sizeOf3) := ⟨Tryz.sizeOf3⟩
instance : AgF Tryz.prog 3 := ⟨Tryz.isAgg3⟩
instance : Zer Tryz.prog 3 (zOf Tryz.zeroValue3) := ⟨Tryz.zeroValue3⟩
instance : Und Tryz.prog 4 (dOf Tryz.underlying4) := ⟨Tryz.underlying4⟩
instance : Siz Tryz.prog 4 (kOf Tryz.sizeOf4) := ⟨Tryz.sizeOf4⟩
instance : AgF Tryz.prog 4 := ⟨Tryz.isAgg4⟩
instance : Zer Tryz.prog 4 (zOf Tryz.zeroValue4) := ⟨Tryz.zeroValue4⟩
instance : Und Tryz.prog 5 (dOf Tryz.underlying5) := ⟨Tryz.underlying5⟩
instance : Siz Tryz.prog 5 (kOf Tryz.sizeOf5) := ⟨Tryz.sizeOf5⟩
instance : AgF Tryz.prog 5 := ⟨Tryz.isAgg5⟩
instance : Zer Tryz.prog 5 (zOf Tryz.zeroValue5) := ⟨Tryz.zeroValue5⟩
instance : Und Tryz.prog 26 (dOf Tryz.underlying26) := ⟨Tryz.underlying26⟩
instance : Siz Tryz.prog 26 (kOf Tryz.sizeOf26) := ⟨Tryz.sizeOf26⟩
instance : AgF Tryz.prog 26 := ⟨Tryz.isAgg26⟩
instance : Zer Tryz.prog 26 (zOf Tryz.zeroValue26) := ⟨Tryz.zeroValue26⟩
instance : Und Tryz.prog 35 (dOf Tryz.underlying35) := ⟨Tryz.underlying35⟩
instance : Siz Tryz.prog 35 (kOf Tryz.sizeOf35) := ⟨Tryz.sizeOf35⟩
instance : AgF Tryz.prog 35 := ⟨Tryz.isAgg35⟩
instance : Zer Tryz.prog 35 (zOf Tryz.zeroValue35) := ⟨Tryz.zeroValue35⟩
instance : Und Tryz.prog 36 (dOf Tryz.underlying36) := ⟨Tryz.underlying36⟩
instance : Siz Tryz.prog 36 (kOf Tryz.sizeOf36) := ⟨Tryz.sizeOf36⟩
instance : AgF Tryz.prog 36 := ⟨Tryz.isAgg36⟩
instance : Zer Tryz.prog 36 (zOf Tryz.zeroValue36) := ⟨Tryz.zeroValue36⟩
instance : Und Tryz.prog 82 (dOf Tryz.underlying82) := ⟨Tryz.underlying82⟩
instance : Siz Tryz.prog 82 (kOf Tryz.sizeOf82) := ⟨Tryz.sizeOf82⟩
instance : AgF Tryz.prog 82 := ⟨Tryz.isAgg82⟩
instance : Zer Tryz.prog 82 (zOf Tryz.zeroValue82) := ⟨Tryz.zeroValue82⟩
instance : Und Tryz.prog 85 (dOf Tryz.underlying85) := ⟨Tryz.underlying85⟩
instance : Siz Tryz.prog 85 (kOf Tryz.sizeOf85) := ⟨Tryz.sizeOf85⟩
instance : AgT Tryz.prog 85 := ⟨Tryz.isAgg85⟩
instance : Zer Tryz.prog 85 (zOf Tryz.zeroValue85) := ⟨Tryz.zeroValue85⟩
instance : Und Tryz.prog 87 (dOf Tryz.underlying87) := ⟨Tryz.underlying87⟩
instance : Siz Tryz.prog 87 (kOf Tryz.sizeOf87) := ⟨Tryz.sizeOf87⟩
instance : AgT Tryz.prog 87 := ⟨Tryz.isAgg87⟩
instance : Zer Tryz.prog 87 (zOf Tryz.zeroValue87) := ⟨Tryz.zeroValue87⟩
instance : Und Tryz.prog 89 (dOf Tryz.underlying89) := ⟨Tryz.underlying89⟩
instance : Siz Tryz.prog 89 (kOf Tryz.sizeOf89) := ⟨Tryz.sizeOf89⟩
instance : AgT Tryz.prog 89 := ⟨Tryz.isAgg89⟩
instance : Zer Tryz.prog 89 (zOf Tryz.zeroValue89) := ⟨Tryz.zeroValue89⟩
instance : Und Tryz.prog 90 (dOf Tryz.underlying90) := ⟨Tryz.underlying90⟩
instance : Siz Tryz.prog 90 (kOf Tryz.sizeOf90) := ⟨Tryz.sizeOf90⟩
instance : AgT Tryz.prog 90 := ⟨Tryz.isAgg90⟩
instance : Zer Tryz.prog 90 (zOf Tryz.zeroValue90) := ⟨Tryz.zeroValue90⟩
instance : Und Tryz.prog 92 (dOf Tryz.underlying92) := ⟨Tryz.underlying92⟩
instance : Siz Tryz.prog 92 (kOf Tryz.sizeOf92) := ⟨Tryz.sizeOf92⟩
instance : AgT Tryz.prog 92 := ⟨Tryz.isAgg92⟩
instance : Zer Tryz.prog 92 (zOf Tryz.zeroValue92) := ⟨Tryz.zeroValue92⟩
instance : Und Tryz.prog 94 (dOf Tryz.underlying94) := ⟨Tryz.underlying94⟩
instance : Siz Tryz.prog 94 (kOf Tryz.sizeOf94) := ⟨Tryz.sizeOf94⟩
instance : AgT Tryz.prog 94 := ⟨Tryz.isAgg94⟩
instance : Zer Tryz.prog 94 (zOf Tryz.zeroValue94) := ⟨Tryz.zeroValue94⟩
instance : Und Tryz.prog 96 (dOf Tryz.underlying96) := ⟨Tryz.underlying96⟩
instance : Siz Tryz.prog 96 (kOf Tryz.sizeOf96) := ⟨Tryz.sizeOf96⟩
instance : AgT Tryz.prog 96 := ⟨Tryz.isAgg96⟩
instance : Zer Tryz.prog 96 (zOf Tryz.zeroValue96) := ⟨Tryz.zeroValue96⟩
instance : Plc Tryz.prog 96 (fOf Tryz.underlying96) (lOf (P := Tryz.prog) places96) := ⟨places96, Tryz.underlying96⟩
instance : Cal Tryz.prog 41 := ⟨Tryz.call41⟩
instance : Cal Tryz.prog 42 := ⟨Tryz.call42⟩
instance : Cal Tryz.prog 48 := ⟨Tryz.call48⟩
open V (str byC ownV ownG ownS ownOk)
theorem x_addI {a : Addr} {x y : Int} {w : World} (hc : w.cell? a = some (.int .i64 x)) (hz : w.frozen? a = false) : (callFunc 75 #[.pointer (some a), .int .i64 y]).run Tryz.prog w = .ok (.value (.int .i64 (IntKind.i64.wrap (x + y)))) (w.setCell a (.int .i64 (IntKind.i64.wrap (x + y)))) := run_call_add Tryz.func75 (by kernel_rfl) (by kernel_rfl) (by kernel_rfl) .i64 (by kernel_rfl) hc hz rfl
theorem addI_c (b o : Nat) (l : List Value) (T : Nat) (x y : Int) (w : World) (hl : l[o]? = some (.int .i64 x)) (hs : Sat [[(b, .cells l.toArray T (0, 0))]] w) : Calls Tryz.prog 48 [.pointer (some ⟨b, o, none⟩), .int .i64 y].toArray w fun e w' => ∃ _u : Unit, True ∧ e = .returned (.int .i64 (IntKind.i64.wrap (x + y))) ∧ Hp ⟨w, V.ids [[(b, .cells l.toArray T (0, 0))]]⟩ [[(b, .cells (l.set o (.int .i64 (IntKind.i64.wrap (x + y)))).toArray T (0, 0))]] w' := by
  refine V.calls [[(b, .cells l.toArray T (0, 0))]] Tryz.func48 rfl Tryz.ntmps48 (Nat.le_of_ble_eq_true rfl) hs <| Sq <| Rg <| Lv Av <| Nl <| Ps <| Sq <| Rg <| Lv Mv <| Lv Nz <| Lv (Fa 0 2) <| LW.re 7 (.pointer (some ⟨b, o, none⟩)) rfl rfl <| Lv Mv <| Le (Eff.ext (l' := l.set o (.int .i64 (IntKind.i64.wrap (x + y)))) rfl .here rfl (fun w hb => x_addI (V.cell_of_block hb (by exact hl)) (V.frozen_of hb))) fun _ _ => Lv Av <| Nl <| Ps <| Rt <| Rt1 ?_
  intro w' hw; exact ⟨(), trivial, rfl, hw⟩
theorem lines_c (db cb : Nat) (D : List Ce) (k : Cnt) (w : World) (hB : w.heap[db]? = some (.cells (dvC cb D k).toArray 96 (0, 0))) : Calls Tryz.prog 59 [.pointer (some ⟨db, 0, none⟩)].toArray w fun e w' => e = .returned (.int .i64 (D.length : Nat)) ∧ Below w.heap.size w w' := by
  refine V.calls [] Tryz.func59 rfl Tryz.ntmps59 (Nat.le_of_ble_eq_true rfl) (V.sat_nil _) <| Sq <| Rg <| Lv Av <| Nl <| Ps <| Sq <| Sq <| Rg <| Lv Mv <| Lv EP <| Nl <| Ps <| Cf <| Sk <| Ps <| Sq <| Rg <| Lv Mv <| Lv Nz <| Lv (Fa 0 82) <| Lv (Val.loadO rfl Tryz.isAgg82 (V.lt_of_some hB) (by simp [ids]) (V.cell_of_block hB rfl)) <| Lv Ln <| Lv Av <| Nl <| Ps <| Rt <| Rt1 ?_
  intro w hw; exact ⟨rfl, hw.below⟩
/-- Is there such a line, and as many of its bytes? -/
def thB (L : Nat) (line at_ : Int) (n : Nat) : Bool := decide (0 ≤ line ∧ line < L ∧ 0 ≤ at_ ∧ at_ ≤ 64 - n)
theorem there_c (db cb : Nat) (D : List Ce) (k : Cnt) (line at_ : Int) (n : Nat) (hn : n ≤ 100000) (w : World) (hB : w.heap[db]? = some (.cells (dvC cb D k).toArray 96 (0, 0))) : Calls Tryz.prog 41 [.pointer (some ⟨db, 0, none⟩), .int .i64 line, .int .i64 at_, .int .i64 (n : Nat)].toArray w fun e w' => e = .returned (.int .i64 (if thB D.length line at_ n = true then 0 else 2)) ∧ Below w.heap.size w w' := by
  refine V.calls [] Tryz.func41 rfl Tryz.ntmps41 (Nat.le_of_ble_eq_true rfl) (V.sat_nil _) <| Sq <| Rg <| Lv Av <| Nl <| Ps <| Sq <| Sq <| Rg <| Lv Mv <| Lv EP <| Nl <| Ps <| Cf <| Sk <| Ps <| Sq <| Sq <| Rg <| Lv Mv <| Lv Cm <| Lv Mv ?_
  refine LW.split (d := 13) rfl (fun h13 => ?_) (fun h13 => ?_)
  · replace h13 := bT h13
    refine Lp <| Lp <| Lp <| Lp <| Lp <| Lp <| Lp <| Lv Pt <| Lv Mv <| Lp <| Lp <| Lv Pt <| Lv Mv <| Lp <| Lp <| Lp <| Lp <| Lv Pt <| Nl <| Ps <| Ct <| Sq <| Rg <| Lv Av <| Nl <| Ps <| Rt <| Tr <| Rt1 ?_
    intro w' hw; exact ⟨by unfold thB; rw [if_neg]; simp; omega, hw.below⟩
  · replace h13 := bF h13
    refine Lv Mv <| Lv Mv <| Lv Nz <| Lv (Fa 0 82) <| Lv (Val.loadO rfl Tryz.isAgg82 (V.lt_of_some hB) (by simp [ids]) (V.cell_of_block hB rfl)) <| Lv Ln <| Lv Cm <| Lv Pf <| Lv Mv ?_
    refine LW.split (d := 22) rfl (fun h22 => ?_) (fun h22 => ?_)
    · replace h22 := bT h22
      refine Lp <| Lp <| Lv Pt <| Lv Mv <| Lp <| Lp <| Lp <| Lp <| Lv Pt <| Nl <| Ps <| Ct <| Sq <| Rg <| Lv Av <| Nl <| Ps <| Rt <| Tr <| Rt1 ?_
      intro w' hw; exact ⟨by unfold thB; rw [if_neg]; simp; omega, hw.below⟩
    · replace h22 := bF h22
      refine Lv Mv <| Lv Cm <| Lv Pf <| Lv Mv ?_
      refine LW.split (d := 26) rfl (fun h26 => ?_) (fun h26 => ?_)
      · replace h26 := bT h26
        refine Lp <| Lp <| Lp <| Lp <| Lv Pt <| Nl <| Ps <| Ct <| Sq <| Rg <| Lv Av <| Nl <| Ps <| Rt <| Tr <| Rt1 ?_
        intro w' hw; exact ⟨by unfold thB; rw [if_neg]; simp; omega, hw.below⟩
      · replace h26 := bF h26
        refine Lv Mv <| Lv Mv <| Lv Ar <| Lv Cm <| Lv Pf <| Nl <| Ps ?_
        refine CW.cond rfl (fun h31 => ?_) (fun h31 => ?_)
        · replace h31 := bT h31
          refine Sq <| Rg <| Lv Av <| Nl <| Ps <| Rt <| Tr <| Rt1 ?_
          intro w' hw; exact ⟨by unfold thB; rw [if_neg]; simp; omega, hw.below⟩
        · replace h31 := bF h31
          refine Sk <| Ps <| Sq <| Rg <| Lv Av <| Nl <| Ps <| Rt <| Rt1 ?_
          intro w' hw; exact ⟨by unfold thB; rw [if_pos]; simp; omega, hw.below⟩
theorem th_ok {L : Nat} {i n : Nat} {at_ : Nat} (h : i < L) (h2 : at_ + n ≤ 64) : thB L (i : Nat) (at_ : Nat) n = true := by unfold thB; simp; omega
theorem ce_rep (n : Nat) : V.repL (ceC ce0) n = (List.replicate n ce0).flatMap ceC := by
  induction n with
  | zero => rfl
  | succ n ih => rw [List.replicate_succ, List.flatMap_cons, V.repL, ih]
def ct0 : Cnt := ⟨0, 0, 0, 0, 0⟩
theorem newDev_c (n : Nat) (h1 : 1 ≤ n) (h2 : n ≤ 258) (w : World) : Calls Tryz.prog 30 [.int .i64 (n : Nat)].toArray w fun e w' => ∃ p : Nat × Nat, True ∧ e = .returned (.tuple #[.pointer (some ⟨p.1, 0, none⟩), .int .i64 0]) ∧ Hp ⟨w, []⟩ (devS p.1 p.2 (List.replicate n ce0) ct0) w' := by
  refine V.calls [] Tryz.func30 rfl Tryz.ntmps30 (Nat.le_of_ble_eq_true rfl) (V.sat_nil _) <| Sq <| Rg <| Lv Av <| Lv Av <| Nl <| Ps <| Sq <| Sq <| Rg <| Lv Mv <| Lv Cm <| LW.re 5 (.bool false) rfl (by congr 1; simp; omega) <| Lv Mv <| Lv Mv <| Lv Cm <| LW.re 8 (.bool false) rfl (by congr 1; simp; omega) <| Lv Pf <| Nl <| Ps <| Cf <| Sk <| Ps <| Sq <| Rg <| Lv Mv <| Le (Eff.makeSlice (m := n) (by_ := 193) (zl := ceC ce0) rfl rfl Tryz.underlying82 (by kernel_rfl) Tryz.sizeOf87 (by exact Tryz.zeroValue87) (by kernel_rfl) (ceC_len _) (by omega) (by omega) (by omega)) fun b11 _ => ?_
  rw [ce_rep]
  refine Lv (Val.build (.slice (some ⟨b11, 0, none⟩) n n :: ctC ct0) Tryz.zeroValue96 Tryz.underlying96 places96 rfl (by rfl)) <| Le XA fun b13 _ => Lv Av <| Lv Av <| Nl <| Ps <| Rt <| Rt2 ?_
  have hl : (List.replicate n ce0).length = n := List.length_replicate
  intro w' hw
  exact ⟨(b13, b11), trivial, rfl, by unfold devS dvC; rw [hl]; exact hw⟩
theorem cloneB_c (l : List UInt8) (p : Option Addr) (n c : Nat) (hn : n = l.length) (hl : l.length ≤ 100000) (w : World) (h : V.slAt w p 1 byE l) : Calls Tryz.prog 42 [.slice p n c].toArray w fun e w' => ∃ o : V.OwnO, ownOk 1 l.length (l.flatMap byE) o ∧ e = .returned (ownV l.length o) ∧ Hp ⟨w, []⟩ [ownG 5 (l.flatMap byE) o] w' := by
  subst hn
  refine V.calls [] Tryz.func42 rfl Tryz.ntmps42 (Nat.le_of_ble_eq_true rfl) (V.sat_nil _) <| Sq <| Rg <| Lv Av <| Nl <| Ps <| Sq <| Sq <| Rg <| Lv Mv <| Lv (Val.eqSlNil rfl rfl Tryz.underlying35) <| Nl <| Ps ?_
  refine CW.cond rfl (fun h4 => ?_) (fun h4 => ?_)
  · replace h4 := bT h4
    have hpn : p = none := by cases p with | none => rfl | some q => simp at h4
    obtain rfl : l = [] := by
      rcases h with h | ⟨b, o, h, _⟩
      · exact h
      · rw [hpn] at h; cases h
    refine Sq <| Rg <| Lv Av <| Nl <| Ps <| Rt <| Tr <| Rt1 ?_
    intro w' hw; exact ⟨none, ⟨rfl, rfl⟩, rfl, hw.perm (.refl _)⟩
  · replace h4 := bF h4
    refine Sk <| Ps <| Sq <| Rg <| Le (Eff.buildSlice0 Tryz.underlying35 Tryz.sizeOf5) fun b5 _ => Lv Mv <| Le (Eff.appendAny (l.flatMap byE) (sz := 1) (bytes := 1) (z := .int .u8 0) (xs := []) (m0 := 0) (o := some (b5, [], 0)) (m := l.length) (pk := [ownG 5 [] (some (b5, [], 0))]) rfl rfl Tryz.underlying35 (by kernel_rfl) rfl (by omega) (by repeat (first | exact .nil | apply Pick.cons | exact .here | apply Ext.there)) (by simp) ⟨rfl, rfl⟩ (V.flatMap_len byE_len _) (fun hm0 => by obtain ⟨b8, o8, h8, h9⟩ := sl_range (F := []) byE_len h hm0 (by simp); exact ⟨b8, o8, h8, fun w hw => h9 w hw⟩) (all_one byE_one _) (by omega) (by omega)) fun o2 ho2 => ?_
    have h2 : ownOk 1 l.length (l.flatMap byE) o2 := by simpa using ho2
    rw [List.nil_append, Nat.zero_add]
    refine Lv Av <| Nl <| Ps <| Rt <| Rt1 ?_
    intro w' hw; exact ⟨o2, h2, rfl, hw.pick (by repeat (first | exact .nil | apply Pick.cons | exact .here | apply Ext.there))⟩
theorem devB {db cb : Nat} {D : List Ce} {k : Cnt} {w : World} (hs : Sat (devS db cb D k) w) : w.heap[db]? = some (.cells (dvC cb D k).toArray 96 (0, 0)) ∧ w.heap[cb]? = some (.cells (D.flatMap ceC).toArray 87 (0, 0)) := ⟨hs.own (db, .cells (dvC cb D k).toArray 96 (0, 0)) (by simp), hs.own (cb, .cells (D.flatMap ceC).toArray 87 (0, 0)) (by simp)⟩
theorem load_c (db cb : Nat) (D : List Ce) (k : Cnt) (i : Nat) (c : Ce) (hc : D[i]? = some c) (w : World) (hs : Sat (devS db cb D k) w) : Calls Tryz.prog 12 [.pointer (some ⟨db, 0, none⟩), .int .i64 (i : Nat)].toArray w fun e w' => ∃ o : V.OwnO, ownOk 1 64 (c.now.1.flatMap byE) o ∧ e = .returned (.tuple #[ownV 64 o, .int .i64 0]) ∧ Hp ⟨w, []⟩ [ownG 5 (c.now.1.flatMap byE) o] w' := by
  obtain ⟨hB, hC⟩ := devB hs
  have hi := (List.getElem?_eq_some_iff.1 hc).1
  refine V.calls [] Tryz.func12 rfl Tryz.ntmps12 (Nat.le_of_ble_eq_true rfl) (V.sat_nil _) <| Sq <| Rg <| Lv Av <| Lv Av <| Nl <| Ps <| Sq <| Sq <| Rg <| Lv Mv <| Lv Mv <| Le (CV fun w hw => there_c db cb D k (i : Nat) ((0 : Nat) : Int) 0 (by omega) w ((hw.old db (V.lt_of_some hB) (by simp [ids])).trans hB)) fun _ _ => LW.re 9 (.int .i64 0) rfl (by rw [if_pos (th_ok hi (by omega))]) <| Lv Av <| Nl <| Ps <| Sq <| Rg <| Lv Mv <| Lv Cm <| LW.re 11 (.bool false) rfl (by rfl) <| Nl <| Ps <| Cf <| Sk <| Ps <| Sq <| Rg <| Lv Mv <| Lv Nz <| Lv (Fa 0 82) <| Lv (Val.loadO rfl Tryz.isAgg82 (V.lt_of_some hB) (by simp [ids]) (V.cell_of_block hB rfl)) <| Lv Mv <| Lv (Val.indexAddrN rfl rfl Tryz.underlying82 Tryz.sizeOf87 hi) <| Lv (Fa 0 85) <| Lv (Val.sliceArr 0 64 rfl Tryz.underlying85 Tryz.sizeOf5 rfl rfl (by omega) (by omega)) <| LW.re 20 (.slice (some ⟨cb, i * 193 + 0, none⟩) 64 64) rfl (by simp) <| Le (CM [] fun w hw hs0 => cloneB_c c.now.1 _ 64 64 c.now.2.symm (by have := c.now.2; omega) w (hw.slAt (dev_at hc hC (o := 0) (by omega) (ce_at0 c)) (by simp [ids]))) fun o ho => ?_
  rw [c.now.2] at ho ⊢
  refine Lv Av <| Lv Av <| Nl <| Ps <| Rt <| Rt2 ?_
  intro w' hw; exact ⟨o, ho, rfl, hw.pick (by repeat (first | exact .nil | apply Pick.cons | exact .here | apply Ext.there))⟩
/-- Bytes laid into a line's copy. -/
def putB (b : B64) (at_ : Nat) (l : List UInt8) (h : at_ + l.length ≤ 64) : B64 := ⟨b.1.take at_ ++ l ++ b.1.drop (at_ + l.length), by simp only [List.length_append, List.length_take, List.length_drop, b.2]; omega⟩
theorem putB_c (b : B64) (at_ : Nat) (l : List UInt8) (h : at_ + l.length ≤ 64) : V.splice (byC b.1) at_ (byC l) = byC (putB b at_ l h).1 := by
  rw [splice_cut _ _ _ (by rw [V.byC_len, V.byC_len, b.2]; exact h)]
  unfold putB
  simp only [V.byC_append, V.byC_len]
  congr 1
  · congr 1; exact (List.map_take ..).symm
  · exact (List.map_drop ..).symm
theorem ce_put (c : Ce) (at_ : Nat) (l : List UInt8) (h : at_ + l.length ≤ 64) : V.splice (ceC c) at_ (byC l) = ceC { c with now := putB c.now at_ l h } := by
  rw [ce_at0, splice_left _ _ _ _ (by rw [V.byC_len, byC64]; exact h), putB_c _ _ _ h]
  rfl
theorem store_c (db cb : Nat) (D : List Ce) (k : Cnt) (i at_ : Nat) (bs : List UInt8) (c : Ce) (p : Option Addr) (n cp : Nat) (hn : n = bs.length) (hc : D[i]? = some c) (h0 : 0 < bs.length) (h64 : at_ + bs.length ≤ 64) (w : World) (hs : Sat (devS db cb D k) w) (hp : V.slAt w p 1 byE bs) (hpd : ∀ b o, p = some ⟨b, o, none⟩ → b ∉ V.ids (devS db cb D k)) :
    Calls Tryz.prog 33 [.pointer (some ⟨db, 0, none⟩), .int .i64 (i : Nat), .int .i64 (at_ : Nat), .slice p n cp].toArray w fun e w' => ∃ k' : Cnt, True ∧ e = .returned (.int .i64 0) ∧ Hp ⟨w, V.ids (devS db cb D k)⟩ (devS db cb (D.set i { c with now := putB c.now at_ bs h64 }) k') w' := by
  subst hn
  obtain ⟨hB, hC⟩ := devB hs
  have hi := (List.getElem?_eq_some_iff.1 hc).1
  obtain ⟨pb, po, hpe, hpr⟩ := sl_range (F := V.ids (devS db cb D k)) byE_len hp h0 hpd
  subst hpe
  refine V.calls (devS db cb D k) Tryz.func33 rfl Tryz.ntmps33 (Nat.le_of_ble_eq_true rfl) hs <| Sq <| Rg <| Lv Av <| Nl <| Ps <| Sq <| Sq <| Rg <| Lv Mv <| Lv Mv <| Lv Mv <| Lv Mv <| Lv Ln <| Le (CV fun w hw => there_c db cb D k (i : Nat) (at_ : Nat) bs.length (by omega) w (hw.at)) fun _ _ => LW.re 15 (.int .i64 0) rfl (by rw [if_pos (th_ok hi h64)]) <| Lv Av <| Nl <| Ps <| Sq <| Rg <| Lv Mv <| Lv Cm <| LW.re 17 (.bool false) rfl (by rfl) <| Nl <| Ps <| Cf <| Sk <| Ps <| Sq <| Rg <| Lv Mv <| Lv Nz <| Lv (Fa 0 82) <| Lv (Ld (v := .slice (some ⟨cb, 0, none⟩) D.length D.length)) <| Lv Mv <| Lv (Val.indexAddrN rfl rfl Tryz.underlying82 Tryz.sizeOf87 hi) <| Lv (Fa 0 85) <| Lv Mv <| Lv (Val.sliceArr at_ 64 rfl Tryz.underlying85 Tryz.sizeOf5 ⟨_, rfl⟩ rfl (by omega) (by omega)) <| LW.re 27 (.slice (some ⟨cb, i * 193 + at_, none⟩) (64 - at_) (64 - at_)) rfl (by rw [if_neg (by omega)]; simp) <| Lv Mv <| Le (Eff.copyT (cs := byC bs) (gb := cb) (cur := (D.flatMap ceC)) (cells' := ((D.set i { c with now := putB c.now at_ bs h64 }).flatMap ceC)) (m := bs.length) (sz := 1) rfl rfl Tryz.underlying35 (by kernel_rfl) (by repeat (first | exact .here | exact .inner .here | exact .inner (.inner .here) | apply Upd.there)) (by rw [← splice_cut _ _ _ (by rw [V.flatMap_len ceC_len, V.byC_len]; have := Nat.mul_le_mul_right 193 (show i + 1 ≤ D.length from hi); omega)]; have h8 := splice_in ceC_len hc at_ (byC bs) (ce_put c at_ bs h64) (by rw [V.byC_len]; omega); simpa using h8) (show min bs.length (64 - at_) = _ from by omega) (by rw [V.byC_len, Nat.mul_one]) (fun w1 hw1 j u hj => by rw [Addr.add_mid]; exact hpr w1 hw1 j u (by rw [← byC_flat]; exact hj)) (by rw [V.flatMap_len ceC_len, V.byC_len]; have := Nat.mul_le_mul_right 193 (show i + 1 ≤ D.length from hi); omega) (V.byC_one _)) fun _ _ => Nl <| Ps <| Sq <| Rg <| Lv Mv <| Lv Nz <| Lv (Fa 1 94) <| Lv (Fa 0 92) <| Le (CM ([[(db, .cells (dvC cb D k).toArray 96 (0, 0))]]) fun w hw hs => addI_c db 1 (dvC cb D k) 96 k.a 1 w rfl hs) ?_
  intro _ _
  refine Nl <| Ps <| Sq <| Rg <| Lv Av <| Nl <| Ps <| Rt <| Rt1 fun w' hw => ?_
  exact ⟨{ k with a := IntKind.i64.wrap (k.a + 1) }, trivial, rfl, by unfold devS dvC; rw [List.length_set]; exact hw.pick (by repeat (first | exact .nil | apply Pick.cons | exact .here | apply Ext.there))⟩
theorem fl_now {D : List Ce} {i : Nat} {c : Ce} (hc : D[i]? = some c) : ∃ r, (D.flatMap ceC).drop (i * 193 + 0) = byC c.now.1 ++ r := flat_at ceC_len hc (by omega) (ce_at0 c)
theorem fl_way {D : List Ce} {i : Nat} {c : Ce} (hc : D[i]? = some c) : ∃ r, (D.flatMap ceC).drop (i * 193 + 128) = byC c.way.1 ++ r := flat_at ceC_len hc (by omega) (ce_at128 c)
theorem fl_sent {D : List Ce} {i : Nat} {c : Ce} (hc : D[i]? = some c) : (D.flatMap ceC)[i * 193 + 192]? = some (.bool c.sent) := by
  obtain ⟨r, hr⟩ := flat_at ceC_len hc (o := 192) (by omega) (r := []) (by rw [ce_at192, List.append_nil])
  have h := congrArg (fun l => l[0]?) hr
  simpa using h
theorem flush_c (db cb : Nat) (D : List Ce) (k : Cnt) (i : Nat) (c : Ce) (hc : D[i]? = some c) (w : World) (hs : Sat (devS db cb D k) w) : Calls Tryz.prog 60 [.pointer (some ⟨db, 0, none⟩), .int .i64 (i : Nat)].toArray w fun e w' => ∃ k' : Cnt, True ∧ e = .returned (.int .i64 0) ∧ Hp ⟨w, V.ids (devS db cb D k)⟩ (devS db cb (D.set i { c with way := c.now, sent := true }) k') w' := by
  obtain ⟨hB, hC⟩ := devB hs
  have hi := (List.getElem?_eq_some_iff.1 hc).1
  have hmul := Nat.mul_le_mul_right 193 (show i + 1 ≤ D.length from hi)
  have hc2 : (D.set i (Ce.mk c.now c.kept c.now c.sent))[i]? = some (Ce.mk c.now c.kept c.now c.sent) := by rw [List.getElem?_set_self hi]
  refine V.calls (devS db cb D k) Tryz.func60 rfl Tryz.ntmps60 (Nat.le_of_ble_eq_true rfl) hs <| Sq <| Rg <| Lv Av <| Nl <| Ps <| Sq <| Sq <| Rg <| Lv Mv <| Lv Mv <| Le (CV fun w hw => there_c db cb D k (i : Nat) ((0 : Nat) : Int) 0 (by omega) w hw.at) fun _ _ => LW.re 9 (.int .i64 0) rfl (by rw [if_pos (th_ok hi (by omega))]) <| Lv Av <| Nl <| Ps <| Sq <| Rg <| Lv Mv <| Lv Cm <| LW.re 11 (.bool false) rfl (by rfl) <| Nl <| Ps <| Cf <| Sk <| Ps <| Sq <| Rg <| Lv Mv <| Lv Nz <| Lv (Fa 0 82) <| Lv (Ld (v := .slice (some ⟨cb, 0, none⟩) D.length D.length)) <| Lv Mv <| Lv (Val.indexAddrN rfl rfl Tryz.underlying82 Tryz.sizeOf87 hi) <| LW.re 18 (.pointer (some ⟨cb, i * 193, none⟩)) rfl (by simp) <| Lv Av <| Nl <| Ps <| Sq <| Rg <| Lv Mv <| Lv Mv <| Lv Mv <| Lv Nz <| Lv (Fa 0 85) <| Lv (La (byC c.now.1) (r := (fl_now hc).choose) (hl := by simpa using (fl_now hc).choose_spec) (hs := by rw [byC64]; exact Tryz.sizeOf85)) <| Lv Nz <| Lv (Fa 128 85) <| LeN (Eff.storeA (cs := byC c.now.1) (l := D.flatMap ceC) (l' := (D.set i (Ce.mk c.now c.kept c.now c.sent)).flatMap ceC) rfl rfl (by repeat (first | exact .here | exact .inner .here | exact .inner (.inner .here) | apply Upd.there)) (by have h8 := splice_in ceC_len hc (y := (Ce.mk c.now c.kept c.now c.sent)) 128 (byC c.now.1) (ce_way c c.now) (by simp [byC64]); simpa using h8) (by rw [V.flatMap_len ceC_len]; simp [byC64]; omega) (by rw [byC64]; exact Tryz.sizeOf85) (V.byC_one _)) fun _ _ => Lv Nz <| Lv (Fa 192 4) <| LeN (Eff.storeX (v := .bool true) (l := (D.set i (Ce.mk c.now c.kept c.now c.sent)).flatMap ceC) (l' := (D.set i (Ce.mk c.now c.kept c.now true)).flatMap ceC) rfl rfl rfl (by repeat (first | exact .here | exact .inner .here | exact .inner (.inner .here) | apply Upd.there)) (by have h8 := splice_in ceC_len hc2 (y := (Ce.mk c.now c.kept c.now true)) 192 [.bool true] (ce_sent (Ce.mk c.now c.kept c.now c.sent) true) (by simp); rw [List.set_set] at h8; simpa [V.splice] using h8) (by rw [V.flatMap_len ceC_len]; simp; omega) Tryz.sizeOf4) ?_
  intro _ _
  refine Nl <| Ps <| Sq <| Rg <| Lv Mv <| Lv Nz <| Lv (Fa 1 94) <| Lv (Fa 1 92) <| Le (CM ([[(db, .cells (dvC cb D k).toArray 96 (0, 0))]]) fun w hw hs => addI_c db 2 (dvC cb D k) 96 k.b 1 w rfl hs) fun _ _ => Nl <| Ps <| Sq <| Rg <| Lv Av <| Nl <| Ps <| Rt <| Rt1 fun w' hw => ?_
  exact ⟨{ k with b := IntKind.i64.wrap (k.b + 1) }, trivial, rfl, by unfold devS dvC; rw [List.length_set]; exact hw.pick (by repeat (first | exact .nil | apply Pick.cons | exact .here | apply Ext.there))⟩
def fenB (c : Ce) : Ce := if c.sent = true then { c with kept := c.way, sent := false } else c
/-- The first so many lines fenced. -/
def fenL (D : List Ce) (j : Nat) : List Ce := (D.take j).map fenB ++ D.drop j
theorem fenL_len (D : List Ce) (j : Nat) : (fenL D j).length = D.length := by unfold fenL; simp; omega
theorem fenL_at {D : List Ce} {j : Nat} {c : Ce} (hc : D[j]? = some c) : (fenL D j)[j]? = some c := by
  have hj := (List.getElem?_eq_some_iff.1 hc).1
  unfold fenL
  rw [List.getElem?_append_right (by simp; omega), List.getElem?_drop]
  simp only [List.length_map, List.length_take]
  rw [show j + (j - min j D.length) = j by omega, hc]
theorem fenL_step {D : List Ce} {j : Nat} {c : Ce} (hc : D[j]? = some c) : (fenL D j).set j (fenB c) = fenL D (j + 1) := by
  have hj := (List.getElem?_eq_some_iff.1 hc).1
  unfold fenL
  have hl : ((D.take j).map fenB).length = j := by simp; omega
  rw [List.set_append_right _ _ (by omega), hl, Nat.sub_self, List.drop_eq_getElem_cons hj, List.set_cons_zero, List.take_add_one, hc]
  simp
theorem fence_c (db cb : Nat) (D : List Ce) (k : Cnt) (hD : D.length ≤ 1000) (w : World) (hs : Sat (devS db cb D k) w) : Calls Tryz.prog 61 [.pointer (some ⟨db, 0, none⟩)].toArray w fun e w' => ∃ k' : Cnt, True ∧ e = .returned (.int .i64 0) ∧ Hp ⟨w, V.ids (devS db cb D k)⟩ (devS db cb (D.map fenB) k') w' := by
  refine V.calls (devS db cb D k) Tryz.func61 rfl Tryz.ntmps61 (Nat.le_of_ble_eq_true rfl) hs <| Sq <| Rg <| Lv Av <| Nl <| Ps <| Sq <| Sq <| Rg <| Lv Mv <| Lv EP <| Nl <| Ps <| Cf <| Sk <| Ps <| Sq <| Sq <| Rg <| Lv Mv <| Lv Nz <| Lv (Fa 0 82) <| Lv (Ld (v := .slice (some ⟨cb, 0, none⟩) D.length D.length)) <| Lv Ln <| Lv Mv <| Nl <| Ps <| Bk ?_
  refine V.CW.perm (sg' := [[(db, .cells (dvC cb D k).toArray 96 (0, 0))], [(cb, .cells ((fenL D 0).flatMap ceC).toArray 87 (0, 0))]]) ?_ (by unfold fenL; simp)
  refine loopA (γ := Nat) (fun j => [(0, .pointer (some ⟨db, 0, none⟩)), (11, .int .i64 (D.length : Nat)), (12, .int .i64 (j : Nat))]) (fun j => [[(db, .cells (dvC cb D k).toArray 96 (0, 0))], [(cb, .cells ((fenL D j).flatMap ceC).toArray 87 (0, 0))]]) (fun j => j ≤ D.length) (fun j => D.length - j) (0) (Nat.zero_le _) fun j hj => Sq <| Rg <| Lv Cm <| Nl <| Ps <| Sq ?_
  refine CW.cond rfl (fun h13 => ?_) (fun h13 => ?_)
  · replace h13 := bT h13
    have hi : j < D.length := by omega
    have hmul := Nat.mul_le_mul_right 193 (show j + 1 ≤ D.length from hi)
    have hfl := fenL_len D j
    obtain ⟨c, hc⟩ : ∃ c, D[j]? = some c := ⟨_, List.getElem?_eq_getElem hi⟩
    have hst := fenL_step hc
    have hc2 : ((fenL D j).set j (Ce.mk c.now c.way c.way c.sent))[j]? = some (Ce.mk c.now c.way c.way c.sent) := by rw [List.getElem?_set_self (by omega)]
    refine Sk <| Ps <| Sq <| Bk <| Sq <| Rg <| Lv Mv <| Lv Av <| Nl <| Ps <| Sq <| Rg <| Lv Mv <| Lv Nz <| Lv (Fa 0 82) <| Lv (Ld (v := .slice (some ⟨cb, 0, none⟩) D.length D.length)) <| Lv Mv <| Lv (Val.indexAddrN rfl rfl Tryz.underlying82 Tryz.sizeOf87 hi) <| LW.re 20 (.pointer (some ⟨cb, j * 193, none⟩)) rfl (by simp) <| Lv Av <| Nl <| Ps <| Sq <| Rg <| Lv Mv <| Lv Nz <| Lv (Fa 192 4) <| Lv (Ld (v := .bool c.sent) (hl := fl_sent (fenL_at hc))) <| Nl <| Ps ?_
    refine CW.cond rfl (fun h24 => ?_) (fun h24 => ?_)
    · replace h24 := bT h24
      have h24 : c.sent = true := h24
      have hfb : fenB c = (Ce.mk c.now c.way c.way false) := by unfold fenB; rw [if_pos h24]
      rw [hfb] at hst
      refine Rg <| Lv Mv <| Lv Mv <| Lv Mv <| Lv Nz <| Lv (Fa 128 85) <| Lv (La (byC c.way.1) (r := (fl_way (fenL_at hc)).choose) (hl := (fl_way (fenL_at hc)).choose_spec) (hs := by rw [byC64]; exact Tryz.sizeOf85)) <| Lv Nz <| Lv (Fa 64 85) <| LeN (Eff.storeA (cs := byC c.way.1) (l := (fenL D j).flatMap ceC) (l' := ((fenL D j).set j (Ce.mk c.now c.way c.way c.sent)).flatMap ceC) rfl rfl (by repeat (first | exact .here | exact .inner .here | exact .inner (.inner .here) | apply Upd.there)) (by have h8 := splice_in ceC_len (fenL_at hc) (y := (Ce.mk c.now c.way c.way c.sent)) 64 (byC c.way.1) (ce_kept c c.way) (by simp [byC64]); simpa using h8) (by rw [V.flatMap_len ceC_len]; simp [byC64]; omega) (by rw [byC64]; exact Tryz.sizeOf85) (V.byC_one _)) fun _ _ => Lv Nz <| Lv (Fa 192 4) <| LeN (Eff.storeX (v := .bool false) (l := ((fenL D j).set j (Ce.mk c.now c.way c.way c.sent)).flatMap ceC) (l' := ((fenL D j).set j (Ce.mk c.now c.way c.way false)).flatMap ceC) rfl rfl rfl (by repeat (first | exact .here | exact .inner .here | exact .inner (.inner .here) | apply Upd.there)) (by have h8 := splice_in ceC_len hc2 (y := (Ce.mk c.now c.way c.way false)) 192 [.bool false] (ce_sent (Ce.mk c.now c.way c.way c.sent) false) (by simp); rw [List.set_set] at h8; simpa [V.splice] using h8) (by rw [V.flatMap_len ceC_len]; simp; omega) Tryz.sizeOf4) fun _ _ => Nl <| Bn <| Ps <| Rg <| Lv Ar <| Lv Mv <| Nl ?_
      rw [hst]
      exact roundA (j + 1) (by omega) (by omega)
    · replace h24 := bF h24
      have h24 : c.sent = false := h24
      have hfb : fenB c = c := by unfold fenB; rw [if_neg (by simp [h24])]
      have hss : (fenL D j).set j c = fenL D j := by
        have h8 := fenL_at hc
        obtain ⟨h9, h7⟩ := List.getElem?_eq_some_iff.1 h8
        rw [← h7, List.set_getElem_self]
      rw [hfb, hss] at hst
      refine Sk <| Bn <| Ps <| Rg <| Lv Ar <| Lv Mv <| Nl ?_
      rw [hst]
      exact roundA (j + 1) (by omega) (by omega)
  · replace h13 := bF h13
    have hend : fenL D j = D.map fenB := by unfold fenL; rw [List.take_of_length_le (by omega), List.drop_eq_nil_iff.2 (by omega), List.append_nil]
    rw [hend]
    refine Xt <| Te <| Te <| Bh <| Ps <| Sq <| Rg <| Lv Mv <| Lv Nz <| Lv (Fa 1 94) <| Lv (Fa 2 92) <| Le (CM ([[(db, .cells (dvC cb D k).toArray 96 (0, 0))]]) fun w hw hs => addI_c db 3 (dvC cb D k) 96 k.c 1 w rfl hs) fun _ _ => Nl <| Ps <| Sq <| Rg <| Lv Av <| Nl <| Ps <| Rt <| Rt1 fun w' hw => ?_
    exact ⟨{ k with c := IntKind.i64.wrap (k.c + 1) }, trivial, rfl, by unfold devS dvC; rw [List.length_map]; exact hw.pick (by repeat (first | exact .nil | apply Pick.cons | exact .here | apply Ext.there))⟩
end Go.Proofs.YtcnjjefbnlgdjaaGreat

/- Numbers in bytes; sums. -/
namespace Go.Proofs.YtcnjjefbnlgdjaaGreat
open Go Go.RowKit V
set_option linter.unusedVariables false
set_option maxRecDepth 100000
instance : Und Tryz.prog 22 (dOf Tryz.underlying22) := ⟨Tryz.underlying22⟩
instance : Siz Tryz.prog 22 (kOf Tryz.sizeOf22) := ⟨Tryz.sizeOf22⟩
instance : AgF Tryz.prog 22 := ⟨Tryz.isAgg22⟩
instance : Zer Tryz.prog 22 (zOf Tryz.zeroValue22) := ⟨Tryz.zeroValue22⟩
instance : Und Tryz.prog 103 (dOf Tryz.underlying103) := ⟨Tryz.underlying103⟩
instance : Siz Tryz.prog 103 (kOf Tryz.sizeOf103) := ⟨Tryz.sizeOf103⟩
instance : AgF Tryz.prog 103 := ⟨Tryz.isAgg103⟩
instance : Zer Tryz.prog 103 (zOf Tryz.zeroValue103) := ⟨Tryz.zeroValue103⟩
instance : Cal Tryz.prog 89 := ⟨Tryz.call89⟩
instance : Cal Tryz.prog 109 := ⟨Tryz.call109⟩
instance : Cal Tryz.prog 110 := ⟨Tryz.call110⟩
open V (str byC ownV ownG ownS ownOk)
theorem check_c (p : Option Addr) (L cp at_ n : Nat) (h1 : 1 ≤ n ∧ n ≤ 8) (h2 : at_ + n ≤ L) (h3 : L ≤ 100000) (w : World) : Calls Tryz.prog 109 [.slice p L cp, .int .i64 (at_ : Nat), .int .i64 (n : Nat)].toArray w fun e w' => e = .returned (.int .i64 0) ∧ Below w.heap.size w w' := by
  refine V.calls [] Tryz.func109 rfl Tryz.ntmps109 (Nat.le_of_ble_eq_true rfl) (V.sat_nil _) <| Sq <| Rg <| Lv Av <| Nl <| Ps <| Sq <| Sq <| Rg <| Lv Mv <| Lv Cm <| LW.re 8 (.bool false) rfl (by first | (simp; done) | (simp; omega)) <| Lv Mv <| Lv Mv <| Lv Cm <| LW.re 11 (.bool false) rfl (by first | (simp; done) | (simp; omega)) <| Lv Pf <| Nl <| Ps <| Cf <| Sk <| Ps <| Sq <| Sq <| Rg <| Lv Mv <| Lv Cm <| LW.re 14 (.bool false) rfl (by first | (simp; done) | (simp; omega)) <| Lv Mv <| Lv Mv <| Lv Mv <| Lv Ln <| Lv Mv <| Lv Ar <| Lv Cm <| LW.re 21 (.bool false) rfl (by first | (simp; done) | (simp; omega)) <| Lv Pf <| Nl <| Ps <| Cf <| Sk <| Ps <| Sq <| Rg <| Lv Av <| Nl <| Ps <| Rt <| Rt1 ?_
  intro w hw; exact ⟨rfl, hw.below⟩
def shB (v : Int) (i : Nat) : UInt8 := UInt8.ofNat (IntKind.u8.wrap (v.fdiv (2 ^ (min ((8 : Int) * (i : Nat)).toNat IntKind.u64.bits)))).toNat
theorem u8_byte (x : Int) : IntKind.u8.wrap x = (((UInt8.ofNat (IntKind.u8.wrap x).toNat).toNat : Nat) : Int) := by
  rw [IntKind.wrap_u8]
  simp
  omega
/-- A number laid into bytes. -/
def putN (l : List UInt8) (at_ : Nat) (v : Int) : Nat → List UInt8
  | 0 => l
  | n + 1 => (putN l at_ v n).set (at_ + n) (shB v n)
theorem putN_len (l : List UInt8) (at_ : Nat) (v : Int) : ∀ n, (putN l at_ v n).length = l.length
  | 0 => rfl
  | n + 1 => by rw [putN, List.length_set, putN_len l at_ v n]
def fitB (v : Int) (n : Nat) : Bool := !(decide ((n : Int) < 8) && (v.fdiv (2 ^ (min ((8 : Int) * (n : Nat)).toNat IntKind.u64.bits)) != 0))
def putR (l : List UInt8) (at_ : Nat) (v : Int) (n : Nat) : List UInt8 := if fitB v n = true then putN l at_ v n else []
theorem set_byE (l : List UInt8) (rest : List Value) (i : Nat) (u : UInt8) (h : i < l.length) : (l.flatMap byE ++ rest).set (0 + i * 1) (.int .u8 (u.toNat : Nat)) = (l.set i u).flatMap byE ++ rest := by
  have h8 := V.splice_flat byE_len l i u rest h
  rw [Nat.zero_add]
  exact h8
theorem put_c (l : List UInt8) (p : Option Addr) (cp at_ n : Nat) (v : Int) (h1 : 1 ≤ n ∧ n ≤ 8) (h2 : at_ + n ≤ l.length) (h3 : l.length ≤ 1000) (w : World) (hp : V.slAt w p 1 byE l) : Calls Tryz.prog 84 [.slice p l.length cp, .int .i64 (at_ : Nat), .int .i64 (n : Nat), .int .u64 v].toArray w fun e w' => ∃ o : V.OwnO, ownOk 1 (putR l at_ v n).length ((putR l at_ v n).flatMap byE) o ∧ e = .returned (.tuple #[ownV (putR l at_ v n).length o, .int .i64 (if fitB v n = true then 0 else 11)]) ∧ Hp ⟨w, []⟩ [ownG 5 ((putR l at_ v n).flatMap byE) o] w' := by
  refine V.calls [] Tryz.func84 rfl Tryz.ntmps84 (Nat.le_of_ble_eq_true rfl) (V.sat_nil _) <| Sq <| Rg <| Lv Av <| Lv Av <| Nl <| Ps <| Sq <| Sq <| Rg <| Lv Mv <| Lv Mv <| Lv Mv <| Le (CV fun w hw => check_c p l.length cp at_ n h1 h2 (by omega) w) fun _ _ => Lv Av <| Nl <| Ps <| Sq <| Rg <| Lv Mv <| Lv Cm <| LW.re 18 (.bool false) rfl (by rfl) <| Nl <| Ps <| Cf <| Sk <| Ps <| Sq <| Sq <| Rg <| Lv Mv <| Lv Cm <| Lv Mv ?_
  refine LW.split (d := 22) rfl (fun h22 => ?_) (fun h22 => ?_)
  · replace h22 := bT h22
    have h22 : (n : Int) < 8 := h22
    refine Lv Mv <| Lv Mv <| Lv Ar <| Lv (Val.shr rfl rfl (by omega)) <| Lv Cm <| Lv Pt <| Nl <| Ps ?_
    refine CW.cond rfl (fun h28 => ?_) (fun h28 => ?_)
    · replace h28 := bT h28
      refine Sq <| Rg <| Lv Av <| Lv Av <| Nl <| Ps <| Rt <| Tr <| Rt2 ?_
      have hf : fitB v n = false := by unfold fitB; simp_all
      have hr : putR l at_ v n = [] := by unfold putR; rw [if_neg (by simp [hf])]
      rw [hr, hf]
      intro w' hw; exact ⟨none, ⟨rfl, rfl⟩, rfl, (hw.pick (ss := []) .nil).perm (.refl _)⟩
    · replace h28 := bF h28
      have hfit : fitB v n = true := by unfold fitB; simp_all
      refine Sk <| Ps <| Sq <| Rg <| Lv Mv <| Le (CM [] fun w hw hs0 => cloneB_c l p _ cp rfl (by omega) w (hw.slAt hp (by simp [ids]))) fun o ho => ?_
      obtain ⟨⟨gb, rest, cap⟩, rfl⟩ : ∃ q, o = some q := by
        rcases o with _ | q
        · have h9 : l.length = 0 := ho.2
          omega
        · exact ⟨q, rfl⟩
      refine LW.re 30 (.slice (some ⟨gb, 0, none⟩) l.length cap) rfl (by rfl) <| Lv Av <| Nl <| Ps <| Sq <| Sq <| Rg <| Lv Mv <| Lv Mv <| Nl <| Ps <| Bk ?_
      refine V.CW.perm (sg' := [[(gb, .cells ((putN l at_ v 0).flatMap byE ++ rest).toArray 5 (0, 0))]]) ?_ (by simp [V.ownG, V.ownS, putN])
      refine loopA (γ := Nat) (fun j => [(1, .int .i64 (at_ : Nat)), (3, .int .u64 v), (11, .slice (some ⟨gb, 0, none⟩) l.length cap), (31, .int .i64 (n : Nat)), (32, .int .i64 (j : Nat))]) (fun j => [[(gb, .cells ((putN l at_ v j).flatMap byE ++ rest).toArray 5 (0, 0))]]) (fun j => j ≤ n) (fun j => n - j) (0) (Nat.zero_le _) fun j hj => Sq <| Rg <| Lv Cm <| Nl <| Ps <| Sq ?_
      refine CW.cond rfl (fun h33 => ?_) (fun h33 => ?_)
      · replace h33 := bT h33
        refine Sk <| Ps <| Sq <| Bk <| Sq <| Rg <| Lv Mv <| Lv Av <| Nl <| Ps <| Rg <| Lv Mv <| Lv Mv <| Lv Mv <| Lv Ar <| LW.re 38 (.int .i64 ((at_ + j : Nat) : Int)) rfl (by congr 1) <| Lv Mv <| Lv Mv <| Lv Ar <| Lv (Val.shr rfl rfl (by omega)) <| Lv Cv <| LW.re 43 (.int .u8 ((shB v j).toNat : Nat)) rfl (by congr 1; exact u8_byte _) <| Lv (Val.indexAddrN (i := at_ + j) rfl rfl Tryz.underlying35 Tryz.sizeOf5 (by omega)) <| LeN (Eff.storeX (l' := (putN l at_ v (j + 1)).flatMap byE ++ rest) rfl rfl rfl (by repeat (first | exact .here | exact .inner .here | exact .inner (.inner .here) | apply Upd.there)) (set_byE _ rest (at_ + j) (shB v j) (by rw [putN_len]; omega)) (by rw [List.length_append, V.flatMap_len byE_len, putN_len]; omega) Tryz.sizeOf5) fun _ _ => Nl <| Bn <| Ps <| Rg <| Lv Ar <| Lv Mv <| Nl ?_
        exact roundA (j + 1) (by omega) (by omega)
      · replace h33 := bF h33
        refine Xt <| Te <| Te <| Bh <| Ps <| Sq <| Rg <| Lv Mv <| Lv Av <| Lv Av <| Nl <| Ps <| Rt <| Rt2 ?_
        have hfit : fitB v n = true := by first | assumption | (unfold fitB; simp; omega)
        have hj9 : j = n := by omega
        subst hj9
        have hr : putR l at_ v j = putN l at_ v j := by unfold putR; rw [if_pos hfit]
        rw [hr, hfit]
        intro w' hw; exact ⟨some (gb, rest, cap), ⟨V.flatMap_len byE_len _, by rw [V.flatMap_len byE_len, putN_len]; have h8 : (l.flatMap byE).length + rest.length = cap * 1 := ho.2; rw [V.flatMap_len byE_len] at h8; exact h8⟩, by rw [putN_len]; rfl, hw.pick (by repeat (first | exact .nil | apply Pick.cons | exact .here | apply Ext.there))⟩
  · replace h22 := bF h22
    have h22 : 8 ≤ (n : Int) := h22
    refine Lp <| Lp <| Lp <| Lp <| Lp <| Lv Pf <| Nl <| Ps <| Cf <| Sk <| Ps <| Sq <| Rg <| Lv Mv <| Le (CM [] fun w hw hs0 => cloneB_c l p _ cp rfl (by omega) w (hw.slAt hp (by simp [ids]))) fun o ho => ?_
    obtain ⟨⟨gb, rest, cap⟩, rfl⟩ : ∃ q, o = some q := by
      rcases o with _ | q
      · have h9 : l.length = 0 := ho.2
        omega
      · exact ⟨q, rfl⟩
    refine LW.re 30 (.slice (some ⟨gb, 0, none⟩) l.length cap) rfl (by rfl) <| Lv Av <| Nl <| Ps <| Sq <| Sq <| Rg <| Lv Mv <| Lv Mv <| Nl <| Ps <| Bk ?_
    refine V.CW.perm (sg' := [[(gb, .cells ((putN l at_ v 0).flatMap byE ++ rest).toArray 5 (0, 0))]]) ?_ (by simp [V.ownG, V.ownS, putN])
    refine loopA (γ := Nat) (fun j => [(1, .int .i64 (at_ : Nat)), (3, .int .u64 v), (11, .slice (some ⟨gb, 0, none⟩) l.length cap), (31, .int .i64 (n : Nat)), (32, .int .i64 (j : Nat))]) (fun j => [[(gb, .cells ((putN l at_ v j).flatMap byE ++ rest).toArray 5 (0, 0))]]) (fun j => j ≤ n) (fun j => n - j) (0) (Nat.zero_le _) fun j hj => Sq <| Rg <| Lv Cm <| Nl <| Ps <| Sq ?_
    refine CW.cond rfl (fun h33 => ?_) (fun h33 => ?_)
    · replace h33 := bT h33
      refine Sk <| Ps <| Sq <| Bk <| Sq <| Rg <| Lv Mv <| Lv Av <| Nl <| Ps <| Rg <| Lv Mv <| Lv Mv <| Lv Mv <| Lv Ar <| LW.re 38 (.int .i64 ((at_ + j : Nat) : Int)) rfl (by congr 1) <| Lv Mv <| Lv Mv <| Lv Ar <| Lv (Val.shr rfl rfl (by omega)) <| Lv Cv <| LW.re 43 (.int .u8 ((shB v j).toNat : Nat)) rfl (by congr 1; exact u8_byte _) <| Lv (Val.indexAddrN (i := at_ + j) rfl rfl Tryz.underlying35 Tryz.sizeOf5 (by omega)) <| LeN (Eff.storeX (l' := (putN l at_ v (j + 1)).flatMap byE ++ rest) rfl rfl rfl (by repeat (first | exact .here | exact .inner .here | exact .inner (.inner .here) | apply Upd.there)) (set_byE _ rest (at_ + j) (shB v j) (by rw [putN_len]; omega)) (by rw [List.length_append, V.flatMap_len byE_len, putN_len]; omega) Tryz.sizeOf5) fun _ _ => Nl <| Bn <| Ps <| Rg <| Lv Ar <| Lv Mv <| Nl ?_
      exact roundA (j + 1) (by omega) (by omega)
    · replace h33 := bF h33
      refine Xt <| Te <| Te <| Bh <| Ps <| Sq <| Rg <| Lv Mv <| Lv Av <| Lv Av <| Nl <| Ps <| Rt <| Rt2 ?_
      have hfit : fitB v n = true := by first | assumption | (unfold fitB; simp; omega)
      have hj9 : j = n := by omega
      subst hj9
      have hr : putR l at_ v j = putN l at_ v j := by unfold putR; rw [if_pos hfit]
      rw [hr, hfit]
      intro w' hw; exact ⟨some (gb, rest, cap), ⟨V.flatMap_len byE_len _, by rw [V.flatMap_len byE_len, putN_len]; have h8 : (l.flatMap byE).length + rest.length = cap * 1 := ho.2; rw [V.flatMap_len byE_len] at h8; exact h8⟩, by rw [putN_len]; rfl, hw.pick (by repeat (first | exact .nil | apply Pick.cons | exact .here | apply Ext.there))⟩
/-- A number out of bytes. -/
def getStep (v : Int) (b : UInt8) (i : Nat) : Int := IntKind.u64.wrap (BitVec.ofInt IntKind.u64.bits v ||| BitVec.ofInt IntKind.u64.bits (IntKind.u64.wrap (IntKind.u64.wrap ((b.toNat : Nat) : Int) * 2 ^ (min ((8 : Int) * (i : Nat)).toNat IntKind.u64.bits)))).toNat
def getN (l : List UInt8) (at_ : Nat) : Nat → Int
  | 0 => 0
  | n + 1 => getStep (getN l at_ n) (l.getD (at_ + n) 0) n
theorem get_c (l : List UInt8) (p : Option Addr) (cp at_ n : Nat) (h1 : 1 ≤ n ∧ n ≤ 8) (h2 : at_ + n ≤ l.length) (h3 : l.length ≤ 1000) (w : World) (hp : V.slAt w p 1 byE l) : Calls Tryz.prog 142 [.slice p l.length cp, .int .i64 (at_ : Nat), .int .i64 (n : Nat)].toArray w fun e w' => e = .returned (.tuple #[.int .u64 (getN l at_ n), .int .i64 0]) ∧ Below w.heap.size w w' := by
  obtain ⟨pb, po, _, rfl, hpb, _, hpr⟩ := V.slAt_at hp rfl (k := 0) (by omega)
  refine V.calls [] Tryz.func142 rfl Tryz.ntmps142 (Nat.le_of_ble_eq_true rfl) (V.sat_nil _) <| Sq <| Rg <| Lv Av <| Lv Av <| Nl <| Ps <| Sq <| Sq <| Rg <| Lv Mv <| Lv Mv <| Lv Mv <| Le (CV fun w hw => check_c _ l.length cp at_ n h1 h2 (by omega) w) fun _ _ => Lv Av <| Nl <| Ps <| Sq <| Rg <| Lv Mv <| Lv Cm <| LW.re 16 (.bool false) rfl (by rfl) <| Nl <| Ps <| Cf <| Sk <| Ps <| Sq <| Rg <| Lv Av <| Nl <| Ps <| Sq <| Sq <| Rg <| Lv Mv <| Lv Mv <| Nl <| Ps <| Bk <| loopA (γ := Nat) (fun j => [(0, .slice (some ⟨pb, po, none⟩) l.length cp), (1, .int .i64 (at_ : Nat)), (9, .int .u64 (getN l at_ j)), (18, .int .i64 (n : Nat)), (19, .int .i64 (j : Nat))]) (fun _ => []) (fun j => j ≤ n) (fun j => n - j) (0) (Nat.zero_le _) fun j hj => Sq <| Rg <| Lv Cm <| Nl <| Ps <| Sq ?_
  refine CW.cond rfl (fun h20 => ?_) (fun h20 => ?_)
  · replace h20 := bT h20
    obtain ⟨u, huj⟩ : ∃ u, l[at_ + j]? = some u := ⟨_, List.getElem?_eq_getElem (show at_ + j < l.length by omega)⟩
    have hu : l.getD (at_ + j) 0 = u := by rw [List.getD_eq_getElem?_getD, huj]; rfl
    refine Sk <| Ps <| Sq <| Bk <| Sq <| Rg <| Lv Mv <| Lv Av <| Nl <| Ps <| Rg <| Lv Mv <| Lv Mv <| Lv Mv <| Lv Mv <| Lv Ar <| LW.re 26 (.int .i64 ((at_ + j : Nat) : Int)) rfl (by congr 1) <| Lv (Val.indexAddrN (i := at_ + j) rfl rfl Tryz.underlying35 Tryz.sizeOf5 (by omega)) <| Lv (Val.loadO rfl Tryz.isAgg5 hpb (by simp [ids]) (hpr _ u huj 0 _ rfl)) <| Lv Cv <| Lv Mv <| Lv Ar <| Lv (Val.shl rfl rfl (by omega)) <| Lv (Val.or rfl rfl) <| LW.re 33 (.int .u64 (getN l at_ (j + 1))) rfl (by rw [getN, hu]; rfl) <| Lv Av <| Nl <| Bn <| Ps <| Rg <| Lv Ar <| Lv Mv <| Nl ?_
    exact roundA (j + 1) (by omega) (by omega)
  · replace h20 := bF h20
    refine Xt <| Te <| Te <| Bh <| Ps <| Sq <| Rg <| Lv Mv <| Lv Av <| Lv Av <| Nl <| Ps <| Rt <| Rt2 ?_
    have hj9 : j = n := by omega
    subst hj9
    intro w' hw; exact ⟨rfl, hw.below⟩
def xorI (a b : Int) : Int := IntKind.u32.wrap (BitVec.ofInt IntKind.u32.bits a ^^^ BitVec.ofInt IntKind.u32.bits b).toNat
def stepOne (c : Int) : Int := if c.tmod 2 = 0 then IntKind.u32.wrap (c.tdiv 2) else xorI (IntKind.u32.wrap (c.tdiv 2)) 3988292384
def stepK : Nat → Int → Int
  | 0, c => c
  | k + 1, c => stepOne (stepK k c)
def stepB (c : Int) (b : UInt8) : Int := stepK 8 (xorI c (IntKind.u32.wrap ((b.toNat : Nat) : Int)))
def sumF (l : List UInt8) : Int := xorI (l.foldl stepB (xorI 0 4294967295)) 4294967295
theorem step_c (c : Int) (b : UInt8) (w : World) : Calls Tryz.prog 110 [.int .u32 c, .int .u8 ((b.toNat : Nat) : Int)].toArray w fun e w' => e = .returned (.int .u32 (stepB c b)) ∧ Below w.heap.size w w' := by
  refine V.calls [] Tryz.func110 rfl Tryz.ntmps110 (Nat.le_of_ble_eq_true rfl) (V.sat_nil _) <| Sq <| Rg <| Lv Av <| Nl <| Ps <| CW.scope <| Sq <| Rg <| Lv Mv <| Lv Mv <| Lv Cv <| Lv (Val.xor rfl rfl) <| LW.re 9 (.int .u32 (xorI c (IntKind.u32.wrap ((b.toNat : Nat) : Int)))) rfl (by rfl) <| Lv Av <| Nl <| Ps <| Sq <| Rg <| Lv Av <| Nl <| Ps <| Sq <| CW.label <| Ps <| Sq <| Bk <| loopA (γ := Nat) (fun j => [(0, .int .u32 (stepK j (xorI c (IntKind.u32.wrap ((b.toNat : Nat) : Int))))), (5, .int .i64 (j : Nat))]) (fun _ => []) (fun j => j ≤ 8) (fun j => 8 - j) (0) (by omega) fun j hj => Sq <| Sq <| Rg <| Lv Mv <| Lv Cm <| Nl <| Ps ?_
  refine CW.cond rfl (fun h11 => ?_) (fun h11 => ?_)
  · replace h11 := bT h11
    refine Sk <| Ps <| Bk <| Sq <| Rg <| Lv Mv <| Lv Ar <| Lv Av <| Nl <| Ps <| Sq <| Sq <| Rg <| Lv Mv <| Lv (Val.rem rfl rfl (by omega)) <| Lv Cm <| Nl <| Ps ?_
    refine CW.cond rfl (fun h16 => ?_) (fun h16 => ?_)
    · replace h16 := bT h16
      have h16 : (stepK j (xorI c (IntKind.u32.wrap ((b.toNat : Nat) : Int)))).tmod 2 = 0 := h16
      refine Sq <| Rg <| Lv Mv <| Lv (Val.quo rfl rfl (by omega)) <| LW.re 18 (.int .u32 (stepK (j + 1) (xorI c (IntKind.u32.wrap ((b.toNat : Nat) : Int))))) rfl (by rw [stepK, stepOne, if_pos h16]) <| Lv Av <| Nl <| Ps <| Xt <| Te <| Bh ?_
      exact roundA (j + 1) (by omega) (by omega)
    · replace h16 := bF h16
      have h16 : ¬ (stepK j (xorI c (IntKind.u32.wrap ((b.toNat : Nat) : Int)))).tmod 2 = 0 := h16
      refine Sk <| Ps <| Rg <| Lv Mv <| Lv (Val.quo rfl rfl (by omega)) <| Lv (Val.xor rfl rfl) <| LW.re 21 (.int .u32 (stepK (j + 1) (xorI c (IntKind.u32.wrap ((b.toNat : Nat) : Int))))) rfl (by rw [stepK, stepOne, if_neg h16]; rfl) <| Lv Av <| Nl <| Bn ?_
      exact roundA (j + 1) (by omega) (by omega)
  · replace h11 := bF h11
    refine Xt <| Te <| Te <| Bh <| Ps <| Sq <| Rg <| Lv Mv <| Lv Av <| Nl <| Ps <| Rt <| Bs <| Rt1 ?_
    have hj9 : j = 8 := by omega
    subst hj9
    intro w' hw; exact ⟨rfl, hw.below⟩
theorem fold_take {l : List UInt8} {j : Nat} {u : UInt8} (h : l[j]? = some u) (c : Int) : (l.take (j + 1)).foldl stepB c = stepB ((l.take j).foldl stepB c) u := by rw [List.take_add_one, h, List.foldl_append]; rfl
theorem sumAdd_c (l : List UInt8) (p : Option Addr) (cp : Nat) (hl : l.length ≤ 100000) (w : World) (hp : V.slAt w p 1 byE l) : Calls Tryz.prog 89 [.int .u32 0, .slice p l.length cp].toArray w fun e w' => e = .returned (.int .u32 (sumF l)) ∧ Below w.heap.size w w' := by
  refine V.calls [] Tryz.func89 rfl Tryz.ntmps89 (Nat.le_of_ble_eq_true rfl) (V.sat_nil _) <| Sq <| Rg <| Lv Av <| Nl <| Ps <| Sq <| Rg <| Lv Mv <| Lv (Val.xor rfl rfl) <| LW.re 8 (.int .u32 (xorI 0 4294967295)) rfl (by rfl) <| Lv Av <| Nl <| Ps <| Sq <| Sq <| Rg <| Lv Mv <| Lv Ln <| Lv Mv <| Nl <| Ps <| Bk <| loopA (γ := Nat) (fun j => [(0, .int .u32 ((l.take j).foldl stepB (xorI 0 4294967295))), (9, .slice p l.length cp), (10, .int .i64 (l.length : Nat)), (11, .int .i64 (j : Nat))]) (fun _ => []) (fun j => j ≤ l.length) (fun j => l.length - j) (0) (Nat.zero_le _) fun j hj => Sq <| Rg <| Lv Cm <| Nl <| Ps <| Sq ?_
  refine CW.cond rfl (fun h12 => ?_) (fun h12 => ?_)
  · replace h12 := bT h12
    obtain ⟨pb, po, u, rfl, hpb, huj, hpr⟩ := V.slAt_at hp rfl (k := j) (by omega)
    refine Sk <| Ps <| Sq <| Bk <| Sq <| Rg <| Lv Ix <| Lv (Val.loadO rfl Tryz.isAgg5 hpb (by simp [ids]) (hpr j u huj 0 _ rfl)) <| Lv Av <| Nl <| Ps <| Rg <| Lv Mv <| Lv Mv <| Le (CV fun w hw => step_c ((l.take j).foldl stepB (xorI 0 4294967295)) u w) fun _ _ => LW.re 17 (.int .u32 ((l.take (j + 1)).foldl stepB (xorI 0 4294967295))) rfl (by rw [fold_take huj]) <| Lv Av <| Nl <| Bn <| Ps <| Rg <| Lv Ar <| Lv Mv <| Nl ?_
    exact roundA (j + 1) (by omega) (by omega)
  · replace h12 := bF h12
    have hte : l.take j = l := List.take_of_length_le (by omega)
    refine Xt <| Te <| Te <| Bh <| Ps <| Sq <| Rg <| Lv Mv <| Lv (Val.xor rfl rfl) <| LW.re 20 (.int .u32 (sumF l)) rfl (by rw [hte]; rfl) <| Lv Av <| Nl <| Ps <| Rt <| Rt1 ?_
    intro w' hw; exact ⟨rfl, hw.below⟩
theorem sum_c (l : List UInt8) (p : Option Addr) (cp : Nat) (hl : l.length ≤ 100000) (w : World) (hp : V.slAt w p 1 byE l) : Calls Tryz.prog 90 [.slice p l.length cp].toArray w fun e w' => e = .returned (.int .u32 (sumF l)) ∧ Below w.heap.size w w' := by
  refine V.calls [] Tryz.func90 rfl Tryz.ntmps90 (Nat.le_of_ble_eq_true rfl) (V.sat_nil _) <| Sq <| Rg <| Lv Av <| Nl <| Ps <| Sq <| Rg <| Lv Mv <| Le (CV fun w hw => sumAdd_c l p cp hl w (hw.slAt hp (by simp [ids]))) fun _ _ => Lv Av <| Nl <| Ps <| Rt <| Rt1 ?_
  intro w' hw; exact ⟨rfl, hw.below⟩
end Go.Proofs.YtcnjjefbnlgdjaaGreat

/- A device's lines: superblock and clock. -/
namespace Go.Proofs.YtcnjjefbnlgdjaaGreat
open Go Go.RowKit V
set_option linter.unusedVariables false
set_option maxRecDepth 100000
instance : Und Tryz.prog 158 (dOf Tryz.underlying158) := ⟨Tryz.underlying158⟩
instance : Siz Tryz.prog 158 (kOf Tryz.sizeOf158) := ⟨Tryz.sizeOf158⟩
instance : AgT Tryz.prog 158 := ⟨Tryz.isAgg158⟩
instance : Zer Tryz.prog 158 (zOf Tryz.zeroValue158) := ⟨Tryz.zeroValue158⟩
instance : Cal Tryz.prog 84 := ⟨Tryz.call84⟩
instance : Cal Tryz.prog 90 := ⟨Tryz.call90⟩
open V (str byC ownV ownG ownS ownOk)
def padB (l : List UInt8) : List UInt8 := l ++ List.replicate (64 - l.length) 0
theorem padB_len {l : List UInt8} (h : l.length ≤ 64) : (padB l).length = 64 := by unfold padB; simp; omega
/-- A line that begins so, and its sum. -/
def sealL (l : List UInt8) : List UInt8 := putN (padB l) 9 (IntKind.u64.wrap (sumF l)) 4
theorem sealL_len {l : List UInt8} (h : l.length ≤ 64) : (sealL l).length = 64 := by unfold sealL; rw [putN_len, padB_len h]
theorem sum_fit (l : List UInt8) : fitB (IntKind.u64.wrap (sumF l)) 4 = true := by
  have h : 0 ≤ sumF l ∧ sumF l < 4294967296 := by
    unfold sumF xorI
    rw [IntKind.wrap_u32]
    omega
  rw [IntWalk.u64_in _ (by omega)]
  unfold fitB
  have h2 : (sumF l).fdiv (2 ^ (min ((8 : Int) * ((4 : Nat) : Int)).toNat IntKind.u64.bits)) = 0 := by
    have e : (2 : Int) ^ (min ((8 : Int) * ((4 : Nat) : Int)).toNat IntKind.u64.bits) = 4294967296 := by decide
    rw [e, Int.fdiv_eq_ediv_of_nonneg _ (by omega)]
    omega
  rw [h2]
  simp
theorem putR_fit {l : List UInt8} {at_ : Nat} {v : Int} {n : Nat} (h : fitB v n = true) : putR l at_ v n = putN l at_ v n := by unfold putR; rw [if_pos h]
theorem some_of {n : Nat} {xs : List Value} {o : V.OwnO} (h : ownOk 1 n xs o) (hn : 0 < n) : ∃ g r c, o = some (g, r, c) := by
  rcases o with _ | ⟨g, r, c⟩
  · have h0 : n = 0 := h.2
    omega
  · exact ⟨g, r, c, rfl⟩
theorem pad_copy (l : List UInt8) (h : l.length ≤ 64) : (byC z64.1).take 0 ++ byC l ++ (byC z64.1).drop (0 + (byC l).length) = byC (padB l) := by
  unfold padB z64
  rw [V.byC_append, V.byC_len, Nat.zero_add, List.take_zero, List.nil_append]
  congr 1
  show List.drop l.length (List.map _ (List.replicate 64 0)) = List.map _ (List.replicate (64 - l.length) 0)
  rw [List.map_replicate, List.map_replicate, List.drop_replicate]
theorem sealed_c (l : List UInt8) (p : Option Addr) (cp : Nat) (h0 : 0 < l.length) (h64 : l.length ≤ 64) (w : World) (hp : V.slAt w p 1 byE l) : Calls Tryz.prog 85 [.slice p l.length cp].toArray w fun e w' => e = .returned (.agg (byC (sealL l)).toArray) ∧ Below w.heap.size w w' := by
  obtain ⟨pb, po, rfl, hpr⟩ := sl_range (F := []) byE_len hp h0 (by simp)
  refine V.calls [] Tryz.func85 rfl Tryz.ntmps85 (Nat.le_of_ble_eq_true rfl) (V.sat_nil _) <| Sq <| Rg <| Le (AA (l := byC z64.1) (hz := by exact Tryz.zeroValue158)) fun b2 _ => Nl <| Ps <| Sq <| Rg <| Le (AA (l := byC z64.1) (hz := by exact Tryz.zeroValue158)) fun b3 _ => Nl <| Ps <| Sq <| Rg <| Lv (Val.sliceArr 0 64 rfl Tryz.underlying158 Tryz.sizeOf5 rfl rfl (by omega) (by omega)) <| LW.re 6 (.slice (some ⟨b3, 0, none⟩) 64 64) rfl (by simp) <| Lv Mv <| Le (Eff.copyT (cs := byC l) (gb := b3) (cur := (byC z64.1)) (cells' := (byC (padB l))) (m := l.length) (sz := 1) rfl rfl Tryz.underlying35 (by kernel_rfl) (by repeat (first | exact .here | exact .inner .here | exact .inner (.inner .here) | apply Upd.there)) (pad_copy l h64) (show min (l.length) (64) = _ from by omega) (by rw [V.byC_len, Nat.mul_one]) (fun w1 hw1 j u hj => by rw [Addr.add_mid]; exact (hpr w1 hw1) j u (by rw [← byC_flat]; exact hj)) (by rw [V.byC_len, byC64]; omega) (V.byC_one _)) fun _ _ => Nl <| Ps <| Sq <| Dr ([]) <| Rv 0 rfl (Val.sliceArr 0 64 rfl Tryz.underlying158 Tryz.sizeOf5 rfl rfl (by omega) (by omega)) <| RW.re 10 (.slice (some ⟨b3, 0, none⟩) (padB l).length 64) rfl (by rw [padB_len h64]; simp) <| Rv 1 rfl Mv <| Re 2 rfl (CV fun w hw => sum_c l _ cp (by omega) w (hw.slAt hp (by simp [ids]))) fun _ _ => Rv 3 rfl Cv <| Re 4 rfl (CM [] fun w hw hs0 => put_c (padB l) _ 64 9 4 (IntKind.u64.wrap (sumF l)) (by omega) (by rw [padB_len h64]; omega) (by rw [padB_len h64]; omega) w (V.slAt_flat (r := []) hw byE_len (by rw [byC_flat, List.append_nil]) (show InS (b3, .cells (byC (padB l)).toArray 158 (0, 0)) _ from (by repeat (first | exact .here | exact .inner .here | exact .inner (.inner .here) | refine .there ?_))))) fun o ho => ?_
  rw [putR_fit (sum_fit l), sum_fit l] at *
  obtain ⟨gb, rest, cap, rfl⟩ := some_of ho (by rw [putN_len, padB_len h64]; omega)
  refine Rv 5 rfl Mv <| Rv 6 rfl Ex <| Rv 7 rfl Ex <| Rv 8 rfl Av <| RW.re 4 (.slice (some ⟨gb, 0, none⟩) 64 cap) rfl (by rw [putN_len, padB_len h64]; rfl) <| Rv 9 rfl Av <| Rd <| Ps <| Sq <| Rg <| Lv (Val.sliceArr 0 64 rfl Tryz.underlying158 Tryz.sizeOf5 rfl rfl (by omega) (by omega)) <| LW.re 17 (.slice (some ⟨b3, 0, none⟩) 64 64) rfl (by simp) <| Lv Mv <| Le (Eff.copyT (cs := byC (sealL l)) (gb := b3) (cur := (byC (padB l))) (cells' := (byC (sealL l))) (m := 64) (sz := 1) rfl rfl Tryz.underlying35 (by kernel_rfl) (by repeat (first | exact .here | exact .inner .here | exact .inner (.inner .here) | apply Upd.there)) (by rw [V.byC_len, sealL_len h64, List.drop_eq_nil_iff.2 (by rw [V.byC_len, padB_len h64]; omega)]; simp) (show min (64) (64) = _ from by omega) (by rw [V.byC_len, Nat.mul_one]; exact sealL_len h64) (fun w1 hw1 j u hj => by rw [Addr.add_mid]; exact (V.range_of_block (o := 0) (r := rest) (hw1.at (b := gb)) rfl) j u (by rw [← byC_flat]; exact hj)) (by rw [V.byC_len, V.byC_len, sealL_len h64, padB_len h64]; omega) (V.byC_one _)) fun _ _ => Nl <| Ps <| Sq <| Rg <| Lv (Lw (l := byC (sealL l)) (hs := by rw [V.byC_len, sealL_len h64]; exact Tryz.sizeOf158)) <| LeN (StW (cs := byC (sealL l)) (hlen := by rw [V.byC_len (sealL l), sealL_len h64]; exact byC64 z64) (hs := by rw [V.byC_len, sealL_len h64]; exact Tryz.sizeOf158) (h1 := V.byC_one _)) fun _ _ => Nl <| Ps <| Rt <| V.PQ.retC (l := byC (sealL l)) rfl rfl (by repeat (first | exact .here | exact .inner .here | exact .inner (.inner .here) | refine .there ?_)) Tryz.isAgg158 (by rw [V.byC_len, sealL_len h64]; exact Tryz.sizeOf158) ?_
  intro w' hw; exact ⟨rfl, hw.below⟩
end Go.Proofs.YtcnjjefbnlgdjaaGreat

/- A device's lines: superblock and clock, told and found; a device made ready. -/
namespace Go.Proofs.YtcnjjefbnlgdjaaGreat
open Go Go.RowKit V
set_option linter.unusedVariables false
set_option maxRecDepth 100000
instance : Cal Tryz.prog 62 := ⟨Tryz.call62⟩
instance : Cal Tryz.prog 83 := ⟨Tryz.call83⟩
instance : Cal Tryz.prog 85 := ⟨Tryz.call85⟩
instance : Cal Tryz.prog 142 := ⟨Tryz.call142⟩
instance : Cal Tryz.prog 143 := ⟨Tryz.call143⟩
open V (str byC ownV ownG ownS ownOk)
def supBase : List UInt8 := [4, 70, 85, 83, 69, 0, 0, 0, 0]
def clkBase : List UInt8 := [3, 0, 0, 0, 0, 0, 0, 0, 0]
def superL (x : Int) : List UInt8 := sealL (putN supBase 5 (IntKind.u64.wrap x) 4)
def clockL (v : Int) : List UInt8 := sealL (putN clkBase 1 v 8)
theorem superL_len (x : Int) : (superL x).length = 64 := sealL_len (by rw [putN_len]; decide)
theorem clockL_len (x : Int) : (clockL x).length = 64 := sealL_len (by rw [putN_len]; decide)
def superB (x : Int) : B64 := ⟨superL x, superL_len x⟩
def clockB (x : Int) : B64 := ⟨clockL x, clockL_len x⟩
theorem fit8 (v : Int) : fitB v 8 = true := by unfold fitB; simp
theorem fit_sm {x : Int} (h : 0 ≤ x ∧ x ≤ 258) : fitB (IntKind.u64.wrap x) 4 = true := by
  rw [IntWalk.u64_in _ (by omega)]
  unfold fitB
  have e : (2 : Int) ^ (min ((8 : Int) * ((4 : Nat) : Int)).toNat IntKind.u64.bits) = 4294967296 := by decide
  have h2 : x.fdiv 4294967296 = 0 := by rw [Int.fdiv_eq_ediv_of_nonneg _ (by omega)]; omega
  rw [e, h2]
  simp
theorem super_c (x : Int) (hx : 0 ≤ x ∧ x ≤ 258) (w : World) : Calls Tryz.prog 83 [.int .i64 x].toArray w fun e w' => e = .returned (.agg (byC (superL x)).toArray) ∧ Below w.heap.size w w' := by
  refine V.calls [] Tryz.func83 rfl Tryz.ntmps83 (Nat.le_of_ble_eq_true rfl) (V.sat_nil _) <| Sq <| Rg <| Le (AA (l := byC z64.1) (hz := by exact Tryz.zeroValue158)) fun b2 _ => Nl <| Ps <| Sq <| Rg <| Le (Eff.buildSlice rfl (byC supBase) Tryz.underlying35 Tryz.sizeOf5 (by exact Tryz.zeroValue5) rfl rfl rfl rfl (by rfl)) fun b6 _ => Lv Mv <| Lv Cv <| Le (CM [] fun w hw hs0 => put_c supBase _ 9 5 4 (IntKind.u64.wrap x) (by decide) (by decide) (by decide) w (V.slAt_flat (r := []) hw byE_len (by rfl) (show InS (b6, .cells (byC supBase).toArray 5 (0, 0)) _ from (by repeat (first | exact .here | exact .inner .here | exact .inner (.inner .here) | refine .there ?_))))) fun o ho => ?_
  rw [putR_fit (fit_sm hx), fit_sm hx] at *
  obtain ⟨gb, rest, cap, rfl⟩ := some_of ho (by rw [putN_len]; decide)
  refine Lv Mv <| Lv Ex <| Lv Ex <| Lv Av <| LW.re 3 (.slice (some ⟨gb, 0, none⟩) (putN supBase 5 (IntKind.u64.wrap x) 4).length cap) rfl (by rfl) <| Lv Av <| Nl <| Ps <| Sq <| Rg <| Lv Mv <| Le (CV fun w hw => sealed_c (putN supBase 5 (IntKind.u64.wrap x) 4) _ cap (by rw [putN_len]; decide) (by rw [putN_len]; decide) w (V.slAt_flat hw byE_len rfl (show InS (gb, .cells ((putN supBase 5 (IntKind.u64.wrap x) 4).flatMap byE ++ rest).toArray 5 (0, 0)) _ from (by repeat (first | exact .here | exact .inner .here | exact .inner (.inner .here) | refine .there ?_))))) fun _ _ => LeN (StW (cs := byC (superL x)) (hlen := by rw [V.byC_len (superL x), superL_len]; exact byC64 z64) (hs := by rw [V.byC_len, superL_len]; exact Tryz.sizeOf158) (h1 := V.byC_one _)) fun _ _ => Nl <| Ps <| Rt <| V.PQ.retC (l := byC (superL x)) rfl rfl (by repeat (first | exact .here | exact .inner .here | exact .inner (.inner .here) | refine .there ?_)) Tryz.isAgg158 (by rw [V.byC_len, superL_len]; exact Tryz.sizeOf158) ?_
  intro w' hw; exact ⟨rfl, hw.below⟩
theorem clock_c (x : Int)  (w : World) : Calls Tryz.prog 62 [.int .u64 x].toArray w fun e w' => e = .returned (.agg (byC (clockL x)).toArray) ∧ Below w.heap.size w w' := by
  refine V.calls [] Tryz.func62 rfl Tryz.ntmps62 (Nat.le_of_ble_eq_true rfl) (V.sat_nil _) <| Sq <| Rg <| Le (AA (l := byC z64.1) (hz := by exact Tryz.zeroValue158)) fun b2 _ => Nl <| Ps <| Sq <| Rg <| Le (Eff.buildSlice rfl (byC clkBase) Tryz.underlying35 Tryz.sizeOf5 (by exact Tryz.zeroValue5) rfl rfl rfl rfl (by rfl)) fun b6 _ => Lv Mv <| Le (CM [] fun w hw hs0 => put_c clkBase _ 9 1 8 x (by decide) (by decide) (by decide) w (V.slAt_flat (r := []) hw byE_len (by rfl) (show InS (b6, .cells (byC clkBase).toArray 5 (0, 0)) _ from (by repeat (first | exact .here | exact .inner .here | exact .inner (.inner .here) | refine .there ?_))))) fun o ho => ?_
  rw [putR_fit (fit8 x), fit8 x] at *
  obtain ⟨gb, rest, cap, rfl⟩ := some_of ho (by rw [putN_len]; decide)
  refine Lv Mv <| Lv Ex <| Lv Ex <| Lv Av <| LW.re 3 (.slice (some ⟨gb, 0, none⟩) (putN clkBase 1 x 8).length cap) rfl (by rfl) <| Lv Av <| Nl <| Ps <| Sq <| Rg <| Lv Mv <| Le (CV fun w hw => sealed_c (putN clkBase 1 x 8) _ cap (by rw [putN_len]; decide) (by rw [putN_len]; decide) w (V.slAt_flat hw byE_len rfl (show InS (gb, .cells ((putN clkBase 1 x 8).flatMap byE ++ rest).toArray 5 (0, 0)) _ from (by repeat (first | exact .here | exact .inner .here | exact .inner (.inner .here) | refine .there ?_))))) fun _ _ => LeN (StW (cs := byC (clockL x)) (hlen := by rw [V.byC_len (clockL x), clockL_len]; exact byC64 z64) (hs := by rw [V.byC_len, clockL_len]; exact Tryz.sizeOf158) (h1 := V.byC_one _)) fun _ _ => Nl <| Ps <| Rt <| V.PQ.retC (l := byC (clockL x)) rfl rfl (by repeat (first | exact .here | exact .inner .here | exact .inner (.inner .here) | refine .there ?_)) Tryz.isAgg158 (by rw [V.byC_len, clockL_len]; exact Tryz.sizeOf158) ?_
  intro w' hw; exact ⟨rfl, hw.below⟩
theorem Super_c (n : Nat) (h : 10 ≤ n ∧ n ≤ 258) (w : World) : Calls Tryz.prog 58 [.int .i64 (n : Nat)].toArray w fun e w' => ∃ b : Nat, True ∧ e = .returned (.tuple #[.slice (some ⟨b, 0, none⟩) 64 64, .int .i64 0]) ∧ Hp ⟨w, []⟩ [[(b, .cells (byC (superL (n : Nat))).toArray 158 (0, 0))]] w' := by
  refine V.calls [] Tryz.func58 rfl Tryz.ntmps58 (Nat.le_of_ble_eq_true rfl) (V.sat_nil _) <| Sq <| Rg <| Lv Av <| Lv Av <| Nl <| Ps <| Sq <| Sq <| Rg <| Lv Mv <| Lv Cm <| LW.re 6 (.bool false) rfl (by simp <;> omega) <| Lv Mv <| Lv Mv <| Lv Cm <| LW.re 9 (.bool false) rfl (by simp <;> omega) <| Lv Pf <| Nl <| Ps <| Cf <| Sk <| Ps <| Sq <| Rg <| Lv Mv <| Le (CV fun w hw => super_c (n : Nat) (by omega) w) fun _ _ => Le (AA (l := byC z64.1) (hz := by exact Tryz.zeroValue158)) fun b4 _ => LeN (StW (cs := byC (superL (n : Nat))) (hlen := by rw [V.byC_len (superL (n : Nat)), superL_len]; exact byC64 z64) (hs := by rw [V.byC_len, superL_len]; exact Tryz.sizeOf158) (h1 := V.byC_one _)) fun _ _ => Nl <| Ps <| Sq <| Rg <| Lv (Val.sliceArr 0 64 rfl Tryz.underlying158 Tryz.sizeOf5 rfl rfl (by omega) (by omega)) <| LW.re 13 (.slice (some ⟨b4, 0, none⟩) 64 64) rfl (by simp) <| Lv Av <| Lv Av <| Nl <| Ps <| Rt <| Rt2 ?_
  intro w' hw; exact ⟨b4, trivial, rfl, hw.pick (by repeat (first | exact .nil | apply Pick.cons | exact .here | apply Ext.there))⟩
theorem Clock_c (v : Int) (w : World) : Calls Tryz.prog 34 [.int .u64 v].toArray w fun e w' => ∃ b : Nat, True ∧ e = .returned (.slice (some ⟨b, 0, none⟩) 64 64) ∧ Hp ⟨w, []⟩ [[(b, .cells (byC (clockL v)).toArray 158 (0, 0))]] w' := by
  refine V.calls [] Tryz.func34 rfl Tryz.ntmps34 (Nat.le_of_ble_eq_true rfl) (V.sat_nil _) <| Sq <| Rg <| Lv Av <| Nl <| Ps <| Sq <| Rg <| Lv Mv <| Le (CV fun w hw => clock_c v w) fun _ _ => Le (AA (l := byC z64.1) (hz := by exact Tryz.zeroValue158)) fun b3 _ => LeN (StW (cs := byC (clockL v)) (hlen := by rw [V.byC_len (clockL v), clockL_len]; exact byC64 z64) (hs := by rw [V.byC_len, clockL_len]; exact Tryz.sizeOf158) (h1 := V.byC_one _)) fun _ _ => Nl <| Ps <| Sq <| Rg <| Lv (Val.sliceArr 0 64 rfl Tryz.underlying158 Tryz.sizeOf5 rfl rfl (by omega) (by omega)) <| LW.re 6 (.slice (some ⟨b3, 0, none⟩) 64 64) rfl (by simp) <| Lv Av <| Nl <| Ps <| Rt <| Rt1 ?_
  intro w' hw; exact ⟨b3, trivial, rfl, hw.pick (by repeat (first | exact .nil | apply Pick.cons | exact .here | apply Ext.there))⟩
theorem whole_c (b : B64) (p : Option Addr) (cp : Nat) (w : World) (hp : V.slAt w p 1 byE b.1) : Calls Tryz.prog 143 [.slice p 64 cp].toArray w fun e w' => e = .returned (.tuple #[.agg (byC b.1).toArray, .bool true]) ∧ Below w.heap.size w w' := by
  obtain ⟨pb, po, rfl, hpr⟩ := sl_range (F := []) byE_len hp (by rw [b.2]; omega) (by simp)
  have hpb : pb < w.heap.size := by
    rcases hp with h8 | ⟨b2, o2, h8, h9, _⟩
    · have := b.2; rw [h8] at this; simp at this
    · simp only [Option.some.injEq, Addr.mk.injEq] at h8; obtain ⟨rfl, _⟩ := h8; exact h9
  refine V.calls [] Tryz.func143 rfl Tryz.ntmps143 (Nat.le_of_ble_eq_true rfl) (V.sat_nil _) <| Sq <| Rg <| Le (AA (l := byC z64.1) (hz := by exact Tryz.zeroValue158)) fun b2 _ => Lv Av <| Nl <| Ps <| Sq <| Sq <| Rg <| Lv Mv <| Lv Ln <| Lv Cm <| LW.re 6 (.bool false) rfl (by rfl) <| Nl <| Ps <| Cf <| Sk <| Ps <| Sq <| Rg <| Lv Mv <| Lv (Val.arrPtr rfl Tryz.underlying158 (Nat.le_refl _)) <| Lv (Val.loadOA (cs := byC b.1) rfl Tryz.isAgg158 hpb (by simp [ids]) (by rw [byC_flat]; exact hpr w (V.hp_none w)) (by rw [V.byC_len, b.2]; exact Tryz.sizeOf158)) <| LeN (StW (cs := byC b.1) (hlen := by rw [byC64, byC64]) (hs := by rw [byC64]; exact Tryz.sizeOf158) (h1 := V.byC_one _)) fun _ _ => Lv Av <| Nl <| Ps <| Rt <| V.PQ.retCT (l := byC b.1) rfl rfl rfl (by repeat (first | exact .here | exact .inner .here | exact .inner (.inner .here) | refine .there ?_)) Tryz.isAgg158 (by rw [byC64]; exact Tryz.sizeOf158) ?_
  intro w' hw; exact ⟨rfl, hw.below⟩
def isSuperF (b : B64) : Int × Bool := if getN b.1 5 4 < 10 ∨ 258 < getN b.1 5 4 then (0, false) else if b.1 = superL (IntKind.i64.wrap (getN b.1 5 4)) then (IntKind.i64.wrap (getN b.1 5 4), true) else (0, false)
def isClockF (b : B64) : Int × Bool := if b.1 = clockL (getN b.1 1 8) then (getN b.1 1 8, true) else (0, false)
theorem isSuper_c (b : B64) (p : Option Addr) (cp : Nat) (w : World) (hp : V.slAt w p 1 byE b.1) : Calls Tryz.prog 111 [.slice p 64 cp].toArray w fun e w' => e = .returned (.tuple #[.int .i64 (isSuperF b).1, .bool (isSuperF b).2]) ∧ Below w.heap.size w w' := by
  refine V.calls [] Tryz.func111 rfl Tryz.ntmps111 (Nat.le_of_ble_eq_true rfl) (V.sat_nil _) <| Sq <| Rg <| Lv Av <| Lv Av <| Nl <| Ps <| Sq <| Rg <| Lv Mv <| Le (CV fun w hw => whole_c b p cp w (hw.slAt hp (by simp [ids]))) fun _ _ => Lv Mv <| Lv Ex <| Lv Ex <| Le (AA (l := byC z64.1) (hz := by exact Tryz.zeroValue158)) fun b4 _ => LeN (StW (cs := byC b.1) (hlen := by rw [byC64, byC64]) (hs := by rw [byC64]; exact Tryz.sizeOf158) (h1 := V.byC_one _)) fun _ _ => Lv Av <| Nl <| Ps <| Sq <| Sq <| Rg <| Lv Mv <| Lv Nt <| LW.re 14 (.bool false) rfl (by rfl) <| Nl <| Ps <| Cf <| Sk <| Ps <| Sq <| Rg <| Lv Mv <| Le (CV fun w hw => (by have h8 := get_c b.1 p cp 5 4 (by omega) (by rw [b.2]; omega) (by rw [b.2]; omega) w (hw.slAt hp (by simp [ids])); rw [b.2] at h8; exact h8)) fun _ _ => Lv Mv <| Lv Ex <| Lv Ex <| Lv Av <| Lv Av <| Nl <| Ps <| Sq <| Sq <| Qt <| Qv Mv <| Qv Cm <| Qv Mv ?_
  refine QW.split (d := 22) rfl (fun h22 => ?_) (fun h22 => ?_)
  · replace h22 := bT h22
    have h22 : getN b.1 5 4 < 10 := h22
    refine Qp <| Qp <| Qv Pt <| Qv Mv <| Qp <| Qp <| Qp <| Qp <| Qp <| Qv Pt <| Ql <| Ps <| Ct <| Sq <| Rg <| Lv Av <| Lv Av <| Nl <| Ps <| Rt <| Tr <| Rt2 ?_
    have e8 : isSuperF b = (0, false) := by
      unfold isSuperF
      rw [if_pos (by omega)]
    rw [e8]
    intro w' hw; exact ⟨rfl, hw.below⟩
  · replace h22 := bF h22
    have h22 : 10 ≤ getN b.1 5 4 := h22
    refine Qv Mv <| Qv Cm <| Qv Pf <| Qv Mv ?_
    refine QW.split (d := 26) rfl (fun h26 => ?_) (fun h26 => ?_)
    · replace h26 := bT h26
      have h26 : 258 < getN b.1 5 4 := h26
      refine Qp <| Qp <| Qp <| Qp <| Qp <| Qv Pt <| Ql <| Ps <| Ct <| Sq <| Rg <| Lv Av <| Lv Av <| Nl <| Ps <| Rt <| Tr <| Rt2 ?_
      have e8 : isSuperF b = (0, false) := by
        unfold isSuperF
        rw [if_pos (by omega)]
      rw [e8]
      intro w' hw; exact ⟨rfl, hw.below⟩
    · replace h26 := bF h26
      have h26 : getN b.1 5 4 ≤ 258 := h26
      refine Qv (Lw (l := byC b.1) (hs := by rw [byC64]; exact Tryz.sizeOf158)) <| Qv Mv <| Qv Cv <| Qc (QV fun w hw => super_c (IntKind.i64.wrap (getN b.1 5 4)) (by rw [IntWalk.i64_in _ (by omega)]; omega) w) <| Qv (Val.neBy (a := b.1) (b := superL (IntKind.i64.wrap (getN b.1 5 4))) rfl rfl (by kernel_rfl) Tryz.underlying158 Tryz.underlying5 Tryz.sizeOf5 b.2 (superL_len _)) <| Qv Pf <| Ql <| Ps ?_
      refine CW.cond rfl (fun h32 => ?_) (fun h32 => ?_)
      · replace h32 := bT h32
        have h32 : ¬ b.1 = superL (IntKind.i64.wrap (getN b.1 5 4)) := by simpa using h32
        refine Sq <| Rg <| Lv Av <| Lv Av <| Nl <| Ps <| Rt <| Tr <| Rt2 ?_
        have e8 : isSuperF b = (0, false) := by
          unfold isSuperF
          rw [if_neg (by omega), if_neg h32]
        rw [e8]
        intro w' hw; exact ⟨rfl, hw.below⟩
      · replace h32 := bF h32
        have h32 : b.1 = superL (IntKind.i64.wrap (getN b.1 5 4)) := by simpa using h32
        refine Sk <| Ps <| Sq <| Rg <| Lv Mv <| Lv Cv <| Lv Av <| Lv Av <| Nl <| Ps <| Rt <| Rt2 ?_
        have e8 : isSuperF b = (IntKind.i64.wrap (getN b.1 5 4), true) := by unfold isSuperF; rw [if_neg (by omega), if_pos h32]
        rw [e8]
        intro w' hw; exact ⟨rfl, hw.below⟩
theorem isClock_c (b : B64) (p : Option Addr) (cp : Nat) (w : World) (hp : V.slAt w p 1 byE b.1) : Calls Tryz.prog 112 [.slice p 64 cp].toArray w fun e w' => e = .returned (.tuple #[.int .u64 (isClockF b).1, .bool (isClockF b).2]) ∧ Below w.heap.size w w' := by
  refine V.calls [] Tryz.func112 rfl Tryz.ntmps112 (Nat.le_of_ble_eq_true rfl) (V.sat_nil _) <| Sq <| Rg <| Lv Av <| Lv Av <| Nl <| Ps <| Sq <| Rg <| Lv Mv <| Le (CV fun w hw => whole_c b p cp w (hw.slAt hp (by simp [ids]))) fun _ _ => Lv Mv <| Lv Ex <| Lv Ex <| Le (AA (l := byC z64.1) (hz := by exact Tryz.zeroValue158)) fun b4 _ => LeN (StW (cs := byC b.1) (hlen := by rw [byC64, byC64]) (hs := by rw [byC64]; exact Tryz.sizeOf158) (h1 := V.byC_one _)) fun _ _ => Lv Av <| Nl <| Ps <| Sq <| Sq <| Rg <| Lv Mv <| Lv Nt <| LW.re 14 (.bool false) rfl (by rfl) <| Nl <| Ps <| Cf <| Sk <| Ps <| Sq <| Rg <| Lv Mv <| Le (CV fun w hw => (by have h8 := get_c b.1 p cp 1 8 (by omega) (by rw [b.2]; omega) (by rw [b.2]; omega) w (hw.slAt hp (by simp [ids])); rw [b.2] at h8; exact h8)) fun _ _ => Lv Mv <| Lv Ex <| Lv Ex <| Lv Av <| Lv Av <| Nl <| Ps <| Sq <| Sq <| Qt <| Qv (Lw (l := byC b.1) (hs := by rw [byC64]; exact Tryz.sizeOf158)) <| Qv Mv <| Qc (QV fun w hw => clock_c (getN b.1 1 8) w) <| Qv (Val.neBy (a := b.1) (b := clockL (getN b.1 1 8)) rfl rfl (by kernel_rfl) Tryz.underlying158 Tryz.underlying5 Tryz.sizeOf5 b.2 (clockL_len _)) <| Ql <| Ps ?_
  refine CW.cond rfl (fun h23 => ?_) (fun h23 => ?_)
  · replace h23 := bT h23
    have h23 : ¬ b.1 = clockL (getN b.1 1 8) := by simpa using h23
    refine Sq <| Rg <| Lv Av <| Lv Av <| Nl <| Ps <| Rt <| Tr <| Rt2 ?_
    have e8 : isClockF b = (0, false) := by unfold isClockF; rw [if_neg h23]
    rw [e8]
    intro w' hw; exact ⟨rfl, hw.below⟩
  · replace h23 := bF h23
    have h23 : b.1 = clockL (getN b.1 1 8) := by simpa using h23
    refine Sk <| Ps <| Sq <| Rg <| Lv Mv <| Lv Av <| Lv Av <| Nl <| Ps <| Rt <| Rt2 ?_
    have e8 : isClockF b = (getN b.1 1 8, true) := by unfold isClockF; rw [if_pos h23]
    rw [e8]
    intro w' hw; exact ⟨rfl, hw.below⟩
end Go.Proofs.YtcnjjefbnlgdjaaGreat

/- A device made ready, and opened; heads; slabs. -/
namespace Go.Proofs.YtcnjjefbnlgdjaaGreat
open Go Go.RowKit V
set_option linter.unusedVariables false
set_option maxRecDepth 100000
instance : Cal Tryz.prog 12 := ⟨Tryz.call12⟩
instance : Cal Tryz.prog 33 := ⟨Tryz.call33⟩
instance : Cal Tryz.prog 34 := ⟨Tryz.call34⟩
instance : Cal Tryz.prog 43 := ⟨Tryz.call43⟩
instance : Cal Tryz.prog 58 := ⟨Tryz.call58⟩
instance : Cal Tryz.prog 59 := ⟨Tryz.call59⟩
instance : Cal Tryz.prog 60 := ⟨Tryz.call60⟩
instance : Cal Tryz.prog 61 := ⟨Tryz.call61⟩
instance : Cal Tryz.prog 111 := ⟨Tryz.call111⟩
instance : Cal Tryz.prog 112 := ⟨Tryz.call112⟩
open V (str byC ownV ownG ownS ownOk)
theorem putB_all (b l : B64) (h : 0 + l.1.length ≤ 64) : putB b 0 l.1 h = l := by
  apply Subtype.ext
  show b.1.take 0 ++ l.1 ++ b.1.drop (0 + l.1.length) = l.1
  rw [List.take_zero, List.nil_append, List.drop_eq_nil_iff.2 (by rw [b.2, l.2]; omega), List.append_nil]
def frm (r : B64) : Ce := ⟨r, r, r, false⟩
/-- A device that is ready, of m lines more than two. -/
def fmtD (m : Nat) : List Ce := frm (superB ((m + 2 : Nat) : Int)) :: frm (clockB 0) :: List.replicate m ce0
theorem own64 (b : B64) (o : V.OwnO) (ho : ownOk 1 64 (b.1.flatMap byE) o) : ∃ (p : Option Addr) (cp : Nat), ownV 64 o = .slice p 64 cp ∧ ∀ {B : V.Base} {sg r : V.Sg} {w : World}, Hp B sg w → Pick [ownG 5 (b.1.flatMap byE) o] sg r → V.slAt w p 1 byE b.1 := by
  obtain ⟨p, c, h1, _, h2⟩ := own_slg (e := 5) byE_len b.1 o (by rw [b.2]; exact ho)
  rw [b.2] at h1
  exact ⟨p, c, h1, h2⟩
theorem format_c (db cb m : Nat) (k : Cnt) (hm : 8 ≤ m ∧ m ≤ 256) (w : World) (hs : Sat (devS db cb (List.replicate (m + 2) ce0) k) w) : Calls Tryz.prog 31 [.pointer (some ⟨db, 0, none⟩)].toArray w fun e w' => ∃ k' : Cnt, True ∧ e = .returned (.int .i64 0) ∧ Hp ⟨w, V.ids (devS db cb (List.replicate (m + 2) ce0) k)⟩ (devS db cb (fmtD m) k') w' := by
  refine V.calls (devS db cb (List.replicate (m + 2) ce0) k) Tryz.func31 rfl Tryz.ntmps31 (Nat.le_of_ble_eq_true rfl) hs <| Sq <| Rg <| Lv Av <| Nl <| Ps <| Sq <| Sq <| Rg <| Lv Mv <| Lv EP <| Nl <| Ps <| Cf <| Sk <| Ps <| Sq <| Rg <| Lv Mv <| Le (CV fun w hw => lines_c db cb (List.replicate (m + 2) ce0) k w hw.at) fun _ _ => LW.re 9 (.int .i64 ((m + 2 : Nat) : Int)) rfl (by rw [List.length_replicate]) <| Le (CM [] fun w hw hs => Super_c (m + 2) (by omega) w) fun b1 _ => Lv Mv <| Lv Ex <| Lv Ex <| Lv Av <| Lv Av <| Nl <| Ps <| Sq <| Sq <| Rg <| Lv Mv <| Lv Cm <| LW.re 14 (.bool false) rfl (by rfl) <| Nl <| Ps <| Cf <| Sk <| Ps <| Sq <| Rg <| Lv Mv <| Lv Mv <| Le (CM (devS db cb (List.replicate (m + 2) ce0) k) fun w hw hs => store_c db cb (List.replicate (m + 2) ce0) k 0 0 (superB ((m + 2 : Nat) : Int)).1 ce0 _ 64 64 (superB ((m + 2 : Nat) : Int)).2.symm rfl (by rw [(superB ((m + 2 : Nat) : Int)).2]; omega) (by rw [(superB ((m + 2 : Nat) : Int)).2]; omega) w hs (V.slAt_flat (r := []) hw byE_len (by rw [byC_flat, List.append_nil]) (show InS (b1, .cells (byC (superB ((m + 2 : Nat) : Int)).1).toArray 158 (0, 0)) _ from (by repeat (first | exact .here | exact .inner .here | exact .inner (.inner .here) | refine .there ?_)))) (fun b o hb => by simp only [Option.some.injEq, Addr.mk.injEq] at hb; obtain ⟨rfl, _⟩ := hb; exact not_in hw (show Pick (devS db cb (List.replicate (m + 2) ce0) k) _ _ from (by repeat (first | exact .nil | apply Pick.cons | exact .here | apply Ext.there))) (show InS (b1, .cells (byC (superB ((m + 2 : Nat) : Int)).1).toArray 158 (0, 0)) _ from (by repeat (first | exact .here | exact .inner .here | exact .inner (.inner .here) | refine .there ?_))))) fun k1 _ => ?_
  rw [putB_all]
  refine Nl <| Ps <| Sq <| Rg <| Lv Mv <| Le (CM [] fun w hw hs => Clock_c 0 w) fun b2 _ => Le (CM (devS db cb ((List.replicate (m + 2) ce0).set 0 ({ ce0 with now := (superB ((m + 2 : Nat) : Int)) } : Ce)) k1) fun w hw hs => store_c db cb ((List.replicate (m + 2) ce0).set 0 ({ ce0 with now := (superB ((m + 2 : Nat) : Int)) } : Ce)) k1 1 0 (clockB 0).1 ce0 _ 64 64 (clockB 0).2.symm rfl (by rw [(clockB 0).2]; omega) (by rw [(clockB 0).2]; omega) w hs (V.slAt_flat (r := []) hw byE_len (by rw [byC_flat, List.append_nil]) (show InS (b2, .cells (byC (clockB 0).1).toArray 158 (0, 0)) _ from (by repeat (first | exact .here | exact .inner .here | exact .inner (.inner .here) | refine .there ?_)))) (fun b o hb => by simp only [Option.some.injEq, Addr.mk.injEq] at hb; obtain ⟨rfl, _⟩ := hb; exact not_in hw (show Pick (devS db cb ((List.replicate (m + 2) ce0).set 0 ({ ce0 with now := (superB ((m + 2 : Nat) : Int)) } : Ce)) k1) _ _ from (by repeat (first | exact .nil | apply Pick.cons | exact .here | apply Ext.there))) (show InS (b2, .cells (byC (clockB 0).1).toArray 158 (0, 0)) _ from (by repeat (first | exact .here | exact .inner .here | exact .inner (.inner .here) | refine .there ?_))))) fun k2 _ => ?_
  rw [putB_all]
  refine Nl <| Ps <| Sq <| Rg <| Lv Mv <| Le (CM (devS db cb (((List.replicate (m + 2) ce0).set 0 ({ ce0 with now := (superB ((m + 2 : Nat) : Int)) } : Ce)).set 1 ({ ce0 with now := (clockB 0) } : Ce)) k2) fun w hw hs => flush_c db cb (((List.replicate (m + 2) ce0).set 0 ({ ce0 with now := (superB ((m + 2 : Nat) : Int)) } : Ce)).set 1 ({ ce0 with now := (clockB 0) } : Ce)) k2 0 ({ ce0 with now := (superB ((m + 2 : Nat) : Int)) } : Ce) rfl w hs) fun k3 _ => Nl <| Ps <| Sq <| Rg <| Lv Mv <| Le (CM (devS db cb ((((List.replicate (m + 2) ce0).set 0 ({ ce0 with now := (superB ((m + 2 : Nat) : Int)) } : Ce)).set 1 ({ ce0 with now := (clockB 0) } : Ce)).set 0 ({ ({ ce0 with now := (superB ((m + 2 : Nat) : Int)) } : Ce) with way := ({ ce0 with now := (superB ((m + 2 : Nat) : Int)) } : Ce).now, sent := true } : Ce)) k3) fun w hw hs => flush_c db cb ((((List.replicate (m + 2) ce0).set 0 ({ ce0 with now := (superB ((m + 2 : Nat) : Int)) } : Ce)).set 1 ({ ce0 with now := (clockB 0) } : Ce)).set 0 ({ ({ ce0 with now := (superB ((m + 2 : Nat) : Int)) } : Ce) with way := ({ ce0 with now := (superB ((m + 2 : Nat) : Int)) } : Ce).now, sent := true } : Ce)) k3 1 ({ ce0 with now := (clockB 0) } : Ce) rfl w hs) fun k4 _ => Nl <| Ps <| Sq <| Rg <| Lv Mv <| Le (CM (devS db cb (((((List.replicate (m + 2) ce0).set 0 ({ ce0 with now := (superB ((m + 2 : Nat) : Int)) } : Ce)).set 1 ({ ce0 with now := (clockB 0) } : Ce)).set 0 ({ ({ ce0 with now := (superB ((m + 2 : Nat) : Int)) } : Ce) with way := ({ ce0 with now := (superB ((m + 2 : Nat) : Int)) } : Ce).now, sent := true } : Ce)).set 1 ({ ({ ce0 with now := (clockB 0) } : Ce) with way := ({ ce0 with now := (clockB 0) } : Ce).now, sent := true } : Ce)) k4) fun w hw hs => fence_c db cb (((((List.replicate (m + 2) ce0).set 0 ({ ce0 with now := (superB ((m + 2 : Nat) : Int)) } : Ce)).set 1 ({ ce0 with now := (clockB 0) } : Ce)).set 0 ({ ({ ce0 with now := (superB ((m + 2 : Nat) : Int)) } : Ce) with way := ({ ce0 with now := (superB ((m + 2 : Nat) : Int)) } : Ce).now, sent := true } : Ce)).set 1 ({ ({ ce0 with now := (clockB 0) } : Ce) with way := ({ ce0 with now := (clockB 0) } : Ce).now, sent := true } : Ce)) k4 (by simp; omega) w hs) ?_
  intro k5 _
  refine Nl <| Ps <| Sq <| Rg <| Lv Av <| Nl <| Ps <| Rt <| Rt1 ?_
  have e9 : (((((List.replicate (m + 2) ce0).set 0 ({ ce0 with now := (superB ((m + 2 : Nat) : Int)) } : Ce)).set 1 ({ ce0 with now := (clockB 0) } : Ce)).set 0 ({ ({ ce0 with now := (superB ((m + 2 : Nat) : Int)) } : Ce) with way := ({ ce0 with now := (superB ((m + 2 : Nat) : Int)) } : Ce).now, sent := true } : Ce)).set 1 ({ ({ ce0 with now := (clockB 0) } : Ce) with way := ({ ce0 with now := (clockB 0) } : Ce).now, sent := true } : Ce)).map fenB = fmtD m := by
    show fenB ({ ({ ce0 with now := (superB ((m + 2 : Nat) : Int)) } : Ce) with way := ({ ce0 with now := (superB ((m + 2 : Nat) : Int)) } : Ce).now, sent := true } : Ce) :: fenB ({ ({ ce0 with now := (clockB 0) } : Ce) with way := ({ ce0 with now := (clockB 0) } : Ce).now, sent := true } : Ce) :: (List.replicate m ce0).map fenB = _
    rw [List.map_replicate]
    rfl
  rw [e9]
  intro w' hw; exact ⟨k5, trivial, rfl, hw.pick (by repeat (first | exact .nil | apply Pick.cons | exact .here | apply Ext.there))⟩
theorem open_bad (db cb : Nat) (D : List Ce) (k : Cnt) (c0 : Ce) (h0 : D[0]? = some c0) (hb : (isSuperF c0.now).2 = false) (hL : D.length ≤ 1000) (w : World) (hs : Sat (devS db cb D k) w) : Calls Tryz.prog 92 [.pointer (some ⟨db, 0, none⟩)].toArray w fun e w' => e = .returned (.tuple #[.int .u64 0, .int .i64 3]) ∧ Below w.heap.size w w' := by
  have hi := (List.getElem?_eq_some_iff.1 h0).1
  refine V.calls (devS db cb D k) Tryz.func92 rfl Tryz.ntmps92 (Nat.le_of_ble_eq_true rfl) hs <| Sq <| Rg <| Lv Av <| Lv Av <| Nl <| Ps <| Sq <| Sq <| Rg <| Lv Mv <| Lv EP <| Nl <| Ps <| Cf <| Sk <| Ps <| Sq <| Rg <| Lv Mv <| Le (CM [] fun w hw hs => load_c db cb D k 0 c0 h0 w hw.pk.sat) fun o ho => ?_
  obtain ⟨p, cp, hv, hsl⟩ := own64 c0.now o ho
  refine Lv Mv <| Lv Ex <| LW.re 17 (.slice p 64 cp) rfl hv <| Lv Ex <| Lv Av <| Lv Av <| Nl <| Ps <| Sq <| Rg <| Lv Mv <| Le (CV fun w hw => isSuper_c c0.now p cp w (hsl hw (by repeat (first | exact .nil | apply Pick.cons | exact .here | apply Ext.there)))) fun _ _ => Lv Mv <| Lv Ex <| Lv Ex <| Lv Av <| Lv Av <| Nl <| Ps <| Sq <| Sq <| Rg <| Lv Mv <| Lv Nt <| LW.re 25 (.bool true) rfl (by rw [hb]; rfl) <| Lv Mv <| Lp <| Lp <| Lp <| Lp <| Lv Pt <| Nl <| Ps <| Ct <| Sq <| Rg <| Lv Av <| Lv Av <| Nl <| Ps <| Rt <| Tr <| Rt2 ?_
  intro w' hw; exact ⟨by rfl, hw.ro (by repeat (first | exact .nil | apply Pick.cons | exact .here | apply Ext.there)) hs⟩
theorem open_good (db cb : Nat) (D : List Ce) (k : Cnt) (c0 c1 : Ce) (h0 : D[0]? = some c0) (h1 : D[1]? = some c1) (v : Int) (hb : isSuperF c0.now = (((D.length : Nat) : Int), true)) (hc : isClockF c1.now = (v, true)) (hv9 : v ≤ 1152921504606846976) (hL : D.length ≤ 1000) (w : World) (hs : Sat (devS db cb D k) w) : Calls Tryz.prog 92 [.pointer (some ⟨db, 0, none⟩)].toArray w fun e w' => e = .returned (.tuple #[.int .u64 v, .int .i64 0]) ∧ Below w.heap.size w w' := by
  have hi := (List.getElem?_eq_some_iff.1 h0).1
  refine V.calls (devS db cb D k) Tryz.func92 rfl Tryz.ntmps92 (Nat.le_of_ble_eq_true rfl) hs <| Sq <| Rg <| Lv Av <| Lv Av <| Nl <| Ps <| Sq <| Sq <| Rg <| Lv Mv <| Lv EP <| Nl <| Ps <| Cf <| Sk <| Ps <| Sq <| Rg <| Lv Mv <| Le (CM [] fun w hw hs => load_c db cb D k 0 c0 h0 w hw.pk.sat) fun o ho => ?_
  obtain ⟨p, cp, hv, hsl⟩ := own64 c0.now o ho
  refine Lv Mv <| Lv Ex <| LW.re 17 (.slice p 64 cp) rfl hv <| Lv Ex <| Lv Av <| Lv Av <| Nl <| Ps <| Sq <| Rg <| Lv Mv <| Le (CV fun w hw => isSuper_c c0.now p cp w (hsl hw (by repeat (first | exact .nil | apply Pick.cons | exact .here | apply Ext.there)))) fun _ _ => Lv Mv <| Lv Ex <| Lv Ex <| Lv Av <| Lv Av <| Nl <| Ps <| Sq <| Sq <| Rg <| Lv Mv <| Lv Nt <| LW.re 25 (.bool false) rfl (by rw [hb]; rfl) <| Lv Mv <| Lv Mv <| Lv Mv <| Le (CV fun w hw => lines_c db cb D k w hw.at) fun _ _ => Lv Cm <| LW.re 30 (.bool false) rfl (by rw [hb]; simp) <| Lv Pf <| Nl <| Ps <| Cf <| Sk <| Ps <| Sq <| Rg <| Lv Mv <| Le (CM [] fun w hw hs => load_c db cb D k 1 c1 h1 w hw.pk.sat) fun o2 ho2 => ?_
  obtain ⟨p2, cp2, hv2, hsl2⟩ := own64 c1.now o2 ho2
  refine Lv Mv <| Lv Ex <| LW.re 35 (.slice p2 64 cp2) rfl hv2 <| Lv Ex <| Lv Av <| Lv Av <| Nl <| Ps <| Sq <| Rg <| Lv Mv <| Le (CV fun w hw => isClock_c c1.now p2 cp2 w (hsl2 hw (by repeat (first | exact .nil | apply Pick.cons | exact .here | apply Ext.there)))) fun _ _ => Lv Mv <| Lv Ex <| Lv Ex <| Lv Av <| Lv Av <| Nl <| Ps <| Sq <| Sq <| Rg <| Lv Mv <| Lv Nt <| LW.re 43 (.bool false) rfl (by rw [hc]; rfl) <| Nl <| Ps <| Cf <| Sk <| Ps <| Sq <| Sq <| Rg <| Lv Mv <| Lv Cm <| LW.re 45 (.bool false) rfl (by rw [hc]; simp; omega) <| Nl <| Ps <| Cf <| Sk <| Ps <| Sq <| Rg <| Lv Mv <| LW.re 46 (.int .u64 v) rfl (by rw [hc]) <| Lv Av <| Lv Av <| Nl <| Ps <| Rt <| Rt2 ?_
  intro w' hw; exact ⟨by rfl, hw.ro (by repeat (first | exact .nil | apply Pick.cons | exact .here | apply Ext.there)) hs⟩
theorem slabs_c (n : Nat) (h : 10 ≤ n ∧ n ≤ 258) (w : World) : Calls Tryz.prog 95 [.int .i64 (n : Nat)].toArray w fun e w' => e = .returned (.int .i64 (((n - 2) / 8 : Nat) : Int)) ∧ Below w.heap.size w w' := by
  refine V.calls [] Tryz.func95 rfl Tryz.ntmps95 (Nat.le_of_ble_eq_true rfl) (V.sat_nil _) <| Sq <| Rg <| Lv Av <| Nl <| Ps <| Sq <| Sq <| Rg <| Lv Mv <| Lv Cm <| LW.re 4 (.bool false) rfl (by simp <;> omega) <| Nl <| Ps <| Cf <| Sk <| Ps <| Sq <| Rg <| Lv Mv <| Lv (Val.minI rfl rfl) <| LW.re 6 (.int .i64 ((n : Nat) : Int)) rfl (by congr 1; split <;> omega) <| Lv Ar <| Lv (Val.quo rfl rfl (by omega)) <| LW.re 8 (.int .i64 (((n - 2) / 8 : Nat) : Int)) rfl (by congr 1; rw [Int.tdiv_eq_ediv_of_nonneg (by omega), IntWalk.i64_in _ (by omega)]; omega) <| Lv Av <| Nl <| Ps <| Rt <| Rt1 ?_
  intro w' hw; exact ⟨by rfl, hw.below⟩
theorem head0_c (b : B64) (u : UInt8) (hu : b.1[0]? = some u) (h1 : u ≠ 1) (p : Option Addr) (cp : Nat) (w : World) (hp : V.slAt w p 1 byE b.1) : Calls Tryz.prog 15 [.slice p 64 cp].toArray w fun e w' => e = .returned (.tuple #[.int .i64 0, .int .i64 0, .bool false]) ∧ Below w.heap.size w w' := by
  obtain ⟨pb, po, x, rfl, hpb, hx, hpr⟩ := V.slAt_at hp b.2 (k := 0) (by omega)
  obtain rfl : x = u := by rw [hx] at hu; cases hu; rfl
  refine V.calls [] Tryz.func15 rfl Tryz.ntmps15 (Nat.le_of_ble_eq_true rfl) (V.sat_nil _) <| Sq <| Rg <| Lv Av <| Lv Av <| Lv Av <| Nl <| Ps <| Sq <| Sq <| Rg <| Lv Mv <| Lv Ln <| Lv Cm <| LW.re 7 (.bool false) rfl (by rfl) <| Lv Mv <| Lv Mv <| Lv (Val.indexAddrN (i := 0) rfl rfl Tryz.underlying35 Tryz.sizeOf5 (by omega)) <| Lv (Val.loadO rfl Tryz.isAgg5 hpb (by simp [ids]) (hpr 0 x hx 0 _ rfl)) <| Lv Cm <| LW.re 12 (.bool true) rfl (by have h9 : ¬ (((x.toNat : Nat) : Int) = 1) := fun h8 => h1 (UInt8.toNat_inj.1 (show x.toNat = 1 by omega)); congr 1; simp; omega) <| Lv Pf <| Lv Mv <| Lp <| Lp <| Lp <| Lp <| Lp <| Lp <| Lv Pt <| Lv Mv <| Lp <| Lp <| Lp <| Lp <| Lv Pt <| Nl <| Ps <| Ct <| Sq <| Rg <| Lv Av <| Lv Av <| Lv Av <| Nl <| Ps <| Rt <| Tr <| Rt3 ?_
  intro w' hw; exact ⟨by rfl, hw.below⟩
end Go.Proofs.YtcnjjefbnlgdjaaGreat

/- A small calculus of symbolic states, part 30: array literals; loops that are walked round by round. No program in sight. -/
namespace Go.Proofs.YtcnjjefbnlgdjaaGreat.V
open Go Go.RowKit
set_option linter.unusedVariables false
section
variable {P : Program} {n : Nat} {B : Base} {ks : Ks} {sg : Sg} {d : Option Tmp} {ty : TypeId} {pos : String} {aft : Array Edge} {g : Option (Nat × Bool)}
/-- An array literal. -/
theorem Val.buildArr {t e : TypeId} {m sz : Nat} (cs : List Value) {ps : List (Nat × Operand)} {vs : List (Nat × Value)} {zs : List Value} (hz : ∀ w, (zeroValue t).run P w = .ok (.agg zs.toArray) w) (hu : P.underlying t = some (.array m e))
    (hs : ∀ w, (sizeOf e).run P w = .ok sz w) (hv : evp ks ps = some vs) (hf : fillL (fun (i : Nat) => some (i * sz, sz)) zs vs = some cs) :
    Val P n B ⟨d, .build t ps.toArray, ty, pos, aft, g⟩ ks sg (.agg cs.toArray) := fun a w ha hw => by
  show (do pure (Next.value (← Instr.build t (ps.toArray.map fun (i, x) => (i, a.eval x)))) : Sem Next).run P w = _
  refine run_value ?_
  have hm := ha.evp hv
  have hfill := fill_of_fillL _ _ _ _ hf
  simp only [Instr.build, Sem.run_bind, hz, Result.andThen_ok, run_underlying hu, hs, List.map_toArray, hm, Value.cells, hfill, Sem.run_pure]
variable {Q : Exit → Act → World → Prop} {c : Code}
/-- A loop, walked round by round: at most so many rounds more. -/
theorem CW.loopU (m : Nat) (h : CW P n B (Exit.then (Code.rounds P c Q m) Q) c ks sg) : CW P n B Q (.loop c) ks sg := fun a w ha hw => wp_loop_rounds (m + 1) (h a w ha hw)
theorem PQ.next {m : Nat} (h : CW P n B (Exit.then (Code.rounds P c Q m) Q) c ks sg) : PQ n B (Exit.then (Code.rounds P c Q (m + 1)) Q) .normal ks sg := fun a w ha hw => h a w ha hw
end
end Go.Proofs.YtcnjjefbnlgdjaaGreat.V

/- An arena is made. -/
namespace Go.Proofs.YtcnjjefbnlgdjaaGreat
open Go Go.RowKit V
set_option linter.unusedVariables false
set_option maxRecDepth 100000
theorem places172 : ∀ w, ((Array.mapM (fun (f : Field) => do pure (f.offset, ← sizeOf f.type)) (Tryz.prog.fieldsOf 172) : Sem (Array (Nat × Nat)))).run Tryz.prog w = .ok [(0, 8)].toArray w := by
  intro w; kernel_rfl
theorem places182 : ∀ w, ((Array.mapM (fun (f : Field) => do pure (f.offset, ← sizeOf f.type)) (Tryz.prog.fieldsOf 182) : Sem (Array (Nat × Nat)))).run Tryz.prog w = .ok [(0, 3)].toArray w := by
  intro w; kernel_rfl
theorem places184 : ∀ w, ((Array.mapM (fun (f : Field) => do pure (f.offset, ← sizeOf f.type)) (Tryz.prog.fieldsOf 184) : Sem (Array (Nat × Nat)))).run Tryz.prog w = .ok [(0, 1)].toArray w := by
  intro w; kernel_rfl
theorem places253 : ∀ w, ((Array.mapM (fun (f : Field) => do pure (f.offset, ← sizeOf f.type)) (Tryz.prog.fieldsOf 253) : Sem (Array (Nat × Nat)))).run Tryz.prog w = .ok [(0, 4)].toArray w := by
  intro w; kernel_rfl
theorem places271 : ∀ w, ((Array.mapM (fun (f : Field) => do pure (f.offset, ← sizeOf f.type)) (Tryz.prog.fieldsOf 271) : Sem (Array (Nat × Nat)))).run Tryz.prog w = .ok [(0, 1), (1, 1)].toArray w := by
  intro w; kernel_rfl
theorem places275 : ∀ w, ((Array.mapM (fun (f : Field) => do pure (f.offset, ← sizeOf f.type)) (Tryz.prog.fieldsOf 275) : Sem (Array (Nat × Nat)))).run Tryz.prog w = .ok [(0, 1), (1, 1), (2, 1), (3, 1), (4, 258), (262, 258), (520, 1)].toArray w := by
  intro w; kernel_rfl
theorem places278 : ∀ w, ((Array.mapM (fun (f : Field) => do pure (f.offset, ← sizeOf f.type)) (Tryz.prog.fieldsOf 278) : Sem (Array (Nat × Nat)))).run Tryz.prog w = .ok [(0, 1)].toArray w := by
  intro w; kernel_rfl
instance : Und Tryz.prog 46 (dOf Tryz.underlying46) := ⟨Tryz.underlying46⟩
instance : Siz Tryz.prog 46 (kOf Tryz.sizeOf46) := ⟨Tryz.sizeOf46⟩
instance : AgF Tryz.prog 46 := ⟨Tryz.isAgg46⟩
instance : Zer Tryz.prog 46 (zOf Tryz.zeroValue46) := ⟨Tryz.zeroValue46⟩
instance : Und Tryz.prog 148 (dOf Tryz.underlying148) := ⟨Tryz.underlying148⟩
instance : Siz Tryz.prog 148 (kOf Tryz.sizeOf148) := ⟨Tryz.sizeOf148⟩
instance : AgT Tryz.prog 148 := ⟨Tryz.isAgg148⟩
instance : Zer Tryz.prog 148 (zOf Tryz.zeroValue148) := ⟨Tryz.zeroValue148⟩
instance : Und Tryz.prog 152 (dOf Tryz.underlying152) := ⟨Tryz.underlying152⟩
instance : Siz Tryz.prog 152 (kOf Tryz.sizeOf152) := ⟨Tryz.sizeOf152⟩
instance : AgF Tryz.prog 152 := ⟨Tryz.isAgg152⟩
instance : Zer Tryz.prog 152 (zOf Tryz.zeroValue152) := ⟨Tryz.zeroValue152⟩
instance : Und Tryz.prog 154 (dOf Tryz.underlying154) := ⟨Tryz.underlying154⟩
instance : Siz Tryz.prog 154 (kOf Tryz.sizeOf154) := ⟨Tryz.sizeOf154⟩
instance : AgT Tryz.prog 154 := ⟨Tryz.isAgg154⟩
instance : Zer Tryz.prog 154 (zOf Tryz.zeroValue154) := ⟨Tryz.zeroValue154⟩
instance : Und Tryz.prog 156 (dOf Tryz.underlying156) := ⟨Tryz.underlying156⟩
instance : Siz Tryz.prog 156 (kOf Tryz.sizeOf156) := ⟨Tryz.sizeOf156⟩
instance : AgT Tryz.prog 156 := ⟨Tryz.isAgg156⟩
instance : Zer Tryz.prog 156 (zOf Tryz.zeroValue156) := ⟨Tryz.zeroValue156⟩
instance : Und Tryz.prog 169 (dOf Tryz.underlying169) := ⟨Tryz.underlying169⟩
instance : Siz Tryz.prog 169 (kOf Tryz.sizeOf169) := ⟨Tryz.sizeOf169⟩
instance : AgF Tryz.prog 169 := ⟨Tryz.isAgg169⟩
instance : Zer Tryz.prog 169 (zOf Tryz.zeroValue169) := ⟨Tryz.zeroValue169⟩
instance : Und Tryz.prog 170 (dOf Tryz.underlying170) := ⟨Tryz.underlying170⟩
instance : Siz Tryz.prog 170 (kOf Tryz.sizeOf170) := ⟨Tryz.sizeOf170⟩
instance : AgT Tryz.prog 170 := ⟨Tryz.isAgg170⟩
instance : Zer Tryz.prog 170 (zOf Tryz.zeroValue170) := ⟨Tryz.zeroValue170⟩
instance : Und Tryz.prog 172 (dOf Tryz.underlying172) := ⟨Tryz.underlying172⟩
instance : Siz Tryz.prog 172 (kOf Tryz.sizeOf172) := ⟨Tryz.sizeOf172⟩
instance : AgT Tryz.prog 172 := ⟨Tryz.isAgg172⟩
instance : Zer Tryz.prog 172 (zOf Tryz.zeroValue172) := ⟨Tryz.zeroValue172⟩
instance : Und Tryz.prog 180 (dOf Tryz.underlying180) := ⟨Tryz.underlying180⟩
instance : Siz Tryz.prog 180 (kOf Tryz.sizeOf180) := ⟨Tryz.sizeOf180⟩
instance : AgT Tryz.prog 180 := ⟨Tryz.isAgg180⟩
instance : Zer Tryz.prog 180 (zOf Tryz.zeroValue180) := ⟨Tryz.zeroValue180⟩
instance : Und Tryz.prog 182 (dOf Tryz.underlying182) := ⟨Tryz.underlying182⟩
instance : Siz Tryz.prog 182 (kOf Tryz.sizeOf182) := ⟨Tryz.sizeOf182⟩
instance : AgT Tryz.prog 182 := ⟨Tryz.isAgg182⟩
instance : Zer Tryz.prog 182 (zOf Tryz.zeroValue182) := ⟨Tryz.zeroValue182⟩
instance : Und Tryz.prog 184 (dOf Tryz.underlying184) := ⟨Tryz.underlying184⟩
instance : Siz Tryz.prog 184 (kOf Tryz.sizeOf184) := ⟨Tryz.sizeOf184⟩
instance : AgT Tryz.prog 184 := ⟨Tryz.isAgg184⟩
instance : Zer Tryz.prog 184 (zOf Tryz.zeroValue184) := ⟨Tryz.zeroValue184⟩
instance : Und Tryz.prog 251 (dOf Tryz.underlying251) := ⟨Tryz.underlying251⟩
instance : Siz Tryz.prog 251 (kOf Tryz.sizeOf251) := ⟨Tryz.sizeOf251⟩
instance : AgT Tryz.prog 251 := ⟨Tryz.isAgg251⟩
instance : Zer Tryz.prog 251 (zOf Tryz.zeroValue251) := ⟨Tryz.zeroValue251⟩
instance : Und Tryz.prog 253 (dOf Tryz.underlying253) := ⟨Tryz.underlying253⟩
instance : Siz Tryz.prog 253 (kOf Tryz.sizeOf253) := ⟨Tryz.sizeOf253⟩
instance : AgT Tryz.prog 253 := ⟨Tryz.isAgg253⟩
instance : Zer Tryz.prog 253 (zOf Tryz.zeroValue253) := ⟨Tryz.zeroValue253⟩
instance : Und Tryz.prog 269 (dOf Tryz.underlying269) := ⟨Tryz.underlying269⟩
instance : Siz Tryz.prog 269 (kOf Tryz.sizeOf269) := ⟨Tryz.sizeOf269⟩
instance : AgF Tryz.prog 269 := ⟨Tryz.isAgg269⟩
instance : Zer Tryz.prog 269 (zOf Tryz.zeroValue269) := ⟨Tryz.zeroValue269⟩
instance : Und Tryz.prog 271 (dOf Tryz.underlying271) := ⟨Tryz.underlying271⟩
instance : Siz Tryz.prog 271 (kOf Tryz.sizeOf271) := ⟨Tryz.sizeOf271⟩
instance : AgT Tryz.prog 271 := ⟨Tryz.isAgg271⟩
instance : Zer Tryz.prog 271 (zOf Tryz.zeroValue271) := ⟨Tryz.zeroValue271⟩
instance : Und Tryz.prog 272 (dOf Tryz.underlying272) := ⟨Tryz.underlying272⟩
instance : Siz Tryz.prog 272 (kOf Tryz.sizeOf272) := ⟨Tryz.sizeOf272⟩
instance : AgT Tryz.prog 272 := ⟨Tryz.isAgg272⟩
instance : Zer Tryz.prog 272 (zOf Tryz.zeroValue272) := ⟨Tryz.zeroValue272⟩
instance : Und Tryz.prog 273 (dOf Tryz.underlying273) := ⟨Tryz.underlying273⟩
instance : Siz Tryz.prog 273 (kOf Tryz.sizeOf273) := ⟨Tryz.sizeOf273⟩
instance : AgF Tryz.prog 273 := ⟨Tryz.isAgg273⟩
instance : Zer Tryz.prog 273 (zOf Tryz.zeroValue273) := ⟨Tryz.zeroValue273⟩
instance : Und Tryz.prog 275 (dOf Tryz.underlying275) := ⟨Tryz.underlying275⟩
instance : Siz Tryz.prog 275 (kOf Tryz.sizeOf275) := ⟨Tryz.sizeOf275⟩
instance : AgT Tryz.prog 275 := ⟨Tryz.isAgg275⟩
instance : Zer Tryz.prog 275 (zOf Tryz.zeroValue275) := ⟨Tryz.zeroValue275⟩
instance : Und Tryz.prog 276 (dOf Tryz.underlying276) := ⟨Tryz.underlying276⟩
instance : Siz Tryz.prog 276 (kOf Tryz.sizeOf276) := ⟨Tryz.sizeOf276⟩
instance : AgF Tryz.prog 276 := ⟨Tryz.isAgg276⟩
instance : Zer Tryz.prog 276 (zOf Tryz.zeroValue276) := ⟨Tryz.zeroValue276⟩
instance : Und Tryz.prog 278 (dOf Tryz.underlying278) := ⟨Tryz.underlying278⟩
instance : Siz Tryz.prog 278 (kOf Tryz.sizeOf278) := ⟨Tryz.sizeOf278⟩
instance : AgT Tryz.prog 278 := ⟨Tryz.isAgg278⟩
instance : Zer Tryz.prog 278 (zOf Tryz.zeroValue278) := ⟨Tryz.zeroValue278⟩
instance : Plc Tryz.prog 172 (fOf Tryz.underlying172) (lOf (P := Tryz.prog) places172) := ⟨places172, Tryz.underlying172⟩
instance : Plc Tryz.prog 182 (fOf Tryz.underlying182) (lOf (P := Tryz.prog) places182) := ⟨places182, Tryz.underlying182⟩
instance : Plc Tryz.prog 184 (fOf Tryz.underlying184) (lOf (P := Tryz.prog) places184) := ⟨places184, Tryz.underlying184⟩
instance : Plc Tryz.prog 253 (fOf Tryz.underlying253) (lOf (P := Tryz.prog) places253) := ⟨places253, Tryz.underlying253⟩
instance : Plc Tryz.prog 271 (fOf Tryz.underlying271) (lOf (P := Tryz.prog) places271) := ⟨places271, Tryz.underlying271⟩
instance : Plc Tryz.prog 275 (fOf Tryz.underlying275) (lOf (P := Tryz.prog) places275) := ⟨places275, Tryz.underlying275⟩
instance : Plc Tryz.prog 278 (fOf Tryz.underlying278) (lOf (P := Tryz.prog) places278) := ⟨places278, Tryz.underlying278⟩
instance : Cal Tryz.prog 95 := ⟨Tryz.call95⟩
instance : Cal Tryz.prog 122 := ⟨Tryz.call122⟩
open V (str byC ownV ownG ownS ownOk)
theorem x_store {a : Addr} {u : Value} {y : Int} {w : World} (hc : w.cell? a = some u) (hz : w.frozen? a = false) : (callFunc 158 #[.pointer (some a), .int .u64 y]).run Tryz.prog w = .ok (.value (.tuple #[])) (w.setCell a (.int .u64 y)) := run_call_store Tryz.func158 (by kernel_rfl) (by kernel_rfl) (by kernel_rfl) (by kernel_rfl) hc hz
theorem aStore_c (b o : Nat) (l : List Value) (T : TypeId) (u : Value) (y : Int) (w : World) (hl : l[o]? = some u) (hs : Sat [[(b, .cells l.toArray T (0, 0))]] w) : Calls Tryz.prog 122 [.pointer (some ⟨b, o, none⟩), .int .u64 y].toArray w fun e w' => ∃ _u : Unit, True ∧ e = .returned (.tuple #[]) ∧ Hp ⟨w, V.ids [[(b, .cells l.toArray T (0, 0))]]⟩ [[(b, .cells (l.set o (.int .u64 y)).toArray T (0, 0))]] w' := by
  refine V.calls [[(b, .cells l.toArray T (0, 0))]] Tryz.func122 rfl Tryz.ntmps122 (Nat.le_of_ble_eq_true rfl) hs <| Rg <| Lv Mv <| Lv Nz <| Lv (Fa 0 22) <| Lv Mv <| Le (Eff.ext (l' := l.set o (.int .u64 y)) rfl .here rfl (fun w hb => x_store (V.cell_of_block hb (by exact hl)) (V.frozen_of hb))) fun _ _ => Nl <| PQ.end0 rfl ?_
  intro w' hw; exact ⟨(), trivial, rfl, hw⟩
theorem rdNew_c (w : World) : Calls Tryz.prog 146 [.int .i64 1].toArray w fun e w' => ∃ a : Nat, True ∧ e = .returned (.tuple #[.pointer (some ⟨a, 0, none⟩), .int .i64 0]) ∧ Below w.heap.size w w' := by
  refine V.calls [] Tryz.func146 rfl Tryz.ntmps146 (Nat.le_of_ble_eq_true rfl) (V.sat_nil _) <| Sq <| Rg <| Lv Av <| Lv Av <| Nl <| Ps <| Sq <| Sq <| Rg <| Lv Mv <| Lv Cm <| Lv Mv <| Lv Mv <| Lv Cm <| Lv Pf <| LW.re 10 (.bool false) rfl (by rfl) <| Nl <| Ps <| Cf <| Sk <| Ps <| Sq <| Rg <| Lv Mv <| Le (Eff.makeSlice (m := 1) (by_ := 8) rfl rfl Tryz.underlying269 (by kernel_rfl) Tryz.sizeOf148 (by exact Tryz.zeroValue148) rfl rfl (by omega) (by omega) (by omega)) fun b12 _ => Lv (Bd [_, _]) <| Le XA fun b14 _ => Lv Av <| Nl <| Ps <| Sq <| Rg <| Lv Mv <| Lv Nz <| Lv (Fa 0 148) <| Le (CM ([[(b14, .cells [.int .u64 0, .slice (some ⟨b12, 0, none⟩) 1 1].toArray 271 (0, 0))]]) fun w hw hs => aStore_c b14 0 [.int .u64 0, .slice (some ⟨b12, 0, none⟩) 1 1] 271 _ 1 w rfl hs) fun _ _ => Nl <| Ps <| Sq <| Rg <| Lv Mv <| Lv Av <| Lv Av <| Nl <| Ps <| Rt <| Rt2 ?_
  intro w' hw; exact ⟨b14, trivial, rfl, hw.below⟩
/-- A durability clock's cells. -/
def clkL (p : Value) : List Value := .int .u64 0 :: .int .u64 0 :: .int .u64 0 :: p :: (List.replicate 516 (.bool false) ++ [.nilFunc])
theorem zero_clk (w : World) : (zeroValue 275).run Tryz.prog w = .ok (.agg (clkL (.slice none 0 0)).toArray) w := (Tryz.zeroValue275 w).trans (by kernel_rfl)
theorem clNew_c (w : World) : Calls Tryz.prog 147 [.int .i64 1, .int .u64 0].toArray w fun e w' => ∃ a : Nat, True ∧ e = .returned (.tuple #[.pointer (some ⟨a, 0, none⟩), .int .i64 0]) ∧ Below w.heap.size w w' := by
  refine V.calls [] Tryz.func147 rfl Tryz.ntmps147 (Nat.le_of_ble_eq_true rfl) (V.sat_nil _) <| Sq <| Rg <| Lv Av <| Lv Av <| Nl <| Ps <| Sq <| Sq <| Rg <| Lv Mv <| Lv Cm <| Lv Mv <| Lv Mv <| Lv Cm <| LW.re 11 (.bool false) rfl (by rfl) <| Lv Pf <| Nl <| Ps <| Cf <| Sk <| Ps <| Sq <| Sq <| Rg <| Lv Mv <| Lv Cm <| LW.re 14 (.bool false) rfl (by rfl) <| Nl <| Ps <| Cf <| Sk <| Ps <| Sq <| Rg <| Lv Mv <| Le (Eff.makeSlice (m := 1) (by_ := 8) rfl rfl Tryz.underlying46 (by kernel_rfl) Tryz.sizeOf3 (by exact Tryz.zeroValue3) rfl rfl (by omega) (by omega) (by omega)) fun b16 _ => Lv (Val.build (clkL (.slice (some ⟨b16, 0, none⟩) 1 1)) zero_clk Tryz.underlying275 places275 rfl (by kernel_rfl)) <| Le XA fun b18 _ => Lv Av <| Nl <| Ps <| Sq <| Rg <| Lv Mv <| Lv Nz <| Lv (Fa 1 148) <| Lv Mv <| Le (CM ([[(b18, .cells (clkL (.slice (some ⟨b16, 0, none⟩) 1 1)).toArray 275 (0, 0))]]) fun w hw hs => aStore_c b18 1 (clkL (.slice (some ⟨b16, 0, none⟩) 1 1)) 275 _ 0 w rfl hs) fun _ _ => Nl <| Ps <| Sq <| Rg <| Lv Mv <| Lv Nz <| Lv (Fa 0 148) <| Lv Mv <| Lv Ar <| Le (CM ([[(b18, .cells ((clkL (.slice (some ⟨b16, 0, none⟩) 1 1)).set 1 (.int .u64 0)).toArray 275 (0, 0))]]) fun w hw hs => aStore_c b18 0 ((clkL (.slice (some ⟨b16, 0, none⟩) 1 1)).set 1 (.int .u64 0)) 275 _ 1 w rfl hs) fun _ _ => Nl <| Ps <| Sq <| Rg <| Lv Mv <| Lv Av <| Lv Av <| Nl <| Ps <| Rt <| Rt2 ?_
  intro w' hw; exact ⟨b18, trivial, rfl, hw.below⟩
theorem plNew_c (w : World) : Calls Tryz.prog 148 [.int .i64 1].toArray w fun e w' => ∃ a : Nat, True ∧ e = .returned (.tuple #[.pointer (some ⟨a, 0, none⟩), .int .i64 0]) ∧ Below w.heap.size w w' := by
  refine V.calls [] Tryz.func148 rfl Tryz.ntmps148 (Nat.le_of_ble_eq_true rfl) (V.sat_nil _) <| Sq <| Rg <| Lv Av <| Lv Av <| Nl <| Ps <| Sq <| Sq <| Rg <| Lv Mv <| Lv Cm <| Lv Mv <| Lv Mv <| Le (CV fun w hw => slabs_c 258 (by omega) w) fun _ _ => Lv Cm <| Lv Pf <| LW.re 12 (.bool false) rfl (by rfl) <| Nl <| Ps <| Cf <| Sk <| Ps <| Sq <| Rg <| Lv Mv <| Le (Eff.makeSlice (m := 1) (by_ := 24) rfl rfl Tryz.underlying152 (by kernel_rfl) Tryz.sizeOf156 (by exact Tryz.zeroValue156) rfl rfl (by omega) (by omega) (by omega)) fun b14 _ => Lv (Bd [_]) <| Le XA fun b16 _ => Lv Av <| Nl <| Ps <| Sq <| Sq <| Rg <| Lv Mv <| Lv Nz <| Lv (Fa 0 152) <| Lv Ld <| Lv Ln <| Lv Mv <| Nl <| Ps <| Bk <| CW.loopU 1 <| Sq <| Rg <| Lv Cm <| Nl <| Ps <| Sq <| Ct <| Sk <| Ps <| Sq <| Bk <| Sq <| Rg <| Lv Mv <| Lv Av <| Nl <| Ps <| Rg <| Lv Mv <| Lv Nz <| Lv (Fa 0 152) <| Lv Ld <| Lv Mv <| Lv (Val.indexAddrN (i := 0) rfl rfl Tryz.underlying152 Tryz.sizeOf156 (by decide)) <| Lv (Fa 0 3) <| LeN StS fun _ _ => Nl <| Bn <| Ps <| Rg <| Lv Ar <| Lv Mv <| Nl <| PQ.next <| Sq <| Rg <| Lv Cm <| Nl <| Ps <| Sq <| Cf <| Xt <| Te <| Te <| Bh <| Ps <| Sq <| Rg <| Lv Mv <| Lv Av <| Lv Av <| Nl <| Ps <| Rt <| Rt2 ?_
  intro w' hw; exact ⟨b16, trivial, rfl, hw.below⟩
theorem lbNew_c (w : World) : Calls Tryz.prog 149 [].toArray w fun e w' => ∃ a : Nat, True ∧ e = .returned (.pointer (some ⟨a, 0, none⟩)) ∧ Below w.heap.size w w' := by
  refine V.calls [] Tryz.func149 rfl Tryz.ntmps149 (Nat.le_of_ble_eq_true rfl) (V.sat_nil _) <| Sq <| Rg <| Lv Av <| Nl <| Ps <| Sq <| Rg <| Lv (Bd [_]) <| Le XA fun b2 _ => Lv Av <| Nl <| Ps <| Rt <| Rt1 ?_
  intro w' hw; exact ⟨b2, trivial, rfl, hw.below⟩
theorem orNew_c (w : World) : Calls Tryz.prog 151 [].toArray w fun e w' => ∃ a : Nat, True ∧ e = .returned (.pointer (some ⟨a, 0, none⟩)) ∧ Below w.heap.size w w' := by
  refine V.calls [] Tryz.func151 rfl Tryz.ntmps151 (Nat.le_of_ble_eq_true rfl) (V.sat_nil _) <| Sq <| Rg <| Lv Av <| Nl <| Ps <| Sq <| Rg <| Lv (Bd [_, _, _, _]) <| Le XA fun b2 _ => Lv Av <| Nl <| Ps <| Rt <| Rt1 ?_
  intro w' hw; exact ⟨b2, trivial, rfl, hw.below⟩
theorem ffNew_c (w : World) : Calls Tryz.prog 152 [].toArray w fun e w' => ∃ a : Nat, True ∧ e = .returned (.pointer (some ⟨a, 0, none⟩)) ∧ Below w.heap.size w w' := by
  refine V.calls [] Tryz.func152 rfl Tryz.ntmps152 (Nat.le_of_ble_eq_true rfl) (V.sat_nil _) <| Sq <| Rg <| Lv Av <| Nl <| Ps <| Sq <| Rg <| Lv (Bd [_, _, _]) <| Le XA fun b2 _ => Lv Av <| Nl <| Ps <| Rt <| Rt1 ?_
  intro w' hw; exact ⟨b2, trivial, rfl, hw.below⟩
theorem tbNew_c (w : World) : Calls Tryz.prog 150 [].toArray w fun e w' => ∃ a : Nat, True ∧ e = .returned (.pointer (some ⟨a, 0, none⟩)) ∧ Below w.heap.size w w' := by
  refine V.calls [] Tryz.func150 rfl Tryz.ntmps150 (Nat.le_of_ble_eq_true rfl) (V.sat_nil _) <| Sq <| Rg <| Lv Av <| Nl <| Ps <| Sq <| Rg <| Lv (Bd [_, _, _, _, _, _, _, _]) <| Le XA fun b4 _ => Lv Av <| Nl <| Ps <| Sq <| Sq <| Rg <| Lv Mv <| Nl <| Ps <| Bk <| CW.loopU 8 <| Sq <| Rg <| Lv Cm <| Nl <| Ps <| Sq <| Ct <| Sk <| Ps <| Sq <| Bk <| Sq <| Rg <| Lv Mv <| Lv Av <| Nl <| Ps <| Rg <| Lv Mv <| Lv Mv <| Le (Eff.makeMap) fun b10 _ => Lv Nz <| Lv (Fa 0 170) <| Lv (Val.indexAddrA (i := 0) rfl rfl Tryz.underlying170 Tryz.sizeOf169 (by decide)) <| LeN StS fun _ _ => Nl <| Bn <| Ps <| Rg <| Lv Ar <| Lv Mv <| Nl <| PQ.next <| Sq <| Rg <| Lv Cm <| Nl <| Ps <| Sq <| Ct <| Sk <| Ps <| Sq <| Bk <| Sq <| Rg <| Lv Mv <| Lv Av <| Nl <| Ps <| Rg <| Lv Mv <| Lv Mv <| Le (Eff.makeMap) fun b10 _ => Lv Nz <| Lv (Fa 0 170) <| Lv (Val.indexAddrA (i := 1) rfl rfl Tryz.underlying170 Tryz.sizeOf169 (by decide)) <| LeN StS fun _ _ => Nl <| Bn <| Ps <| Rg <| Lv Ar <| Lv Mv <| Nl <| PQ.next <| Sq <| Rg <| Lv Cm <| Nl <| Ps <| Sq <| Ct <| Sk <| Ps <| Sq <| Bk <| Sq <| Rg <| Lv Mv <| Lv Av <| Nl <| Ps <| Rg <| Lv Mv <| Lv Mv <| Le (Eff.makeMap) fun b10 _ => Lv Nz <| Lv (Fa 0 170) <| Lv (Val.indexAddrA (i := 2) rfl rfl Tryz.underlying170 Tryz.sizeOf169 (by decide)) <| LeN StS fun _ _ => Nl <| Bn <| Ps <| Rg <| Lv Ar <| Lv Mv <| Nl <| PQ.next <| Sq <| Rg <| Lv Cm <| Nl <| Ps <| Sq <| Ct <| Sk <| Ps <| Sq <| Bk <| Sq <| Rg <| Lv Mv <| Lv Av <| Nl <| Ps <| Rg <| Lv Mv <| Lv Mv <| Le (Eff.makeMap) fun b10 _ => Lv Nz <| Lv (Fa 0 170) <| Lv (Val.indexAddrA (i := 3) rfl rfl Tryz.underlying170 Tryz.sizeOf169 (by decide)) <| LeN StS fun _ _ => Nl <| Bn <| Ps <| Rg <| Lv Ar <| Lv Mv <| Nl <| PQ.next <| Sq <| Rg <| Lv Cm <| Nl <| Ps <| Sq <| Ct <| Sk <| Ps <| Sq <| Bk <| Sq <| Rg <| Lv Mv <| Lv Av <| Nl <| Ps <| Rg <| Lv Mv <| Lv Mv <| Le (Eff.makeMap) fun b10 _ => Lv Nz <| Lv (Fa 0 170) <| Lv (Val.indexAddrA (i := 4) rfl rfl Tryz.underlying170 Tryz.sizeOf169 (by decide)) <| LeN StS fun _ _ => Nl <| Bn <| Ps <| Rg <| Lv Ar <| Lv Mv <| Nl <| PQ.next <| Sq <| Rg <| Lv Cm <| Nl <| Ps <| Sq <| Ct <| Sk <| Ps <| Sq <| Bk <| Sq <| Rg <| Lv Mv <| Lv Av <| Nl <| Ps <| Rg <| Lv Mv <| Lv Mv <| Le (Eff.makeMap) fun b10 _ => Lv Nz <| Lv (Fa 0 170) <| Lv (Val.indexAddrA (i := 5) rfl rfl Tryz.underlying170 Tryz.sizeOf169 (by decide)) <| LeN StS fun _ _ => Nl <| Bn <| Ps <| Rg <| Lv Ar <| Lv Mv <| Nl <| PQ.next <| Sq <| Rg <| Lv Cm <| Nl <| Ps <| Sq <| Ct <| Sk <| Ps <| Sq <| Bk <| Sq <| Rg <| Lv Mv <| Lv Av <| Nl <| Ps <| Rg <| Lv Mv <| Lv Mv <| Le (Eff.makeMap) ?_
  intro b10 _
  refine Lv Nz <| Lv (Fa 0 170) <| Lv (Val.indexAddrA (i := 6) rfl rfl Tryz.underlying170 Tryz.sizeOf169 (by decide)) <| LeN StS fun _ _ => Nl <| Bn <| Ps <| Rg <| Lv Ar <| Lv Mv <| Nl <| PQ.next <| Sq <| Rg <| Lv Cm <| Nl <| Ps <| Sq <| Ct <| Sk <| Ps <| Sq <| Bk <| Sq <| Rg <| Lv Mv <| Lv Av <| Nl <| Ps <| Rg <| Lv Mv <| Lv Mv <| Le (Eff.makeMap) fun b10 _ => Lv Nz <| Lv (Fa 0 170) <| Lv (Val.indexAddrA (i := 7) rfl rfl Tryz.underlying170 Tryz.sizeOf169 (by decide)) <| LeN StS fun _ _ => Nl <| Bn <| Ps <| Rg <| Lv Ar <| Lv Mv <| Nl <| PQ.next <| Sq <| Rg <| Lv Cm <| Nl <| Ps <| Sq <| Cf <| Xt <| Te <| Te <| Bh <| Ps <| Sq <| Rg <| Lv Mv <| Lv Av <| Nl <| Ps <| Rt <| Rt1 ?_
  intro w' hw; exact ⟨b4, trivial, rfl, hw.below⟩
end Go.Proofs.YtcnjjefbnlgdjaaGreat

/- An arena is made over a device without blocks. -/
namespace Go.Proofs.YtcnjjefbnlgdjaaGreat
open Go Go.RowKit V
set_option linter.unusedVariables false
set_option maxRecDepth 100000
theorem places133 : ∀ w, ((Array.mapM (fun (f : Field) => do pure (f.offset, ← sizeOf f.type)) (Tryz.prog.fieldsOf 133) : Sem (Array (Nat × Nat)))).run Tryz.prog w = .ok [(0, 1), (1, 1), (2, 1), (3, 1), (4, 1)].toArray w := by
  intro w; kernel_rfl
theorem places151 : ∀ w, ((Array.mapM (fun (f : Field) => do pure (f.offset, ← sizeOf f.type)) (Tryz.prog.fieldsOf 151) : Sem (Array (Nat × Nat)))).run Tryz.prog w = .ok [(0, 1), (1, 1), (2, 1), (3, 1), (4, 1), (5, 1), (6, 1), (7, 1), (8, 1), (9, 1), (10, 1)].toArray w := by
  intro w; kernel_rfl
theorem places233 : ∀ w, ((Array.mapM (fun (f : Field) => do pure (f.offset, ← sizeOf f.type)) (Tryz.prog.fieldsOf 233) : Sem (Array (Nat × Nat)))).run Tryz.prog w = .ok [(0, 1), (1, 3)].toArray w := by
  intro w; kernel_rfl
instance : Und Tryz.prog 9 (dOf Tryz.underlying9) := ⟨Tryz.underlying9⟩
instance : Siz Tryz.prog 9 (kOf Tryz.sizeOf9) := ⟨Tryz.sizeOf9⟩
instance : AgF Tryz.prog 9 := ⟨Tryz.isAgg9⟩
instance : Zer Tryz.prog 9 (zOf Tryz.zeroValue9) := ⟨Tryz.zeroValue9⟩
instance : Und Tryz.prog 33 (dOf Tryz.underlying33) := ⟨Tryz.underlying33⟩
instance : Siz Tryz.prog 33 (kOf Tryz.sizeOf33) := ⟨Tryz.sizeOf33⟩
instance : AgF Tryz.prog 33 := ⟨Tryz.isAgg33⟩
instance : Zer Tryz.prog 33 (zOf Tryz.zeroValue33) := ⟨Tryz.zeroValue33⟩
instance : Und Tryz.prog 43 (dOf Tryz.underlying43) := ⟨Tryz.underlying43⟩
instance : Siz Tryz.prog 43 (kOf Tryz.sizeOf43) := ⟨Tryz.sizeOf43⟩
instance : AgT Tryz.prog 43 := ⟨Tryz.isAgg43⟩
instance : Zer Tryz.prog 43 (zOf Tryz.zeroValue43) := ⟨Tryz.zeroValue43⟩
instance : Und Tryz.prog 45 (dOf Tryz.underlying45) := ⟨Tryz.underlying45⟩
instance : Siz Tryz.prog 45 (kOf Tryz.sizeOf45) := ⟨Tryz.sizeOf45⟩
instance : AgT Tryz.prog 45 := ⟨Tryz.isAgg45⟩
instance : Zer Tryz.prog 45 (zOf Tryz.zeroValue45) := ⟨Tryz.zeroValue45⟩
instance : Und Tryz.prog 67 (dOf Tryz.underlying67) := ⟨Tryz.underlying67⟩
instance : Siz Tryz.prog 67 (kOf Tryz.sizeOf67) := ⟨Tryz.sizeOf67⟩
instance : AgF Tryz.prog 67 := ⟨Tryz.isAgg67⟩
instance : Zer Tryz.prog 67 (zOf Tryz.zeroValue67) := ⟨Tryz.zeroValue67⟩
instance : Und Tryz.prog 111 (dOf Tryz.underlying111) := ⟨Tryz.underlying111⟩
instance : Siz Tryz.prog 111 (kOf Tryz.sizeOf111) := ⟨Tryz.sizeOf111⟩
instance : AgT Tryz.prog 111 := ⟨Tryz.isAgg111⟩
instance : Zer Tryz.prog 111 (zOf Tryz.zeroValue111) := ⟨Tryz.zeroValue111⟩
instance : Und Tryz.prog 128 (dOf Tryz.underlying128) := ⟨Tryz.underlying128⟩
instance : Siz Tryz.prog 128 (kOf Tryz.sizeOf128) := ⟨Tryz.sizeOf128⟩
instance : AgF Tryz.prog 128 := ⟨Tryz.isAgg128⟩
instance : Zer Tryz.prog 128 (zOf Tryz.zeroValue128) := ⟨Tryz.zeroValue128⟩
instance : Und Tryz.prog 129 (dOf Tryz.underlying129) := ⟨Tryz.underlying129⟩
instance : Siz Tryz.prog 129 (kOf Tryz.sizeOf129) := ⟨Tryz.sizeOf129⟩
instance : AgF Tryz.prog 129 := ⟨Tryz.isAgg129⟩
instance : Zer Tryz.prog 129 (zOf Tryz.zeroValue129) := ⟨Tryz.zeroValue129⟩
instance : Und Tryz.prog 133 (dOf Tryz.underlying133) := ⟨Tryz.underlying133⟩
instance : Siz Tryz.prog 133 (kOf Tryz.sizeOf133) := ⟨Tryz.sizeOf133⟩
instance : AgT Tryz.prog 133 := ⟨Tryz.isAgg133⟩
instance : Zer Tryz.prog 133 (zOf Tryz.zeroValue133) := ⟨Tryz.zeroValue133⟩
instance : Und Tryz.prog 138 (dOf Tryz.underlying138) := ⟨Tryz.underlying138⟩
instance : Siz Tryz.prog 138 (kOf Tryz.sizeOf138) := ⟨Tryz.sizeOf138⟩
instance : AgF Tryz.prog 138 := ⟨Tryz.isAgg138⟩
instance : Zer Tryz.prog 138 (zOf Tryz.zeroValue138) := ⟨Tryz.zeroValue138⟩
instance : Und Tryz.prog 142 (dOf Tryz.underlying142) := ⟨Tryz.underlying142⟩
instance : Siz Tryz.prog 142 (kOf Tryz.sizeOf142) := ⟨Tryz.sizeOf142⟩
instance : AgF Tryz.prog 142 := ⟨Tryz.isAgg142⟩
instance : Zer Tryz.prog 142 (zOf Tryz.zeroValue142) := ⟨Tryz.zeroValue142⟩
instance : Und Tryz.prog 143 (dOf Tryz.underlying143) := ⟨Tryz.underlying143⟩
instance : Siz Tryz.prog 143 (kOf Tryz.sizeOf143) := ⟨Tryz.sizeOf143⟩
instance : AgF Tryz.prog 143 := ⟨Tryz.isAgg143⟩
instance : Zer Tryz.prog 143 (zOf Tryz.zeroValue143) := ⟨Tryz.zeroValue143⟩
instance : Und Tryz.prog 144 (dOf Tryz.underlying144) := ⟨Tryz.underlying144⟩
instance : Siz Tryz.prog 144 (kOf Tryz.sizeOf144) := ⟨Tryz.sizeOf144⟩
instance : AgF Tryz.prog 144 := ⟨Tryz.isAgg144⟩
instance : Zer Tryz.prog 144 (zOf Tryz.zeroValue144) := ⟨Tryz.zeroValue144⟩
instance : Und Tryz.prog 145 (dOf Tryz.underlying145) := ⟨Tryz.underlying145⟩
instance : Siz Tryz.prog 145 (kOf Tryz.sizeOf145) := ⟨Tryz.sizeOf145⟩
instance : AgF Tryz.prog 145 := ⟨Tryz.isAgg145⟩
instance : Zer Tryz.prog 145 (zOf Tryz.zeroValue145) := ⟨Tryz.zeroValue145⟩
instance : Und Tryz.prog 146 (dOf Tryz.underlying146) := ⟨Tryz.underlying146⟩
instance : Siz Tryz.prog 146 (kOf Tryz.sizeOf146) := ⟨Tryz.sizeOf146⟩
instance : AgF Tryz.prog 146 := ⟨Tryz.isAgg146⟩
instance : Zer Tryz.prog 146 (zOf Tryz.zeroValue146) := ⟨Tryz.zeroValue146⟩
instance : Und Tryz.prog 149 (dOf Tryz.underlying149) := ⟨Tryz.underlying149⟩
instance : Siz Tryz.prog 149 (kOf Tryz.sizeOf149) := ⟨Tryz.sizeOf149⟩
instance : AgF Tryz.prog 149 := ⟨Tryz.isAgg149⟩
instance : Zer Tryz.prog 149 (zOf Tryz.zeroValue149) := ⟨Tryz.zeroValue149⟩
instance : Und Tryz.prog 151 (dOf Tryz.underlying151) := ⟨Tryz.underlying151⟩
instance : Siz Tryz.prog 151 (kOf Tryz.sizeOf151) := ⟨Tryz.sizeOf151⟩
instance : AgT Tryz.prog 151 := ⟨Tryz.isAgg151⟩
instance : Zer Tryz.prog 151 (zOf Tryz.zeroValue151) := ⟨Tryz.zeroValue151⟩
instance : Und Tryz.prog 233 (dOf Tryz.underlying233) := ⟨Tryz.underlying233⟩
instance : Siz Tryz.prog 233 (kOf Tryz.sizeOf233) := ⟨Tryz.sizeOf233⟩
instance : AgT Tryz.prog 233 := ⟨Tryz.isAgg233⟩
instance : Zer Tryz.prog 233 (zOf Tryz.zeroValue233) := ⟨Tryz.zeroValue233⟩
instance : Plc Tryz.prog 133 (fOf Tryz.underlying133) (lOf (P := Tryz.prog) places133) := ⟨places133, Tryz.underlying133⟩
instance : Plc Tryz.prog 151 (fOf Tryz.underlying151) (lOf (P := Tryz.prog) places151) := ⟨places151, Tryz.underlying151⟩
instance : Plc Tryz.prog 233 (fOf Tryz.underlying233) (lOf (P := Tryz.prog) places233) := ⟨places233, Tryz.underlying233⟩
instance : Cal Tryz.prog 63 := ⟨Tryz.call63⟩
instance : Cal Tryz.prog 118 := ⟨Tryz.call118⟩
instance : Cal Tryz.prog 119 := ⟨Tryz.call119⟩
instance : Cal Tryz.prog 120 := ⟨Tryz.call120⟩
instance : Cal Tryz.prog 121 := ⟨Tryz.call121⟩
instance : Cal Tryz.prog 123 := ⟨Tryz.call123⟩
instance : Cal Tryz.prog 124 := ⟨Tryz.call124⟩
instance : Cal Tryz.prog 126 := ⟨Tryz.call126⟩
instance : Cal Tryz.prog 131 := ⟨Tryz.call131⟩
instance : Cal Tryz.prog 146 := ⟨Tryz.call146⟩
instance : Cal Tryz.prog 147 := ⟨Tryz.call147⟩
instance : Cal Tryz.prog 148 := ⟨Tryz.call148⟩
instance : Cal Tryz.prog 149 := ⟨Tryz.call149⟩
instance : Cal Tryz.prog 150 := ⟨Tryz.call150⟩
instance : Cal Tryz.prog 151 := ⟨Tryz.call151⟩
instance : Cal Tryz.prog 152 := ⟨Tryz.call152⟩
instance : Cal Tryz.prog 160 := ⟨Tryz.call160⟩
instance : Cal Tryz.prog 177 := ⟨Tryz.call177⟩
open V (str byC ownV ownG ownS ownOk)
theorem made_c (db cb : Nat) (D : List Ce) (k : Cnt) (hL : D.length = 10) (w : World) (hs : Sat (devS db cb D k) w) : Calls Tryz.prog 118 [.pointer (some ⟨db, 0, none⟩), .int .i64 1, .int .u64 0].toArray w fun e w' => ∃ a : Nat, True ∧ e = .returned (.tuple #[.pointer (some ⟨a, 0, none⟩), .int .i64 0]) ∧ Below w.heap.size w w' := by
  refine V.calls (devS db cb D k) Tryz.func118 rfl Tryz.ntmps118 (Nat.le_of_ble_eq_true rfl) hs <| Sq <| Rg <| Lv Av <| Lv Av <| Nl <| Ps <| Sq <| Rg <| Lv Mv <| Le (CR fun w hw => rdNew_c w) fun a1 _ => Lv Mv <| Lv Ex <| Lv Ex <| Lv Av <| Lv Av <| Nl <| Ps <| Sq <| Sq <| Rg <| Lv Mv <| Lv Cm <| Lv Mv <| Lv Mv <| Le (CV fun w hw => lines_c db cb D k w hw.at) fun _ _ => LW.re 22 (.int .i64 10) rfl (by rw [hL]; rfl) <| Lv Cm <| Lv Pf <| LW.re 24 (.bool false) rfl (by rfl) <| Nl <| Ps <| Cf <| Sk <| Ps <| Sq <| Rg <| Lv Mv <| Lv Mv <| Le (CR fun w hw => clNew_c w) fun a2 _ => Lv Mv <| Lv Ex <| Lv Ex <| Lv Av <| Lv Av <| Nl <| Ps <| Sq <| Sq <| Rg <| Lv Mv <| Lv Cm <| Nl <| Ps <| Cf <| Sk <| Ps <| Sq <| Rg <| Lv Mv <| Le (CV fun w hw => lines_c db cb D k w hw.at) fun _ _ => LW.re 36 (.int .i64 10) rfl (by rw [hL]; rfl) <| Le (CV fun w hw => slabs_c 10 (by omega) w) fun _ _ => LW.re 37 (.int .i64 1) rfl (by rfl) <| Le (CR fun w hw => plNew_c w) fun a3 _ => Lv Mv <| Lv Ex <| Lv Ex <| Lv Av <| Lv Av <| Nl <| Ps <| Sq <| Rg <| Lv Mv <| Lv (Bd [_, _, _, _]) <| Le XA fun b43 _ => Lv Mv <| Lv Mv <| Lv Mv <| Le (CR fun w hw => lbNew_c w) fun a4 _ => Le (CR fun w hw => tbNew_c w) fun a5 _ => Le (CR fun w hw => orNew_c w) fun a6 _ => Le (CR fun w hw => ffNew_c w) fun a7 _ => Lv (Bd [_, _, _, _, _, _, _, _, _, _, _]) <| Le XA fun b52 _ => Lv Av <| Lv Av <| Nl <| Ps <| Rt <| Rt2 ?_
  intro w' hw; exact ⟨b52, trivial, rfl, hw.ro (by repeat (first | exact .nil | apply Pick.cons | exact .here | apply Ext.there)) hs⟩
theorem ins_c (v : Value) (w : World) : Calls Tryz.prog 131 [.slice none 0 0, .int .i64 0, .int .i64 0, v].toArray w fun e w' => e = .returned (.tuple #[]) ∧ Below w.heap.size w w' := by
  refine V.calls [] Tryz.func131 rfl Tryz.ntmps131 (Nat.le_of_ble_eq_true rfl) (V.sat_nil _) <| Sq <| Rg <| Lv Mv <| Lv Ar <| Lv Av <| Nl <| Ps <| Bk <| CW.loopU 0 <| Sq <| Sq <| Rg <| Lv Mv <| Lv Mv <| Lv Cm <| Nl <| Ps <| Cf <| Xt <| Te <| Te <| Bh <| PQ.end0 rfl ?_
  intro w' hw; exact ⟨rfl, hw.below⟩
theorem stab_c (v : Value) (w : World) : Calls Tryz.prog 160 [.slice none 0 0, .int .i64 0, v].toArray w fun e w' => e = .returned (.tuple #[]) ∧ Below w.heap.size w w' := by
  refine V.calls [] Tryz.func160 rfl Tryz.ntmps160 (Nat.le_of_ble_eq_true rfl) (V.sat_nil _) <| Sq <| Rg <| Lv Av <| Nl <| Ps <| Sq <| Rg <| Lv Mv <| Lv Av <| Lv Av <| Nl <| Ps <| Sq <| Bk <| CW.loopU 0 <| Sq <| Sq <| Rg <| Lv Mv <| Lv Mv <| Lv Cm <| Nl <| Ps <| Cf <| Xt <| Te <| Te <| Bh <| Ps <| Sq <| Rg <| Lv Mv <| Lv Mv <| Lv Mv <| Lv Mv <| Le (CV fun w hw => ins_c v w) fun _ _ => Nl <| Ps <| Bk <| CW.loopU 0 <| Sq <| Sq <| Rg <| Lv Mv <| Lv Mv <| Lv Cm <| Nl <| Ps <| Cf <| Xt <| Te <| Te <| Bh <| PQ.end0 rfl ?_
  intro w' hw; exact ⟨rfl, hw.below⟩
theorem sort_c (v : Value) (w : World) : Calls Tryz.prog 124 [.slice none 0 0, v].toArray w fun e w' => e = .returned (.tuple #[]) ∧ Below w.heap.size w w' := by
  refine V.calls [] Tryz.func124 rfl Tryz.ntmps124 (Nat.le_of_ble_eq_true rfl) (V.sat_nil _) <| Rg <| Lv Mv <| Lv Mv <| Lv Ln <| Lv Mv <| Le (CV fun w hw => stab_c v w) fun _ _ => Nl <| PQ.end0 rfl ?_
  intro w' hw; exact ⟨rfl, hw.below⟩
theorem over_c (db cb : Nat) (D : List Ce) (k : Cnt) (hL : D.length = 10) (w : World) (hs : Sat (devS db cb D k) w) : Calls Tryz.prog 97 [.pointer (some ⟨db, 0, none⟩), .int .i64 1, .int .u64 0, .slice none 0 0].toArray w fun e w' => ∃ a : Nat, True ∧ e = .returned (.tuple #[.pointer (some ⟨a, 0, none⟩), .int .i64 0]) ∧ Below w.heap.size w w' := by
  refine V.calls (devS db cb D k) Tryz.func97 rfl Tryz.ntmps97 (Nat.le_of_ble_eq_true rfl) hs <| Sq <| Rg <| Lv Av <| Lv Av <| Nl <| Ps <| Sq <| Sq <| Rg <| Lv Mv <| Lv EP <| Nl <| Ps <| Cf <| Sk <| Ps <| Sq <| Rg <| Lv Mv <| Lv Mv <| Lv Mv <| Le (CR fun w hw => made_c db cb D k hL w hw.pk.sat) fun a1 _ => Lv Mv <| Lv Ex <| Lv Ex <| Lv Av <| Lv Av <| Nl <| Ps <| Sq <| Sq <| Rg <| Lv Mv <| Lv Cm <| Nl <| Ps <| Cf <| Sk <| Ps <| Sq <| Sq <| Rg <| Lv Mv <| Lv Ln <| Lv Mv <| Nl <| Ps <| Bk <| CW.loopU 0 <| Sq <| Rg <| Lv Cm <| Nl <| Ps <| Sq <| Cf <| Xt <| Te <| Te <| Bh <| Ps <| Sq <| Rg <| Lv Av <| Nl <| Ps <| Sq <| Sq <| Rg <| Lv Mv <| Lv Ln <| Lv Mv <| Nl <| Ps <| Bk <| CW.loopU 0 <| Sq <| Rg <| Lv Cm <| Nl <| Ps <| Sq <| Cf <| Xt <| Te <| Te <| Bh <| Ps <| Sq <| Rg <| Lv Mv <| Le (CV fun w hw => sort_c _ w) fun _ _ => Nl <| Ps <| Sq <| Sq <| Rg <| Lv Mv <| Lv Ln <| Lv Mv <| Nl <| Ps <| Bk <| CW.loopU 0 <| Sq <| Rg <| Lv Cm <| Nl <| Ps <| Sq <| Cf <| Xt <| Te <| Te <| Bh <| Ps <| Sq <| Rg <| Lv Mv <| Lv Av <| Lv Av <| Nl <| Ps <| Rt <| Rt2 ?_
  intro w' hw; exact ⟨a1, trivial, rfl, hw.ro (by repeat (first | exact .nil | apply Pick.cons | exact .here | apply Ext.there)) hs⟩
end Go.Proofs.YtcnjjefbnlgdjaaGreat

/- A small calculus of symbolic states, part 31: deferred calls. No program in sight. -/
namespace Go.Proofs.YtcnjjefbnlgdjaaGreat.V
open Go Go.RowKit
set_option linter.unusedVariables false
/-- An activation with more calls deferred, ahead of its own. -/
def sh (ds : List Deferred) (a : Act) : Act := { a with defers := a.defers ++ ds }
/-- What is to hold where more calls are deferred. -/
def SQ (ds : List Deferred) (Q : Exit → Act → World → Prop) : Exit → Act → World → Prop := fun e a w => Q e (sh ds a) w
section
variable {P : Program} {n : Nat} {B : Base} {Q : Exit → Act → World → Prop} {ks : Ks} {sg : Sg} {ops : Array Oper} {ds : List Deferred}
theorem sh_put (a : Act) (d : Option Tmp) (v : Value) : sh ds (a.put d v) = (sh ds a).put d v := by cases d <;> rfl
theorem sh_sh (es : List Deferred) (a : Act) : sh ds (sh es a) = sh (es ++ ds) a := by simp only [sh, List.append_assoc]
theorem wp_sh {o : Oper} {a : Act} {w : World} {next next' : Act → World → Prop} (hn : ∀ a w, next' a w → next (sh ds a) w) (h : o.wp P a w next' (SQ ds Q)) : o.wp P (sh ds a) w next Q := by
  unfold Oper.wp at h ⊢
  have e1 : (sh ds a).eval = a.eval := rfl
  rw [e1]
  cases hr : (execOp a.eval o).run P w with
  | ok x w' =>
    rw [hr] at h
    cases x with
    | value v => rw [Oper.upon_value] at h ⊢; rw [← sh_put]; exact hn _ _ h
    | skip => rw [Oper.upon_skip] at h ⊢; rw [← sh_put]; exact hn _ _ h
    | defer d => rw [Oper.upon_defer] at h ⊢; have := hn _ _ h; rw [sh_put] at this; exact this
    | enter f args =>
      rw [Oper.upon_enter] at h ⊢
      refine Calls.mono h fun e w'' hq => ?_
      cases e with
      | returned v => have := hn _ _ hq; rw [sh_put] at this; exact this
      | panicked chain => exact hq
      | outgrown => obtain ⟨a2, w2, h2⟩ := hq; exact ⟨sh ds a2, w2, h2⟩
    | row r args =>
      rw [Oper.upon_row] at h ⊢
      refine Rows.mono h fun v w'' hq => ?_
      have := hn _ _ hq
      rw [sh_put] at this
      exact this
    | _ => exact h.elim
  | halt x w' =>
    rw [hr] at h
    cases x <;> first | exact h.elim | exact h
theorem wpList_sh : ∀ {l : List Oper} {a : Act} {w : World}, wpList P ops (SQ ds Q) l a w → wpList P ops Q l (sh ds a) w
  | [], a, w, h => h
  | o :: rest, a, w, h => by
    unfold wpList at h ⊢
    have e1 : yielded ops (sh ds a).tmps = yielded ops a.tmps := rfl
    rw [e1]
    split
    · rename_i hg
      rw [if_pos hg] at h
      rcases h with h | ⟨h1, a2, w2, h2⟩
      · exact .inl (wp_sh (fun a w h => wpList_sh h) h)
      · exact .inr ⟨h1, sh ds a2, w2, h2⟩
    · rename_i hg
      rw [if_neg hg] at h
      rw [← sh_put]
      exact wpList_sh h
/-- Code, where calls are deferred. -/
def CD (P : Program) (n : Nat) (B : Base) (ds : List Deferred) (Q : Exit → Act → World → Prop) (c : Code) (ks : Ks) (sg : Sg) : Prop := ∀ a w, Fr n ks a → Hp B sg w → c.wp P Q (sh ds a) w
theorem CD.region {id : Nat} {l : List Oper} (h : LW P n B l.toArray (SQ ds Q) l ks sg) : CD P n B ds Q (.region id l.toArray false) ks sg := fun a w ha hw => wp_region_lit (wpList_sh (h a w ha hw))
theorem CD.seq {x y : Code} (h : CD P n B ds (Exit.then (y.wp P Q) Q) x ks sg) : CD P n B ds Q (.seq x y) ks sg := fun a w ha hw => wp_seq (h a w ha hw)
theorem CD.skip (h : PQ n B (SQ ds Q) .normal ks sg) : CD P n B ds Q .skip ks sg := fun a w ha hw => wp_skip (h a w ha hw)
theorem CD.cond_t {c : Operand} {x y : Code} (hc : ev ks c = some (.bool true)) (h : CD P n B ds Q x ks sg) : CD P n B ds Q (.cond c x y) ks sg :=
  fun a w ha hw => wp_cond_split (t := true) (ha.ev hc) (fun _ => h a w ha hw) (fun e => by cases e)
theorem PQ.seqD {y : Code} (h : CD P n B ds Q y ks sg) : PQ n B (SQ ds (Exit.then (y.wp P Q) Q)) .normal ks sg := fun a w ha hw => h a w ha hw
/-- A call is deferred, where none was; where some were. -/
theorem LW.dfr {f : FuncId} {xs : List Operand} {vs : List Value} {ats : Array TypeId} {ty : TypeId} {pos : String} {aft : Array Edge} {g : Option (Nat × Bool)} {y : Code} (hg : gd ops ks g = some true) (hxs : evs ks xs = some vs)
    (h : CD P n B [⟨.fn (.func f) #[], vs.toArray⟩] Q y ks sg) : LW P n B ops (Exit.then (y.wp P Q) Q) [⟨none, .defer { callee := .value (.func f), args := xs.toArray, argTypes := ats }, ty, pos, aft, g⟩] ks sg := fun a w ha hw =>
  wpList_step fun K hK => by
    rw [if_pos (wanted_gd (o := ⟨none, .defer { callee := .value (.func f), args := xs.toArray, argTypes := ats }, ty, pos, aft, g⟩) ha hg)]
    unfold Oper.wp
    have hm := ha.evs hxs
    have hr : (execOp a.eval ⟨none, .defer { callee := .value (.func f), args := xs.toArray, argTypes := ats }, ty, pos, aft, g⟩).run P w = .ok (.defer ⟨.fn (.func f) #[], vs.toArray⟩) w := by
      simp only [execOp, resolve, Act.eval, Deferred.ofValue, Sem.run_bind, Sem.run_pure, Result.andThen_ok, List.map_toArray, hm, Array.empty_append]
    rw [hr, Oper.upon_defer]
    refine hK _ _ ?_
    have h2 := h a w ha hw
    rw [ha.defers]
    unfold sh at h2
    rw [ha.defers] at h2
    exact h2
theorem LW.dfr2 {f : FuncId} {xs : List Operand} {vs : List Value} {ats : Array TypeId} {ty : TypeId} {pos : String} {aft : Array Edge} {g : Option (Nat × Bool)} {y : Code} (hg : gd ops ks g = some true) (hxs : evs ks xs = some vs)
    (h : CD P n B (⟨.fn (.func f) #[], vs.toArray⟩ :: ds) Q y ks sg) : LW P n B ops (SQ ds (Exit.then (y.wp P Q) Q)) [⟨none, .defer { callee := .value (.func f), args := xs.toArray, argTypes := ats }, ty, pos, aft, g⟩] ks sg := fun a w ha hw =>
  wpList_step fun K hK => by
    rw [if_pos (wanted_gd (o := ⟨none, .defer { callee := .value (.func f), args := xs.toArray, argTypes := ats }, ty, pos, aft, g⟩) ha hg)]
    unfold Oper.wp
    have hm := ha.evs hxs
    have hr : (execOp a.eval ⟨none, .defer { callee := .value (.func f), args := xs.toArray, argTypes := ats }, ty, pos, aft, g⟩).run P w = .ok (.defer ⟨.fn (.func f) #[], vs.toArray⟩) w := by
      simp only [execOp, resolve, Act.eval, Deferred.ofValue, Sem.run_bind, Sem.run_pure, Result.andThen_ok, List.map_toArray, hm, Array.empty_append]
    rw [hr, Oper.upon_defer]
    refine hK _ _ ?_
    have h2 := h a w ha hw
    rw [ha.defers]
    unfold sh at h2
    rw [ha.defers] at h2
    exact h2
/-- The end: the deferred calls are to be done. -/
theorem PQ.endD {fn : Func} {R : Ending → World → Prop} (h : ∀ a w, Fr n ks a → Hp B sg w → Leaves P fn a.tmps R ds .returning w) : PQ n B (SQ ds (bodyPostD P fn R)) .normal ks sg := fun a w ha hw => by
  show Leaves P fn a.tmps R (a.defers ++ ds) .returning w
  rw [ha.defers]
  exact h a w ha hw
theorem Leaves.call {fn : Func} {tmps : Array Value} {R : Ending → World → Prop} {f : FuncId} {vs : List Value} {w : World} {α : Type} {φ : α → Prop} {v : α → Value} {ss r : Sg} {so : α → Sg} (hw : Hp B sg w) (hp : Pick ss sg r)
    (hc : ∀ (args : Array Value) (w : World), (callFunc f args).run P w = .ok (.enter f args) w)
    (h : Sat ss w → CallsD P f vs.toArray .returning w fun e u w' => u = .returning ∧ ∃ x, φ x ∧ e = .returned (v x) ∧ Hp ⟨w, ids ss⟩ (so x) w')
    (k : ∀ x w', φ x → Hp B (so x ++ r) w' → Leaves P fn tmps R ds .returning w') : Leaves P fn tmps R (⟨.fn (.func f) #[], vs.toArray⟩ :: ds) .returning w := by
  refine leaves_cons (f := f) (args := vs.toArray) (by simp) (by simp [invoke, hc]) ?_
  refine CallsD.mono (h (hw.sat.pick hp)) ?_
  rintro e u w' ⟨rfl, x, hx, rfl, hw'⟩
  exact k x w' hx (hw.call hp hw')
theorem Leaves.nil0 {fn : Func} {tmps : Array Value} {R : Ending → World → Prop} {w : World} (hr : fn.results = #[]) (h : R (.returned (.tuple #[])) w) : Leaves P fn tmps R [] .returning w := ⟨.tuple #[], results_none hr _ _ _, h⟩
/-- A call that is entered as a deferred one, by its body. -/
theorem callsD {f : FuncId} {fn : Func} {c : Code} {l : List Value} {u : FrameMode} {w : World} {R : Ending → World → Prop} {m : Nat} (sg0 : Sg)
    (hf : P.funcs[f]? = some fn) (hb : fn.body = some c) (hn : fn.ntmps = m) (hl : l.length ≤ m) (hs : Sat sg0 w)
    (h : CW P m ⟨w, ids sg0⟩ (bodyPost P fn R) c (initK 0 l) sg0) : CallsD P f l.toArray u w fun e u' w' => u' = u ∧ R e w' := by
  refine callsD_of_wp hf hb (h _ w ⟨rfl, ?_, fun i v hi => ?_⟩ (Hp.start hs))
  · simp [hn]; omega
  · obtain ⟨k, rfl, hv⟩ := look_initK l 0 i v hi
    have hk : k < l.length := (List.getElem?_eq_some_iff.1 hv).1
    simp only [Nat.zero_add]
    rw [Array.getElem?_append_left (by simpa using hk)]
    simpa using hv
/-- A call whose body defers calls. -/
theorem callsDf {f : FuncId} {fn : Func} {c : Code} {l : List Value} {w : World} {R : Ending → World → Prop} {m : Nat} (sg0 : Sg)
    (hf : P.funcs[f]? = some fn) (hb : fn.body = some c) (hn : fn.ntmps = m) (hl : l.length ≤ m) (hs : Sat sg0 w)
    (h : CW P m ⟨w, ids sg0⟩ (bodyPostD P fn R) c (initK 0 l) sg0) : Calls P f l.toArray w R := by
  refine calls_of_wp_defers hf hb (h _ w ⟨rfl, ?_, fun i v hi => ?_⟩ (Hp.start hs))
  · simp [hn]; omega
  · obtain ⟨k, rfl, hv⟩ := look_initK l 0 i v hi
    have hk : k < l.length := (List.getElem?_eq_some_iff.1 hv).1
    simp only [Nat.zero_add]
    rw [Array.getElem?_append_left (by simpa using hk)]
    simpa using hv
variable {d : Option Tmp} {ty : TypeId} {pos : String} {aft : Array Edge} {g : Option (Nat × Bool)}
/-- A pointer to a cell, turned into one without a type. -/
theorem Val.toUns {src dst t : TypeId} {x : Operand} {b o : Nat} {v : Value} (hx : ev ks x = some (.pointer (some ⟨b, o, none⟩))) (hs : P.underlying src = some (.pointer t)) (hd : P.underlying dst = some .unsafePointer) (hsz : (P.info? t).map (fun i => decide (i.size = 0)) = some false)
    (hc : ∀ w, Hp B sg w → w.cell? ⟨b, o, none⟩ = some v) : Val P n B ⟨d, .convert src dst x, ty, pos, aft, g⟩ ks sg (.pointer (some ⟨b, o, none⟩)) := fun a w ha hw => by
  show (do pure (Next.value (← convert src dst (a.eval x))) : Sem Next).run P w = _
  rw [ha.ev hx]
  exact run_value (run_convert_to_unsafe hs hd hsz (hc w hw))
end
end Go.Proofs.YtcnjjefbnlgdjaaGreat.V
