/- A small calculus of symbolic states, part 23: maps by whole numbers: literals, look-ups, ranges. No program in sight. -/
import Derived.Test.YtlpbjmbgopfkhaaGreatV17
import Derived.Maps.RangeRun
namespace Go.Proofs.YtlpbjmbgopfkhaaGreat.V
open Go Go.RowKit Go.MapKept
open Go.ChangeMaps (setBlock)
set_option linter.unusedVariables false
abbrev MI := List (Nat × Int × Value)
def iE (e : Nat × Int × Value) : MapEntry := ⟨.int .i64 e.2.1, e.2.2, e.1⟩
def imO (E : MI) (c : Nat) : Obj := .map (E.map iE).toArray c
def ifind : MI → Int → Nat → Option (Nat × Value)
  | [], _, _ => none
  | e :: r, k, i => if e.2.1 = k then some (i, e.2.2) else ifind r k (i + 1)
def iget : MI → Int → Option Value
  | [], _ => none
  | e :: r, k => if e.2.1 = k then some e.2.2 else iget r k
theorem findNow_ifind (k : Int) : ∀ (E : MI) (i : Nat), Instr.findNow (.int .i64) (.int .i64 k) (E.map iE) i = some (ifind E k i)
  | [], i => rfl
  | e :: r, i => by
    simp only [List.map_cons, Instr.findNow, iE, Instr.sameNow, ifind, if_true]
    by_cases h : e.2.1 = k
    · have : (k == e.2.1) = true := by simp [h]
      rw [this, if_pos h]
    · have : (k == e.2.1) = false := by simp; exact fun e1 => h e1.symm
      simp only [this, if_neg h]
      exact findNow_ifind k r (i + 1)
theorem ifind_get (k : Int) : ∀ (E : MI) (i : Nat), (ifind E k i).map (·.2) = iget E k
  | [], i => rfl
  | e :: r, i => by
    simp only [ifind, iget]
    split
    · rfl
    · exact ifind_get k r (i + 1)
section
variable {P : Program} {n : Nat} {B : Base} {ks : Ks} {sg : Sg} {d : Option Tmp} {ty : TypeId} {pos : String} {aft : Array Edge} {g : Option (Nat × Bool)}
theorem run_findKey_i {w : World} {kt : TypeId} {k : Int} {E : MI} (hk : P.underlying kt = some (.int .i64)) : (Instr.findKey kt (.int .i64 k) (E.map iE)).run P w = .ok (ifind E k 0) w := run_findKey hk (findNow_ifind k E 0)
theorem run_ilookup {t kt et : TypeId} {b c : Nat} {E : MI} {k : Int} {z : Value} (ok : Bool) {w : World} (hu : P.underlying t = some (.map kt et)) (hk : P.underlying kt = some (.int .i64)) (hz : ∀ w, (zeroValue et).run P w = .ok z w) (hb0 : w.heap[b]? = some (imO E c)) :
    (Instr.lookup t (.map (some b)) (.int .i64 k) ok).run P w = .ok (if ok then .tuple [(iget E k).getD z, .bool (iget E k).isSome].toArray else (iget E k).getD z) w := by
  have hb : w.heap[b]? = some (.map (E.map iE).toArray c) := hb0
  have hc : ∀ e, (Instr.checkKey e 10000 kt (.int .i64 k)).run P w = .ok () w := fun e => run_checkKey hk (show IsKey (.int .i64) (.int .i64 k) from rfl) e 9999
  have hf := run_findKey_i (P := P) (w := w) (k := k) (E := E) hk
  have hg := ifind_get k E 0
  simp only [Instr.lookup, Sem.run_bind, run_underlying hu, Result.andThen_ok, MapKept.run_getObj_map hb, Sem.run_pure, hc, hf]
  cases ok <;> cases hq : ifind E k 0 with
  | none => rw [hq] at hg; simp only [Option.map_none] at hg; simp [← hg, hz]
  | some p => rw [hq] at hg; simp only [Option.map_some] at hg; simp [← hg]
theorem Val.ilookup {t kt et : TypeId} {x y : Operand} {b c : Nat} {E : MI} {k : Int} {z : Value} (hx : ev ks x = some (.map (some b))) (hy : ev ks y = some (.int .i64 k)) (hu : P.underlying t = some (.map kt et)) (hk : P.underlying kt = some (.int .i64)) (hz : ∀ w, (zeroValue et).run P w = .ok z w) (hm : InS (b, imO E c) sg) :
    Val P n B ⟨d, .lookup t x y true, ty, pos, aft, g⟩ ks sg (.tuple [(iget E k).getD z, .bool (iget E k).isSome].toArray) := fun a w ha hw => by
  show (do pure (Next.value (← Instr.lookup t (a.eval x) (a.eval y) true)) : Sem Next).run P w = _
  rw [ha.ev hx, ha.ev hy]
  exact run_value (run_ilookup true hu hk hz (hw.own _ hm.mem))
theorem Val.ilookup1 {t kt et : TypeId} {x y : Operand} {b c : Nat} {E : MI} {k : Int} {z : Value} (hx : ev ks x = some (.map (some b))) (hy : ev ks y = some (.int .i64 k)) (hu : P.underlying t = some (.map kt et)) (hk : P.underlying kt = some (.int .i64)) (hz : ∀ w, (zeroValue et).run P w = .ok z w) (hm : InS (b, imO E c) sg) :
    Val P n B ⟨d, .lookup t x y false, ty, pos, aft, g⟩ ks sg ((iget E k).getD z) := fun a w ha hw => by
  show (do pure (Next.value (← Instr.lookup t (a.eval x) (a.eval y) false)) : Sem Next).run P w = _
  rw [ha.ev hx, ha.ev hy]
  exact run_value (run_ilookup false hu hk hz (hw.own _ hm.mem))
theorem Eff.imakeMap {t : TypeId} : Eff P n B ⟨d, .makeMap t none, ty, pos, aft, g⟩ ks sg (α := Nat) (fun _ => True) (fun b => .map (some b)) (fun b => [(b, imO [] 0)] :: sg) := Eff.makeMap
/-- An entry of a literal: its key is new. -/
theorem Eff.insert {t kt et : TypeId} {x y z : Operand} {b c : Nat} {E : MI} {k : Int} {v : Value} {sg' : Sg} (hx : ev ks x = some (.map (some b))) (hy : ev ks y = some (.int .i64 k)) (hz : ev ks z = some v) (hu : P.underlying t = some (.map kt et)) (hk : P.underlying kt = some (.int .i64)) 
    (hU : Upd b (imO E c) (imO (E ++ [(c, k, v)]) (c + 1)) sg sg') (hn : ifind E k 0 = none) : Eff P n B ⟨d, .insert t x y z, ty, pos, aft, g⟩ ks sg (α := Unit) (fun _ => True) (fun _ => undef) (fun _ => sg') := fun a w K Q ha hw hk' => by
  have hb : w.heap[b]? = some (.map (E.map iE).toArray c) := hw.own _ hU.mem
  have hc : ∀ e, (Instr.checkKey e 10000 kt (.int .i64 k)).run P w = .ok () w := fun e => run_checkKey hk (show IsKey (.int .i64) (.int .i64 k) from rfl) e 9999
  have hf := run_findKey_i (P := P) (w := w) (k := k) (E := E) hk
  have hrun : (Instr.mapUpdate t (.map (some b)) (.int .i64 k) v).run P w = .ok () { w with heap := w.heap.setIfInBounds b (imO (E ++ [(c, k, v)]) (c + 1)) } := by
    simp only [Instr.mapUpdate, Sem.run_bind, run_underlying hu, Result.andThen_ok, MapKept.run_getObj_map hb, Sem.run_pure, hc, hf, hn]
    simp only [run_setObj_map _ hb, imO, List.map_append, List.map_cons, List.map_nil, iE, List.push_toArray]
  unfold Oper.wp
  have : (execOp a.eval ⟨d, .insert t x y z, ty, pos, aft, g⟩).run P w = .ok .skip { w with heap := w.heap.setIfInBounds b (imO (E ++ [(c, k, v)]) (c + 1)) } := by
    show (do Instr.mapUpdate t (a.eval x) (a.eval y) (a.eval z); pure .skip : Sem Next).run P w = _
    rw [ha.ev hx, ha.ev hy, ha.ev hz, Sem.run_bind, hrun]; rfl
  rw [this]
  exact hk' () _ trivial (hw.upd hU rfl rfl rfl (by simp) (heap_set hb).1 (fun k hk => (heap_set hb).2 k hk))
end
/-- An iterator over the map at b, of clock c, that has handed out D. -/
def iitO (b c : Nat) (D : MI) : Obj := .mapIter (some b) c ((D.map (·.1)).toArray) c
/-- The stamps of a map's entries. -/
structure IStp (E : MI) (c : Nat) : Prop where
  lt : ∀ e ∈ E, e.1 < c
  nd : (E.map (·.1)).Nodup
theorem IStp.nil (c : Nat) : IStp [] c := ⟨by simp, by simp⟩
theorem istamp_inj {E : MI} (h : (E.map (·.1)).Nodup) {x y : Nat × Int × Value} (hx : x ∈ E) (hy : y ∈ E) (e : x.1 = y.1) : x = y := by
  induction E with
  | nil => simp at hx
  | cons a r ih =>
    simp only [List.map_cons, List.nodup_cons] at h
    rcases List.mem_cons.1 hx with hx1 | hx1
    · rcases List.mem_cons.1 hy with hy1 | hy1
      · rw [hx1, hy1]
      · exact absurd (List.mem_map_of_mem (f := (·.1)) hy1) (by rw [← e, hx1]; exact h.1)
    · rcases List.mem_cons.1 hy with hy1 | hy1
      · exact absurd (List.mem_map_of_mem (f := (·.1)) hx1) (by rw [e, hy1]; exact h.1)
      · exact ih h.2 hx1 hy1
theorem inodup_of_stamps {E : MI} (h : (E.map (·.1)).Nodup) : E.Nodup := by
  induction E with
  | nil => simp
  | cons a r ih =>
    simp only [List.map_cons, List.nodup_cons] at h ⊢
    exact ⟨fun ha => h.1 (List.mem_map_of_mem ha), ih h.2⟩
/-- What an iterator has handed out so far: entries of the map, none twice. -/
structure IVis (E D : MI) : Prop where
  sub : ∀ e ∈ D, e ∈ E
  nd : (D.map (·.1)).Nodup
theorem IVis.nil (E : MI) : IVis E [] := ⟨by simp, by simp⟩
theorem IVis.snoc {E D : MI} {e : Nat × Int × Value} (h : IVis E D) (he : e ∈ E) (hn : e.1 ∉ D.map (·.1)) : IVis E (D ++ [e]) := by
  refine ⟨fun x hx => ?_, ?_⟩
  · rcases List.mem_append.1 hx with hx | hx
    · exact h.sub x hx
    · simp at hx; subst hx; exact he
  · rw [List.map_append, List.nodup_append]
    refine ⟨h.nd, by simp, fun a ha b hb => ?_⟩
    simp at hb; subst hb
    intro e1; subst e1; exact hn ha
theorem IVis.le {E D : MI} (h : IVis E D) : D.length ≤ E.length :=
  len_le_of_nodup (inodup_of_stamps h.nd) (fun e he => h.sub e he)
theorem IVis.lt {E D : MI} {e : Nat × Int × Value} (h : IVis E D) (he : e ∈ E) (hn : e.1 ∉ D.map (·.1)) : D.length < E.length := by
  have := (h.snoc he hn).le
  simp at this; omega
theorem IVis.perm {E D : MI} (h : IVis E D) (hE : (E.map (·.1)).Nodup) (ha : ∀ e ∈ E, e.1 ∈ D.map (·.1)) : D.Perm E := by
  refine (List.perm_ext_iff_of_nodup (inodup_of_stamps h.nd) (inodup_of_stamps hE)).2 fun e => ⟨h.sub e, fun he => ?_⟩
  obtain ⟨x, hx, hx1⟩ := List.mem_map.1 (ha e he)
  rwa [← istamp_inj hE (h.sub x hx) he hx1]
section
variable {P : Program} {n : Nat} {B : Base} {ks : Ks} {sg : Sg} {d : Option Tmp} {ty : TypeId} {pos : String} {aft : Array Edge} {g : Option (Nat × Bool)}
theorem Eff.irange {t kt et : TypeId} {x : Operand} {b c : Nat} {E : MI} (hx : ev ks x = some (.map (some b))) (hu : P.underlying t = some (.map kt et)) (hm : InS (b, imO E c) sg) :
    Eff P n B ⟨d, .range t x, ty, pos, aft, g⟩ ks sg (α := Nat) (fun _ => True) (fun r => .pointer (some ⟨r, 0, none⟩)) (fun r => [(r, iitO b c [])] :: sg) :=
  Eff.new (f := fun r => .pointer (some ⟨r, 0, none⟩)) fun a w ha hw => by
    have hb : w.heap[b]? = some (.map (E.map iE).toArray c) := hw.own _ hm.mem
    have e := ha.ev hx
    have h1 := run_range_map w t kt et b (E.map iE).toArray c hu hb
    show (do pure (Next.value (← Instr.range t (a.eval x))) : Sem Next).run P w = _
    rw [e]
    exact run_value h1
/-- A step: an entry that was not handed out, or the end behind all of them. -/
theorem Eff.inext {x : Operand} {r b c : Nat} {E D : MI} {sg' : Nat × Int × Value → Sg} (hx : ev ks x = some (.pointer (some ⟨r, 0, none⟩))) (hm : InS (b, imO E c) sg) (hs : IStp E c) (hU : ∀ e, Upd r (iitO b c D) (iitO b c (D ++ [e])) sg (sg' e)) :
    Eff P n B ⟨d, .next x false, ty, pos, aft, g⟩ ks sg (α := Option (Nat × Int × Value)) (fun o => match o with | none => ∀ e ∈ E, e.1 ∈ D.map (·.1) | some e => e ∈ E ∧ e.1 ∉ D.map (·.1))
      (fun o => match o with | none => .tuple #[.bool false] | some e => .tuple #[.bool true, .int .i64 e.2.1, e.2.2]) (fun o => match o with | none => sg | some e => sg' e) := fun a w K Q ha hw hk => by
  have hb : w.heap[b]? = some (.map (E.map iE).toArray c) := hw.own _ hm.mem
  have hr := hw.own _ (hU (0, 0, undef)).mem
  simp only [iitO] at hr
  have e := ha.ev hx
  have hold : ∀ y ∈ (E.map iE).toArray.toList, y.born < c := fun y hy => by
    simp only [List.toList_toArray, List.mem_map] at hy
    obtain ⟨z, hz, rfl⟩ := hy
    exact hs.lt z hz
  unfold Oper.wp
  rcases run_next_at (P := P) w ty r b c c _ _ c hr hb hold (Nat.le_refl _) with ⟨h0, hrun⟩ | ⟨y, hy, w1, hal, hrun⟩
  · have : (execOp a.eval ⟨d, .next x false, ty, pos, aft, g⟩).run P w = .ok (.value (.tuple #[.bool false])) w := by
      show (do pure (Next.value (← Instr.next (a.eval x) false ty)) : Sem Next).run P w = _
      rw [e]; exact run_value hrun
    rw [this]
    refine hk none w (fun y hy => ?_) hw
    by_cases hin : y.1 ∈ D.map (·.1)
    · exact hin
    · exfalso
      have hmem : iE y ∈ (leftOf (E.map iE).toArray ((D.map (·.1)).toArray)).toList := by
        unfold leftOf
        simp only [List.filter_toArray, List.toList_toArray, List.mem_filter]
        refine ⟨List.mem_map_of_mem hy, ?_⟩
        simp only [List.contains_toArray, Bool.not_eq_true', iE]
        simpa using hin
      have := List.length_pos_of_mem hmem
      simp only [Array.length_toList] at this
      omega
  · unfold leftOf at hy
    simp only [List.filter_toArray, List.toList_toArray, List.mem_filter] at hy
    obtain ⟨hy1, hy2⟩ := hy
    obtain ⟨z, hz, rfl⟩ := List.mem_map.1 hy1
    have hz2 : z.1 ∉ D.map (·.1) := by
      simp only [List.contains_toArray, Bool.not_eq_true', iE] at hy2
      simpa using hy2
    have : (execOp a.eval ⟨d, .next x false, ty, pos, aft, g⟩).run P w = .ok (.value (.tuple #[.bool true, .int .i64 z.2.1, z.2.2])) (setBlock w1 r (.mapIter (some b) c (((D.map (·.1)).toArray).push z.1) c)) := by
      show (do pure (Next.value (← Instr.next (a.eval x) false ty)) : Sem Next).run P w = _
      rw [e]; exact run_value hrun
    rw [this]
    have hw1 : Hp B sg w1 := by
      rcases hal with rfl | rfl
      · exact hw
      · exact ⟨hw.os, hw.tape, hw.output, hw.size, hw.old, hw.own, hw.lo, hw.nd⟩
    have hr1 := hw1.own _ (hU z).mem
    have hset := heap_set (o' := .mapIter (some b) c (((D.map (·.1)).toArray).push z.1) c) hr1
    refine hk (some z) _ ⟨hz, hz2⟩ (hw1.upd (hU z) rfl rfl rfl (by simp [setBlock]) ?_ (fun k hk => hset.2 k hk))
    refine Eq.trans hset.1 ?_
    simp [iitO]
theorem Val.ientry {x : Operand} {r b c : Nat} {E D : MI} {e : Nat × Int × Value} (hx : ev ks x = some (.pointer (some ⟨r, 0, none⟩))) (hr : InS (r, iitO b c (D ++ [e])) sg) (hm : InS (b, imO E c) sg) (he : e ∈ E) (hn : (E.map (·.1)).Nodup) :
    Val P n B ⟨d, .entry x, ty, pos, aft, g⟩ ks sg (.tuple [.int .i64 e.2.1, e.2.2].toArray) := fun a w ha hw => by
  have hb : w.heap[b]? = some (.map (E.map iE).toArray c) := hw.own _ hm.mem
  have h1 := hw.own _ hr.mem
  simp only [iitO, List.map_append, List.map_cons, List.map_nil] at h1
  have ee := ha.ev hx
  show (do pure (Next.value (← Instr.entry (a.eval x))) : Sem Next).run P w = _
  rw [ee]
  refine run_value (run_entry_at (P := P) w r b c ((D.map (·.1)).toArray) (E.map iE).toArray c (iE e) ?_ hb (by simp; exact ⟨_, _, _, he, rfl⟩) ?_)
  · rw [h1]; simp [iE]
  · simp only [List.toList_toArray, List.map_map]
    exact hn
end
end Go.Proofs.YtlpbjmbgopfkhaaGreat.V
