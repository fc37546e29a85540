/- A small calculus of symbolic states, part 19: a look-up for its value alone; the kit's maps. No program in sight. -/
import Derived.Test.YtlpbjmbgopfkhaaGreatV18
import Derived.Shelf.SlIter.Sorted
namespace Go.Proofs.YtlpbjmbgopfkhaaGreat.V
open Go Go.RowKit Go.MapKept
set_option linter.unusedVariables false
section
variable {P : Program} {n : Nat} {B : Base} {ks : Ks} {sg : Sg} {d : Option Tmp} {ty : TypeId} {pos : String} {aft : Array Edge} {g : Option (Nat × Bool)}
theorem Val.lookup1 {t kt et : TypeId} {x y : Operand} {b c : Nat} {E : ME} {k : ByteArray} {z : Value} (hx : ev ks x = some (.map (some b))) (hy : ev ks y = some (.string k)) (hu : P.underlying t = some (.map kt et)) (hk : P.underlying kt = some .string) (hz : ∀ w, (zeroValue et).run P w = .ok z w) (hm : InS (b, mpO E c) sg) :
    Val P n B ⟨d, .lookup t x y false, ty, pos, aft, g⟩ ks sg ((mget E k).getD z) := fun a w ha hw => by
  show (do pure (Next.value (← Instr.lookup t (a.eval x) (a.eval y) false)) : Sem Next).run P w = _
  rw [ha.ev hx, ha.ev hy]
  refine run_value ?_
  have hb : w.heap[b]? = some (.map (E.map mE).toArray c) := hw.own _ hm.mem
  have hc : ∀ e, (Instr.checkKey e 10000 kt (.string k)).run P w = .ok () w := fun e => run_checkKey hk (show IsKey .string (.string k) from trivial) e 9999
  have hf := run_findKey_m (P := P) (w := w) (k := k) (E := E) hk
  have hg := mfind_get k E 0
  simp only [Instr.lookup, Sem.run_bind, run_underlying hu, Result.andThen_ok, MapKept.run_getObj_map hb, Sem.run_pure, hc, hf]
  cases hq : mfind E k 0 with
  | none => rw [hq] at hg; simp only [Option.map_none] at hg; simp [← hg, hz]
  | some p => rw [hq] at hg; simp only [Option.map_some] at hg; simp [← hg]
end
/-- How a map's block reads to the kit: its keys alone. -/
def keyD (E : ME) : DataW Unit := .map ((E.map fun e => ((Lit.string e.2.1.data.toList, DataW.nil) : Lit × DataW Unit)).foldr DataW.insert [])
theorem keyD_size (E : ME) : Maps.size (keyD E) = E.length := by
  show ((E.map fun e => ((Lit.string e.2.1.data.toList, DataW.nil) : Lit × DataW Unit)).foldr DataW.insert []).length = _
  rw [length_sorted, List.length_map]
theorem keyD_keys (E : ME) : (Go.strKeys (keyD E)).Perm (E.map fun e => e.2.1.data.toList) := by
  have h := (Go.WideShapes.sorted_perm (E.map fun e => ((Lit.string e.2.1.data.toList, DataW.nil) : Lit × DataW Unit))).map (fun p => Go.strOf p.1)
  simp only [List.map_map] at h
  exact h
theorem owns_keys {P : Program} {kt : TypeId} (hk : P.underlying kt = some .string) {E : ME} {b c : Nat} (hE : mnd E) (hS : Stp E c) (hs : ∀ e ∈ E, e.2.1.size ≤ maxLen) (hn : E.length ≤ maxLen) {w : World} (hb : w.heap[b]? = some (mpO E c)) : w.ownsMap P kt (fun _ => some (DataW.nil, [])) b E.length (keyD E) := by
  have hrd : ∀ e ∈ E, Go.WideElems.rd P kt (fun _ => some ((DataW.nil : DataW Unit), [])) (mE e) = some (Lit.string e.2.1.data.toList, DataW.nil) := fun e he => by
    simp [Go.WideElems.rd, mE, Go.WideMaps.keyOf_string_mk hk (hs e he)]
  refine ⟨(E.map mE).toArray, c, hb, ⟨by simpa using hn, ⟨fun x hx => ?_, ?_, ?_⟩, fun x hx => ?_⟩, by simp, ?_⟩
  · simp only [List.toList_toArray, List.mem_map] at hx
    obtain ⟨e, he, rfl⟩ := hx
    exact hS.lt e he
  · simp only [List.toList_toArray, List.map_map]
    exact hS.nd
  · simp only [List.toList_toArray, List.map_map]
    have : (E.map (fun e => e.2.1)).Nodup := hE
    have h2 := List.Pairwise.map (R := (· ≠ ·)) (S := (· ≠ ·)) (fun k : ByteArray => Value.string k) (fun a b hab h => hab (by injection h)) this
    simpa [List.map_map, Function.comp_def, mE, List.Nodup] using h2
  · simp only [List.toList_toArray, List.mem_map] at hx
    obtain ⟨e, he, rfl⟩ := hx
    exact ⟨_, hrd e he⟩
  · unfold keyD
    congr 2
    simp only [List.toList_toArray, List.map_map]
    refine List.map_congr_left fun e he => ?_
    simp [Go.WideElems.rg, hrd e he]
end Go.Proofs.YtlpbjmbgopfkhaaGreat.V
