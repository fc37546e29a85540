/- A small calculus of symbolic states, part 18: a sort of one's own structs, in the calculus's words. No program in sight. -/
import Derived.Test.YtlpbjmbgopfkhaaGreatV17
import Derived.Shelf.SlSortCmp.WholeK
import Derived.Sort.Walk0
namespace Go.Proofs.YtlpbjmbgopfkhaaGreat.V
open Go Go.RowKit
open Go.Sort (putRow putCells mapBlock grow Holds ahead flatK putRowK HoldsK)
open Go.Proofs (sortWorldK)
set_option linter.unusedVariables false
theorem flatMap_len {α : Type} {enc : α → List Value} {k : Nat} (hk : ∀ x, (enc x).length = k) (l : List α) : (l.flatMap enc).length = l.length * k := by
  induction l with
  | nil => simp
  | cons x r ih => simp only [List.flatMap_cons, List.length_append, hk, ih, List.length_cons, Nat.add_mul, Nat.one_mul]; omega
theorem putCells_flat {α : Type} {enc : α → List Value} {k : Nat} (hk : ∀ x, (enc x).length = k) (l l' : List α) (hl : l'.length = l.length) (rest : List Value) : putCells id 0 (l'.flatMap enc).toArray (l.flatMap enc ++ rest).toArray = (l'.flatMap enc ++ rest).toArray := by
  have h1 := flatMap_len hk l
  have h2 := flatMap_len hk l'
  have h3 : (l'.flatMap enc).length = (l.flatMap enc).length := by rw [h1, h2, hl]
  apply Array.ext
  · simp only [putCells, Array.size_mapIdx, List.size_toArray, List.length_append]; omega
  · intro j hj1 hj2
    simp only [putCells, Array.getElem_mapIdx, Nat.zero_le, true_and, Nat.zero_add, Nat.sub_zero, List.size_toArray, id_eq, List.getElem_toArray]
    split
    · rename_i h
      rw [List.getElem_append_left h, getElem!_pos _ _ (by simpa using h)]
      simp
    · rename_i h
      rw [List.getElem_append_right (by omega), List.getElem_append_right (by omega)]
      congr 1; omega
section
variable {α : Type} [Inhabited α]
theorem flatMap_get {enc : α → List Value} {k : Nat} (hk : ∀ x, (enc x).length = k) (l : List α) {j : Nat} (hj : j < l.length * k) : (l.flatMap enc)[j]? = (enc (l[j / k]!))[j % k]? := by
  have hk0 : 0 < k := by rcases Nat.eq_zero_or_pos k with h | h; (subst h; omega); exact h
  have hq : j / k < l.length := (Nat.div_lt_iff_lt_mul hk0).2 hj
  have hx : l[j / k]? = some l[j / k]! := by rw [List.getElem?_eq_getElem hq, getElem!_pos l _ hq]
  obtain ⟨r, hr⟩ := drop_flatMap hk l (j / k) _ hx
  have hm : j % k < (enc (l[j / k]!)).length := by rw [hk]; exact Nat.mod_lt _ hk0
  have h1 : ((l.flatMap enc).drop (j / k * k))[j % k]? = (enc (l[j / k]!))[j % k]? := by rw [hr, List.getElem?_append_left hm]
  rw [List.getElem?_drop] at h1
  rw [← h1]
  congr 1
  have := Nat.div_add_mod j k
  rw [Nat.mul_comm] at this; omega
theorem flatK_eq {enc : α → List Value} {k : Nat} (hk : ∀ x, (enc x).length = k) (l : List α) : flatK enc k l.toArray = (l.flatMap enc).toArray := by
  apply Array.ext
  · rw [Go.Sort.size_flatK]; simp only [List.size_toArray]; rw [flatMap_len hk]
  · intro j h1 h2
    rw [Go.Sort.size_flatK, List.size_toArray] at h1
    have h3 := Go.Sort.get_flatK enc k l.toArray j (by simpa using h1)
    rw [getElem!_pos _ j (by rw [Go.Sort.size_flatK]; simpa using h1)] at h3
    rw [h3]
    have h4 := flatMap_get hk l h1
    rw [List.getElem?_eq_getElem (by rw [flatMap_len hk]; exact h1)] at h4
    have h5 := (List.getElem?_eq_some_iff.1 h4.symm)
    obtain ⟨h6, h7⟩ := h5
    have e1 : (l.toArray[j / k]! : α) = l[j / k]! := by simp
    rw [e1, getElem!_pos (enc (l[j / k]!)) _ h6, h7]
    simp
theorem holdsK_own {enc : α → List Value} {k T g : Nat} (hk : ∀ x, (enc x).length = k) (l : List α) (rest : List Value) {w : World} (h : w.heap[g]? = some (.cells (l.flatMap enc ++ rest).toArray T (0, 0))) : HoldsK enc k w g 0 l.toArray := by
  unfold HoldsK
  rw [flatK_eq hk]
  intro j hj
  simp only [List.size_toArray] at hj
  refine ⟨?_, frozen_of h⟩
  refine cell_of_block h ?_
  rw [Nat.zero_add, List.getElem?_append_left hj, List.getElem?_eq_getElem hj]
  rw [getElem!_pos _ _ (by simpa using hj)]
  simp
/-- What a sort leaves. -/
theorem sorted_hp {enc : α → List Value} {k T g m : Nat} (hk : ∀ x, (enc x).length = k) (l l' : List α) (hl : l'.length = l.length) (rest : List Value) {w : World} (os : Array Obj) (h : w.heap[g]? = some (.cells (l.flatMap enc ++ rest).toArray T (0, 0))) :
    Hp ⟨w, [g]⟩ [[(g, .cells (l'.flatMap enc ++ rest).toArray T (0, 0))]] (sortWorldK enc k w g 0 m l'.toArray os) := by
  have hlt : g < w.heap.size := lt_of_some h
  have hheap : (sortWorldK enc k w g 0 m l'.toArray os).heap = (w.heap.modify g (Go.Sort.onCells (putCells id 0 (l'.flatMap enc).toArray))) ++ os := by
    unfold sortWorldK putRowK putRow mapBlock grow
    rw [flatK_eq hk]; rfl
  have hg : (sortWorldK enc k w g 0 m l'.toArray os).heap[g]? = some (.cells (l'.flatMap enc ++ rest).toArray T (0, 0)) := by
    rw [hheap, Array.getElem?_append_left (by simpa using hlt), Array.getElem?_modify, if_pos rfl, h]
    simp only [Option.map_some, Go.Sort.onCells]
    rw [putCells_flat hk l l' hl]
  refine ⟨rfl, rfl, rfl, by rw [hheap]; simp, fun b hb hf => ?_, fun p hp => ?_, fun p hp => ?_, by simp⟩
  · have hne : b ≠ g := fun e => hf (by simp [e])
    rw [hheap, Array.getElem?_append_left (by simpa using hb), Array.getElem?_modify, if_neg (fun e => hne e.symm)]
  · simp at hp; subst hp; exact hg
  · simp at hp; subst hp; exact .inr (by simp)
end
/-- A slice that nothing old holds. -/
theorem hp_of_below {e sz n : Nat} {v : Value} {xs : List Value} {w w' : World} (hb : Below w.heap.size w w') (hr : w'.ownsRow w.heap.size e sz v n xs) : ∃ o, v = ownV n o ∧ ownOk sz n xs o ∧ Hp ⟨w, []⟩ [ownG e xs o] w' := by
  have h0 : Hp ⟨w, []⟩ [] w' := ⟨hb.os, hb.tape, hb.output, hb.size, fun b h1 _ => hb.block b h1, by simp, by simp, by simp⟩
  obtain ⟨hlen, ⟨rfl, h⟩ | ⟨g, cap, cur, rfl, hbg, hg, hnc, hcm, hcs, htake⟩⟩ := hr
  · subst h
    have : xs = [] := List.length_eq_zero_iff.1 (by omega)
    subst this
    exact ⟨none, rfl, ⟨by simp, rfl⟩, h0.perm (.refl _)⟩
  · have hcur : cur = (xs ++ cur.toList.drop (n * sz)).toArray := by rw [← htake, List.take_append_drop]
    refine ⟨some (g, cur.toList.drop (n * sz), cap), rfl, ⟨hlen, ?_⟩, ?_⟩
    · have hle : n * sz ≤ cap * sz := Nat.mul_le_mul_right _ hnc
      simp only [List.length_drop, Array.length_toList, hcs, hlen]
      omega
    · have h2 := h0.cons (o := .cells (xs ++ cur.toList.drop (n * sz)).toArray e (0, 0)) (y := g) (by rw [← hcur]; exact hg) (.inl hbg) (by simp [ids])
      exact h2.perm (by simp [ownG, ownS])
end Go.Proofs.YtlpbjmbgopfkhaaGreat.V
