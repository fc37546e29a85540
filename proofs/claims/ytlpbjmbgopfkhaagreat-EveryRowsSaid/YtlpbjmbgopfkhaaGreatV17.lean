/- A small calculus of symbolic states, part 17: ranges over a map by text. No program in sight. -/
import Derived.Test.YtlpbjmbgopfkhaaGreatV16
import Derived.Maps.RangeRun
namespace Go.Proofs.YtlpbjmbgopfkhaaGreat.V
open Go Go.RowKit Go.MapKept
open Go.ChangeMaps (setBlock)
set_option linter.unusedVariables false
/-- An iterator over the map at b, of clock c, that has handed out D. -/
def itO (b c : Nat) (D : ME) : Obj := .mapIter (some b) c ((D.map (·.1)).toArray) c
/-- The stamps of a map's entries. -/
structure Stp (E : ME) (c : Nat) : Prop where
  lt : ∀ e ∈ E, e.1 < c
  nd : (E.map (·.1)).Nodup
theorem Stp.nil (c : Nat) : Stp [] c := ⟨by simp, by simp⟩
theorem mupd_stamps (k : ByteArray) (v : Value) : ∀ E : ME, (mupd E k v).map (·.1) = E.map (·.1)
  | [] => rfl
  | e :: r => by
    simp only [mupd]
    split
    · simp
    · simp [mupd_stamps k v r]
theorem Stp.put {E : ME} {c : Nat} (h : Stp E c) (k : ByteArray) (v : Value) : Stp (mput E k v c) (mclk E k c) := by
  unfold mput mclk
  split
  · refine ⟨fun e he => ?_, by rw [mupd_stamps]; exact h.nd⟩
    have h1 : e.1 ∈ (mupd E k v).map (·.1) := List.mem_map_of_mem he
    rw [mupd_stamps] at h1
    obtain ⟨x, hx, hx1⟩ := List.mem_map.1 h1
    rw [← hx1]; exact h.lt x hx
  · refine ⟨fun e he => ?_, ?_⟩
    · rcases List.mem_append.1 he with he | he
      · have := h.lt e he; omega
      · simp at he; subst he; simp
    · rw [List.map_append, List.nodup_append]
      refine ⟨h.nd, by simp, fun a ha b hb => ?_⟩
      simp at hb
      obtain ⟨x, hx, rfl⟩ := List.mem_map.1 ha
      have := h.lt x hx
      omega
theorem Stp.del {E : ME} {c : Nat} (h : Stp E c) (k : ByteArray) : Stp (mdel E k) c :=
  ⟨fun e he => h.lt e ((mdel_sub k E).subset he), ((mdel_sub k E).map _).nodup h.nd⟩
theorem stamp_inj {E : ME} (h : (E.map (·.1)).Nodup) {x y : Nat × ByteArray × Value} (hx : x ∈ E) (hy : y ∈ E) (e : x.1 = y.1) : x = y := by
  induction E with
  | nil => simp at hx
  | cons a r ih =>
    simp only [List.map_cons, List.nodup_cons] at h
    rcases List.mem_cons.1 hx with hx1 | hx1
    · rcases List.mem_cons.1 hy with hy1 | hy1
      · rw [hx1, hy1]
      · exact absurd (List.mem_map_of_mem (f := (·.1)) hy1) (by rw [← e, hx1]; exact h.1)
    · rcases List.mem_cons.1 hy with hy1 | hy1
      · exact absurd (List.mem_map_of_mem (f := (·.1)) hx1) (by rw [e, hy1]; exact h.1)
      · exact ih h.2 hx1 hy1
theorem len_le_of_nodup {α : Type} : ∀ {D E : List α}, D.Nodup → (∀ e ∈ D, e ∈ E) → D.length ≤ E.length
  | [], _, _, _ => Nat.zero_le _
  | a :: r, E, h, hs => by
    obtain ⟨s, t, rfl⟩ := List.append_of_mem (hs a (by simp))
    simp only [List.nodup_cons] at h
    have := len_le_of_nodup (D := r) (E := s ++ t) h.2 (fun x hx => by
      have h1 := hs x (by simp [hx])
      simp only [List.mem_append, List.mem_cons] at h1 ⊢
      rcases h1 with h1 | rfl | h1
      · exact .inl h1
      · exact absurd hx h.1
      · exact .inr h1)
    simp at this ⊢; omega
theorem nodup_of_stamps {E : ME} (h : (E.map (·.1)).Nodup) : E.Nodup := by
  induction E with
  | nil => simp
  | cons a r ih =>
    simp only [List.map_cons, List.nodup_cons] at h ⊢
    exact ⟨fun ha => h.1 (List.mem_map_of_mem ha), ih h.2⟩
/-- What an iterator has handed out so far: entries of the map, none twice. -/
structure Vis (E D : ME) : Prop where
  sub : ∀ e ∈ D, e ∈ E
  nd : (D.map (·.1)).Nodup
theorem Vis.nil (E : ME) : Vis E [] := ⟨by simp, by simp⟩
theorem Vis.snoc {E D : ME} {e : Nat × ByteArray × Value} (h : Vis E D) (he : e ∈ E) (hn : e.1 ∉ D.map (·.1)) : Vis E (D ++ [e]) := by
  refine ⟨fun x hx => ?_, ?_⟩
  · rcases List.mem_append.1 hx with hx | hx
    · exact h.sub x hx
    · simp at hx; subst hx; exact he
  · rw [List.map_append, List.nodup_append]
    refine ⟨h.nd, by simp, fun a ha b hb => ?_⟩
    simp at hb; subst hb
    intro e1; subst e1; exact hn ha
theorem Vis.le {E D : ME} (h : Vis E D) : D.length ≤ E.length :=
  len_le_of_nodup (nodup_of_stamps h.nd) (fun e he => h.sub e he)
theorem Vis.lt {E D : ME} {e : Nat × ByteArray × Value} (h : Vis E D) (he : e ∈ E) (hn : e.1 ∉ D.map (·.1)) : D.length < E.length := by
  have := (h.snoc he hn).le
  simp at this; omega
theorem Vis.perm {E D : ME} (h : Vis E D) (hE : (E.map (·.1)).Nodup) (ha : ∀ e ∈ E, e.1 ∈ D.map (·.1)) : D.Perm E := by
  refine (List.perm_ext_iff_of_nodup (nodup_of_stamps h.nd) (nodup_of_stamps hE)).2 fun e => ⟨h.sub e, fun he => ?_⟩
  obtain ⟨x, hx, hx1⟩ := List.mem_map.1 (ha e he)
  rwa [← stamp_inj hE (h.sub x hx) he hx1]
section
variable {P : Program} {n : Nat} {B : Base} {ks : Ks} {sg : Sg} {d : Option Tmp} {ty : TypeId} {pos : String} {aft : Array Edge} {g : Option (Nat × Bool)}
theorem Eff.range {t kt et : TypeId} {x : Operand} {b c : Nat} {E : ME} (hx : ev ks x = some (.map (some b))) (hu : P.underlying t = some (.map kt et)) (hm : InS (b, mpO E c) sg) :
    Eff P n B ⟨d, .range t x, ty, pos, aft, g⟩ ks sg (α := Nat) (fun _ => True) (fun r => .pointer (some ⟨r, 0, none⟩)) (fun r => [(r, itO b c [])] :: sg) :=
  Eff.new (f := fun r => .pointer (some ⟨r, 0, none⟩)) fun a w ha hw => by
    have hb : w.heap[b]? = some (.map (E.map mE).toArray c) := hw.own _ hm.mem
    have e := ha.ev hx
    have h1 := run_range_map w t kt et b (E.map mE).toArray c hu hb
    show (do pure (Next.value (← Instr.range t (a.eval x))) : Sem Next).run P w = _
    rw [e]
    exact run_value h1
/-- A step: an entry that was not handed out, or the end behind all of them. -/
theorem Eff.next {x : Operand} {r b c : Nat} {E D : ME} {sg' : Nat × ByteArray × Value → Sg} (hx : ev ks x = some (.pointer (some ⟨r, 0, none⟩))) (hm : InS (b, mpO E c) sg) (hs : Stp E c) (hU : ∀ e, Upd r (itO b c D) (itO b c (D ++ [e])) sg (sg' e)) :
    Eff P n B ⟨d, .next x false, ty, pos, aft, g⟩ ks sg (α := Option (Nat × ByteArray × Value)) (fun o => match o with | none => ∀ e ∈ E, e.1 ∈ D.map (·.1) | some e => e ∈ E ∧ e.1 ∉ D.map (·.1))
      (fun o => match o with | none => .tuple #[.bool false] | some e => .tuple #[.bool true, .string e.2.1, e.2.2]) (fun o => match o with | none => sg | some e => sg' e) := fun a w K Q ha hw hk => by
  have hb : w.heap[b]? = some (.map (E.map mE).toArray c) := hw.own _ hm.mem
  have hr := hw.own _ (hU (0, ⟨#[]⟩, undef)).mem
  simp only [itO] at hr
  have e := ha.ev hx
  have hold : ∀ y ∈ (E.map mE).toArray.toList, y.born < c := fun y hy => by
    simp only [List.toList_toArray, List.mem_map] at hy
    obtain ⟨z, hz, rfl⟩ := hy
    exact hs.lt z hz
  unfold Oper.wp
  rcases run_next_at (P := P) w ty r b c c _ _ c hr hb hold (Nat.le_refl _) with ⟨h0, hrun⟩ | ⟨y, hy, w1, hal, hrun⟩
  · have : (execOp a.eval ⟨d, .next x false, ty, pos, aft, g⟩).run P w = .ok (.value (.tuple #[.bool false])) w := by
      show (do pure (Next.value (← Instr.next (a.eval x) false ty)) : Sem Next).run P w = _
      rw [e]; exact run_value hrun
    rw [this]
    refine hk none w (fun y hy => ?_) hw
    by_cases hin : y.1 ∈ D.map (·.1)
    · exact hin
    · exfalso
      have hmem : mE y ∈ (leftOf (E.map mE).toArray ((D.map (·.1)).toArray)).toList := by
        unfold leftOf
        simp only [List.filter_toArray, List.toList_toArray, List.mem_filter]
        refine ⟨List.mem_map_of_mem hy, ?_⟩
        simp only [List.contains_toArray, Bool.not_eq_true', mE]
        simpa using hin
      have := List.length_pos_of_mem hmem
      simp only [Array.length_toList] at this
      omega
  · unfold leftOf at hy
    simp only [List.filter_toArray, List.toList_toArray, List.mem_filter] at hy
    obtain ⟨hy1, hy2⟩ := hy
    obtain ⟨z, hz, rfl⟩ := List.mem_map.1 hy1
    have hz2 : z.1 ∉ D.map (·.1) := by
      simp only [List.contains_toArray, Bool.not_eq_true', mE] at hy2
      simpa using hy2
    have : (execOp a.eval ⟨d, .next x false, ty, pos, aft, g⟩).run P w = .ok (.value (.tuple #[.bool true, .string z.2.1, z.2.2])) (setBlock w1 r (.mapIter (some b) c (((D.map (·.1)).toArray).push z.1) c)) := by
      show (do pure (Next.value (← Instr.next (a.eval x) false ty)) : Sem Next).run P w = _
      rw [e]; exact run_value hrun
    rw [this]
    have hw1 : Hp B sg w1 := by
      rcases hal with rfl | rfl
      · exact hw
      · exact ⟨hw.os, hw.tape, hw.output, hw.size, hw.old, hw.own, hw.lo, hw.nd⟩
    have hr1 := hw1.own _ (hU z).mem
    have hset := heap_set (o' := .mapIter (some b) c (((D.map (·.1)).toArray).push z.1) c) hr1
    refine hk (some z) _ ⟨hz, hz2⟩ (hw1.upd (hU z) rfl rfl rfl (by simp [setBlock]) ?_ (fun k hk => hset.2 k hk))
    refine Eq.trans hset.1 ?_
    simp [itO]
theorem Val.entry {x : Operand} {r b c : Nat} {E D : ME} {e : Nat × ByteArray × Value} (hx : ev ks x = some (.pointer (some ⟨r, 0, none⟩))) (hr : InS (r, itO b c (D ++ [e])) sg) (hm : InS (b, mpO E c) sg) (he : e ∈ E) (hn : (E.map (·.1)).Nodup) :
    Val P n B ⟨d, .entry x, ty, pos, aft, g⟩ ks sg (.tuple [.string e.2.1, e.2.2].toArray) := fun a w ha hw => by
  have hb : w.heap[b]? = some (.map (E.map mE).toArray c) := hw.own _ hm.mem
  have h1 := hw.own _ hr.mem
  simp only [itO, List.map_append, List.map_cons, List.map_nil] at h1
  have ee := ha.ev hx
  show (do pure (Next.value (← Instr.entry (a.eval x))) : Sem Next).run P w = _
  rw [ee]
  refine run_value (run_entry_at (P := P) w r b c ((D.map (·.1)).toArray) (E.map mE).toArray c (mE e) ?_ hb (by simp; exact ⟨_, _, _, he, rfl⟩) ?_)
  · rw [h1]; simp [mE]
  · simp only [List.toList_toArray, List.map_map]
    exact hn
end
end Go.Proofs.YtlpbjmbgopfkhaaGreat.V
