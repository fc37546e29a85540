/- A small calculus of symbolic states, part 32: several operations of a drawn region that may come up in any order, each of which yields a value and leaves the state: all orders at once. No program in sight. -/
import Derived.Test.YtlpbjmbgopfkhaaGreatV31
namespace Go.Proofs.YtlpbjmbgopfkhaaGreat.V
open Go Go.RowKit
set_option linter.unusedVariables false
def subs : List Nat → List (List Nat)
  | [] => [[]]
  | x :: r => subs r ++ (subs r).map (x :: ·)
theorem mem_subs {s r : List Nat} (h : List.Sublist s r) : s ∈ subs r := by
  induction h with
  | slnil => simp [subs]
  | cons a _ ih => simp [subs, ih]
  | cons_cons a _ ih => simp [subs, ih]
/-- What is listed, where of these those are still to come. -/
def LS (L : Array Bool) (rem sub : List Nat) : Array Bool := ((List.range L.size).map fun j => (L[j]?.getD false) || (rem.contains j && !sub.contains j)).toArray
def batB (ops : Array Oper) (L : Array Bool) (rem : List Nat) : Bool := (subs rem).all fun sub => sub.isEmpty || Region.ready .any ops (LS L rem sub) == sub
theorem LS_self (L : Array Bool) (rem : List Nat) : LS L rem rem = L := by
  apply Array.ext
  · simp [LS]
  · intro i h1 h2
    simp [LS, h2]
theorem LS_set {L : Array Bool} {rem sub : List Nat} {i : Nat} (hi : i ∈ sub) (hr : i ∈ rem) (hn : sub.Nodup) : (LS L rem sub).setIfInBounds i true = LS L rem (sub.erase i) := by
  apply Array.ext
  · simp [LS]
  · intro j h1 h2
    have hj : j < L.size := by simpa [LS] using h2
    rw [Array.getElem_setIfInBounds (by simpa [LS] using hj)]
    by_cases e : i = j
    · subst e
      have h3 : i ∉ sub.erase i := fun h => (hn.mem_erase_iff.1 h).1 rfl
      simp [LS, hj, hr, h3]
    · rw [if_neg e]
      have h3 : (sub.erase i).contains j = sub.contains j := by
        have h4 : j ∈ sub.erase i ↔ j ∈ sub := List.mem_erase_of_ne (Ne.symm e)
        by_cases h5 : j ∈ sub <;> simp [h4, h5]
      simp only [LS, List.getElem_toArray, List.getElem_map, List.getElem_range, h3]
theorem inj_fst {α : Type} : ∀ {l : List (Nat × α)}, (l.map (·.1)).Nodup → ∀ {x y}, x ∈ l → y ∈ l → x.1 = y.1 → x = y
  | a :: r, hn, x, y, hx, hy, e => by
    simp only [List.map_cons, List.nodup_cons] at hn
    rcases List.mem_cons.1 hx with e1 | hx2 <;> rcases List.mem_cons.1 hy with e2 | hy2
    · rw [e1, e2]
    · exact absurd (by rw [← e1, e]; exact List.mem_map_of_mem hy2) hn.1
    · exact absurd (by rw [← e2, ← e]; exact List.mem_map_of_mem hx2) hn.1
    · exact inj_fst hn.2 hx2 hy2 e
section
variable {P : Program} {n : Nat} {B : Base} {Q : Exit → Act → World → Prop} {ks : Ks} {sg : Sg} {ops : Array Oper}
abbrev It := Nat × Tmp × Value
/-- Each of them yields its value and leaves the state. -/
def Bop (P : Program) (n : Nat) (B : Base) (ops : Array Oper) (ks : Ks) (sg : Sg) : List It → Prop
  | [] => True
  | x :: r => (∃ o, ops[x.1]? = some o ∧ gd ops ks o.guard = some true ∧ o.dst = some x.2.1 ∧ Eff P n B o ks sg (α := Unit) (fun _ => True) (fun _ => x.2.2) (fun _ => sg)) ∧ Bop P n B ops ks sg r
theorem Bop.at {l : List It} (h : Bop P n B ops ks sg l) {x : It} (hx : x ∈ l) : ∃ o, ops[x.1]? = some o ∧ gd ops ks o.guard = some true ∧ o.dst = some x.2.1 ∧ Eff P n B o ks sg (α := Unit) (fun _ => True) (fun _ => x.2.2) (fun _ => sg) := by
  induction l with
  | nil => simp at hx
  | cons a r ih =>
    rcases List.mem_cons.1 hx with rfl | hx
    · exact h.1
    · exact ih h.2 hx
def pushAll : List It → Ks → Ks
  | [], ks => ks
  | x :: r, ks => (x.2.1, x.2.2) :: pushAll r ks
theorem look_pushAll {ks : Ks} {j : Nat} {u : Value} : ∀ {l : List It}, look (pushAll l ks) j = some u → (∃ x ∈ l, x.2.1 = j ∧ x.2.2 = u) ∨ look ks j = some u
  | [], h => .inr h
  | x :: r, h => by
    simp only [pushAll, look] at h
    by_cases e : x.2.1 = j
    · rw [e, Nat.beq_refl] at h
      exact .inl ⟨x, List.mem_cons_self .., e, by simpa using h⟩
    · have : Nat.beq x.2.1 j = false := nbeq e
      rw [this] at h
      rcases look_pushAll h with ⟨y, hy, h1⟩ | h1
      · exact .inl ⟨y, List.mem_cons_of_mem _ hy, h1⟩
      · exact .inr h1
def okB (n : Nat) (ks : Ks) (l : List It) : Bool := l.all (fun x => Nat.blt x.2.1 n && (look ks x.2.1).isNone) && decide ((l.map (·.1)).Nodup) && decide ((l.map (·.2.1)).Nodup)
theorem RW.batch {S : Sg} {F : Nat} {L : Array Bool} (items : List It) (fu : Nat) (hF : F = fu + items.length) (hb : batB ops L (items.map (·.1)) = true) (hk1 : (items.all fun x => Nat.blt x.2.1 n) = true) (hk2 : (items.all fun x => (ks.all fun y => !(Nat.beq y.1 x.2.1))) = true) (hk3 : (items.map (·.1)).Nodup) (hk4 : (items.map (·.2.1)).Nodup)
    (hop : Bop P n B ops ks sg items) (hS : ∃ r, Pick S sg r) (h : RW P n B ops Q S fu (LS L (items.map (·.1)) []) (pushAll items ks) sg) : RW P n B ops Q S F L ks sg := by
  subst hF
  intro a w ha hw hS0
  have key : ∀ k (sub : List Nat), sub.length = k → List.Sublist sub (items.map (·.1)) → ∀ a w, Fr n ks a → (∀ x ∈ items, x.1 ∉ sub → a.tmps[x.2.1]? = some x.2.2) → Hp B sg w → Hp B S w →
      wpAnyH P .any ops Q (Hp B S) (fu + k) (LS L (items.map (·.1)) sub) a w := by
    intro k
    induction k with
    | zero =>
      intro sub hl hs a w ha hd hw hS1
      obtain rfl : sub = [] := List.length_eq_zero_iff.1 hl
      refine h a w ⟨ha.defers, ha.size, fun j u hj => ?_⟩ hw hS1
      rcases look_pushAll hj with ⟨x, hx, rfl, rfl⟩ | hj
      · exact hd x hx (by simp)
      · exact ha.at_ j u hj
    | succ k ih =>
      intro sub hl hs a w ha hd hw hS1
      have hne : sub ≠ [] := by rintro rfl; simp at hl
      have hnd : sub.Nodup := hs.nodup hk3
      have hr : Region.ready .any ops (LS L (items.map (·.1)) sub) = sub := by
        have h1 := List.all_eq_true.1 hb sub (mem_subs hs)
        simp only [Bool.or_eq_true, List.isEmpty_iff, beq_iff_eq] at h1
        exact h1.resolve_left hne
      refine wpAnyH_all hr hne fun i hi => ?_
      have hir := hs.subset hi
      obtain ⟨x, hx, rfl⟩ := List.mem_map.1 hir
      obtain ⟨o, ho, hg, hdst, he⟩ := hop.at hx
      unfold wpOp
      simp only [ho]
      rw [if_pos (wanted_gd ha hg)]
      refine .inl (he a w _ _ ha hw fun _ w' _ hw' => ?_)
      obtain ⟨r, hp⟩ := hS
      refine ⟨hw'.pick hp, ?_⟩
      rw [LS_set hi hir hnd, hdst]
      have hlt : x.2.1 < n := by have := List.all_eq_true.1 hk1 x hx; simpa [Nat.blt_eq] using this
      have hdk : dok n (some x.2.1) = true := by simpa [dok, Nat.blt_eq] using hlt
      have ha2 := ha.put hdk x.2.2
      refine ih (sub.erase x.1) (by rw [List.length_erase_of_mem hi]; omega) ((List.erase_sublist ..).trans hs) _ w' ⟨ha2.defers, ha2.size, fun j u hj => ?_⟩ (fun y hy hyn => ?_) hw' (hw'.pick hp)
      · refine ha2.at_ j u ?_
        simp only [push, look]
        have hne2 : x.2.1 ≠ j := by
          rintro rfl
          have h4 := List.all_eq_true.1 hk2 x hx
          have : ∀ (ks : Ks), (ks.all fun y => !(Nat.beq y.1 x.2.1)) = true → look ks x.2.1 = none := by
            intro ks
            induction ks with
            | nil => intro _; rfl
            | cons z r ih =>
              intro h5
              simp only [List.all_cons, Bool.and_eq_true] at h5
              have h6 : Nat.beq z.1 x.2.1 = false := by simpa using h5.1
              obtain ⟨z1, z2⟩ := z
              simp only [look]
              simp only at h6
              rw [h6]
              exact ih h5.2
          rw [this ks h4] at hj
          cases hj
        rw [nbeq hne2]
        exact hj
      · by_cases e : y.1 = x.1
        · obtain rfl := inj_fst hk3 hy hx e
          refine ha2.at_ _ _ ?_
          simp only [push, look, Nat.beq_refl]
        · have hyn2 : y.1 ∉ sub := fun h5 => hyn ((List.mem_erase_of_ne e).2 h5)
          have h6 : y.2.1 ≠ x.2.1 := fun h7 => e (by
            have h8 : ∀ {l : List It}, (l.map (·.2.1)).Nodup → x ∈ l → y ∈ l → y = x := by
              intro l
              induction l with
              | nil => intro _ h _; simp at h
              | cons z r ih =>
                intro hn h1 h2
                simp only [List.map_cons, List.nodup_cons] at hn
                rcases List.mem_cons.1 h1 with e1 | h3 <;> rcases List.mem_cons.1 h2 with e2 | h4
                · rw [e1, e2]
                · exact absurd (by rw [← e1, ← h7]; exact List.mem_map_of_mem (f := fun z : It => z.2.1) h4) hn.1
                · exact absurd (by rw [← e2, h7]; exact List.mem_map_of_mem (f := fun z : It => z.2.1) h3) hn.1
                · exact ih hn.2 h3 h4
            rw [h8 hk4 hx hy])
          show (a.tmps.setIfInBounds x.2.1 x.2.2)[y.2.1]? = some y.2.2
          rw [Array.getElem?_setIfInBounds_ne (Ne.symm h6)]
          exact hd y hy hyn2
  have h0 := key items.length (items.map (·.1)) (by simp) (List.Sublist.refl _) a w ha (fun x hx hxn => absurd (List.mem_map_of_mem hx) hxn) hw hS0
  rwa [LS_self] at h0
end
end Go.Proofs.YtlpbjmbgopfkhaaGreat.V
