/- A small calculus of symbolic states, part 34: a range over a function whose body makes new blocks; its variables are plain ones. No program in sight. -/
import Derived.Test.YtlpbjmbgopfkhaaGreatV33
namespace Go.Proofs.YtlpbjmbgopfkhaaGreat.V
open Go Go.RowKit
set_option linter.unusedVariables false
/-- How a round's body may be left, in a state that a ghost tells. -/
def RPG {α γ : Type} (B : Base) (φ φx : List α → γ → Prop) (G Gx : γ → Sg) (xs : List α) : Exit → Act → World → Prop
  | .normal, _, W' => ∃ g, φ xs g ∧ ∃ sg r, Pick (G g) sg r ∧ Hp B sg W'
  | .ret, _, W' => ∃ g, φx xs g ∧ ∃ sg r, Pick (Gx g) sg r ∧ Hp B sg W'
  | _, _, _ => False
section
variable {P : Program} {n : Nat} {B : Base} {Q : Exit → Act → World → Prop} {ks : Ks} {sg : Sg}
theorem PI.rpg {α γ : Type} {B' : Base} {ds : List Deferred} {φ φx : List α → γ → Prop} {G Gx : γ → Sg} {xs : List α} {sg' r : Sg} (g : γ) (h : φ xs g) (hp : Pick (G g) sg' r) : PI n ds (Hp B' sg') (RPG B' φ φx G Gx xs) .normal ks := fun a w _ hw => ⟨g, h, sg', r, hp, hw⟩
theorem PI.assignedG {B' : Base} {Kx : Ks} {Gp sg' r : Sg} (hs : subK Kx ks) (hp : Pick Gp sg' r) :
    PI n [] (Hp B' sg') (Exit.then (fun a' W' => Fr n Kx a' ∧ Hp B' Gp W') (fun _ _ _ => False)) .normal ks := fun a w ha hw => ⟨ha.plain.sub hs, hw.pick hp⟩
theorem CW.rangeFuncG {α γ : Type} {g : Operand} {ps : List Tmp} {assign body : Code} {gf : Nat} {lb : List Value} {r : Sg}
    (encs : α → List Value) (S Sp : List α → Prop) (N : Nat) (K : List Nat) (φ φx : List α → γ → Prop) (G Gx : γ → Sg) (Kb : α → Ks) (g0 : γ)
    (hg : ev ks g = some (.func (.func gf) #[] lb.toArray)) (eg : ∀ (args : Array Value) (w : World), (callFunc gf args).run P w = .ok (.enter gf args) w) (hl : ∀ x, (encs x).length = ps.length) (hpn : ps.all (fun p => Nat.blt p n) = true)
    (hseq : ∀ w, Hp B sg w → SeqStopsK (Wd none) 1 P gf lb.toArray (fun x => (encs x).toArray) (KpK K) S Sp N w)
    (hK : ∀ w, Hp B sg w → ∀ k ∈ K, k < w.heap.size ∧ k ∉ ids (G g0))
    (hG : Pick (G g0) sg r) (hGc : ∀ pre g, φ pre g → cellsOnly (G g)) (hXc : ∀ pre g, φx pre g → cellsOnly (Gx g)) (hP0 : φ [] g0)
    (hassign : ∀ l pre x g W, φ pre g → Hp B (G g) W → CI P n (some l) [] (Hp ⟨W, ids (G g)⟩ (G g)) (Exit.then (fun a' W' => Fr n (Kb x) a' ∧ Hp ⟨W, ids (G g)⟩ (G g) W') (fun _ _ _ => False)) assign (zipK ps (encs x) ks))
    (hbody : ∀ l pre x g W, φ pre g → Hp B (G g) W → pre.length < N → CI P n (some l) [] (Hp ⟨W, ids (G g)⟩ (G g)) (RPG ⟨W, ids (G g)⟩ φ φx G Gx (pre ++ [x])) body (Kb x))
    (hdone : ∀ D xs g, S xs → φ xs g → PI n [mkD D] (Hp B ([(D, .deferred (some []))] :: G g)) Q .normal ks)
    (hstop : ∀ D pre g, Sp pre → φx pre g → PI n [mkD D] (Hp B ([(D, .deferred (some []))] :: Gx g)) Q .ret ks) : CW P n B Q (.rangeFunc g ps.toArray assign body) ks sg := fun a w ha hw => by
  refine wpIn_wide (n := 2).1 ?_
  show Code.wpIn (Wd none) 2 P _ Q a w
  have hG0 := hw.pick hG
  have hnc : ∀ {sg' : Sg} {W : World} {k : Nat} {o : Obj}, cellsOnly sg' → (∀ p ∈ sg'.flatten, W.heap[p.1]? = some p.2) → W.heap[k]? = some o → o.isCells = false → k ∉ ids sg' := fun {sg' W k o} hc hown ho hoc hk => by
    obtain ⟨p, hp, rfl⟩ := List.mem_map.1 hk
    rw [hown p hp] at ho
    cases ho
    rw [hc p hp] at hoc
    cases hoc
  have h0d : a.defers = [] := ha.defers
  have hap : ∀ D, ({ a with defers := mkD D :: a.defers } : Act) = { a with defers := [mkD D] } := fun D => by rw [h0d]
  refine wpIn_rangeFunc_ownH (F := Wd none) (n := 2) rfl (by omega) (gf := gf) (lb := lb.toArray) (ha.ev hg) trivial eg (encs := fun x => (encs x).toArray) (Kp := KpK K) (hseq w hw)
    (fun {A B' C} h1 h2 k hk => (h2 k hk).trans (h1 k hk))
    (fun W l o o' hwl _ _ _ k hk => World.putObj_heap_other (by have := (hK w hw k hk).1; omega)) (Below.refl _ w) (fun x => by simp [hl x])
    (fun pre W => ∃ g, φ pre g ∧ Hp B (G g) W ∧ w.heap.size ≤ W.heap.size ∧ ∀ k ∈ ids (G g), k ∈ ids (G g0) ∨ w.heap.size ≤ k) (fun c pre W => c = .ret ∧ ∃ g, φx pre g ∧ Hp B (Gx g) W)
    (fun s W W' row ⟨g, h1, h2, h3, h4⟩ hgr hr => ⟨g, h1, h2.grown (hGc s g h1) hw.size hgr hr, Nat.le_trans h3 hgr.size, h4⟩)
    (fun c s W W' row ⟨h1, g, h2, h3⟩ hgr hr => ⟨h1, g, h2, h3.grown (hXc s g h2) hw.size hgr hr⟩) ⟨g0, hP0, hG0, Nat.le_refl _, fun k hk => .inl hk⟩
    (fun x a' W => Fr n (Kb x) a') (fun x a' s W W' row hs hgr hr => hs) ?_ ?_ ?_ ?_
  · intro l pre x W Kont ⟨g, h1, h2, h3, h4⟩ hKont
    have hfr : Fr n (zipK ps (encs x) ks) { tmps := (ps.zip (encs x)).foldl (fun t (p, v) => t.setIfInBounds p v) a.tmps, defers := [] } := Fr.zip hpn (by
      obtain ⟨t, dd⟩ := a
      simp only at h0d
      subst h0d
      exact ha)
    have hz : (ps.toArray.zip (encs x).toArray).foldl (fun t (p, v) => t.setIfInBounds p v) a.tmps = (ps.zip (encs x)).foldl (fun t (p, v) => t.setIfInBounds p v) a.tmps := by
      rw [List.zip_toArray, List.foldl_toArray]
    rw [hz]
    refine wpIn_mono (hassign l pre x g W h1 h2 _ W ⟨rfl, hfr⟩ (Hp.start h2.sat)) fun e a' W' q => ?_
    cases e with
    | normal =>
      obtain ⟨hf, hh⟩ := q
      have hI' : Hp B (G g) W' := by
        have h5 := h2.call (pick_self _) hh
        rw [List.append_nil] at h5
        exact h5
      refine hKont a' W' ⟨hh.size, fun k o _ hk hoc => (hh.old k (lt_of_some hk) (hnc (hGc pre g h1) h2.own hk hoc)).trans hk⟩ (fun k hk => ?_) ⟨g, h1, hI', Nat.le_trans h3 hh.size, h4⟩ hf
      have hk2 := hK w hw k hk
      refine hh.old k (Nat.lt_of_lt_of_le hk2.1 h3) (fun hin => ?_)
      rcases h4 k hin with h5 | h5
      · exact hk2.2 h5
      · have := hk2.1; omega
    | _ => exact q.elim
  · intro l pre x a' W hwl _ ⟨g, h1, h2, h3, h4⟩ hax hlen
    have hfd : FrD n [] (Kb x) a' := by
      obtain ⟨t, dd⟩ := a'
      have := hax.defers
      simp only at this
      subst this
      exact ⟨rfl, hax⟩
    have hkf : ∀ {sg' : Sg} {W' : World}, Hp ⟨W, ids (G g)⟩ sg' W' → KeepsFrom w.heap.size W W' := fun {sg' W'} hh =>
      ⟨hh.size, fun k o _ hk hoc => (hh.old k (lt_of_some hk) (hnc (hGc pre g h1) h2.own hk hoc)).trans hk⟩
    have hkk : ∀ {sg' : Sg} {W' : World}, Hp ⟨W, ids (G g)⟩ sg' W' → KpK K W W' := fun {sg' W'} hh k hk => by
      have hk2 := hK w hw k hk
      refine hh.old k (Nat.lt_of_lt_of_le hk2.1 h3) (fun hin => ?_)
      rcases h4 k hin with h5 | h5
      · exact hk2.2 h5
      · have := hk2.1; omega
    refine wpIn_mono (hbody l pre x g W h1 h2 hlen a' W hfd (Hp.start h2.sat)) fun e a2 W' q => ?_
    cases e with
    | normal =>
      obtain ⟨g', hpp, sg', r', hp, hh⟩ := q
      refine ⟨hkf hh, hkk hh, g', hpp, ?_, Nat.le_trans h3 hh.size, fun k hk => ?_⟩
      · have := h2.call (pick_self _) (hh.pick hp)
        rw [List.append_nil] at this
        exact this
      · obtain ⟨p, hp2, rfl⟩ := List.mem_map.1 hk
        rcases (hh.pick hp).lo p hp2 with h5 | h5
        · exact .inr (Nat.le_trans h3 h5)
        · exact h4 _ h5
    | ret =>
      obtain ⟨g', hpx, sg', r', hp, hh⟩ := q
      refine ⟨hkf hh, rfl, g', hpx, ?_⟩
      have := h2.call (pick_self _) (hh.pick hp)
      rw [List.append_nil] at this
      exact this
    | _ => exact q.elim
  · intro D xs W hD hS ⟨g, h1, h2, h3, h4⟩ hk
    have hDn : D ∉ ids (G g) := hnc (hGc xs g h1) h2.own hk rfl
    show Q .normal { a with defers := mkD D :: a.defers } W
    rw [hap D]
    exact hdone D xs g hS h1 _ W (ha.withD [mkD D]) (h2.cons hk (.inl (Nat.le_trans hw.size hD)) hDn)
  · intro D c pre W hD hS ⟨hc, g, h1, h2⟩ hk
    subst hc
    have hDn : D ∉ ids (Gx g) := hnc (hXc pre g h1) h2.own hk rfl
    show Code.wpIn (Wd none) 2 P .ret Q { a with defers := mkD D :: a.defers } W
    rw [hap D]
    exact wpIn_ret (hstop D pre g hS h1 _ W (ha.withD [mkD D]) (h2.cons hk (.inl (Nat.le_trans hw.size hD)) hDn))
end
end Go.Proofs.YtlpbjmbgopfkhaaGreat.V
