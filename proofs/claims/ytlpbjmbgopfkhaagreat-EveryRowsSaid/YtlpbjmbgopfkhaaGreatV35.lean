/- A small calculus of symbolic states, part 35: a range over a function that yields memory that it has made; the body takes it over. No program in sight. -/
import Derived.Test.YtlpbjmbgopfkhaaGreatV34
namespace Go.Proofs.YtlpbjmbgopfkhaaGreat.V
open Go Go.RowKit
set_option linter.unusedVariables false
/-- The iterator's word: each yielded x brings the blocks mem x, made since the last yield; the rounds leave the iterator's own blocks Ks alone; all rounds go on. -/
def SeqM {α : Type} (P : Program) (gf : Nat) (lb : Array Value) (encs : α → List Value) (mem : α → Sg) (Px : α → Prop) (S : List α → Prop) (N : Nat) (K0 : List Nat) (w : World) : Prop :=
  ∀ (l : Nat) (J : List α → List Nat → World → Prop) (W : World), Below w.heap.size w W →
    (∀ pre Ks W0 W1 new, J pre Ks W0 → Below W0.heap.size W0 W1 → (∀ k ∈ new, W0.heap.size ≤ k ∧ k < W1.heap.size) → J pre (new ++ Ks) W1) →
    (∀ pre x Ks W0 W1, J pre Ks W0 → Below W0.heap.size W0 W1 → Sat (mem x) W1 → (∀ k ∈ ids (mem x), W0.heap.size ≤ k) → Px x → pre.length < N →
      YieldAt (Wd none) 0 P l (encs x).toArray W1 fun e W' => e = .returned (.bool true) ∧ J (pre ++ [x]) Ks W' ∧ ∀ k ∈ Ks, W'.heap[k]? = W1.heap[k]?) →
    J [] K0 W →
    Calls P gf (#[.func (.yield l) #[] #[]] ++ lb) W fun e W' => (∃ v, e = .returned v) ∧ ∃ xs Ks, S xs ∧ J xs Ks W'
/-- How a round's body may be left. -/
def RPM {α γ : Type} (B : Base) (φ : List α → γ → Prop) (G : γ → Sg) (xs : List α) : Exit → Act → World → Prop
  | .normal, _, W' => ∃ g, φ xs g ∧ ∃ sg r, Pick (G g) sg r ∧ Hp B sg W'
  | _, _, _ => False
def segCells (s : Seg) : Prop := ∀ p ∈ s, p.2.isCells = true
theorem cellsOnly_nil : cellsOnly [] := fun _ h => by simp at h
theorem cellsOnly_cons {s : Seg} {sg : Sg} (h : segCells s) (h2 : cellsOnly sg) : cellsOnly (s :: sg) := fun p hp => by
  simp only [List.flatten_cons, List.mem_append] at hp
  rcases hp with hp | hp
  · exact h p hp
  · exact h2 p hp
theorem segCells_one {b : Nat} {c : Array Value} {t : TypeId} {f : Nat × Nat} : segCells [(b, .cells c t f)] := fun p hp => by
  obtain rfl : p = _ := by simpa using hp
  rfl
theorem segCells_own {e : TypeId} {xs : List Value} {o : OwnO} : segCells (ownG e xs o) := fun p hp => by
  rcases o with _ | ⟨g, r, c⟩
  · simp [ownG, ownS] at hp
  · obtain rfl : p = _ := by simpa [ownG, ownS] using hp
    rfl
theorem Hp.apart1 {B : Base} {w : World} {sg sg' r : Sg} {cb : Nat} {o : Obj} (hw : Hp B sg w) (hp : Pick ([(cb, o)] :: sg') sg r) : ∀ k ∈ [cb], k < w.heap.size ∧ k ∉ ids sg' := fun k hk => by
  obtain rfl : k = cb := by simpa using hk
  have h9 := hw.pick hp
  refine ⟨lt_of_some (h9.own (k, o) (by simp)), fun hin => ?_⟩
  have h8 := h9.nd
  simp only [List.flatten_cons, List.singleton_append, List.map_cons, List.nodup_cons] at h8
  exact h8.1 hin
theorem not_ids {sg : Sg} {W : World} {k : Nat} {o : Obj} (hc : cellsOnly sg) (hown : ∀ p ∈ sg.flatten, W.heap[p.1]? = some p.2) (ho : W.heap[k]? = some o) (hoc : o.isCells = false) : k ∉ ids sg := fun hk => by
  obtain ⟨p, hp, rfl⟩ := List.mem_map.1 hk
  rw [hown p hp] at ho
  cases ho
  rw [hc p hp] at hoc
  cases hoc
theorem Hp.ids_lt {B : Base} {sg : Sg} {W : World} (h : Hp B sg W) {k : Nat} (hk : k ∈ ids sg) : k < W.heap.size := by
  obtain ⟨p, hp, rfl⟩ := List.mem_map.1 hk
  exact lt_of_some (h.own p hp)
/-- New blocks come beside. -/
theorem Hp.beside {B : Base} {sg sm : Sg} {W0 W1 : World} (h : Hp B sg W0) (hb : Below W0.heap.size W0 W1) (hm : Sat sm W1) (hl : ∀ k ∈ ids sm, W0.heap.size ≤ k) : Hp B (sm ++ sg) W1 := by
  have h1 := h.call_ro hb
  refine ⟨h1.os, h1.tape, h1.output, h1.size, h1.old, fun p hp => ?_, fun p hp => ?_, ?_⟩
  · simp only [List.flatten_append, List.mem_append] at hp
    rcases hp with hp | hp
    · exact hm.own p hp
    · exact h1.own p hp
  · simp only [List.flatten_append, List.mem_append] at hp
    rcases hp with hp | hp
    · exact .inl (Nat.le_trans h.size (hl p.1 (List.mem_map.2 ⟨p, hp, rfl⟩)))
    · exact h1.lo p hp
  · simp only [List.flatten_append, List.map_append, List.nodup_append]
    refine ⟨hm.nd, h.nd, fun x hx y hy e => ?_⟩
    subst e
    have h2 := hl x hx
    have h3 := h.ids_lt (k := x) hy
    omega
theorem cellsOnly.app {a b : Sg} (ha : cellsOnly a) (hb : cellsOnly b) : cellsOnly (a ++ b) := fun p hp => by
  simp only [List.flatten_append, List.mem_append] at hp
  rcases hp with hp | hp
  · exact ha p hp
  · exact hb p hp
theorem Pick.app : ∀ (a r : Sg), Pick a (a ++ r) r
  | [], _ => .nil
  | s :: a, r => .cons .here (Pick.app a r)
theorem Hp.putOut {B : Base} {sg : Sg} {W : World} {k : Nat} {o' : Obj} (h : Hp B sg W) (hB : B.w.heap.size ≤ k) (hk : k ∉ ids sg) : Hp B sg (W.putObj k o') := by
  refine ⟨h.os, h.tape, h.output, by simpa [World.putObj] using h.size, fun b hb hf => ?_, fun p hp => ?_, h.lo, h.nd⟩
  · exact (World.putObj_heap_other (by omega)).trans (h.old b hb hf)
  · exact (World.putObj_heap_other (fun e => hk (List.mem_map.2 ⟨p, hp, e⟩))).trans (h.own p hp)
theorem Hp.putRec {B : Base} {sg : Sg} {W : World} {k b0 : Nat} {o o' : Obj} (h : Hp B sg W) (hc : cellsOnly sg) (hB : B.w.heap.size ≤ b0) (hk : b0 ≤ k) (ho : W.heap[k]? = some o) (hoc : o.isCells = false) : Hp B sg (W.putObj k o') :=
  h.grown hc hB (grownBy_putObj' W k o') fun r e => by cases e; exact ⟨hk, o, ho, hoc⟩
section
variable {P : Program} {n : Nat} {B : Base} {Q : Exit → Act → World → Prop} {ks : Ks} {sg : Sg}
theorem PI.rpm {α γ : Type} {B' : Base} {ds : List Deferred} {φ : List α → γ → Prop} {G : γ → Sg} {xs : List α} {sg' r : Sg} (g : γ) (h : φ xs g) (hp : Pick (G g) sg' r) : PI n ds (Hp B' sg') (RPM B' φ G xs) .normal ks := fun a w _ hw => ⟨g, h, sg', r, hp, hw⟩
theorem CW.toI {c : Code} (h : CI P n none [] (Hp B sg) Q c ks) : CW P n B Q c ks sg := fun a w ha hw => by
  have h1 := h a w ⟨ha.defers, by
    obtain ⟨t, dd⟩ := a
    have := ha.defers
    simp only at this
    subst this
    exact ha⟩ hw
  exact wpIn_wide (n := 0).1 h1
theorem CI.rangeFuncM {ds : List Deferred} {α γ : Type} {g : Operand} {ps : List Tmp} {assign body : Code} {gf : Nat} {lb : List Value} {r : Sg}
    (encs : α → List Value) (mem : α → Sg) (Px : α → Prop) (S : List α → Prop) (N : Nat) (K : List Nat) (φ : List α → γ → Prop) (G : γ → Sg) (Kb : α → Ks) (g0 : γ) (R : Sg)
    (hg : ev ks g = some (.func (.func gf) #[] lb.toArray)) (eg : ∀ (args : Array Value) (w : World), (callFunc gf args).run P w = .ok (.enter gf args) w) (hl : ∀ x, (encs x).length = ps.length) (hpn : ps.all (fun p => Nat.blt p n) = true)
    (hseq : ∀ w, Hp B sg w → SeqM P gf lb.toArray encs mem Px S N K w)
    (hK : ∀ w, Hp B sg w → ∀ k ∈ K, k < w.heap.size ∧ k ∉ ids (G g0 ++ R))
    (hG : Pick (G g0 ++ R) sg r) (hGc : ∀ pre g, φ pre g → cellsOnly (G g)) (hmc : ∀ x, cellsOnly (mem x)) (hP0 : φ [] g0)
    (hassign : ∀ l pre x g W, Px x → φ pre g → Hp B (mem x ++ G g) W → CI P n (some l) [] (Hp ⟨W, ids (mem x ++ G g)⟩ (mem x ++ G g)) (Exit.then (fun a' W' => Fr n (Kb x) a' ∧ Hp ⟨W, ids (mem x ++ G g)⟩ (mem x ++ G g) W') (fun _ _ _ => False)) assign (zipK ps (encs x) ks))
    (hbody : ∀ l pre x g W, Px x → φ pre g → Hp B (mem x ++ G g) W → pre.length < N → CI P n (some l) [] (Hp ⟨W, ids (mem x ++ G g)⟩ (mem x ++ G g)) (RPM ⟨W, ids (mem x ++ G g)⟩ φ G (pre ++ [x])) body (Kb x))
    (hdone : ∀ D xs g, S xs → φ xs g → PI n (mkD D :: ds) (Hp B ([(D, .deferred (some []))] :: (G g ++ R))) Q .normal ks) : CI P n none ds (Hp B sg) Q (.rangeFunc g ps.toArray assign body) ks := fun a w ha hw => by
  refine wpIn_n (ro := none) (m := 2) ?_
  have hG0 := hw.pick hG
  have hRlt : ∀ k ∈ ids R, k < w.heap.size := fun k hk => hG0.ids_lt (by simp only [ids, List.flatten_append, List.map_append, List.mem_append]; exact .inr hk)
  have noR : ∀ {sx : Sg} {X : World} {k : Nat} {o : Obj}, cellsOnly sx → Hp B (sx ++ R) X → X.heap[k]? = some o → o.isCells = false → w.heap.size ≤ k → k ∉ ids (sx ++ R) := fun {sx X k o} hc hx hk hoc hle hin => by
    rcases mem_ids_append hin with h6 | h6
    · exact not_ids hc hx.left.own hk hoc h6
    · have := hRlt k h6; omega
  refine wpIn_rangeFunc ?_
  intro fn hfn
  rw [show (Wd none).round = none from rfl]
  obtain ⟨rec, hrec⟩ : ∃ rec : LoopState → Option Code → Loop, rec = fun st pe => { state := st, pending := pe, fn, tmps := a.tmps, params := ps.toArray, assign, body, defers := w.heap.size } := ⟨_, rfl⟩
  obtain ⟨W1, hW1⟩ : ∃ W1, (w.alloc (.deferred (some []))).alloc (.loop (rec .ready none)) = W1 := ⟨_, rfl⟩
  have hb1 : Below w.heap.size w W1 := by rw [← hW1]; exact ((Below.refl _ w).alloc (Nat.le_refl _) _).alloc (by simp) _
  have hsz1 : W1.heap.size = w.heap.size + 2 := by rw [← hW1]; simp
  have hL1 : W1.heap[w.heap.size + 1]? = some (.loop (rec .ready none)) := by
    rw [← hW1]; have := World.alloc_heap_new (w.alloc (.deferred (some []))) (.loop (rec .ready none)); rwa [World.size_alloc] at this
  have hD1 : W1.heap[w.heap.size]? = some (.deferred (some [])) := by
    rw [← hW1]; exact (Below.heap_alloc _ _ _ (by simp)).trans (World.alloc_heap_new w _)
  refine ⟨w.heap.size + 1, [mkD w.heap.size], W1, { target := .fn (.func gf) lb.toArray, args := #[.func (.yield (w.heap.size + 1)) #[] #[]] }, W1, gf, #[.func (.yield (w.heap.size + 1)) #[] #[]] ++ lb.toArray, W1, ?_, ?_, ?_, ?_, fun _ => (by decide), ?_⟩
  · rw [← hW1, hrec]; exact run_enterLoop_outer _ _ _ _ _
  · simp only [resolve, ha.ev hg]
    simp [go_sem]
  · intro f' hf'; exact trivial
  · simp [invoke, go_sem, eg]
  · let J : List α → List Nat → World → Prop := fun pre Ks W => (∃ g, φ pre g ∧ Hp B (G g ++ R) W ∧ ∀ k ∈ Ks, k < W.heap.size ∧ k ∉ ids (G g ++ R) ∧ k ≠ w.heap.size ∧ k ≠ w.heap.size + 1) ∧ w.heap.size + 2 ≤ W.heap.size ∧ W.heap[w.heap.size + 1]? = some (.loop (rec .ready none)) ∧ W.heap[w.heap.size]? = some (.deferred (some []))
    have hcall := hseq w hw (w.heap.size + 1) J W1 hb1 ?_ ?_ ?_
    · refine (callsIn_wd.2 hcall).mono ?_
      rintro e W2 ⟨⟨v, rfl⟩, xs, Ks, hS, ⟨gx, h1, h2, _⟩, hz, hl2, hd2⟩
      have hw3 : ∀ o', Hp B (G gx ++ R) (W2.putObj (w.heap.size + 1) o') := fun o' => h2.putOut (Nat.le_trans hw.size (Nat.le_succ _)) (noR (hGc _ _ h1) h2 hl2 rfl (Nat.le_succ _))
      refine ⟨none, _, by have := run_endLoop (P := P) hl2 (by rw [hrec]; simp); rw [hrec] at this; exact this, ?_⟩
      have hd3 : ∀ o', (W2.putObj (w.heap.size + 1) o').heap[w.heap.size]? = some (.deferred (some [])) := fun o' => (World.putObj_heap_other (by omega)).trans hd2
      have hDn : w.heap.size ∉ ids (G gx ++ R) := noR (hGc _ _ h1) (hw3 (.deferred none)) (hd3 _) rfl (Nat.le_refl _)
      exact hdone w.heap.size xs gx hS h1 _ _ ⟨by show [mkD w.heap.size] ++ a.defers = _; rw [ha.defers]; rfl, ha.fr⟩ ((hw3 _).cons (hd3 _) (.inl hw.size) hDn)
    · rintro pre Ks X Y new ⟨⟨gx, h1, h2, h3⟩, hz, hl2, hd2⟩ hb hn
      refine ⟨⟨gx, h1, h2.call_ro hb, fun k hk => ?_⟩, Nat.le_trans hz hb.size, (hb.block _ (lt_of_some hl2)).trans hl2, (hb.block _ (lt_of_some hd2)).trans hd2⟩
      rcases List.mem_append.1 hk with hk | hk
      · have h4 := hn k hk
        exact ⟨h4.2, fun hin => by have := h2.ids_lt hin; omega, by omega, by omega⟩
      · have h4 := h3 k hk
        exact ⟨Nat.lt_of_lt_of_le h4.1 hb.size, h4.2⟩
    · rintro pre x Ks X0 X1 ⟨⟨gx, h1, h2, h3⟩, hz, hl2, hd2⟩ hb hms hml hPx hlen
      have hl3 := (hb.block _ (lt_of_some hl2)).trans hl2
      have hd3 := (hb.block _ (lt_of_some hd2)).trans hd2
      have hBR := h2.beside hb hms hml
      rw [← List.append_assoc] at hBR
      have hB := hBR.left
      have hcm : cellsOnly (mem x ++ G gx) := (hmc x).app (hGc _ _ h1)
      have hy := run_yield (P := P) (args := (encs x).toArray) hl3 (by rw [hrec]; simp [hl x])
      rw [hrec] at hy
      have hz2 : (ps.toArray.zip (encs x).toArray).foldl (fun t (p, v) => t.setIfInBounds p v) a.tmps = (ps.zip (encs x)).foldl (fun t (p, v) => t.setIfInBounds p v) a.tmps := by
        rw [List.zip_toArray, List.foldl_toArray]
      have hfr : Fr n (zipK ps (encs x) ks) { tmps := (ps.zip (encs x)).foldl (fun t (p, v) => t.setIfInBounds p v) a.tmps, defers := [] } := Fr.zip hpn ha.fr
      refine ⟨fn, _, assign, body, hy, roundIn_of_wpIn hfn ?_⟩
      clear hy
      simp only
      rw [hz2]
      refine wpIn_n (m := 0) (ro := some (w.heap.size + 1)) (wpIn_mono (hassign (w.heap.size + 1) pre x gx X1 hPx h1 hB _ X1 ⟨rfl, hfr⟩ (Hp.start hB.sat)) fun e a' X2 q => ?_)
      cases e with
      | normal =>
        obtain ⟨hf, hh⟩ := q
        have hB2 : Hp B (mem x ++ G gx ++ R) X2 := hBR.call (Pick.app _ _) hh
        have keep : ∀ k (o : Obj), X1.heap[k]? = some o → o.isCells = false → X2.heap[k]? = some o := fun k o hk hoc => (hh.old k (lt_of_some hk) (not_ids hcm hB.own hk hoc)).trans hk
        have hl4 := keep _ _ hl3 rfl
        have hd4 := keep _ _ hd3 rfl
        refine ⟨_, run_beginRound hl4 (by rw [hrec]), ?_⟩
        have hlt4 := lt_of_some hl4
        have hl5 : (X2.putObj (w.heap.size + 1) (.loop { rec .ready none with state := .busy })).heap[w.heap.size + 1]? = some (.loop { rec .ready none with state := .busy }) := World.putObj_heap_same hlt4
        have hd5 : (X2.putObj (w.heap.size + 1) (.loop { rec .ready none with state := .busy })).heap[w.heap.size]? = some (.deferred (some [])) := (World.putObj_heap_other (by omega)).trans hd4
        have hBR5 : Hp B (mem x ++ G gx ++ R) (X2.putObj (w.heap.size + 1) (.loop { rec .ready none with state := .busy })) := hB2.putOut (Nat.le_trans hw.size (Nat.le_succ _)) (noR hcm hB2 hl4 rfl (Nat.le_succ _))
        have hB5 := hBR5.left
        have hfd : FrD n [] (Kb x) a' := by
          obtain ⟨t, dd⟩ := a'
          have := hf.defers
          simp only at this
          subst this
          exact ⟨rfl, hf⟩
        refine wpIn_n (m := 0) (ro := some (w.heap.size + 1)) (wpIn_mono (hbody (w.heap.size + 1) pre x gx _ hPx h1 hB5 hlen a' _ hfd (Hp.start hB5.sat)) fun e a3 X3 q => ?_)
        cases e with
        | normal =>
          obtain ⟨g', hpp, sg', r', hp, hh3⟩ := q
          have hG3 := hh3.pick hp
          have hB6 : Hp B (G g' ++ R) X3 := hBR5.call (Pick.app _ _) hG3
          have keep3 : ∀ k (o : Obj), (X2.putObj (w.heap.size + 1) (.loop { rec .ready none with state := .busy })).heap[k]? = some o → o.isCells = false → X3.heap[k]? = some o := fun k o hk hoc => (hh3.old k (lt_of_some hk) (not_ids hcm hB5.own hk hoc)).trans hk
          have hl6 := keep3 _ _ hl5 rfl
          have hd6 := keep3 _ _ hd5 rfl
          have hend := run_endRound (P := P) none hl6
          rw [hrec] at hend
          refine ⟨_, _, hend, rfl, ⟨⟨g', hpp, hB6.putOut (Nat.le_trans hw.size (Nat.le_succ _)) (noR (hGc _ _ hpp) hB6 hl6 rfl (Nat.le_succ _)), fun k hk => ?_⟩, ?_, ?_, ?_⟩, fun k hk => ?_⟩
          · have h4 := h3 k hk
            have hk2 : k < X3.heap.size := by
              have e1 := hb.size; have e2 := hh.size; have e3 := hh3.size
              simp only [World.putObj, Array.size_setIfInBounds] at e3
              simp only at e2
              omega
            refine ⟨by simpa [World.putObj] using hk2, fun hin0 => ?_, h4.2.2⟩
            rcases mem_ids_append hin0 with hin | hinR
            rotate_left
            · exact h4.2.1 (by simp only [ids, List.flatten_append, List.map_append, List.mem_append]; exact .inr hinR)
            obtain ⟨p, hp2, rfl⟩ := List.mem_map.1 hin
            rcases hG3.lo p hp2 with h5 | h5
            · have e1 := hb.size; have e2 := hh.size
              simp only [World.putObj, Array.size_setIfInBounds] at h5
              simp only at e2
              omega
            · rcases mem_ids_append h5 with h6 | h6
              · have := hml _ h6; omega
              · exact h4.2.1 (by simp only [ids, List.flatten_append, List.map_append, List.mem_append]; exact .inl h6)
          · have e1 := hb.size; have e2 := hh.size; have e3 := hh3.size
            simp only [World.putObj, Array.size_setIfInBounds] at e3 ⊢
            simp only at e2
            omega
          · rw [hrec]; exact World.putObj_heap_same (lt_of_some hl6)
          · exact (World.putObj_heap_other (by omega)).trans hd6
          · have h4 := h3 k hk
            have hkn : k ∉ ids (mem x ++ G gx) := fun hin => by
              rcases mem_ids_append hin with h6 | h6
              · have := hml _ h6; omega
              · exact h4.2.1 (by simp only [ids, List.flatten_append, List.map_append, List.mem_append]; exact .inl h6)
            have e1 := hb.size
            have s1 : X2.heap[k]? = X1.heap[k]? := hh.old k (by simp only; omega) hkn
            have s2 : (X2.putObj (w.heap.size + 1) (.loop { rec .ready none with state := .busy })).heap[k]? = X2.heap[k]? := World.putObj_heap_other h4.2.2.2
            have s3 : X3.heap[k]? = (X2.putObj (w.heap.size + 1) (.loop { rec .ready none with state := .busy })).heap[k]? := hh3.old k (by have e2 := hh.size; simp only [World.putObj, Array.size_setIfInBounds]; simp only at e2; omega) hkn
            exact (World.putObj_heap_other h4.2.2.2).trans (s3.trans (s2.trans s1))
        | _ => exact q.elim
      | _ => exact q.elim
    · refine ⟨⟨g0, hP0, hG0.call_ro hb1, fun k hk => ?_⟩, by omega, hL1, hD1⟩
      have h4 := hK w hw k hk
      exact ⟨by omega, h4.2, by omega, by omega⟩
/-- A loop whose rounds leave marks. -/
theorem CI.loopD {γ : Type} {ds : List Deferred} {H : World → Prop} {c : Code} (K : γ → Ks) (dsx : γ → List Deferred) (G : γ → World → Prop) (μ : γ → Nat) (x0 : γ) (hd : dsx x0 = ds) (hk : subK (K x0) ks) (hg : ∀ w, H w → G x0 w)
    (round : ∀ x, CI P n none (dsx x) (G x) (Exit.then (fun a w => ∃ x', μ x' < μ x ∧ FrD n (dsx x') (K x') a ∧ G x' w) Q) c (K x)) : CI P n none ds H Q (.loop c) ks := fun a w ha hw => by
  subst hd
  refine wpIn_loop_ghost (fun m a w => ∃ x, μ x = m ∧ FrD n (dsx x) (K x) a ∧ G x w) (μ x0) ⟨x0, rfl, ha.sub hk, hg w hw⟩ ?_
  rintro m a w ⟨x, rfl, ha, hw⟩
  refine wpIn_mono (round x a w ha hw) fun e a w q => ?_
  cases e with
  | normal => obtain ⟨x', h2, h3, h4⟩ := q; exact ⟨_, h2, x', rfl, h3, h4⟩
  | _ => exact q
theorem PI.roundD {γ : Type} {K : γ → Ks} {dsx : γ → List Deferred} {ds : List Deferred} {H : World → Prop} {G : γ → World → Prop} {μ : γ → Nat} {m : Nat} (x' : γ) (hm : μ x' < m) (hd : dsx x' = ds) (hk : subK (K x') ks) (hg : ∀ w, H w → G x' w) :
    PI n ds H (Exit.then (fun a w => ∃ x', μ x' < m ∧ FrD n (dsx x') (K x') a ∧ G x' w) Q) .normal ks := fun a w ha hw => by
  subst hd
  exact ⟨x', hm, ha.sub hk, hg w hw⟩
/-- Blocks for marks, none of which bears a call. -/
def mks (Ds : List Nat) : Seg := Ds.map fun D => (D, .deferred (some []))
def mke (Ds : List Nat) : Seg := Ds.map fun D => (D, .deferred none)
theorem Hp.unmark {sg' : Sg} {w : World} : ∀ {Ds Es : List Nat}, Hp B ((mks Ds ++ mke Es) :: sg') w → ∀ {fn : Func} {R : Ending → World → Prop} {tmps : Array Value},
    (∀ w', Hp B ((mke Ds.reverse ++ mke Es) :: sg') w' → ∃ v, (results fn tmps).run P w' = .ok v w' ∧ R (.returned v) w') → LeavesInM (Wd none) 0 P fn tmps R (Ds.map mkD) .returning w
  | [], Es, h, fn, R, tmps, hR => by
    obtain ⟨v, h1, h2⟩ := hR w (by simpa [mks, mke] using h)
    exact ⟨v, h1, h2⟩
  | D :: Ds, Es, h, fn, R, tmps, hR => by
    have hm : (D, Obj.deferred (some [])) ∈ (((mks (D :: Ds) ++ mke Es) :: sg' : Sg)).flatten := by simp [mks]
    have hk := h.own _ hm
    have hlt : D < w.heap.size := lt_of_some hk
    have hu : Upd D (.deferred (some [])) (.deferred none) ((mks (D :: Ds) ++ mke Es) :: sg') (((D, .deferred none) :: (mks Ds ++ mke Es)) :: sg') := .here
    have hw' : Hp B (((D, .deferred none) :: (mks Ds ++ mke Es)) :: sg') (w.putObj D (.deferred none)) := h.upd hu rfl rfl rfl (by simp [World.putObj]) (World.putObj_heap_same hlt) (fun k hk => World.putObj_heap_other hk)
    refine ⟨by simp, .inl ⟨D, _, rfl, run_takeDeferred hk, ?_⟩⟩
    refine Hp.unmark (sg' := sg') (Ds := Ds) (Es := D :: Es) (hw'.perm ?_) fun w' hw2 => hR w' (hw2.perm ?_)
    · simp only [List.flatten_cons]
      refine List.Perm.append_right _ ?_
      show List.Perm ((D, Obj.deferred none) :: (mks Ds ++ mke Es)) (mks Ds ++ (D, Obj.deferred none) :: mke Es)
      exact List.perm_middle.symm
    · simp only [List.flatten_cons]
      refine List.Perm.append_right _ ?_
      have e1 : mke (D :: Es) = mke [D] ++ mke Es := rfl
      have e2 : mke (D :: Ds).reverse = mke Ds.reverse ++ mke [D] := by simp [mke]
      rw [e1, e2, List.append_assoc]
/-- Out of a function that bears marks. -/
theorem PI.retMs {fn : Func} {R : Ending → World → Prop} {v : Value} {Ds : List Nat} {sg' r : Sg} (hp : Pick (mks Ds :: sg') sg r) (hv : ∀ a w sm, Fr n ks a → Hp B (sm :: sg') w → (results fn a.tmps).run P w = .ok v w) (h : ∀ w sm, Hp B (sm :: sg') w → R (.returned v) w) :
    PI n (Ds.map mkD) (Hp B sg) (bodyPostM (Wd none) 0 P fn R) .ret ks := fun a w ha hw => by
  show LeavesInM (Wd none) 0 P fn a.tmps R a.defers .returning w
  rw [ha.defers]
  have h1 : Hp B ((mks Ds ++ mke []) :: sg') w := by simpa [mke] using hw.pick hp
  exact Hp.unmark h1 fun w' hw' => ⟨v, hv { a with defers := [] } w' _ ha.fr hw', h w' _ hw'⟩
theorem PI.retM2s {fn : Func} {R : Ending → World → Prop} {t u : Nat} {v x : Value} {Ds : List Nat} {sg' r : Sg} (hr : fn.results = #[.tmp t, .tmp u]) (hv : look ks t = some v) (hx : look ks u = some x) (hp : Pick (mks Ds :: sg') sg r) (h : ∀ w sm, Hp B (sm :: sg') w → R (.returned (.tuple #[v, x])) w) :
    PI n (Ds.map mkD) (Hp B sg) (bodyPostM (Wd none) 0 P fn R) .ret ks := PI.retMs hp (fun a w sm ha hw => by rw [results_tmp2 hr, getD_of (ha.at_ _ _ hv), getD_of (ha.at_ _ _ hx)]) h
theorem PI.retM1s {fn : Func} {R : Ending → World → Prop} {t : Nat} {v : Value} {Ds : List Nat} {sg' r : Sg} (hr : fn.results = #[.tmp t]) (hv : look ks t = some v) (hp : Pick (mks Ds :: sg') sg r) (h : ∀ w sm, Hp B (sm :: sg') w → R (.returned v) w) :
    PI n (Ds.map mkD) (Hp B sg) (bodyPostM (Wd none) 0 P fn R) .ret ks := PI.retMs hp (fun a w sm ha hw => by rw [results_tmp hr, getD_of (ha.at_ _ _ hv)]) h
end
end Go.Proofs.YtlpbjmbgopfkhaaGreat.V
