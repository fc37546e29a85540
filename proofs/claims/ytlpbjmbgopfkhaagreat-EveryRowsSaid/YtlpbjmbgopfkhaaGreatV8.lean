/- A small calculus of symbolic states, part 8: a range over a function; iterators. No program in sight. -/
import Derived.Test.YtlpbjmbgopfkhaaGreatV7
namespace Go.Proofs.YtlpbjmbgopfkhaaGreat.V
open Go Go.RowKit
set_option linter.unusedVariables false
def mkD (D : Nat) : Deferred := { target := .collected D, args := #[] }
def KpK (K : List Nat) (W W' : World) : Prop := ∀ k ∈ K, W'.heap[k]? = W.heap[k]?
def cellsOnly (sg : Sg) : Prop := ∀ p ∈ sg.flatten, p.2.isCells = true
theorem Hp.grown {B : Base} {sg : Sg} (hc : cellsOnly sg) {b0 : Nat} (hB : B.w.heap.size ≤ b0) {W W' : World} {row : Option Nat} (h : Hp B sg W) (hg : W.grownBy W' row)
    (hr : ∀ r, row = some r → b0 ≤ r ∧ ∃ o : Obj, W.heap[r]? = some o ∧ o.isCells = false) : Hp B sg W' := by
  refine ⟨hg.os.trans h.os, hg.tape.trans h.tape, hg.output.trans h.output, Nat.le_trans h.size hg.size, fun b hb hf => ?_, fun p hp => ?_, h.lo, h.nd⟩
  · refine (hg.block b (Nat.lt_of_lt_of_le hb h.size) (fun e => ?_)).trans (h.old b hb hf)
    have := (hr b e.symm).1
    omega
  · refine (hg.block p.1 (lt_of_some (h.own p hp)) (fun e => ?_)).trans (h.own p hp)
    obtain ⟨_, o, ho, hoc⟩ := hr p.1 e.symm
    rw [h.own p hp] at ho
    cases ho
    rw [hc p hp] at hoc
    cases hoc
theorem pick_self : ∀ sg : Sg, Pick sg sg []
  | [] => .nil
  | s :: r => .cons .here (pick_self r)
theorem Hp.tl {B : Base} {s : Seg} {r : Sg} {w : World} (h : Hp B (s :: r) w) : Hp B r w :=
  (h.perm (by rw [List.flatten_append, List.flatten_cons, List.flatten_cons, List.flatten_nil, List.append_nil]; exact List.perm_append_comm) : Hp B (r ++ [s]) w).left
theorem Hp.cons {B : Base} {sg : Sg} {w : World} {y : Nat} {o : Obj} (h : Hp B sg w) (ho : w.heap[y]? = some o) (hl : B.w.heap.size ≤ y ∨ y ∈ B.F) (hn : y ∉ ids sg) : Hp B ([(y, o)] :: sg) w := by
  refine ⟨h.os, h.tape, h.output, h.size, h.old, fun p hp => ?_, fun p hp => ?_, ?_⟩
  · simp only [List.flatten_cons, List.singleton_append, List.mem_cons] at hp
    rcases hp with rfl | hp
    · exact ho
    · exact h.own p hp
  · simp only [List.flatten_cons, List.singleton_append, List.mem_cons] at hp
    rcases hp with rfl | hp
    · exact hl
    · exact h.lo p hp
  · simp only [List.flatten_cons, List.singleton_append, List.map_cons, List.nodup_cons]
    exact ⟨hn, h.nd⟩
def zipK : List Tmp → List Value → Ks → Ks
  | p :: ps, v :: vs, ks => zipK ps vs ((p, v) :: ks)
  | _, _, ks => ks
theorem Fr.zip {n : Nat} : ∀ {ps : List Tmp} {vs : List Value} {ks : Ks} {t : Array Value}, ps.all (fun p => Nat.blt p n) = true → Fr n ks { tmps := t, defers := [] } →
    Fr n (zipK ps vs ks) { tmps := (ps.zip vs).foldl (fun t (p, v) => t.setIfInBounds p v) t, defers := [] }
  | [], vs, ks, t, _, h => h
  | p :: ps, [], ks, t, _, h => h
  | p :: ps, v :: vs, ks, t, hp, h => by
    simp only [List.all_cons, Bool.and_eq_true] at hp
    exact Fr.zip (ps := ps) (vs := vs) hp.2 (h.put (dst := some p) hp.1 v)
/-- How a round's body may be left. -/
def RP {α : Type} (B : Base) (Pp Px : List α → Prop) (G Gx : List α → Sg) (xs : List α) : Exit → Act → World → Prop
  | .normal, _, W' => Pp xs ∧ ∃ sg r, Pick (G xs) sg r ∧ Hp B sg W'
  | .ret, _, W' => Px xs ∧ ∃ sg r, Pick (Gx xs) sg r ∧ Hp B sg W'
  | _, _, _ => False
section
variable {P : Program} {n : Nat} {B : Base} {Q : Exit → Act → World → Prop} {ks : Ks} {sg : Sg}
theorem PI.seqW {ds : List Deferred} {H : World → Prop} {y : Code} (h : CI P n none ds H Q y ks) : PI n ds H (Exit.then (y.wp P Q) Q) .normal ks := fun a w ha hw => wpIn_wide.1 (h a w ha hw)
theorem PI.rp {α : Type} {B' : Base} {ds : List Deferred} {Pp Px : List α → Prop} {G Gx : List α → Sg} {xs : List α} {sg' r : Sg} (h : Pp xs) (hp : Pick (G xs) sg' r) : PI n ds (Hp B' sg') (RP B' Pp Px G Gx xs) .normal ks := fun a w _ hw => ⟨h, sg', r, hp, hw⟩
theorem PI.rpx {α : Type} {B' : Base} {ds : List Deferred} {Pp Px : List α → Prop} {G Gx : List α → Sg} {xs : List α} {sg' r : Sg} (h : Px xs) (hp : Pick (Gx xs) sg' r) : PI n ds (Hp B' sg') (RP B' Pp Px G Gx xs) .ret ks := fun a w _ hw => ⟨h, sg', r, hp, hw⟩
theorem PI.assigned {B' : Base} {Kx : Nat → Ks} {ox : Obj} {Gp sg' r : Sg} (y : Nat) (hs : subK (Kx y) ks) (hp : Pick ([(y, ox)] :: Gp) sg' r) :
    PI n [] (Hp B' sg') (Exit.then (fun a' W' => ∃ y, Fr n (Kx y) a' ∧ Hp B' ([(y, ox)] :: Gp) W') (fun _ _ _ => False)) .normal ks := fun a w ha hw => ⟨y, ha.plain.sub hs, hw.pick hp⟩
theorem Val.makeFunc {d : Option Tmp} {ty : TypeId} {pos : String} {aft : Array Edge} {g : Option (Nat × Bool)} {f : Fn} {xs ys : List Operand} {vs us : List Value} (hx : evs ks xs = some vs) (hy : evs ks ys = some us) :
    Val P n B ⟨d, .makeFunc f xs.toArray ys.toArray, ty, pos, aft, g⟩ ks sg (.func f vs.toArray us.toArray) := fun a w ha hw => by
  have h1 := ha.evs hx
  have h2 := ha.evs hy
  simp [execOp, h1, h2, Instr.makeFunc]
theorem results_c1 {fn : Func} {p : Nat} {t T : TypeId} {b : Nat} {fr : Nat × Nat} {v : Value} {a : Act} {w : World} (hr : fn.results = #[.cell p t]) (ha : Fr n ks a) (hw : Hp B sg w) (hp : look ks p = some (.pointer (some ⟨b, 0, none⟩)))
    (hm : InS (b, .cells [v].toArray T fr) sg) (hg : ∀ w, (isAgg t).run P w = .ok false w) : (results fn a.tmps).run P w = .ok v w := by
  have h1 : (loadVar t ⟨b, 0, none⟩).run P w = .ok v w := run_loadVar_one (cell_of_block (o := 0) (l := [v]) (v := v) (hw.own _ hm.mem) rfl) hg
  have h2 : a.tmps[p]?.getD undef = .pointer (some ⟨b, 0, none⟩) := by rw [ha.at_ _ _ hp]; rfl
  simp only [results, hr]
  simp [Sem.run_bind, Result.andThen, asAddr, h2, h1]
/-- A range over a function, whose element is boxed in each round. -/
theorem CW.rangeFunc {α : Type} {g : Operand} {ps : List Tmp} {assign body : Code} {gf : Nat} {lb : List Value} {r : Sg}
    (encs : α → List Value) (S Sp Pp Px : List α → Prop) (N : Nat) (K : List Nat) (G Gx : List α → Sg) (Kb : α → Nat → Ks) (ob : α → Obj)
    (hg : ev ks g = some (.func (.func gf) #[] lb.toArray)) (eg : ∀ (args : Array Value) (w : World), (callFunc gf args).run P w = .ok (.enter gf args) w) (hl : ∀ x, (encs x).length = ps.length) (hpn : ps.all (fun p => Nat.blt p n) = true)
    (hseq : ∀ w, Hp B sg w → SeqStopsK (Wd none) 1 P gf lb.toArray (fun x => (encs x).toArray) (KpK K) S Sp N w)
    (hK : ∀ w, Hp B sg w → ∀ k ∈ K, k < w.heap.size ∧ k ∉ ids (G []))
    (hG : Pick (G []) sg r) (hGi : ∀ pre, ids (G pre) = ids (G [])) (hGc : ∀ pre, cellsOnly (G pre)) (hXi : ∀ pre, ids (Gx pre) = ids (G [])) (hXc : ∀ pre, cellsOnly (Gx pre)) (hob : ∀ x, (ob x).isCells = true) (hP0 : Pp [])
    (hassign : ∀ l pre x W, Hp B (G pre) W → CI P n (some l) [] (Hp ⟨W, ids (G pre)⟩ (G pre)) (Exit.then (fun a' W' => ∃ y, Fr n (Kb x y) a' ∧ Hp ⟨W, ids (G pre)⟩ ([(y, ob x)] :: G pre) W') (fun _ _ _ => False)) assign (zipK ps (encs x) ks))
    (hbody : ∀ l pre x y W, Hp B ([(y, ob x)] :: G pre) W → Pp pre → pre.length < N → CI P n (some l) [] (Hp ⟨W, ids ([(y, ob x)] :: G pre)⟩ ([(y, ob x)] :: G pre)) (RP ⟨W, ids ([(y, ob x)] :: G pre)⟩ Pp Px G Gx (pre ++ [x])) body (Kb x y))
    (hdone : ∀ D xs, S xs → Pp xs → PI n [mkD D] (Hp B ([(D, .deferred (some []))] :: G xs)) Q .normal ks)
    (hstop : ∀ D pre, Sp pre → Px pre → PI n [mkD D] (Hp B ([(D, .deferred (some []))] :: Gx pre)) Q .ret ks) : CW P n B Q (.rangeFunc g ps.toArray assign body) ks sg := fun a w ha hw => by
  refine wpIn_wide (n := 2).1 ?_
  show Code.wpIn (Wd none) 2 P _ Q a w
  have hG0 := hw.pick hG
  have hGlt : ∀ k ∈ ids (G []), k < w.heap.size := fun k hk => by
    obtain ⟨p, hp, rfl⟩ := List.mem_map.1 hk
    exact lt_of_some (hG0.own p hp)
  have hnc : ∀ {sg' : Sg} {W : World} {k : Nat} {o : Obj}, cellsOnly sg' → (∀ p ∈ sg'.flatten, W.heap[p.1]? = some p.2) → W.heap[k]? = some o → o.isCells = false → k ∉ ids sg' := fun {sg' W k o} hc hown ho hoc hk => by
    obtain ⟨p, hp, rfl⟩ := List.mem_map.1 hk
    rw [hown p hp] at ho
    cases ho
    rw [hc p hp] at hoc
    cases hoc
  have h0d : a.defers = [] := ha.defers
  have hap : ∀ D, ({ a with defers := mkD D :: a.defers } : Act) = { a with defers := [mkD D] } := fun D => by rw [h0d]
  refine wpIn_rangeFunc_ownH (F := Wd none) (n := 2) rfl (by omega) (gf := gf) (lb := lb.toArray) (ha.ev hg) trivial eg (encs := fun x => (encs x).toArray) (Kp := KpK K) (hseq w hw)
    (fun {A B' C} h1 h2 k hk => (h2 k hk).trans (h1 k hk))
    (fun W l o o' hwl _ _ _ k hk => World.putObj_heap_other (by have := (hK w hw k hk).1; omega)) (Below.refl _ w) (fun x => by simp [hl x])
    (fun pre W => Hp B (G pre) W ∧ w.heap.size ≤ W.heap.size ∧ Pp pre) (fun c pre W => c = .ret ∧ Hp B (Gx pre) W ∧ Px pre)
    (fun s W W' row hs hgr hr => ⟨hs.1.grown (hGc s) hw.size hgr hr, Nat.le_trans hs.2.1 hgr.size, hs.2.2⟩)
    (fun c s W W' row hs hgr hr => ⟨hs.1, hs.2.1.grown (hXc s) hw.size hgr hr, hs.2.2⟩) ⟨hG0, Nat.le_refl _, hP0⟩
    (fun x a' W => ∃ y, w.heap.size ≤ y ∧ Fr n (Kb x y) a' ∧ W.heap[y]? = some (ob x)) (fun x a' s W W' row hs hgr hr => ?_) ?_ ?_ ?_ ?_
  · obtain ⟨y, h1, h2, h3⟩ := hs
    refine ⟨y, h1, h2, (hgr.block y (lt_of_some h3) (fun e => ?_)).trans h3⟩
    obtain ⟨_, o, ho, hoc⟩ := hr y e.symm
    rw [h3] at ho
    cases ho
    rw [hob x] at hoc
    cases hoc
  · intro l pre x W Kont hi hKont
    have hfr : Fr n (zipK ps (encs x) ks) { tmps := (ps.zip (encs x)).foldl (fun t (p, v) => t.setIfInBounds p v) a.tmps, defers := [] } := Fr.zip hpn (by
      obtain ⟨t, dd⟩ := a
      simp only at h0d
      subst h0d
      exact ha)
    have hz : (ps.toArray.zip (encs x).toArray).foldl (fun t (p, v) => t.setIfInBounds p v) a.tmps = (ps.zip (encs x)).foldl (fun t (p, v) => t.setIfInBounds p v) a.tmps := by
      rw [List.zip_toArray, List.foldl_toArray]
    rw [hz]
    refine wpIn_mono (hassign l pre x W hi.1 _ W ⟨rfl, hfr⟩ (Hp.start hi.1.sat)) fun e a' W' q => ?_
    cases e with
    | normal =>
      obtain ⟨y, hf, hh⟩ := q
      have hI' : Hp B (G pre) W' := by
        have h1 := hi.1.call (pick_self _) hh
        rw [List.append_nil] at h1
        exact h1.tl
      have hyn : y ∉ ids (G pre) := by
        have := hh.nd
        simp only [List.flatten_cons, List.singleton_append, List.map_cons, List.nodup_cons] at this
        exact this.1
      have hylo : W.heap.size ≤ y := by
        rcases hh.lo (y, ob x) (by simp) with h1 | h1
        · exact h1
        · exact absurd h1 hyn
      refine hKont a' W' ⟨hh.size, fun k o _ hk hoc => (hh.old k (lt_of_some hk) (hnc (hGc pre) hi.1.own hk hoc)).trans hk⟩ (fun k hk => ?_) ⟨hI', Nat.le_trans hi.2.1 hh.size, hi.2.2⟩ ⟨y, Nat.le_trans hi.2.1 hylo, hf, hh.own (y, ob x) (by simp)⟩
      have hk2 := hK w hw k hk
      exact hh.old k (Nat.lt_of_lt_of_le hk2.1 hi.2.1) (by simp only; rw [hGi]; exact hk2.2)
    | _ => exact q.elim
  · intro l pre x a' W hwl _ hi hax hlen
    obtain ⟨y, hy, hf, ho⟩ := hax
    have hyn : y ∉ ids (G pre) := fun h => by rw [hGi] at h; have := hGlt y h; omega
    have hB : Hp B ([(y, ob x)] :: G pre) W := hi.1.cons ho (.inl (Nat.le_trans hw.size hy)) hyn
    have hcells : cellsOnly ([(y, ob x)] :: G pre) := fun p hp => by
      simp only [List.flatten_cons, List.singleton_append, List.mem_cons] at hp
      rcases hp with rfl | hp
      · exact hob x
      · exact hGc pre p hp
    have hfd : FrD n [] (Kb x y) a' := by
      obtain ⟨t, dd⟩ := a'
      have := hf.defers
      simp only at this
      subst this
      exact ⟨rfl, hf⟩
    have hkf : ∀ {sg' : Sg} {W' : World}, Hp ⟨W, ids ([(y, ob x)] :: G pre)⟩ sg' W' → KeepsFrom w.heap.size W W' := fun {sg' W'} hh =>
      ⟨hh.size, fun k o _ hk hoc => (hh.old k (lt_of_some hk) (hnc hcells hB.own hk hoc)).trans hk⟩
    refine wpIn_mono (hbody l pre x y W hB hi.2.2 hlen a' W hfd (Hp.start hB.sat)) fun e a2 W' q => ?_
    cases e with
    | normal =>
      obtain ⟨hpp, sg', r', hp, hh⟩ := q
      refine ⟨hkf hh, fun k hk => ?_, ?_, Nat.le_trans hi.2.1 hh.size, hpp⟩
      · have hk2 := hK w hw k hk
        refine hh.old k (Nat.lt_of_lt_of_le hk2.1 hi.2.1) ?_
        intro hin
        have hin' : k = y ∨ k ∈ ids (G pre) := by simpa [ids] using hin
        rcases hin' with rfl | h1
        · omega
        · rw [hGi] at h1; exact hk2.2 h1
      · have := hB.call (pick_self _) (hh.pick hp)
        rw [List.append_nil] at this
        exact this
    | ret =>
      obtain ⟨hpx, sg', r', hp, hh⟩ := q
      refine ⟨hkf hh, rfl, ?_, hpx⟩
      have := hB.call (pick_self _) (hh.pick hp)
      rw [List.append_nil] at this
      exact this
    | _ => exact q.elim
  · intro D xs W hD hS hi hk
    have hDn : D ∉ ids (G xs) := hnc (hGc xs) hi.1.own hk rfl
    show Q .normal { a with defers := mkD D :: a.defers } W
    rw [hap D]
    exact hdone D xs hS hi.2.2 _ W (ha.withD [mkD D]) (hi.1.cons hk (.inl (Nat.le_trans hw.size hD)) hDn)
  · intro D c pre W hD hS hi hk
    obtain ⟨rfl, hx, hpx⟩ := hi
    have hDn : D ∉ ids (Gx pre) := hnc (hXc pre) hx.own hk rfl
    show Code.wpIn (Wd none) 2 P .ret Q { a with defers := mkD D :: a.defers } W
    rw [hap D]
    exact wpIn_ret (hstop D pre hS hpx _ W (ha.withD [mkD D]) (hx.cons hk (.inl (Nat.le_trans hw.size hD)) hDn))
/-- A call, by its body, which holds a range over a function. -/
theorem callsM {f : FuncId} {fn : Func} {c : Code} {l : List Value} {w : World} {R : Ending → World → Prop} {m : Nat} (sg0 : Sg)
    (hf : P.funcs[f]? = some fn) (hb : fn.body = some c) (hn : fn.ntmps = m) (hl : l.length ≤ m) (hs : Sat sg0 w)
    (h : CW P m ⟨w, ids sg0⟩ (bodyPostM (Wd none) 0 P fn R) c (initK 0 l) sg0) : Calls P f l.toArray w R := by
  refine callsIn_wd (ro := none) (m := 0) |>.1 (callsIn_of_wp_marks hf hb trivial (wpIn_wide (n := 0) |>.2 (h _ w ⟨rfl, ?_, fun i v hi => ?_⟩ (Hp.start hs))))
  · simp [hn]; omega
  · obtain ⟨k, rfl, hv⟩ := look_initK l 0 i v hi
    have hk : k < l.length := (List.getElem?_eq_some_iff.1 hv).1
    simp only [Nat.zero_add]
    rw [Array.getElem?_append_left (by simpa using hk)]
    simpa using hv
/-- A call, by its body, which yields. -/
theorem callsI {H : World → Prop} {f : FuncId} {fn : Func} {c : Code} {l : List Value} {w : World} {R : Ending → World → Prop} {m : Nat}
    (hf : P.funcs[f]? = some fn) (hb : fn.body = some c) (hn : fn.ntmps = m) (hl : l.length ≤ m) (hw : H w)
    (h : CI P m none [] H (bodyPost P fn R) c (initK 0 l)) : Calls P f l.toArray w R := by
  refine calls_of_wp hf hb (wpIn_wide (n := 0) |>.1 (h _ w ⟨rfl, rfl, ?_, fun i v hi => ?_⟩ hw))
  · simp [hn]; omega
  · obtain ⟨k, rfl, hv⟩ := look_initK l 0 i v hi
    have hk : k < l.length := (List.getElem?_eq_some_iff.1 hv).1
    simp only [Nat.zero_add]
    rw [Array.getElem?_append_left (by simpa using hk)]
    simpa using hv
theorem PI.ret0 {H : World → Prop} {fn : Func} {R : Ending → World → Prop} (hr : fn.results = #[]) (h : ∀ w, H w → R (.returned (.tuple #[])) w) : PI n [] H (bodyPost P fn R) .ret ks :=
  fun a w ha hw => bodyPost_ret (results_none hr _ _ _) ha.defers (h w hw)
theorem PI.end0 {H : World → Prop} {fn : Func} {R : Ending → World → Prop} (hr : fn.results = #[]) (h : ∀ w, H w → R (.returned (.tuple #[])) w) : PI n [] H (bodyPost P fn R) .normal ks :=
  fun a w ha hw => bodyPost_end (results_none hr _ _ _) ha.defers (h w hw)
/-- Out of a function that could bear marks, and bears none. -/
theorem PQ.retM0 {fn : Func} {R : Ending → World → Prop} {v : Value} (hv : ∀ a w, Fr n ks a → Hp B sg w → (results fn a.tmps).run P w = .ok v w) (h : ∀ w, Hp B sg w → R (.returned v) w) : PQ n B (bodyPostM (Wd none) 0 P fn R) .ret ks sg :=
  fun a w ha hw => by
    show LeavesInM (Wd none) 0 P fn a.tmps R a.defers .returning w
    rw [ha.defers]
    exact ⟨v, hv a w ha hw, h w hw⟩
/-- Out of a function that bears one. -/
theorem PI.retM {D : Nat} {fn : Func} {R : Ending → World → Prop} {v : Value} {sg' : Sg} (hu : Upd D (.deferred (some [])) (.deferred none) sg sg') (hv : ∀ a w, Fr n ks a → Hp B sg' w → (results fn a.tmps).run P w = .ok v w) (h : ∀ w, Hp B sg' w → R (.returned v) w) :
    PI n [mkD D] (Hp B sg) (bodyPostM (Wd none) 0 P fn R) .ret ks :=
  fun a w ha hw => by
    show LeavesInM (Wd none) 0 P fn a.tmps R a.defers .returning w
    rw [ha.defers]
    have hk := hw.own _ hu.mem
    have hlt : D < w.heap.size := lt_of_some hk
    have hw' : Hp B sg' (w.putObj D (.deferred none)) := hw.upd hu rfl rfl rfl (by simp [World.putObj]) (World.putObj_heap_same hlt) (fun k hk => World.putObj_heap_other hk)
    exact ⟨by simp, .inl ⟨D, _, rfl, run_takeDeferred hk, v, hv { a with defers := [] } _ ha.fr hw', h _ hw'⟩⟩
theorem Sat.below {sg : Sg} {w w' : World} (h : Sat sg w) (hb : Below w.heap.size w w') : Sat sg w' :=
  ⟨fun p hp => (hb.block p.1 (lt_of_some (h.own p hp))).trans (h.own p hp), h.nd⟩
theorem cellsOnly_of {sg : Sg} (h : (sg.flatten.all fun p => p.2.isCells) = true) : cellsOnly sg := fun p hp => List.all_eq_true.1 h p hp
theorem mem_ids_append {sgA sgB : Sg} {k : Nat} (h : k ∈ ids (sgA ++ sgB)) : k ∈ ids sgA ∨ k ∈ ids sgB := by
  simpa [ids] using h
theorem Sat.lt {sgR : Sg} {w0 : World} (h : Sat sgR w0) {k : Nat} (hk : k ∈ ids sgR) : k < w0.heap.size := by
  obtain ⟨p, hp, rfl⟩ := List.mem_map.1 hk
  exact lt_of_some (h.own p hp)
theorem Hp.lo0 {w0 : World} {sg : Sg} {w : World} (h : Hp ⟨w0, []⟩ sg w) {k : Nat} (hk : k ∈ ids sg) : w0.heap.size ≤ k := by
  obtain ⟨p, hp, rfl⟩ := List.mem_map.1 hk
  rcases h.lo p hp with h1 | h1
  · exact h1
  · simp at h1
theorem Sat.join {sgA sgB : Sg} {w : World} (h : Sat sgA w) (h' : Sat sgB w) (hd : ∀ k ∈ ids sgA, k ∉ ids sgB) : Sat (sgA ++ sgB) w := by
  refine ⟨fun p hp => ?_, ?_⟩
  · simp only [List.flatten_append, List.mem_append] at hp
    rcases hp with hp | hp
    · exact h.own p hp
    · exact h'.own p hp
  · simp only [List.flatten_append, List.map_append, List.nodup_append]
    exact ⟨h.nd, h'.nd, fun x hx y hy e => by subst e; exact hd x hx hy⟩
/-- New blocks beside old ones. -/
theorem Hp.sat_old {w0 : World} {sg sgC sgR r : Sg} {w : World} (hw : Hp ⟨w0, []⟩ sg w) (hp : Pick sgC sg r) (hs : Sat sgR w0) : Sat (sgC ++ sgR) w :=
  Sat.join (hw.sat.pick hp) (hs.below hw.below) fun k hk hk' => by
    have h1 := (hw.pick hp).lo0 hk
    have h2 := hs.lt hk'
    omega
theorem Hp.apart {w0 : World} {sg sgA sgC sgR r : Sg} {w : World} (hw : Hp ⟨w0, []⟩ sg w) (hp : Pick (sgA ++ sgC) sg r) (hs : Sat sgR w0) : ∀ k ∈ ids (sgC ++ sgR), k < w.heap.size ∧ k ∉ ids sgA := fun k hk => by
  have h1 := hw.pick hp
  have nd := h1.nd
  simp only [List.flatten_append, List.map_append, List.nodup_append] at nd
  rcases mem_ids_append hk with hk | hk
  · refine ⟨h1.sat.lt (by simp only [ids, List.flatten_append, List.map_append, List.mem_append]; exact .inr hk), fun hin => nd.2.2 k hin k hk rfl⟩
  · have h2 := hs.lt hk
    refine ⟨Nat.lt_of_lt_of_le h2 hw.size, fun hin => ?_⟩
    have h3 : w0.heap.size ≤ k := h1.lo0 (by simp only [ids, List.flatten_append, List.map_append, List.mem_append]; exact .inl hin)
    omega
/-- Old blocks, seen from a later walk that began behind new ones. -/
theorem Sat.away {w0 W w' : World} {sgR sg sg' : Sg} (h : Sat sgR w0) (hW : Hp ⟨w0, []⟩ sg W) (hw : Hp ⟨W, ids sg⟩ sg' w') : Sat sgR w' :=
  ⟨fun p hp => by
    have hlt : p.1 < w0.heap.size := h.lt (List.mem_map.2 ⟨p, hp, rfl⟩)
    refine (hw.old p.1 (Nat.lt_of_lt_of_le hlt hW.size) (fun hin => ?_)).trans ((hW.old p.1 hlt (by simp)).trans (h.own p hp))
    have := hW.lo0 hin
    omega, h.nd⟩
theorem abides_below {β : Type} {b : Nat} {J : β → World → Prop} (h : AbidesFrom b J) {s : β} {w w' : World} (hj : J s w) (hb : Below w.heap.size w w') : J s w' :=
  h s w w' none hj ⟨hb.os, hb.tape, hb.output, hb.size, fun k hk _ => hb.block k hk⟩ (fun r e => by cases e)
theorem Sat.kept {sg : Sg} {K : List Nat} {w w' : World} (h : Sat sg w) (hk : KpK K w w') (hK : ∀ k ∈ ids sg, k ∈ K) : Sat sg w' :=
  ⟨fun p hp => (hk p.1 (hK p.1 (List.mem_map.2 ⟨p, hp, rfl⟩))).trans (h.own p hp), h.nd⟩
end
end Go.Proofs.YtlpbjmbgopfkhaaGreat.V
