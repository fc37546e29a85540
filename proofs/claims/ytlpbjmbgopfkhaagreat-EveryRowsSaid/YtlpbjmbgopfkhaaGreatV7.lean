/- A small calculus of symbolic states, part 7: walks under a round (a range over a function), marks, yields. No program in sight. -/
import Derived.Test.YtlpbjmbgopfkhaaGreatV6
import Derived.RangeFuncNested
import Derived.RangeFuncLeaves
import Derived.Sort.LoopGhostIn
namespace Go.Proofs.YtlpbjmbgopfkhaaGreat.V
open Go Go.RowKit
set_option linter.unusedVariables false
/-- No fence, in a round of loop l or in none. -/
def Wd (ro : Option Nat) : Fence := { Fence.wide with round := ro }
structure FrD (n : Nat) (ds : List Deferred) (ks : Ks) (a : Act) : Prop where
  defers : a.defers = ds
  fr : Fr n ks { a with defers := [] }
theorem callsIn_wd {ro : Option Nat} {m : Nat} {P : Program} {f : FuncId} {args : Array Value} {w : World} {R : Ending → World → Prop} : CallsIn (Wd ro) m P f args w R ↔ Calls P f args w R :=
  (Iff.rfl : CallsIn (Wd ro) m P f args w R ↔ CallsIn Fence.wide m P f args w R).trans callsIn_wide
theorem room_wd {ro : Option Nat} (m : Nat) : (Wd ro).room m := fun _ h => by simp [Wd, Fence.wide] at h
theorem wpIn_n {ro : Option Nat} {m m' : Nat} {P : Program} {c : Code} {Q : Exit → Act → World → Prop} {a : Act} {w : World} (h : c.wpIn (Wd ro) m P Q a w) : c.wpIn (Wd ro) m' P Q a w :=
  fun b k cs hro hb _ => h b k cs hro hb (room_wd _)
def isDefer : Op → Bool
  | .defer _ => true
  | _ => false
section
variable (P : Program) (n : Nat) (ro : Option Nat) (ds : List Deferred)
def CI (H : World → Prop) (Q : Exit → Act → World → Prop) (c : Code) (ks : Ks) : Prop := ∀ a w, FrD n ds ks a → H w → c.wpIn (Wd ro) 0 P Q a w
def LI (ops : Array Oper) (H : World → Prop) (Q : Exit → Act → World → Prop) (l : List Oper) (ks : Ks) : Prop := ∀ a w, FrD n ds ks a → H w → wpListIn (Wd ro) 0 P ops Q l a w
def PI (H : World → Prop) (Q : Exit → Act → World → Prop) (e : Exit) (ks : Ks) : Prop := ∀ a w, FrD n ds ks a → H w → Q e a w
end
section
variable {P : Program} {n : Nat} {ro : Option Nat} {ds : List Deferred} {H : World → Prop} {Q : Exit → Act → World → Prop} {ks : Ks} {ops : Array Oper} {o : Oper} {rest : List Oper}
theorem FrD.ev {a : Act} (h : FrD n ds ks a) {x : Operand} {v : Value} (he : ev ks x = some v) : a.eval x = v := by
  have := h.fr.ev he
  cases x <;> exact this
theorem FrD.put {a : Act} (h : FrD n ds ks a) {dst : Option Tmp} (hd : dok n dst = true) (v : Value) : FrD n ds (push ks dst v) (a.put dst v) := by
  have h1 := h.fr.put hd v
  have h2 := h.defers
  obtain ⟨t, dd⟩ := a
  refine ⟨?_, ?_⟩
  · cases dst <;> exact h2
  · cases dst <;> exact h1
theorem FrD.sub {t : Ks} {a : Act} (h : FrD n ds ks a) (hs : subK t ks) : FrD n ds t a := ⟨h.defers, h.fr.sub hs⟩
theorem FrD.plain {a : Act} (h : FrD n [] ks a) : Fr n ks a := by
  obtain ⟨t, dd⟩ := a
  have := h.defers
  simp only at this
  subst this
  exact h.fr
theorem Fr.withD {a : Act} (h : Fr n ks a) (ds : List Deferred) : FrD n ds ks { a with defers := ds } := ⟨rfl, by
  obtain ⟨t, dd⟩ := a
  have := h.defers
  simp only at this
  subst this
  exact h⟩

theorem CI.seq {x y : Code} (h : CI P n ro ds H (Exit.then (y.wpIn (Wd ro) 0 P Q) Q) x ks) : CI P n ro ds H Q (.seq x y) ks := fun a w ha hw => wpIn_seq (h a w ha hw)
theorem CI.skip (h : PI n ds H Q .normal ks) : CI P n ro ds H Q .skip ks := fun a w ha hw => wpIn_skip (h a w ha hw)
theorem CI.ret (h : PI n ds H Q .ret ks) : CI P n ro ds H Q .ret ks := fun a w ha hw => wpIn_ret (h a w ha hw)
theorem CI.exit {id : Nat} (h : PI n ds H Q (.exit id) ks) : CI P n ro ds H Q (.exit id) ks := fun a w ha hw => wpIn_exit (h a w ha hw)
theorem CI.block {id : Nat} {c : Code} (h : CI P n ro ds H (Exit.inBlock id Q) c ks) : CI P n ro ds H Q (.block id c) ks := fun a w ha hw => wpIn_block (h a w ha hw)
theorem CI.label {l : Nat} (h : PI n ds H Q .normal ks) : CI P n ro ds H Q (.label l) ks := fun a w ha hw => wpIn_label (h a w ha hw)
theorem CI.region {id : Nat} {l : List Oper} (h : LI P n ro ds l.toArray H Q l ks) : CI P n ro ds H Q (.region id l.toArray false) ks := fun a w ha hw => wpIn_region_lit (h a w ha hw)
theorem CI.cond {c : Operand} {x y : Code} {t : Bool} (hc : ev ks c = some (.bool t)) (h1 : t = true → CI P n ro ds H Q x ks) (h2 : t = false → CI P n ro ds H Q y ks) : CI P n ro ds H Q (.cond c x y) ks :=
  fun a w ha hw => wpIn_cond_split (ha.ev hc) (fun e => h1 e a w ha hw) (fun e => h2 e a w ha hw)
theorem CI.cond_t {c : Operand} {x y : Code} (hc : ev ks c = some (.bool true)) (h1 : CI P n ro ds H Q x ks) : CI P n ro ds H Q (.cond c x y) ks := fun a w ha hw => wpIn_cond_true (ha.ev hc) (h1 a w ha hw)
theorem CI.cond_f {c : Operand} {x y : Code} (hc : ev ks c = some (.bool false)) (h1 : CI P n ro ds H Q y ks) : CI P n ro ds H Q (.cond c x y) ks := fun a w ha hw => wpIn_cond_false (ha.ev hc) (h1 a w ha hw)
theorem PI.seq {y : Code} (h : CI P n ro ds H Q y ks) : PI n ds H (Exit.then (y.wpIn (Wd ro) 0 P Q) Q) .normal ks := h
theorem PI.then_exit {K : Act → World → Prop} {id : Nat} (h : PI n ds H Q (.exit id) ks) : PI n ds H (Exit.then K Q) (.exit id) ks := h
theorem PI.then_ret {K : Act → World → Prop} (h : PI n ds H Q .ret ks) : PI n ds H (Exit.then K Q) .ret ks := h
theorem PI.in_normal {id : Nat} (h : PI n ds H Q .normal ks) : PI n ds H (Exit.inBlock id Q) .normal ks := h
theorem PI.in_ret {id : Nat} (h : PI n ds H Q .ret ks) : PI n ds H (Exit.inBlock id Q) .ret ks := h
theorem PI.in_here {id : Nat} (h : PI n ds H Q .normal ks) : PI n ds H (Exit.inBlock id Q) (.exit id) ks := fun a w ha hw => by
  simp only [Exit.inBlock, if_true]; exact h a w ha hw
theorem PI.in_out {id id' : Nat} (hne : Nat.beq id' id = false) (h : PI n ds H Q (.exit id') ks) : PI n ds H (Exit.inBlock id Q) (.exit id') ks := fun a w ha hw => by
  have : ¬ id' = id := fun e => by subst e; simp at hne
  simp only [Exit.inBlock, this, if_false]; exact h a w ha hw
/-- A loop, by what a round's head looks like. -/
theorem CI.loop {γ : Type} {c : Code} (K : γ → Ks) (G : γ → World → Prop) (μ : γ → Nat) (x0 : γ) (hk : subK (K x0) ks) (hg : ∀ w, H w → G x0 w)
    (round : ∀ x, CI P n ro ds (G x) (Exit.then (fun a w => ∃ x', μ x' < μ x ∧ FrD n ds (K x') a ∧ G x' w) Q) c (K x)) : CI P n ro ds H Q (.loop c) ks := fun a w ha hw => by
  refine wpIn_loop_ghost (fun m a w => ∃ x, μ x = m ∧ FrD n ds (K x) a ∧ G x w) (μ x0) ⟨x0, rfl, ha.sub hk, hg w hw⟩ ?_
  rintro m a w ⟨x, rfl, ha, hw⟩
  refine wpIn_mono (round x a w ha hw) fun e a w q => ?_
  cases e with
  | normal => obtain ⟨x', h2, h3, h4⟩ := q; exact ⟨_, h2, x', rfl, h3, h4⟩
  | _ => exact q
theorem PI.round {γ : Type} {K : γ → Ks} {G : γ → World → Prop} {μ : γ → Nat} {m : Nat} (x' : γ) (hm : μ x' < m) (hk : subK (K x') ks) (hg : ∀ w, H w → G x' w) :
    PI n ds H (Exit.then (fun a w => ∃ x', μ x' < m ∧ FrD n ds (K x') a ∧ G x' w) Q) .normal ks := fun a w ha hw => ⟨x', hm, ha.sub hk, hg w hw⟩

theorem wanted_gdD {a : Act} {b : Bool} (ha : FrD n ds ks a) (hg : gd ops ks o.guard = some b) : Region.wanted o (yielded ops a.tmps) = b := (wanted_gd ha.fr hg : Region.wanted o (yielded ops ({ a with defers := [] } : Act).tmps) = b)
theorem put_back {a : Act} (d : Option Tmp) (v : Value) (ds' : List Deferred) : ({ ({ a with defers := ds' }.put d v) with defers := a.defers } : Act) = a.put d v := by
  obtain ⟨t, dd⟩ := a
  cases d <;> rfl
theorem stepsIn_wd {ro : Option Nat} {m m' : Machine} : StepsIn (Machine.fenced P (Wd ro)) P m m' ↔ Steps P m m' := (Iff.rfl : StepsIn (Machine.fenced P (Wd ro)) P m m' ↔ StepsIn (Machine.fenced P Fence.wide) P m m').trans stepsIn_wide
theorem wpIn_of_wp {a : Act} {w : World} {K : Act → World → Prop} (hnd : isDefer o.op = false)
    (h : o.wp P { a with defers := [] } w (fun a' w' => K { a' with defers := a'.defers ++ a.defers } w') (fun _ _ _ => False)) : o.wpIn (Wd ro) 0 P a w K Q := by
  refine ⟨fun _ _ => trivial, ?_⟩
  rw [Oper.semAt_eq _ _ _ (fun c e => by rw [e] at hnd; cases hnd)]
  unfold Oper.wp at h
  have he : (execOp ({ a with defers := [] } : Act).eval o) = execOp a.eval o := by
    have : ({ a with defers := [] } : Act).eval = a.eval := by funext x; cases x <;> rfl
    rw [this]
  rw [he] at h
  have pb : ∀ d v, ({ ({ a with defers := [] }.put d v) with defers := ({ a with defers := [] }.put d v).defers ++ a.defers } : Act) = a.put d v := fun d v => by
    obtain ⟨t, dd⟩ := a
    cases d <;> rfl
  cases hr : (execOp a.eval o).run P w with
  | halt x w' =>
    rw [hr] at h
    cases x <;> exact h.elim
  | ok x w' =>
    rw [hr] at h
    cases x with
    | value v => simp only [Oper.upon, pb] at h; exact h
    | skip => simp only [Oper.upon, pb] at h; exact h
    | defer d =>
      simp only [Oper.upon] at h
      simp only [Oper.uponIn]
      obtain ⟨t, dd⟩ := a
      cases hd : o.dst <;> rw [hd] at h <;> exact h
    | enter f args =>
      refine ⟨fun e => by simp [Wd, Fence.wide] at e, callsIn_wd.2 (Calls.mono h fun e w'' q => ?_)⟩
      cases e with
      | returned v => simp only [pb] at q; exact q
      | panicked c => exact q.elim
      | outgrown => obtain ⟨_, _, q⟩ := q; exact q.elim
    | row r args =>
      simp only [Oper.upon, pb] at h
      exact ⟨fun e => by simp [Wd, Fence.wide] at e, fun c cs _ => let ⟨v, w', r, s⟩ := h c cs; ⟨v, w', r, stepsIn_wd.2 s⟩⟩
    | _ => exact h.elim

theorem LI.nil (h : PI n ds H Q .normal ks) : LI P n ro ds ops H Q [] ks := fun a w ha hw => h a w ha hw
theorem LI.val {v : Value} (hnd : isDefer o.op = false) (hg : gd ops ks o.guard = some true) (hd : dok n o.dst = true) (hv : ∀ a w, Fr n ks a → H w → (execOp a.eval o).run P w = .ok (.value v) w) (h : LI P n ro ds ops H Q rest (push ks o.dst v)) : LI P n ro ds ops H Q (o :: rest) ks :=
  fun a w ha hw => wpListIn_step fun K hK => by
    rw [if_pos (wanted_gdD ha hg)]
    refine wpIn_of_wp hnd ?_
    unfold Oper.wp
    rw [hv _ w ha.fr hw]
    refine hK _ _ ?_
    have := h _ w (ha.put hd v) hw
    obtain ⟨t, dd⟩ := a
    cases hdst : o.dst <;> rw [hdst] at this <;> exact this
theorem LI.pass (hg : gd ops ks o.guard = some false) (hd : dok n o.dst = true) (h : LI P n ro ds ops H Q rest (push ks o.dst undef)) : LI P n ro ds ops H Q (o :: rest) ks :=
  fun a w ha hw => wpListIn_step fun K hK => by
    rw [if_neg (by rw [wanted_gdD ha hg]; exact Bool.false_ne_true)]
    exact ⟨fun _ _ => trivial, hK _ _ (h _ w (ha.put hd _) hw)⟩
theorem LI.eff {B : Base} {sg : Sg} {α : Type} {φ : α → Prop} {v : α → Value} {sg' : α → Sg} (hnd : isDefer o.op = false) (hg : gd ops ks o.guard = some true) (hd : dok n o.dst = true) (he : Eff P n B o ks sg φ v sg')
    (h : ∀ x, φ x → LI P n ro ds ops (Hp B (sg' x)) Q rest (push ks o.dst (v x))) : LI P n ro ds ops (Hp B sg) Q (o :: rest) ks :=
  fun a w ha hw => wpListIn_step fun K hK => by
    rw [if_pos (wanted_gdD ha hg)]
    refine wpIn_of_wp hnd (he _ w _ _ ha.fr hw fun x w' hx hw' => hK _ _ ?_)
    have := h x hx _ w' (ha.put hd (v x)) hw'
    obtain ⟨t, dd⟩ := a
    cases hdst : o.dst <;> rw [hdst] at this <;> exact this
theorem LI.split {l : List Oper} {d : Nat} {t : Bool} (hl : look ks d = some (.bool t)) (h1 : t = true → LI P n ro ds ops H Q l ((d, .bool true) :: ks)) (h2 : t = false → LI P n ro ds ops H Q l ((d, .bool false) :: ks)) : LI P n ro ds ops H Q l ks :=
  fun a w ha hw => by
    have key : FrD n ds ((d, .bool t) :: ks) a := ⟨ha.defers, ha.fr.re hl rfl⟩
    cases t
    · exact h2 rfl a w key hw
    · exact h1 rfl a w key hw
theorem LI.re {l : List Oper} (d : Nat) {v : Value} (v' : Value) (hl : look ks d = some v) (e : v = v') (h : LI P n ro ds ops H Q l ((d, v') :: ks)) : LI P n ro ds ops H Q l ks := fun a w ha hw => h a w ⟨ha.defers, ha.fr.re hl e⟩ hw
section
variable {d : Nat} {op : Op} {ty : TypeId} {pos : String} {aft : Array Edge} {g : Option (Nat × Bool)}
theorem LI.v {B : Base} {sg : Sg} {v : Value} (hg : gd ops ks g = some true) (hd : Nat.blt d n = true) (hv : Val P n B ⟨some d, op, ty, pos, aft, g⟩ ks sg v) (h : LI P n ro ds ops (Hp B sg) Q rest ((d, v) :: ks)) (hnd : isDefer op = false := by rfl) : LI P n ro ds ops (Hp B sg) Q (⟨some d, op, ty, pos, aft, g⟩ :: rest) ks := LI.val hnd hg hd hv h
theorem LI.p (hg : gd ops ks g = some false) (hd : Nat.blt d n = true) (h : LI P n ro ds ops H Q rest ((d, undef) :: ks)) : LI P n ro ds ops H Q (⟨some d, op, ty, pos, aft, g⟩ :: rest) ks := LI.pass hg hd h
theorem LI.e {B : Base} {sg : Sg} {α : Type} {φ : α → Prop} {v : α → Value} {sg' : α → Sg} (hg : gd ops ks g = some true) (hd : Nat.blt d n = true) (he : Eff P n B ⟨some d, op, ty, pos, aft, g⟩ ks sg φ v sg')
    (h : ∀ x, φ x → LI P n ro ds ops (Hp B (sg' x)) Q rest ((d, v x) :: ks)) (hnd : isDefer op = false := by rfl) : LI P n ro ds ops (Hp B sg) Q (⟨some d, op, ty, pos, aft, g⟩ :: rest) ks := LI.eff hnd hg hd he h
theorem LI.eN {B : Base} {sg : Sg} {α : Type} {φ : α → Prop} {v : α → Value} {sg' : α → Sg} (hg : gd ops ks g = some true) (he : Eff P n B ⟨none, op, ty, pos, aft, g⟩ ks sg φ v sg')
    (h : ∀ x, φ x → LI P n ro ds ops (Hp B (sg' x)) Q rest ks) (hnd : isDefer op = false := by rfl) : LI P n ro ds ops (Hp B sg) Q (⟨none, op, ty, pos, aft, g⟩ :: rest) ks := LI.eff hnd hg rfl he h
/-- What is known of the world is these blocks, and whatever else. -/
theorem LI.z {Z : World → Prop} {sg : Sg} {v : Value} (hg : gd ops ks g = some true) (hd : Nat.blt d n = true) (hv : ∀ w, Z w → Sat sg w → Val P n ⟨w, ids sg⟩ ⟨some d, op, ty, pos, aft, g⟩ ks sg v) (h : LI P n ro ds ops (fun w => Z w ∧ Sat sg w) Q rest ((d, v) :: ks)) (hnd : isDefer op = false := by rfl) :
    LI P n ro ds ops (fun w => Z w ∧ Sat sg w) Q (⟨some d, op, ty, pos, aft, g⟩ :: rest) ks := LI.val hnd hg hd (fun a w ha hw => hv w hw.1 hw.2 a w ha (Hp.start hw.2)) h
/-- A call that turns nothing, in such a world. -/
theorem LI.zc {Z : World → Prop} {sg : Sg} {v : Value} {f : FuncId} {xs : List Operand} {vs : List Value} {ats : Array TypeId} (hg : gd ops ks g = some true) (hd : Nat.blt d n = true) (hxs : evs ks xs = some vs) (hc : ∀ (args : Array Value) (w : World), (callFunc f args).run P w = .ok (.enter f args) w)
    (hZ : ∀ w w', Z w → Below w.heap.size w w' → Z w') (hv : ∀ w, Sat sg w → Calls P f vs.toArray w (fun e w' => e = .returned v ∧ Below w.heap.size w w')) (h : LI P n ro ds ops (fun w => Z w ∧ Sat sg w) Q rest ((d, v) :: ks)) :
    LI P n ro ds ops (fun w => Z w ∧ Sat sg w) Q (⟨some d, .call { callee := .value (.func f), args := xs.toArray, argTypes := ats }, ty, pos, aft, g⟩ :: rest) ks :=
  fun a w ha hw => wpListIn_step fun K hK => by
    rw [if_pos (wanted_gdD ha hg)]
    refine wpIn_of_wp rfl ?_
    unfold Oper.wp
    rw [run_call w ha.fr hxs hc]
    refine (hv w hw.2).mono fun e w' ⟨he, hb⟩ => ?_
    subst he
    refine hK _ _ ?_
    have hs : Sat sg w' := ⟨fun p hp => (hb.block p.1 (lt_of_some (hw.2.own p hp))).trans (hw.2.own p hp), hw.2.nd⟩
    have := h _ w' (ha.put (dst := some d) hd v) ⟨hZ w w' hw.1 hb, hs⟩
    obtain ⟨t, dd⟩ := a
    exact this
/-- A yield. -/
theorem LI.y {Hy : Bool → World → Prop} {l : Nat} {t : Nat} {xs : List Operand} {vs : List Value} {ats : Array TypeId} (hg : gd ops ks g = some true) (hd : Nat.blt d n = true) (hx : look ks t = some (.func (.yield l) #[] #[])) (hxs : evs ks xs = some vs)
    (hy : ∀ w, H w → YieldAt (Wd none) 0 P l vs.toArray w fun e w' => ∃ b, e = .returned (.bool b) ∧ Hy b w') (h : ∀ b, LI P n none ds ops (Hy b) Q rest ((d, .bool b) :: ks)) :
    LI P n none ds ops H Q (⟨some d, .call { callee := .value (.tmp t), args := xs.toArray, argTypes := ats }, ty, pos, aft, g⟩ :: rest) ks :=
  fun a w ha hw => wpListIn_step fun K hK => by
    rw [if_pos (wanted_gdD ha hg)]
    refine ⟨fun _ _ => trivial, ?_⟩
    rw [Oper.semAt_eq _ _ _ (fun c e => by cases e)]
    obtain ⟨fn, tmps, assign, body, hr, hR⟩ := hy w hw
    have hm := ha.fr.evs hxs
    have hm' : xs.map a.eval = vs := by
      rw [← hm]
      refine List.map_congr_left fun x _ => ?_
      cases x <;> rfl
    have ht : a.eval (.tmp t) = .func (.yield l) #[] #[] := ha.ev hx
    have hrun : (execOp a.eval ⟨some d, .call { callee := .value (.tmp t), args := xs.toArray, argTypes := ats }, ty, pos, aft, g⟩).run P w = .ok (.round l fn tmps assign body) w := by
      simp only [execOp, resolve, ht, Deferred.ofValue, Sem.run_bind, Sem.run_pure, Result.andThen_ok, invoke, List.map_toArray, hm']
      simpa using hr
    rw [hrun]
    refine ⟨fun e => by simp [Wd, Fence.wide] at e, RoundIn.mono hR fun e w' ⟨b, he, hb⟩ => ?_⟩
    subst he
    exact hK _ _ (h b _ w' (ha.put (dst := some d) hd _) hb)
end
end
end Go.Proofs.YtlpbjmbgopfkhaaGreat.V
