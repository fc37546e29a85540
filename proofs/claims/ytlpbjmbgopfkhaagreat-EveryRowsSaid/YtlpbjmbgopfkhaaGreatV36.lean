/- A small calculus of symbolic states, part 36: calls behind which the world is another one; drawn regions that yield. No program in sight. -/
import Derived.Test.YtlpbjmbgopfkhaaGreatV35
import Derived.Test.YtlpbjmbgopfkhaaGreatV22
import Derived.OrdersIn
namespace Go.Proofs.YtlpbjmbgopfkhaaGreat.V
open Go Go.RowKit
set_option linter.unusedVariables false
section
variable {P : Program} {n : Nat} {B : Base} {Q : Exit → Act → World → Prop} {ks : Ks} {sg : Sg} {ops : Array Oper} {o : Oper} {rest : List Oper}
/-- A loop, by what the world is like at a round's head. -/
theorem CW.loopZ {γ : Type} {c : Code} (K : γ → Ks) (G : γ → World → Prop) (J : γ → Prop) (μ : γ → Nat) (x0 : γ) (hj : J x0) (hk : subK (K x0) ks) (hg : ∀ w, Hp B sg w → G x0 w)
    (round : ∀ x, J x → ∀ w0, G x w0 → CW P n ⟨w0, []⟩ (Exit.then (fun a w => ∃ x', J x' ∧ μ x' < μ x ∧ Fr n (K x') a ∧ G x' w) Q) c (K x) []) : CW P n B Q (.loop c) ks sg := fun a w ha hw => by
  refine wp_loop_ghost (fun m a w => ∃ x, μ x = m ∧ J x ∧ Fr n (K x) a ∧ G x w) (μ x0) ⟨x0, rfl, hj, ha.sub hk, hg w hw⟩ ?_
  rintro m a w ⟨x, rfl, hJ, ha, hw⟩
  refine Code.wp_mono (fun e a w q => ?_) (round x hJ w hw a w ha (hp_none w))
  cases e with
  | normal => obtain ⟨x', h1, h2, h3, h4⟩ := q; exact ⟨_, h2, x', rfl, h1, h3, h4⟩
  | _ => exact q
theorem PQ.roundZ {γ : Type} {K : γ → Ks} {G : γ → World → Prop} {J : γ → Prop} {μ : γ → Nat} {m : Nat} (x' : γ) (hj : J x') (hm : μ x' < m) (hk : subK (K x') ks) (hg : ∀ w, Hp B sg w → G x' w) :
    PQ n B (Exit.then (fun a w => ∃ x', J x' ∧ μ x' < m ∧ Fr n (K x') a ∧ G x' w) Q) .normal ks sg := fun a w ha hw => ⟨x', hj, hm, ha.sub hk, hg w hw⟩
/-- A call, behind which only Z is known of the world. -/
def CallZ (P : Program) (n : Nat) (o : Oper) (ks : Ks) (H : World → Prop) (v : Value) (Z : World → Prop) : Prop :=
  ∀ a w (K : Act → World → Prop) Q, Fr n ks a → H w → (∀ w', Z w' → K (a.put o.dst v) w') → o.wp P a w K Q
section
variable {d : Option Tmp} {ty : TypeId} {pos : String} {aft : Array Edge} {g : Option (Nat × Bool)}
theorem CallZ.callF {v : Value} {H Z : World → Prop} {f : FuncId} {x : Operand} {caps : List Value} {xs : List Operand} {vs : List Value} {ats : Array TypeId} (hx : ev ks x = some (.func (.func f) #[] caps.toArray)) (hxs : evs ks xs = some vs) (hc : ∀ (args : Array Value) (w : World), (callFunc f args).run P w = .ok (.enter f args) w)
    (h : ∀ w, H w → Calls P f (vs ++ caps).toArray w (fun e w' => e = .returned v ∧ Z w')) : CallZ P n ⟨d, .call { callee := .value x, args := xs.toArray, argTypes := ats }, ty, pos, aft, g⟩ ks H v Z := fun a w K Q ha hw hk => by
  unfold Oper.wp
  rw [run_callF w ha hx hxs hc]
  exact (h w hw).mono fun e w' ⟨he, hw'⟩ => by subst he; exact hk w' hw'
end
theorem LW.callS {v : Value} {Z : World → Prop} (hg : gd ops ks o.guard = some true) (hd : dok n o.dst = true) (hc : CallZ P n o ks (Hp B sg) v Z) (h : ∀ w0, Z w0 → LW P n ⟨w0, []⟩ ops Q rest (push ks o.dst v) []) : LW P n B ops Q (o :: rest) ks sg :=
  fun a w ha hw => wpList_step fun K hK => by
    rw [if_pos (wanted_gd ha hg)]
    exact hc a w K Q ha hw fun w' hz => hK _ _ (h w' hz _ w' (ha.put hd v) (hp_none w'))

/-! ### Drawn regions, with a condition on the world of one's own choice -/
def RZ (P : Program) (n : Nat) (ops : Array Oper) (Q : Exit → Act → World → Prop) (S : World → Prop) (fuel : Nat) (listed : Array Bool) (ks : Ks) (H : World → Prop) : Prop :=
  ∀ a w, Fr n ks a → H w → S w → wpAnyH P .any ops Q S fuel listed a w
variable {S H : World → Prop} {fuel : Nat} {listed : Array Bool}
theorem CW.drawnZ {id : Nat} {l : List Oper} (hm : P.follows .mixedOrders = true) (hS : ∀ w, Hp B sg w → S w) (h : RZ P n l.toArray Q S l.length (Array.replicate l.length false) ks (Hp B sg)) : CW P n B Q (.region id l.toArray true) ks sg :=
  fun a w ha hw => wp_region_held hm (by simpa using h a _ ha hw.drew (hS _ hw.drew))
theorem RZ.v {v : Value} (i : Nat) (hi : ops[i]? = some o) (hs : Region.noSelect ops = true) (hf : Region.free .any ops listed i = true) (hr : (Region.ready .any ops listed).contains i = true)
    (hQ : ∀ c a w, Q (.panic c) (a.put o.dst v) w → Q (.panic c) a w) (hg : gd ops ks o.guard = some true) (hd : dok n o.dst = true) (hv : ∀ w, S w → Val P n ⟨w, []⟩ o ks [] v)
    (h : RZ P n ops Q S fuel (listed.setIfInBounds i true) (push ks o.dst v) H) : RZ P n ops Q S (fuel + 1) listed ks H :=
  fun a w ha hw hS => wpAnyH_take hi hs hf hr hQ (.inl ⟨wanted_gd ha hg, fun w hw => hv w hw a w ha (hp_none w)⟩) hS (h _ w (ha.put hd v) hw hS)
theorem RZ.p (i : Nat) (hi : ops[i]? = some o) (hs : Region.noSelect ops = true) (hf : Region.free .any ops listed i = true) (hr : (Region.ready .any ops listed).contains i = true)
    (hQ : ∀ c a w, Q (.panic c) (a.put o.dst undef) w → Q (.panic c) a w) (hg : gd ops ks o.guard = some false) (hd : dok n o.dst = true)
    (h : RZ P n ops Q S fuel (listed.setIfInBounds i true) (push ks o.dst undef) H) : RZ P n ops Q S (fuel + 1) listed ks H :=
  fun a w ha hw hS => wpAnyH_take hi hs hf hr hQ (.inr ⟨wanted_gd ha hg, rfl⟩) hS (h _ w (ha.put hd _) hw hS)
def ROZ (P : Program) (n : Nat) (ops : Array Oper) (Q : Exit → Act → World → Prop) (S : World → Prop) (fuel : Nat) (listed : Array Bool) (ks : Ks) (H : World → Prop) (i : Nat) : Prop :=
  ∀ a w, Fr n ks a → H w → wpOp P ops Q i (fun a' w' => S w' ∧ wpAnyH P .any ops Q S fuel (listed.setIfInBounds i true) a' w') a w
theorem RZ.any (rs : List Nat) (hr : Region.ready .any ops listed = rs) (hne : rs ≠ []) (h : ∀ i ∈ rs, ROZ P n ops Q S fuel listed ks H i) : RZ P n ops Q S (fuel + 1) listed ks H :=
  fun a w ha hw _ => wpAnyH_all hr hne fun j hj => h j hj a w ha hw
theorem RZ.one (i : Nat) (hr : Region.ready .any ops listed = [i]) (h : ROZ P n ops Q S fuel listed ks H i) : RZ P n ops Q S (fuel + 1) listed ks H :=
  RZ.any [i] hr (by simp) fun j hj => by
    simp only [List.mem_singleton] at hj
    subst hj
    exact h
theorem ROZ.e {α : Type} {φ : α → Prop} {v : α → Value} {sg' : α → Sg} {i : Nat} (hi : ops[i]? = some o)
    (hg : gd ops ks o.guard = some true) (hd : dok n o.dst = true) (he : Eff P n B o ks sg φ v sg') (hS : ∀ x w, φ x → Hp B (sg' x) w → S w)
    (h : ∀ x, φ x → RZ P n ops Q S fuel (listed.setIfInBounds i true) (push ks o.dst (v x)) (Hp B (sg' x))) : ROZ P n ops Q S fuel listed ks (Hp B sg) i :=
  fun a w ha hw => by
    unfold wpOp
    simp only [hi]
    rw [if_pos (wanted_gd ha hg)]
    refine .inl (he a w _ _ ha hw fun x w' hx hw' => ?_)
    exact ⟨hS x w' hx hw', h x hx _ w' (ha.put hd _) hw' (hS x w' hx hw')⟩
theorem ROZ.c {v : Value} {Z : World → Prop} {i : Nat} (hi : ops[i]? = some o) (hg : gd ops ks o.guard = some true) (hd : dok n o.dst = true) (hc : CallZ P n o ks H v Z) (hS : ∀ w, Z w → S w)
    (h : RZ P n ops Q S fuel (listed.setIfInBounds i true) (push ks o.dst v) Z) : ROZ P n ops Q S fuel listed ks H i :=
  fun a w ha hw => by
    unfold wpOp
    simp only [hi]
    rw [if_pos (wanted_gd ha hg)]
    exact .inl (hc a w _ _ ha hw fun w' hz => ⟨hS w' hz, h _ w' (ha.put hd _) hz (hS w' hz)⟩)
theorem RZ.done (hr : Region.ready .any ops listed = []) (h : ∀ a w, Fr n ks a → H w → Q .normal a w) : RZ P n ops Q S fuel listed ks H :=
  fun a w ha hw _ => wpAnyH_done hr (h a w ha hw) fuel
theorem RZ.split {d : Nat} {t : Bool} (hl : look ks d = some (.bool t)) (h1 : t = true → RZ P n ops Q S fuel listed ((d, .bool true) :: ks) H) (h2 : t = false → RZ P n ops Q S fuel listed ((d, .bool false) :: ks) H) : RZ P n ops Q S fuel listed ks H :=
  fun a w ha hw hS => by
    have key : Fr n ((d, .bool t) :: ks) a := ha.re hl rfl
    cases t
    · exact h2 rfl a w key hw hS
    · exact h1 rfl a w key hw hS

theorem RZ.re (d : Nat) {v : Value} (v' : Value) (hl : look ks d = some v) (e : v = v') (h : RZ P n ops Q S fuel listed ((d, v') :: ks) H) : RZ P n ops Q S fuel listed ks H := fun a w ha hw hS => h a w (ha.re hl e) hw hS

/-! ### Drawn regions that yield -/
def RI (P : Program) (n : Nat) (ops : Array Oper) (Q : Exit → Act → World → Prop) (fuel : Nat) (listed : Array Bool) (ks : Ks) (H : World → Prop) : Prop :=
  ∀ a w, FrD n [] ks a → H w → wpAnyIn (Wd none) 0 P .any ops Q fuel listed a w
def RIo (P : Program) (n : Nat) (ops : Array Oper) (Q : Exit → Act → World → Prop) (fuel : Nat) (listed : Array Bool) (ks : Ks) (H : World → Prop) (i : Nat) : Prop :=
  ∀ a w, FrD n [] ks a → H w → wpOpIn (Wd none) 0 P ops Q i (wpAnyIn (Wd none) 0 P .any ops Q fuel (listed.setIfInBounds i true)) a w
theorem CI.drawnI {id : Nat} {l : List Oper} (hm : P.follows .mixedOrders = true) (h : RI P n l.toArray Q l.length (Array.replicate l.length false) ks (Hp B sg)) : CI P n none [] (Hp B sg) Q (.region id l.toArray true) ks :=
  fun a w ha hw => wpIn_region_any hm (by simpa using h a _ ha hw.drew)
theorem RI.any (rs : List Nat) (hr : Region.ready .any ops listed = rs) (hne : rs ≠ []) (h : ∀ i ∈ rs, RIo P n ops Q fuel listed ks H i) : RI P n ops Q (fuel + 1) listed ks H :=
  fun a w ha hw => wpAnyIn_all hr hne fun j hj => h j hj a w ha hw
theorem RI.done (hr : Region.ready .any ops listed = []) (h : PI n [] H Q .normal ks) : RI P n ops Q fuel listed ks H :=
  fun a w ha hw => wpAnyIn_done hr (h a w ha hw) fuel
theorem RIo.e {α : Type} {φ : α → Prop} {v : α → Value} {sg' : α → Sg} {i : Nat} (hi : ops[i]? = some o) (hnd : isDefer o.op = false)
    (hg : gd ops ks o.guard = some true) (hd : dok n o.dst = true) (he : Eff P n B o ks sg φ v sg')
    (h : ∀ x, φ x → RI P n ops Q fuel (listed.setIfInBounds i true) (push ks o.dst (v x)) (Hp B (sg' x))) : RIo P n ops Q fuel listed ks (Hp B sg) i :=
  fun a w ha hw => by
    unfold wpOpIn
    simp only [hi]
    rw [if_pos (wanted_gdD ha hg)]
    refine wpIn_of_wp hnd (he _ w _ _ ha.fr hw fun x w' hx hw' => ?_)
    have := h x hx _ w' (ha.put hd (v x)) hw'
    obtain ⟨t, dd⟩ := a
    cases hdst : o.dst <;> rw [hdst] at this <;> exact this
theorem RIo.v {v : Value} {i : Nat} (hi : ops[i]? = some o) (hnd : isDefer o.op = false) (hg : gd ops ks o.guard = some true) (hd : dok n o.dst = true) (hv : Val P n B o ks sg v)
    (h : RI P n ops Q fuel (listed.setIfInBounds i true) (push ks o.dst v) (Hp B sg)) : RIo P n ops Q fuel listed ks (Hp B sg) i :=
  RIo.e hi hnd hg hd (α := Unit) (φ := fun _ => True) (v := fun _ => v) (sg' := fun _ => sg) (Eff.ofVal hv) fun _ _ => h
/-- A value, whatever the world. -/
theorem RIo.u {v : Value} {i : Nat} (hi : ops[i]? = some o) (hnd : isDefer o.op = false) (hg : gd ops ks o.guard = some true) (hd : dok n o.dst = true) (hv : ∀ w, Val P n ⟨w, []⟩ o ks [] v)
    (h : RI P n ops Q fuel (listed.setIfInBounds i true) (push ks o.dst v) H) : RIo P n ops Q fuel listed ks H i :=
  fun a w ha hw => by
    unfold wpOpIn
    simp only [hi]
    rw [if_pos (wanted_gdD ha hg)]
    refine wpIn_of_wp hnd ?_
    unfold Oper.wp
    rw [hv w _ w ha.fr (hp_none w)]
    simp only [Oper.upon]
    have := h _ w (ha.put hd v) hw
    obtain ⟨t, dd⟩ := a
    cases hdst : o.dst <;> rw [hdst] at this <;> exact this
theorem RIo.y {d : Nat} {ty : TypeId} {pos : String} {aft : Array Edge} {g : Option (Nat × Bool)} {Hy : Bool → World → Prop} {l : Nat} {t : Nat} {xs : List Operand} {vs : List Value} {ats : Array TypeId} {i : Nat}
    (hi : ops[i]? = some ⟨some d, .call { callee := .value (.tmp t), args := xs.toArray, argTypes := ats }, ty, pos, aft, g⟩) (hg : gd ops ks g = some true) (hd : Nat.blt d n = true) (hx : look ks t = some (.func (.yield l) #[] #[])) (hxs : evs ks xs = some vs)
    (hy : ∀ w, H w → YieldAt (Wd none) 0 P l vs.toArray w fun e w' => ∃ b, e = .returned (.bool b) ∧ Hy b w') (h : ∀ b, RI P n ops Q fuel (listed.setIfInBounds i true) ((d, .bool b) :: ks) (Hy b)) : RIo P n ops Q fuel listed ks H i :=
  fun a w ha hw => by
    unfold wpOpIn
    simp only [hi]
    rw [if_pos (wanted_gdD ha hg)]
    refine ⟨fun _ _ => trivial, ?_⟩
    rw [Oper.semAt_eq _ _ _ (fun c e => by cases e)]
    obtain ⟨fn, tmps, assign, body, hr, hR⟩ := hy w hw
    have hm := ha.fr.evs hxs
    have hm' : xs.map a.eval = vs := by
      rw [← hm]
      refine List.map_congr_left fun x _ => ?_
      cases x <;> rfl
    have ht : a.eval (.tmp t) = .func (.yield l) #[] #[] := ha.ev hx
    have hrun : (execOp a.eval ⟨some d, .call { callee := .value (.tmp t), args := xs.toArray, argTypes := ats }, ty, pos, aft, g⟩).run P w = .ok (.round l fn tmps assign body) w := by
      simp only [execOp, resolve, ht, Deferred.ofValue, Sem.run_bind, Sem.run_pure, Result.andThen_ok, invoke, List.map_toArray, hm']
      simpa using hr
    rw [hrun]
    refine ⟨fun e => by simp [Wd, Fence.wide] at e, RoundIn.mono hR fun e w' ⟨b, he, hb⟩ => ?_⟩
    subst he
    exact h b _ w' (ha.put (dst := some d) hd _) hb
theorem PI.mono {H H' : World → Prop} {ds : List Deferred} {e : Exit} (h : ∀ w, H w → H' w) (k : PI n ds H' Q e ks) : PI n ds H Q e ks := fun a w ha hw => k a w ha (h w hw)
theorem CI.mono {H H' : World → Prop} {ro : Option Nat} {ds : List Deferred} {c : Code} (h : ∀ w, H w → H' w) (k : CI P n ro ds H' Q c ks) : CI P n ro ds H Q c ks := fun a w ha hw => k a w ha (h w hw)
theorem PI.ret1 {H : World → Prop} {fn : Func} {R : Ending → World → Prop} {t : Nat} {v : Value} (hr : fn.results = #[.tmp t]) (hv : look ks t = some v) (h : ∀ w, H w → R (.returned v) w) : PI n [] H (bodyPost P fn R) .ret ks :=
  fun a w ha hw => bodyPost_ret (by rw [results_tmp hr, getD_of (ha.fr.at_ _ _ hv)]) ha.defers (h w hw)
end
end Go.Proofs.YtlpbjmbgopfkhaaGreat.V
