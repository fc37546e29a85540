/- A small calculus of symbolic states, part 33: regions that draw their order, under a round. No program in sight. -/
import Derived.Test.YtlpbjmbgopfkhaaGreatV32
namespace Go.Proofs.YtlpbjmbgopfkhaaGreat.V
open Go Go.RowKit
set_option linter.unusedVariables false
section
variable {P : Program} {n : Nat} {ro : Option Nat} {ds : List Deferred} {B : Base} {sg : Sg} {Q : Exit → Act → World → Prop} {ks : Ks} {ops : Array Oper}
/-- What is to hold behind a region: nothing but its end. -/
def NQ (Q : Act → World → Prop) : Exit → Act → World → Prop
  | .normal, a, w => Q a w
  | _, _, _ => False
def noDef (ops : Array Oper) : Bool := ops.toList.all fun o => !(isDefer o.op)
theorem wp_nq {o : Oper} {a : Act} {w : World} {Q : Act → World → Prop} {K : Act → World → Prop} (h : o.wp P a w K (NQ Q)) : o.wp P a w K (fun _ _ _ => False) := by
  unfold Oper.wp at h ⊢
  cases hr : (execOp a.eval o).run P w with
  | ok x w' =>
    rw [hr] at h
    cases x with
    | enter f args =>
      rw [Oper.upon_enter] at h ⊢
      refine Calls.mono h fun e w'' hq => ?_
      cases e with
      | returned v => exact hq
      | panicked c => exact hq
      | outgrown => obtain ⟨_, _, q⟩ := hq; exact q.elim
    | _ => exact h
  | halt x w' => rw [hr] at h; cases x <;> exact h
theorem wpOpsIn_of {Q0 : Exit → Act → World → Prop} (hnd : noDef ops = true) : ∀ (l : List Nat) (a : Act) (w : World), wpOps P ops (NQ fun a' w' => Q0 .normal { a' with defers := a'.defers ++ ds } w') l a w → wpOpsIn (Wd ro) 0 P ops Q0 l { a with defers := a.defers ++ ds } w
  | [], a, w, h => h
  | i :: rest, a, w, h => by
    unfold wpOps at h
    unfold wpOpsIn
    cases hi : ops[i]? with
    | none => rw [hi] at h; exact wpOpsIn_of hnd rest a w h
    | some o =>
      rw [hi] at h
      simp only at h ⊢
      have ho : isDefer o.op = false := by
        have h1 := List.all_eq_true.1 hnd o (by have := Array.mem_of_getElem? hi; simpa using this)
        simpa using h1
      have e1 : yielded ops ({ a with defers := a.defers ++ ds } : Act).tmps = yielded ops a.tmps := rfl
      rw [e1]
      split
      · rename_i hg
        rw [if_pos hg] at h
        rcases h with h | ⟨_, a2, w2, h2⟩
        · refine ⟨fun _ _ => trivial, ?_⟩
          have h3 := wp_nq h
          rw [Oper.semAt_eq _ _ _ (fun c e => by rw [e] at ho; cases ho)]
          unfold Oper.wp at h3
          have e2 : ({ a with defers := a.defers ++ ds } : Act).eval = a.eval := rfl
          rw [e2]
          have pb : ∀ d v, ({ (a.put d v) with defers := (a.put d v).defers ++ ds } : Act) = ({ a with defers := a.defers ++ ds } : Act).put d v := fun d v => by cases d <;> rfl
          have ih := fun (a : Act) (w : World) => wpOpsIn_of (Q0 := Q0) hnd rest a w
          cases hr : (execOp a.eval o).run P w with
          | halt x w' => rw [hr] at h3; cases x <;> exact h3.elim
          | ok x w' =>
            rw [hr] at h3
            cases x with
            | value v => have := ih _ _ h3; rw [pb] at this; exact this
            | skip => have := ih _ _ h3; rw [pb] at this; exact this
            | defer d =>
              have := ih _ _ h3
              simp only [Oper.uponIn]
              cases hd : o.dst <;> rw [hd] at this <;> exact this
            | enter f args =>
              refine ⟨fun e => by simp [Wd, Fence.wide] at e, callsIn_wd.2 (Calls.mono h3 fun e w'' q => ?_)⟩
              cases e with
              | returned v => have := ih _ _ q; rw [pb] at this; exact this
              | panicked c => exact q.elim
              | outgrown => obtain ⟨_, _, q⟩ := q; exact q.elim
            | row r args => exact ⟨fun e => by simp [Wd, Fence.wide] at e, fun c cs _ => let ⟨v, w', r, s⟩ := h3 c cs; ⟨v, w', by have := ih _ _ r; rw [pb] at this; exact this, stepsIn_wd.2 s⟩⟩
            | _ => exact h3.elim
        · cases h2
      · rename_i hg
        rw [if_neg hg] at h
        refine ⟨fun _ _ => trivial, ?_⟩
        have := wpOpsIn_of (Q0 := Q0) hnd rest _ _ h
        have pb : ({ (a.put o.dst undef) with defers := (a.put o.dst undef).defers ++ ds } : Act) = ({ a with defers := a.defers ++ ds } : Act).put o.dst undef := by cases o.dst <;> rfl
        rw [pb] at this
        exact this
/-- A region that draws its order, under a round: as in plain code. -/
theorem CI.drawn {id : Nat} {l : List Oper} {r : Sg} (S : Sg) (hm : P.follows .mixedOrders = true) (hnd : noDef l.toArray = true) (hp : Pick S sg r)
    (h : RW P n B l.toArray (NQ fun a' w' => Q .normal { a' with defers := a'.defers ++ ds } w') S l.length (Array.replicate l.length false) ks sg) : CI P n ro ds (Hp B sg) Q (.region id l.toArray true) ks := fun a w ha hw => by
  refine wpIn_region_draw fun t => ?_
  simp only [Region.schedule, hm, Bool.true_or, if_true]
  have h1 := h { a with defers := [] } _ ha.fr hw.drew (hw.drew.pick hp)
  have h2 := wpAny_sound l.toArray.size t _ _ _ (wpAny_of_held _ _ _ _ (by simpa using h1))
  have h3 := wpOpsIn_of (ro := ro) (ds := ds) (Q0 := Q) hnd _ _ _ h2
  have e : ({ ({ a with defers := [] } : Act) with defers := ({ a with defers := [] } : Act).defers ++ ds } : Act) = a := by
    have := ha.defers
    subst this
    rfl
  rw [e] at h3
  exact h3
/-- The end of such a region: on under the round. -/
theorem PQ.inRound (h : PI n ds (Hp B sg) Q .normal ks) : PQ n B (NQ fun a' w' => Q .normal { a' with defers := a'.defers ++ ds } w') .normal ks sg := fun a w ha hw => by
  refine h _ w ⟨?_, ?_⟩ hw
  · show a.defers ++ ds = ds
    rw [ha.defers]; rfl
  · have : ({ ({ a with defers := a.defers ++ ds } : Act) with defers := [] } : Act) = a := by
      obtain ⟨t, dd⟩ := a
      have := ha.defers
      simp only at this
      subst this
      rfl
    rw [this]
    exact ha
end
end Go.Proofs.YtlpbjmbgopfkhaaGreat.V
