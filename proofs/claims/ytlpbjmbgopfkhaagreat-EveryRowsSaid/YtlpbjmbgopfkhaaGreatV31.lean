/- A small calculus of symbolic states, part 31: deferred calls. No program in sight. -/
import Derived.Test.YtlpbjmbgopfkhaaGreatV30
import Derived.Defers
namespace Go.Proofs.YtlpbjmbgopfkhaaGreat.V
open Go Go.RowKit
set_option linter.unusedVariables false
/-- An activation with more calls deferred, ahead of its own. -/
def sh (ds : List Deferred) (a : Act) : Act := { a with defers := a.defers ++ ds }
/-- What is to hold where more calls are deferred. -/
def SQ (ds : List Deferred) (Q : Exit → Act → World → Prop) : Exit → Act → World → Prop := fun e a w => Q e (sh ds a) w
section
variable {P : Program} {n : Nat} {B : Base} {Q : Exit → Act → World → Prop} {ks : Ks} {sg : Sg} {ops : Array Oper} {ds : List Deferred}
theorem sh_put (a : Act) (d : Option Tmp) (v : Value) : sh ds (a.put d v) = (sh ds a).put d v := by cases d <;> rfl
theorem sh_sh (es : List Deferred) (a : Act) : sh ds (sh es a) = sh (es ++ ds) a := by simp only [sh, List.append_assoc]
theorem wp_sh {o : Oper} {a : Act} {w : World} {next next' : Act → World → Prop} (hn : ∀ a w, next' a w → next (sh ds a) w) (h : o.wp P a w next' (SQ ds Q)) : o.wp P (sh ds a) w next Q := by
  unfold Oper.wp at h ⊢
  have e1 : (sh ds a).eval = a.eval := rfl
  rw [e1]
  cases hr : (execOp a.eval o).run P w with
  | ok x w' =>
    rw [hr] at h
    cases x with
    | value v => rw [Oper.upon_value] at h ⊢; rw [← sh_put]; exact hn _ _ h
    | skip => rw [Oper.upon_skip] at h ⊢; rw [← sh_put]; exact hn _ _ h
    | defer d => rw [Oper.upon_defer] at h ⊢; have := hn _ _ h; rw [sh_put] at this; exact this
    | enter f args =>
      rw [Oper.upon_enter] at h ⊢
      refine Calls.mono h fun e w'' hq => ?_
      cases e with
      | returned v => have := hn _ _ hq; rw [sh_put] at this; exact this
      | panicked chain => exact hq
      | outgrown => obtain ⟨a2, w2, h2⟩ := hq; exact ⟨sh ds a2, w2, h2⟩
    | row r args =>
      rw [Oper.upon_row] at h ⊢
      refine Rows.mono h fun v w'' hq => ?_
      have := hn _ _ hq
      rw [sh_put] at this
      exact this
    | _ => exact h.elim
  | halt x w' =>
    rw [hr] at h
    cases x <;> first | exact h.elim | exact h
theorem wpList_sh : ∀ {l : List Oper} {a : Act} {w : World}, wpList P ops (SQ ds Q) l a w → wpList P ops Q l (sh ds a) w
  | [], a, w, h => h
  | o :: rest, a, w, h => by
    unfold wpList at h ⊢
    have e1 : yielded ops (sh ds a).tmps = yielded ops a.tmps := rfl
    rw [e1]
    split
    · rename_i hg
      rw [if_pos hg] at h
      rcases h with h | ⟨h1, a2, w2, h2⟩
      · exact .inl (wp_sh (fun a w h => wpList_sh h) h)
      · exact .inr ⟨h1, sh ds a2, w2, h2⟩
    · rename_i hg
      rw [if_neg hg] at h
      rw [← sh_put]
      exact wpList_sh h
/-- Code, where calls are deferred. -/
def CD (P : Program) (n : Nat) (B : Base) (ds : List Deferred) (Q : Exit → Act → World → Prop) (c : Code) (ks : Ks) (sg : Sg) : Prop := ∀ a w, Fr n ks a → Hp B sg w → c.wp P Q (sh ds a) w
theorem CD.region {id : Nat} {l : List Oper} (h : LW P n B l.toArray (SQ ds Q) l ks sg) : CD P n B ds Q (.region id l.toArray false) ks sg := fun a w ha hw => wp_region_lit (wpList_sh (h a w ha hw))
theorem CD.seq {x y : Code} (h : CD P n B ds (Exit.then (y.wp P Q) Q) x ks sg) : CD P n B ds Q (.seq x y) ks sg := fun a w ha hw => wp_seq (h a w ha hw)
theorem CD.skip (h : PQ n B (SQ ds Q) .normal ks sg) : CD P n B ds Q .skip ks sg := fun a w ha hw => wp_skip (h a w ha hw)
theorem CD.cond_t {c : Operand} {x y : Code} (hc : ev ks c = some (.bool true)) (h : CD P n B ds Q x ks sg) : CD P n B ds Q (.cond c x y) ks sg :=
  fun a w ha hw => wp_cond_split (t := true) (ha.ev hc) (fun _ => h a w ha hw) (fun e => by cases e)
theorem PQ.seqD {y : Code} (h : CD P n B ds Q y ks sg) : PQ n B (SQ ds (Exit.then (y.wp P Q) Q)) .normal ks sg := fun a w ha hw => h a w ha hw
/-- A call is deferred, where none was; where some were. -/
theorem LW.dfr {f : FuncId} {xs : List Operand} {vs : List Value} {ats : Array TypeId} {ty : TypeId} {pos : String} {aft : Array Edge} {g : Option (Nat × Bool)} {y : Code} (hg : gd ops ks g = some true) (hxs : evs ks xs = some vs)
    (h : CD P n B [⟨.fn (.func f) #[], vs.toArray⟩] Q y ks sg) : LW P n B ops (Exit.then (y.wp P Q) Q) [⟨none, .defer { callee := .value (.func f), args := xs.toArray, argTypes := ats }, ty, pos, aft, g⟩] ks sg := fun a w ha hw =>
  wpList_step fun K hK => by
    rw [if_pos (wanted_gd (o := ⟨none, .defer { callee := .value (.func f), args := xs.toArray, argTypes := ats }, ty, pos, aft, g⟩) ha hg)]
    unfold Oper.wp
    have hm := ha.evs hxs
    have hr : (execOp a.eval ⟨none, .defer { callee := .value (.func f), args := xs.toArray, argTypes := ats }, ty, pos, aft, g⟩).run P w = .ok (.defer ⟨.fn (.func f) #[], vs.toArray⟩) w := by
      simp only [execOp, resolve, Act.eval, Deferred.ofValue, Sem.run_bind, Sem.run_pure, Result.andThen_ok, List.map_toArray, hm, Array.empty_append]
    rw [hr, Oper.upon_defer]
    refine hK _ _ ?_
    have h2 := h a w ha hw
    rw [ha.defers]
    unfold sh at h2
    rw [ha.defers] at h2
    exact h2
theorem LW.dfr2 {f : FuncId} {xs : List Operand} {vs : List Value} {ats : Array TypeId} {ty : TypeId} {pos : String} {aft : Array Edge} {g : Option (Nat × Bool)} {y : Code} (hg : gd ops ks g = some true) (hxs : evs ks xs = some vs)
    (h : CD P n B (⟨.fn (.func f) #[], vs.toArray⟩ :: ds) Q y ks sg) : LW P n B ops (SQ ds (Exit.then (y.wp P Q) Q)) [⟨none, .defer { callee := .value (.func f), args := xs.toArray, argTypes := ats }, ty, pos, aft, g⟩] ks sg := fun a w ha hw =>
  wpList_step fun K hK => by
    rw [if_pos (wanted_gd (o := ⟨none, .defer { callee := .value (.func f), args := xs.toArray, argTypes := ats }, ty, pos, aft, g⟩) ha hg)]
    unfold Oper.wp
    have hm := ha.evs hxs
    have hr : (execOp a.eval ⟨none, .defer { callee := .value (.func f), args := xs.toArray, argTypes := ats }, ty, pos, aft, g⟩).run P w = .ok (.defer ⟨.fn (.func f) #[], vs.toArray⟩) w := by
      simp only [execOp, resolve, Act.eval, Deferred.ofValue, Sem.run_bind, Sem.run_pure, Result.andThen_ok, List.map_toArray, hm, Array.empty_append]
    rw [hr, Oper.upon_defer]
    refine hK _ _ ?_
    have h2 := h a w ha hw
    rw [ha.defers]
    unfold sh at h2
    rw [ha.defers] at h2
    exact h2
/-- The end: the deferred calls are to be done. -/
theorem PQ.endD {fn : Func} {R : Ending → World → Prop} (h : ∀ a w, Fr n ks a → Hp B sg w → Leaves P fn a.tmps R ds .returning w) : PQ n B (SQ ds (bodyPostD P fn R)) .normal ks sg := fun a w ha hw => by
  show Leaves P fn a.tmps R (a.defers ++ ds) .returning w
  rw [ha.defers]
  exact h a w ha hw
theorem Leaves.call {fn : Func} {tmps : Array Value} {R : Ending → World → Prop} {f : FuncId} {vs : List Value} {w : World} {α : Type} {φ : α → Prop} {v : α → Value} {ss r : Sg} {so : α → Sg} (hw : Hp B sg w) (hp : Pick ss sg r)
    (hc : ∀ (args : Array Value) (w : World), (callFunc f args).run P w = .ok (.enter f args) w)
    (h : Sat ss w → CallsD P f vs.toArray .returning w fun e u w' => u = .returning ∧ ∃ x, φ x ∧ e = .returned (v x) ∧ Hp ⟨w, ids ss⟩ (so x) w')
    (k : ∀ x w', φ x → Hp B (so x ++ r) w' → Leaves P fn tmps R ds .returning w') : Leaves P fn tmps R (⟨.fn (.func f) #[], vs.toArray⟩ :: ds) .returning w := by
  refine leaves_cons (f := f) (args := vs.toArray) (by simp) (by simp [invoke, hc]) ?_
  refine CallsD.mono (h (hw.sat.pick hp)) ?_
  rintro e u w' ⟨rfl, x, hx, rfl, hw'⟩
  exact k x w' hx (hw.call hp hw')
theorem Leaves.nil0 {fn : Func} {tmps : Array Value} {R : Ending → World → Prop} {w : World} (hr : fn.results = #[]) (h : R (.returned (.tuple #[])) w) : Leaves P fn tmps R [] .returning w := ⟨.tuple #[], results_none hr _ _ _, h⟩
/-- A call that is entered as a deferred one, by its body. -/
theorem callsD {f : FuncId} {fn : Func} {c : Code} {l : List Value} {u : FrameMode} {w : World} {R : Ending → World → Prop} {m : Nat} (sg0 : Sg)
    (hf : P.funcs[f]? = some fn) (hb : fn.body = some c) (hn : fn.ntmps = m) (hl : l.length ≤ m) (hs : Sat sg0 w)
    (h : CW P m ⟨w, ids sg0⟩ (bodyPost P fn R) c (initK 0 l) sg0) : CallsD P f l.toArray u w fun e u' w' => u' = u ∧ R e w' := by
  refine callsD_of_wp hf hb (h _ w ⟨rfl, ?_, fun i v hi => ?_⟩ (Hp.start hs))
  · simp [hn]; omega
  · obtain ⟨k, rfl, hv⟩ := look_initK l 0 i v hi
    have hk : k < l.length := (List.getElem?_eq_some_iff.1 hv).1
    simp only [Nat.zero_add]
    rw [Array.getElem?_append_left (by simpa using hk)]
    simpa using hv
/-- A call whose body defers calls. -/
theorem callsDf {f : FuncId} {fn : Func} {c : Code} {l : List Value} {w : World} {R : Ending → World → Prop} {m : Nat} (sg0 : Sg)
    (hf : P.funcs[f]? = some fn) (hb : fn.body = some c) (hn : fn.ntmps = m) (hl : l.length ≤ m) (hs : Sat sg0 w)
    (h : CW P m ⟨w, ids sg0⟩ (bodyPostD P fn R) c (initK 0 l) sg0) : Calls P f l.toArray w R := by
  refine calls_of_wp_defers hf hb (h _ w ⟨rfl, ?_, fun i v hi => ?_⟩ (Hp.start hs))
  · simp [hn]; omega
  · obtain ⟨k, rfl, hv⟩ := look_initK l 0 i v hi
    have hk : k < l.length := (List.getElem?_eq_some_iff.1 hv).1
    simp only [Nat.zero_add]
    rw [Array.getElem?_append_left (by simpa using hk)]
    simpa using hv
variable {d : Option Tmp} {ty : TypeId} {pos : String} {aft : Array Edge} {g : Option (Nat × Bool)}
/-- A pointer to a cell, turned into one without a type. -/
theorem Val.toUns {src dst t : TypeId} {x : Operand} {b o : Nat} {v : Value} (hx : ev ks x = some (.pointer (some ⟨b, o, none⟩))) (hs : P.underlying src = some (.pointer t)) (hd : P.underlying dst = some .unsafePointer) (hsz : (P.info? t).map (fun i => decide (i.size = 0)) = some false)
    (hc : ∀ w, Hp B sg w → w.cell? ⟨b, o, none⟩ = some v) : Val P n B ⟨d, .convert src dst x, ty, pos, aft, g⟩ ks sg (.pointer (some ⟨b, o, none⟩)) := fun a w ha hw => by
  show (do pure (Next.value (← convert src dst (a.eval x))) : Sem Next).run P w = _
  rw [ha.ev hx]
  exact run_value (run_convert_to_unsafe hs hd hsz (hc w hw))
end
end Go.Proofs.YtlpbjmbgopfkhaaGreat.V
