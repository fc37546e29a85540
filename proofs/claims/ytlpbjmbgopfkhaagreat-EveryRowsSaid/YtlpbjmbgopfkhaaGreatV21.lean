/- A small calculus of symbolic states, part 21: calls of function values; elements of one's own read and stored anew. No program in sight. -/
import Derived.Test.YtlpbjmbgopfkhaaGreatV20
namespace Go.Proofs.YtlpbjmbgopfkhaaGreat.V
open Go Go.RowKit
set_option linter.unusedVariables false
theorem splice_mid : ∀ (cs p l r : List Value), l.length = cs.length → V.splice (p ++ (l ++ r)) p.length cs = p ++ (cs ++ r)
  | [], p, l, r, h => by
    have : l = [] := List.length_eq_zero_iff.1 (by simpa using h)
    subst this; simp [V.splice]
  | c :: cs, p, l, r, h => by
    cases l with
    | nil => simp at h
    | cons x l =>
      simp only [V.splice, List.cons_append, List.set_append_right _ _ (Nat.le_refl _), Nat.sub_self, List.set_cons_zero]
      have := splice_mid cs (p ++ [c]) l r (by simpa using h)
      simpa using this
theorem splice_flat {α : Type} {enc : α → List Value} {k : Nat} (hk : ∀ x, (enc x).length = k) (l : List α) (i : Nat) (x : α) (rest : List Value) (hi : i < l.length) :
    splice (l.flatMap enc ++ rest) (i * k) (enc x) = (l.set i x).flatMap enc ++ rest := by
  obtain ⟨p, y, q, rfl, hp⟩ : ∃ p y q, l = p ++ y :: q ∧ p.length = i := ⟨l.take i, l[i], l.drop (i + 1), by rw [← List.drop_eq_getElem_cons hi, List.take_append_drop], by simp; omega⟩
  subst hp
  have h1 : (p.flatMap enc).length = p.length * k := flatMap_len hk p
  have h2 := splice_mid (enc x) (p.flatMap enc) (enc y) (q.flatMap enc ++ rest) (by rw [hk, hk])
  rw [h1] at h2
  simp only [List.flatMap_append, List.flatMap_cons, List.append_assoc, List.set_append_right _ _ (Nat.le_refl _), Nat.sub_self, List.set_cons_zero]
  exact h2
section
variable {P : Program} {n : Nat} {B : Base} {ks : Ks} {sg : Sg} {d : Option Tmp} {ty : TypeId} {pos : String} {aft : Array Edge} {g : Option (Nat × Bool)}
theorem run_callF {f : FuncId} {x : Operand} {caps : List Value} {xs : List Operand} {vs : List Value} {ats : Array TypeId} {a : Act} (w : World) (ha : Fr n ks a) (hx : ev ks x = some (.func (.func f) #[] caps.toArray)) (hxs : evs ks xs = some vs) (hc : ∀ (args : Array Value) (w : World), (callFunc f args).run P w = .ok (.enter f args) w) :
    (execOp a.eval ⟨d, .call { callee := .value x, args := xs.toArray, argTypes := ats }, ty, pos, aft, g⟩).run P w = .ok (.enter f (vs ++ caps).toArray) w := by
  have hm := ha.evs hxs
  have h0 := ha.ev hx
  simp only [execOp, resolve, h0, Deferred.ofValue, Sem.run_bind, Sem.run_pure, Result.andThen_ok, invoke, List.map_toArray, hm]
  simp [hc]
theorem Eff.callF {α : Type} {φ : α → Prop} {v : α → Value} {sg' : α → Sg} {f : FuncId} {x : Operand} {caps : List Value} {xs : List Operand} {vs : List Value} {ats : Array TypeId} (hx : ev ks x = some (.func (.func f) #[] caps.toArray)) (hxs : evs ks xs = some vs) (hc : ∀ (args : Array Value) (w : World), (callFunc f args).run P w = .ok (.enter f args) w)
    (h : ∀ w, Hp B sg w → Calls P f (vs ++ caps).toArray w (fun e w' => ∃ x, φ x ∧ e = .returned (v x) ∧ Hp B (sg' x) w')) :
    Eff P n B ⟨d, .call { callee := .value x, args := xs.toArray, argTypes := ats }, ty, pos, aft, g⟩ ks sg φ v sg' := fun a w K Q ha hw hk => by
  unfold Oper.wp
  rw [run_callF w ha hx hxs hc]
  exact (h w hw).mono fun e w' ⟨x, hx, he, hw'⟩ => by subst he; exact hk x w' hx hw'
theorem Eff.callFR {α : Type} {φ : α → Prop} {v : α → Value} {f : FuncId} {x : Operand} {caps : List Value} {xs : List Operand} {vs : List Value} {ats : Array TypeId} (hx : ev ks x = some (.func (.func f) #[] caps.toArray)) (hxs : evs ks xs = some vs) (hc : ∀ (args : Array Value) (w : World), (callFunc f args).run P w = .ok (.enter f args) w)
    (h : ∀ w, Hp B sg w → Calls P f (vs ++ caps).toArray w (fun e w' => ∃ x, φ x ∧ e = .returned (v x) ∧ Below w.heap.size w w')) :
    Eff P n B ⟨d, .call { callee := .value x, args := xs.toArray, argTypes := ats }, ty, pos, aft, g⟩ ks sg φ v (fun _ => sg) :=
  Eff.callF hx hxs hc fun w hw => (h w hw).mono fun e w' ⟨x, hx, he, hb⟩ => ⟨x, hx, he, hw.call_ro hb⟩
theorem Eff.callFV {v : Value} {f : FuncId} {x : Operand} {caps : List Value} {xs : List Operand} {vs : List Value} {ats : Array TypeId} (hx : ev ks x = some (.func (.func f) #[] caps.toArray)) (hxs : evs ks xs = some vs) (hc : ∀ (args : Array Value) (w : World), (callFunc f args).run P w = .ok (.enter f args) w)
    (h : ∀ w, Hp B sg w → Calls P f (vs ++ caps).toArray w (fun e w' => e = .returned v ∧ Below w.heap.size w w')) :
    Eff P n B ⟨d, .call { callee := .value x, args := xs.toArray, argTypes := ats }, ty, pos, aft, g⟩ ks sg (α := Unit) (fun _ => True) (fun _ => v) (fun _ => sg) :=
  Eff.callF hx hxs hc fun w hw => (h w hw).mono fun e w' ⟨he, hb⟩ => ⟨(), trivial, he, hw.call_ro hb⟩
theorem Eff.callFM {α : Type} {φ : α → Prop} {v : α → Value} {so : α → Sg} {f : FuncId} {x : Operand} {caps : List Value} {xs : List Operand} {vs : List Value} {ats : Array TypeId} (ss : Sg) {r : Sg} (hp : Pick ss sg r) (hx : ev ks x = some (.func (.func f) #[] caps.toArray)) (hxs : evs ks xs = some vs) (hc : ∀ (args : Array Value) (w : World), (callFunc f args).run P w = .ok (.enter f args) w)
    (h : ∀ w, Hp B sg w → Sat ss w → Calls P f (vs ++ caps).toArray w (fun e w' => ∃ x, φ x ∧ e = .returned (v x) ∧ Hp ⟨w, ids ss⟩ (so x) w')) :
    Eff P n B ⟨d, .call { callee := .value x, args := xs.toArray, argTypes := ats }, ty, pos, aft, g⟩ ks sg φ v (fun x => so x ++ r) :=
  Eff.callF hx hxs hc fun w hw => (h w hw (hw.sat.pick hp)).mono fun e w' ⟨x, hx, he, hb⟩ => ⟨x, hx, he, hw.call hp hb⟩
theorem Qcall.ofF {v : Value} {f : FuncId} {x : Operand} {caps : List Value} {xs : List Operand} {vs : List Value} {ats : Array TypeId} (hx : ev ks x = some (.func (.func f) #[] caps.toArray)) (hxs : evs ks xs = some vs) (hc : ∀ (args : Array Value) (w : World), (callFunc f args).run P w = .ok (.enter f args) w)
    (h : ∀ w, Hp B sg w → Calls P f (vs ++ caps).toArray w (fun e w' => e = .returned v ∧ Below w.heap.size w w')) :
    Qcall P n B ⟨d, .call { callee := .value x, args := xs.toArray, argTypes := ats }, ty, pos, aft, g⟩ ks sg v := fun a w ha hw => ⟨f, (vs ++ caps).toArray, run_callF w ha hx hxs hc, h w hw⟩
/-- An element of one's own. -/
theorem Val.loadFl {α : Type} {enc : α → List Value} {sz : Nat} {t T : TypeId} {x : Operand} {b i : Nat} {fr : Nat × Nat} {l : List α} {rest : List Value} {y : α} (hx : ev ks x = some (.pointer (some ⟨b, 0 + i * sz, none⟩))) (hg : ∀ w, (isAgg t).run P w = .ok true w) (hm : InS (b, .cells (l.flatMap enc ++ rest).toArray T fr) sg)
    (hk : ∀ x, (enc x).length = sz) (hy : l[i]? = some y) (hs : ∀ w, (sizeOf t).run P w = .ok sz w) : Val P n B ⟨d, .load t x, ty, pos, aft, g⟩ ks sg (.agg (enc y).toArray) := by
  obtain ⟨r, hr⟩ := drop_flatMap hk l i y hy
  refine Val.loadA (enc y) (r := r ++ rest) hx hg hm ?_ (by rw [hk]; exact hs)
  have hi : i < l.length := (List.getElem?_eq_some_iff.1 hy).1
  have : i * sz ≤ (l.flatMap enc).length := by rw [flatMap_len hk]; exact Nat.mul_le_mul_right _ (by omega)
  rw [Nat.zero_add, List.drop_append_of_le_length this, hr, List.append_assoc]
theorem Eff.storeFl {α : Type} {enc : α → List Value} {sz : Nat} {t T : TypeId} {x z : Operand} {b i : Nat} {l : List α} {rest : List Value} {y : α} {sg' : Sg} (hx : ev ks x = some (.pointer (some ⟨b, 0 + i * sz, none⟩))) (hz : ev ks z = some (.agg (enc y).toArray))
    (hu : Upd b (.cells (l.flatMap enc ++ rest).toArray T (0, 0)) (.cells ((l.set i y).flatMap enc ++ rest).toArray T (0, 0)) sg sg') (hk : ∀ x, (enc x).length = sz) (hi : i < l.length) (hs : ∀ w, (sizeOf t).run P w = .ok sz w) (h1 : ∀ x, (enc x).all (·.oneCell') = true) :
    Eff P n B ⟨d, .store t x z, ty, pos, aft, g⟩ ks sg (α := Unit) (fun _ => True) (fun _ => undef) (fun _ => sg') := by
  have hle : i * sz + sz ≤ l.length * sz := by
    have := Nat.mul_le_mul_right sz (show i + 1 ≤ l.length by omega)
    rwa [Nat.add_mul, Nat.one_mul] at this
  refine Eff.storeA hx hz hu ?_ ?_ (by rw [hk]; exact hs) (h1 y)
  · rw [Nat.zero_add]; exact splice_flat hk l i y rest hi
  · rw [hk, Nat.zero_add, List.length_append, flatMap_len hk]; omega
end
end Go.Proofs.YtlpbjmbgopfkhaaGreat.V
