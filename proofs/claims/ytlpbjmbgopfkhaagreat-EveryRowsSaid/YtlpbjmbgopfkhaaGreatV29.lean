/- A small calculus of symbolic states, part 29: arrays of bytes: slices of them, compared, out of slices. No program in sight. -/
import Derived.Test.YtlpbjmbgopfkhaaGreatV28
import Derived.Stop.BytesEq
namespace Go.Proofs.YtlpbjmbgopfkhaaGreat.V
open Go Go.RowKit
set_option linter.unusedVariables false
section
variable {P : Program} {n : Nat} {B : Base} {ks : Ks} {sg : Sg} {d : Option Tmp} {ty : TypeId} {pos : String} {aft : Array Edge} {g : Option (Nat × Bool)}
/-- A slice of an array in memory. -/
theorem Val.sliceArr {t e sz b off m : Nat} {x : Operand} {lo hi : Option Operand} (L Hh : Nat) (hx : ev ks x = some (.pointer (some ⟨b, off, none⟩))) (hu : P.underlying t = some (.array m e)) (hs : ∀ w, (sizeOf e).run P w = .ok sz w)
    (hlo : optI ks lo L 0) (hhi : optI ks hi Hh m) (h1 : L ≤ Hh) (h2 : Hh ≤ m) :
    Val P n B ⟨d, .slice t x lo hi none, ty, pos, aft, g⟩ ks sg (.slice (some ⟨b, if m = L then off else off + L * sz, none⟩) (Hh - L) (m - L)) := fun a w ha hw => by
  show (do pure (Next.value (← Instr.sliceAt t (a.eval x) (lo.map a.eval) (hi.map a.eval) none)) : Sem Next).run P w = _
  rw [ha.ev hx]
  refine run_value ?_
  have hl : (match lo.map a.eval with | some v => Instr.sliceBound v Hh .sliceB | none => pure 0 : Sem Nat).run P w = .ok L w := by
    cases lo with
    | none => obtain rfl : L = 0 := hlo; rfl
    | some y => obtain ⟨k, hk⟩ := hlo; simp only [Option.map_some, ha.ev hk]; exact run_sliceBound h1 _ w
  have hh : (match hi.map a.eval with | some v => Instr.sliceBound v m .sliceAlen | none => pure m : Sem Nat).run P w = .ok Hh w := by
    cases hi with
    | none => obtain rfl : Hh = m := hhi; rfl
    | some y => obtain ⟨k, hk⟩ := hhi; simp only [Option.map_some, ha.ev hk]; exact run_sliceBound h2 _ w
  have hb : (Instr.sliceBounds false m m (lo.map a.eval) (hi.map a.eval) none).run P w = .ok (L, Hh, m) w := by
    cases hlo' : lo.map a.eval <;> cases hhi' : hi.map a.eval <;> simp only [hlo', hhi'] at hl hh <;>
      simp_all [Instr.sliceBounds, Sem.run_bind, Result.andThen_ok]
  simp only [Instr.sliceAt, Sem.run_bind, run_underlying hu, Result.andThen_ok, Instr.sureAddr, Sem.run_pure, hb, hs]
  split
  · rfl
  · rw [Addr.add_mid]
/-- A slice's first elements as an array's place. -/
theorem Val.arrPtr {t e b o k m c : Nat} {x : Operand} (hx : ev ks x = some (.slice (some ⟨b, o, none⟩) m c)) (hu : P.underlying t = some (.array k e)) (h : k ≤ m) :
    Val P n B ⟨d, .sliceToArrayPointer t x, ty, pos, aft, g⟩ ks sg (.pointer (some ⟨b, o, none⟩)) := fun a w ha hw => by
  show (do pure (Next.value (← Instr.arrayAt t (a.eval x))) : Sem Next).run P w = _
  rw [ha.ev hx]
  refine run_value ?_
  simp only [Instr.arrayAt, Sem.run_bind, run_underlying hu, Result.andThen_ok, if_neg (Nat.not_lt.2 h), Sem.run_pure]
theorem Val.eqBy {t t' e m : TypeId} {x y : Operand} {a b : List UInt8} (hx : ev ks x = some (.agg (byC a).toArray)) (hy : ev ks y = some (.agg (byC b).toArray)) (hm : P.eqGuardType P.depth t = false) (hu : P.underlying t = some (.array m e)) (he : P.underlying e = some (.int .u8)) (hs : ∀ w, (sizeOf e).run P w = .ok 1 w) (ha : a.length = m) (hb : b.length = m) :
    Val P n B ⟨d, .binOp .eql t x y t', ty, pos, aft, g⟩ ks sg (.bool (decide (a = b))) := Val.bin hx hy fun w => by
  rw [Sem.run_bind, run_eqGuard_agg w .eql t x y _ _ hm]
  simp only [Result.andThen_ok]
  have h := run_eql_bytes (P := P) w t e m hu he hs a b ha hb
  have e1 : (a == b) = decide (a = b) := by by_cases h : a = b <;> simp [h]
  rw [e1] at h
  exact h
theorem Val.neBy {t t' e m : TypeId} {x y : Operand} {a b : List UInt8} (hx : ev ks x = some (.agg (byC a).toArray)) (hy : ev ks y = some (.agg (byC b).toArray)) (hm : P.eqGuardType P.depth t = false) (hu : P.underlying t = some (.array m e)) (he : P.underlying e = some (.int .u8)) (hs : ∀ w, (sizeOf e).run P w = .ok 1 w) (ha : a.length = m) (hb : b.length = m) :
    Val P n B ⟨d, .binOp .neq t x y t', ty, pos, aft, g⟩ ks sg (.bool (!decide (a = b))) := Val.bin hx hy fun w => by
  rw [Sem.run_bind, run_eqGuard_agg w .neq t x y _ _ hm]
  simp only [Result.andThen_ok]
  have h := run_equalIn_bytes (P := P) w 9998 t e m hu he hs a b ha hb
  have e1 : (a == b) = decide (a = b) := by by_cases h : a = b <;> simp [h]
  rw [e1] at h
  rw [run_neq_struct]
  have h2 : (Op.equalIn 10000 t (.agg (byC a).toArray) (.agg (byC b).toArray)).run P w = .ok (decide (a = b)) w := h
  rw [h2]
  rfl
/-- Elements are copied into a part of a block of the state. -/
theorem Eff.copyT {T t t2 e sz gb o dl dc sl sc m : Nat} {a : Addr} {x y : Operand} {cur cs cells' : List Value} {sg' : Sg} (hx : ev ks x = some (.slice (some ⟨gb, o, none⟩) dl dc)) (hy : ev ks y = some (.slice (some a) sl sc)) (hu : P.underlying t = some (.slice e)) (hs : (P.info? e).map (·.size) = some sz)
    (hU : Upd gb (.cells cur.toArray T (0, 0)) (.cells cells'.toArray T (0, 0)) sg sg') (hc : cur.take o ++ cs ++ cur.drop (o + cs.length) = cells') (hm : Nat.min sl dl = m) (hn : cs.length = m * sz) (hsrc : ∀ w, Hp B sg w → ∀ j v, cs[j]? = some v → w.cell? (a.add j) = some v) (hfit : o + cs.length ≤ cur.length) (h1 : cs.all (·.oneCell') = true) :
    Eff P n B ⟨d, .call { callee := .builtin .copy, args := #[x, y], argTypes := #[t, t2] }, ty, pos, aft, g⟩ ks sg (α := Unit) (fun _ => True) (fun _ => .int .i64 (m : Nat)) (fun _ => sg') := fun ac w K Q ha hw hk => by
  have e1 := ha.ev hx
  have e2 := ha.ev hy
  have hb := hw.own _ hU.mem
  simp only at hb
  have hrun := run_copyN (P := P) w t t2 ty e gb o dl dc a sl sc m sz cur.toArray T cs hu hs hb hm hn (hsrc w hw) (by simpa using hfit) (fun v hv => List.all_eq_true.1 h1 v hv)
  simp only [hc] at hrun
  unfold Oper.wp
  have hex : (execOp ac.eval ⟨d, .call { callee := .builtin .copy, args := #[x, y], argTypes := #[t, t2] }, ty, pos, aft, g⟩).run P w = .ok (.value (.int .i64 (m : Nat))) (w.setRow gb cells'.toArray) := by
    simp only [execOp, resolve, invoke, Go.builtin, Sem.run_bind, Sem.run_pure, Result.andThen_ok, List.map_toArray, List.map_cons, List.map_nil, e1, e2, hrun]
    rfl
  rw [hex]
  refine hk () _ trivial (hw.upd hU rfl rfl rfl (by simp [World.setRow]) ?_ (fun k hk => ?_))
  · simp [World.setRow, Array.getElem?_modify, hb]
  · simp [World.setRow, Array.getElem?_modify, Ne.symm hk]
end
end Go.Proofs.YtlpbjmbgopfkhaaGreat.V
