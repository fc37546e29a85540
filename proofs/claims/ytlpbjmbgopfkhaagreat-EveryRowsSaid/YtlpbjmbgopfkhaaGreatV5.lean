/- A small calculus of symbolic states, part 5: pointers and nil, conversions, division, makes, calls without a body. No program in sight. -/
import Derived.Test.YtlpbjmbgopfkhaaGreatV4
import Derived.Laws.LoneSync
namespace Go.Proofs.YtlpbjmbgopfkhaaGreat.V
open Go Go.RowKit
set_option linter.unusedVariables false
theorem Hp.ro {w0 w : World} {sg ss r : Sg} (h : Hp ⟨w0, ids ss⟩ sg w) (hp : Pick ss sg r) (hs : Sat ss w0) : Below w0.heap.size w0 w :=
  ⟨h.os, h.tape, h.output, h.size, fun k hk => by
    by_cases hf : k ∈ ids ss
    · obtain ⟨p, hm, rfl⟩ := List.mem_map.1 hf
      rw [hs.own p hm, (h.pick hp).own p hm]
    · exact h.old k hk hf⟩
section
variable {P : Program} {n : Nat} {B : Base} {ks : Ks} {sg : Sg} {d : Option Tmp} {ty : TypeId} {pos : String} {aft : Array Edge} {g : Option (Nat × Bool)}
theorem run_equalP {t e : TypeId} {p q : Option Addr} {r : Bool} (hu : P.underlying t = some (.pointer e)) (h : (p = none ∧ r = q.isNone) ∨ (q = none ∧ r = p.isNone)) (w : World) : (Op.equal t (.pointer p) (.pointer q)).run P w = .ok r w := by
  have key : ∀ dd, (Op.equalIn (dd + 1) t (.pointer p) (.pointer q)).run P w = .ok r w := fun dd => by
    simp only [Op.equalIn, Sem.run_bind, run_underlying hu, Result.andThen_ok]
    rcases h with ⟨rfl, rfl⟩ | ⟨rfl, rfl⟩
    · cases q <;> rfl
    · cases p <;> rfl
  exact key 9999
theorem Val.eqP {t e t' : TypeId} {x y : Operand} {p q : Option Addr} (r : Bool) (hx : ev ks x = some (.pointer p)) (hy : ev ks y = some (.pointer q)) (hu : P.underlying t = some (.pointer e)) (h : (p = none ∧ r = q.isNone) ∨ (q = none ∧ r = p.isNone)) :
    Val P n B ⟨d, .binOp .eql t x y t', ty, pos, aft, g⟩ ks sg (.bool r) := Val.bin hx hy fun w => by
  show (do eqGuard .eql t x y (.pointer p) (.pointer q); (do pure (Value.bool (← Op.equal t (.pointer p) (.pointer q)))) : Sem Value).run P w = _
  have h1 : (eqGuard .eql t x y (.pointer p) (.pointer q)).run P w = .ok () w := rfl
  simp only [Sem.run_bind, h1, run_equalP hu h, Sem.run_pure, Result.andThen_ok]
theorem Val.neP {t e t' : TypeId} {x y : Operand} {p q : Option Addr} (r : Bool) (hx : ev ks x = some (.pointer p)) (hy : ev ks y = some (.pointer q)) (hu : P.underlying t = some (.pointer e)) (h : (p = none ∧ r = q.isNone) ∨ (q = none ∧ r = p.isNone)) :
    Val P n B ⟨d, .binOp .neq t x y t', ty, pos, aft, g⟩ ks sg (.bool (!r)) := Val.bin hx hy fun w => by
  show (do eqGuard .neq t x y (.pointer p) (.pointer q); (do pure (Value.bool (!(← Op.equal t (.pointer p) (.pointer q))))) : Sem Value).run P w = _
  have h1 : (eqGuard .neq t x y (.pointer p) (.pointer q)).run P w = .ok () w := rfl
  simp only [Sem.run_bind, h1, run_equalP hu h, Sem.run_pure, Result.andThen_ok]
theorem Val.convI {s t : TypeId} {x : Operand} {k k' : IntKind} {i : Int} {ds : TypeDesc} (hx : ev ks x = some (.int k i)) (hs : P.underlying s = some ds) (hu : P.underlying t = some (.int k')) : Val P n B ⟨d, .convert s t x, ty, pos, aft, g⟩ ks sg (.int k' (k'.wrap i)) := fun a w ha hw => by
  show (do pure (Next.value (← Go.convert s t (a.eval x))) : Sem Next).run P w = _
  rw [ha.ev hx]
  refine run_value ?_
  simp only [Go.convert, Sem.run_bind, run_underlying hs, run_underlying hu, Result.andThen_ok]
  cases ds <;> rfl
theorem Val.rem {t t' : TypeId} {x y : Operand} {k : IntKind} {i j : Int} (hx : ev ks x = some (.int k i)) (hy : ev ks y = some (.int k j)) (hj : ¬ j = 0) : Val P n B ⟨d, .binOp .rem t x y t', ty, pos, aft, g⟩ ks sg (.int k (i.tmod j)) := Val.bin hx hy fun w => by
  simp [eqGuard, Go.binOp, Op.intDiv, hj]
theorem Val.quo {t t' : TypeId} {x y : Operand} {k : IntKind} {i j : Int} (hx : ev ks x = some (.int k i)) (hy : ev ks y = some (.int k j)) (hj : ¬ j = 0) : Val P n B ⟨d, .binOp .quo t x y t', ty, pos, aft, g⟩ ks sg (.int k (k.wrap (i.tdiv j))) := Val.bin hx hy fun w => by
  simp [eqGuard, Go.binOp, Op.intDiv, hj]
/-- A make of n elements. -/
theorem Eff.makeSlice {t e : TypeId} {x y : Operand} {m sz by_ : Nat} {z : Value} {zl : List Value} (hx : ev ks x = some (.int .i64 (m : Nat))) (hy : ev ks y = some (.int .i64 (m : Nat))) (hu : P.underlying t = some (.slice e)) (hi : (P.info? e).map (·.bytes) = some by_) (hs : ∀ w, (sizeOf e).run P w = .ok sz w)
    (hz : ∀ w, (zeroValue e).run P w = .ok z w) (hzl : z.cells = zl.toArray) (hzs : zl.length = sz) (hpos : 0 < m * sz) (hm : m * by_ ≤ 140737488355328) (hm' : m ≤ 9223372036854775807) :
    Eff P n B ⟨d, .makeSlice t x y, ty, pos, aft, g⟩ ks sg (α := Nat) (fun _ => True) (fun b => .slice (some ⟨b, 0, none⟩) m m) (fun b => [(b, .cells (repL zl m).toArray e (0, 0))] :: sg) :=
  Eff.new fun a w ha hw => by
    show (do pure (Next.value (← Instr.makeSlice t (a.eval x) (a.eval y))) : Sem Next).run P w = _
    rw [ha.ev hx, ha.ev hy]
    refine run_value ?_
    have hw1 : IntKind.i64.wrap (m : Nat) = (m : Nat) := IntWalk.i64_in _ (by omega)
    cases hq : P.info? e with
    | none => simp [hq] at hi
    | some i =>
      have hb : i.bytes = by_ := by simpa [hq] using hi
      have hti : (typeInfo e).run P w = .ok i w := by simp [typeInfo, hq]
      have hr := range_rep zl m
      rw [hzs] at hr
      have h1 : ¬ ((m : Nat) : Int) < 0 := by omega
      have hbm : by_ * m ≤ 140737488355328 := by rw [Nat.mul_comm]; exact hm
      have h2 : ¬ ((by_ : Nat) : Int) * ((m : Nat) : Int) > 2 ^ 48 := by
        have h3 : ((by_ : Nat) : Int) * ((m : Nat) : Int) = ((by_ * m : Nat) : Int) := by simp
        rw [h3]
        have h4 : (2 : Int) ^ 48 = 281474976710656 := by decide
        omega
      have h3 : ¬ m * by_ > roomBytes := by unfold roomBytes; omega
      have h5 : ¬ m * sz = 0 := by omega
      simp only [Instr.makeSlice, Sem.run_bind, run_underlying hu, Result.andThen_ok, asInt, asIntOf, Sem.run_pure, hti, hw1, hb, h1, h2, decide_false, Bool.or_false, Bool.false_eq_true, if_false, Int.lt_irrefl, gt_iff_lt, Int.toNat_natCast, askRoom, h3, hs, h5, hz, hzl, hr, newRow, newObj, Sem.run]
theorem Eff.storeX {t T : TypeId} {x y : Operand} {b o : Nat} {v : Value} {l l' : List Value} {sg' : Sg} (hx : ev ks x = some (.pointer (some ⟨b, o, none⟩))) (hy : ev ks y = some v) (h1 : v.oneCell' = true)
    (hu : Upd b (.cells l.toArray T (0, 0)) (.cells l'.toArray T (0, 0)) sg sg') (hl : l.set o v = l') (hlen : o < l.length) (hs : ∀ w, (sizeOf t).run P w = .ok 1 w) :
    Eff P n B ⟨d, .store t x y, ty, pos, aft, g⟩ ks sg (α := Unit) (fun _ => True) (fun _ => undef) (fun _ => sg') :=
  Eff.store hx hy h1 hu hl (by rw [Nat.blt_eq]; exact hlen) hs
/-- An array's cell's place. -/
theorem Val.indexAddrA {t e : TypeId} {x y : Operand} {k : IntKind} {i b o m sz : Nat} (hx : ev ks x = some (.pointer (some ⟨b, o, none⟩))) (hy : ev ks y = some (.int k (i : Nat))) (hu : P.underlying t = some (.array m e))
    (hs : ∀ w, (sizeOf e).run P w = .ok sz w) (h1 : i < m) : Val P n B ⟨d, .indexAddr t x y, ty, pos, aft, g⟩ ks sg (.pointer (some ⟨b, o + i * sz, none⟩)) := fun a w ha hw => by
  show (do pure (Next.value (← Instr.indexAt t (a.eval x) (a.eval y))) : Sem Next).run P w = _
  rw [ha.ev hx, ha.ev hy]
  refine run_value ?_
  simp [Instr.indexAt, asIntOf, Sem.run_bind, run_underlying hu, hs, h1, Addr.add_mid, Instr.sureAddr]
theorem Val.indexAddrAI {t e : TypeId} {x y : Operand} {k : IntKind} {i : Int} {b o m sz : Nat} (hx : ev ks x = some (.pointer (some ⟨b, o, none⟩))) (hy : ev ks y = some (.int k i)) (hu : P.underlying t = some (.array m e))
    (hs : ∀ w, (sizeOf e).run P w = .ok sz w) (h0 : 0 ≤ i) (h1 : i < m) : Val P n B ⟨d, .indexAddr t x y, ty, pos, aft, g⟩ ks sg (.pointer (some ⟨b, o + i.toNat * sz, none⟩)) := by
  obtain ⟨j, rfl⟩ := Int.eq_ofNat_of_zero_le h0
  exact Val.indexAddrA hx hy hu hs (by omega)
theorem Val.shr {t t' : TypeId} {x y : Operand} {k k' : IntKind} {i j : Int} (hx : ev ks x = some (.int k i)) (hy : ev ks y = some (.int k' j)) (hj : ¬ j < 0) : Val P n B ⟨d, .binOp .shr t x y t', ty, pos, aft, g⟩ ks sg (.int k (i.fdiv (2 ^ (min j.toNat k.bits)))) := Val.bin hx hy fun w => by
  simp [eqGuard, Go.binOp, Op.shift, hj]
theorem Val.shl {t t' : TypeId} {x y : Operand} {k k' : IntKind} {i j : Int} (hx : ev ks x = some (.int k i)) (hy : ev ks y = some (.int k' j)) (hj : ¬ j < 0) : Val P n B ⟨d, .binOp .shl t x y t', ty, pos, aft, g⟩ ks sg (.int k (k.wrap (i * 2 ^ (min j.toNat k.bits)))) := Val.bin hx hy fun w => by
  simp [eqGuard, Go.binOp, Op.shift, hj]
theorem Val.and {t t' : TypeId} {x y : Operand} {k : IntKind} {i j : Int} (hx : ev ks x = some (.int k i)) (hy : ev ks y = some (.int k j)) : Val P n B ⟨d, .binOp .and t x y t', ty, pos, aft, g⟩ ks sg (.int k (k.wrap (BitVec.ofInt k.bits i &&& BitVec.ofInt k.bits j).toNat)) := Val.bin hx hy fun w => by
  simp [eqGuard, Go.binOp, Op.intBits]
theorem Val.xor {t t' : TypeId} {x y : Operand} {k : IntKind} {i j : Int} (hx : ev ks x = some (.int k i)) (hy : ev ks y = some (.int k j)) : Val P n B ⟨d, .binOp .xor t x y t', ty, pos, aft, g⟩ ks sg (.int k (k.wrap (BitVec.ofInt k.bits i ^^^ BitVec.ofInt k.bits j).toNat)) := Val.bin hx hy fun w => by
  simp [eqGuard, Go.binOp, Op.intBits]
theorem Val.or {t t' : TypeId} {x y : Operand} {k : IntKind} {i j : Int} (hx : ev ks x = some (.int k i)) (hy : ev ks y = some (.int k j)) : Val P n B ⟨d, .binOp .or t x y t', ty, pos, aft, g⟩ ks sg (.int k (k.wrap (BitVec.ofInt k.bits i ||| BitVec.ofInt k.bits j).toNat)) := Val.bin hx hy fun w => by
  simp [eqGuard, Go.binOp, Op.intBits]
/-- A call without a body that yields and leaves the world alone. -/
theorem run_ext {f : FuncId} {xs : List Operand} {vs : List Value} {ats : Array TypeId} {a : Act} (w : World) (ha : Fr n ks a) (hxs : evs ks xs = some vs) {r : Result Next} (hc : (callFunc f vs.toArray).run P w = r) :
    (execOp a.eval ⟨d, .call { callee := .value (.func f), args := xs.toArray, argTypes := ats }, ty, pos, aft, g⟩).run P w = r := by
  have hm := ha.evs hxs
  simp only [execOp, resolve, Act.eval, Deferred.ofValue, Sem.run_bind, Sem.run_pure, Result.andThen_ok, invoke, List.map_toArray, hm]
  simpa using hc
theorem Val.ext {f : FuncId} {xs : List Operand} {vs : List Value} {ats : Array TypeId} {v : Value} (hxs : evs ks xs = some vs) (hc : ∀ w, Hp B sg w → (callFunc f vs.toArray).run P w = .ok (.value v) w) :
    Val P n B ⟨d, .call { callee := .value (.func f), args := xs.toArray, argTypes := ats }, ty, pos, aft, g⟩ ks sg v := fun a w ha hw => run_ext w ha hxs (hc w hw)
/-- .. that writes one cell of a block of the state. -/
theorem Eff.ext {f : FuncId} {xs : List Operand} {vs : List Value} {ats : Array TypeId} {v u : Value} {b o : Nat} {T : TypeId} {l l' : List Value} {sg' : Sg} (hxs : evs ks xs = some vs)
    (hu : Upd b (.cells l.toArray T (0, 0)) (.cells l'.toArray T (0, 0)) sg sg') (hl : l.set o u = l') (hc : ∀ w, w.heap[b]? = some (.cells l.toArray T (0, 0)) → (callFunc f vs.toArray).run P w = .ok (.value v) (w.setCell ⟨b, o, none⟩ u)) :
    Eff P n B ⟨d, .call { callee := .value (.func f), args := xs.toArray, argTypes := ats }, ty, pos, aft, g⟩ ks sg (α := Unit) (fun _ => True) (fun _ => v) (fun _ => sg') := fun a w K Q ha hw hk => by
  have hb := hw.own _ hu.mem
  unfold Oper.wp
  rw [run_ext w ha hxs (hc w hb)]
  refine hk () _ trivial (hw.upd hu rfl rfl rfl (by simp [World.setCell]) ?_ (fun k hk => Below.heap_setCell _ _ _ _ hk))
  simp [World.setCell, Array.getElem?_modify, hb, hl]
end
/-- sync/atomic.SwapT: the number is stored, the old one handed back. -/
theorem run_call_swap {P : Program} {f : FuncId} {fn : Func} (hf : P.funcs[f]? = some fn) (hname : (fn.name == "runtime.NumGoroutine") = false) (hb : fn.body.isNone = true) (hn : Extern.findNext fn = none) (k : IntKind)
    (he : Extern.find fn = some (Extern.Atomic.swapT (.int k))) {a : Addr} {x y : Int} {w : World} (hc : w.cell? a = some (.int k x)) (hz : w.frozen? a = false) :
    (callFunc f #[.pointer (some a), .int k y]).run P w = .ok (.value (.int k x)) (w.setCell a (.int k y)) := by
  rw [run_callFunc_extern hf hname hb hn he]
  change (Sem.run P (do
    let a' ← asAddr (.pointer (some a))
    let old ← Extern.Atomic.read (.int k) a'
    store a' (.int k y) .atomic
    pure old) w).andThen _ = _
  simp [Extern.Atomic.read, asAddr, hc, hz, run_store P w a (.int k y) .atomic rfl, Result.andThen]
theorem sat1 {w : World} {b : Nat} {o : Obj} (h : w.heap[b]? = some o) : Sat [[(b, o)]] w := ⟨fun p hp => by simp at hp; subst hp; exact h, by simp⟩
theorem Sat.hd {w : World} {b : Nat} {o : Obj} {s : Seg} {r : Sg} (h : Sat (((b, o) :: s) :: r) w) : w.heap[b]? = some o := h.own (b, o) (by simp)
theorem repL_one (v : Value) : ∀ m, repL [v] m = List.replicate m v
  | 0 => rfl
  | m + 1 => by simp only [repL, List.replicate_succ, repL_one v m, List.singleton_append]
theorem frozen_of {w : World} {b o : Nat} {l : List Value} {T : TypeId} (h : w.heap[b]? = some (.cells l.toArray T (0, 0))) : w.frozen? ⟨b, o, none⟩ = false := by simp [World.frozen?, h]
end Go.Proofs.YtlpbjmbgopfkhaaGreat.V
