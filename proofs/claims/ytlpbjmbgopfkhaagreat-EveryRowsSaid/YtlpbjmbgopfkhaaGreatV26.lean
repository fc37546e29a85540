/- A small calculus of symbolic states, part 26: texts' order, calls of functions without a body, copies. No program in sight. -/
import Derived.Test.YtlpbjmbgopfkhaaGreatV25
import Derived.Laws.Externs
import Derived.Laws.IdiomCopy
import Derived.WalkKit
import Derived.Sort.Walk0
namespace Go.Proofs.YtlpbjmbgopfkhaaGreat.V
open Go Go.RowKit
set_option linter.unusedVariables false
section
variable {P : Program} {n : Nat} {B : Base} {ks : Ks} {sg : Sg} {d : Option Tmp} {ty : TypeId} {pos : String} {aft : Array Edge} {g : Option (Nat × Bool)}
theorem str_less (i j : List UInt8) : Op.bytesLess (⟨i.toArray⟩ : ByteArray).toList (⟨j.toArray⟩ : ByteArray).toList = decide (i < j) := by
  rw [ByteArray.toList_eq, ByteArray.toList_eq, Go.Proofs.bytesLess_eq]
theorem str_dec (i j : List UInt8) : decide ((⟨i.toArray⟩ : ByteArray) = ⟨j.toArray⟩) = decide (i = j) := by simp
theorem Val.ltStr {t t' : TypeId} {x y : Operand} {i j : List UInt8} (hx : ev ks x = some (str i)) (hy : ev ks y = some (str j)) : Val P n B ⟨d, .binOp .lss t x y t', ty, pos, aft, g⟩ ks sg (.bool (decide (i < j))) := by
  have h := Val.cmpS (P := P) (n := n) (B := B) (sg := sg) (d := d) (ty := ty) (pos := pos) (aft := aft) (g := g) (op := .lss) (t := t) (t' := t') hx hy rfl
  rw [str_less] at h
  exact h
theorem Val.geStr {t t' : TypeId} {x y : Operand} {i j : List UInt8} (hx : ev ks x = some (str i)) (hy : ev ks y = some (str j)) : Val P n B ⟨d, .binOp .geq t x y t', ty, pos, aft, g⟩ ks sg (.bool (!decide (i < j))) := by
  have h := Val.cmpS (P := P) (n := n) (B := B) (sg := sg) (d := d) (ty := ty) (pos := pos) (aft := aft) (g := g) (op := .geq) (t := t) (t' := t') hx hy rfl
  rw [str_less] at h
  exact h
theorem gt_dec (i j : List UInt8) : (!(decide (i < j) || decide (i = j))) = decide (j < i) := by
  rw [Bool.eq_iff_iff]
  simp only [Bool.not_eq_true', Bool.or_eq_false_iff, decide_eq_false_iff_not, decide_eq_true_eq, List.not_lt]
  constructor
  · rintro ⟨h1, h2⟩
    rcases List.le_iff_lt_or_eq.1 h1 with h | h
    · exact h
    · exact absurd h.symm h2
  · intro h
    exact ⟨List.le_of_lt h, fun e => by subst e; exact List.lt_irrefl _ h⟩
theorem Val.gtStr {t t' : TypeId} {x y : Operand} {i j : List UInt8} (hx : ev ks x = some (str i)) (hy : ev ks y = some (str j)) : Val P n B ⟨d, .binOp .gtr t x y t', ty, pos, aft, g⟩ ks sg (.bool (decide (j < i))) := by
  have h := Val.cmpS (P := P) (n := n) (B := B) (sg := sg) (d := d) (ty := ty) (pos := pos) (aft := aft) (g := g) (op := .gtr) (t := t) (t' := t') hx hy rfl
  rw [str_less, str_dec, gt_dec] at h
  exact h
/-- The call of a function without a body. -/
theorem Val.callX {v : Value} {f : FuncId} {xs : List Operand} {vs : List Value} {ats : Array TypeId} (hxs : evs ks xs = some vs) (h : ∀ w, Hp B sg w → (callFunc f vs.toArray).run P w = .ok (.value v) w) :
    Val P n B ⟨d, .call { callee := .value (.func f), args := xs.toArray, argTypes := ats }, ty, pos, aft, g⟩ ks sg v := fun a w ha hw => by
  have hm := ha.evs hxs
  simp only [execOp, resolve, Act.eval, Deferred.ofValue, Sem.run_bind, Sem.run_pure, Result.andThen_ok, invoke, List.map_toArray, hm]
  simp [h w hw]
theorem run_copyN (w : World) (dT sT ty elem : TypeId) (g o dLen dCap : Nat) (a : Addr) (sLen sCap m sz : Nat) (cur : Array Value) (t : TypeId) (cs : List Value)
    (hu : P.underlying dT = some (.slice elem)) (hs : (P.info? elem).map (·.size) = some sz)
    (hg : w.heap[g]? = some (.cells cur t (0, 0))) (hm : Nat.min sLen dLen = m) (hn : cs.length = m * sz)
    (hsrc : ∀ j v, cs[j]? = some v → w.cell? (a.add j) = some v) (hfit : o + cs.length ≤ cur.size) (h1 : ∀ v ∈ cs, v.oneCell' = true) :
    (Builtin.copy_ #[dT, sT] ty #[.slice (some ⟨g, o, none⟩) dLen dCap, .slice (some a) sLen sCap]).run P w =
      .ok (goInt m) (w.setRow g (cur.toList.take o ++ cs ++ cur.toList.drop (o + cs.length)).toArray) := by
  have hl := run_loadCells_list (P := P) w a cs hsrc
  have hst := run_storeCells_at P g o t cs 0 cur w hg (by simpa using hfit) h1
  cases hq : P.info? elem with
  | none => simp [hq] at hs
  | some i =>
    have hi : i.size = sz := by simpa [hq] using hs
    simp [Builtin.copy_, run_underlying hu, Builtin.lenOf, Builtin.firstCells, sizeOf, typeInfo, hq, hi, hm, ← hn, hl, hst]
/-- Elements are copied into a block of the state. -/
theorem Eff.copy {t t2 e sz gb o dl dc sl sc m : Nat} {a : Addr} {x y : Operand} {cur cs cells' : List Value} {sg' : Sg} (hx : ev ks x = some (.slice (some ⟨gb, o, none⟩) dl dc)) (hy : ev ks y = some (.slice (some a) sl sc)) (hu : P.underlying t = some (.slice e)) (hs : (P.info? e).map (·.size) = some sz)
    (hU : Upd gb (.cells cur.toArray e (0, 0)) (.cells cells'.toArray e (0, 0)) sg sg') (hc : cur.take o ++ cs ++ cur.drop (o + cs.length) = cells') (hm : Nat.min sl dl = m) (hn : cs.length = m * sz) (hsrc : ∀ w, Hp B sg w → ∀ j v, cs[j]? = some v → w.cell? (a.add j) = some v) (hfit : o + cs.length ≤ cur.length) (h1 : cs.all (·.oneCell') = true) :
    Eff P n B ⟨d, .call { callee := .builtin .copy, args := #[x, y], argTypes := #[t, t2] }, ty, pos, aft, g⟩ ks sg (α := Unit) (fun _ => True) (fun _ => .int .i64 (m : Nat)) (fun _ => sg') := fun ac w K Q ha hw hk => by
  have e1 := ha.ev hx
  have e2 := ha.ev hy
  have hb := hw.own _ hU.mem
  simp only at hb
  have hrun := run_copyN (P := P) w t t2 ty e gb o dl dc a sl sc m sz cur.toArray e cs hu hs hb hm hn (hsrc w hw) (by simpa using hfit) (fun v hv => List.all_eq_true.1 h1 v hv)
  simp only [hc] at hrun
  unfold Oper.wp
  have hex : (execOp ac.eval ⟨d, .call { callee := .builtin .copy, args := #[x, y], argTypes := #[t, t2] }, ty, pos, aft, g⟩).run P w = .ok (.value (.int .i64 (m : Nat))) (w.setRow gb cells'.toArray) := by
    simp only [execOp, resolve, invoke, Go.builtin, Sem.run_bind, Sem.run_pure, Result.andThen_ok, List.map_toArray, List.map_cons, List.map_nil, e1, e2, hrun]
    rfl
  rw [hex]
  refine hk () _ trivial (hw.upd hU rfl rfl rfl (by simp [World.setRow]) ?_ (fun k hk => ?_))
  · simp [World.setRow, Array.getElem?_modify, hb]
  · simp [World.setRow, Array.getElem?_modify, Ne.symm hk]
/-- A slice made of no elements: not nil. -/
theorem Eff.makeSlice0 {t e : TypeId} {x y : Operand} {by_ sz : Nat} (hx : ev ks x = some (.int .i64 0)) (hy : ev ks y = some (.int .i64 0)) (hu : P.underlying t = some (.slice e)) (hi : (P.info? e).map (·.bytes) = some by_) (hs : ∀ w, (sizeOf e).run P w = .ok sz w) :
    Eff P n B ⟨d, .makeSlice t x y, ty, pos, aft, g⟩ ks sg (α := Nat) (fun _ => True) (fun b => .slice (some ⟨b, 0, none⟩) 0 0) (fun b => [(b, .cells ([] ++ []).toArray e (0, 0))] :: sg) :=
  Eff.new fun a w ha hw => by
    show (do pure (Next.value (← Instr.makeSlice t (a.eval x) (a.eval y))) : Sem Next).run P w = _
    rw [ha.ev hx, ha.ev hy]
    refine run_value ?_
    have hw1 : IntKind.i64.wrap 0 = 0 := by decide
    cases hq : P.info? e with
    | none => simp [hq] at hi
    | some i =>
      have hti : (typeInfo e).run P w = .ok i w := by simp [typeInfo, hq]
      have hb : i.bytes = by_ := by simpa [hq] using hi
      have h1 : ¬ (0 : Int) < 0 := by decide
      have h2 : ¬ ((by_ : Nat) : Int) * 0 > 2 ^ 48 := by rw [Int.mul_zero]; decide
      have h3 : ¬ 0 * by_ > roomBytes := by rw [Nat.zero_mul]; unfold roomBytes; omega
      have h6 : (Int.toNat 0) = 0 := rfl
      simp only [Instr.makeSlice, Sem.run_bind, run_underlying hu, Result.andThen_ok, asInt, asIntOf, Sem.run_pure, hti, hw1, hb, h1, h2, decide_false, Bool.or_false, Bool.false_eq_true, if_false, Int.lt_irrefl, gt_iff_lt, h6, askRoom, h3, hs, Nat.zero_mul, if_true, newRow, newObj, Sem.run]
      rw [show ∀ f : Nat → Value, (Array.range 0).map f = #[] from fun f => Array.eq_empty_of_size_eq_zero (by simp)]
      rfl
/-- A slice of a slice, wherever it lies. -/
theorem Val.sliceG {t e sz m c : Nat} {q : Option Addr} {x : Operand} {lo hi mx : Option Operand} (L Hh M : Nat) (hx : ev ks x = some (.slice q m c)) (hu : P.underlying t = some (.slice e)) (hs : ∀ w, (sizeOf e).run P w = .ok sz w)
    (hlo : optI ks lo L 0) (hhi : optI ks hi Hh m) (hmx : optI ks mx M c) (hno : hi = none → mx = none) (h1 : L ≤ Hh) (h2 : Hh ≤ M) (h3 : M ≤ c) :
    Val P n B ⟨d, .slice t x lo hi mx, ty, pos, aft, g⟩ ks sg (.slice (if M = L then q else q.map (·.add (L * sz))) (Hh - L) (M - L)) := fun a w ha hw => by
  have conv : ∀ {o : Option Operand} {v dflt : Nat}, optI ks o v dflt → (o.map a.eval = none ∧ v = dflt ∧ o = none) ∨ ∃ k, o.map a.eval = some (.int k (v : Nat)) := fun {o v dflt} h => by
    cases o with
    | none => exact .inl ⟨rfl, h, rfl⟩
    | some y => obtain ⟨k, hk⟩ := h; exact .inr ⟨k, by simp [ha.ev hk]⟩
  have key : ∀ {lo hi mx : Option Value}, (lo = none ∧ L = 0 ∨ ∃ k, lo = some (.int k (L : Nat))) → (hi = none ∧ Hh = m ∧ mx = none ∨ ∃ k, hi = some (.int k (Hh : Nat))) → (mx = none ∧ M = c ∨ ∃ k, mx = some (.int k (M : Nat))) → (Instr.sliceBounds true m c lo hi mx).run P w = .ok (L, Hh, M) w := by
    intro lo hi mx hlo hhi hmx
    rcases hmx with ⟨rfl, rfl⟩ | ⟨k3, rfl⟩
    · rcases hhi with ⟨rfl, rfl, _⟩ | ⟨k2, rfl⟩
      · rcases hlo with ⟨rfl, rfl⟩ | ⟨k1, rfl⟩
        · simp [Instr.sliceBounds]
        · simp [Instr.sliceBounds, Sem.run_bind, run_sliceBound h1]
      · rcases hlo with ⟨rfl, rfl⟩ | ⟨k1, rfl⟩
        · simp [Instr.sliceBounds, Sem.run_bind, run_sliceBound h2]
        · simp [Instr.sliceBounds, Sem.run_bind, run_sliceBound h2, run_sliceBound h1]
    · rcases hhi with ⟨_, _, h⟩ | ⟨k2, rfl⟩
      · cases h
      · rcases hlo with ⟨rfl, rfl⟩ | ⟨k1, rfl⟩
        · simp [Instr.sliceBounds, Sem.run_bind, run_sliceBound h2, run_sliceBound h3]
        · simp [Instr.sliceBounds, Sem.run_bind, run_sliceBound h2, run_sliceBound h1, run_sliceBound h3]
  have hrun : (Instr.slice t (.slice q m c) (lo.map a.eval) (hi.map a.eval) (mx.map a.eval)).run P w = .ok (.slice (if M = L then q else q.map (·.add (L * sz))) (Hh - L) (M - L)) w := by
    have hk := key (lo := lo.map a.eval) (hi := hi.map a.eval) (mx := mx.map a.eval) (by
      rcases conv hlo with ⟨p, q, _⟩ | ⟨k, p⟩
      · exact .inl ⟨p, q⟩
      · exact .inr ⟨k, p⟩) (by
      rcases conv hhi with ⟨p, q, r⟩ | ⟨k, p⟩
      · exact .inl ⟨p, q, by rw [hno r]; rfl⟩
      · exact .inr ⟨k, p⟩) (by
      rcases conv hmx with ⟨p, q, _⟩ | ⟨k, p⟩
      · exact .inl ⟨p, q⟩
      · exact .inr ⟨k, p⟩)
    simp only [Instr.slice, Sem.run_bind, run_underlying hu, Result.andThen_ok, hk, hs, Sem.run_pure]
  show (do pure (Next.value (← Instr.sliceAt t (a.eval x) (lo.map a.eval) (hi.map a.eval) (mx.map a.eval))) : Sem Next).run P w = _
  rw [ha.ev hx]
  refine run_value ?_
  simp only [Instr.sliceAt, Sem.run_bind, run_underlying hu, Result.andThen_ok]
  exact hrun
/-- A part of a slice's elements. -/
theorem slAt_part {α : Type} {w : World} {p : Option Addr} {c k sz : Nat} {enc : α → List Value} {L : List α} (h : slAt w p sz enc L) (hk : k ≤ L.length) (hc : L.length ≤ c) (m : Nat) : slAt w (if c = k then p else p.map (·.add (k * sz))) sz enc ((L.drop k).take m) := by
  rcases h with h | ⟨b, o, rfl, hb, hr⟩
  · left; rw [h]; simp
  · by_cases e : c = k
    · left; rw [show L.drop k = [] from List.drop_eq_nil_iff.2 (by omega)]; simp
    · rw [if_neg e]
      refine .inr ⟨b, o + k * sz, by simp [Addr.add_mid], hb, fun i x hx => ?_⟩
      have hi : i < m := by have := (List.getElem?_eq_some_iff.1 hx).1; rw [List.length_take] at this; omega
      rw [List.getElem?_take_of_lt hi, List.getElem?_drop] at hx
      have := hr (k + i) x hx
      rw [show o + k * sz + i * sz = o + (k + i) * sz by rw [Nat.add_mul]; omega]
      exact this
theorem slAt_drop {α : Type} {w : World} {p : Option Addr} {c k sz : Nat} {enc : α → List Value} {L : List α} (h : slAt w p sz enc L) (hk : k ≤ L.length) (hc : L.length ≤ c) : slAt w (if c = k then p else p.map (·.add (k * sz))) sz enc (L.drop k) := by
  have := slAt_part h hk hc L.length
  rwa [List.take_of_length_le (by rw [List.length_drop]; omega)] at this
end
end Go.Proofs.YtlpbjmbgopfkhaaGreat.V
