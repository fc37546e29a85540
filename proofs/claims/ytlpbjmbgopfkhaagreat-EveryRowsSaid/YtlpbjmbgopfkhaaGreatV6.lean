/- A small calculus of symbolic states, part 6: scopes, a result's cell, structs compared, texts' bytes, maps by text. No program in sight. -/
import Derived.Test.YtlpbjmbgopfkhaaGreatV5
import Derived.MapKept
import Derived.Carry
import Derived.Laws.ResultCell
import Derived.Laws.Cover3
namespace Go.Proofs.YtlpbjmbgopfkhaaGreat.V
open Go Go.RowKit Go.MapKept
set_option linter.unusedVariables false
section
variable {P : Program} {n : Nat} {B : Base} {Q : Exit → Act → World → Prop} {ks : Ks} {sg : Sg} {d : Option Tmp} {ty : TypeId} {pos : String} {aft : Array Edge} {g : Option (Nat × Bool)}
def isGo : Exit → Bool
  | .goto _ => true
  | _ => false
theorem PQ.in_scope {e : Exit} (he : isGo e = false) (h : PQ n B Q e ks sg) : PQ n B (Exit.noGoto Q) e ks sg := fun a w ha hw => by
  cases e <;> first | exact h a w ha hw | cases he
/-- The blocks otherwise parted. -/
theorem PQ.perm {e : Exit} {sg' : Sg} (h : PQ n B Q e ks sg') (hp : sg.flatten.Perm sg'.flatten) : PQ n B Q e ks sg := fun a w ha hw => h a w ha (hw.perm hp)
theorem CW.perm {e : Code} {sg' : Sg} (h : CW P n B Q e ks sg') (hp : sg.flatten.Perm sg'.flatten) : CW P n B Q e ks sg := fun a w ha hw => h a w ha (hw.perm hp)
/-- A struct in a result's cell, and a slot. -/
theorem PQ.retCT {fn : Func} {R : Ending → World → Prop} {p u : Nat} {t T : TypeId} {b : Nat} {fr : Nat × Nat} {l : List Value} {v : Value} (hr : fn.results = #[.cell p t, .tmp u]) (hp : look ks p = some (.pointer (some ⟨b, 0, none⟩))) (hu : look ks u = some v)
    (hm : InS (b, .cells l.toArray T fr) sg) (hg : ∀ w, (isAgg t).run P w = .ok true w) (hs : ∀ w, (sizeOf t).run P w = .ok l.length w) (h : ∀ w, Hp B sg w → R (.returned (.tuple #[.agg l.toArray, v])) w) : PQ n B (bodyPost P fn R) .ret ks sg :=
  PQ.ret_of (fun a w ha hw => by
    rw [results_cell_tmp hr, getD_of (ha.at_ _ _ hp), getD_of (ha.at_ _ _ hu)]
    have h1 := run_loadVar_many (P := P) (t := t) (range_of_block (o := 0) (r := []) (hw.own _ hm.mem) (by simp : l.drop 0 = l ++ [])) hg hs
    simp [asAddr, Result.andThen, h1]) h

/-! ### Structs compared -/
inductive EqF (P : Program) : Nat → List Field → List Value → List Value → Bool → Prop
  | nil {o : Nat} : EqF P o [] [] [] true
  | int {o : Nat} {f : Field} {fs : List Field} {k k' : IntKind} {i j : Int} {l m : List Value} {r : Bool} (hn : (f.name == "_") = false) (ho : f.offset = o) (ha : ∀ w, (isAgg f.type).run P w = .ok false w) (hu : P.underlying f.type = some (.int k'))
      (h : EqF P (o + 1) fs l m r) : EqF P o (f :: fs) (.int k i :: l) (.int k j :: m) (i == j && r)
  | str {o : Nat} {f : Field} {fs : List Field} {i j : ByteArray} {l m : List Value} {r : Bool} (hn : (f.name == "_") = false) (ho : f.offset = o) (ha : ∀ w, (isAgg f.type).run P w = .ok false w) (hu : P.underlying f.type = some .string)
      (h : EqF P (o + 1) fs l m r) : EqF P o (f :: fs) (.string i :: l) (.string j :: m) (decide (i = j) && r)
  | bool {o : Nat} {f : Field} {fs : List Field} {i j : Bool} {l m : List Value} {r : Bool} (hn : (f.name == "_") = false) (ho : f.offset = o) (ha : ∀ w, (isAgg f.type).run P w = .ok false w) (hu : P.underlying f.type = some .bool)
      (h : EqF P (o + 1) fs l m r) : EqF P o (f :: fs) (.bool i :: l) (.bool j :: m) (i == j && r)
theorem run_part_cell {t : TypeId} {xs : Array Value} {o : Nat} {v : Value} {l : List Value} (ha : ∀ w, (isAgg t).run P w = .ok false w) (h : xs.toList.drop o = v :: l) (w : World) : (part t xs o).run P w = .ok v w := by
  have : xs[o]? = some v := by
    rw [← Array.getElem?_toList]
    have := congrArg (fun l => l[0]?) h
    simpa using this
  simp [part, Sem.run_bind, ha, this]
theorem drop_tail {xs : Array Value} {o : Nat} {v : Value} {l : List Value} (h : xs.toList.drop o = v :: l) : xs.toList.drop (o + 1) = l := by
  rw [Nat.add_comm, ← List.drop_drop]
  have := congrArg (List.drop 1) h
  rw [List.drop_drop] at this ⊢
  simpa [Nat.add_comm] using this
theorem run_eqFields {xs ys : Array Value} (dd : Nat) (w : World) {o : Nat} {fs : List Field} {l m : List Value} {r : Bool} (h : EqF P o fs l m r) : xs.toList.drop o = l → ys.toList.drop o = m → (Op.eqFields (dd + 1) xs ys fs).run P w = .ok r w := by
  induction h with
  | nil => intro _ _; rfl
  | int hn ho ha hu h ih =>
    intro hx hy
    subst ho
    have hn' := by simpa using hn
    simp only [Op.eqFields, hn', ne_eq, not_false_eq_true, if_true, Sem.run_bind, run_part_cell ha hx, run_part_cell ha hy, Result.andThen_ok, run_equalIn_int w dd _ _ _ _ _ hu, Sem.run_ite]
    rename_i i j _ _ _
    cases hij : (i == j)
    · simp
    · simp [ih (drop_tail hx) (drop_tail hy)]
  | str hn ho ha hu h ih =>
    intro hx hy
    subst ho
    have hn' := by simpa using hn
    simp only [Op.eqFields, hn', ne_eq, not_false_eq_true, if_true, Sem.run_bind, run_part_cell ha hx, run_part_cell ha hy, Result.andThen_ok, run_equalIn_string w dd _ _ _ hu, Sem.run_ite, toList_beq]
    rename_i i j _ _ _
    by_cases hij : i = j
    · simp [hij, ih (drop_tail hx) (drop_tail hy)]
    · simp [hij]
  | bool hn ho ha hu h ih =>
    intro hx hy
    subst ho
    have hn' := by simpa using hn
    simp only [Op.eqFields, hn', ne_eq, not_false_eq_true, if_true, Sem.run_bind, run_part_cell ha hx, run_part_cell ha hy, Result.andThen_ok, run_equalIn_bool' w dd _ _ _ hu, Sem.run_ite]
    rename_i i j _ _ _
    cases hij : (i == j)
    · simp
    · simp [ih (drop_tail hx) (drop_tail hy)]
theorem run_equalA {t : TypeId} {fs : Array Field} {xs ys : List Value} {r : Bool} (hu : P.underlying t = some (.struct fs)) (hp : P.stoodInHeld t = false) (h : EqF P 0 fs.toList xs ys r) (w : World) : (Op.equalIn 10000 t (.agg xs.toArray) (.agg ys.toArray)).run P w = .ok r w := by
  have hf : P.fieldsOf t = fs := by simp [Program.fieldsOf, hu]
  rw [run_equalIn_struct w 9999 t _ _ (by rw [hf]; exact hu) hp, hf]
  exact run_eqFields 9998 w h (by simp) (by simp)
theorem Val.eqA {t t' : TypeId} {x y : Operand} {fs : Array Field} {xs ys : List Value} {r : Bool} (hx : ev ks x = some (.agg xs.toArray)) (hy : ev ks y = some (.agg ys.toArray)) (hm : P.eqGuardType P.depth t = false) (hu : P.underlying t = some (.struct fs)) (hp : P.stoodInHeld t = false)
    (h : EqF P 0 fs.toList xs ys r) : Val P n B ⟨d, .binOp .eql t x y t', ty, pos, aft, g⟩ ks sg (.bool r) := Val.bin hx hy fun w => by
  rw [Sem.run_bind, run_eqGuard_agg w .eql t x y _ _ hm]
  simp only [Result.andThen_ok]
  rw [run_eql_struct, run_equalA hu hp h]; rfl
theorem Val.neA {t t' : TypeId} {x y : Operand} {fs : Array Field} {xs ys : List Value} {r : Bool} (hx : ev ks x = some (.agg xs.toArray)) (hy : ev ks y = some (.agg ys.toArray)) (hm : P.eqGuardType P.depth t = false) (hu : P.underlying t = some (.struct fs)) (hp : P.stoodInHeld t = false)
    (h : EqF P 0 fs.toList xs ys r) : Val P n B ⟨d, .binOp .neq t x y t', ty, pos, aft, g⟩ ks sg (.bool (!r)) := Val.bin hx hy fun w => by
  rw [Sem.run_bind, run_eqGuard_agg w .neq t x y _ _ hm]
  simp only [Result.andThen_ok]
  rw [run_neq_struct, run_equalA hu hp h]; rfl

/-! ### Elements of texts and arrays that are values -/
theorem Val.indexS {t : TypeId} {x y : Operand} {k : IntKind} {i : Nat} {s : ByteArray} {u : UInt8} (hx : ev ks x = some (.string s)) (hy : ev ks y = some (.int k (i : Nat))) (hu : P.underlying t = some .string) (h1 : s[i]? = some u) :
    Val P n B ⟨d, .index t x y, ty, pos, aft, g⟩ ks sg (.int .u8 (u.toNat : Nat)) := fun a w ha hw => by
  show (do pure (Next.value (← Instr.index t (a.eval x) (a.eval y))) : Sem Next).run P w = _
  rw [ha.ev hx, ha.ev hy]
  refine run_value ?_
  simp [Instr.index, asIntOf, Sem.run_bind, run_underlying hu, h1]
theorem Val.indexArr {t e : TypeId} {x y : Operand} {k : IntKind} {i m : Nat} {cs : List Value} {v : Value} (hx : ev ks x = some (.agg cs.toArray)) (hy : ev ks y = some (.int k (i : Nat))) (hu : P.underlying t = some (.array m e)) (hs : ∀ w, (sizeOf e).run P w = .ok 1 w) (ha : ∀ w, (isAgg e).run P w = .ok false w) (h : i < m) (hv : cs[i]? = some v) :
    Val P n B ⟨d, .index t x y, ty, pos, aft, g⟩ ks sg v := fun a w haa hw => by
  show (do pure (Next.value (← Instr.index t (a.eval x) (a.eval y))) : Sem Next).run P w = _
  rw [haa.ev hx, haa.ev hy]
  refine run_value ?_
  simp [Instr.index, asIntOf, Sem.run_bind, run_underlying hu, hs, h, part, ha, hv]

/-! ### Maps by text -/
abbrev ME := List (Nat × ByteArray × Value)
def mE (e : Nat × ByteArray × Value) : MapEntry := ⟨.string e.2.1, e.2.2, e.1⟩
def mpO (E : ME) (c : Nat) : Obj := .map (E.map mE).toArray c
def mfind : ME → ByteArray → Nat → Option (Nat × Value)
  | [], _, _ => none
  | e :: r, k, i => if e.2.1 = k then some (i, e.2.2) else mfind r k (i + 1)
def mget : ME → ByteArray → Option Value
  | [], _ => none
  | e :: r, k => if e.2.1 = k then some e.2.2 else mget r k
def mupd : ME → ByteArray → Value → ME
  | [], _, _ => []
  | e :: r, k, v => if e.2.1 = k then (e.1, k, v) :: r else e :: mupd r k v
def mdel : ME → ByteArray → ME
  | [], _ => []
  | e :: r, k => if e.2.1 = k then r else e :: mdel r k
def mput (E : ME) (k : ByteArray) (v : Value) (c : Nat) : ME := if (mget E k).isSome then mupd E k v else E ++ [(c, k, v)]
def mclk (E : ME) (k : ByteArray) (c : Nat) : Nat := if (mget E k).isSome then c else c + 1
theorem findNow_mfind (k : ByteArray) : ∀ (E : ME) (i : Nat), Instr.findNow .string (.string k) (E.map mE) i = some (mfind E k i)
  | [], i => rfl
  | e :: r, i => by
    simp only [List.map_cons, Instr.findNow, mE, Instr.sameNow, mfind]
    by_cases h : e.2.1 = k
    · have : (k == e.2.1) = true := (bytes_beq _ _).2 h.symm
      rw [this, if_pos h]
    · have : (k == e.2.1) = false := by
        cases hb : (k == e.2.1)
        · rfl
        · exact absurd ((bytes_beq _ _).1 hb).symm h
      simp only [this, if_neg h]
      exact findNow_mfind k r (i + 1)
theorem mfind_get (k : ByteArray) : ∀ (E : ME) (i : Nat), (mfind E k i).map (·.2) = mget E k
  | [], i => rfl
  | e :: r, i => by
    simp only [mfind, mget]
    split
    · rfl
    · exact mfind_get k r (i + 1)
theorem mfind_at (k : ByteArray) : ∀ (E : ME) (i : Nat) (j : Nat) (u : Value), mfind E k i = some (j, u) → ∃ q, j = i + q ∧ (∃ e, E[q]? = some e ∧ e.2.1 = k) ∧ (∀ v, (E.map mE).modify q (fun e => { e with key := .string k, val := v }) = (mupd E k v).map mE) ∧ (E.map mE).eraseIdx q = (mdel E k).map mE
  | [], i, j, u, h => by cases h
  | e :: r, i, j, u, h => by
    simp only [mfind] at h
    by_cases hk : e.2.1 = k
    · rw [if_pos hk] at h
      simp only [Option.some.injEq, Prod.mk.injEq] at h
      refine ⟨0, h.1.symm, ⟨e, rfl, hk⟩, fun v => ?_, ?_⟩
      · simp [mupd, hk, mE]
      · simp [mdel, hk]
    · rw [if_neg hk] at h
      obtain ⟨q, h1, ⟨e', h2, h3⟩, h4, h5⟩ := mfind_at k r (i + 1) j u h
      refine ⟨q + 1, by omega, ⟨e', by simpa using h2, h3⟩, fun v => ?_, ?_⟩
      · simp only [mupd, if_neg hk, List.map_cons, List.modify_succ_cons, h4 v]
      · simp only [mdel, if_neg hk, List.map_cons, List.eraseIdx_cons_succ, h5]
theorem mdel_none (k : ByteArray) : ∀ (E : ME), mget E k = none → mdel E k = E
  | [], _ => rfl
  | e :: r, h => by
    simp only [mget] at h
    by_cases hk : e.2.1 = k
    · simp [hk] at h
    · rw [if_neg hk] at h
      simp only [mdel, if_neg hk, mdel_none k r h]
theorem run_findKey_m {w : World} {kt : TypeId} {k : ByteArray} {E : ME} (hk : P.underlying kt = some .string) : (Instr.findKey kt (.string k) (E.map mE)).run P w = .ok (mfind E k 0) w := run_findKey hk (findNow_mfind k E 0)
theorem Val.lookup {t kt et : TypeId} {x y : Operand} {b c : Nat} {E : ME} {k : ByteArray} {z : Value} (hx : ev ks x = some (.map (some b))) (hy : ev ks y = some (.string k)) (hu : P.underlying t = some (.map kt et)) (hk : P.underlying kt = some .string) (hz : ∀ w, (zeroValue et).run P w = .ok z w) (hm : InS (b, mpO E c) sg) :
    Val P n B ⟨d, .lookup t x y true, ty, pos, aft, g⟩ ks sg (.tuple [(mget E k).getD z, .bool (mget E k).isSome].toArray) := fun a w ha hw => by
  show (do pure (Next.value (← Instr.lookup t (a.eval x) (a.eval y) true)) : Sem Next).run P w = _
  rw [ha.ev hx, ha.ev hy]
  refine run_value ?_
  have hb : w.heap[b]? = some (.map (E.map mE).toArray c) := hw.own _ hm.mem
  have hc : ∀ e, (Instr.checkKey e 10000 kt (.string k)).run P w = .ok () w := fun e => run_checkKey hk (show IsKey .string (.string k) from trivial) e 9999
  have hf := run_findKey_m (P := P) (w := w) (k := k) (E := E) hk
  have hg := mfind_get k E 0
  simp only [Instr.lookup, Sem.run_bind, run_underlying hu, Result.andThen_ok, MapKept.run_getObj_map hb, Sem.run_pure, hc, hf]
  cases hq : mfind E k 0 with
  | none => rw [hq] at hg; simp only [Option.map_none] at hg; simp [← hg, hz]
  | some p => rw [hq] at hg; simp only [Option.map_some] at hg; simp [← hg]
theorem Val.lookupNil {t kt et : TypeId} {x y : Operand} {k : ByteArray} {z : Value} (hx : ev ks x = some (.map none)) (hy : ev ks y = some (.string k)) (hu : P.underlying t = some (.map kt et)) (hk : P.underlying kt = some .string) (hz : ∀ w, (zeroValue et).run P w = .ok z w) :
    Val P n B ⟨d, .lookup t x y true, ty, pos, aft, g⟩ ks sg (.tuple [z, .bool false].toArray) := fun a w ha hw => by
  show (do pure (Next.value (← Instr.lookup t (a.eval x) (a.eval y) true)) : Sem Next).run P w = _
  rw [ha.ev hx, ha.ev hy]
  refine run_value ?_
  have hc : ∀ e, (Instr.checkKey e 10000 kt (.string k)).run P w = .ok () w := fun e => run_checkKey hk (show IsKey .string (.string k) from trivial) e 9999
  have hf : (Instr.findKey kt (.string k) []).run P w = .ok none w := run_findKey hk rfl
  simp only [Instr.lookup, Sem.run_bind, run_underlying hu, Result.andThen_ok, Sem.run_pure, hc, hf, hz, if_true]
theorem Eff.setMap {o : Oper} {b : Nat} {E E' : ME} {c c' : Nat} {sg' : Sg} {v : Value} (hu : Upd b (mpO E c) (mpO E' c') sg sg')
    (h : ∀ a w, Fr n ks a → Hp B sg w → (execOp a.eval o).run P w = .ok (.value v) { w with heap := w.heap.setIfInBounds b (mpO E' c') }) :
    Eff P n B o ks sg (α := Unit) (fun _ => True) (fun _ => v) (fun _ => sg') := fun a w K Q ha hw hk => by
  unfold Oper.wp
  rw [h a w ha hw]
  have hb := hw.own _ hu.mem
  exact hk () _ trivial (hw.upd hu rfl rfl rfl (by simp) (heap_set hb).1 (fun k hk => (heap_set hb).2 k hk))
theorem Eff.setMapS {o : Oper} {b : Nat} {E E' : ME} {c c' : Nat} {sg' : Sg} (hu : Upd b (mpO E c) (mpO E' c') sg sg')
    (h : ∀ a w, Fr n ks a → Hp B sg w → (execOp a.eval o).run P w = .ok .skip { w with heap := w.heap.setIfInBounds b (mpO E' c') }) :
    Eff P n B o ks sg (α := Unit) (fun _ => True) (fun _ => undef) (fun _ => sg') := fun a w K Q ha hw hk => by
  unfold Oper.wp
  rw [h a w ha hw]
  have hb := hw.own _ hu.mem
  exact hk () _ trivial (hw.upd hu rfl rfl rfl (by simp) (heap_set hb).1 (fun k hk => (heap_set hb).2 k hk))
theorem run_mapUpdate_m {t kt et : TypeId} {b c : Nat} {E : ME} {k : ByteArray} {v : Value} {w : World} (hu : P.underlying t = some (.map kt et)) (hk : P.underlying kt = some .string) (hb0 : w.heap[b]? = some (mpO E c)) :
    (Instr.mapUpdate t (.map (some b)) (.string k) v).run P w = .ok () { w with heap := w.heap.setIfInBounds b (mpO (mput E k v c) (mclk E k c)) } := by
  have hb : w.heap[b]? = some (.map (E.map mE).toArray c) := hb0
  have hc : ∀ e, (Instr.checkKey e 10000 kt (.string k)).run P w = .ok () w := fun e => run_checkKey hk (show IsKey .string (.string k) from trivial) e 9999
  have hf := run_findKey_m (P := P) (w := w) (k := k) (E := E) hk
  have hg := mfind_get k E 0
  simp only [Instr.mapUpdate, Sem.run_bind, run_underlying hu, Result.andThen_ok, MapKept.run_getObj_map hb, Sem.run_pure, hc, hf]
  cases hq : mfind E k 0 with
  | none =>
    rw [hq] at hg
    simp only [Option.map_none] at hg
    simp only [run_setObj_map _ hb, mput, mclk, ← hg, Option.isSome_none, Bool.false_eq_true, if_false, mpO, List.map_append, List.map_cons, List.map_nil, mE, List.push_toArray]
  | some p =>
    obtain ⟨j, u⟩ := p
    rw [hq] at hg
    simp only [Option.map_some] at hg
    obtain ⟨q, h1, ⟨e, h2, h3⟩, h4, h5⟩ := mfind_at k E 0 j u hq
    have hj : j = q := by omega
    subst hj
    have he : ((E.map mE).toArray)[j]? = some (mE e) := by simp [h2]
    have hks : (Instr.keyThatStays (mE e).key (.string k)).run P w = .ok (.string k) w := by
      have : (mE e).key = .string k := by simp [mE, h3]
      rw [this]
      exact run_keyThatStays (d := .string) trivial
    simp only [he, Option.map_some, Option.getD_some, Sem.run_bind, hks, Result.andThen_ok, run_setObj_map _ hb, mput, mclk, ← hg, Option.isSome_some, if_true, mpO, List.modify_toArray, h4 v]
theorem Eff.mapUpdate {t kt et : TypeId} {x y z : Operand} {b c : Nat} {E : ME} {k : ByteArray} {v : Value} {sg' : Sg} (hx : ev ks x = some (.map (some b))) (hy : ev ks y = some (.string k)) (hz : ev ks z = some v) (hu : P.underlying t = some (.map kt et)) (hk : P.underlying kt = some .string)
    (hU : Upd b (mpO E c) (mpO (mput E k v c) (mclk E k c)) sg sg') : Eff P n B ⟨d, .mapUpdate t x y z, ty, pos, aft, g⟩ ks sg (α := Unit) (fun _ => True) (fun _ => undef) (fun _ => sg') :=
  Eff.setMapS hU fun a w ha hw => by
    show (do Instr.mapUpdate t (a.eval x) (a.eval y) (a.eval z); pure .skip : Sem Next).run P w = _
    rw [ha.ev hx, ha.ev hy, ha.ev hz, Sem.run_bind, run_mapUpdate_m hu hk (hw.own _ hU.mem)]; rfl
theorem Eff.delete {t kt et : TypeId} {t2 : TypeId} {x y : Operand} {b c : Nat} {E : ME} {k : ByteArray} {sg' : Sg} (hx : ev ks x = some (.map (some b))) (hy : ev ks y = some (.string k)) (hu : P.underlying t = some (.map kt et)) (hk : P.underlying kt = some .string)
    (hU : Upd b (mpO E c) (mpO (mdel E k) c) sg sg') : Eff P n B ⟨d, .call { callee := .builtin .delete, args := #[x, y], argTypes := #[t, t2] }, ty, pos, aft, g⟩ ks sg (α := Unit) (fun _ => True) (fun _ => .tuple #[]) (fun _ => sg') :=
  Eff.setMap hU fun a w ha hw => by
    have hb := hw.own _ hU.mem
    have hb' : w.heap[b]? = some (.map (E.map mE).toArray c) := hb
    have e1 := ha.ev hx
    have e2 := ha.ev hy
    have hc : ∀ e, (Instr.checkKey e 10000 kt (.string k)).run P w = .ok () w := fun e => run_checkKey hk (show IsKey .string (.string k) from trivial) e 9999
    have hf := run_findKey_m (P := P) (w := w) (k := k) (E := E) hk
    have hg := mfind_get k E 0
    have key : (Builtin.delete_ #[t, t2] ty #[.map (some b), .string k]).run P w = .ok (.tuple #[]) { w with heap := w.heap.setIfInBounds b (mpO (mdel E k) c) } := by
      simp only [Builtin.delete_, List.getElem?_toArray, List.getElem?_cons_zero, List.getElem?_cons_succ, Sem.run_bind, run_underlying hu, Result.andThen_ok, MapKept.run_getObj_map hb', hc, hf]
      cases hq : mfind E k 0 with
      | none =>
        rw [hq] at hg
        simp only [Option.map_none] at hg
        simp only [Sem.run_bind, run_setObj_map _ hb', Result.andThen_ok, Sem.run_pure, mdel_none k E hg.symm, mpO]
      | some p =>
        obtain ⟨j, u⟩ := p
        obtain ⟨q, h1, ⟨e, h2, h3⟩, h4, h5⟩ := mfind_at k E 0 j u hq
        have hj : j = q := by omega
        subst hj
        have hlt : j < E.length := (List.getElem?_eq_some_iff.1 h2).1
        have he : (E.map mE).toArray.eraseIdxIfInBounds j = ((mdel E k).map mE).toArray := by
          rw [← h5]
          simp [Array.eraseIdxIfInBounds, hlt]
        simp only [Sem.run_bind, run_setObj_map _ hb', Result.andThen_ok, Sem.run_pure, he, mpO]
    simp only [execOp, resolve, invoke, Go.builtin, Sem.run_bind, Sem.run_pure, Result.andThen_ok, List.map_toArray, List.map_cons, List.map_nil, e1, e2, key]
theorem Eff.makeMap {t : TypeId} : Eff P n B ⟨d, .makeMap t none, ty, pos, aft, g⟩ ks sg (α := Nat) (fun _ => True) (fun b => .map (some b)) (fun b => [(b, mpO [] 0)] :: sg) :=
  Eff.new fun a w ha hw => by
    show (do pure (Next.value (← Instr.makeMap t none)) : Sem Next).run P w = _
    exact run_value (run_makeMap t w)
theorem Val.lenM {x : Operand} {t kt et : TypeId} {b c : Nat} {E : ME} (hx : ev ks x = some (.map (some b))) (hu : P.underlying t = some (.map kt et)) (hm : InS (b, mpO E c) sg) : Val P n B ⟨d, .call { callee := .builtin .len, args := #[x], argTypes := #[t] }, ty, pos, aft, g⟩ ks sg (.int .i64 (E.length : Nat)) := fun a w ha hw => by
  have e := ha.ev hx
  have hb : w.heap[b]? = some (.map (E.map mE).toArray c) := hw.own _ hm.mem
  simp [execOp, resolve, invoke, Go.builtin, Builtin.len_, e, goInt, run_underlying hu, MapKept.run_getObj_map hb]
theorem Val.eqM {t kt et t' : TypeId} {x y : Operand} {m : Option Nat} (hx : ev ks x = some (.map m)) (hy : ev ks y = some (.map none)) (hu : P.underlying t = some (.map kt et)) :
    Val P n B ⟨d, .binOp .eql t x y t', ty, pos, aft, g⟩ ks sg (.bool m.isNone) := Val.bin hx hy fun w => by
  show (do eqGuard .eql t x y (.map m) (.map none); (do pure (Value.bool (← Op.equal t (.map m) (.map none)))) : Sem Value).run P w = _
  have h1 : (eqGuard .eql t x y (.map m) (.map none)).run P w = .ok () w := rfl
  simp only [Sem.run_bind, h1, run_equal_map_nil w t kt et m hu, Sem.run_pure, Result.andThen_ok]
end
/-! ### One of a list's blocks -/
theorem InS.nth {r : Sg} {p : Nat × Obj} : ∀ {l : Seg} {i : Nat}, l[i]? = some p → InS p (l :: r)
  | [], i, h => by simp at h
  | q :: l, 0, h => by simp at h; subst h; exact .here
  | q :: l, i + 1, h => .inner (InS.nth (by simpa using h))
theorem Upd.nth {r : Sg} {b : Nat} {o o' : Obj} : ∀ {l : Seg} {i : Nat}, l[i]? = some (b, o) → Upd b o o' (l :: r) (l.set i (b, o') :: r)
  | [], i, h => by simp at h
  | q :: l, 0, h => by simp at h; subst h; exact .here
  | q :: l, i + 1, h => .inner (Upd.nth (by simpa using h))
/-! ### Maps' laws -/
theorem mget_append (k : ByteArray) : ∀ (E F : ME), mget (E ++ F) k = (mget E k).or (mget F k)
  | [], F => by simp [mget]
  | e :: r, F => by
    simp only [List.cons_append, mget]
    split
    · rfl
    · exact mget_append k r F
theorem mget_mupd (k q : ByteArray) (v : Value) : ∀ (E : ME), mget (mupd E k v) q = if q = k then (mget E k).map fun _ => v else mget E q
  | [] => by simp [mupd, mget]
  | e :: r => by
    simp only [mupd, mget]
    by_cases hk : e.2.1 = k
    · rw [if_pos hk]
      simp only [mget]
      by_cases hq : q = k
      · subst hq; simp [hk]
      · rw [if_neg (fun h => hq h.symm), if_neg hq, if_neg (fun h => hq (h.symm.trans hk))]
    · rw [if_neg hk]
      simp only [mget]
      rw [mget_mupd k q v r]
      by_cases hq : q = k
      · subst hq; simp [hk]
      · simp [hq]
theorem mget_mput (E : ME) (k q : ByteArray) (v : Value) (c : Nat) : mget (mput E k v c) q = if q = k then some v else mget E q := by
  unfold mput
  split
  · rename_i h
    rw [mget_mupd]
    split
    · obtain ⟨u, hu⟩ := Option.isSome_iff_exists.1 h
      rw [hu]; rfl
    · rfl
  · rename_i h
    have h' : mget E k = none := by simpa using h
    rw [mget_append]
    by_cases hq : q = k
    · subst hq; simp [h', mget]
    · have : ¬ k = q := fun e => hq e.symm
      simp [mget, hq, this]
def mnd (E : ME) : Prop := (E.map fun e => e.2.1).Nodup
theorem mget_none_of (k : ByteArray) : ∀ (E : ME), (∀ e ∈ E, e.2.1 ≠ k) → mget E k = none
  | [], _ => rfl
  | e :: r, h => by simp only [mget]; rw [if_neg (h e (by simp))]; exact mget_none_of k r fun x hx => h x (by simp [hx])
theorem mget_none_iff (k : ByteArray) : ∀ (E : ME), mget E k = none → ∀ e ∈ E, e.2.1 ≠ k
  | [], _, e, he => by simp at he
  | x :: r, h, e, he => by
    simp only [mget] at h
    by_cases hk : x.2.1 = k
    · simp [hk] at h
    · rw [if_neg hk] at h
      simp only [List.mem_cons] at he
      rcases he with rfl | he
      · exact hk
      · exact mget_none_iff k r h e he
theorem mget_mdel (k q : ByteArray) : ∀ (E : ME), mnd E → mget (mdel E k) q = if q = k then none else mget E q
  | [], _ => by simp [mdel, mget]
  | e :: r, h => by
    simp only [mnd, List.map_cons, List.nodup_cons] at h
    simp only [mdel, mget]
    by_cases hk : e.2.1 = k
    · rw [if_pos hk]
      by_cases hq : q = k
      · subst hq
        rw [if_pos rfl]
        exact mget_none_of _ _ fun x hx hc => h.1 (List.mem_map.2 ⟨x, hx, by simp [hc, hk]⟩)
      · rw [if_neg hq, if_neg (fun h => hq (h.symm.trans hk))]
    · rw [if_neg hk]
      simp only [mget]
      rw [mget_mdel k q r h.2]
      by_cases hq : q = k
      · subst hq; simp [hk]
      · simp [hq]
theorem mupd_keys (k : ByteArray) (v : Value) : ∀ (E : ME), (mupd E k v).map (fun e => e.2.1) = E.map fun e => e.2.1
  | [] => rfl
  | e :: r => by
    simp only [mupd]
    split
    · rename_i h; simp [h]
    · simp [mupd_keys k v r]
theorem mnd_mput (E : ME) (k : ByteArray) (v : Value) (c : Nat) (h : mnd E) : mnd (mput E k v c) := by
  unfold mput
  split
  · unfold mnd; rw [mupd_keys]; exact h
  · rename_i h'
    have h2 : mget E k = none := by simpa using h'
    unfold mnd
    simp only [List.map_append, List.map_cons, List.map_nil, List.nodup_append]
    refine ⟨h, by simp, fun x hx y hy e => ?_⟩
    simp only [List.mem_singleton] at hy
    subst hy; subst e
    obtain ⟨p, hp, he⟩ := List.mem_map.1 hx
    exact mget_none_iff _ _ h2 p hp he
theorem mdel_sub (k : ByteArray) : ∀ (E : ME), (mdel E k).Sublist E
  | [] => .slnil
  | e :: r => by
    simp only [mdel]
    split
    · exact List.sublist_cons_self ..
    · exact (mdel_sub k r).cons_cons e
theorem mnd_mdel (E : ME) (k : ByteArray) (h : mnd E) : mnd (mdel E k) := ((mdel_sub k E).map _).nodup h
/-- A part of a map by keys. -/
theorem mget_filter (p : ByteArray → Bool) (k : ByteArray) (hk : p k = true) : ∀ (E : ME), mget (E.filter fun e => p e.2.1) k = mget E k
  | [] => rfl
  | e :: r => by
    simp only [List.filter_cons, mget]
    by_cases h : e.2.1 = k
    · rw [h, if_pos hk, if_pos rfl]; simp [mget, h]
    · rw [if_neg h]
      cases hp : p e.2.1
      · rw [if_neg (by simp)]; exact mget_filter p k hk r
      · rw [if_pos rfl]; simp only [mget, if_neg h]; exact mget_filter p k hk r
theorem mupd_filter (p : ByteArray → Bool) (k : ByteArray) (v : Value) (hk : p k = true) : ∀ (E : ME), (mupd E k v).filter (fun e => p e.2.1) = mupd (E.filter fun e => p e.2.1) k v
  | [] => rfl
  | e :: r => by
    simp only [mupd, List.filter_cons]
    by_cases h : e.2.1 = k
    · rw [if_pos h, h, if_pos hk]; simp [List.filter_cons, hk, mupd, h]
    · rw [if_neg h]
      simp only [List.filter_cons]
      cases hp : p e.2.1
      · simp [mupd_filter p k v hk r]
      · simp [mupd, h, mupd_filter p k v hk r]
theorem mupd_filter_out (p : ByteArray → Bool) (k : ByteArray) (v : Value) (hk : p k = false) : ∀ (E : ME), (mupd E k v).filter (fun e => p e.2.1) = E.filter fun e => p e.2.1
  | [] => rfl
  | e :: r => by
    simp only [mupd]
    by_cases h : e.2.1 = k
    · rw [if_pos h]; simp [List.filter_cons, hk, h]
    · rw [if_neg h]; simp [List.filter_cons, mupd_filter_out p k v hk r]
theorem mput_filter (p : ByteArray → Bool) (k : ByteArray) (v : Value) (c : Nat) (E : ME) : (mput E k v c).filter (fun e => p e.2.1) = if p k then mput (E.filter fun e => p e.2.1) k v c else E.filter fun e => p e.2.1 := by
  cases hk : p k
  · unfold mput
    split
    · simp [mupd_filter_out p k v hk E]
    · simp [hk]
  · unfold mput
    rw [mget_filter p k hk E]
    split
    · simp [mupd_filter p k v hk E]
    · simp [hk]
theorem mdel_filter (p : ByteArray → Bool) (k : ByteArray) : ∀ (E : ME), (mdel E k).filter (fun e => p e.2.1) = if p k then mdel (E.filter fun e => p e.2.1) k else E.filter fun e => p e.2.1
  | [] => by simp [mdel]
  | e :: r => by
    simp only [mdel]
    by_cases h : e.2.1 = k
    · rw [if_pos h]
      cases hk : p k
      · simp [List.filter_cons, h, hk]
      · simp [List.filter_cons, h, hk, mdel]
    · rw [if_neg h]
      have ih := mdel_filter p k r
      cases hk : p k <;> rw [hk] at ih <;> simp only [if_true, Bool.false_eq_true, if_false] at ih <;> cases hp : p e.2.1 <;> simp [List.filter_cons, hp, ih, mdel, h]
end Go.Proofs.YtlpbjmbgopfkhaaGreat.V
