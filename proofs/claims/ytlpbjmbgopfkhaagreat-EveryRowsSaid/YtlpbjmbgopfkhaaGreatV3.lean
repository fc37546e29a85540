/- A small calculus of symbolic states, part 3: the forms in which the printed walks use the rules. No program in sight. -/
import Derived.Test.YtlpbjmbgopfkhaaGreatV2
namespace Go.Proofs.YtlpbjmbgopfkhaaGreat.V
open Go Go.RowKit
set_option linter.unusedVariables false
section
variable {P : Program} {n : Nat} {B : Base} {Q : Exit → Act → World → Prop} {ks : Ks} {sg : Sg} {ops : Array Oper} {rest : List Oper}
variable {d : Nat} {op : Op} {ty : TypeId} {pos : String} {aft : Array Edge} {g : Option (Nat × Bool)}
theorem LW.v {v : Value} (hg : gd ops ks g = some true) (hd : Nat.blt d n = true) (hv : Val P n B ⟨some d, op, ty, pos, aft, g⟩ ks sg v) (h : LW P n B ops Q rest ((d, v) :: ks) sg) : LW P n B ops Q (⟨some d, op, ty, pos, aft, g⟩ :: rest) ks sg := LW.val hg hd hv h
theorem LW.p (hg : gd ops ks g = some false) (hd : Nat.blt d n = true) (h : LW P n B ops Q rest ((d, undef) :: ks) sg) : LW P n B ops Q (⟨some d, op, ty, pos, aft, g⟩ :: rest) ks sg := LW.pass hg hd h
theorem LW.pN (hg : gd ops ks g = some false) (h : LW P n B ops Q rest ks sg) : LW P n B ops Q (⟨none, op, ty, pos, aft, g⟩ :: rest) ks sg := LW.pass hg rfl h
theorem LW.e {α : Type} {φ : α → Prop} {v : α → Value} {sg' : α → Sg} (hg : gd ops ks g = some true) (hd : Nat.blt d n = true) (he : Eff P n B ⟨some d, op, ty, pos, aft, g⟩ ks sg φ v sg')
    (h : ∀ x, φ x → LW P n B ops Q rest ((d, v x) :: ks) (sg' x)) : LW P n B ops Q (⟨some d, op, ty, pos, aft, g⟩ :: rest) ks sg := LW.eff hg hd he h
theorem LW.eN {α : Type} {φ : α → Prop} {v : α → Value} {sg' : α → Sg} (hg : gd ops ks g = some true) (he : Eff P n B ⟨none, op, ty, pos, aft, g⟩ ks sg φ v sg')
    (h : ∀ x, φ x → LW P n B ops Q rest ks (sg' x)) : LW P n B ops Q (⟨none, op, ty, pos, aft, g⟩ :: rest) ks sg := LW.eff hg rfl he h
theorem QW.v {v : Value} (hg : gd ops ks g = some true) (hd : Nat.blt d n = true) (hv : Val P n B ⟨some d, op, ty, pos, aft, g⟩ ks sg v) (h : QW P n B ops Q sg rest ((d, v) :: ks)) : QW P n B ops Q sg (⟨some d, op, ty, pos, aft, g⟩ :: rest) ks := QW.val hg hd hv h
theorem QW.p (hg : gd ops ks g = some false) (hd : Nat.blt d n = true) (h : QW P n B ops Q sg rest ((d, undef) :: ks)) : QW P n B ops Q sg (⟨some d, op, ty, pos, aft, g⟩ :: rest) ks := QW.pass hg hd h
theorem QW.pN (hg : gd ops ks g = some false) (h : QW P n B ops Q sg rest ks) : QW P n B ops Q sg (⟨none, op, ty, pos, aft, g⟩ :: rest) ks := QW.pass hg rfl h
theorem QW.c {v : Value} (hg : gd ops ks g = some true) (hd : Nat.blt d n = true) (hv : Qcall P n B ⟨some d, op, ty, pos, aft, g⟩ ks sg v) (h : QW P n B ops Q sg rest ((d, v) :: ks)) : QW P n B ops Q sg (⟨some d, op, ty, pos, aft, g⟩ :: rest) ks := QW.call hg hd hv h
theorem RW.v {S : Sg} {fuel : Nat} {listed : Array Bool} {v : Value} (i : Nat) (hi : ops[i]? = some ⟨some d, op, ty, pos, aft, g⟩) (hs : Region.noSelect ops = true) (hf : Region.free .any ops listed i = true) (hr : (Region.ready .any ops listed).contains i = true)
    (hQ : ∀ c a w, Q (.panic c) (a.put (some d) v) w → Q (.panic c) a w) (hg : gd ops ks g = some true) (hd : Nat.blt d n = true) (hv : Val P n B ⟨some d, op, ty, pos, aft, g⟩ ks S v)
    (h : RW P n B ops Q S fuel (listed.setIfInBounds i true) ((d, v) :: ks) sg) : RW P n B ops Q S (fuel + 1) listed ks sg := RW.take i hi hs hf hr hQ hg hd hv h
theorem RW.p {S : Sg} {fuel : Nat} {listed : Array Bool} (i : Nat) (hi : ops[i]? = some ⟨some d, op, ty, pos, aft, g⟩) (hs : Region.noSelect ops = true) (hf : Region.free .any ops listed i = true) (hr : (Region.ready .any ops listed).contains i = true)
    (hQ : ∀ c a w, Q (.panic c) (a.put (some d) undef) w → Q (.panic c) a w) (hg : gd ops ks g = some false) (hd : Nat.blt d n = true)
    (h : RW P n B ops Q S fuel (listed.setIfInBounds i true) ((d, undef) :: ks) sg) : RW P n B ops Q S (fuel + 1) listed ks sg := RW.leave i hi hs hf hr hQ hg hd h
theorem RW.e {S : Sg} {fuel : Nat} {listed : Array Bool} {α : Type} {φ : α → Prop} {v : α → Value} {sg' : α → Sg} (i : Nat) (hi : ops[i]? = some ⟨some d, op, ty, pos, aft, g⟩) (hr : Region.ready .any ops listed = [i])
    (hg : gd ops ks g = some true) (hd : Nat.blt d n = true) (he : Eff P n B ⟨some d, op, ty, pos, aft, g⟩ ks sg φ v sg') (hS : ∀ x, ∃ r, Pick S (sg' x) r)
    (h : ∀ x, φ x → RW P n B ops Q S fuel (listed.setIfInBounds i true) ((d, v x) :: ks) (sg' x)) : RW P n B ops Q S (fuel + 1) listed ks sg := RW.eff i hi hr hg hd he hS h
theorem RW.eN {S : Sg} {fuel : Nat} {listed : Array Bool} {α : Type} {φ : α → Prop} {v : α → Value} {sg' : α → Sg} (i : Nat) (hi : ops[i]? = some ⟨none, op, ty, pos, aft, g⟩) (hr : Region.ready .any ops listed = [i])
    (hg : gd ops ks g = some true) (he : Eff P n B ⟨none, op, ty, pos, aft, g⟩ ks sg φ v sg') (hS : ∀ x, ∃ r, Pick S (sg' x) r)
    (h : ∀ x, φ x → RW P n B ops Q S fuel (listed.setIfInBounds i true) ks (sg' x)) : RW P n B ops Q S (fuel + 1) listed ks sg := RW.eff i hi hr hg rfl he hS h
theorem RO.e {S : Sg} {fuel : Nat} {listed : Array Bool} {α : Type} {φ : α → Prop} {v : α → Value} {sg' : α → Sg} {i : Nat} (hi : ops[i]? = some ⟨some d, op, ty, pos, aft, g⟩)
    (hg : gd ops ks g = some true) (hd : Nat.blt d n = true) (he : Eff P n B ⟨some d, op, ty, pos, aft, g⟩ ks sg φ v sg') (hS : ∀ x, ∃ r, Pick S (sg' x) r)
    (h : ∀ x, φ x → RW P n B ops Q S fuel (listed.setIfInBounds i true) ((d, v x) :: ks) (sg' x)) : RO P n B ops Q S fuel listed ks sg i := RO.eff hi hg hd he hS h
theorem RO.eN {S : Sg} {fuel : Nat} {listed : Array Bool} {α : Type} {φ : α → Prop} {v : α → Value} {sg' : α → Sg} {i : Nat} (hi : ops[i]? = some ⟨none, op, ty, pos, aft, g⟩)
    (hg : gd ops ks g = some true) (he : Eff P n B ⟨none, op, ty, pos, aft, g⟩ ks sg φ v sg') (hS : ∀ x, ∃ r, Pick S (sg' x) r)
    (h : ∀ x, φ x → RW P n B ops Q S fuel (listed.setIfInBounds i true) ks (sg' x)) : RO P n B ops Q S fuel listed ks sg i := RO.eff hi hg rfl he hS h
theorem Fr.re {a : Act} {v v' : Value} (ha : Fr n ks a) (hl : look ks d = some v) (e : v = v') : Fr n ((d, v') :: ks) a := ⟨ha.defers, ha.size, fun i u hi => by
  simp only [look] at hi
  by_cases e' : d = i
  · subst e'; simp at hi; subst hi; subst e; exact ha.at_ _ _ hl
  · rw [nbeq e'] at hi; exact ha.at_ _ _ hi⟩
/-- A slot's value in other words. -/
theorem LW.re {l : List Oper} (d : Nat) {v : Value} (v' : Value) (hl : look ks d = some v) (e : v = v') (h : LW P n B ops Q l ((d, v') :: ks) sg) : LW P n B ops Q l ks sg := fun a w ha hw => h a w (ha.re hl e) hw
theorem QW.re {l : List Oper} (d : Nat) {v : Value} (v' : Value) (hl : look ks d = some v) (e : v = v') (h : QW P n B ops Q sg l ((d, v') :: ks)) : QW P n B ops Q sg l ks := fun a ha => h a (ha.re hl e)
theorem RW.re {S : Sg} {fuel : Nat} {listed : Array Bool} (d : Nat) {v : Value} (v' : Value) (hl : look ks d = some v) (e : v = v') (h : RW P n B ops Q S fuel listed ((d, v') :: ks) sg) : RW P n B ops Q S fuel listed ks sg := fun a w ha hw hS => h a w (ha.re hl e) hw hS
theorem CW.re {c : Code} (d : Nat) {v : Value} (v' : Value) (hl : look ks d = some v) (e : v = v') (h : CW P n B Q c ((d, v') :: ks) sg) : CW P n B Q c ks sg := fun a w ha hw => h a w (ha.re hl e) hw
theorem PQ.re {x : Exit} (d : Nat) {v : Value} (v' : Value) (hl : look ks d = some v) (e : v = v') (h : PQ n B Q x ((d, v') :: ks) sg) : PQ n B Q x ks sg := fun a w ha hw => h a w (ha.re hl e) hw
/-- The blocks in other words. -/
theorem PQ.segs {x : Exit} {ss r : Sg} (h : PQ n B Q x ks ss) (hp : Pick ss sg r) : PQ n B Q x ks sg := fun a w ha hw => h a w ha (hw.pick hp)
theorem LW.segs {l : List Oper} {ss r : Sg} (h : LW P n B ops Q l ks ss) (hp : Pick ss sg r) : LW P n B ops Q l ks sg := fun a w ha hw => h a w ha (hw.pick hp)
end

/-! ### What a test says -/
class BT (b : Bool) (p : outParam Prop) : Prop where
  out : b = true → p
class BF (b : Bool) (p : outParam Prop) : Prop where
  out : b = false → p
theorem bT {b : Bool} {p : Prop} [h : BT b p] (e : b = true) : p := h.out e
theorem bF {b : Bool} {p : Prop} [h : BF b p] (e : b = false) : p := h.out e
instance (priority := low) (b : Bool) : BT b (b = true) := ⟨id⟩
instance (priority := low) (b : Bool) : BF b (b = false) := ⟨id⟩
instance (p : Prop) [Decidable p] : BT (decide p) p := ⟨of_decide_eq_true⟩
instance (p : Prop) [Decidable p] : BF (decide p) (¬ p) := ⟨of_decide_eq_false⟩
instance (priority := high) (a b : Int) : BF (decide (a < b)) (b ≤ a) := ⟨fun h => Int.not_lt.1 (of_decide_eq_false h)⟩
instance (priority := high) (a b : Int) : BF (decide (a ≤ b)) (b < a) := ⟨fun h => Int.not_le.1 (of_decide_eq_false h)⟩
instance (a b : Int) : BT (a == b) (a = b) := ⟨fun h => by simpa using h⟩
instance (a b : Int) : BF (a == b) (a ≠ b) := ⟨fun h => by simpa using h⟩
instance (a b : Int) : BT (a != b) (a ≠ b) := ⟨fun h => by simpa using h⟩
instance (a b : Int) : BF (a != b) (a = b) := ⟨fun h => by simpa using h⟩
instance (b : Bool) (p : Prop) [h : BF b p] : BT (!b) p := ⟨fun e => h.out (by simpa using e)⟩
instance (b : Bool) (p : Prop) [h : BT b p] : BF (!b) p := ⟨fun e => h.out (by simpa using e)⟩
instance (b c : Bool) (p q : Prop) [h : BT b p] [h' : BT c q] : BT (b && c) (p ∧ q) := ⟨fun e => by rw [Bool.and_eq_true] at e; exact ⟨h.out e.1, h'.out e.2⟩⟩
instance (b c : Bool) (p q : Prop) [h : BF b p] [h' : BF c q] : BF (b || c) (p ∧ q) := ⟨fun e => by rw [Bool.or_eq_false_iff] at e; exact ⟨h.out e.1, h'.out e.2⟩⟩
instance (priority := high) : BT false False := ⟨fun e => by cases e⟩
instance (priority := high) : BF true False := ⟨fun e => by cases e⟩

/-! ### Made values -/
section
variable {P : Program} {n : Nat} {B : Base} {ks : Ks} {sg : Sg} {d : Option Tmp} {ty : TypeId} {pos : String} {aft : Array Edge} {g : Option (Nat × Bool)}
theorem Eff.allocA {t : TypeId} {l : List Value} (hz : ∀ w, (zeroValue t).run P w = .ok (.agg l.toArray) w) : Eff P n B ⟨d, .alloc t, ty, pos, aft, g⟩ ks sg (α := Nat) (fun _ => True) (fun b => .pointer (some ⟨b, 0, none⟩)) (fun b => [(b, .cells l.toArray t (0, 0))] :: sg) := Eff.alloc hz
theorem cells_one {v : Value} (h1 : v.oneCell' = true) : v.cells = #[v] := by cases v <;> first | rfl | cases h1
theorem Eff.allocS {t : TypeId} {v : Value} (h1 : v.oneCell' = true) (hz : ∀ w, (zeroValue t).run P w = .ok v w) : Eff P n B ⟨d, .alloc t, ty, pos, aft, g⟩ ks sg (α := Nat) (fun _ => True) (fun b => .pointer (some ⟨b, 0, none⟩)) (fun b => [(b, .cells [v].toArray t (0, 0))] :: sg) := by
  have := Eff.alloc (P := P) (n := n) (B := B) (ks := ks) (sg := sg) (d := d) (ty := ty) (pos := pos) (aft := aft) (g := g) hz
  rwa [cells_one h1] at this
theorem Eff.boxA {t : TypeId} {x : Operand} {l : List Value} (hx : ev ks x = some (.agg l.toArray)) : Eff P n B ⟨d, .box t x, ty, pos, aft, g⟩ ks sg (α := Nat) (fun _ => True) (fun b => .pointer (some ⟨b, 0, none⟩)) (fun b => [(b, .cells l.toArray t (0, 0))] :: sg) := Eff.box hx
theorem Eff.boxS {t : TypeId} {x : Operand} {v : Value} (hx : ev ks x = some v) (h1 : v.oneCell' = true) : Eff P n B ⟨d, .box t x, ty, pos, aft, g⟩ ks sg (α := Nat) (fun _ => True) (fun b => .pointer (some ⟨b, 0, none⟩)) (fun b => [(b, .cells [v].toArray t (0, 0))] :: sg) := by
  have := Eff.box (P := P) (n := n) (B := B) (sg := sg) (d := d) (ty := ty) (pos := pos) (aft := aft) (g := g) (t := t) hx
  rwa [cells_one h1] at this
theorem Eff.storeA {t T : TypeId} {x y : Operand} {b o : Nat} {l cs l' : List Value} {sg' : Sg} (hx : ev ks x = some (.pointer (some ⟨b, o, none⟩))) (hy : ev ks y = some (.agg cs.toArray))
    (hu : Upd b (.cells l.toArray T (0, 0)) (.cells l'.toArray T (0, 0)) sg sg') (hl : splice l o cs = l') (hlen : o + cs.length ≤ l.length) (hs : ∀ w, (sizeOf t).run P w = .ok cs.length w) (h1 : cs.all (·.oneCell') = true) :
    Eff P n B ⟨d, .store t x y, ty, pos, aft, g⟩ ks sg (α := Unit) (fun _ => True) (fun _ => undef) (fun _ => sg') :=
  Eff.store_of hx hy hu (by simpa [Value.cells] using hl) (by simpa [Value.cells] using hlen) (by simpa [Value.cells] using hs) (by simpa [Value.cells] using h1)

/-- The parts are laid into the cells, each at its place. -/
def fillL (pl : Nat → Option (Nat × Nat)) : List Value → List (Nat × Value) → Option (List Value)
  | l, [] => some l
  | l, (i, v) :: r => match pl i with
    | none => none
    | some (o, s) => match Nat.beq v.cells.toList.length s && Nat.ble (o + s) l.length with
      | true => fillL pl (splice l o v.cells.toList) r
      | false => none
theorem foldl_splice (o : Nat) : ∀ (cs : List Value) (k : Nat) (l : List Value),
    ((cs.zipIdx k).foldl (fun (a : Array Value) (c, j) => a.setIfInBounds (o + j) c) l.toArray) = (splice l (o + k) cs).toArray
  | [], k, l => rfl
  | c :: cs, k, l => by
    simp only [List.zipIdx_cons, List.foldl_cons, List.setIfInBounds_toArray, splice]
    rw [foldl_splice o cs (k + 1) (l.set (o + k) c)]
    rfl
theorem fill_of_fillL (pl : Nat → Option (Nat × Nat)) : ∀ (ps : List (Nat × Value)) (l l' : List Value), fillL pl l ps = some l' → Instr.fill pl l.toArray ps = some l'.toArray
  | [], l, l', h => by simp [fillL] at h; simp [Instr.fill, h]
  | (i, v) :: r, l, l', h => by
    simp only [fillL] at h
    simp only [Instr.fill]
    cases hp : pl i with
    | none => rw [hp] at h; simp at h
    | some os =>
      obtain ⟨o, s⟩ := os
      rw [hp] at h
      simp only at h ⊢
      cases hb : (Nat.beq v.cells.toList.length s && Nat.ble (o + s) l.length) with
      | false => rw [hb] at h; simp at h
      | true =>
        rw [hb] at h
        simp only at h
        simp only [Bool.and_eq_true] at hb
        have h1 := Nat.eq_of_beq_eq_true hb.1
        have h2 := Nat.le_of_ble_eq_true hb.2
        simp only [Array.length_toList] at h1
        rw [if_neg (by simp only [Bool.or_eq_true, decide_eq_true_eq, ne_eq, List.size_toArray]; omega)]
        have hf := foldl_splice o v.cells.toList 0 l
        have hz : v.cells.zipIdx.foldl (fun (a : Array Value) (c, j) => a.setIfInBounds (o + j) c) l.toArray = (splice l o v.cells.toList).toArray := by
          rw [← Array.foldl_toList]
          simpa using hf
        rw [hz]
        exact fill_of_fillL pl r _ _ h
def evp (ks : Ks) : List (Nat × Operand) → Option (List (Nat × Value))
  | [] => some []
  | (i, x) :: r => match ev ks x with
    | some v => match evp ks r with
      | some l => some ((i, v) :: l)
      | none => none
    | none => none
theorem Fr.evp {a : Act} (ha : Fr n ks a) : ∀ {xs : List (Nat × Operand)} {vs : List (Nat × Value)}, V.evp ks xs = some vs → (xs.map fun (i, x) => (i, a.eval x)) = vs
  | [], vs, h => by simp [V.evp] at h; simp [h]
  | (i, x) :: r, vs, h => by
    simp only [V.evp] at h
    cases hx : V.ev ks x with
    | none => rw [hx] at h; simp at h
    | some v =>
      rw [hx] at h
      cases hr : V.evp ks r with
      | none => rw [hr] at h; simp at h
      | some l => rw [hr] at h; simp at h; subst h; simp [ha.ev hx, ha.evp hr]
/-- A struct literal. -/
theorem Val.build {t : TypeId} (cs : List Value) {ps : List (Nat × Operand)} {vs : List (Nat × Value)} {zs : List Value} {fs : Array Field} {pl : List (Nat × Nat)} (hz : ∀ w, (zeroValue t).run P w = .ok (.agg zs.toArray) w) (hu : P.underlying t = some (.struct fs))
    (hp : ∀ w, (fs.mapM fun f => do pure (f.offset, ← sizeOf f.type) : Sem (Array (Nat × Nat))).run P w = .ok pl.toArray w) (hv : evp ks ps = some vs) (hf : fillL (fun (i : Nat) => pl[i]?) zs vs = some cs) :
    Val P n B ⟨d, .build t ps.toArray, ty, pos, aft, g⟩ ks sg (.agg cs.toArray) := fun a w ha hw => by
  show (do pure (Next.value (← Instr.build t (ps.toArray.map fun (i, x) => (i, a.eval x)))) : Sem Next).run P w = _
  refine run_value ?_
  have hm := ha.evp hv
  have hfill := fill_of_fillL _ _ _ _ hf
  have hfun : (fun (i : Nat) => (pl.toArray)[i]?) = (fun (i : Nat) => pl[i]?) := funext fun i => by simp
  simp only [Instr.build, Sem.run_bind, hz, Result.andThen_ok, run_underlying hu, hp, List.map_toArray, hm, Value.cells, hfun, hfill, Sem.run_pure]
def repL (z : List Value) : Nat → List Value
  | 0 => []
  | k + 1 => z ++ repL z k
theorem repL_length (z : List Value) : ∀ k, (repL z k).length = k * z.length
  | 0 => by simp [repL]
  | k + 1 => by simp only [repL, List.length_append, repL_length z k, Nat.add_mul, Nat.one_mul]; omega
theorem repL_get (z : List Value) : ∀ (k i : Nat), i < k * z.length → (repL z k)[i]? = z[i % z.length]?
  | 0, i, h => by simp at h
  | k + 1, i, h => by
    simp only [repL]
    by_cases hi : i < z.length
    · rw [List.getElem?_append_left hi, Nat.mod_eq_of_lt hi]
    · have hi' : z.length ≤ i := by omega
      rw [List.getElem?_append_right hi', repL_get z k (i - z.length) (by rw [Nat.add_mul, Nat.one_mul] at h; omega)]
      have : (i - z.length) % z.length = i % z.length := (Nat.mod_eq_sub_mod hi').symm
      rw [this]
theorem range_rep (z : List Value) (len : Nat) : ((Array.range (len * z.length)).map (z.toArray[· % z.toArray.size]!)) = (repL z len).toArray := by
  apply Array.ext'
  apply List.ext_getElem?
  intro i
  simp only [Array.toList_map, Array.toList_range, List.getElem?_map]
  by_cases hi : i < len * z.length
  · rw [repL_get z len i hi, List.getElem?_range hi]
    simp only [Option.map_some, List.size_toArray]
    have hpos : 0 < z.length := by
      rcases Nat.eq_zero_or_pos z.length with h0 | h0
      · rw [h0] at hi; simp at hi
      · exact h0
    have hm : i % z.length < z.length := Nat.mod_lt _ hpos
    simp [hm]
  · rw [List.getElem?_eq_none (by simp; omega), List.getElem?_eq_none (by rw [repL_length]; omega)]
    rfl
/-- A slice literal. -/
theorem Eff.buildSlice {t e : TypeId} {len sz : Nat} {z : Value} {zl : List Value} (rep : (len * sz == 0) = false) (cs : List Value) {ps : List (Nat × Operand)} {vs : List (Nat × Value)} (hu : P.underlying t = some (.slice e)) (hs : ∀ w, (sizeOf e).run P w = .ok sz w)
    (hz : ∀ w, (zeroValue e).run P w = .ok z w) (hv : evp ks ps = some vs) (hzl : z.cells = zl.toArray) (hzs : zl.length = sz) (hle : Nat.ble (len * sz) 16777216 = true) (hf : fillL (fun i => some (i * sz, sz)) (repL zl len) vs = some cs) :
    Eff P n B ⟨d, .buildSlice t len ps.toArray, ty, pos, aft, g⟩ ks sg (α := Nat) (fun _ => True) (fun b => .slice (some ⟨b, 0, none⟩) len len) (fun b => [(b, .cells cs.toArray e (0, 0))] :: sg) :=
  Eff.new fun a w ha hw => by
    show (do pure (Next.value (← Instr.buildSlice t len (ps.toArray.map fun (i, x) => (i, a.eval x)))) : Sem Next).run P w = _
    refine run_value ?_
    have hm := ha.evp hv
    have hfill := fill_of_fillL _ _ _ _ hf
    have h0 : ¬ len * sz = 0 := by simpa using rep
    have h1 : ¬ len * sz > 2 ^ 24 := by have := Nat.le_of_ble_eq_true hle; omega
    have hr := range_rep zl len
    rw [hzs] at hr
    simp only [Instr.buildSlice, Sem.run_bind, run_underlying hu, hs, Result.andThen_ok, h1, if_false, h0, hz, Sem.run_pure, hzl, hr, List.map_toArray, hm, hfill, newRow, newObj, Sem.run]
end
end Go.Proofs.YtlpbjmbgopfkhaaGreat.V
