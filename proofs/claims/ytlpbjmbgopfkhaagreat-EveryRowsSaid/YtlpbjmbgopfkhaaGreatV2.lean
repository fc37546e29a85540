/- A small calculus of symbolic states, part 2: what one operation does to a symbolic state; regions, plain and drawn. No program in sight. -/
import Derived.Test.YtlpbjmbgopfkhaaGreatV1
import Derived.IntWalk
import Derived.Deep.Quiet
import Derived.Laws.StructEq
namespace Go.Proofs.YtlpbjmbgopfkhaaGreat.V
open Go Go.RowKit
set_option linter.unusedVariables false

section
variable (P : Program) (n : Nat) (B : Base)
/-- The operation yields v and leaves the world alone. -/
def Val (o : Oper) (ks : Ks) (sg : Sg) (v : Value) : Prop := ∀ a w, Fr n ks a → Hp B sg w → (execOp a.eval o).run P w = .ok (.value v) w
/-- The operation ends in one of the states that x tells. -/
def Eff {α : Type} (o : Oper) (ks : Ks) (sg : Sg) (φ : α → Prop) (v : α → Value) (sg' : α → Sg) : Prop :=
  ∀ a w (K : Act → World → Prop) Q, Fr n ks a → Hp B sg w → (∀ x w', φ x → Hp B (sg' x) w' → K (a.put o.dst (v x)) w') → o.wp P a w K Q
end
def gd (ops : Array Oper) (ks : Ks) : Option (Nat × Bool) → Option Bool
  | none => some true
  | some (j, want) => match (ops[j]?).bind (·.dst) with
    | some d => match look ks d with
      | some (.bool b) => some (b == want)
      | some _ => some false
      | none => none
    | none => none

section
variable {P : Program} {n : Nat} {B : Base} {Q : Exit → Act → World → Prop} {ks : Ks} {sg : Sg} {ops : Array Oper} {o : Oper} {rest : List Oper}
theorem wanted_gd {a : Act} {b : Bool} (ha : Fr n ks a) (hg : gd ops ks o.guard = some b) : Region.wanted o (yielded ops a.tmps) = b := by
  unfold Region.wanted
  cases hgd : o.guard with
  | none => rw [hgd] at hg; simpa [gd] using hg
  | some g =>
    obtain ⟨j, want⟩ := g
    rw [hgd] at hg
    simp only [gd] at hg
    simp only [yielded]
    cases hd : (ops[j]?).bind (·.dst) with
    | none => rw [hd] at hg; simp at hg
    | some d =>
      rw [hd] at hg
      simp only at hg
      cases hl : look ks d with
      | none => rw [hl] at hg; simp at hg
      | some v =>
        rw [hl] at hg
        simp only [Option.bind_some, ha.at_ _ _ hl]
        cases v <;> simp only [Option.some.injEq] at hg <;> subst hg <;> first | rfl | (rename_i t; cases t <;> cases want <;> rfl)

/-! ### Plain regions -/
theorem LW.nil (h : PQ n B Q .normal ks sg) : LW P n B ops Q [] ks sg := fun a w ha hw => h a w ha hw
theorem LW.val {v : Value} (hg : gd ops ks o.guard = some true) (hd : dok n o.dst = true) (hv : Val P n B o ks sg v) (h : LW P n B ops Q rest (push ks o.dst v) sg) : LW P n B ops Q (o :: rest) ks sg :=
  fun a w ha hw => wpList_step fun K hK => by
    rw [if_pos (wanted_gd ha hg)]
    unfold Oper.wp
    rw [hv a w ha hw]
    exact hK _ _ (h _ w (ha.put hd v) hw)
theorem LW.pass (hg : gd ops ks o.guard = some false) (hd : dok n o.dst = true) (h : LW P n B ops Q rest (push ks o.dst undef) sg) : LW P n B ops Q (o :: rest) ks sg :=
  fun a w ha hw => wpList_step fun K hK => by
    rw [if_neg (by rw [wanted_gd ha hg]; exact Bool.false_ne_true)]
    exact hK _ _ (h _ w (ha.put hd _) hw)
theorem LW.eff {α : Type} {φ : α → Prop} {v : α → Value} {sg' : α → Sg} (hg : gd ops ks o.guard = some true) (hd : dok n o.dst = true) (he : Eff P n B o ks sg φ v sg')
    (h : ∀ x, φ x → LW P n B ops Q rest (push ks o.dst (v x)) (sg' x)) : LW P n B ops Q (o :: rest) ks sg :=
  fun a w ha hw => wpList_step fun K hK => by
    rw [if_pos (wanted_gd ha hg)]
    exact he a w K Q ha hw fun x w' hx hw' => hK _ _ (h x hx _ w' (ha.put hd _) hw')
/-- A slot's Bool is parted. -/
theorem LW.split {l : List Oper} {d : Nat} {t : Bool} (hl : look ks d = some (.bool t)) (h1 : t = true → LW P n B ops Q l ((d, .bool true) :: ks) sg) (h2 : t = false → LW P n B ops Q l ((d, .bool false) :: ks) sg) : LW P n B ops Q l ks sg :=
  fun a w ha hw => by
    have key : Fr n ((d, .bool t) :: ks) a := ⟨ha.defers, ha.size, fun i u hi => by
      simp only [look] at hi
      by_cases e : d = i
      · subst e; simp at hi; subst hi; exact ha.at_ _ _ hl
      · rw [nbeq e] at hi; exact ha.at_ _ _ hi⟩
    cases t
    · exact h2 rfl a w key hw
    · exact h1 rfl a w key hw
theorem LW.from {l : List Oper} {t : Ks} {ss r : Sg} (h : LW P n B ops Q l t ss) (hs : subK t ks) (hp : Pick ss sg r) : LW P n B ops Q l ks sg := fun a w ha hw => h a w (ha.sub hs) (hw.pick hp)

/-! ### Drawn regions, all of whose operations yield one value each in whatever order: the order of the text -/
def QW (P : Program) (n : Nat) (B : Base) (ops : Array Oper) (Q : Exit → Act → World → Prop) (sg : Sg) (l : List Oper) (ks : Ks) : Prop :=
  ∀ a, Fr n ks a → wpQuiet P ops (Hp B sg) (fun a' => ∀ w', Hp B sg w' → Q .normal a' w') l a
theorem CW.quiet {id : Nat} {l : List Oper} (hm : P.follows .mixedOrders = true) (hB : Region.lexB .any l.toArray = true) (h : QW P n B l.toArray Q sg l ks) : CW P n B Q (.region id l.toArray true) ks sg :=
  fun a w ha hw => wp_region_quiet (C := Hp B sg) hm hB hw.drew (by simpa using h a ha)
theorem QW.nil (h : PQ n B Q .normal ks sg) : QW P n B ops Q sg [] ks := fun a ha => wpQuiet_nil fun w' hw' => h a w' ha hw'
theorem QW.val {v : Value} (hg : gd ops ks o.guard = some true) (hd : dok n o.dst = true) (hv : Val P n B o ks sg v) (h : QW P n B ops Q sg rest (push ks o.dst v)) : QW P n B ops Q sg (o :: rest) ks :=
  fun a ha => wpQuiet_step fun K hK => by
    rw [if_pos (wanted_gd ha hg)]
    refine ⟨v, fun w hw => ?_, hK _ (h _ (ha.put hd v))⟩
    unfold Oper.quietAt
    rw [hv a w ha hw]
    exact ⟨rfl, rfl⟩
theorem QW.pass (hg : gd ops ks o.guard = some false) (hd : dok n o.dst = true) (h : QW P n B ops Q sg rest (push ks o.dst undef)) : QW P n B ops Q sg (o :: rest) ks :=
  fun a ha => wpQuiet_step fun K hK => by
    rw [if_neg (by rw [wanted_gd ha hg]; exact Bool.false_ne_true)]
    exact hK _ (h _ (ha.put hd _))
theorem QW.split {l : List Oper} {d : Nat} {t : Bool} (hl : look ks d = some (.bool t)) (h1 : t = true → QW P n B ops Q sg l ((d, .bool true) :: ks)) (h2 : t = false → QW P n B ops Q sg l ((d, .bool false) :: ks)) : QW P n B ops Q sg l ks :=
  fun a ha => by
    have key : Fr n ((d, .bool t) :: ks) a := ⟨ha.defers, ha.size, fun i u hi => by
      simp only [look] at hi
      by_cases e : d = i
      · subst e; simp at hi; subst hi; exact ha.at_ _ _ hl
      · rw [nbeq e] at hi; exact ha.at_ _ _ hi⟩
    cases t
    · exact h2 rfl a key
    · exact h1 rfl a key
/-- A call that hands back one value and turns no block. -/
def Qcall (P : Program) (n : Nat) (B : Base) (o : Oper) (ks : Ks) (sg : Sg) (v : Value) : Prop :=
  ∀ a w, Fr n ks a → Hp B sg w → ∃ f args, (execOp a.eval o).run P w = .ok (.enter f args) w ∧ Calls P f args w (fun e w' => e = .returned v ∧ Below w.heap.size w w')
theorem QW.call {v : Value} (hg : gd ops ks o.guard = some true) (hd : dok n o.dst = true) (hv : Qcall P n B o ks sg v) (h : QW P n B ops Q sg rest (push ks o.dst v)) : QW P n B ops Q sg (o :: rest) ks :=
  fun a ha => wpQuiet_step fun K hK => by
    rw [if_pos (wanted_gd ha hg)]
    refine ⟨v, fun w hw => ?_, hK _ (h _ (ha.put hd v))⟩
    obtain ⟨f, args, hr, hc⟩ := hv a w ha hw
    unfold Oper.quietAt
    rw [hr]
    exact ⟨rfl, hc.mono fun e w' ⟨he, hb⟩ => ⟨he, hw.call_ro hb⟩⟩

/-! ### Drawn regions: what yields in every state of Sg is taken first; the others in each order that may be -/
def RW (P : Program) (n : Nat) (B : Base) (ops : Array Oper) (Q : Exit → Act → World → Prop) (S : Sg) (fuel : Nat) (listed : Array Bool) (ks : Ks) (sg : Sg) : Prop :=
  ∀ a w, Fr n ks a → Hp B sg w → Hp B S w → wpAnyH P .any ops Q (Hp B S) fuel listed a w
theorem CW.drawn {id : Nat} {l : List Oper} {r : Sg} (S : Sg) (hm : P.follows .mixedOrders = true) (hp : Pick S sg r) (h : RW P n B l.toArray Q S l.length (Array.replicate l.length false) ks sg) : CW P n B Q (.region id l.toArray true) ks sg :=
  fun a w ha hw => wp_region_held (S := Hp B S) hm (by simpa using h a _ ha hw.drew (hw.drew.pick hp))
theorem RW.take {S : Sg} {fuel : Nat} {listed : Array Bool} {v : Value} (i : Nat) (hi : ops[i]? = some o) (hs : Region.noSelect ops = true) (hf : Region.free .any ops listed i = true) (hr : (Region.ready .any ops listed).contains i = true)
    (hQ : ∀ c a w, Q (.panic c) (a.put o.dst v) w → Q (.panic c) a w) (hg : gd ops ks o.guard = some true) (hd : dok n o.dst = true) (hv : Val P n B o ks S v)
    (h : RW P n B ops Q S fuel (listed.setIfInBounds i true) (push ks o.dst v) sg) : RW P n B ops Q S (fuel + 1) listed ks sg :=
  fun a w ha hw hS => wpAnyH_take hi hs hf hr hQ (.inl ⟨wanted_gd ha hg, fun w hw => hv a w ha hw⟩) hS (h _ w (ha.put hd v) hw hS)
theorem RW.leave {S : Sg} {fuel : Nat} {listed : Array Bool} (i : Nat) (hi : ops[i]? = some o) (hs : Region.noSelect ops = true) (hf : Region.free .any ops listed i = true) (hr : (Region.ready .any ops listed).contains i = true)
    (hQ : ∀ c a w, Q (.panic c) (a.put o.dst undef) w → Q (.panic c) a w) (hg : gd ops ks o.guard = some false) (hd : dok n o.dst = true)
    (h : RW P n B ops Q S fuel (listed.setIfInBounds i true) (push ks o.dst undef) sg) : RW P n B ops Q S (fuel + 1) listed ks sg :=
  fun a w ha hw hS => wpAnyH_take hi hs hf hr hQ (.inr ⟨wanted_gd ha hg, rfl⟩) hS (h _ w (ha.put hd _) hw hS)
theorem RW.eff {S : Sg} {fuel : Nat} {listed : Array Bool} {α : Type} {φ : α → Prop} {v : α → Value} {sg' : α → Sg} (i : Nat) (hi : ops[i]? = some o) (hr : Region.ready .any ops listed = [i])
    (hg : gd ops ks o.guard = some true) (hd : dok n o.dst = true) (he : Eff P n B o ks sg φ v sg') (hS : ∀ x, ∃ r, Pick S (sg' x) r)
    (h : ∀ x, φ x → RW P n B ops Q S fuel (listed.setIfInBounds i true) (push ks o.dst (v x)) (sg' x)) : RW P n B ops Q S (fuel + 1) listed ks sg :=
  fun a w ha hw _ => wpAnyH_all hr (by simp) fun j hj => by
    simp only [List.mem_singleton] at hj
    subst hj
    unfold wpOp
    simp only [hi]
    rw [if_pos (wanted_gd ha hg)]
    refine .inl (he a w _ _ ha hw fun x w' hx hw' => ?_)
    obtain ⟨r, hp⟩ := hS x
    exact ⟨hw'.pick hp, h x hx _ w' (ha.put hd _) hw' (hw'.pick hp)⟩
/-- One of several that may come up. -/
def RO (P : Program) (n : Nat) (B : Base) (ops : Array Oper) (Q : Exit → Act → World → Prop) (S : Sg) (fuel : Nat) (listed : Array Bool) (ks : Ks) (sg : Sg) (i : Nat) : Prop :=
  ∀ a w, Fr n ks a → Hp B sg w → wpOp P ops Q i (fun a' w' => Hp B S w' ∧ wpAnyH P .any ops Q (Hp B S) fuel (listed.setIfInBounds i true) a' w') a w
theorem RW.any {S : Sg} {fuel : Nat} {listed : Array Bool} (rs : List Nat) (hr : Region.ready .any ops listed = rs) (hne : rs ≠ [])
    (h : ∀ i ∈ rs, RO P n B ops Q S fuel listed ks sg i) : RW P n B ops Q S (fuel + 1) listed ks sg :=
  fun a w ha hw _ => wpAnyH_all hr hne fun j hj => h j hj a w ha hw
theorem RO.eff {S : Sg} {fuel : Nat} {listed : Array Bool} {α : Type} {φ : α → Prop} {v : α → Value} {sg' : α → Sg} {i : Nat} (hi : ops[i]? = some o)
    (hg : gd ops ks o.guard = some true) (hd : dok n o.dst = true) (he : Eff P n B o ks sg φ v sg') (hS : ∀ x, ∃ r, Pick S (sg' x) r)
    (h : ∀ x, φ x → RW P n B ops Q S fuel (listed.setIfInBounds i true) (push ks o.dst (v x)) (sg' x)) : RO P n B ops Q S fuel listed ks sg i :=
  fun a w ha hw => by
    unfold wpOp
    simp only [hi]
    rw [if_pos (wanted_gd ha hg)]
    refine .inl (he a w _ _ ha hw fun x w' hx hw' => ?_)
    obtain ⟨r, hp⟩ := hS x
    exact ⟨hw'.pick hp, h x hx _ w' (ha.put hd _) hw' (hw'.pick hp)⟩
theorem RW.done {S : Sg} {fuel : Nat} {listed : Array Bool} (hr : Region.ready .any ops listed = []) (h : PQ n B Q .normal ks sg) : RW P n B ops Q S fuel listed ks sg :=
  fun a w ha hw _ => wpAnyH_done hr (h a w ha hw) fuel
theorem RW.split {S : Sg} {fuel : Nat} {listed : Array Bool} {d : Nat} {t : Bool} (hl : look ks d = some (.bool t)) (h1 : t = true → RW P n B ops Q S fuel listed ((d, .bool true) :: ks) sg) (h2 : t = false → RW P n B ops Q S fuel listed ((d, .bool false) :: ks) sg) : RW P n B ops Q S fuel listed ks sg :=
  fun a w ha hw hS => by
    have key : Fr n ((d, .bool t) :: ks) a := ⟨ha.defers, ha.size, fun i u hi => by
      simp only [look] at hi
      by_cases e : d = i
      · subst e; simp at hi; subst hi; exact ha.at_ _ _ hl
      · rw [nbeq e] at hi; exact ha.at_ _ _ hi⟩
    cases t
    · exact h2 rfl a w key hw hS
    · exact h1 rfl a w key hw hS
end

/-! ### Operations that only yield -/
section
variable {P : Program} {n : Nat} {B : Base} {ks : Ks} {sg : Sg} {d : Option Tmp} {ty : TypeId} {pos : String} {aft : Array Edge} {g : Option (Nat × Bool)}
theorem run_value {s : Sem Value} {v : Value} {w w' : World} (h : s.run P w = .ok v w') : (do pure (Next.value (← s)) : Sem Next).run P w = .ok (.value v) w' := by
  rw [Sem.run_bind, h]; rfl
theorem Val.move {x : Operand} {v : Value} (hx : ev ks x = some v) : Val P n B ⟨d, .move x, ty, pos, aft, g⟩ ks sg v := fun a w ha hw => by
  show (Sem.pure (Next.value (a.eval x))).run P w = _
  rw [ha.ev hx]; rfl
theorem Val.assign {x : Operand} {v : Value} (hx : ev ks x = some v) : Val P n B ⟨d, .assign x, ty, pos, aft, g⟩ ks sg v := fun a w ha hw => by
  show (Sem.pure (Next.value (a.eval x))).run P w = _
  rw [ha.ev hx]; rfl
theorem Val.pick {c x y : Operand} {t : Bool} {vx vy : Value} (hc : ev ks c = some (.bool t)) (hx : ev ks x = some vx) (hy : ev ks y = some vy) : Val P n B ⟨d, .pick c x y, ty, pos, aft, g⟩ ks sg (if t then vx else vy) := fun a w ha hw => by
  show (do pure (Next.value (if ← asBool (a.eval c) then a.eval x else a.eval y)) : Sem Next).run P w = _
  rw [ha.ev hc, ha.ev hx, ha.ev hy]
  cases t <;> rfl
theorem Val.pick_t {c x y : Operand} {v : Value} (hc : ev ks c = some (.bool true)) (hx : ev ks x = some v) : Val P n B ⟨d, .pick c x y, ty, pos, aft, g⟩ ks sg v := fun a w ha hw => by
  show (do pure (Next.value (if ← asBool (a.eval c) then a.eval x else a.eval y)) : Sem Next).run P w = _
  rw [ha.ev hc, ha.ev hx]; rfl
theorem Val.pick_f {c x y : Operand} {v : Value} (hc : ev ks c = some (.bool false)) (hx : ev ks y = some v) : Val P n B ⟨d, .pick c x y, ty, pos, aft, g⟩ ks sg v := fun a w ha hw => by
  show (do pure (Next.value (if ← asBool (a.eval c) then a.eval x else a.eval y)) : Sem Next).run P w = _
  rw [ha.ev hc, ha.ev hx]; rfl
theorem Val.not {t : TypeId} {x : Operand} {b : Bool} (hx : ev ks x = some (.bool b)) : Val P n B ⟨d, .unOp .not t x, ty, pos, aft, g⟩ ks sg (.bool (!b)) := fun a w ha hw => by
  show (do pure (Next.value (← Op.unary .not (a.eval x))) : Sem Next).run P w = _
  rw [ha.ev hx]; rfl
theorem Val.neg {t : TypeId} {x : Operand} {k : IntKind} {i : Int} (hx : ev ks x = some (.int k i)) : Val P n B ⟨d, .unOp .neg t x, ty, pos, aft, g⟩ ks sg (.int k (k.wrap (0 - i))) := fun a w ha hw => by
  show (do pure (Next.value (← Op.unary .neg (a.eval x))) : Sem Next).run P w = _
  rw [ha.ev hx]; rfl
/-- Two operands, whatever is said of the two values. -/
theorem Val.bin {op : BinOp} {t t' : TypeId} {x y : Operand} {vx vy v : Value} (hx : ev ks x = some vx) (hy : ev ks y = some vy)
    (hr : ∀ w, (do eqGuard op t x y vx vy; Go.binOp op t vx vy : Sem Value).run P w = .ok v w) : Val P n B ⟨d, .binOp op t x y t', ty, pos, aft, g⟩ ks sg v := fun a w ha hw => by
  show (do pure (Next.value (← (do eqGuard op t x y (a.eval x) (a.eval y); Go.binOp op t (a.eval x) (a.eval y)))) : Sem Next).run P w = _
  rw [ha.ev hx, ha.ev hy]
  exact run_value (hr w)
def cmpI : BinOp → Int → Int → Option Bool
  | .eql, a, b => some (a == b)
  | .neq, a, b => some (a != b)
  | .lss, a, b => some (decide (a < b))
  | .leq, a, b => some (decide (a ≤ b))
  | .gtr, a, b => some (decide (b < a))
  | .geq, a, b => some (decide (b ≤ a))
  | _, _, _ => none
theorem Val.cmp {op : BinOp} {t t' : TypeId} {x y : Operand} {k : IntKind} {i j : Int} {r : Bool} (hx : ev ks x = some (.int k i)) (hy : ev ks y = some (.int k j)) (hc : cmpI op i j = some r) :
    Val P n B ⟨d, .binOp op t x y t', ty, pos, aft, g⟩ ks sg (.bool r) := Val.bin hx hy fun w => by
  cases op <;> simp only [cmpI, Option.some.injEq, reduceCtorEq] at hc <;> subst hc <;> simp [eqGuard, Go.binOp, Op.intCmp]
def arI : BinOp → Int → Int → Option Int
  | .add, a, b => some (a + b)
  | .sub, a, b => some (a - b)
  | .mul, a, b => some (a * b)
  | _, _, _ => none
theorem Val.ar {op : BinOp} {t t' : TypeId} {x y : Operand} {k : IntKind} {i j r : Int} (hx : ev ks x = some (.int k i)) (hy : ev ks y = some (.int k j)) (hc : arI op i j = some r) (hin : k.wrap r = r) :
    Val P n B ⟨d, .binOp op t x y t', ty, pos, aft, g⟩ ks sg (.int k r) := Val.bin hx hy fun w => by
  cases op <;> simp only [arI, Option.some.injEq, reduceCtorEq] at hc <;> subst hc <;> simp [eqGuard, Go.binOp, Op.intArith, hin]
theorem Val.arw {op : BinOp} {t t' : TypeId} {x y : Operand} {k : IntKind} {i j r : Int} (hx : ev ks x = some (.int k i)) (hy : ev ks y = some (.int k j)) (hc : arI op i j = some r) :
    Val P n B ⟨d, .binOp op t x y t', ty, pos, aft, g⟩ ks sg (.int k (k.wrap r)) := Val.bin hx hy fun w => by
  cases op <;> simp only [arI, Option.some.injEq, reduceCtorEq] at hc <;> subst hc <;> simp [eqGuard, Go.binOp, Op.intArith]
theorem run_equalB {t : TypeId} {i j : Bool} (hu : P.underlying t = some .bool) (w : World) : (Op.equal t (.bool i) (.bool j)).run P w = .ok (i == j) w := run_equalIn_bool' w 9999 t i j hu
theorem Val.eqB {t t' : TypeId} {x y : Operand} {i j : Bool} (hx : ev ks x = some (.bool i)) (hy : ev ks y = some (.bool j)) (hu : P.underlying t = some .bool) :
    Val P n B ⟨d, .binOp .eql t x y t', ty, pos, aft, g⟩ ks sg (.bool (i == j)) := Val.bin hx hy fun w => by
  show (do eqGuard .eql t x y (.bool i) (.bool j); (do pure (Value.bool (← Op.equal t (.bool i) (.bool j)))) : Sem Value).run P w = _
  have h1 : (eqGuard .eql t x y (.bool i) (.bool j)).run P w = .ok () w := rfl
  simp only [Sem.run_bind, h1, run_equalB hu, Sem.run_pure, Result.andThen_ok]
theorem Val.neB {t t' : TypeId} {x y : Operand} {i j : Bool} (hx : ev ks x = some (.bool i)) (hy : ev ks y = some (.bool j)) (hu : P.underlying t = some .bool) :
    Val P n B ⟨d, .binOp .neq t x y t', ty, pos, aft, g⟩ ks sg (.bool (!(i == j))) := Val.bin hx hy fun w => by
  show (do eqGuard .neq t x y (.bool i) (.bool j); (do pure (Value.bool (!(← Op.equal t (.bool i) (.bool j))))) : Sem Value).run P w = _
  have h1 : (eqGuard .neq t x y (.bool i) (.bool j)).run P w = .ok () w := rfl
  simp only [Sem.run_bind, h1, run_equalB hu, Sem.run_pure, Result.andThen_ok]
def cmpS : BinOp → ByteArray → ByteArray → Option Bool
  | .eql, a, b => some (decide (a = b))
  | .neq, a, b => some (!decide (a = b))
  | .lss, a, b => some (Op.bytesLess a.toList b.toList)
  | .leq, a, b => some (Op.bytesLess a.toList b.toList || decide (a = b))
  | .gtr, a, b => some (!(Op.bytesLess a.toList b.toList || decide (a = b)))
  | .geq, a, b => some (!Op.bytesLess a.toList b.toList)
  | _, _, _ => none
theorem toList_beq (a b : ByteArray) : (a.toList == b.toList) = decide (a = b) := by
  rw [← beq_toListBytes]
  by_cases h : a = b
  · subst h; simp [beq_toListBytes]
  · have h2 : (a == b) = false := by
      rw [beq_toListBytes]
      simp only [beq_eq_false_iff_ne, ne_eq]
      intro e
      rw [ByteArray.toList_eq, ByteArray.toList_eq] at e
      obtain ⟨⟨x⟩⟩ := a; obtain ⟨⟨y⟩⟩ := b
      simp at e
      exact h (by rw [e])
    simp [h2, h]
theorem Val.cmpS {op : BinOp} {t t' : TypeId} {x y : Operand} {i j : ByteArray} {r : Bool} (hx : ev ks x = some (.string i)) (hy : ev ks y = some (.string j)) (hc : V.cmpS op i j = some r) :
    Val P n B ⟨d, .binOp op t x y t', ty, pos, aft, g⟩ ks sg (.bool r) := Val.bin hx hy fun w => by
  cases op <;> simp only [V.cmpS, Option.some.injEq, reduceCtorEq] at hc <;> subst hc <;> simp [eqGuard, Go.binOp, Op.stringOp, toList_beq]
theorem Val.cat {t t' : TypeId} {x y : Operand} {i j : ByteArray} (hx : ev ks x = some (.string i)) (hy : ev ks y = some (.string j)) (hs : i.size + j.size ≤ 9223372036854775807) :
    Val P n B ⟨d, .binOp .add t x y t', ty, pos, aft, g⟩ ks sg (.string (i ++ j)) := Val.bin hx hy fun w => by
  have hm : IntKind.i64.max = 9223372036854775807 := by decide
  have : ¬ ((i.size + j.size : Nat) : Int) > IntKind.i64.max := by rw [hm]; omega
  simp only [eqGuard, Go.binOp, Op.stringOp, this, if_false]
  rfl
/-- A field's place. -/
theorem Val.fieldAddr {s : TypeId} {x : Operand} {i : Nat} {fs : Array Field} {f : Field} {b o sz : Nat} (off : Nat) (hx : ev ks x = some (.pointer (some ⟨b, o, none⟩))) (hu : P.underlying s = some (.struct fs)) (hf : fs[i]? = some f) (hoff : f.offset = off)
    (hs : ∀ w, (sizeOf f.type).run P w = .ok (sz + 1) w) : Val P n B ⟨d, .fieldAddr s x i, ty, pos, aft, g⟩ ks sg (.pointer (some ⟨b, o + off, none⟩)) := fun a w ha hw => by
  subst hoff
  show (do pure (Next.value (← Instr.fieldAt s (a.eval x) i)) : Sem Next).run P w = _
  rw [ha.ev hx]
  refine run_value ?_
  simp [Instr.fieldAt, Sem.run_bind, run_underlying hu, hf, Instr.sureAddr, fieldPlace, hs, Addr.add_mid]
/-- A slice's cell's place. -/
theorem Val.indexAddr {t e : TypeId} {x y : Operand} {k : IntKind} {i : Int} {b o m c sz : Nat} (hx : ev ks x = some (.slice (some ⟨b, o, none⟩) m c)) (hy : ev ks y = some (.int k i)) (hu : P.underlying t = some (.slice e))
    (hs : ∀ w, (sizeOf e).run P w = .ok sz w) (h0 : 0 ≤ i) (h1 : i < m) : Val P n B ⟨d, .indexAddr t x y, ty, pos, aft, g⟩ ks sg (.pointer (some ⟨b, o + i.toNat * sz, none⟩)) := fun a w ha hw => by
  show (do pure (Next.value (← Instr.indexAt t (a.eval x) (a.eval y))) : Sem Next).run P w = _
  rw [ha.ev hx, ha.ev hy]
  refine run_value ?_
  simp [Instr.indexAt, asIntOf, Sem.run_bind, run_underlying hu, hs, h0, h1, Addr.add_mid]
theorem Val.indexAddrN {t e : TypeId} {x y : Operand} {k : IntKind} {i b o m c sz : Nat} (hx : ev ks x = some (.slice (some ⟨b, o, none⟩) m c)) (hy : ev ks y = some (.int k (i : Nat))) (hu : P.underlying t = some (.slice e))
    (hs : ∀ w, (sizeOf e).run P w = .ok sz w) (h1 : i < m) : Val P n B ⟨d, .indexAddr t x y, ty, pos, aft, g⟩ ks sg (.pointer (some ⟨b, o + i * sz, none⟩)) := by
  have := Val.indexAddr (P := P) (n := n) (B := B) (sg := sg) (d := d) (ty := ty) (pos := pos) (aft := aft) (g := g) hx hy hu hs (by omega) (by omega)
  rwa [Int.toNat_natCast] at this
theorem Val.lenSl {x : Operand} {t : TypeId} {e : TypeId} {p : Option Addr} {m c : Nat} (hx : ev ks x = some (.slice p m c)) (hu : P.underlying t = some (.slice e)) : Val P n B ⟨d, .call { callee := .builtin .len, args := #[x], argTypes := #[t] }, ty, pos, aft, g⟩ ks sg (.int .i64 (m : Nat)) := fun a w ha hw => by
  have e := ha.ev hx
  simp [execOp, resolve, invoke, Go.builtin, Builtin.len_, e, goInt, run_underlying hu]
theorem Val.lenS {x : Operand} {t : TypeId} {s : ByteArray} (hx : ev ks x = some (.string s)) (hu : P.underlying t = some .string) : Val P n B ⟨d, .call { callee := .builtin .len, args := #[x], argTypes := #[t] }, ty, pos, aft, g⟩ ks sg (.int .i64 (s.size : Nat)) := fun a w ha hw => by
  have e := ha.ev hx
  simp [execOp, resolve, invoke, Go.builtin, Builtin.len_, e, goInt, run_underlying hu]
theorem Val.extract {x : Operand} {i : Nat} {vs : List Value} {v : Value} (hx : ev ks x = some (.tuple vs.toArray)) (hi : vs[i]? = some v) : Val P n B ⟨d, .extract x i, ty, pos, aft, g⟩ ks sg v := fun a w ha hw => by
  show (do pure (Next.value (← Instr.extract (a.eval x) i)) : Sem Next).run P w = _
  rw [ha.ev hx]
  refine run_value ?_
  simp [Instr.extract, hi]
theorem Val.nilCheck {x : Operand} {p : Addr} (hx : ev ks x = some (.pointer (some p))) : Val P n B ⟨d, .nilCheck x, ty, pos, aft, g⟩ ks sg (.pointer (some p)) := fun a w ha hw => by
  have e := ha.ev hx
  simp [execOp, e]
/-- Any operation, by its run. -/
theorem Val.of {o : Oper} {v : Value} (h : ∀ a w, Fr n ks a → Hp B sg w → (execOp a.eval o).run P w = .ok (.value v) w) : Val P n B o ks sg v := h

/-! ### Loads -/
theorem cell_of_block {w : World} {b o : Nat} {l : List Value} {T : TypeId} {fr : Nat × Nat} {v : Value} (h : w.heap[b]? = some (.cells l.toArray T fr)) (hl : l[o]? = some v) : w.cell? ⟨b, o, none⟩ = some v := by
  simp [World.cell?, h, hl]
theorem run_loadVar_one {w : World} {t : TypeId} {a : Addr} {v : Value} (hc : w.cell? a = some v) (hg : ∀ w, (isAgg t).run P w = .ok false w) : (loadVar t a).run P w = .ok v w := by
  simp [loadVar, Sem.run_bind, hg, Go.load, Sem.run, hc]
theorem run_loadVar_many {w : World} {t : TypeId} {b o : Nat} {cs : List Value} (hc : w.rangeAt b o cs) (hg : ∀ w, (isAgg t).run P w = .ok true w) (hs : ∀ w, (sizeOf t).run P w = .ok cs.length w) :
    (loadVar t ⟨b, o, none⟩).run P w = .ok (.agg cs.toArray) w := by
  have hl := run_loadCells_list (P := P) w ⟨b, o, none⟩ cs (fun j v hv => by rw [Addr.add_mid]; exact hc j v hv)
  simp [loadVar, Sem.run_bind, hg, hs, hl]
theorem Val.load_of {t : TypeId} {x : Operand} {p : Addr} {v : Value} (hx : ev ks x = some (.pointer (some p))) (h : ∀ w, Hp B sg w → (loadVar t p).run P w = .ok v w) : Val P n B ⟨d, .load t x, ty, pos, aft, g⟩ ks sg v := fun a w ha hw => by
  show (do pure (Next.value (← Instr.loadAt t (a.eval x))) : Sem Next).run P w = _
  rw [ha.ev hx]
  refine run_value ?_
  simp [Instr.loadAt, Instr.sureAddr, h w hw]
/-- One cell of a block of the state. -/
theorem Val.load {t T : TypeId} {x : Operand} {b o : Nat} {fr : Nat × Nat} {l : List Value} {v : Value} (hx : ev ks x = some (.pointer (some ⟨b, o, none⟩))) (hg : ∀ w, (isAgg t).run P w = .ok false w) (hm : InS (b, .cells l.toArray T fr) sg) (hl : l[o]? = some v) :
    Val P n B ⟨d, .load t x, ty, pos, aft, g⟩ ks sg v := Val.load_of hx fun w hw => run_loadVar_one (cell_of_block (hw.own _ hm.mem) hl) hg
theorem range_of_block {w : World} {b o : Nat} {l cs r : List Value} {T : TypeId} {fr : Nat × Nat} (h : w.heap[b]? = some (.cells l.toArray T fr)) (hl : l.drop o = cs ++ r) : w.rangeAt b o cs := fun j v hv => by
  refine cell_of_block h ?_
  have : (l.drop o)[j]? = some v := by rw [hl, List.getElem?_append_left (List.getElem?_eq_some_iff.1 hv).1]; exact hv
  rwa [List.getElem?_drop] at this
/-- A struct out of a block of the state. -/
theorem Val.loadA {t T : TypeId} {x : Operand} {b o : Nat} {fr : Nat × Nat} {l : List Value} (cs : List Value) {r : List Value} (hx : ev ks x = some (.pointer (some ⟨b, o, none⟩))) (hg : ∀ w, (isAgg t).run P w = .ok true w) (hm : InS (b, .cells l.toArray T fr) sg) (hl : l.drop o = cs ++ r)
    (hs : ∀ w, (sizeOf t).run P w = .ok cs.length w) : Val P n B ⟨d, .load t x, ty, pos, aft, g⟩ ks sg (.agg cs.toArray) := Val.load_of hx fun w hw => run_loadVar_many (range_of_block (hw.own _ hm.mem) hl) hg hs
/-- A struct that is a whole block. -/
theorem Val.loadW {t T : TypeId} {x : Operand} {b : Nat} {fr : Nat × Nat} {l : List Value} (hx : ev ks x = some (.pointer (some ⟨b, 0, none⟩))) (hg : ∀ w, (isAgg t).run P w = .ok true w) (hm : InS (b, .cells l.toArray T fr) sg)
    (hs : ∀ w, (sizeOf t).run P w = .ok l.length w) : Val P n B ⟨d, .load t x, ty, pos, aft, g⟩ ks sg (.agg l.toArray) := Val.loadA l (r := []) hx hg hm (by simp) hs
/-- Out of old memory. -/
theorem Val.loadO {t : TypeId} {x : Operand} {b o : Nat} {v : Value} (hx : ev ks x = some (.pointer (some ⟨b, o, none⟩))) (hg : ∀ w, (isAgg t).run P w = .ok false w) (hb : b < B.w.heap.size) (hf : b ∉ B.F) (hc : B.w.cell? ⟨b, o, none⟩ = some v) :
    Val P n B ⟨d, .load t x, ty, pos, aft, g⟩ ks sg v := Val.load_of hx fun w hw => run_loadVar_one (by rw [World.cell?_of_block (w := B.w) (hw.old b hb hf)]; exact hc) hg
theorem Val.loadOA {t : TypeId} {x : Operand} {b o : Nat} {cs : List Value} (hx : ev ks x = some (.pointer (some ⟨b, o, none⟩))) (hg : ∀ w, (isAgg t).run P w = .ok true w) (hb : b < B.w.heap.size) (hf : b ∉ B.F) (hc : B.w.rangeAt b o cs)
    (hs : ∀ w, (sizeOf t).run P w = .ok cs.length w) : Val P n B ⟨d, .load t x, ty, pos, aft, g⟩ ks sg (.agg cs.toArray) :=
  Val.load_of hx fun w hw => run_loadVar_many (fun j v hv => by rw [World.cell?_of_block (w := B.w) (hw.old b hb hf)]; exact hc j v hv) hg hs

/-! ### Operations that make or turn blocks -/
theorem Eff.new {o : Oper} {f : Nat → Value} {ob : Obj} (h : ∀ a w, Fr n ks a → Hp B sg w → (execOp a.eval o).run P w = .ok (.value (f w.heap.size)) { w with heap := w.heap.push ob }) :
    Eff P n B o ks sg (α := Nat) (fun _ => True) f (fun b => [(b, ob)] :: sg) := fun a w K Q ha hw hk => by
  unfold Oper.wp
  rw [h a w ha hw]
  exact hk w.heap.size _ trivial (hw.alloc ob)
theorem Eff.alloc {t : TypeId} {z : Value} (hz : ∀ w, (zeroValue t).run P w = .ok z w) : Eff P n B ⟨d, .alloc t, ty, pos, aft, g⟩ ks sg (α := Nat) (fun _ => True) (fun b => .pointer (some ⟨b, 0, none⟩)) (fun b => [(b, .cells z.cells t (0, 0))] :: sg) :=
  Eff.new fun a w ha hw => by
    show (do pure (Next.value (← Instr.alloc t true (.tuple #[]))) : Sem Next).run P w = _
    refine run_value ?_
    simp [Instr.alloc, Sem.run_bind, hz, newVar, newRow, newObj, Sem.run]
theorem Eff.box {t : TypeId} {x : Operand} {v : Value} (hx : ev ks x = some v) : Eff P n B ⟨d, .box t x, ty, pos, aft, g⟩ ks sg (α := Nat) (fun _ => True) (fun b => .pointer (some ⟨b, 0, none⟩)) (fun b => [(b, .cells v.cells t (0, 0))] :: sg) :=
  Eff.new fun a w ha hw => by
    show (do pure (Next.value (← Instr.box t (a.eval x))) : Sem Next).run P w = _
    rw [ha.ev hx]
    refine run_value ?_
    simp [Instr.box, newVar, newRow, newObj, Sem.run]
def splice : List Value → Nat → List Value → List Value
  | l, _, [] => l
  | l, o, v :: r => splice (l.set o v) (o + 1) r
theorem length_splice : ∀ (cs l : List Value) (o : Nat), (splice l o cs).length = l.length
  | [], _, _ => rfl
  | v :: r, l, o => by simp [splice, length_splice r]
theorem run_storeCells_splice (b : Nat) (T : TypeId) : ∀ (cs l : List Value) (o i : Nat) (w : World), w.heap[b]? = some (.cells l.toArray T (0, 0)) → o + i + cs.length ≤ l.length → cs.all (·.oneCell') = true →
    ∃ w', (storeCells ⟨b, o, none⟩ cs i).run P w = .ok () w' ∧ w'.os = w.os ∧ w'.tape = w.tape ∧ w'.output = w.output ∧ w'.heap.size = w.heap.size ∧ w'.heap[b]? = some (.cells (splice l (o + i) cs).toArray T (0, 0)) ∧ ∀ k, k ≠ b → w'.heap[k]? = w.heap[k]?
  | [], l, o, i, w, h, _, _ => ⟨w, rfl, rfl, rfl, rfl, rfl, h, fun _ _ => rfl⟩
  | v :: r, l, o, i, w, h, hlen, h1 => by
    simp only [List.all_cons, Bool.and_eq_true] at h1
    simp only [List.length_cons] at hlen
    have hc : w.cell? ⟨b, o + i, none⟩ = some (l[o + i]'(by omega)) := cell_of_block h (by simp)
    have hf : w.frozen? ⟨b, o + i, none⟩ = false := by simp [World.frozen?, h]
    have hst : (Go.store (Addr.add ⟨b, o, none⟩ i) v).run P w = .ok () (w.setCell ⟨b, o + i, none⟩ v) := by
      rw [Addr.add_mid]
      have h11 := h1.1
      cases v <;> simp_all [Go.store, Sem.run, Value.oneCell']
    have hset : (w.setCell ⟨b, o + i, none⟩ v).heap[b]? = some (.cells (l.set (o + i) v).toArray T (0, 0)) := by
      simp [World.setCell, Array.getElem?_modify, h]
    obtain ⟨w', hr, e1, e2, e3, e4, e5, e6⟩ := run_storeCells_splice b T r (l.set (o + i) v) o (i + 1) (w.setCell ⟨b, o + i, none⟩ v) hset (by simp; omega) h1.2
    refine ⟨w', ?_, e1, e2, e3, by simp [e4, World.setCell], by simpa [splice, Nat.add_assoc] using e5, fun k hk => (e6 k hk).trans ?_⟩
    · simp only [storeCells]
      rw [Sem.run_bind, hst]
      exact hr
    · exact Below.heap_setCell _ _ _ _ hk
theorem Eff.store_of {t T : TypeId} {x y : Operand} {b o : Nat} {v : Value} {l l' : List Value} {sg' : Sg} (hx : ev ks x = some (.pointer (some ⟨b, o, none⟩))) (hy : ev ks y = some v)
    (hu : Upd b (.cells l.toArray T (0, 0)) (.cells l'.toArray T (0, 0)) sg sg') (hl : splice l o v.cells.toList = l') (hlen : o + v.cells.size ≤ l.length) (hs : ∀ w, (sizeOf t).run P w = .ok v.cells.size w) (h1 : v.cells.toList.all (·.oneCell') = true) :
    Eff P n B ⟨d, .store t x y, ty, pos, aft, g⟩ ks sg (α := Unit) (fun _ => True) (fun _ => undef) (fun _ => sg') := fun a w K Q ha hw hk => by
  unfold Oper.wp
  show Oper.upon _ _ _ _ _ ((do Instr.storeAt t (a.eval x) (a.eval y); pure .skip : Sem Next).run P w)
  rw [ha.ev hx, ha.ev hy]
  obtain ⟨w', hr, e1, e2, e3, e4, e5, e6⟩ := run_storeCells_splice (P := P) b T v.cells.toList l o 0 w (hw.own _ hu.mem) (by simpa using hlen) h1
  have hrun : (do Instr.storeAt t (.pointer (some ⟨b, o, none⟩)) v; pure .skip : Sem Next).run P w = .ok .skip w' := by
    simp [Instr.storeAt, Instr.sureAddr, storeVar, Sem.run_bind, hs, hr]
  rw [hrun]
  refine hk () w' trivial (hw.upd hu e1 e2 e3 e4 ?_ e6)
  rw [← hl]; simpa using e5
/-- One cell. -/
theorem Eff.store {t T : TypeId} {x y : Operand} {b o : Nat} {v : Value} {l l' : List Value} {sg' : Sg} (hx : ev ks x = some (.pointer (some ⟨b, o, none⟩))) (hy : ev ks y = some v) (h1 : v.oneCell' = true)
    (hu : Upd b (.cells l.toArray T (0, 0)) (.cells l'.toArray T (0, 0)) sg sg') (hl : l.set o v = l') (hlen : Nat.blt o l.length = true) (hs : ∀ w, (sizeOf t).run P w = .ok 1 w) :
    Eff P n B ⟨d, .store t x y, ty, pos, aft, g⟩ ks sg (α := Unit) (fun _ => True) (fun _ => undef) (fun _ => sg') := by
  have hv : v.cells = #[v] := by cases v <;> first | rfl | cases h1
  have hlen' : o < l.length := by simpa [Nat.blt_eq] using hlen
  refine Eff.store_of hx hy hu ?_ (by rw [hv]; simp; omega) (by rw [hv]; exact hs) (by rw [hv]; simpa using h1)
  rw [hv]; simpa [splice] using hl
theorem splice_all : ∀ (cs p l : List Value), l.length = cs.length → splice (p ++ l) p.length cs = p ++ cs
  | [], p, l, h => by cases l <;> simp_all [splice]
  | c :: cs, p, l, h => by
    cases l with
    | nil => simp at h
    | cons x l =>
      simp only [splice, List.set_append_right _ _ (Nat.le_refl _), Nat.sub_self, List.set_cons_zero]
      have := splice_all cs (p ++ [c]) l (by simpa using h)
      simpa using this
/-- A whole struct. -/
theorem Eff.storeW {t T : TypeId} {x y : Operand} {b : Nat} {l cs : List Value} {sg' : Sg} (hx : ev ks x = some (.pointer (some ⟨b, 0, none⟩))) (hy : ev ks y = some (.agg cs.toArray))
    (hu : Upd b (.cells l.toArray T (0, 0)) (.cells cs.toArray T (0, 0)) sg sg') (hlen : l.length = cs.length) (hs : ∀ w, (sizeOf t).run P w = .ok cs.length w) (h1 : cs.all (·.oneCell') = true) :
    Eff P n B ⟨d, .store t x y, ty, pos, aft, g⟩ ks sg (α := Unit) (fun _ => True) (fun _ => undef) (fun _ => sg') := by
  refine Eff.store_of hx hy hu ?_ (by simp [Value.cells, hlen]) (by simpa [Value.cells] using hs) (by simpa [Value.cells] using h1)
  have := splice_all cs [] l hlen
  simpa [Value.cells] using this

/-! ### Calls -/
def evs (ks : Ks) : List Operand → Option (List Value)
  | [] => some []
  | x :: r => match ev ks x with
    | some v => match evs ks r with
      | some l => some (v :: l)
      | none => none
    | none => none
theorem Fr.evs {a : Act} (ha : Fr n ks a) : ∀ {xs : List Operand} {vs : List Value}, V.evs ks xs = some vs → xs.map a.eval = vs
  | [], vs, h => by simp [V.evs] at h; simp [h]
  | x :: r, vs, h => by
    simp only [V.evs] at h
    cases hx : V.ev ks x with
    | none => rw [hx] at h; simp at h
    | some v =>
      rw [hx] at h
      cases hr : V.evs ks r with
      | none => rw [hr] at h; simp at h
      | some l => rw [hr] at h; simp at h; subst h; simp [ha.ev hx, ha.evs hr]
theorem run_call {f : FuncId} {xs : List Operand} {vs : List Value} {ats : Array TypeId} {a : Act} (w : World) (ha : Fr n ks a) (hxs : evs ks xs = some vs) (hc : ∀ (args : Array Value) (w : World), (callFunc f args).run P w = .ok (.enter f args) w) :
    (execOp a.eval ⟨d, .call { callee := .value (.func f), args := xs.toArray, argTypes := ats }, ty, pos, aft, g⟩).run P w = .ok (.enter f vs.toArray) w := by
  have hm := ha.evs hxs
  simp only [execOp, resolve, Act.eval, Deferred.ofValue, Sem.run_bind, Sem.run_pure, Result.andThen_ok, invoke, List.map_toArray, hm]
  simp [hc]
theorem Eff.call {α : Type} {φ : α → Prop} {v : α → Value} {sg' : α → Sg} {f : FuncId} {xs : List Operand} {vs : List Value} {ats : Array TypeId} (hxs : evs ks xs = some vs) (hc : ∀ (args : Array Value) (w : World), (callFunc f args).run P w = .ok (.enter f args) w)
    (h : ∀ w, Hp B sg w → Calls P f vs.toArray w (fun e w' => ∃ x, φ x ∧ e = .returned (v x) ∧ Hp B (sg' x) w')) :
    Eff P n B ⟨d, .call { callee := .value (.func f), args := xs.toArray, argTypes := ats }, ty, pos, aft, g⟩ ks sg φ v sg' := fun a w K Q ha hw hk => by
  unfold Oper.wp
  rw [run_call w ha hxs hc]
  exact (h w hw).mono fun e w' ⟨x, hx, he, hw'⟩ => by subst he; exact hk x w' hx hw'
/-- A callee that turns no block. -/
theorem Eff.callR {α : Type} {φ : α → Prop} {v : α → Value} {f : FuncId} {xs : List Operand} {vs : List Value} {ats : Array TypeId} (hxs : evs ks xs = some vs) (hc : ∀ (args : Array Value) (w : World), (callFunc f args).run P w = .ok (.enter f args) w)
    (h : ∀ w, Hp B sg w → Calls P f vs.toArray w (fun e w' => ∃ x, φ x ∧ e = .returned (v x) ∧ Below w.heap.size w w')) :
    Eff P n B ⟨d, .call { callee := .value (.func f), args := xs.toArray, argTypes := ats }, ty, pos, aft, g⟩ ks sg φ v (fun _ => sg) :=
  Eff.call hxs hc fun w hw => (h w hw).mono fun e w' ⟨x, hx, he, hb⟩ => ⟨x, hx, he, hw.call_ro hb⟩
/-- .. and hands back one value. -/
theorem Eff.callV {v : Value} {f : FuncId} {xs : List Operand} {vs : List Value} {ats : Array TypeId} (hxs : evs ks xs = some vs) (hc : ∀ (args : Array Value) (w : World), (callFunc f args).run P w = .ok (.enter f args) w)
    (h : ∀ w, Hp B sg w → Calls P f vs.toArray w (fun e w' => e = .returned v ∧ Below w.heap.size w w')) :
    Eff P n B ⟨d, .call { callee := .value (.func f), args := xs.toArray, argTypes := ats }, ty, pos, aft, g⟩ ks sg (α := Unit) (fun _ => True) (fun _ => v) (fun _ => sg) :=
  Eff.call hxs hc fun w hw => (h w hw).mono fun e w' ⟨he, hb⟩ => ⟨(), trivial, he, hw.call_ro hb⟩
theorem Qcall.of {v : Value} {f : FuncId} {xs : List Operand} {vs : List Value} {ats : Array TypeId} (hxs : evs ks xs = some vs) (hc : ∀ (args : Array Value) (w : World), (callFunc f args).run P w = .ok (.enter f args) w)
    (h : ∀ w, Hp B sg w → Calls P f vs.toArray w (fun e w' => e = .returned v ∧ Below w.heap.size w w')) :
    Qcall P n B ⟨d, .call { callee := .value (.func f), args := xs.toArray, argTypes := ats }, ty, pos, aft, g⟩ ks sg v := fun a w ha hw => ⟨f, vs.toArray, run_call w ha hxs hc, h w hw⟩
/-- A callee that is given segments of the state. -/
theorem Eff.callM {α : Type} {φ : α → Prop} {v : α → Value} {so : α → Sg} {f : FuncId} {xs : List Operand} {vs : List Value} {ats : Array TypeId} (ss : Sg) {r : Sg} (hp : Pick ss sg r) (hxs : evs ks xs = some vs) (hc : ∀ (args : Array Value) (w : World), (callFunc f args).run P w = .ok (.enter f args) w)
    (h : ∀ w, Hp B sg w → Sat ss w → Calls P f vs.toArray w (fun e w' => ∃ x, φ x ∧ e = .returned (v x) ∧ Hp ⟨w, ids ss⟩ (so x) w')) :
    Eff P n B ⟨d, .call { callee := .value (.func f), args := xs.toArray, argTypes := ats }, ty, pos, aft, g⟩ ks sg φ v (fun x => so x ++ r) :=
  Eff.call hxs hc fun w hw => (h w hw (hw.sat.pick hp)).mono fun e w' ⟨x, hx, he, hb⟩ => ⟨x, hx, he, hw.call hp hb⟩
end
end Go.Proofs.YtlpbjmbgopfkhaaGreat.V
