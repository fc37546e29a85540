/- A small calculus of symbolic states, part 28: short forms of the rules: what is found by itself is left out. No program in sight. -/
import Derived.Test.YtlpbjmbgopfkhaaGreatV27
namespace Go.Proofs.YtlpbjmbgopfkhaaGreat.V
open Go Go.RowKit
set_option linter.unusedVariables false
/-! ### What a program says of its types -/
class Und (P : Program) (t : TypeId) (d : outParam TypeDesc) : Prop where
  u : P.underlying t = some d
class Siz (P : Program) (t : TypeId) (k : outParam Nat) : Prop where
  s : ∀ w, (sizeOf t).run P w = .ok k w
class AgF (P : Program) (t : TypeId) : Prop where
  a : ∀ w, (isAgg t).run P w = .ok false w
class AgT (P : Program) (t : TypeId) : Prop where
  a : ∀ w, (isAgg t).run P w = .ok true w
class Zer (P : Program) (t : TypeId) (v : outParam Value) : Prop where
  z : ∀ w, (zeroValue t).run P w = .ok v w
class Plc (P : Program) (t : TypeId) (fs : outParam (Array Field)) (pl : outParam (List (Nat × Nat))) : Prop where
  p : ∀ w, (fs.mapM fun f => do pure (f.offset, ← sizeOf f.type) : Sem (Array (Nat × Nat))).run P w = .ok pl.toArray w
  u : P.underlying t = some (.struct fs)
class Mix (P : Program) : Prop where
  m : P.follows .mixedOrders = true
class Cal (P : Program) (f : FuncId) : Prop where
  c : ∀ (args : Array Value) (w : World), (callFunc f args).run P w = .ok (.enter f args) w
abbrev dOf {o : Option TypeDesc} {d : TypeDesc} (_ : o = some d) : TypeDesc := d
abbrev fOf {o : Option TypeDesc} {d : Array Field} (_ : o = some (.struct d)) : Array Field := d
abbrev kOf {P : Program} {t : TypeId} {k : Nat} (_ : ∀ w, (sizeOf t).run P w = .ok k w) : Nat := k
abbrev zOf {P : Program} {t : TypeId} {v : Value} (_ : ∀ w, (zeroValue t).run P w = .ok v w) : Value := v
abbrev lOf {P : Program} {s : Sem (Array (Nat × Nat))} {l : List (Nat × Nat)} (_ : ∀ w, s.run P w = .ok l.toArray w) : List (Nat × Nat) := l
section
variable {P : Program} {n : Nat} {B : Base} {Q : Exit → Act → World → Prop} {ks : Ks} {sg : Sg} {ops : Array Oper} {rest : List Oper}
variable {d : Nat} {op : Op} {ty : TypeId} {pos : String} {aft : Array Edge} {g : Option (Nat × Bool)}
theorem Lv {v : Value} (hv : Val P n B ⟨some d, op, ty, pos, aft, g⟩ ks sg v) (h : LW P n B ops Q rest ((d, v) :: ks) sg) (hg : gd ops ks g = some true := by rfl) (hd : Nat.blt d n = true := by rfl) : LW P n B ops Q (⟨some d, op, ty, pos, aft, g⟩ :: rest) ks sg := LW.v hg hd hv h
theorem Lp (h : LW P n B ops Q rest ((d, undef) :: ks) sg) (hg : gd ops ks g = some false := by rfl) (hd : Nat.blt d n = true := by rfl) : LW P n B ops Q (⟨some d, op, ty, pos, aft, g⟩ :: rest) ks sg := LW.p hg hd h
theorem LpN (h : LW P n B ops Q rest ks sg) (hg : gd ops ks g = some false := by rfl) : LW P n B ops Q (⟨none, op, ty, pos, aft, g⟩ :: rest) ks sg := LW.pN hg h
theorem Le {α : Type} {φ : α → Prop} {v : α → Value} {sg' : α → Sg} (he : Eff P n B ⟨some d, op, ty, pos, aft, g⟩ ks sg φ v sg')
    (h : ∀ x, φ x → LW P n B ops Q rest ((d, v x) :: ks) (sg' x)) (hg : gd ops ks g = some true := by rfl) (hd : Nat.blt d n = true := by rfl) : LW P n B ops Q (⟨some d, op, ty, pos, aft, g⟩ :: rest) ks sg := LW.e hg hd he h
theorem LeN {α : Type} {φ : α → Prop} {v : α → Value} {sg' : α → Sg} (he : Eff P n B ⟨none, op, ty, pos, aft, g⟩ ks sg φ v sg')
    (h : ∀ x, φ x → LW P n B ops Q rest ks (sg' x)) (hg : gd ops ks g = some true := by rfl) : LW P n B ops Q (⟨none, op, ty, pos, aft, g⟩ :: rest) ks sg := LW.eN hg he h
theorem Qv {v : Value} (hv : Val P n B ⟨some d, op, ty, pos, aft, g⟩ ks sg v) (h : QW P n B ops Q sg rest ((d, v) :: ks)) (hg : gd ops ks g = some true := by rfl) (hd : Nat.blt d n = true := by rfl) : QW P n B ops Q sg (⟨some d, op, ty, pos, aft, g⟩ :: rest) ks := QW.v hg hd hv h
theorem Qp (h : QW P n B ops Q sg rest ((d, undef) :: ks)) (hg : gd ops ks g = some false := by rfl) (hd : Nat.blt d n = true := by rfl) : QW P n B ops Q sg (⟨some d, op, ty, pos, aft, g⟩ :: rest) ks := QW.p hg hd h
theorem QpN (h : QW P n B ops Q sg rest ks) (hg : gd ops ks g = some false := by rfl) : QW P n B ops Q sg (⟨none, op, ty, pos, aft, g⟩ :: rest) ks := QW.pN hg h
theorem Qc {v : Value} (hv : Qcall P n B ⟨some d, op, ty, pos, aft, g⟩ ks sg v) (h : QW P n B ops Q sg rest ((d, v) :: ks)) (hg : gd ops ks g = some true := by rfl) (hd : Nat.blt d n = true := by rfl) : QW P n B ops Q sg (⟨some d, op, ty, pos, aft, g⟩ :: rest) ks := QW.c hg hd hv h
theorem Rv {S : Sg} {fuel : Nat} {listed : Array Bool} {v : Value} (i : Nat) (hi : ops[i]? = some ⟨some d, op, ty, pos, aft, g⟩) (hv : Val P n B ⟨some d, op, ty, pos, aft, g⟩ ks S v)
    (h : RW P n B ops Q S fuel (listed.setIfInBounds i true) ((d, v) :: ks) sg) (hs : Region.noSelect ops = true := by kernel_rfl) (hf : Region.free .any ops listed i = true := by kernel_rfl) (hr : (Region.ready .any ops listed).contains i = true := by kernel_rfl)
    (hQ : ∀ c a w, Q (.panic c) (a.put (some d) v) w → Q (.panic c) a w := by exact fun _ _ _ h => h) (hg : gd ops ks g = some true := by rfl) (hd : Nat.blt d n = true := by rfl) : RW P n B ops Q S (fuel + 1) listed ks sg := RW.v i hi hs hf hr hQ hg hd hv h
theorem Rp {S : Sg} {fuel : Nat} {listed : Array Bool} (i : Nat) (hi : ops[i]? = some ⟨some d, op, ty, pos, aft, g⟩)
    (h : RW P n B ops Q S fuel (listed.setIfInBounds i true) ((d, undef) :: ks) sg) (hs : Region.noSelect ops = true := by kernel_rfl) (hf : Region.free .any ops listed i = true := by kernel_rfl) (hr : (Region.ready .any ops listed).contains i = true := by kernel_rfl)
    (hQ : ∀ c a w, Q (.panic c) (a.put (some d) undef) w → Q (.panic c) a w := by exact fun _ _ _ h => h) (hg : gd ops ks g = some false := by rfl) (hd : Nat.blt d n = true := by rfl) : RW P n B ops Q S (fuel + 1) listed ks sg := RW.p i hi hs hf hr hQ hg hd h
theorem Re {S : Sg} {fuel : Nat} {listed : Array Bool} {α : Type} {φ : α → Prop} {v : α → Value} {sg' : α → Sg} (i : Nat) (hi : ops[i]? = some ⟨some d, op, ty, pos, aft, g⟩) (he : Eff P n B ⟨some d, op, ty, pos, aft, g⟩ ks sg φ v sg')
    (h : ∀ x, φ x → RW P n B ops Q S fuel (listed.setIfInBounds i true) ((d, v x) :: ks) (sg' x)) (hr : Region.ready .any ops listed = [i] := by kernel_rfl) (hg : gd ops ks g = some true := by rfl) (hd : Nat.blt d n = true := by rfl)
    (hS : ∀ x, ∃ r, Pick S (sg' x) r := by exact fun x => ⟨_, by repeat (first | exact .nil | apply Pick.cons | exact .here | apply Ext.there)⟩) : RW P n B ops Q S (fuel + 1) listed ks sg := RW.e i hi hr hg hd he hS h
theorem ReN {S : Sg} {fuel : Nat} {listed : Array Bool} {α : Type} {φ : α → Prop} {v : α → Value} {sg' : α → Sg} (i : Nat) (hi : ops[i]? = some ⟨none, op, ty, pos, aft, g⟩) (he : Eff P n B ⟨none, op, ty, pos, aft, g⟩ ks sg φ v sg')
    (h : ∀ x, φ x → RW P n B ops Q S fuel (listed.setIfInBounds i true) ks (sg' x)) (hr : Region.ready .any ops listed = [i] := by kernel_rfl) (hg : gd ops ks g = some true := by rfl)
    (hS : ∀ x, ∃ r, Pick S (sg' x) r := by exact fun x => ⟨_, by repeat (first | exact .nil | apply Pick.cons | exact .here | apply Ext.there)⟩) : RW P n B ops Q S (fuel + 1) listed ks sg := RW.eN i hi hr hg he hS h
theorem Ro {S : Sg} {fuel : Nat} {listed : Array Bool} {α : Type} {φ : α → Prop} {v : α → Value} {sg' : α → Sg} {i : Nat} (hi : ops[i]? = some ⟨some d, op, ty, pos, aft, g⟩) (he : Eff P n B ⟨some d, op, ty, pos, aft, g⟩ ks sg φ v sg')
    (h : ∀ x, φ x → RW P n B ops Q S fuel (listed.setIfInBounds i true) ((d, v x) :: ks) (sg' x)) (hg : gd ops ks g = some true := by rfl) (hd : Nat.blt d n = true := by rfl)
    (hS : ∀ x, ∃ r, Pick S (sg' x) r := by exact fun x => ⟨_, by repeat (first | exact .nil | apply Pick.cons | exact .here | apply Ext.there)⟩) : RO P n B ops Q S fuel listed ks sg i := RO.e hi hg hd he hS h
theorem RoN {S : Sg} {fuel : Nat} {listed : Array Bool} {α : Type} {φ : α → Prop} {v : α → Value} {sg' : α → Sg} {i : Nat} (hi : ops[i]? = some ⟨none, op, ty, pos, aft, g⟩) (he : Eff P n B ⟨none, op, ty, pos, aft, g⟩ ks sg φ v sg')
    (h : ∀ x, φ x → RW P n B ops Q S fuel (listed.setIfInBounds i true) ks (sg' x)) (hg : gd ops ks g = some true := by rfl)
    (hS : ∀ x, ∃ r, Pick S (sg' x) r := by exact fun x => ⟨_, by repeat (first | exact .nil | apply Pick.cons | exact .here | apply Ext.there)⟩) : RO P n B ops Q S fuel listed ks sg i := RO.eN hi hg he hS h
theorem Rd {S : Sg} {fuel : Nat} {listed : Array Bool} (h : PQ n B Q .normal ks sg) (hr : Region.ready .any ops listed = [] := by kernel_rfl) : RW P n B ops Q S fuel listed ks sg := RW.done hr h
/-- A drawn region, its stable blocks S. -/
theorem Dr {id : Nat} {l : List Oper} {r : Sg} (S : Sg) (h : RW P n B l.toArray Q S l.length (Array.replicate l.length false) ks sg) (hm : P.follows .mixedOrders = true := by exact Mix.m) (hp : Pick S sg r := by repeat (first | exact .nil | apply Pick.cons | exact .here | apply Ext.there)) : CW P n B Q (.region id l.toArray true) ks sg := CW.drawn S hm hp h
theorem Qt {id : Nat} {l : List Oper} (h : QW P n B l.toArray Q sg l ks) (hm : P.follows .mixedOrders = true := by exact Mix.m) (hB : Region.lexB .any l.toArray = true := by kernel_rfl) : CW P n B Q (.region id l.toArray true) ks sg := CW.quiet hm hB h
theorem Sq {x y : Code} (h : CW P n B (Exit.then (y.wp P Q) Q) x ks sg) : CW P n B Q (.seq x y) ks sg := CW.seq h
theorem Rg {id : Nat} {l : List Oper} (h : LW P n B l.toArray Q l ks sg) : CW P n B Q (.region id l.toArray false) ks sg := CW.region h
theorem Nl (h : PQ n B Q .normal ks sg) : LW P n B ops Q [] ks sg := LW.nil h
theorem Ql (h : PQ n B Q .normal ks sg) : QW P n B ops Q sg [] ks := QW.nil h
theorem Ps {y : Code} (h : CW P n B Q y ks sg) : PQ n B (Exit.then (y.wp P Q) Q) .normal ks sg := PQ.seq h
theorem Bk {id : Nat} {c : Code} (h : CW P n B (Exit.inBlock id Q) c ks sg) : CW P n B Q (.block id c) ks sg := CW.block h
theorem Te {K : Act → World → Prop} {id : Nat} (h : PQ n B Q (.exit id) ks sg) : PQ n B (Exit.then K Q) (.exit id) ks sg := PQ.then_exit h
theorem Tr {K : Act → World → Prop} (h : PQ n B Q .ret ks sg) : PQ n B (Exit.then K Q) .ret ks sg := PQ.then_ret h
theorem Bn {id : Nat} (h : PQ n B Q .normal ks sg) : PQ n B (Exit.inBlock id Q) .normal ks sg := PQ.in_normal h
theorem Br {id : Nat} (h : PQ n B Q .ret ks sg) : PQ n B (Exit.inBlock id Q) .ret ks sg := PQ.in_ret h
theorem Bh {id : Nat} (h : PQ n B Q .normal ks sg) : PQ n B (Exit.inBlock id Q) (.exit id) ks sg := PQ.in_here h
theorem Rt (h : PQ n B Q .ret ks sg) : CW P n B Q .ret ks sg := CW.ret h
theorem Xt {id : Nat} (h : PQ n B Q (.exit id) ks sg) : CW P n B Q (.exit id) ks sg := CW.exit h
theorem Sk (h : PQ n B Q .normal ks sg) : CW P n B Q .skip ks sg := CW.skip h
/-- A loop. -/
theorem loopA {γ : Type} {c : Code} {r : Sg} (K : γ → Ks) (G : γ → Sg) (J : γ → Prop) (μ : γ → Nat) (x0 : γ) (hj : J x0)
    (round : ∀ x, J x → CW P n B (Exit.then (fun a w => ∃ x', J x' ∧ μ x' < μ x ∧ Fr n (K x') a ∧ Hp B (G x') w) Q) c (K x) (G x)) (hk : subK (K x0) ks := by repeat (first | exact trivial | refine ⟨rfl, ?_⟩)) (hg : Pick (G x0) sg r := by repeat (first | exact .nil | apply Pick.cons | exact .here | apply Ext.there)) : CW P n B Q (.loop c) ks sg := CW.loop K G J μ x0 hj hk hg round
theorem roundA {γ : Type} {K : γ → Ks} {G : γ → Sg} {J : γ → Prop} {μ : γ → Nat} {m : Nat} {r : Sg} (x' : γ) (hj : J x') (hm : μ x' < m) (hk : subK (K x') ks := by repeat (first | exact trivial | refine ⟨rfl, ?_⟩)) (hg : Pick (G x') sg r := by repeat (first | exact .nil | apply Pick.cons | exact .here | apply Ext.there)) :
    PQ n B (Exit.then (fun a w => ∃ x', J x' ∧ μ x' < m ∧ Fr n (K x') a ∧ Hp B (G x') w) Q) .normal ks sg := PQ.round x' hj hm hk hg
theorem joinA {α : Type} {φ : α → Prop} {T : α → Ks} {G : α → Sg} {r : Sg} (x : α) (hx : φ x) (hs : subK (T x) ks := by repeat (first | exact trivial | refine ⟨rfl, ?_⟩)) (hp : Pick (G x) sg r := by repeat (first | exact .nil | apply Pick.cons | exact .here | apply Ext.there)) : PQ n B (Jn n B φ T G) .normal ks sg := PQ.joined x hx hs hp
theorem joinC {α : Type} {φ : α → Prop} {T : α → Ks} {G : α → Sg} {r : Sg} (x : α) (hx : φ x) (hs : subK (T x) ks := by repeat (first | exact trivial | refine ⟨rfl, ?_⟩)) (hp : Pick (G x) sg r := by repeat (first | exact .nil | apply Pick.cons | exact .here | apply Ext.there)) : PQ n B (Exit.then (fun a w => ∃ x, φ x ∧ Fr n (T x) a ∧ Hp B (G x) w) Q) .normal ks sg := PQ.joinedC x hx hs hp
theorem Bo {id id' : Nat} (h : PQ n B Q (.exit id') ks sg) (hne : Nat.beq id' id = false := by rfl) : PQ n B (Exit.inBlock id Q) (.exit id') ks sg := PQ.in_out hne h
theorem Bs {e : Exit} (h : PQ n B Q e ks sg) (he : isGo e = false := by rfl) : PQ n B (Exit.noGoto Q) e ks sg := PQ.in_scope he h
theorem Ct {c : Operand} {x y : Code} (h1 : CW P n B Q x ks sg) (hc : ev ks c = some (.bool true) := by rfl) : CW P n B Q (.cond c x y) ks sg := CW.cond_t hc h1
theorem Cf {c : Operand} {x y : Code} (h1 : CW P n B Q y ks sg) (hc : ev ks c = some (.bool false) := by rfl) : CW P n B Q (.cond c x y) ks sg := CW.cond_f hc h1
theorem Rt1 {fn : Func} {R : Ending → World → Prop} {t : Nat} {v : Value} (h : ∀ w, Hp B sg w → R (.returned v) w) (hr : fn.results = #[.tmp t] := by rfl) (hv : look ks t = some v := by rfl) : PQ n B (bodyPost P fn R) .ret ks sg := PQ.ret1 hr hv h
theorem Rt2 {fn : Func} {R : Ending → World → Prop} {t u : Nat} {v x : Value} (h : ∀ w, Hp B sg w → R (.returned (.tuple #[v, x])) w) (hr : fn.results = #[.tmp t, .tmp u] := by rfl) (hv : look ks t = some v := by rfl) (hx : look ks u = some x := by rfl) : PQ n B (bodyPost P fn R) .ret ks sg := PQ.ret2 hr hv hx h
theorem Rt3 {fn : Func} {R : Ending → World → Prop} {t u s : Nat} {v x y : Value} (h : ∀ w, Hp B sg w → R (.returned (.tuple #[v, x, y])) w) (hr : fn.results = #[.tmp t, .tmp u, .tmp s] := by rfl) (hv : look ks t = some v := by rfl) (hx : look ks u = some x := by rfl) (hy : look ks s = some y := by rfl) : PQ n B (bodyPost P fn R) .ret ks sg := PQ.ret3 hr hv hx hy h
end
section
variable {P : Program} {n : Nat} {B : Base} {ks : Ks} {sg : Sg} {d : Option Tmp} {ty : TypeId} {pos : String} {aft : Array Edge} {g : Option (Nat × Bool)}
theorem Mv {x : Operand} {v : Value} (hx : ev ks x = some v := by rfl) : Val P n B ⟨d, .move x, ty, pos, aft, g⟩ ks sg v := Val.move hx
theorem Av {x : Operand} {v : Value} (hx : ev ks x = some v := by rfl) : Val P n B ⟨d, .assign x, ty, pos, aft, g⟩ ks sg v := Val.assign hx
theorem Pk {c x y : Operand} {t : Bool} {vx vy : Value} (hc : ev ks c = some (.bool t) := by rfl) (hx : ev ks x = some vx := by rfl) (hy : ev ks y = some vy := by rfl) : Val P n B ⟨d, .pick c x y, ty, pos, aft, g⟩ ks sg (if t then vx else vy) := Val.pick hc hx hy
theorem Pt {c x y : Operand} {v : Value} (hc : ev ks c = some (.bool true) := by rfl) (hx : ev ks x = some v := by rfl) : Val P n B ⟨d, .pick c x y, ty, pos, aft, g⟩ ks sg v := Val.pick_t hc hx
theorem Pf {c x y : Operand} {v : Value} (hc : ev ks c = some (.bool false) := by rfl) (hx : ev ks y = some v := by rfl) : Val P n B ⟨d, .pick c x y, ty, pos, aft, g⟩ ks sg v := Val.pick_f hc hx
theorem Nt {t : TypeId} {x : Operand} {b : Bool} (hx : ev ks x = some (.bool b) := by rfl) : Val P n B ⟨d, .unOp .not t x, ty, pos, aft, g⟩ ks sg (.bool (!b)) := Val.not hx
theorem Cm {op : BinOp} {t t' : TypeId} {x y : Operand} {k : IntKind} {i j : Int} {r : Bool} (hx : ev ks x = some (.int k i) := by rfl) (hy : ev ks y = some (.int k j) := by rfl) (hc : cmpI op i j = some r := by rfl) : Val P n B ⟨d, .binOp op t x y t', ty, pos, aft, g⟩ ks sg (.bool r) := Val.cmp hx hy hc
theorem Ar {op : BinOp} {t t' : TypeId} {x y : Operand} {k : IntKind} {i j r : Int} (hx : ev ks x = some (.int k i) := by rfl) (hy : ev ks y = some (.int k j) := by rfl) (hc : arI op i j = some r := by rfl)
    (hin : k.wrap r = r := by first | exact IntWalk.i64_in _ (by omega) | exact IntWalk.u64_in _ (by omega) | exact IntWalk.u8_in _ (by omega) | exact IntWalk.u32_in _ (by omega)) : Val P n B ⟨d, .binOp op t x y t', ty, pos, aft, g⟩ ks sg (.int k r) := Val.ar hx hy hc hin
theorem Aw {op : BinOp} {t t' : TypeId} {x y : Operand} {k : IntKind} {i j r : Int} (hx : ev ks x = some (.int k i) := by rfl) (hy : ev ks y = some (.int k j) := by rfl) (hc : arI op i j = some r := by rfl) : Val P n B ⟨d, .binOp op t x y t', ty, pos, aft, g⟩ ks sg (.int k (k.wrap r)) := Val.arw hx hy hc
theorem Fa {s : TypeId} {x : Operand} {i : Nat} {fs : Array Field} {f : Field} {b o sz : Nat} (off ft : Nat) (hx : ev ks x = some (.pointer (some ⟨b, o, none⟩)) := by rfl) (hu : P.underlying s = some (.struct fs) := by exact Und.u) (hf : fs[i]? = some f := by rfl) (hoff : f.offset = off := by rfl) (hft : f.type = ft := by rfl)
    (hs : ∀ w, (sizeOf ft).run P w = .ok sz w := by exact Siz.s) (hpos : (sz == 0) = false := by rfl) : Val P n B ⟨d, .fieldAddr s x i, ty, pos, aft, g⟩ ks sg (.pointer (some ⟨b, o + off, none⟩)) := by
  cases sz with
  | zero => cases hpos
  | succ k => exact Val.fieldAddr off hx hu hf hoff (by rw [hft]; exact hs)
/-- An index that is a natural number, or one that is not written so. -/
inductive IdxR : Int → Nat → Prop
  | nat (i : Nat) : IdxR (i : Nat) i
  | int (i : Int) (h : 0 ≤ i) : IdxR i i.toNat
theorem IdxR.eq {i : Int} {j : Nat} (h : IdxR i j) : i = (j : Nat) := by cases h with
  | nat => rfl
  | int h => omega
theorem Ix {t e : TypeId} {x y : Operand} {k : IntKind} {i : Int} {j b o m c sz : Nat} (hx : ev ks x = some (.slice (some ⟨b, o, none⟩) m c) := by rfl) (hy : ev ks y = some (.int k i) := by rfl) (hj : IdxR i j := by first | exact IdxR.nat _ | exact IdxR.int _ (by omega)) (hu : P.underlying t = some (.slice e) := by exact Und.u)
    (hs : ∀ w, (sizeOf e).run P w = .ok sz w := by exact Siz.s) (h1 : j < m := by omega) : Val P n B ⟨d, .indexAddr t x y, ty, pos, aft, g⟩ ks sg (.pointer (some ⟨b, o + j * sz, none⟩)) := by
  have e := hj.eq; subst e; exact Val.indexAddrN hx hy hu hs h1
theorem Ixa {t e : TypeId} {x y : Operand} {k : IntKind} {i : Int} {j b o m sz : Nat} (hx : ev ks x = some (.pointer (some ⟨b, o, none⟩)) := by rfl) (hy : ev ks y = some (.int k i) := by rfl) (hj : IdxR i j := by first | exact IdxR.nat _ | exact IdxR.int _ (by omega)) (hu : P.underlying t = some (.array m e) := by exact Und.u)
    (hs : ∀ w, (sizeOf e).run P w = .ok sz w := by exact Siz.s) (h1 : j < m := by omega) : Val P n B ⟨d, .indexAddr t x y, ty, pos, aft, g⟩ ks sg (.pointer (some ⟨b, o + j * sz, none⟩)) := by
  have e := hj.eq; subst e; exact Val.indexAddrA hx hy hu hs h1
theorem Ln {x : Operand} {t : TypeId} {e : TypeId} {p : Option Addr} {m c : Nat} (hx : ev ks x = some (.slice p m c) := by rfl) (hu : P.underlying t = some (.slice e) := by exact Und.u) : Val P n B ⟨d, .call { callee := .builtin .len, args := #[x], argTypes := #[t] }, ty, pos, aft, g⟩ ks sg (.int .i64 (m : Nat)) := Val.lenSl hx hu
theorem LnS {x : Operand} {t : TypeId} {l : List UInt8} (hx : ev ks x = some (str l) := by rfl) (hu : P.underlying t = some .string := by exact Und.u) : Val P n B ⟨d, .call { callee := .builtin .len, args := #[x], argTypes := #[t] }, ty, pos, aft, g⟩ ks sg (.int .i64 (l.length : Nat)) := Val.lenStr hx hu
theorem Ex {x : Operand} {i : Nat} {vs : List Value} {v : Value} (hx : ev ks x = some (.tuple vs.toArray) := by rfl) (hi : vs[i]? = some v := by rfl) : Val P n B ⟨d, .extract x i, ty, pos, aft, g⟩ ks sg v := Val.extract hx hi
theorem Nz {x : Operand} {p : Addr} (hx : ev ks x = some (.pointer (some p)) := by rfl) : Val P n B ⟨d, .nilCheck x, ty, pos, aft, g⟩ ks sg (.pointer (some p)) := Val.nilCheck hx
theorem Ld {t T : TypeId} {x : Operand} {b o : Nat} {fr : Nat × Nat} {l : List Value} {v : Value} (hx : ev ks x = some (.pointer (some ⟨b, o, none⟩)) := by rfl) (hg : ∀ w, (isAgg t).run P w = .ok false w := by exact AgF.a)
    (hm : InS (b, .cells l.toArray T fr) sg := by repeat (first | exact .here | exact .inner .here | exact .inner (.inner .here) | exact .inner (.inner (.inner .here)) | refine .there ?_)) (hl : l[o]? = some v := by rfl) : Val P n B ⟨d, .load t x, ty, pos, aft, g⟩ ks sg v := Val.load hx hg hm hl
theorem Lw {t T : TypeId} {x : Operand} {b : Nat} {fr : Nat × Nat} {l : List Value} (hx : ev ks x = some (.pointer (some ⟨b, 0, none⟩)) := by rfl) (hg : ∀ w, (isAgg t).run P w = .ok true w := by exact AgT.a)
    (hm : InS (b, .cells l.toArray T fr) sg := by repeat (first | exact .here | exact .inner .here | exact .inner (.inner .here) | exact .inner (.inner (.inner .here)) | refine .there ?_)) (hs : ∀ w, (sizeOf t).run P w = .ok l.length w := by exact Siz.s) : Val P n B ⟨d, .load t x, ty, pos, aft, g⟩ ks sg (.agg l.toArray) := Val.loadW hx hg hm hs
theorem La {t T : TypeId} {x : Operand} {b o : Nat} {fr : Nat × Nat} {l : List Value} (cs : List Value) {r : List Value} (hx : ev ks x = some (.pointer (some ⟨b, o, none⟩)) := by rfl) (hg : ∀ w, (isAgg t).run P w = .ok true w := by exact AgT.a)
    (hm : InS (b, .cells l.toArray T fr) sg := by repeat (first | exact .here | exact .inner .here | exact .inner (.inner .here) | exact .inner (.inner (.inner .here)) | refine .there ?_)) (hl : l.drop o = cs ++ r := by rfl) (hs : ∀ w, (sizeOf t).run P w = .ok cs.length w := by exact Siz.s) : Val P n B ⟨d, .load t x, ty, pos, aft, g⟩ ks sg (.agg cs.toArray) := Val.loadA cs hx hg hm hl hs
theorem Bd {t : TypeId} (cs : List Value) {ps : List (Nat × Operand)} {vs : List (Nat × Value)} {zs : List Value} {fs : Array Field} {pl : List (Nat × Nat)} [hP : Plc P t fs pl] (hz : ∀ w, (zeroValue t).run P w = .ok (.agg zs.toArray) w := by exact Zer.z)
    (hv : evp ks ps = some vs := by rfl) (hf : fillL (fun (i : Nat) => pl[i]?) zs vs = some cs := by rfl) : Val P n B ⟨d, .build t ps.toArray, ty, pos, aft, g⟩ ks sg (.agg cs.toArray) := Val.build cs hz hP.u hP.p hv hf
theorem Cv {s t : TypeId} {x : Operand} {k k' : IntKind} {i : Int} {ds : TypeDesc} (hx : ev ks x = some (.int k i) := by rfl) (hs : P.underlying s = some ds := by exact Und.u) (hu : P.underlying t = some (.int k') := by exact Und.u) : Val P n B ⟨d, .convert s t x, ty, pos, aft, g⟩ ks sg (.int k' (k'.wrap i)) := Val.convI hx hs hu
theorem ES {t t' : TypeId} {x y : Operand} {i j : List UInt8} (hx : ev ks x = some (str i) := by rfl) (hy : ev ks y = some (str j) := by rfl) : Val P n B ⟨d, .binOp .eql t x y t', ty, pos, aft, g⟩ ks sg (.bool (decide (i = j))) := Val.eqStr hx hy
theorem NS {t t' : TypeId} {x y : Operand} {i j : List UInt8} (hx : ev ks x = some (str i) := by rfl) (hy : ev ks y = some (str j) := by rfl) : Val P n B ⟨d, .binOp .neq t x y t', ty, pos, aft, g⟩ ks sg (.bool (!decide (i = j))) := Val.neStr hx hy
/-- A pointer against nil, which it is not. -/
theorem EP {t e t' : TypeId} {x y : Operand} {p : Addr} (hx : ev ks x = some (.pointer (some p)) := by rfl) (hy : ev ks y = some (.pointer none) := by rfl) (hu : P.underlying t = some (.pointer e) := by exact Und.u) : Val P n B ⟨d, .binOp .eql t x y t', ty, pos, aft, g⟩ ks sg (.bool false) := Val.eqP false hx hy hu (.inr ⟨rfl, rfl⟩)
theorem EP0 {t e t' : TypeId} {x y : Operand} (hx : ev ks x = some (.pointer none) := by rfl) (hy : ev ks y = some (.pointer none) := by rfl) (hu : P.underlying t = some (.pointer e) := by exact Und.u) : Val P n B ⟨d, .binOp .eql t x y t', ty, pos, aft, g⟩ ks sg (.bool true) := Val.eqP true hx hy hu (.inr ⟨rfl, rfl⟩)
theorem NP {t e t' : TypeId} {x y : Operand} {p : Addr} (hx : ev ks x = some (.pointer (some p)) := by rfl) (hy : ev ks y = some (.pointer none) := by rfl) (hu : P.underlying t = some (.pointer e) := by exact Und.u) : Val P n B ⟨d, .binOp .neq t x y t', ty, pos, aft, g⟩ ks sg (.bool true) := Val.neP false hx hy hu (.inr ⟨rfl, rfl⟩)
theorem NP0 {t e t' : TypeId} {x y : Operand} (hx : ev ks x = some (.pointer none) := by rfl) (hy : ev ks y = some (.pointer none) := by rfl) (hu : P.underlying t = some (.pointer e) := by exact Und.u) : Val P n B ⟨d, .binOp .neq t x y t', ty, pos, aft, g⟩ ks sg (.bool false) := Val.neP true hx hy hu (.inr ⟨rfl, rfl⟩)
theorem Mf {f : Fn} {xs ys : List Operand} {vs us : List Value} (hx : evs ks xs = some vs := by rfl) (hy : evs ks ys = some us := by rfl) : Val P n B ⟨d, .makeFunc f xs.toArray ys.toArray, ty, pos, aft, g⟩ ks sg (.func f vs.toArray us.toArray) := Val.makeFunc hx hy
theorem AA {t : TypeId} {l : List Value} (hz : ∀ w, (zeroValue t).run P w = .ok (.agg l.toArray) w := by exact Zer.z) : Eff P n B ⟨d, .alloc t, ty, pos, aft, g⟩ ks sg (α := Nat) (fun _ => True) (fun b => .pointer (some ⟨b, 0, none⟩)) (fun b => [(b, .cells l.toArray t (0, 0))] :: sg) := Eff.allocA hz
theorem AS {t : TypeId} {v : Value} (hz : ∀ w, (zeroValue t).run P w = .ok v w := by exact Zer.z) (h1 : v.oneCell' = true := by rfl) : Eff P n B ⟨d, .alloc t, ty, pos, aft, g⟩ ks sg (α := Nat) (fun _ => True) (fun b => .pointer (some ⟨b, 0, none⟩)) (fun b => [(b, .cells [v].toArray t (0, 0))] :: sg) := Eff.allocS h1 hz
theorem XA {t : TypeId} {x : Operand} {l : List Value} (hx : ev ks x = some (.agg l.toArray) := by rfl) : Eff P n B ⟨d, .box t x, ty, pos, aft, g⟩ ks sg (α := Nat) (fun _ => True) (fun b => .pointer (some ⟨b, 0, none⟩)) (fun b => [(b, .cells l.toArray t (0, 0))] :: sg) := Eff.boxA hx
theorem XS {t : TypeId} {x : Operand} {v : Value} (hx : ev ks x = some v := by rfl) (h1 : v.oneCell' = true := by rfl) : Eff P n B ⟨d, .box t x, ty, pos, aft, g⟩ ks sg (α := Nat) (fun _ => True) (fun b => .pointer (some ⟨b, 0, none⟩)) (fun b => [(b, .cells [v].toArray t (0, 0))] :: sg) := Eff.boxS hx h1
theorem StS {t T : TypeId} {x y : Operand} {b o : Nat} {v : Value} {l l' : List Value} {sg' : Sg} (hx : ev ks x = some (.pointer (some ⟨b, o, none⟩)) := by rfl) (hy : ev ks y = some v := by rfl) (h1 : v.oneCell' = true := by rfl)
    (hu : Upd b (.cells l.toArray T (0, 0)) (.cells l'.toArray T (0, 0)) sg sg' := by repeat (first | exact .here | exact .inner .here | exact .inner (.inner .here) | exact .inner (.inner (.inner .here)) | apply Upd.there)) (hl : l.set o v = l' := by rfl) (hlen : Nat.blt o l.length = true := by rfl) (hs : ∀ w, (sizeOf t).run P w = .ok 1 w := by exact Siz.s) :
    Eff P n B ⟨d, .store t x y, ty, pos, aft, g⟩ ks sg (α := Unit) (fun _ => True) (fun _ => undef) (fun _ => sg') := Eff.store hx hy h1 hu hl hlen hs
theorem StW {t T : TypeId} {x y : Operand} {b : Nat} {l cs : List Value} {sg' : Sg} (hx : ev ks x = some (.pointer (some ⟨b, 0, none⟩)) := by rfl) (hy : ev ks y = some (.agg cs.toArray) := by rfl)
    (hu : Upd b (.cells l.toArray T (0, 0)) (.cells cs.toArray T (0, 0)) sg sg' := by repeat (first | exact .here | exact .inner .here | exact .inner (.inner .here) | exact .inner (.inner (.inner .here)) | apply Upd.there)) (hlen : l.length = cs.length := by rfl) (hs : ∀ w, (sizeOf t).run P w = .ok cs.length w := by exact Siz.s) (h1 : cs.all (·.oneCell') = true := by rfl) :
    Eff P n B ⟨d, .store t x y, ty, pos, aft, g⟩ ks sg (α := Unit) (fun _ => True) (fun _ => undef) (fun _ => sg') := Eff.storeW hx hy hu hlen hs h1
theorem CV {v : Value} {f : FuncId} {xs : List Operand} {vs : List Value} {ats : Array TypeId} [Cal P f] (h : ∀ w, Hp B sg w → Calls P f vs.toArray w (fun e w' => e = .returned v ∧ Below w.heap.size w w')) (hxs : evs ks xs = some vs := by rfl) :
    Eff P n B ⟨d, .call { callee := .value (.func f), args := xs.toArray, argTypes := ats }, ty, pos, aft, g⟩ ks sg (α := Unit) (fun _ => True) (fun _ => v) (fun _ => sg) := Eff.callV hxs Cal.c h
theorem CR {α : Type} {φ : α → Prop} {v : α → Value} {f : FuncId} {xs : List Operand} {vs : List Value} {ats : Array TypeId} [Cal P f]
    (h : ∀ w, Hp B sg w → Calls P f vs.toArray w (fun e w' => ∃ x, φ x ∧ e = .returned (v x) ∧ Below w.heap.size w w')) (hxs : evs ks xs = some vs := by rfl) :
    Eff P n B ⟨d, .call { callee := .value (.func f), args := xs.toArray, argTypes := ats }, ty, pos, aft, g⟩ ks sg φ v (fun _ => sg) := Eff.callR hxs Cal.c h
theorem CM {α : Type} {φ : α → Prop} {v : α → Value} {so : α → Sg} {f : FuncId} {xs : List Operand} {vs : List Value} {ats : Array TypeId} (ss : Sg) {r : Sg} [Cal P f]
    (h : ∀ w, Hp B sg w → Sat ss w → Calls P f vs.toArray w (fun e w' => ∃ x, φ x ∧ e = .returned (v x) ∧ Hp ⟨w, ids ss⟩ (so x) w')) (hp : Pick ss sg r := by repeat (first | exact .nil | apply Pick.cons | exact .here | apply Ext.there)) (hxs : evs ks xs = some vs := by rfl) :
    Eff P n B ⟨d, .call { callee := .value (.func f), args := xs.toArray, argTypes := ats }, ty, pos, aft, g⟩ ks sg φ v (fun x => so x ++ r) := Eff.callM ss hp hxs Cal.c h
theorem QV {v : Value} {f : FuncId} {xs : List Operand} {vs : List Value} {ats : Array TypeId} [Cal P f]
    (h : ∀ w, Hp B sg w → Calls P f vs.toArray w (fun e w' => e = .returned v ∧ Below w.heap.size w w')) (hxs : evs ks xs = some vs := by rfl) :
    Qcall P n B ⟨d, .call { callee := .value (.func f), args := xs.toArray, argTypes := ats }, ty, pos, aft, g⟩ ks sg v := Qcall.of hxs Cal.c h
end
end Go.Proofs.YtlpbjmbgopfkhaaGreat.V
