/- A small calculus of symbolic states, part 10: slices of slices, appends within a block, clear. No program in sight. -/
import Derived.Test.YtlpbjmbgopfkhaaGreatV9
namespace Go.Proofs.YtlpbjmbgopfkhaaGreat.V
open Go Go.RowKit
set_option linter.unusedVariables false
def optI (ks : Ks) : Option Operand → Nat → Nat → Prop
  | none, v, dflt => v = dflt
  | some y, v, _ => ∃ k, ev ks y = some (.int k (v : Nat))
section
variable {P : Program} {n : Nat} {B : Base} {ks : Ks} {sg : Sg} {d : Option Tmp} {ty : TypeId} {pos : String} {aft : Array Edge} {g : Option (Nat × Bool)}
theorem run_sliceBound {k : IntKind} {v y : Nat} (h : v ≤ y) (code : BoundsCode) (w : World) : (Instr.sliceBound (.int k (v : Nat)) y code).run P w = .ok v w := by
  simp [Instr.sliceBound, asIntOf, h]
theorem run_slice_sl {t e sz b off m c L Hh M : Nat} {lo hi mx : Option Value} (hu : P.underlying t = some (.slice e)) (hs : ∀ w, (sizeOf e).run P w = .ok sz w)
    (hlo : lo = none ∧ L = 0 ∨ ∃ k, lo = some (.int k (L : Nat))) (hhi : hi = none ∧ Hh = m ∧ mx = none ∨ ∃ k, hi = some (.int k (Hh : Nat))) (hmx : mx = none ∧ M = c ∨ ∃ k, mx = some (.int k (M : Nat))) (h1 : L ≤ Hh) (h2 : Hh ≤ M) (h3 : M ≤ c) (w : World) :
    (Instr.slice t (.slice (some ⟨b, off, none⟩) m c) lo hi mx).run P w = .ok (.slice (some ⟨b, if M = L then off else off + L * sz, none⟩) (Hh - L) (M - L)) w := by
  have key : (Instr.sliceBounds true m c lo hi mx).run P w = .ok (L, Hh, M) w := by
    rcases hmx with ⟨rfl, rfl⟩ | ⟨k3, rfl⟩
    · rcases hhi with ⟨rfl, rfl, _⟩ | ⟨k2, rfl⟩
      · rcases hlo with ⟨rfl, rfl⟩ | ⟨k1, rfl⟩
        · simp [Instr.sliceBounds]
        · simp [Instr.sliceBounds, Sem.run_bind, run_sliceBound h1]
      · rcases hlo with ⟨rfl, rfl⟩ | ⟨k1, rfl⟩
        · simp [Instr.sliceBounds, Sem.run_bind, run_sliceBound h2]
        · simp [Instr.sliceBounds, Sem.run_bind, run_sliceBound h2, run_sliceBound h1]
    · rcases hhi with ⟨_, _, h⟩ | ⟨k2, rfl⟩
      · cases h
      · rcases hlo with ⟨rfl, rfl⟩ | ⟨k1, rfl⟩
        · simp [Instr.sliceBounds, Sem.run_bind, run_sliceBound h2, run_sliceBound h3]
        · simp [Instr.sliceBounds, Sem.run_bind, run_sliceBound h2, run_sliceBound h1, run_sliceBound h3]
  simp only [Instr.slice, Sem.run_bind, run_underlying hu, Result.andThen_ok, key, hs, Sem.run_pure]
  by_cases hml : M = L
  · simp [hml]
  · simp [hml, Addr.add_mid]
theorem Val.slice {t e sz b off m c : Nat} {x : Operand} {lo hi mx : Option Operand} (L Hh M : Nat) (hx : ev ks x = some (.slice (some ⟨b, off, none⟩) m c)) (hu : P.underlying t = some (.slice e)) (hs : ∀ w, (sizeOf e).run P w = .ok sz w)
    (hlo : optI ks lo L 0) (hhi : optI ks hi Hh m) (hmx : optI ks mx M c) (hno : hi = none → mx = none) (h1 : L ≤ Hh) (h2 : Hh ≤ M) (h3 : M ≤ c) :
    Val P n B ⟨d, .slice t x lo hi mx, ty, pos, aft, g⟩ ks sg (.slice (some ⟨b, if M = L then off else off + L * sz, none⟩) (Hh - L) (M - L)) := fun a w ha hw => by
  have conv : ∀ {o : Option Operand} {v dflt : Nat}, optI ks o v dflt → (o.map a.eval = none ∧ v = dflt ∧ o = none) ∨ ∃ k, o.map a.eval = some (.int k (v : Nat)) := fun {o v dflt} h => by
    cases o with
    | none => exact .inl ⟨rfl, h, rfl⟩
    | some y => obtain ⟨k, hk⟩ := h; exact .inr ⟨k, by simp [ha.ev hk]⟩
  have hrun : (Instr.slice t (.slice (some ⟨b, off, none⟩) m c) (lo.map a.eval) (hi.map a.eval) (mx.map a.eval)).run P w = .ok (.slice (some ⟨b, if M = L then off else off + L * sz, none⟩) (Hh - L) (M - L)) w := by
    refine run_slice_sl hu hs ?_ ?_ ?_ h1 h2 h3 w
    · rcases conv hlo with ⟨p, q, _⟩ | ⟨k, p⟩
      · exact .inl ⟨p, q⟩
      · exact .inr ⟨k, p⟩
    · rcases conv hhi with ⟨p, q, r⟩ | ⟨k, p⟩
      · exact .inl ⟨p, q, by rw [hno r]; rfl⟩
      · exact .inr ⟨k, p⟩
    · rcases conv hmx with ⟨p, q, _⟩ | ⟨k, p⟩
      · exact .inl ⟨p, q⟩
      · exact .inr ⟨k, p⟩
  show (do pure (Next.value (← Instr.sliceAt t (a.eval x) (lo.map a.eval) (hi.map a.eval) (mx.map a.eval))) : Sem Next).run P w = _
  rw [ha.ev hx]
  refine run_value ?_
  simp only [Instr.sliceAt, Sem.run_bind, run_underlying hu, Result.andThen_ok]
  exact hrun
/-- An append that has room, of cells of the same block. -/
theorem Eff.appendIn {t e sz bytes : Nat} {z : Value} {x y : Operand} {gb i m cap q c : Nat} {cur news r' cells' : List Value} {sg' : Sg} (hx : ev ks x = some (.slice (some ⟨gb, 0, none⟩) i cap)) (hy : ev ks y = some (.slice (some ⟨gb, q, none⟩) m c)) (hu : P.underlying t = some (.slice e))
    (hi : (P.info? e).map (fun i => (i.zero, i.size, i.bytes)) = some (some z, sz, bytes)) (hU : Upd gb (.cells cur.toArray e (0, 0)) (.cells cells'.toArray e (0, 0)) sg sg') (hc : cells' = cur.take (i * sz) ++ news ++ cur.drop (i * sz + news.length)) (hl : news.length = m * sz) (hnews : m = 0 ∨ cur.drop q = news ++ r') (h1 : news.all (·.oneCell') = true)
    (hroom : i + m ≤ cap) (hfit : i * sz + news.length ≤ cur.length) :
    Eff P n B ⟨d, .call { callee := .builtin .append, args := #[x, y], argTypes := #[t, t] }, ty, pos, aft, g⟩ ks sg (α := Unit) (fun _ => True) (fun _ => .slice (some ⟨gb, 0, none⟩) (i + m) cap) (fun _ => sg') := fun a w K Q ha hw hk => by
  have e1 := ha.ev hx
  have e2 := ha.ev hy
  have hb := hw.own _ hU.mem
  simp only at hb
  cases hq : P.info? e with
  | none => simp [hq] at hi
  | some inf =>
    simp only [hq, Option.map_some, Option.some.injEq, Prod.mk.injEq] at hi
    obtain ⟨_, hs, _⟩ := hi
    have hn' : ∀ j u, news[j]? = some u → w.cell? ((⟨gb, q, none⟩ : Addr).add j) = some u := fun j u h => by
      rcases hnews with h0 | h0
      · subst h0
        have : news = [] := List.length_eq_zero_iff.1 (by omega)
        subst this; simp at h
      · rw [Addr.add_mid]; exact range_of_block (o := q) hb h0 j u h
    have hrun := run_append_room (P := P) w t ty e inf hu hq gb i cap cur.toArray hb ⟨gb, q, none⟩ m c news (by rw [hs]; exact hl) hn' (fun u hu => List.all_eq_true.1 h1 u hu) hroom (by rw [hs]; simpa using hfit)
    rw [hs] at hrun
    simp only [← hc] at hrun
    unfold Oper.wp
    have hex : (execOp a.eval ⟨d, .call { callee := .builtin .append, args := #[x, y], argTypes := #[t, t] }, ty, pos, aft, g⟩).run P w = .ok (.value (.slice (some ⟨gb, 0, none⟩) (i + m) cap)) (w.setRow gb cells'.toArray) := by
      simp only [execOp, resolve, invoke, Go.builtin, Sem.run_bind, Sem.run_pure, Result.andThen_ok, List.map_toArray, List.map_cons, List.map_nil, e1, e2, hrun]
    rw [hex]
    refine hk () _ trivial (hw.upd hU rfl rfl rfl (by simp [World.setRow]) ?_ (fun k hk => ?_))
    · simp [World.setRow, Array.getElem?_modify, hb]
    · simp [World.setRow, Array.getElem?_modify, Ne.symm hk]
/-- Elements are set to zero. -/
theorem Eff.clear {t e : Nat} {z : Value} {zl : List Value} {x : Operand} {gb q m c : Nat} {cur cells' : List Value} {sg' : Sg} (hx : ev ks x = some (.slice (some ⟨gb, q, none⟩) (m + 1) c)) (hu : P.underlying t = some (.slice e)) (hz : ∀ w, (zeroValue e).run P w = .ok z w) (hzl : z.cells = zl.toArray)
    (hU : Upd gb (.cells cur.toArray e (0, 0)) (.cells cells'.toArray e (0, 0)) sg sg') (hc : splice cur q (repL zl (m + 1)) = cells') (hfit : q + (repL zl (m + 1)).length ≤ cur.length) (h1 : (repL zl (m + 1)).all (·.oneCell') = true) :
    Eff P n B ⟨d, .call { callee := .builtin .clear, args := #[x], argTypes := #[t] }, ty, pos, aft, g⟩ ks sg (α := Unit) (fun _ => True) (fun _ => .tuple #[]) (fun _ => sg') := fun a w K Q ha hw hk => by
  have e1 := ha.ev hx
  have hb := hw.own _ hU.mem
  simp only at hb
  obtain ⟨w', hr, a1, a2, a3, a4, a5, a6⟩ := run_storeCells_splice (P := P) gb e (repL zl (m + 1)) cur q 0 w hb (by simpa using hfit) h1
  have hrep : (Builtin.zeroCells z.cells (m + 1)).toList = repL zl (m + 1) := by
    have := range_rep zl (m + 1)
    unfold Builtin.zeroCells
    rw [hzl]
    have h2 := congrArg Array.toList this
    simpa using h2
  have hrun : (Builtin.clear_ #[t] ty #[.slice (some ⟨gb, q, none⟩) (m + 1) c]).run P w = .ok (.tuple #[]) w' := by
    simp [Builtin.clear_, Sem.run_bind, run_underlying hu, hz, hrep, hr]
  unfold Oper.wp
  have hex : (execOp a.eval ⟨d, .call { callee := .builtin .clear, args := #[x], argTypes := #[t] }, ty, pos, aft, g⟩).run P w = .ok (.value (.tuple #[])) w' := by
    simp only [execOp, resolve, invoke, Go.builtin, Sem.run_bind, Sem.run_pure, Result.andThen_ok, List.map_toArray, List.map_cons, List.map_nil, e1, hrun]
  rw [hex]
  refine hk () _ trivial (hw.upd hU a1 a2 a3 a4 ?_ a6)
  rw [← hc]; simpa using a5
end
end Go.Proofs.YtlpbjmbgopfkhaaGreat.V
