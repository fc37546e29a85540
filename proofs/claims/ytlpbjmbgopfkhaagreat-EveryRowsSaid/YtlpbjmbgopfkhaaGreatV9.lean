/- A small calculus of symbolic states, part 9: slices of one's own that grow. No program in sight. -/
import Derived.Test.YtlpbjmbgopfkhaaGreatV8
import Derived.ArgAppend
import Derived.Laws.OwnMore
namespace Go.Proofs.YtlpbjmbgopfkhaaGreat.V
open Go Go.RowKit
set_option linter.unusedVariables false
abbrev OwnO := Option (Nat × List Value × Nat)
/-- A slice of n elements: none: nil; some (g, rest, cap): in block g, rest behind its elements. -/
def ownV (n : Nat) : OwnO → Value
  | none => .slice none 0 0
  | some (g, _, cap) => .slice (some ⟨g, 0, none⟩) n cap
def ownS (e : TypeId) (xs : List Value) : OwnO → Sg
  | none => []
  | some (g, rest, _) => [[(g, .cells (xs ++ rest).toArray e (0, 0))]]
def ownOk (sz n : Nat) (xs : List Value) (o : OwnO) : Prop := xs.length = n * sz ∧ match o with
  | none => n = 0
  | some (_, rest, cap) => xs.length + rest.length = cap * sz
theorem ownV_one (n : Nat) (o : OwnO) : (ownV n o).oneCell' = true := by cases o <;> rfl
theorem Hp.grow_none {B : Base} {sg : Sg} {w w' : World} (h : Hp B sg w) (hg : w.grownBy w' none) : Hp B sg w' :=
  ⟨hg.os.trans h.os, hg.tape.trans h.tape, hg.output.trans h.output, Nat.le_trans h.size hg.size,
    fun b hb hf => (hg.block b (Nat.lt_of_lt_of_le hb h.size) (by simp)).trans (h.old b hb hf), fun p hp => (hg.block p.1 (lt_of_some (h.own p hp)) (by simp)).trans (h.own p hp), h.lo, h.nd⟩
section
variable {P : Program} {n : Nat} {B : Base} {ks : Ks} {sg : Sg} {d : Option Tmp} {ty : TypeId} {pos : String} {aft : Array Edge} {g : Option (Nat × Bool)}
theorem own_new {R : Sg} {w w' : World} {e sz m : Nat} {v' : Value} {xs : List Value} (hR : Hp B R w) (hr : w'.ownsRow w.heap.size e sz v' m xs) (hg : w.grownBy w' none) (hm : 0 < m) :
    ∃ o', v' = ownV m o' ∧ ownOk sz m xs o' ∧ o'.isSome = true ∧ Hp B (ownS e xs o' ++ R) w' := by
  obtain ⟨hlen, ⟨_, h0⟩ | ⟨g, cap, cur, rfl, hbg, hb, hnc, hcm, hcs, htake⟩⟩ := hr
  · omega
  · refine ⟨some (g, cur.toList.drop (m * sz), cap), rfl, ⟨hlen, ?_⟩, rfl, ?_⟩
    · have hle : m * sz ≤ cap * sz := Nat.mul_le_mul_right _ hnc
      simp only [List.length_drop, Array.length_toList, hcs, hlen]
      omega
    · have hcur : cur = (xs ++ cur.toList.drop (m * sz)).toArray := by
        rw [← htake, List.take_append_drop]
      have h1 := hR.grow_none hg
      refine h1.cons (by rw [← hcur]; exact hb) (.inl (Nat.le_trans hR.size hbg)) (fun hin => ?_)
      obtain ⟨p, hp, rfl⟩ := List.mem_map.1 hin
      have := lt_of_some (hR.own p hp)
      omega
theorem append_run {t e sz bytes : Nat} {z : Value} {R : Sg} {w : World} {xs : List Value} {m0 : Nat} {o : OwnO} (hu : P.underlying t = some (.slice e)) (hi : (P.info? e).map (fun i => (i.zero, i.size, i.bytes)) = some (some z, sz, bytes)) (hzs : z.cells.size = sz) (hsz : 0 < sz)
    (hw : Hp B (ownS e xs o ++ R) w) (hok : ownOk sz m0 xs o) {b off m c : Nat} {news : List Value} (hm : 0 < m) (hl : news.length = m * sz) (hnews : w.rangeAt b off news) (h1 : news.all (·.oneCell') = true) (hmax : (m0 + m) * bytes ≤ 140737488355328) (hmax2 : m0 + m ≤ 9223372036854775807) :
    ∃ o' w', (Builtin.append_ #[t, t] ty #[ownV m0 o, .slice (some ⟨b, off, none⟩) m c]).run P w = .ok (ownV (m0 + m) o') w' ∧ ownOk sz (m0 + m) (xs ++ news) o' ∧ o'.isSome = true ∧ Hp B (ownS e (xs ++ news) o' ++ R) w' := by
  cases hq : P.info? e with
  | none => simp [hq] at hi
  | some i =>
    simp only [hq, Option.map_some, Option.some.injEq, Prod.mk.injEq] at hi
    obtain ⟨hz, hs, hb⟩ := hi
    have hmx : m0 + m ≤ maxLen := by unfold maxLen; omega
    have hn' : ∀ j u, news[j]? = some u → w.cell? ((⟨b, off, none⟩ : Addr).add j) = some u := fun j u h => by rw [Addr.add_mid]; exact hnews j u h
    have h1' : ∀ u ∈ news, u.oneCell' = true := fun u hu => List.all_eq_true.1 h1 u hu
    rcases o with _ | ⟨g, rest, cap⟩
    · obtain ⟨hx, h0⟩ := hok
      simp only at h0
      subst h0
      have hx0 : xs = [] := List.length_eq_zero_iff.1 (by omega)
      subst hx0
      obtain ⟨v', w', hrun, r1, r2, _⟩ := run_append_own (P := P) w w.heap.size t ty e i z sz bytes hu hq hz hs hb hzs hsz (.slice none 0 0) 0 [] (World.ownsRow_nil w _ e sz) ⟨b, off, none⟩ m c news hl hn' h1' hmx hmax (Nat.le_refl _)
      obtain ⟨o', rfl, h2, h3, h4⟩ := own_new (by simpa [ownS] using hw : Hp B R w) r1 r2 (by omega)
      exact ⟨o', w', hrun, h2, h3, h4⟩
    · obtain ⟨hx, hcap⟩ := hok
      simp only at hcap
      have hown := hw.own (g, .cells (xs ++ rest).toArray e (0, 0)) (by simp [ownS])
      simp only at hown
      by_cases hroom : m0 + m ≤ cap
      · have hle : (m0 + m) * sz ≤ cap * sz := Nat.mul_le_mul_right _ hroom
        rw [Nat.add_mul] at hle
        have hrun := run_append_room (P := P) w t ty e i hu hq g m0 cap (xs ++ rest).toArray hown ⟨b, off, none⟩ m c news (by rw [hs]; exact hl) hn' h1' hroom (by rw [hs]; simp only [List.size_toArray, List.length_append]; omega)
        have hcells : ((xs ++ rest).toArray.toList.take (m0 * i.size) ++ news ++ (xs ++ rest).toArray.toList.drop (m0 * i.size + news.length)) = (xs ++ news) ++ rest.drop news.length := by
          rw [hs, ← hx]
          simp [List.take_append, List.drop_append]
        rw [hcells] at hrun
        refine ⟨some (g, rest.drop news.length, cap), _, hrun, ⟨by rw [List.length_append, hx, hl, Nat.add_mul], ?_⟩, rfl, ?_⟩
        · simp only [List.length_append, List.length_drop]; omega
        · refine hw.upd (b := g) (o := .cells (xs ++ rest).toArray e (0, 0)) (o' := .cells ((xs ++ news) ++ rest.drop news.length).toArray e (0, 0)) .here rfl rfl rfl (by simp [World.setRow]) ?_ (fun k hk => ?_)
          · simp [World.setRow, Array.getElem?_modify, hown]
          · simp [World.setRow, Array.getElem?_modify, Ne.symm hk]
      · have holds : ∀ j u, xs[j]? = some u → w.cell? ((⟨g, 0, none⟩ : Addr).add j) = some u := fun j u h => by
          rw [Addr.add_mid]
          exact cell_of_block hown (by rw [Nat.zero_add, List.getElem?_append_left (List.getElem?_eq_some_iff.1 h).1, h])
        obtain ⟨v', w', hrun, r1, r2⟩ := run_append_arg_grows (P := P) (w := w) t ty e i z sz bytes hu hq hz hs hb hzs hsz ⟨g, 0, none⟩ m0 cap xs hx holds ⟨b, off, none⟩ m c news hl hn' (by omega) hmx hmax
        obtain ⟨o', rfl, h2, h3, h4⟩ := own_new (by simpa [ownS] using hw : Hp B ([(g, .cells (xs ++ rest).toArray e (0, 0))] :: R) w).tl r1 r2 (by omega)
        exact ⟨o', w', hrun, h2, h3, h4⟩
/-- An append to a slice of one's own. -/
theorem Eff.append {t e sz bytes : Nat} {z : Value} {x y : Operand} {xs : List Value} {m0 : Nat} {o : OwnO} {r : Sg} {b off m c : Nat} (news : List Value) (hx : ev ks x = some (ownV m0 o)) (hy : ev ks y = some (.slice (some ⟨b, off, none⟩) m c)) (hu : P.underlying t = some (.slice e)) (hi : (P.info? e).map (fun i => (i.zero, i.size, i.bytes)) = some (some z, sz, bytes)) (hzs : z.cells.size = sz) (hsz : 0 < sz)
    (hp : Pick (ownS e xs o) sg r) (hok : ownOk sz m0 xs o) (hm : 0 < m) (hl : news.length = m * sz) (hnews : ∀ w, Hp B sg w → w.rangeAt b off news) (h1 : news.all (·.oneCell') = true) (hmax : (m0 + m) * bytes ≤ 140737488355328) (hmax2 : m0 + m ≤ 9223372036854775807) :
    Eff P n B ⟨d, .call { callee := .builtin .append, args := #[x, y], argTypes := #[t, t] }, ty, pos, aft, g⟩ ks sg (α := OwnO) (fun o' => ownOk sz (m0 + m) (xs ++ news) o' ∧ o'.isSome = true) (fun o' => ownV (m0 + m) o') (fun o' => r ++ ownS e (xs ++ news) o') := fun a w K Q ha hw hk => by
  have e1 := ha.ev hx
  have e2 := ha.ev hy
  obtain ⟨o', w', hrun, h2, h3, h4⟩ := append_run (P := P) (B := B) (ty := ty) hu hi hzs hsz (hw.perm (by rw [List.flatten_append]; exact hp.perm') : Hp B (ownS e xs o ++ r) w) hok (c := c) hm hl (hnews w hw) h1 hmax hmax2
  unfold Oper.wp
  have : (execOp a.eval ⟨d, .call { callee := .builtin .append, args := #[x, y], argTypes := #[t, t] }, ty, pos, aft, g⟩).run P w = .ok (.value (ownV (m0 + m) o')) w' := by
    simp only [execOp, resolve, invoke, Go.builtin, Sem.run_bind, Sem.run_pure, Result.andThen_ok, List.map_toArray, List.map_cons, List.map_nil, e1, e2, hrun]
  rw [this]
  exact hk o' w' ⟨h2, h3⟩ (h4.perm (by rw [List.flatten_append, List.flatten_append]; exact List.perm_append_comm))
theorem Eff.ofVal {o : Oper} {v : Value} (h : Val P n B o ks sg v) : Eff P n B o ks sg (α := Unit) (fun _ => True) (fun _ => v) (fun _ => sg) := fun a w K Q ha hw hk => by
  unfold Oper.wp
  rw [h a w ha hw]
  exact hk () w trivial hw
/-- A struct in a result's cell. -/
theorem PQ.retC {fn : Func} {R : Ending → World → Prop} {p : Nat} {t T : TypeId} {b : Nat} {fr : Nat × Nat} {l : List Value} (hr : fn.results = #[.cell p t]) (hp : look ks p = some (.pointer (some ⟨b, 0, none⟩)))
    (hm : InS (b, .cells l.toArray T fr) sg) (hg : ∀ w, (isAgg t).run P w = .ok true w) (hs : ∀ w, (sizeOf t).run P w = .ok l.length w) (h : ∀ w, Hp B sg w → R (.returned (.agg l.toArray)) w) : PQ n B (bodyPost P fn R) .ret ks sg :=
  PQ.ret_of (fun a w ha hw => by
    have h1 : (loadVar t ⟨b, 0, none⟩).run P w = .ok (.agg l.toArray) w := run_loadVar_many (P := P) (t := t) (range_of_block (o := 0) (r := []) (hw.own _ hm.mem) (by simp : l.drop 0 = l ++ [])) hg hs
    have h2 : a.tmps[p]?.getD undef = .pointer (some ⟨b, 0, none⟩) := by rw [ha.at_ _ _ hp]; rfl
    simp only [results, hr]
    simp [Sem.run_bind, Result.andThen, asAddr, h2, h1]) h
end
end Go.Proofs.YtlpbjmbgopfkhaaGreat.V
