/- A small calculus of symbolic states, part 15: texts: bytes in memory, slices of texts, what a strings.Builder does below. No program in sight. -/
import Derived.Test.YtlpbjmbgopfkhaaGreatV14
import Derived.Lib.UnsafeStr
import Derived.Lib.Builder
import Derived.Lib.Bytealg
import Derived.Laws.IdiomStrings
namespace Go.Proofs.YtlpbjmbgopfkhaaGreat.V
open Go Go.RowKit
set_option linter.unusedVariables false
def ownA : OwnO → Option Addr
  | none => none
  | some (gb, _, _) => some ⟨gb, 0, none⟩
/-- A text of these bytes. -/
def str (l : List UInt8) : Value := .string ⟨l.toArray⟩
abbrev byC (l : List UInt8) : List Value := Go.Lib.byteCells l
theorem byC_one (l : List UInt8) : (byC l).all (·.oneCell') = true := by
  simp only [byC, Go.Lib.byteCells, List.all_map, List.all_eq_true]
  intro x _; rfl
theorem byC_len (l : List UInt8) : (byC l).length = l.length := by simp [byC, Go.Lib.byteCells]
theorem byC_append (a b : List UInt8) : byC (a ++ b) = byC a ++ byC b := Go.Lib.byteCells_append a b
theorem str_size (l : List UInt8) : (⟨l.toArray⟩ : ByteArray).size = l.length := by simp [ByteArray.size]
theorem str_get (l : List UInt8) (k : Nat) : (⟨l.toArray⟩ : ByteArray)[k]? = l[k]? := by
  by_cases h : k < l.length
  · rw [getElem?_pos (⟨l.toArray⟩ : ByteArray) k (by rw [str_size]; exact h), List.getElem?_eq_getElem h]; rfl
  · rw [getElem?_neg (⟨l.toArray⟩ : ByteArray) k (by rw [str_size]; exact h), List.getElem?_eq_none (by omega)]
theorem str_of (s : ByteArray) : s = ⟨s.data.toList.toArray⟩ := by cases s; simp
theorem str_ext (s : ByteArray) (i j : Nat) : s.extract i j = ⟨((s.data.toList.drop i).take (j - i)).toArray⟩ := by
  apply ByteArray.ext
  apply Array.ext'
  simp [ByteArray.data_extract]
section
variable {P : Program} {n : Nat} {B : Base} {ks : Ks} {sg : Sg} {d : Option Tmp} {ty : TypeId} {pos : String} {aft : Array Edge} {g : Option (Nat × Bool)}
theorem Val.indexStr {t : TypeId} {x y : Operand} {k : IntKind} {i : Nat} {l : List UInt8} {u : UInt8} (hx : ev ks x = some (str l)) (hy : ev ks y = some (.int k (i : Nat))) (hu : P.underlying t = some .string) (h : l[i]? = some u) :
    Val P n B ⟨d, .index t x y, ty, pos, aft, g⟩ ks sg (.int .u8 (u.toNat : Nat)) := Val.indexS hx hy hu (by rw [str_get]; exact h)
theorem run_sliceStr {t : TypeId} {L H : Nat} {l : List UInt8} {lo hi : Option Value} (hu : P.underlying t = some .string) (hlo : lo = none ∧ L = 0 ∨ ∃ k, lo = some (.int k (L : Nat))) (hhi : hi = none ∧ H = l.length ∨ ∃ k, hi = some (.int k (H : Nat)))
    (h1 : L ≤ H) (h2 : H ≤ l.length) (w : World) : (Instr.slice t (str l) lo hi none).run P w = .ok (str ((l.drop L).take (H - L))) w := by
  have key : (Instr.sliceBounds false l.length l.length lo hi none).run P w = .ok (L, H, l.length) w := by
    rcases hhi with ⟨rfl, rfl⟩ | ⟨k2, rfl⟩
    · rcases hlo with ⟨rfl, rfl⟩ | ⟨k1, rfl⟩
      · simp [Instr.sliceBounds]
      · simp [Instr.sliceBounds, Sem.run_bind, run_sliceBound h1]
    · rcases hlo with ⟨rfl, rfl⟩ | ⟨k1, rfl⟩
      · simp [Instr.sliceBounds, Sem.run_bind, run_sliceBound h2]
      · simp [Instr.sliceBounds, Sem.run_bind, run_sliceBound h2, run_sliceBound h1]
  have e3 : (Instr.slice t (str l) lo hi none).run P w = ((Instr.sliceBounds false l.length l.length lo hi none).run P w).andThen fun x w => .ok (.string ((⟨l.toArray⟩ : ByteArray).extract x.1 x.2.1)) w := by
    unfold str
    simp [Instr.slice, run_underlying hu, Sem.run_bind, str_size]
  rw [e3, key]
  simp only [Result.andThen_ok, str_ext, str]
theorem Val.sliceStr {t : TypeId} {x : Operand} {lo hi : Option Operand} {l : List UInt8} (L H : Nat) (hx : ev ks x = some (str l)) (hu : P.underlying t = some .string) (hlo : optI ks lo L 0) (hhi : optI ks hi H l.length) (h1 : L ≤ H) (h2 : H ≤ l.length) :
    Val P n B ⟨d, .slice t x lo hi none, ty, pos, aft, g⟩ ks sg (str ((l.drop L).take (H - L))) := fun a w ha hw => by
  have conv : ∀ {o : Option Operand} {v dflt : Nat}, optI ks o v dflt → (o.map a.eval = none ∧ v = dflt) ∨ ∃ k, o.map a.eval = some (.int k (v : Nat)) := fun {o v dflt} h => by
    cases o with
    | none => exact .inl ⟨rfl, h⟩
    | some y => obtain ⟨k, hk⟩ := h; exact .inr ⟨k, by simp [ha.ev hk]⟩
  have hrun := run_sliceStr (P := P) (l := l) hu (conv hlo) (conv hhi) h1 h2 w
  show (do pure (Next.value (← Instr.sliceAt t (a.eval x) (lo.map a.eval) (hi.map a.eval) none)) : Sem Next).run P w = _
  rw [ha.ev hx]
  refine run_value ?_
  have : (Instr.sliceAt t (str l) (lo.map a.eval) (hi.map a.eval) none).run P w = (Instr.slice t (str l) (lo.map a.eval) (hi.map a.eval) none).run P w := by
    simp only [Instr.sliceAt, Sem.run_bind, run_underlying hu, Result.andThen_ok]
  rw [this]; exact hrun
theorem Val.catStr {t t' : TypeId} {x y : Operand} {i j : List UInt8} (hx : ev ks x = some (str i)) (hy : ev ks y = some (str j)) (hlen : i.length + j.length ≤ 140737488355328) : Val P n B ⟨d, .binOp .add t x y t', ty, pos, aft, g⟩ ks sg (str (i ++ j)) := by
  have h := Val.cat (P := P) (n := n) (B := B) (sg := sg) (d := d) (ty := ty) (pos := pos) (aft := aft) (g := g) (t := t) (t' := t') hx hy (by rw [str_size, str_size]; omega)
  have e : (⟨i.toArray⟩ : ByteArray) ++ ⟨j.toArray⟩ = ⟨(i ++ j).toArray⟩ := by
    apply ByteArray.ext; simp
  rw [e] at h
  exact h
theorem str_inj {a b : List UInt8} : ((⟨a.toArray⟩ : ByteArray) = ⟨b.toArray⟩) ↔ a = b := by
  constructor
  · intro h; injection h with h; exact List.toArray_inj h
  · rintro rfl; rfl
theorem Val.eqStr {t t' : TypeId} {x y : Operand} {i j : List UInt8} (hx : ev ks x = some (str i)) (hy : ev ks y = some (str j)) : Val P n B ⟨d, .binOp .eql t x y t', ty, pos, aft, g⟩ ks sg (.bool (decide (i = j))) := by
  have h := Val.cmpS (P := P) (n := n) (B := B) (sg := sg) (d := d) (ty := ty) (pos := pos) (aft := aft) (g := g) (op := .eql) (t := t) (t' := t') hx hy rfl
  have e : decide ((⟨i.toArray⟩ : ByteArray) = ⟨j.toArray⟩) = decide (i = j) := by simp [str_inj]
  rw [e] at h
  exact h
theorem Val.neStr {t t' : TypeId} {x y : Operand} {i j : List UInt8} (hx : ev ks x = some (str i)) (hy : ev ks y = some (str j)) : Val P n B ⟨d, .binOp .neq t x y t', ty, pos, aft, g⟩ ks sg (.bool (!decide (i = j))) := by
  have h := Val.cmpS (P := P) (n := n) (B := B) (sg := sg) (d := d) (ty := ty) (pos := pos) (aft := aft) (g := g) (op := .neq) (t := t) (t' := t') hx hy rfl
  have e : decide ((⟨i.toArray⟩ : ByteArray) = ⟨j.toArray⟩) = decide (i = j) := by simp [str_inj]
  rw [e] at h
  exact h
theorem Val.lenStr {x : Operand} {t : TypeId} {l : List UInt8} (hx : ev ks x = some (str l)) (hu : P.underlying t = some .string) : Val P n B ⟨d, .call { callee := .builtin .len, args := #[x], argTypes := #[t] }, ty, pos, aft, g⟩ ks sg (.int .i64 (l.length : Nat)) := by
  have h := Val.lenS (P := P) (n := n) (B := B) (sg := sg) (d := d) (ty := ty) (pos := pos) (aft := aft) (g := g) (t := t) hx hu
  rw [str_size] at h
  exact h
theorem bTd {p : Prop} [Decidable p] (h : (!decide p) = true) : ¬ p := by simpa using h
theorem take_one {l : List UInt8} {k : Nat} {c : UInt8} (h : l[k]? = some c) : (l.drop k).take (k + 1 - k) = [c] := by
  have hlt := (List.getElem?_eq_some_iff.1 h).1
  rw [List.drop_eq_getElem_cons hlt, Nat.add_sub_cancel_left]
  have := List.getElem?_eq_getElem hlt
  rw [h] at this
  simp [(Option.some.inj this).symm]
/-- An append of a text to bytes of one's own. -/
theorem Eff.appendStr {t u e : TypeId} {x y : Operand} {xs : List Value} {m0 : Nat} {o : OwnO} {r : Sg} {l : List UInt8} (hx : ev ks x = some (ownV m0 o)) (hy : ev ks y = some (str l)) (hu : P.underlying t = some (.slice e)) (hus : P.underlying u = some .string) (hi : (P.info? e).map (fun i => (i.zero, i.size, i.bytes)) = some (some (.int .u8 0), 1, 1))
    {pk : Sg} (hp : Pick pk sg r) (hpk : pk.flatten = ownG e xs o) (hok : ownOk 1 m0 xs o) (hmax : m0 + l.length ≤ 140737488355328) :
    Eff P n B ⟨d, .call { callee := .builtin .append, args := #[x, y], argTypes := #[t, u] }, ty, pos, aft, g⟩ ks sg (α := OwnO) (fun o' => ownOk 1 (m0 + l.length) (xs ++ byC l) o') (fun o' => ownV (m0 + l.length) o') (fun o' => ownG e (xs ++ byC l) o' :: r) := fun a w K Q ha hw hk => by
  have hw2 : Hp B (ownS e xs o ++ r) w := hw.perm (by rw [List.flatten_append]; have := hp.perm'; rwa [hpk] at this)
  have e1 := ha.ev hx
  have e2 := ha.ev hy
  have hsc : Go.Lib.strCells ⟨l.toArray⟩ = byC l := by rw [Go.Lib.strCells_eq]
  have hsz : (⟨l.toArray⟩ : ByteArray).size = l.length := str_size l
  have key : ∃ o' w', (Builtin.append_ #[t, u] ty #[ownV m0 o, str l]).run P w = .ok (ownV (m0 + l.length) o') w' ∧ ownOk 1 (m0 + l.length) (xs ++ byC l) o' ∧ Hp B (ownS e (xs ++ byC l) o' ++ r) w' := by
    cases hq : P.info? e with
    | none => simp [hq] at hi
    | some i =>
      simp only [hq, Option.map_some, Option.some.injEq, Prod.mk.injEq] at hi
      obtain ⟨hz, hs, hb⟩ := hi
      have hmx : m0 + l.length ≤ maxLen := by unfold maxLen; omega
      rcases o with _ | ⟨gb, rest, cap⟩
      · obtain ⟨hx0, h0⟩ := hok
        simp only at h0
        subst h0
        have hxs : xs = [] := List.length_eq_zero_iff.1 (by omega)
        subst hxs
        have hwr : Hp B r w := by simpa [ownS] using hw2
        obtain ⟨v', w', hrun, r1, r2, r3⟩ := Go.Lib.run_append_own_string (P := P) w w.heap.size t u ty e i hu hus hq hz hs hb (.slice none 0 0) 0 [] (World.ownsRow_nil w _ e 1) ⟨l.toArray⟩ (by rw [hsz]; exact hmx) (by rw [hsz]; omega) (Nat.le_refl _)
        rw [hsz, hsc] at r1
        by_cases hl : l.length = 0
        · have hl' : l = [] := List.length_eq_zero_iff.1 hl
          subst hl'
          have hv : v' = .slice none 0 0 := r3.2 ⟨rfl, by rw [hsz]; rfl⟩
          subst hv
          exact ⟨none, w', hrun, ⟨rfl, rfl⟩, by simpa [ownS] using hwr.grow_none r2⟩
        · obtain ⟨o', rfl, h2, h3, h4⟩ := own_new hwr r1 r2 (by omega)
          exact ⟨o', w', hrun, h2, h4⟩
      · obtain ⟨hx0, hcap⟩ := hok
        simp only at hcap
        have hown := hw2.own (gb, .cells (xs ++ rest).toArray e (0, 0)) (by simp [ownS])
        simp only at hown
        by_cases hroom : m0 + l.length ≤ cap
        · have hrun := Go.Lib.run_append_room_string (P := P) w t u ty e i hu hus hq hs gb m0 cap (xs ++ rest).toArray hown ⟨l.toArray⟩ (by rw [hsz]; exact hroom) (by rw [hsz]; simp only [List.size_toArray, List.length_append]; omega)
          have hcells : ((xs ++ rest).toArray.toList.take m0 ++ byC l ++ (xs ++ rest).toArray.toList.drop (m0 + l.length)) = (xs ++ byC l) ++ rest.drop l.length := by
            have hx1 : xs.length = m0 := by omega
            rw [← hx1]
            simp [List.take_append, List.drop_append]
          rw [hsz, hsc, hcells] at hrun
          refine ⟨some (gb, rest.drop l.length, cap), _, hrun, ⟨by rw [List.length_append, byC_len, hx0]; omega, ?_⟩, ?_⟩
          · simp only [List.length_append, List.length_drop, byC_len]; omega
          · refine hw2.upd (b := gb) (o := .cells (xs ++ rest).toArray e (0, 0)) (o' := .cells ((xs ++ byC l) ++ rest.drop l.length).toArray e (0, 0)) .here rfl rfl rfl (by simp [World.setRow]) ?_ (fun k hk => ?_)
            · simp [World.setRow, Array.getElem?_modify, hown]
            · simp [World.setRow, Array.getElem?_modify, Ne.symm hk]
        · have holds : ∀ j u, xs[j]? = some u → w.cell? ((⟨gb, 0, none⟩ : Addr).add j) = some u := fun j u h => by
            rw [Addr.add_mid]
            exact cell_of_block hown (by rw [Nat.zero_add, List.getElem?_append_left (List.getElem?_eq_some_iff.1 h).1, h])
          have hrun := Go.Lib.run_append_grow_string (P := P) w t u ty e i (.int .u8 0) hu hus hq hz ⟨gb, 0, none⟩ m0 cap xs (by rw [hs]; exact hx0) holds ⟨l.toArray⟩ (by rw [hsz]; omega) (by rw [hsz]; omega) (by rw [hb, hsz]; exact growslice_fits (by omega) (by omega))
          rw [hsz, hsc] at hrun
          have hge := grownCap_ge w (m0 + l.length) cap e
          have hcm : grownCap w (m0 + l.length) cap e ≤ maxLen := grownCap_le_maxLen w (m0 + l.length) cap e hmx
          have hlen : (xs ++ byC l).length = (m0 + l.length) * 1 := by rw [List.length_append, byC_len, hx0]; omega
          have hwr : Hp B r w := by
            have : Hp B ([(gb, .cells (xs ++ rest).toArray e (0, 0))] :: r) w := by simpa [ownS] using hw2
            exact this.tl
          obtain ⟨o', ho', h2, h3, h4⟩ := own_new (sz := 1) (e := e) (m := m0 + l.length) (xs := xs ++ byC l) (v' := .slice (some ⟨w.heap.size, 0, none⟩) (m0 + l.length) (grownCap w (m0 + l.length) cap e)) (w' := w.drew.alloc (.cells (xs.toArray ++ (byC l).toArray ++ Builtin.zeroCells (Value.int .u8 0).cells (grownCap w (m0 + l.length) cap e - (m0 + l.length))) e)) hwr
            ⟨hlen, .inr ⟨w.heap.size, _, _, rfl, Nat.le_refl _, heap_alloc_new w.drew _, hge, hcm, by
                have hz1 : (Value.int IntKind.u8 0).cells.size = 1 := rfl
                simp only [Array.size_append, List.size_toArray, size_zeroCells, hz1, hx0, byC_len]
                omega, by
                simp only [Array.toList_append, List.append_assoc]
                rw [← List.append_assoc, ← hlen]
                exact List.take_left⟩⟩ ⟨rfl, rfl, rfl, by simp, fun k hk _ => heap_alloc_old w.drew _ hk⟩ (by omega)
          refine ⟨o', _, ?_, h2, h4⟩
          rw [← ho']; exact hrun
  obtain ⟨o', w', hrun, h2, h4⟩ := key
  unfold Oper.wp
  have : (execOp a.eval ⟨d, .call { callee := .builtin .append, args := #[x, y], argTypes := #[t, u] }, ty, pos, aft, g⟩).run P w = .ok (.value (ownV (m0 + l.length) o')) w' := by
    simp only [execOp, resolve, invoke, Go.builtin, Sem.run_bind, Sem.run_pure, Result.andThen_ok, List.map_toArray, List.map_cons, List.map_nil, e1, e2, hrun]
  rw [this]
  exact hk o' w' h2 (h4.perm (by rw [List.flatten_append]; exact .refl _))
theorem Val.lenOwn {x : Operand} {t e sz m : Nat} {xs : List Value} {o : OwnO} (hx : ev ks x = some (ownV m o)) (hu : P.underlying t = some (.slice e)) (hok : ownOk sz m xs o) : Val P n B ⟨d, .call { callee := .builtin .len, args := #[x], argTypes := #[t] }, ty, pos, aft, g⟩ ks sg (.int .i64 (m : Nat)) := by
  rcases o with _ | ⟨gb, rest, cap⟩
  · have h0 : m = 0 := hok.2
    subst h0
    exact Val.lenSl hx hu
  · exact Val.lenSl hx hu
/-- Bytes read as a text. -/
theorem Val.convBytes {src dst e : TypeId} {x : Operand} {l : List UInt8} {o : OwnO} (hx : ev ks x = some (ownV l.length o)) (hs : P.underlying src = some (.slice e)) (he : P.underlying e = some (.int .u8)) (hd : P.underlying dst = some .string) (hok : ownOk 1 l.length (byC l) o)
    {pk r : Sg} (hp : Pick pk sg r) (hpk : pk.flatten = ownG e (byC l) o) : Val P n B ⟨d, .convert src dst x, ty, pos, aft, g⟩ ks sg (str l) := fun a w ha hw => by
  have hw2 : Hp B (ownS e (byC l) o ++ r) w := hw.perm (by rw [List.flatten_append]; have := hp.perm'; rwa [hpk] at this)
  show (do pure (Next.value (← convert src dst (a.eval x))) : Sem Next).run P w = _
  rw [ha.ev hx]
  refine run_value ?_
  rcases o with _ | ⟨gb, rest, cap⟩
  · have h0 : l.length = 0 := hok.2
    have : l = [] := List.length_eq_zero_iff.1 h0
    subst this
    exact run_convert_bytes_nil w src e hs he 0 0 dst hd
  · have hown := hw2.own (gb, .cells (byC l ++ rest).toArray e (0, 0)) (by simp [ownS])
    simp only at hown
    refine run_convert_bytes_back w src dst e ⟨gb, 0, none⟩ cap l hs he hd (fun j hj => ?_)
    rw [Addr.add_mid]
    refine cell_of_block hown ?_
    rw [Nat.zero_add, List.getElem?_append_left (by rw [byC_len]; exact hj)]
    simp [byC, Go.Lib.byteCells, hj]
/-- What a builder asks of its own address. -/
theorem Val.toUnsafe {src dst t e : TypeId} {x : Operand} {b : Nat} {cs : List Value} {fr : Nat × Nat} (hx : ev ks x = some (.pointer (some ⟨b, 0, none⟩))) (hs : P.underlying src = some (.pointer t)) (hd : P.underlying dst = some .unsafePointer) (ht : (P.info? t).map (fun i => i.size == 0) = some false)
    (hm : InS (b, .cells cs.toArray e fr) sg) (h0 : 0 < cs.length) : Val P n B ⟨d, .convert src dst x, ty, pos, aft, g⟩ ks sg (.pointer (some ⟨b, 0, none⟩)) := fun a w ha hw => by
  show (do pure (Next.value (← convert src dst (a.eval x))) : Sem Next).run P w = _
  rw [ha.ev hx]
  have hb := hw.own _ hm.mem
  simp only at hb
  obtain ⟨j, hj1, hj2⟩ : ∃ j, P.info? t = some j ∧ j.size ≠ 0 := by
    cases hq : P.info? t with
    | none => simp [hq] at ht
    | some j => simp [hq] at ht; exact ⟨j, rfl, ht⟩
  exact run_value (Go.Lib.run_to_unsafe (P := P) w ⟨b, 0, none⟩ hs hd hj1 hj2 (e := e) (cells := cs.length) (by simp [World.shape?, hb]) h0)
theorem Val.fromUnsafe {src dst u e : TypeId} {x : Operand} {b : Nat} {cs : List Value} {fr : Nat × Nat} (hx : ev ks x = some (.pointer (some ⟨b, 0, none⟩))) (hs : P.underlying src = some .unsafePointer) (hd : P.underlying dst = some (.pointer u)) (hu : (P.info? u).isSome = true)
    (hm : InS (b, .cells cs.toArray e fr) sg) (hl : liesAt P P.depth e (cs.length / P.cellsOf e) 0 u 1 = true) : Val P n B ⟨d, .convert src dst x, ty, pos, aft, g⟩ ks sg (.pointer (some ⟨b, 0, none⟩)) := fun a w ha hw => by
  show (do pure (Next.value (← convert src dst (a.eval x))) : Sem Next).run P w = _
  rw [ha.ev hx]
  have hb := hw.own _ hm.mem
  simp only at hb
  obtain ⟨j, hu⟩ := Option.isSome_iff_exists.1 hu
  exact run_value (Go.Lib.run_from_unsafe (P := P) w ⟨b, 0, none⟩ hs hd hu (e := e) (cells := cs.length) (by simp [World.shape?, hb]) hl)
theorem Val.neSame {t t' te : TypeId} {x y : Operand} {p : Addr} (hx : ev ks x = some (.pointer (some p))) (hy : ev ks y = some (.pointer (some p))) (hp : P.underlying t = some (.pointer te)) (hte : (P.info? te).isSome = true) :
    Val P n B ⟨d, .binOp .neq t x y t', ty, pos, aft, g⟩ ks sg (.bool false) := Val.bin hx hy fun w => by
  have h1 : (eqGuard .neq t x y (.pointer (some p)) (.pointer (some p))).run P w = .ok () w := rfl
  simp only [Sem.run_bind, h1, Result.andThen_ok]
  obtain ⟨j, hte⟩ := Option.isSome_iff_exists.1 hte
  exact Go.Lib.run_neq_ptr_same w p hp hte
theorem Val.sliceData {x : Operand} {ats : Array TypeId} {m : Nat} {o : OwnO} (hx : ev ks x = some (ownV m o)) (hc : ∀ q, o = some q → 0 < q.2.2) :
    Val P n B ⟨d, .call { callee := .builtin .unsafeSliceData, args := #[x], argTypes := ats }, ty, pos, aft, g⟩ ks sg (.pointer (ownA o)) := fun a w ha hw => by
  have e1 := ha.ev hx
  have key : (Builtin.unsafeSliceData_ ats ty #[ownV m o]).run P w = .ok (.pointer (ownA o)) w := by
    rcases o with _ | ⟨gb, rest, cap⟩
    · rfl
    · exact Go.Lib.run_unsafeSliceData_row w ats ty ⟨gb, 0, none⟩ m cap (by have := hc _ rfl; simp only at this; omega)
  simp only [execOp, resolve, invoke, Go.builtin, Sem.run_bind, Sem.run_pure, Result.andThen_ok, List.map_toArray, List.map_cons, List.map_nil, e1, key]
/-- A text of the bytes in a block of one's own: it is given up. -/
theorem Eff.unsafeStr {pt it e : TypeId} {x y : Operand} {l : List UInt8} {o : OwnO} {r : Sg} (hx : ev ks x = some (.pointer (ownA o))) (hy : ev ks y = some (.int .i64 (l.length : Nat))) (hpt : P.underlying pt = some (.pointer e)) (hc1 : P.cellsOf e = 1) (hok : ownOk 1 l.length (byC l) o) (h63 : l.length ≤ 9223372036854775807)
    {pk : Sg} (hp : Pick pk sg r) (hpk : pk.flatten = ownG e (byC l) o) :
    Eff P n B ⟨d, .call { callee := .builtin .unsafeString, args := #[x, y], argTypes := #[pt, it] }, ty, pos, aft, g⟩ ks sg (α := Unit) (fun _ => True) (fun _ => str l) (fun _ => r) := fun a w K Q ha hw hk => by
  have hw2 : Hp B (ownS e (byC l) o ++ r) w := hw.perm (by rw [List.flatten_append]; have := hp.perm'; rwa [hpk] at this)
  have e1 := ha.ev hx
  have e2 := ha.ev hy
  have key : ∃ w', (Builtin.unsafeString_ #[pt, it] ty #[.pointer (ownA o), .int .i64 (l.length : Nat)]).run P w = .ok (str l) w' ∧ Hp B r w' := by
    by_cases hl : l = []
    · subst hl
      refine ⟨w, ?_, ?_⟩
      · exact Go.Lib.run_unsafeString_none (P := P) w pt it ty (ownA o)
      · rcases o with _ | ⟨gb, rest, cap⟩
        · simpa [ownS] using hw2
        · exact (show Hp B ([(gb, .cells (byC [] ++ rest).toArray e (0, 0))] :: r) w by simpa [ownS] using hw2).tl
    · rcases o with _ | ⟨gb, rest, cap⟩
      · have h0 : l.length = 0 := hok.2
        exact absurd (List.length_eq_zero_iff.1 h0) hl
      · have hown := hw2.own (gb, .cells (byC l ++ rest).toArray e (0, 0)) (by simp [ownS])
        simp only at hown
        refine ⟨_, Go.Lib.run_unsafeString_row (P := P) w pt it ty e hpt hc1 gb (byC l ++ rest).length (by simp [World.shape?, hown]) l hl (by simp [byC_len]) h63 (fun j x hj => ?_), ?_⟩
        · rw [Addr.add_mid]
          refine cell_of_block hown ?_
          have hj' := (List.getElem?_eq_some_iff.1 hj).1
          rw [Nat.zero_add, List.getElem?_append_left (by rw [byC_len]; exact hj')]
          simp [byC, Go.Lib.byteCells, hj]
        · have h5 : Hp B ([(gb, .cells (byC l ++ rest).toArray e (0, 0))] :: r) w := by simpa [ownS] using hw2
          have hl0 : l.length ≠ 0 := fun e => hl (List.length_eq_zero_iff.1 e)
          refine (h5.upd (b := gb) (o := .cells (byC l ++ rest).toArray e (0, 0)) (o' := .cells (byC l ++ rest).toArray e (0, l.length)) .here ?_ ?_ ?_ ?_ ?_ (fun k hk => ?_)).tl
          · simp [World.freeze, hl0]
          · simp [World.freeze, hl0]
          · simp [World.freeze, hl0]
          · simp [World.freeze, hl0]
          · simp [World.freeze, hl0, Array.getElem?_modify, hown]
          · simp [World.freeze, hl0, Array.getElem?_modify, Ne.symm hk]
  obtain ⟨w', hrun, h4⟩ := key
  unfold Oper.wp
  have : (execOp a.eval ⟨d, .call { callee := .builtin .unsafeString, args := #[x, y], argTypes := #[pt, it] }, ty, pos, aft, g⟩).run P w = .ok (.value (str l)) w' := by
    simp only [execOp, resolve, invoke, Go.builtin, Sem.run_bind, Sem.run_pure, Result.andThen_ok, List.map_toArray, List.map_cons, List.map_nil, e1, e2, hrun]
  rw [this]
  exact hk () w' trivial h4
end
end Go.Proofs.YtlpbjmbgopfkhaaGreat.V
