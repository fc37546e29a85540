/- A small calculus of symbolic states, part 4: joins; slices of old memory; arguments. No program in sight. -/
import Derived.Test.YtlpbjmbgopfkhaaGreatV3
import Derived.ProofKit
import Derived.Deep.Slices
namespace Go.Proofs.YtlpbjmbgopfkhaaGreat.V
open Go Go.RowKit
set_option linter.unusedVariables false
section
variable {P : Program} {n : Nat} {B : Base} {Q : Exit → Act → World → Prop} {ks : Ks} {sg : Sg} {ops : Array Oper} {rest : List Oper}
variable {d : Option Nat} {ty : TypeId} {pos : String} {aft : Array Edge} {g : Option (Nat × Bool)}
/-- One of the states that x tells. -/
def Jn {α : Type} (n : Nat) (B : Base) (φ : α → Prop) (T : α → Ks) (G : α → Sg) : Exit → Act → World → Prop
  | .normal, a, w => ∃ x, φ x ∧ Fr n (T x) a ∧ Hp B (G x) w
  | _, _, _ => False
theorem PQ.joined {α : Type} {φ : α → Prop} {T : α → Ks} {G : α → Sg} {r : Sg} (x : α) (hx : φ x) (hs : subK (T x) ks) (hp : Pick (G x) sg r) : PQ n B (Jn n B φ T G) .normal ks sg := fun a w ha hw => ⟨x, hx, ha.sub hs, hw.pick hp⟩
/-- A region, up to what is asked behind it. -/
theorem CW.regJoin {α : Type} {id : Nat} {l : Array Oper} {b : Bool} (φ : α → Prop) (T : α → Ks) (G : α → Sg) (h1 : CW P n B (Jn n B φ T G) (.region id l b) ks sg) (h2 : ∀ x, φ x → PQ n B Q .normal (T x) (G x)) : CW P n B Q (.region id l b) ks sg :=
  fun a w ha hw => Code.wp_mono (fun e a w q => by
    cases e with
    | normal => obtain ⟨x, hx, hf, hp⟩ := q; exact h2 x hx a w hf hp
    | _ => exact q.elim) (h1 a w ha hw)
/-- Code that comes to its end in one of the states that x tells, or leaves as Q says. -/
theorem CW.join {α : Type} {c : Code} {K : Act → World → Prop} (φ : α → Prop) (T : α → Ks) (G : α → Sg) (h1 : CW P n B (Exit.then (fun a w => ∃ x, φ x ∧ Fr n (T x) a ∧ Hp B (G x) w) Q) c ks sg) (h2 : ∀ x, φ x → PQ n B (Exit.then K Q) .normal (T x) (G x)) : CW P n B (Exit.then K Q) c ks sg :=
  fun a w ha hw => Code.wp_mono (fun e a w q => by
    cases e with
    | normal => obtain ⟨x, hx, hf, hp⟩ := q; exact h2 x hx a w hf hp
    | _ => exact q) (h1 a w ha hw)
theorem PQ.joinedC {α : Type} {φ : α → Prop} {T : α → Ks} {G : α → Sg} {r : Sg} (x : α) (hx : φ x) (hs : subK (T x) ks) (hp : Pick (G x) sg r) : PQ n B (Exit.then (fun a w => ∃ x, φ x ∧ Fr n (T x) a ∧ Hp B (G x) w) Q) .normal ks sg := fun a w ha hw => ⟨x, hx, ha.sub hs, hw.pick hp⟩
theorem Val.minI {x y : Operand} {ats : Array TypeId} {k : IntKind} {i j : Int} (hx : ev ks x = some (.int k i)) (hy : ev ks y = some (.int k j)) : Val P n B ⟨d, .call { callee := .builtin .min, args := #[x, y], argTypes := ats }, ty, pos, aft, g⟩ ks sg (.int k (if j < i then j else i)) := fun a w ha hw => by
  have e := ha.ev hx
  have e' := ha.ev hy
  simp [execOp, resolve, invoke, Go.builtin, Builtin.min_, Builtin.min2, e, e']
theorem Val.maxI {x y : Operand} {ats : Array TypeId} {k : IntKind} {i j : Int} (hx : ev ks x = some (.int k i)) (hy : ev ks y = some (.int k j)) : Val P n B ⟨d, .call { callee := .builtin .max, args := #[x, y], argTypes := ats }, ty, pos, aft, g⟩ ks sg (.int k (if i < j then j else i)) := fun a w ha hw => by
  have e := ha.ev hx
  have e' := ha.ev hy
  simp [execOp, resolve, invoke, Go.builtin, Builtin.max_, Builtin.max2, e, e']
end
/-! ### Slices that lie in memory -/
/-- The slice at p reads as l: each element as so many cells as enc tells (sz of them). -/
def slAt {α : Type} (w : World) (p : Option Addr) (sz : Nat) (enc : α → List Value) (l : List α) : Prop :=
  l = [] ∨ ∃ b o, p = some ⟨b, o, none⟩ ∧ b < w.heap.size ∧ ∀ i x, l[i]? = some x → w.rangeAt b (o + i * sz) (enc x)
theorem rangeAt_below {w w' : World} {b o : Nat} {cs : List Value} (h : w.rangeAt b o cs) (hb : b < w.heap.size) (H : Below w.heap.size w w') : w'.rangeAt b o cs :=
  fun j v hv => (H.cell (p := ⟨b, o + j, none⟩) hb).trans (h j v hv)
theorem slAt_below {α : Type} {w w' : World} {p : Option Addr} {sz : Nat} {enc : α → List Value} {l : List α} (h : slAt w p sz enc l) (H : Below w.heap.size w w') : slAt w' p sz enc l := by
  rcases h with h | ⟨b, o, hp, hb, h⟩
  · exact .inl h
  · exact .inr ⟨b, o, hp, Nat.lt_of_lt_of_le hb H.size, fun i x hx => rangeAt_below (h i x hx) hb H⟩
theorem slAt_at {α : Type} {w : World} {p : Option Addr} {sz : Nat} {enc : α → List Value} {l : List α} {k n : Nat} (h : slAt w p sz enc l) (hn : l.length = n) (hk : k < n) : ∃ b o x, p = some ⟨b, o, none⟩ ∧ b < w.heap.size ∧ l[k]? = some x ∧ (∀ i x, l[i]? = some x → w.rangeAt b (o + i * sz) (enc x)) := by
  rcases h with rfl | ⟨b, o, hp, hb, h⟩
  · simp at hn; omega
  · exact ⟨b, o, l[k]'(by omega), hp, hb, by simp, h⟩
/-- What is old in every state of the walk. -/
theorem Hp.range {w0 : World} {F : List Nat} {sg : Sg} {w : World} {b o : Nat} {cs : List Value} (hw : Hp ⟨w0, F⟩ sg w) (h : w0.rangeAt b o cs) (hb : b < w0.heap.size) (hf : b ∉ F) : w.rangeAt b o cs :=
  fun j v hv => by rw [World.cell?_of_block (w := w0) (hw.old b hb hf)]; exact h j v hv
theorem Hp.slAt {α : Type} {w0 : World} {F : List Nat} {sg : Sg} {w : World} {p : Option Addr} {sz : Nat} {enc : α → List Value} {l : List α} (hw : Hp ⟨w0, F⟩ sg w) (h : V.slAt w0 p sz enc l) (hf : ∀ b o, p = some ⟨b, o, none⟩ → b ∉ F) : V.slAt w p sz enc l := by
  rcases h with h | ⟨b, o, hp, hb, h⟩
  · exact .inl h
  · exact .inr ⟨b, o, hp, Nat.lt_of_lt_of_le hb hw.size, fun i x hx => hw.range (h i x hx) hb (hf b o hp)⟩
theorem rangeAt_sub {w : World} {b o : Nat} {cs : List Value} (h : w.rangeAt b o cs) (i : Nat) {c r : List Value} (hd : cs.drop i = c ++ r) : w.rangeAt b (o + i) c := fun j v hv => by
  have : cs[i + j]? = some v := by rw [← List.getElem?_drop, hd, List.getElem?_append_left (List.getElem?_eq_some_iff.1 hv).1]; exact hv
  have := h (i + j) v this
  rwa [← Nat.add_assoc] at this
/-- A block of the state as a slice. -/
theorem slAt_own {α : Type} {B : Base} {sg : Sg} {w : World} {b T : Nat} {fr : Nat × Nat} {cs : List Value} {sz : Nat} {enc : α → List Value} {l : List α} (hw : Hp B sg w) (hm : InS (b, .cells cs.toArray T fr) sg) (h : ∀ i x, l[i]? = some x → ∃ r, cs.drop (i * sz) = enc x ++ r) : slAt w (some ⟨b, 0, none⟩) sz enc l :=
  .inr ⟨b, 0, rfl, lt_of_some (hw.own _ hm.mem), fun i x hx => by
    obtain ⟨r, hr⟩ := h i x hx
    rw [Nat.zero_add]
    exact range_of_block (hw.own _ hm.mem) hr⟩

theorem drop_flatMap {α : Type} {enc : α → List Value} {sz : Nat} (hsz : ∀ x, (enc x).length = sz) : ∀ (l : List α) (i : Nat) (x : α), l[i]? = some x → ∃ r, (l.flatMap enc).drop (i * sz) = enc x ++ r
  | [], i, x, h => by simp at h
  | y :: l, 0, x, h => by simp at h; subst h; exact ⟨l.flatMap enc, by simp⟩
  | y :: l, i + 1, x, h => by
    obtain ⟨r, hr⟩ := drop_flatMap hsz l i x (by simpa using h)
    refine ⟨r, ?_⟩
    rw [List.flatMap_cons, List.drop_append, hsz]
    have e1 : (i + 1) * sz - sz = i * sz := by rw [Nat.add_mul, Nat.one_mul, Nat.add_sub_cancel]
    have e2 : List.drop ((i + 1) * sz) (enc y) = [] := List.drop_eq_nil_iff.2 (by rw [hsz, Nat.add_mul, Nat.one_mul]; omega)
    rw [e1, e2, hr]
    rfl
/-- A block of the state that holds the elements' cells, one behind the other, and whatever behind them. -/
theorem slAt_flat {α : Type} {B : Base} {sg : Sg} {w : World} {b T : Nat} {fr : Nat × Nat} {cs : List Value} {sz : Nat} {enc : α → List Value} {l : List α} {r : List Value} (hw : Hp B sg w) (hsz : ∀ x, (enc x).length = sz) (hcs : cs = l.flatMap enc ++ r) (hm : InS (b, .cells cs.toArray T fr) sg) : slAt w (some ⟨b, 0, none⟩) sz enc l :=
  slAt_own hw hm fun i x hx => by
    obtain ⟨q, hq⟩ := drop_flatMap hsz l i x hx
    refine ⟨q ++ r, ?_⟩
    have hi : i * sz ≤ (l.flatMap enc).length := by
      rcases Nat.lt_or_ge ((l.flatMap enc).length) (i * sz) with h | h
      · rw [List.drop_eq_nil_iff.2 (by omega)] at hq
        have : (enc x).length = 0 := by
          have := congrArg List.length hq
          simp at this; omega
        rw [hsz] at this; subst this; simp at h
      · exact h
    rw [hcs, List.drop_append_of_le_length hi, hq, List.append_assoc]

/-! ### Arguments -/
section
variable {H : Type} {enc : TypeId × Value → H} {P : Program} {w : World} {base : Nat} {spare : Nat → Bool} {held : Bool}
theorem trod_fields {t : TypeId} {fs : Array Field} {fuel : Nat} {cs : List Value} {x : DataW H × List MemPlace} (ht : P.underlying t = some (.struct fs)) (h : DataW.trod enc P w base spare held fuel t cs = some x) :
    cs.length = P.cellsOf t ∧ ∃ m, ∀ (i : Nat) (f : Field), fs[i]? = some f → ∀ ty off k, f.type = ty → f.offset = off → P.cellsOf ty = k → ∃ y, DataW.trod enc P w base spare held m ty ((cs.drop off).take k) = some y := by
  obtain ⟨xs, m, _, _, hlen, hxl, hf⟩ := DataW.trod_struct ht h
  refine ⟨hlen, m, fun i f hi ty off k h1 h2 h3 => ?_⟩
  subst h1; subst h2; subst h3
  have hil : i < fs.size := (Array.getElem?_eq_some_iff.1 hi).1
  exact ⟨xs[i]'(by omega), by rw [hf i f hi]; simp⟩
theorem trod_bool {t : TypeId} {fuel : Nat} {cs : List Value} {x : DataW H × List MemPlace} (ht : P.underlying t = some .bool) (h : DataW.trod enc P w base spare held fuel t cs = some x) : ∃ b : Bool, cs = [.bool b] := by
  cases fuel with
  | zero => simp [DataW.trod] at h
  | succ n =>
    unfold DataW.trod at h
    rw [ht] at h
    split at h <;> simp_all
theorem add_of {w : World} {a : Addr} {i : Nat} {v : Value} (h : w.cell? (a.add i) = some v) (j : Nat) (hj : j ≠ 0 → True) : (a.add i).spot = none := by
  unfold World.cell? at h
  split at h
  · split at h
    · cases h
    · rename_i hs; simpa using hs
  · cases h
theorem addr_add (a : Addr) (h : a.spot = none) (i : Nat) : a.add i = ⟨a.block, a.off + i, none⟩ := by
  obtain ⟨b, o, s⟩ := a
  simp only at h
  subst h
  exact Addr.add_mid b o i
/-- A slice that came in: its elements' cells. -/
theorem open_sl {t e : TypeId} {fuel : Nat} {cs : List Value} {x : DataW H × List MemPlace} {sz : Nat} (ht : P.underlying t = some (.slice e)) (hsz : P.cellsOf e = sz) (hpos : 0 < sz) (h : DataW.trod enc P w base spare held fuel t cs = some x) :
    ∃ (p : Option Addr) (len cap : Nat) (l : List (List Value)), cs = [.slice p len cap] ∧ len = l.length ∧ len ≤ maxLen ∧ slAt w p sz id l ∧ ∀ c ∈ l, ∃ m y, DataW.trod enc P w base spare held m e c = some y := by
  rcases Deep.open_slice ht h with ⟨hcs, _⟩ | ⟨a, len, cap, m, n, D, Pl, hcs, _, hl, hm, hmm, _, hx⟩
  · exact ⟨none, 0, 0, [], hcs, rfl, by simp [maxLen], .inl rfl, by simp⟩
  · have hlm : len ≤ m := by rw [hmm]; split <;> omega
    rw [hsz] at hx
    obtain ⟨V, hV⟩ : ∃ V : Nat → List Value, ∀ i, i < len → w.cells? base (a.add (i * sz)) sz = some (V i) ∧ DataW.trod enc P w base spare held n e (V i) = some (D i, Pl i) := by
      refine ⟨fun i => if hi : i < len then Classical.choose (hx i (Nat.lt_of_lt_of_le hi hlm)) else [], fun i hi => ?_⟩
      simp only [dif_pos hi]
      have := Classical.choose_spec (hx i (Nat.lt_of_lt_of_le hi hlm))
      exact this
    refine ⟨some a, len, cap, (List.range len).map V, hcs, by simp, Nat.le_trans hl hm, ?_, fun c hc => ?_⟩
    · by_cases h0 : len = 0
      · left; simp [h0]
      · right
        have hc0 := World.cells?_some (hV 0 (by omega)).1
        have hcell : ∃ v, w.cell? (a.add (0 * sz)) = some v := by
          have h1 := hc0.2.2 0 hpos
          have h2 : (V 0)[0]? = some ((V 0)[0]'(by rw [hc0.2.1]; exact hpos)) := List.getElem?_eq_getElem _
          rw [h2] at h1
          have e : ((a.add (0 * sz)).add 0) = a.add (0 * sz) := by simp [Addr.add]
          rw [e] at h1
          exact ⟨_, h1⟩
        obtain ⟨v, hv⟩ := hcell
        have hspot : a.spot = none := by
          have := add_of hv 0 (fun _ => trivial)
          simpa [Addr.add] using this
        have hlt : a.block < w.heap.size := by
          have e : a.add (0 * sz) = a := by simp [Addr.add]
          rw [e] at hv
          exact block_lt_of_cell hv
        refine ⟨a.block, a.off, by cases a; simp_all, hlt, fun i c hc => ?_⟩
        simp only [List.getElem?_map, Option.map_eq_some_iff] at hc
        obtain ⟨i', hi', rfl⟩ := hc
        have hi : i < len ∧ i' = i := by
          have := List.getElem?_eq_some_iff.1 hi'
          obtain ⟨h1, h2⟩ := this
          simp at h1 h2
          exact ⟨h1, h2.symm⟩
        obtain ⟨hi1, rfl⟩ := hi
        have hci := World.cells?_some (hV i' hi1).1
        intro j v hv
        have hj : j < sz := by have := (List.getElem?_eq_some_iff.1 hv).1; rw [id, hci.2.1] at this; exact this
        have h1 := hci.2.2 j hj
        rw [addr_add a hspot, Addr.add_mid] at h1
        rw [h1]; exact hv
    · simp only [List.mem_map, List.mem_range] at hc
      obtain ⟨i, hi, rfl⟩ := hc
      exact ⟨n, _, (hV i hi).2⟩
/-- Lists by what each element is. -/
theorem slAt_map {α : Type} {w : World} {p : Option Addr} {sz : Nat} {enc' : α → List Value} {l : List (List Value)} {m : List α} (h : slAt w p sz id l) (he : l = m.map enc') : slAt w p sz enc' m := by
  subst he
  rcases h with h | ⟨b, o, hp, hb, h⟩
  · left; simpa using h
  · exact .inr ⟨b, o, hp, hb, fun i x hx => h i (enc' x) (by simp [hx])⟩
theorem list_choice {α : Type} {enc' : α → List Value} {p : α → Prop} : ∀ {l : List (List Value)}, (∀ c ∈ l, ∃ x, c = enc' x ∧ p x) → ∃ m : List α, l = m.map enc' ∧ ∀ x ∈ m, p x
  | [], _ => ⟨[], rfl, by simp⟩
  | c :: r, h => by
    obtain ⟨x, hx, hp⟩ := h c (by simp)
    obtain ⟨m, hm, hq⟩ := list_choice (l := r) (fun c hc => h c (by simp [hc]))
    exact ⟨x :: m, by simp [hx, hm], by simpa using ⟨hp, hq⟩⟩
end
end Go.Proofs.YtlpbjmbgopfkhaaGreat.V
