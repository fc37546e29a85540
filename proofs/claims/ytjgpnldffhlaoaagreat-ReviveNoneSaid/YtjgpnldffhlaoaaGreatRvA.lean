/- Lists of cells: parts written over; devices. -/
import Derived.Test.YtjgpnldffhlaoaaGreatRows
import Derived.Test.YtjgpnldffhlaoaaGreatV29
import Derived.Test.YtjgpnldffhlaoaaGreatV22
import Derived.Lib.Hide
namespace Go.Proofs.YtjgpnldffhlaoaaGreat
open Go Go.RowKit V
set_option linter.unusedVariables false
set_option maxRecDepth 100000
open V (str byC ownV ownG ownS ownOk)
theorem mixed : Tryz.prog.follows .mixedOrders = true := by kernel_rfl
instance : Mix Tryz.prog := ⟨mixed⟩
theorem all_one {α : Type} {enc : α → List Value} (h : ∀ x, (enc x).all (·.oneCell') = true) (l : List α) : (l.flatMap enc).all (·.oneCell') = true := by
  induction l with
  | nil => rfl
  | cons y t ih => simp only [List.flatMap_cons, List.all_append, ih, Bool.and_true]; exact h y
theorem range_flat {α : Type} [Inhabited α] {enc : α → List Value} {sz : Nat} (hk : ∀ x, (enc x).length = sz) {l : List α} {b o : Nat} {w : World} (h : ∀ i x, l[i]? = some x → w.rangeAt b (o + i * sz) (enc x)) : w.rangeAt b o (l.flatMap enc) := fun j v hv => by
  have hj : j < l.length * sz := by rw [← V.flatMap_len hk]; exact (List.getElem?_eq_some_iff.1 hv).1
  rw [V.flatMap_get hk l hj] at hv
  have hs0 : 0 < sz := by rcases Nat.eq_zero_or_pos sz with e | e; (subst e; omega); exact e
  have hq : j / sz < l.length := (Nat.div_lt_iff_lt_mul hs0).2 hj
  have hx : l[j / sz]? = some l[j / sz]! := by rw [List.getElem?_eq_getElem hq, getElem!_pos l _ hq]
  have h1 := h _ _ hx (j % sz) v hv
  have := Nat.div_add_mod j sz
  rw [Nat.mul_comm] at this
  rw [show o + j = o + j / sz * sz + j % sz by omega]
  exact h1
theorem sl_range {α : Type} [Inhabited α] {enc : α → List Value} {sz : Nat} (hk : ∀ x, (enc x).length = sz) {l : List α} {p : Option Addr} {w0 : World} {F : List Nat} (h : V.slAt w0 p sz enc l) (hn : 0 < l.length) (hf : ∀ b o, p = some ⟨b, o, none⟩ → b ∉ F) : ∃ b o, p = some ⟨b, o, none⟩ ∧ ∀ {sg : Sg} (w : World), Hp ⟨w0, F⟩ sg w → w.rangeAt b o (l.flatMap enc) := by
  rcases h with h | ⟨b, o, hp, hb, hr⟩
  · rw [h] at hn; simp at hn
  · refine ⟨b, o, hp, fun {sg} w hw => range_flat hk fun i x hx => ?_⟩
    have h8 := hw.slAt (F := F) (.inr ⟨b, o, hp, hb, hr⟩ : V.slAt w0 p sz enc l) hf
    rcases h8 with h8 | ⟨b2, o2, hp2, _, hr2⟩
    · rw [h8] at hx; simp at hx
    · rw [hp] at hp2
      simp only [Option.some.injEq, Addr.mk.injEq] at hp2
      obtain ⟨rfl, rfl, _⟩ := hp2
      exact hr2 i x hx
theorem own_slg {α : Type} {enc : α → List Value} {sz e : Nat} (hk : ∀ x, (enc x).length = sz) (l : List α) (y : V.OwnO) (hy : ownOk sz l.length (l.flatMap enc) y) : ∃ (p : Option Addr) (c : Nat), ownV l.length y = .slice p l.length c ∧ (0 < sz → l.length ≤ c) ∧ ∀ {B : V.Base} {sg r : V.Sg} {w : World}, Hp B sg w → Pick [ownG e (l.flatMap enc) y] sg r → V.slAt w p sz enc l := by
  rcases y with _ | ⟨gb, rest, cap⟩
  · have hl0 : l.length = 0 := hy.2
    exact ⟨none, 0, by rw [hl0]; rfl, fun _ => by omega, fun _ _ => .inl (List.length_eq_zero_iff.1 hl0)⟩
  · refine ⟨some ⟨gb, 0, none⟩, cap, rfl, fun hs => ?_, fun hw hp => V.slAt_flat (hw.pick hp) hk rfl .here⟩
    have h1 := hy.1
    have h2 : (l.flatMap enc).length + rest.length = cap * sz := hy.2
    exact Nat.le_of_mul_le_mul_right (show l.length * sz ≤ cap * sz by omega) hs
theorem not_in {B : V.Base} {ss sg r : V.Sg} {w : World} {p : Nat × Obj} (hw : Hp B sg w) (hp : Pick ss sg r) (hm : InS p r) : p.1 ∉ V.ids ss := fun h => by
  have hnd := (hw.perm (sg' := ss ++ r) (by rw [List.flatten_append]; exact hp.perm')).nd
  rw [List.flatten_append, List.map_append] at hnd
  exact (List.nodup_append.1 hnd).2.2 _ h _ (List.mem_map.2 ⟨p, hm.mem, rfl⟩) rfl
/-- Blocks of the state that suffice. -/
theorem V.Hp.pk {B : V.Base} {ss sg r : V.Sg} {w : World} (h : Hp B sg w) (hp : Pick ss sg r := by repeat (first | exact .nil | apply Pick.cons | exact .here | apply Ext.there)) : Hp B ss w := h.pick hp
theorem V.Hp.at {B : V.Base} {sg : V.Sg} {w : World} {b : Nat} {o : Obj} (h : Hp B sg w) (hm : InS (b, o) sg := by repeat (first | exact .here | exact .inner .here | exact .inner (.inner .here) | refine .there ?_)) : w.heap[b]? = some o := h.own _ hm.mem
theorem splice_app : ∀ (cs p y : List Value) (o : Nat), V.splice (p ++ y) (p.length + o) cs = p ++ V.splice y o cs
  | [], p, y, o => rfl
  | v :: r, p, y, o => by
    show V.splice ((p ++ y).set (p.length + o) v) (p.length + o + 1) r = p ++ V.splice (y.set o v) (o + 1) r
    rw [List.set_append_right _ _ (Nat.le_add_right _ _), Nat.add_sub_cancel_left, Nat.add_assoc, splice_app r p]
theorem splice_left : ∀ (cs e r : List Value) (o : Nat), o + cs.length ≤ e.length → V.splice (e ++ r) o cs = V.splice e o cs ++ r
  | [], e, r, o, _ => rfl
  | v :: cs, e, r, o, h => by
    rw [List.length_cons] at h
    show V.splice ((e ++ r).set o v) (o + 1) cs = V.splice (e.set o v) (o + 1) cs ++ r
    rw [List.set_append_left _ _ (by omega), splice_left cs (e.set o v) r (o + 1) (by rw [List.length_set]; omega)]
theorem splice_cut : ∀ (cs l : List Value) (o : Nat), o + cs.length ≤ l.length → V.splice l o cs = l.take o ++ cs ++ l.drop (o + cs.length) := fun cs l o h => by
  have e : l = l.take o ++ (((l.drop o).take cs.length) ++ (l.drop o).drop cs.length) := by rw [List.take_append_drop, List.take_append_drop]
  have h1 : (l.take o).length = o := by rw [List.length_take]; omega
  have h2 := splice_app cs (l.take o) (((l.drop o).take cs.length) ++ (l.drop o).drop cs.length) 0
  rw [h1, ← e, Nat.add_zero] at h2
  have h3 := V.splice_mid cs [] ((l.drop o).take cs.length) ((l.drop o).drop cs.length) (by rw [List.length_take, List.length_drop]; omega)
  simp only [List.nil_append, List.length_nil] at h3
  rw [h2, h3, List.drop_drop, List.append_assoc]
/-- A part of an element written over. -/
theorem splice_in {α : Type} {enc : α → List Value} {k : Nat} (hk : ∀ x, (enc x).length = k) {l : List α} {i : Nat} {x y : α} (hx : l[i]? = some x) (o : Nat) (cs : List Value) (hc : V.splice (enc x) o cs = enc y) (ho : o + cs.length ≤ k) (r : List Value := []) : V.splice (l.flatMap enc ++ r) (i * k + o) cs = (l.set i y).flatMap enc ++ r := by
  have hi := (List.getElem?_eq_some_iff.1 hx).1
  have e1 : l = l.take i ++ x :: l.drop (i + 1) := by
    have h := List.take_append_drop i l
    rw [List.drop_eq_getElem_cons hi, (List.getElem?_eq_some_iff.1 hx).2] at h
    exact h.symm
  have hP : ((l.take i).flatMap enc).length = i * k := by rw [V.flatMap_len hk, List.length_take, Nat.min_eq_left (Nat.le_of_lt hi)]
  have e2 : l.flatMap enc ++ r = (l.take i).flatMap enc ++ (enc x ++ ((l.drop (i + 1)).flatMap enc ++ r)) := by
    conv => lhs; rw [e1]
    simp
  have e3 : (l.set i y).flatMap enc ++ r = (l.take i).flatMap enc ++ (enc y ++ ((l.drop (i + 1)).flatMap enc ++ r)) := by
    rw [List.set_eq_take_append_cons_drop, if_pos hi]
    simp
  rw [e2, e3, ← hP, splice_app, splice_left _ _ _ _ (by rw [hk]; exact ho), hc]
theorem set_splice (l : List Value) (o : Nat) (v : Value) : l.set o v = V.splice l o [v] := rfl
/-! ### A line's copies -/
abbrev B64 := {l : List UInt8 // l.length = 64}
structure Ce where
  now : B64
  kept : B64
  way : B64
  sent : Bool
def z64 : B64 := ⟨List.replicate 64 0, by simp⟩
instance : Inhabited Ce := ⟨⟨z64, z64, z64, false⟩⟩
def ce0 : Ce := ⟨z64, z64, z64, false⟩
def ceC (c : Ce) : List Value := byC c.now.1 ++ (byC c.kept.1 ++ (byC c.way.1 ++ [.bool c.sent]))
theorem byC64 (b : B64) : (byC b.1).length = 64 := by rw [V.byC_len, b.2]
theorem ceC_len (c : Ce) : (ceC c).length = 193 := by unfold ceC; simp only [List.length_append, byC64, List.length_cons, List.length_nil]
theorem ceC_one (c : Ce) : (ceC c).all (·.oneCell') = true := by unfold ceC; simp only [List.all_append, V.byC_one, Bool.true_and]; rfl
theorem ce_now (c : Ce) (b : B64) : V.splice (ceC c) 0 (byC b.1) = ceC { c with now := b } := by
  have h := V.splice_mid (byC b.1) [] (byC c.now.1) (byC c.kept.1 ++ (byC c.way.1 ++ [.bool c.sent])) (by rw [byC64, byC64])
  simpa [ceC] using h
theorem ce_kept (c : Ce) (b : B64) : V.splice (ceC c) 64 (byC b.1) = ceC { c with kept := b } := by
  have h := V.splice_mid (byC b.1) (byC c.now.1) (byC c.kept.1) (byC c.way.1 ++ [.bool c.sent]) (by rw [byC64, byC64])
  rw [byC64] at h
  exact h
theorem ce_way (c : Ce) (b : B64) : V.splice (ceC c) 128 (byC b.1) = ceC { c with way := b } := by
  have h := V.splice_mid (byC b.1) (byC c.now.1 ++ byC c.kept.1) (byC c.way.1) [.bool c.sent] (by rw [byC64, byC64])
  rw [List.length_append, byC64, byC64, List.append_assoc] at h
  rw [show ceC c = byC c.now.1 ++ (byC c.kept.1 ++ (byC c.way.1 ++ [.bool c.sent])) from rfl, h]
  simp [ceC]
theorem ce_sent (c : Ce) (b : Bool) : V.splice (ceC c) 192 [.bool b] = ceC { c with sent := b } := by
  have h := V.splice_mid [.bool b] (byC c.now.1 ++ (byC c.kept.1 ++ byC c.way.1)) [.bool c.sent] [] rfl
  simp only [List.length_append, byC64, List.append_assoc, List.append_nil] at h
  exact h
theorem ce_at0 (c : Ce) : ceC c = byC c.now.1 ++ (byC c.kept.1 ++ (byC c.way.1 ++ [.bool c.sent])) := rfl
theorem ce_at64 (c : Ce) : (ceC c).drop 64 = byC c.kept.1 ++ (byC c.way.1 ++ [.bool c.sent]) := by rw [ce_at0]; exact List.drop_left' (byC64 _)
theorem ce_at128 (c : Ce) : (ceC c).drop 128 = byC c.way.1 ++ [.bool c.sent] := by rw [show 128 = 64 + 64 from rfl, ← List.drop_drop, ce_at64]; exact List.drop_left' (byC64 _)
theorem ce_at192 (c : Ce) : (ceC c).drop 192 = [.bool c.sent] := by rw [show 192 = 128 + 64 from rfl, ← List.drop_drop, ce_at128]; exact List.drop_left' (byC64 _)
/-- An element's cells from a place on, among those of all. -/
theorem flat_at {α : Type} {enc : α → List Value} {k : Nat} (hk : ∀ x, (enc x).length = k) {l : List α} {i : Nat} {x : α} (hx : l[i]? = some x) {o : Nat} (ho : o ≤ k) {cs r : List Value} (h : (enc x).drop o = cs ++ r) : ∃ r2, (l.flatMap enc).drop (i * k + o) = cs ++ r2 := by
  obtain ⟨r1, h1⟩ := V.drop_flatMap hk l i x hx
  refine ⟨r ++ r1, ?_⟩
  rw [← List.drop_drop, h1, List.drop_append_of_le_length (by rw [hk]; exact ho), h, List.append_assoc]
/-- How often a device was asked. -/
structure Cnt where
  a : Int
  b : Int
  c : Int
  d : Int
  e : Int
def ctC (k : Cnt) : List Value := [.int .i64 k.a, .int .i64 k.b, .int .i64 k.c, .int .i64 k.d, .int .i64 k.e]
def dvC (cb : Nat) (D : List Ce) (k : Cnt) : List Value := .slice (some ⟨cb, 0, none⟩) D.length D.length :: ctC k
/-- A device's two blocks. -/
abbrev devS (db cb : Nat) (D : List Ce) (k : Cnt) : Sg := [[(db, .cells (dvC cb D k).toArray 70 (0, 0))], [(cb, .cells (D.flatMap ceC).toArray 96 (0, 0))]]
def byE (u : UInt8) : List Value := [.int .u8 (u.toNat : Nat)]
theorem byE_len (u : UInt8) : (byE u).length = 1 := rfl
theorem byE_one (u : UInt8) : (byE u).all (·.oneCell') = true := rfl
theorem byC_flat (l : List UInt8) : byC l = l.flatMap byE := by
  induction l with
  | nil => rfl
  | cons a r ih => rw [List.flatMap_cons, ← ih]; rfl
theorem dev_at {w : World} {cb : Nat} {D : List Ce} {i : Nat} {c : Ce} (hx : D[i]? = some c) (hb : w.heap[cb]? = some (.cells (D.flatMap ceC).toArray 96 (0, 0))) {o : Nat} (ho : o ≤ 193) {b : B64} {r : List Value} (h : (ceC c).drop o = byC b.1 ++ r) : V.slAt w (some ⟨cb, i * 193 + o, none⟩) 1 byE b.1 := by
  obtain ⟨r2, h2⟩ := flat_at ceC_len hx ho h
  refine .inr ⟨cb, i * 193 + o, rfl, V.lt_of_some hb, fun j x hj => ?_⟩
  have h3 : w.rangeAt cb (i * 193 + o) (byC b.1) := V.range_of_block hb h2
  intro m v hv
  have hm : m = 0 := by have := (List.getElem?_eq_some_iff.1 hv).1; simp [byE] at this; exact this
  subst hm
  have h4 := h3 j v (by rw [byC_flat, ← Nat.mul_one j]; obtain ⟨r3, h5⟩ := V.drop_flatMap byE_len b.1 j x hj; have h6 := congrArg (fun l => l[0]?) h5; simp only [List.getElem?_drop, Nat.add_zero] at h6; rw [h6]; simp [byE] at hv ⊢; exact hv)
  rw [Nat.mul_one, Nat.add_zero]
  exact h4
end Go.Proofs.YtjgpnldffhlaoaaGreat
