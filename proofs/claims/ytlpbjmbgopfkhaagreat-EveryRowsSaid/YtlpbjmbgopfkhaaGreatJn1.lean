import Derived.Test.YtlpbjmbgopfkhaaGreatRows
import Derived.Test.YtlpbjmbgopfkhaaGreatV29
import Derived.Test.YtlpbjmbgopfkhaaGreatV22
import Derived.Lib.Hide
import Derived.Test.YtlpbjmbgopfkhaaGreatV30
import Derived.Test.YtlpbjmbgopfkhaaGreatV31
import Derived.Test.YtlpbjmbgopfkhaaGreatV32
/- Lists of cells: parts written over; devices. -/
namespace Go.Proofs.YtlpbjmbgopfkhaaGreat
open Go Go.RowKit V
set_option linter.unusedVariables false
set_option maxRecDepth 100000
open V (str byC ownV ownG ownS ownOk)
theorem mixed : Tryz.prog.follows .mixedOrders = true := by kernel_rfl
instance : Mix Tryz.prog := ⟨mixed⟩
theorem all_one {α : Type} {enc : α → List Value} (h : ∀ x, (enc x).all (·.oneCell') = true) (l : List α) : (l.flatMap enc).all (·.oneCell') = true := by
  induction l with
  | nil => rfl
  | cons y t ih => simp only [List.flatMap_cons, List.all_append, ih, Bool.and_true]; exact h y
theorem range_flat {α : Type} [Inhabited α] {enc : α → List Value} {sz : Nat} (hk : ∀ x, (enc x).length = sz) {l : List α} {b o : Nat} {w : World} (h : ∀ i x, l[i]? = some x → w.rangeAt b (o + i * sz) (enc x)) : w.rangeAt b o (l.flatMap enc) := fun j v hv => by
  have hj : j < l.length * sz := by rw [← V.flatMap_len hk]; exact (List.getElem?_eq_some_iff.1 hv).1
  rw [V.flatMap_get hk l hj] at hv
  have hs0 : 0 < sz := by rcases Nat.eq_zero_or_pos sz with e | e; (subst e; omega); exact e
  have hq : j / sz < l.length := (Nat.div_lt_iff_lt_mul hs0).2 hj
  have hx : l[j / sz]? = some l[j / sz]! := by rw [List.getElem?_eq_getElem hq, getElem!_pos l _ hq]
  have h1 := h _ _ hx (j % sz) v hv
  have := Nat.div_add_mod j sz
  rw [Nat.mul_comm] at this
  rw [show o + j = o + j / sz * sz + j % sz by omega]
  exact h1
theorem sl_range {α : Type} [Inhabited α] {enc : α → List Value} {sz : Nat} (hk : ∀ x, (enc x).length = sz) {l : List α} {p : Option Addr} {w0 : World} {F : List Nat} (h : V.slAt w0 p sz enc l) (hn : 0 < l.length) (hf : ∀ b o, p = some ⟨b, o, none⟩ → b ∉ F) : ∃ b o, p = some ⟨b, o, none⟩ ∧ ∀ {sg : Sg} (w : World), Hp ⟨w0, F⟩ sg w → w.rangeAt b o (l.flatMap enc) := by
  rcases h with h | ⟨b, o, hp, hb, hr⟩
  · rw [h] at hn; simp at hn
  · refine ⟨b, o, hp, fun {sg} w hw => range_flat hk fun i x hx => ?_⟩
    have h8 := hw.slAt (F := F) (.inr ⟨b, o, hp, hb, hr⟩ : V.slAt w0 p sz enc l) hf
    rcases h8 with h8 | ⟨b2, o2, hp2, _, hr2⟩
    · rw [h8] at hx; simp at hx
    · rw [hp] at hp2
      simp only [Option.some.injEq, Addr.mk.injEq] at hp2
      obtain ⟨rfl, rfl, _⟩ := hp2
      exact hr2 i x hx
theorem own_slg {α : Type} {enc : α → List Value} {sz e : Nat} (hk : ∀ x, (enc x).length = sz) (l : List α) (y : V.OwnO) (hy : ownOk sz l.length (l.flatMap enc) y) : ∃ (p : Option Addr) (c : Nat), ownV l.length y = .slice p l.length c ∧ (0 < sz → l.length ≤ c) ∧ ∀ {B : V.Base} {sg r : V.Sg} {w : World}, Hp B sg w → Pick [ownG e (l.flatMap enc) y] sg r → V.slAt w p sz enc l := by
  rcases y with _ | ⟨gb, rest, cap⟩
  · have hl0 : l.length = 0 := hy.2
    exact ⟨none, 0, by rw [hl0]; rfl, fun _ => by omega, fun _ _ => .inl (List.length_eq_zero_iff.1 hl0)⟩
  · refine ⟨some ⟨gb, 0, none⟩, cap, rfl, fun hs => ?_, fun hw hp => V.slAt_flat (hw.pick hp) hk rfl .here⟩
    have h1 := hy.1
    have h2 : (l.flatMap enc).length + rest.length = cap * sz := hy.2
    exact Nat.le_of_mul_le_mul_right (show l.length * sz ≤ cap * sz by omega) hs
theorem not_in {B : V.Base} {ss sg r : V.Sg} {w : World} {p : Nat × Obj} (hw : Hp B sg w) (hp : Pick ss sg r) (hm : InS p r) : p.1 ∉ V.ids ss := fun h => by
  have hnd := (hw.perm (sg' := ss ++ r) (by rw [List.flatten_append]; exact hp.perm')).nd
  rw [List.flatten_append, List.map_append] at hnd
  exact (List.nodup_append.1 hnd).2.2 _ h _ (List.mem_map.2 ⟨p, hm.mem, rfl⟩) rfl
/-- Blocks of the state that suffice. -/
theorem V.Hp.pk {B : V.Base} {ss sg r : V.Sg} {w : World} (h : Hp B sg w) (hp : Pick ss sg r := by repeat (first | exact .nil | apply Pick.cons | exact .here | apply Ext.there)) : Hp B ss w := h.pick hp
theorem V.Hp.at {B : V.Base} {sg : V.Sg} {w : World} {b : Nat} {o : Obj} (h : Hp B sg w) (hm : InS (b, o) sg := by repeat (first | exact .here | exact .inner .here | exact .inner (.inner .here) | refine .there ?_)) : w.heap[b]? = some o := h.own _ hm.mem
theorem splice_app : ∀ (cs p y : List Value) (o : Nat), V.splice (p ++ y) (p.length + o) cs = p ++ V.splice y o cs
  | [], p, y, o => rfl
  | v :: r, p, y, o => by
    show V.splice ((p ++ y).set (p.length + o) v) (p.length + o + 1) r = p ++ V.splice (y.set o v) (o + 1) r
    rw [List.set_append_right _ _ (Nat.le_add_right _ _), Nat.add_sub_cancel_left, Nat.add_assoc, splice_app r p]
theorem splice_left : ∀ (cs e r : List Value) (o : Nat), o + cs.length ≤ e.length → V.splice (e ++ r) o cs = V.splice e o cs ++ r
  | [], e, r, o, _ => rfl
  | v :: cs, e, r, o, h => by
    rw [List.length_cons] at h
    show V.splice ((e ++ r).set o v) (o + 1) cs = V.splice (e.set o v) (o + 1) cs ++ r
    rw [List.set_append_left _ _ (by omega), splice_left cs (e.set o v) r (o + 1) (by rw [List.length_set]; omega)]
theorem splice_cut : ∀ (cs l : List Value) (o : Nat), o + cs.length ≤ l.length → V.splice l o cs = l.take o ++ cs ++ l.drop (o + cs.length) := fun cs l o h => by
  have e : l = l.take o ++ (((l.drop o).take cs.length) ++ (l.drop o).drop cs.length) := by rw [List.take_append_drop, List.take_append_drop]
  have h1 : (l.take o).length = o := by rw [List.length_take]; omega
  have h2 := splice_app cs (l.take o) (((l.drop o).take cs.length) ++ (l.drop o).drop cs.length) 0
  rw [h1, ← e, Nat.add_zero] at h2
  have h3 := V.splice_mid cs [] ((l.drop o).take cs.length) ((l.drop o).drop cs.length) (by rw [List.length_take, List.length_drop]; omega)
  simp only [List.nil_append, List.length_nil] at h3
  rw [h2, h3, List.drop_drop, List.append_assoc]
/-- A part of an element written over. -/
theorem splice_in {α : Type} {enc : α → List Value} {k : Nat} (hk : ∀ x, (enc x).length = k) {l : List α} {i : Nat} {x y : α} (hx : l[i]? = some x) (o : Nat) (cs : List Value) (hc : V.splice (enc x) o cs = enc y) (ho : o + cs.length ≤ k) (r : List Value := []) : V.splice (l.flatMap enc ++ r) (i * k + o) cs = (l.set i y).flatMap enc ++ r := by
  have hi := (List.getElem?_eq_some_iff.1 hx).1
  have e1 : l = l.take i ++ x :: l.drop (i + 1) := by
    have h := List.take_append_drop i l
    rw [List.drop_eq_getElem_cons hi, (List.getElem?_eq_some_iff.1 hx).2] at h
    exact h.symm
  have hP : ((l.take i).flatMap enc).length = i * k := by rw [V.flatMap_len hk, List.length_take, Nat.min_eq_left (Nat.le_of_lt hi)]
  have e2 : l.flatMap enc ++ r = (l.take i).flatMap enc ++ (enc x ++ ((l.drop (i + 1)).flatMap enc ++ r)) := by
    conv => lhs; rw [e1]
    simp
  have e3 : (l.set i y).flatMap enc ++ r = (l.take i).flatMap enc ++ (enc y ++ ((l.drop (i + 1)).flatMap enc ++ r)) := by
    rw [List.set_eq_take_append_cons_drop, if_pos hi]
    simp
  rw [e2, e3, ← hP, splice_app, splice_left _ _ _ _ (by rw [hk]; exact ho), hc]
/-! ### A line's copies -/
abbrev B64 := {l : List UInt8 // l.length = 64}
structure Ce where
  now : B64
  kept : B64
  way : B64
  sent : Bool
def z64 : B64 := ⟨List.replicate 64 0, by simp⟩
instance : Inhabited Ce := ⟨⟨z64, z64, z64, false⟩⟩
def ce0 : Ce := ⟨z64, z64, z64, false⟩
def ceC (c : Ce) : List Value := byC c.now.1 ++ (byC c.kept.1 ++ (byC c.way.1 ++ [.bool c.sent]))
theorem byC64 (b : B64) : (byC b.1).length = 64 := by rw [V.byC_len, b.2]
theorem ceC_len (c : Ce) : (ceC c).length = 193 := by unfold ceC; simp only [List.length_append, byC64, List.length_cons, List.length_nil]
theorem ceC_one (c : Ce) : (ceC c).all (·.oneCell') = true := by unfold ceC; simp only [List.all_append, V.byC_one, Bool.true_and]; rfl
theorem ce_now (c : Ce) (b : B64) : V.splice (ceC c) 0 (byC b.1) = ceC { c with now := b } := by
  have h := V.splice_mid (byC b.1) [] (byC c.now.1) (byC c.kept.1 ++ (byC c.way.1 ++ [.bool c.sent])) (by rw [byC64, byC64])
  simpa [ceC] using h
theorem ce_kept (c : Ce) (b : B64) : V.splice (ceC c) 64 (byC b.1) = ceC { c with kept := b } := by
  have h := V.splice_mid (byC b.1) (byC c.now.1) (byC c.kept.1) (byC c.way.1 ++ [.bool c.sent]) (by rw [byC64, byC64])
  rw [byC64] at h
  exact h
theorem ce_way (c : Ce) (b : B64) : V.splice (ceC c) 128 (byC b.1) = ceC { c with way := b } := by
  have h := V.splice_mid (byC b.1) (byC c.now.1 ++ byC c.kept.1) (byC c.way.1) [.bool c.sent] (by rw [byC64, byC64])
  rw [List.length_append, byC64, byC64, List.append_assoc] at h
  rw [show ceC c = byC c.now.1 ++ (byC c.kept.1 ++ (byC c.way.1 ++ [.bool c.sent])) from rfl, h]
  simp [ceC]
theorem ce_sent (c : Ce) (b : Bool) : V.splice (ceC c) 192 [.bool b] = ceC { c with sent := b } := by
  have h := V.splice_mid [.bool b] (byC c.now.1 ++ (byC c.kept.1 ++ byC c.way.1)) [.bool c.sent] [] rfl
  simp only [List.length_append, byC64, List.append_assoc, List.append_nil] at h
  exact h
theorem ce_at0 (c : Ce) : ceC c = byC c.now.1 ++ (byC c.kept.1 ++ (byC c.way.1 ++ [.bool c.sent])) := rfl
theorem ce_at64 (c : Ce) : (ceC c).drop 64 = byC c.kept.1 ++ (byC c.way.1 ++ [.bool c.sent]) := by rw [ce_at0]; exact List.drop_left' (byC64 _)
theorem ce_at128 (c : Ce) : (ceC c).drop 128 = byC c.way.1 ++ [.bool c.sent] := by rw [show 128 = 64 + 64 from rfl, ← List.drop_drop, ce_at64]; exact List.drop_left' (byC64 _)
theorem ce_at192 (c : Ce) : (ceC c).drop 192 = [.bool c.sent] := by rw [show 192 = 128 + 64 from rfl, ← List.drop_drop, ce_at128]; exact List.drop_left' (byC64 _)
/-- An element's cells from a place on, among those of all. -/
theorem flat_at {α : Type} {enc : α → List Value} {k : Nat} (hk : ∀ x, (enc x).length = k) {l : List α} {i : Nat} {x : α} (hx : l[i]? = some x) {o : Nat} (ho : o ≤ k) {cs r : List Value} (h : (enc x).drop o = cs ++ r) : ∃ r2, (l.flatMap enc).drop (i * k + o) = cs ++ r2 := by
  obtain ⟨r1, h1⟩ := V.drop_flatMap hk l i x hx
  refine ⟨r ++ r1, ?_⟩
  rw [← List.drop_drop, h1, List.drop_append_of_le_length (by rw [hk]; exact ho), h, List.append_assoc]
/-- How often a device was asked. -/
structure Cnt where
  a : Int
  b : Int
  c : Int
  d : Int
  e : Int
def ctC (k : Cnt) : List Value := [.int .i64 k.a, .int .i64 k.b, .int .i64 k.c, .int .i64 k.d, .int .i64 k.e]
def dvC (cb : Nat) (D : List Ce) (k : Cnt) : List Value := .slice (some ⟨cb, 0, none⟩) D.length D.length :: ctC k
/-- A device's two blocks. -/
abbrev devS (db cb : Nat) (D : List Ce) (k : Cnt) : Sg := [[(db, .cells (dvC cb D k).toArray 157 (0, 0))], [(cb, .cells (D.flatMap ceC).toArray 141 (0, 0))]]
def byE (u : UInt8) : List Value := [.int .u8 (u.toNat : Nat)]
theorem byE_len (u : UInt8) : (byE u).length = 1 := rfl
theorem byE_one (u : UInt8) : (byE u).all (·.oneCell') = true := rfl
theorem byC_flat (l : List UInt8) : byC l = l.flatMap byE := by
  induction l with
  | nil => rfl
  | cons a r ih => rw [List.flatMap_cons, ← ih]; rfl
theorem dev_at {w : World} {cb : Nat} {D : List Ce} {i : Nat} {c : Ce} (hx : D[i]? = some c) (hb : w.heap[cb]? = some (.cells (D.flatMap ceC).toArray 141 (0, 0))) {o : Nat} (ho : o ≤ 193) {b : B64} {r : List Value} (h : (ceC c).drop o = byC b.1 ++ r) : V.slAt w (some ⟨cb, i * 193 + o, none⟩) 1 byE b.1 := by
  obtain ⟨r2, h2⟩ := flat_at ceC_len hx ho h
  refine .inr ⟨cb, i * 193 + o, rfl, V.lt_of_some hb, fun j x hj => ?_⟩
  have h3 : w.rangeAt cb (i * 193 + o) (byC b.1) := V.range_of_block hb h2
  intro m v hv
  have hm : m = 0 := by have := (List.getElem?_eq_some_iff.1 hv).1; simp [byE] at this; exact this
  subst hm
  have h4 := h3 j v (by rw [byC_flat, ← Nat.mul_one j]; obtain ⟨r3, h5⟩ := V.drop_flatMap byE_len b.1 j x hj; have h6 := congrArg (fun l => l[0]?) h5; simp only [List.getElem?_drop, Nat.add_zero] at h6; rw [h6]; simp [byE] at hv ⊢; exact hv)
  rw [Nat.mul_one, Nat.add_zero]
  exact h4
end Go.Proofs.YtlpbjmbgopfkhaaGreat

/- A device: made, asked, stored to, flushed, fenced. -/
namespace Go.Proofs.YtlpbjmbgopfkhaaGreat
open Go Go.RowKit V
set_option linter.unusedVariables false
set_option maxRecDepth 100000
theorem places157 : ∀ w, ((Array.mapM (fun (f : Field) => do pure (f.offset, ← sizeOf f.type)) (Tryz.prog.fieldsOf 157) : Sem (Array (Nat × Nat)))).run Tryz.prog w = .ok [(0, 1), (1, 5)].toArray w := by
  intro w; kernel_rfl
instance : Und Tryz.prog 2 (dOf Tryz.underlying2) := ⟨Tryz.underlying2⟩
instance : Siz Tryz.prog 2 (kOf Tryz.sizeOf2) := ⟨Tryz.sizeOf2⟩
instance : AgF Tryz.prog 2 := ⟨Tryz.isAgg2⟩
instance : Zer Tryz.prog 2 (zOf Tryz.zeroValue2) := ⟨Tryz.zeroValue2⟩
instance : Und Tryz.prog 3 (dOf Tryz.underlying3) := ⟨Tryz.underlying3⟩
instance : Siz Tryz.prog 3 (kOf Tryz.sizeOf3) := ⟨Tryz.sizeOf3⟩
instance : AgF Tryz.prog 3 := ⟨Tryz.isAgg3⟩
instance : Zer Tryz.prog 3 (zOf Tryz.zeroValue3) := ⟨Tryz.zeroValue3⟩
instance : Und Tryz.prog 4 (dOf Tryz.underlying4) := ⟨Tryz.underlying4⟩
instance : Siz Tryz.prog 4 (kOf Tryz.sizeOf4) := ⟨Tryz.sizeOf4⟩
instance : AgF Tryz.prog 4 := ⟨Tryz.isAgg4⟩
instance : Zer Tryz.prog 4 (zOf Tryz.zeroValue4) := ⟨Tryz.zeroValue4⟩
instance : Und Tryz.prog 5 (dOf Tryz.underlying5) := ⟨Tryz.underlying5⟩
instance : Siz Tryz.prog 5 (kOf Tryz.sizeOf5) := ⟨Tryz.sizeOf5⟩
instance : AgF Tryz.prog 5 := ⟨Tryz.isAgg5⟩
instance : Zer Tryz.prog 5 (zOf Tryz.zeroValue5) := ⟨Tryz.zeroValue5⟩
instance : Und Tryz.prog 45 (dOf Tryz.underlying45) := ⟨Tryz.underlying45⟩
instance : Siz Tryz.prog 45 (kOf Tryz.sizeOf45) := ⟨Tryz.sizeOf45⟩
instance : AgF Tryz.prog 45 := ⟨Tryz.isAgg45⟩
instance : Zer Tryz.prog 45 (zOf Tryz.zeroValue45) := ⟨Tryz.zeroValue45⟩
instance : Und Tryz.prog 91 (dOf Tryz.underlying91) := ⟨Tryz.underlying91⟩
instance : Siz Tryz.prog 91 (kOf Tryz.sizeOf91) := ⟨Tryz.sizeOf91⟩
instance : AgF Tryz.prog 91 := ⟨Tryz.isAgg91⟩
instance : Zer Tryz.prog 91 (zOf Tryz.zeroValue91) := ⟨Tryz.zeroValue91⟩
instance : Und Tryz.prog 98 (dOf Tryz.underlying98) := ⟨Tryz.underlying98⟩
instance : Siz Tryz.prog 98 (kOf Tryz.sizeOf98) := ⟨Tryz.sizeOf98⟩
instance : AgF Tryz.prog 98 := ⟨Tryz.isAgg98⟩
instance : Zer Tryz.prog 98 (zOf Tryz.zeroValue98) := ⟨Tryz.zeroValue98⟩
instance : Und Tryz.prog 139 (dOf Tryz.underlying139) := ⟨Tryz.underlying139⟩
instance : Siz Tryz.prog 139 (kOf Tryz.sizeOf139) := ⟨Tryz.sizeOf139⟩
instance : AgT Tryz.prog 139 := ⟨Tryz.isAgg139⟩
instance : Zer Tryz.prog 139 (zOf Tryz.zeroValue139) := ⟨Tryz.zeroValue139⟩
instance : Und Tryz.prog 141 (dOf Tryz.underlying141) := ⟨Tryz.underlying141⟩
instance : Siz Tryz.prog 141 (kOf Tryz.sizeOf141) := ⟨Tryz.sizeOf141⟩
instance : AgT Tryz.prog 141 := ⟨Tryz.isAgg141⟩
instance : Zer Tryz.prog 141 (zOf Tryz.zeroValue141) := ⟨Tryz.zeroValue141⟩
instance : Und Tryz.prog 148 (dOf Tryz.underlying148) := ⟨Tryz.underlying148⟩
instance : Siz Tryz.prog 148 (kOf Tryz.sizeOf148) := ⟨Tryz.sizeOf148⟩
instance : AgF Tryz.prog 148 := ⟨Tryz.isAgg148⟩
instance : Zer Tryz.prog 148 (zOf Tryz.zeroValue148) := ⟨Tryz.zeroValue148⟩
instance : Und Tryz.prog 150 (dOf Tryz.underlying150) := ⟨Tryz.underlying150⟩
instance : Siz Tryz.prog 150 (kOf Tryz.sizeOf150) := ⟨Tryz.sizeOf150⟩
instance : AgT Tryz.prog 150 := ⟨Tryz.isAgg150⟩
instance : Zer Tryz.prog 150 (zOf Tryz.zeroValue150) := ⟨Tryz.zeroValue150⟩
instance : Und Tryz.prog 151 (dOf Tryz.underlying151) := ⟨Tryz.underlying151⟩
instance : Siz Tryz.prog 151 (kOf Tryz.sizeOf151) := ⟨Tryz.sizeOf151⟩
instance : AgT Tryz.prog 151 := ⟨Tryz.isAgg151⟩
instance : Zer Tryz.prog 151 (zOf Tryz.zeroValue151) := ⟨Tryz.zeroValue151⟩
instance : Und Tryz.prog 153 (dOf Tryz.underlying153) := ⟨Tryz.underlying153⟩
instance : Siz Tryz.prog 153 (kOf Tryz.sizeOf153) := ⟨Tryz.sizeOf153⟩
instance : AgT Tryz.prog 153 := ⟨Tryz.isAgg153⟩
instance : Zer Tryz.prog 153 (zOf Tryz.zeroValue153) := ⟨Tryz.zeroValue153⟩
instance : Und Tryz.prog 155 (dOf Tryz.underlying155) := ⟨Tryz.underlying155⟩
instance : Siz Tryz.prog 155 (kOf Tryz.sizeOf155) := ⟨Tryz.sizeOf155⟩
instance : AgT Tryz.prog 155 := ⟨Tryz.isAgg155⟩
instance : Zer Tryz.prog 155 (zOf Tryz.zeroValue155) := ⟨Tryz.zeroValue155⟩
instance : Und Tryz.prog 157 (dOf Tryz.underlying157) := ⟨Tryz.underlying157⟩
instance : Siz Tryz.prog 157 (kOf Tryz.sizeOf157) := ⟨Tryz.sizeOf157⟩
instance : AgT Tryz.prog 157 := ⟨Tryz.isAgg157⟩
instance : Zer Tryz.prog 157 (zOf Tryz.zeroValue157) := ⟨Tryz.zeroValue157⟩
instance : Plc Tryz.prog 157 (fOf Tryz.underlying157) (lOf (P := Tryz.prog) places157) := ⟨places157, Tryz.underlying157⟩
instance : Cal Tryz.prog 88 := ⟨Tryz.call88⟩
instance : Cal Tryz.prog 89 := ⟨Tryz.call89⟩
instance : Cal Tryz.prog 187 := ⟨Tryz.call187⟩
open V (str byC ownV ownG ownS ownOk)
theorem x_addI {a : Addr} {x y : Int} {w : World} (hc : w.cell? a = some (.int .i64 x)) (hz : w.frozen? a = false) : (callFunc 222 #[.pointer (some a), .int .i64 y]).run Tryz.prog w = .ok (.value (.int .i64 (IntKind.i64.wrap (x + y)))) (w.setCell a (.int .i64 (IntKind.i64.wrap (x + y)))) := run_call_add Tryz.func222 (by kernel_rfl) (by kernel_rfl) (by kernel_rfl) .i64 (by kernel_rfl) hc hz rfl
theorem addI_c (b o : Nat) (l : List Value) (T : Nat) (x y : Int) (w : World) (hl : l[o]? = some (.int .i64 x)) (hs : Sat [[(b, .cells l.toArray T (0, 0))]] w) : Calls Tryz.prog 187 [.pointer (some ⟨b, o, none⟩), .int .i64 y].toArray w fun e w' => ∃ _u : Unit, True ∧ e = .returned (.int .i64 (IntKind.i64.wrap (x + y))) ∧ Hp ⟨w, V.ids [[(b, .cells l.toArray T (0, 0))]]⟩ [[(b, .cells (l.set o (.int .i64 (IntKind.i64.wrap (x + y)))).toArray T (0, 0))]] w' := by
  refine V.calls [[(b, .cells l.toArray T (0, 0))]] Tryz.func187 rfl Tryz.ntmps187 (Nat.le_of_ble_eq_true rfl) hs <| Sq <| Rg <| Lv Av <| Nl <| Ps <| Sq <| Rg <| Lv Mv <| Lv Nz <| Lv (Fa 0 2) <| LW.re 7 (.pointer (some ⟨b, o, none⟩)) rfl rfl <| Lv Mv <| Le (Eff.ext (l' := l.set o (.int .i64 (IntKind.i64.wrap (x + y)))) rfl .here rfl (fun w hb => x_addI (V.cell_of_block hb (by exact hl)) (V.frozen_of hb))) fun _ _ => Lv Av <| Nl <| Ps <| Rt <| Rt1 ?_
  intro w' hw; exact ⟨(), trivial, rfl, hw⟩
theorem lines_c (db cb : Nat) (D : List Ce) (k : Cnt) (w : World) (hB : w.heap[db]? = some (.cells (dvC cb D k).toArray 157 (0, 0))) : Calls Tryz.prog 115 [.pointer (some ⟨db, 0, none⟩)].toArray w fun e w' => e = .returned (.int .i64 (D.length : Nat)) ∧ Below w.heap.size w w' := by
  refine V.calls [] Tryz.func115 rfl Tryz.ntmps115 (Nat.le_of_ble_eq_true rfl) (V.sat_nil _) <| Sq <| Rg <| Lv Av <| Nl <| Ps <| Sq <| Sq <| Rg <| Lv Mv <| Lv EP <| Nl <| Ps <| Cf <| Sk <| Ps <| Sq <| Rg <| Lv Mv <| Lv Nz <| Lv (Fa 0 148) <| Lv (Val.loadO rfl Tryz.isAgg148 (V.lt_of_some hB) (by simp [ids]) (V.cell_of_block hB rfl)) <| Lv Ln <| Lv Av <| Nl <| Ps <| Rt <| Rt1 ?_
  intro w hw; exact ⟨rfl, hw.below⟩
/-- Is there such a line, and as many of its bytes? -/
def thB (L : Nat) (line at_ : Int) (n : Nat) : Bool := decide (0 ≤ line ∧ line < L ∧ 0 ≤ at_ ∧ at_ ≤ 64 - n)
theorem there_c (db cb : Nat) (D : List Ce) (k : Cnt) (line at_ : Int) (n : Nat) (hn : n ≤ 100000) (w : World) (hB : w.heap[db]? = some (.cells (dvC cb D k).toArray 157 (0, 0))) : Calls Tryz.prog 88 [.pointer (some ⟨db, 0, none⟩), .int .i64 line, .int .i64 at_, .int .i64 (n : Nat)].toArray w fun e w' => e = .returned (.int .i64 (if thB D.length line at_ n = true then 0 else 2)) ∧ Below w.heap.size w w' := by
  refine V.calls [] Tryz.func88 rfl Tryz.ntmps88 (Nat.le_of_ble_eq_true rfl) (V.sat_nil _) <| Sq <| Rg <| Lv Av <| Nl <| Ps <| Sq <| Sq <| Rg <| Lv Mv <| Lv EP <| Nl <| Ps <| Cf <| Sk <| Ps <| Sq <| Sq <| Rg <| Lv Mv <| Lv Cm <| Lv Mv ?_
  refine LW.split (d := 13) rfl (fun h13 => ?_) (fun h13 => ?_)
  · replace h13 := bT h13
    refine Lp <| Lp <| Lp <| Lp <| Lp <| Lp <| Lp <| Lv Pt <| Lv Mv <| Lp <| Lp <| Lv Pt <| Lv Mv <| Lp <| Lp <| Lp <| Lp <| Lv Pt <| Nl <| Ps <| Ct <| Sq <| Rg <| Lv Av <| Nl <| Ps <| Rt <| Tr <| Rt1 ?_
    intro w' hw; exact ⟨by unfold thB; rw [if_neg]; simp; omega, hw.below⟩
  · replace h13 := bF h13
    refine Lv Mv <| Lv Mv <| Lv Nz <| Lv (Fa 0 148) <| Lv (Val.loadO rfl Tryz.isAgg148 (V.lt_of_some hB) (by simp [ids]) (V.cell_of_block hB rfl)) <| Lv Ln <| Lv Cm <| Lv Pf <| Lv Mv ?_
    refine LW.split (d := 22) rfl (fun h22 => ?_) (fun h22 => ?_)
    · replace h22 := bT h22
      refine Lp <| Lp <| Lv Pt <| Lv Mv <| Lp <| Lp <| Lp <| Lp <| Lv Pt <| Nl <| Ps <| Ct <| Sq <| Rg <| Lv Av <| Nl <| Ps <| Rt <| Tr <| Rt1 ?_
      intro w' hw; exact ⟨by unfold thB; rw [if_neg]; simp; omega, hw.below⟩
    · replace h22 := bF h22
      refine Lv Mv <| Lv Cm <| Lv Pf <| Lv Mv ?_
      refine LW.split (d := 26) rfl (fun h26 => ?_) (fun h26 => ?_)
      · replace h26 := bT h26
        refine Lp <| Lp <| Lp <| Lp <| Lv Pt <| Nl <| Ps <| Ct <| Sq <| Rg <| Lv Av <| Nl <| Ps <| Rt <| Tr <| Rt1 ?_
        intro w' hw; exact ⟨by unfold thB; rw [if_neg]; simp; omega, hw.below⟩
      · replace h26 := bF h26
        refine Lv Mv <| Lv Mv <| Lv Ar <| Lv Cm <| Lv Pf <| Nl <| Ps ?_
        refine CW.cond rfl (fun h31 => ?_) (fun h31 => ?_)
        · replace h31 := bT h31
          refine Sq <| Rg <| Lv Av <| Nl <| Ps <| Rt <| Tr <| Rt1 ?_
          intro w' hw; exact ⟨by unfold thB; rw [if_neg]; simp; omega, hw.below⟩
        · replace h31 := bF h31
          refine Sk <| Ps <| Sq <| Rg <| Lv Av <| Nl <| Ps <| Rt <| Rt1 ?_
          intro w' hw; exact ⟨by unfold thB; rw [if_pos]; simp; omega, hw.below⟩
theorem th_ok {L : Nat} {i n : Nat} {at_ : Nat} (h : i < L) (h2 : at_ + n ≤ 64) : thB L (i : Nat) (at_ : Nat) n = true := by unfold thB; simp; omega
theorem ce_rep (n : Nat) : V.repL (ceC ce0) n = (List.replicate n ce0).flatMap ceC := by
  induction n with
  | zero => rfl
  | succ n ih => rw [List.replicate_succ, List.flatMap_cons, V.repL, ih]
def ct0 : Cnt := ⟨0, 0, 0, 0, 0⟩
theorem newDev_c (n : Nat) (h1 : 1 ≤ n) (h2 : n ≤ 258) (w : World) : Calls Tryz.prog 109 [.int .i64 (n : Nat)].toArray w fun e w' => ∃ p : Nat × Nat, True ∧ e = .returned (.tuple #[.pointer (some ⟨p.1, 0, none⟩), .int .i64 0]) ∧ Hp ⟨w, []⟩ (devS p.1 p.2 (List.replicate n ce0) ct0) w' := by
  refine V.calls [] Tryz.func109 rfl Tryz.ntmps109 (Nat.le_of_ble_eq_true rfl) (V.sat_nil _) <| Sq <| Rg <| Lv Av <| Lv Av <| Nl <| Ps <| Sq <| Sq <| Rg <| Lv Mv <| Lv Cm <| LW.re 5 (.bool false) rfl (by congr 1; simp; omega) <| Lv Mv <| Lv Mv <| Lv Cm <| LW.re 8 (.bool false) rfl (by congr 1; simp; omega) <| Lv Pf <| Nl <| Ps <| Cf <| Sk <| Ps <| Sq <| Rg <| Lv Mv <| Le (Eff.makeSlice (m := n) (by_ := 193) (zl := ceC ce0) rfl rfl Tryz.underlying148 (by kernel_rfl) Tryz.sizeOf141 (by exact Tryz.zeroValue141) (by kernel_rfl) (ceC_len _) (by omega) (by omega) (by omega)) fun b11 _ => ?_
  rw [ce_rep]
  refine Lv (Val.build (.slice (some ⟨b11, 0, none⟩) n n :: ctC ct0) Tryz.zeroValue157 Tryz.underlying157 places157 rfl (by rfl)) <| Le XA fun b13 _ => Lv Av <| Lv Av <| Nl <| Ps <| Rt <| Rt2 ?_
  have hl : (List.replicate n ce0).length = n := List.length_replicate
  intro w' hw
  exact ⟨(b13, b11), trivial, rfl, by unfold devS dvC; rw [hl]; exact hw⟩
theorem cloneB_c (l : List UInt8) (p : Option Addr) (n c : Nat) (hn : n = l.length) (hl : l.length ≤ 100000) (w : World) (h : V.slAt w p 1 byE l) : Calls Tryz.prog 89 [.slice p n c].toArray w fun e w' => ∃ o : V.OwnO, ownOk 1 l.length (l.flatMap byE) o ∧ e = .returned (ownV l.length o) ∧ Hp ⟨w, []⟩ [ownG 5 (l.flatMap byE) o] w' := by
  subst hn
  refine V.calls [] Tryz.func89 rfl Tryz.ntmps89 (Nat.le_of_ble_eq_true rfl) (V.sat_nil _) <| Sq <| Rg <| Lv Av <| Nl <| Ps <| Sq <| Sq <| Rg <| Lv Mv <| Lv (Val.eqSlNil rfl rfl Tryz.underlying98) <| Nl <| Ps ?_
  refine CW.cond rfl (fun h4 => ?_) (fun h4 => ?_)
  · replace h4 := bT h4
    have hpn : p = none := by cases p with | none => rfl | some q => simp at h4
    obtain rfl : l = [] := by
      rcases h with h | ⟨b, o, h, _⟩
      · exact h
      · rw [hpn] at h; cases h
    refine Sq <| Rg <| Lv Av <| Nl <| Ps <| Rt <| Tr <| Rt1 ?_
    intro w' hw; exact ⟨none, ⟨rfl, rfl⟩, rfl, hw.perm (.refl _)⟩
  · replace h4 := bF h4
    refine Sk <| Ps <| Sq <| Rg <| Le (Eff.buildSlice0 Tryz.underlying98 Tryz.sizeOf5) fun b5 _ => Lv Mv <| Le (Eff.appendAny (l.flatMap byE) (sz := 1) (bytes := 1) (z := .int .u8 0) (xs := []) (m0 := 0) (o := some (b5, [], 0)) (m := l.length) (pk := [ownG 5 [] (some (b5, [], 0))]) rfl rfl Tryz.underlying98 (by kernel_rfl) rfl (by omega) (by repeat (first | exact .nil | apply Pick.cons | exact .here | apply Ext.there)) (by simp) ⟨rfl, rfl⟩ (V.flatMap_len byE_len _) (fun hm0 => by obtain ⟨b8, o8, h8, h9⟩ := sl_range (F := []) byE_len h hm0 (by simp); exact ⟨b8, o8, h8, fun w hw => h9 w hw⟩) (all_one byE_one _) (by omega) (by omega)) fun o2 ho2 => ?_
    have h2 : ownOk 1 l.length (l.flatMap byE) o2 := by simpa using ho2
    rw [List.nil_append, Nat.zero_add]
    refine Lv Av <| Nl <| Ps <| Rt <| Rt1 ?_
    intro w' hw; exact ⟨o2, h2, rfl, hw.pick (by repeat (first | exact .nil | apply Pick.cons | exact .here | apply Ext.there))⟩
theorem devB {db cb : Nat} {D : List Ce} {k : Cnt} {w : World} (hs : Sat (devS db cb D k) w) : w.heap[db]? = some (.cells (dvC cb D k).toArray 157 (0, 0)) ∧ w.heap[cb]? = some (.cells (D.flatMap ceC).toArray 141 (0, 0)) := ⟨hs.own (db, .cells (dvC cb D k).toArray 157 (0, 0)) (by simp), hs.own (cb, .cells (D.flatMap ceC).toArray 141 (0, 0)) (by simp)⟩
theorem load_c (db cb : Nat) (D : List Ce) (k : Cnt) (i : Nat) (c : Ce) (hc : D[i]? = some c) (w : World) (hs : Sat (devS db cb D k) w) : Calls Tryz.prog 156 [.pointer (some ⟨db, 0, none⟩), .int .i64 (i : Nat)].toArray w fun e w' => ∃ o : V.OwnO, ownOk 1 64 (c.now.1.flatMap byE) o ∧ e = .returned (.tuple #[ownV 64 o, .int .i64 0]) ∧ Hp ⟨w, []⟩ [ownG 5 (c.now.1.flatMap byE) o] w' := by
  obtain ⟨hB, hC⟩ := devB hs
  have hi := (List.getElem?_eq_some_iff.1 hc).1
  refine V.calls [] Tryz.func156 rfl Tryz.ntmps156 (Nat.le_of_ble_eq_true rfl) (V.sat_nil _) <| Sq <| Rg <| Lv Av <| Lv Av <| Nl <| Ps <| Sq <| Sq <| Rg <| Lv Mv <| Lv Mv <| Le (CV fun w hw => there_c db cb D k (i : Nat) ((0 : Nat) : Int) 0 (by omega) w ((hw.old db (V.lt_of_some hB) (by simp [ids])).trans hB)) fun _ _ => LW.re 9 (.int .i64 0) rfl (by rw [if_pos (th_ok hi (by omega))]) <| Lv Av <| Nl <| Ps <| Sq <| Rg <| Lv Mv <| Lv Cm <| LW.re 11 (.bool false) rfl (by rfl) <| Nl <| Ps <| Cf <| Sk <| Ps <| Sq <| Rg <| Lv Mv <| Lv Nz <| Lv (Fa 0 148) <| Lv (Val.loadO rfl Tryz.isAgg148 (V.lt_of_some hB) (by simp [ids]) (V.cell_of_block hB rfl)) <| Lv Mv <| Lv (Val.indexAddrN rfl rfl Tryz.underlying148 Tryz.sizeOf141 hi) <| Lv (Fa 0 139) <| Lv (Val.sliceArr 0 64 rfl Tryz.underlying139 Tryz.sizeOf5 rfl rfl (by omega) (by omega)) <| LW.re 20 (.slice (some ⟨cb, i * 193 + 0, none⟩) 64 64) rfl (by simp) <| Le (CM [] fun w hw hs0 => cloneB_c c.now.1 _ 64 64 c.now.2.symm (by have := c.now.2; omega) w (hw.slAt (dev_at hc hC (o := 0) (by omega) (ce_at0 c)) (by simp [ids]))) fun o ho => ?_
  rw [c.now.2] at ho ⊢
  refine Lv Av <| Lv Av <| Nl <| Ps <| Rt <| Rt2 ?_
  intro w' hw; exact ⟨o, ho, rfl, hw.pick (by repeat (first | exact .nil | apply Pick.cons | exact .here | apply Ext.there))⟩
/-- Bytes laid into a line's copy. -/
def putB (b : B64) (at_ : Nat) (l : List UInt8) (h : at_ + l.length ≤ 64) : B64 := ⟨b.1.take at_ ++ l ++ b.1.drop (at_ + l.length), by simp only [List.length_append, List.length_take, List.length_drop, b.2]; omega⟩
theorem putB_c (b : B64) (at_ : Nat) (l : List UInt8) (h : at_ + l.length ≤ 64) : V.splice (byC b.1) at_ (byC l) = byC (putB b at_ l h).1 := by
  rw [splice_cut _ _ _ (by rw [V.byC_len, V.byC_len, b.2]; exact h)]
  unfold putB
  simp only [V.byC_append, V.byC_len]
  congr 1
  · congr 1; exact (List.map_take ..).symm
  · exact (List.map_drop ..).symm
theorem ce_put (c : Ce) (at_ : Nat) (l : List UInt8) (h : at_ + l.length ≤ 64) : V.splice (ceC c) at_ (byC l) = ceC { c with now := putB c.now at_ l h } := by
  rw [ce_at0, splice_left _ _ _ _ (by rw [V.byC_len, byC64]; exact h), putB_c _ _ _ h]
  rfl
theorem store_c (db cb : Nat) (D : List Ce) (k : Cnt) (i at_ : Nat) (bs : List UInt8) (c : Ce) (p : Option Addr) (n cp : Nat) (hn : n = bs.length) (hc : D[i]? = some c) (h0 : 0 < bs.length) (h64 : at_ + bs.length ≤ 64) (w : World) (hs : Sat (devS db cb D k) w) (hp : V.slAt w p 1 byE bs) (hpd : ∀ b o, p = some ⟨b, o, none⟩ → b ∉ V.ids (devS db cb D k)) :
    Calls Tryz.prog 175 [.pointer (some ⟨db, 0, none⟩), .int .i64 (i : Nat), .int .i64 (at_ : Nat), .slice p n cp].toArray w fun e w' => ∃ k' : Cnt, True ∧ e = .returned (.int .i64 0) ∧ Hp ⟨w, V.ids (devS db cb D k)⟩ (devS db cb (D.set i { c with now := putB c.now at_ bs h64 }) k') w' := by
  subst hn
  obtain ⟨hB, hC⟩ := devB hs
  have hi := (List.getElem?_eq_some_iff.1 hc).1
  obtain ⟨pb, po, hpe, hpr⟩ := sl_range (F := V.ids (devS db cb D k)) byE_len hp h0 hpd
  subst hpe
  refine V.calls (devS db cb D k) Tryz.func175 rfl Tryz.ntmps175 (Nat.le_of_ble_eq_true rfl) hs <| Sq <| Rg <| Lv Av <| Nl <| Ps <| Sq <| Sq <| Rg <| Lv Mv <| Lv Mv <| Lv Mv <| Lv Mv <| Lv Ln <| Le (CV fun w hw => there_c db cb D k (i : Nat) (at_ : Nat) bs.length (by omega) w (hw.at)) fun _ _ => LW.re 15 (.int .i64 0) rfl (by rw [if_pos (th_ok hi h64)]) <| Lv Av <| Nl <| Ps <| Sq <| Rg <| Lv Mv <| Lv Cm <| LW.re 17 (.bool false) rfl (by rfl) <| Nl <| Ps <| Cf <| Sk <| Ps <| Sq <| Rg <| Lv Mv <| Lv Nz <| Lv (Fa 0 148) <| Lv (Ld (v := .slice (some ⟨cb, 0, none⟩) D.length D.length)) <| Lv Mv <| Lv (Val.indexAddrN rfl rfl Tryz.underlying148 Tryz.sizeOf141 hi) <| Lv (Fa 0 139) <| Lv Mv <| Lv (Val.sliceArr at_ 64 rfl Tryz.underlying139 Tryz.sizeOf5 ⟨_, rfl⟩ rfl (by omega) (by omega)) <| LW.re 27 (.slice (some ⟨cb, i * 193 + at_, none⟩) (64 - at_) (64 - at_)) rfl (by rw [if_neg (by omega)]; simp) <| Lv Mv <| Le (Eff.copyT (cs := byC bs) (gb := cb) (cur := (D.flatMap ceC)) (cells' := ((D.set i { c with now := putB c.now at_ bs h64 }).flatMap ceC)) (m := bs.length) (sz := 1) rfl rfl Tryz.underlying98 (by kernel_rfl) (by repeat (first | exact .here | exact .inner .here | exact .inner (.inner .here) | apply Upd.there)) (by rw [← splice_cut _ _ _ (by rw [V.flatMap_len ceC_len, V.byC_len]; have := Nat.mul_le_mul_right 193 (show i + 1 ≤ D.length from hi); omega)]; have h8 := splice_in ceC_len hc at_ (byC bs) (ce_put c at_ bs h64) (by rw [V.byC_len]; omega); simpa using h8) (show min bs.length (64 - at_) = _ from by omega) (by rw [V.byC_len, Nat.mul_one]) (fun w1 hw1 j u hj => by rw [Addr.add_mid]; exact hpr w1 hw1 j u (by rw [← byC_flat]; exact hj)) (by rw [V.flatMap_len ceC_len, V.byC_len]; have := Nat.mul_le_mul_right 193 (show i + 1 ≤ D.length from hi); omega) (V.byC_one _)) fun _ _ => Nl <| Ps <| Sq <| Rg <| Lv Mv <| Lv Nz <| Lv (Fa 1 155) <| Lv (Fa 0 153) <| Le (CM ([[(db, .cells (dvC cb D k).toArray 157 (0, 0))]]) fun w hw hs => addI_c db 1 (dvC cb D k) 157 k.a 1 w rfl hs) ?_
  intro _ _
  refine Nl <| Ps <| Sq <| Rg <| Lv Av <| Nl <| Ps <| Rt <| Rt1 fun w' hw => ?_
  exact ⟨{ k with a := IntKind.i64.wrap (k.a + 1) }, trivial, rfl, by unfold devS dvC; rw [List.length_set]; exact hw.pick (by repeat (first | exact .nil | apply Pick.cons | exact .here | apply Ext.there))⟩
theorem fl_now {D : List Ce} {i : Nat} {c : Ce} (hc : D[i]? = some c) : ∃ r, (D.flatMap ceC).drop (i * 193 + 0) = byC c.now.1 ++ r := flat_at ceC_len hc (by omega) (ce_at0 c)
theorem fl_way {D : List Ce} {i : Nat} {c : Ce} (hc : D[i]? = some c) : ∃ r, (D.flatMap ceC).drop (i * 193 + 128) = byC c.way.1 ++ r := flat_at ceC_len hc (by omega) (ce_at128 c)
theorem fl_sent {D : List Ce} {i : Nat} {c : Ce} (hc : D[i]? = some c) : (D.flatMap ceC)[i * 193 + 192]? = some (.bool c.sent) := by
  obtain ⟨r, hr⟩ := flat_at ceC_len hc (o := 192) (by omega) (r := []) (by rw [ce_at192, List.append_nil])
  have h := congrArg (fun l => l[0]?) hr
  simpa using h
theorem flush_c (db cb : Nat) (D : List Ce) (k : Cnt) (i : Nat) (c : Ce) (hc : D[i]? = some c) (w : World) (hs : Sat (devS db cb D k) w) : Calls Tryz.prog 177 [.pointer (some ⟨db, 0, none⟩), .int .i64 (i : Nat)].toArray w fun e w' => ∃ k' : Cnt, True ∧ e = .returned (.int .i64 0) ∧ Hp ⟨w, V.ids (devS db cb D k)⟩ (devS db cb (D.set i { c with way := c.now, sent := true }) k') w' := by
  obtain ⟨hB, hC⟩ := devB hs
  have hi := (List.getElem?_eq_some_iff.1 hc).1
  have hmul := Nat.mul_le_mul_right 193 (show i + 1 ≤ D.length from hi)
  have hc2 : (D.set i (Ce.mk c.now c.kept c.now c.sent))[i]? = some (Ce.mk c.now c.kept c.now c.sent) := by rw [List.getElem?_set_self hi]
  refine V.calls (devS db cb D k) Tryz.func177 rfl Tryz.ntmps177 (Nat.le_of_ble_eq_true rfl) hs <| Sq <| Rg <| Lv Av <| Nl <| Ps <| Sq <| Sq <| Rg <| Lv Mv <| Lv Mv <| Le (CV fun w hw => there_c db cb D k (i : Nat) ((0 : Nat) : Int) 0 (by omega) w hw.at) fun _ _ => LW.re 9 (.int .i64 0) rfl (by rw [if_pos (th_ok hi (by omega))]) <| Lv Av <| Nl <| Ps <| Sq <| Rg <| Lv Mv <| Lv Cm <| LW.re 11 (.bool false) rfl (by rfl) <| Nl <| Ps <| Cf <| Sk <| Ps <| Sq <| Rg <| Lv Mv <| Lv Nz <| Lv (Fa 0 148) <| Lv (Ld (v := .slice (some ⟨cb, 0, none⟩) D.length D.length)) <| Lv Mv <| Lv (Val.indexAddrN rfl rfl Tryz.underlying148 Tryz.sizeOf141 hi) <| LW.re 18 (.pointer (some ⟨cb, i * 193, none⟩)) rfl (by simp) <| Lv Av <| Nl <| Ps <| Sq <| Rg <| Lv Mv <| Lv Mv <| Lv Mv <| Lv Nz <| Lv (Fa 0 139) <| Lv (La (byC c.now.1) (r := (fl_now hc).choose) (hl := by simpa using (fl_now hc).choose_spec) (hs := by rw [byC64]; exact Tryz.sizeOf139)) <| Lv Nz <| Lv (Fa 128 139) <| LeN (Eff.storeA (cs := byC c.now.1) (l := D.flatMap ceC) (l' := (D.set i (Ce.mk c.now c.kept c.now c.sent)).flatMap ceC) rfl rfl (by repeat (first | exact .here | exact .inner .here | exact .inner (.inner .here) | apply Upd.there)) (by have h8 := splice_in ceC_len hc (y := (Ce.mk c.now c.kept c.now c.sent)) 128 (byC c.now.1) (ce_way c c.now) (by simp [byC64]); simpa using h8) (by rw [V.flatMap_len ceC_len]; simp [byC64]; omega) (by rw [byC64]; exact Tryz.sizeOf139) (V.byC_one _)) fun _ _ => Lv Nz <| Lv (Fa 192 4) <| LeN (Eff.storeX (v := .bool true) (l := (D.set i (Ce.mk c.now c.kept c.now c.sent)).flatMap ceC) (l' := (D.set i (Ce.mk c.now c.kept c.now true)).flatMap ceC) rfl rfl rfl (by repeat (first | exact .here | exact .inner .here | exact .inner (.inner .here) | apply Upd.there)) (by have h8 := splice_in ceC_len hc2 (y := (Ce.mk c.now c.kept c.now true)) 192 [.bool true] (ce_sent (Ce.mk c.now c.kept c.now c.sent) true) (by simp); rw [List.set_set] at h8; simpa [V.splice] using h8) (by rw [V.flatMap_len ceC_len]; simp; omega) Tryz.sizeOf4) ?_
  intro _ _
  refine Nl <| Ps <| Sq <| Rg <| Lv Mv <| Lv Nz <| Lv (Fa 1 155) <| Lv (Fa 1 153) <| Le (CM ([[(db, .cells (dvC cb D k).toArray 157 (0, 0))]]) fun w hw hs => addI_c db 2 (dvC cb D k) 157 k.b 1 w rfl hs) fun _ _ => Nl <| Ps <| Sq <| Rg <| Lv Av <| Nl <| Ps <| Rt <| Rt1 fun w' hw => ?_
  exact ⟨{ k with b := IntKind.i64.wrap (k.b + 1) }, trivial, rfl, by unfold devS dvC; rw [List.length_set]; exact hw.pick (by repeat (first | exact .nil | apply Pick.cons | exact .here | apply Ext.there))⟩
def fenB (c : Ce) : Ce := if c.sent = true then { c with kept := c.way, sent := false } else c
/-- The first so many lines fenced. -/
def fenL (D : List Ce) (j : Nat) : List Ce := (D.take j).map fenB ++ D.drop j
theorem fenL_len (D : List Ce) (j : Nat) : (fenL D j).length = D.length := by unfold fenL; simp; omega
theorem fenL_at {D : List Ce} {j : Nat} {c : Ce} (hc : D[j]? = some c) : (fenL D j)[j]? = some c := by
  have hj := (List.getElem?_eq_some_iff.1 hc).1
  unfold fenL
  rw [List.getElem?_append_right (by simp; omega), List.getElem?_drop]
  simp only [List.length_map, List.length_take]
  rw [show j + (j - min j D.length) = j by omega, hc]
theorem fenL_step {D : List Ce} {j : Nat} {c : Ce} (hc : D[j]? = some c) : (fenL D j).set j (fenB c) = fenL D (j + 1) := by
  have hj := (List.getElem?_eq_some_iff.1 hc).1
  unfold fenL
  have hl : ((D.take j).map fenB).length = j := by simp; omega
  rw [List.set_append_right _ _ (by omega), hl, Nat.sub_self, List.drop_eq_getElem_cons hj, List.set_cons_zero, List.take_add_one, hc]
  simp
theorem fence_c (db cb : Nat) (D : List Ce) (k : Cnt) (hD : D.length ≤ 1000) (w : World) (hs : Sat (devS db cb D k) w) : Calls Tryz.prog 178 [.pointer (some ⟨db, 0, none⟩)].toArray w fun e w' => ∃ k' : Cnt, True ∧ e = .returned (.int .i64 0) ∧ Hp ⟨w, V.ids (devS db cb D k)⟩ (devS db cb (D.map fenB) k') w' := by
  refine V.calls (devS db cb D k) Tryz.func178 rfl Tryz.ntmps178 (Nat.le_of_ble_eq_true rfl) hs <| Sq <| Rg <| Lv Av <| Nl <| Ps <| Sq <| Sq <| Rg <| Lv Mv <| Lv EP <| Nl <| Ps <| Cf <| Sk <| Ps <| Sq <| Sq <| Rg <| Lv Mv <| Lv Nz <| Lv (Fa 0 148) <| Lv (Ld (v := .slice (some ⟨cb, 0, none⟩) D.length D.length)) <| Lv Ln <| Lv Mv <| Nl <| Ps <| Bk ?_
  refine V.CW.perm (sg' := [[(db, .cells (dvC cb D k).toArray 157 (0, 0))], [(cb, .cells ((fenL D 0).flatMap ceC).toArray 141 (0, 0))]]) ?_ (by unfold fenL; simp)
  refine loopA (γ := Nat) (fun j => [(0, .pointer (some ⟨db, 0, none⟩)), (11, .int .i64 (D.length : Nat)), (12, .int .i64 (j : Nat))]) (fun j => [[(db, .cells (dvC cb D k).toArray 157 (0, 0))], [(cb, .cells ((fenL D j).flatMap ceC).toArray 141 (0, 0))]]) (fun j => j ≤ D.length) (fun j => D.length - j) (0) (Nat.zero_le _) fun j hj => Sq <| Rg <| Lv Cm <| Nl <| Ps <| Sq ?_
  refine CW.cond rfl (fun h13 => ?_) (fun h13 => ?_)
  · replace h13 := bT h13
    have hi : j < D.length := by omega
    have hmul := Nat.mul_le_mul_right 193 (show j + 1 ≤ D.length from hi)
    have hfl := fenL_len D j
    obtain ⟨c, hc⟩ : ∃ c, D[j]? = some c := ⟨_, List.getElem?_eq_getElem hi⟩
    have hst := fenL_step hc
    have hc2 : ((fenL D j).set j (Ce.mk c.now c.way c.way c.sent))[j]? = some (Ce.mk c.now c.way c.way c.sent) := by rw [List.getElem?_set_self (by omega)]
    refine Sk <| Ps <| Sq <| Bk <| Sq <| Rg <| Lv Mv <| Lv Av <| Nl <| Ps <| Sq <| Rg <| Lv Mv <| Lv Nz <| Lv (Fa 0 148) <| Lv (Ld (v := .slice (some ⟨cb, 0, none⟩) D.length D.length)) <| Lv Mv <| Lv (Val.indexAddrN rfl rfl Tryz.underlying148 Tryz.sizeOf141 hi) <| LW.re 20 (.pointer (some ⟨cb, j * 193, none⟩)) rfl (by simp) <| Lv Av <| Nl <| Ps <| Sq <| Rg <| Lv Mv <| Lv Nz <| Lv (Fa 192 4) <| Lv (Ld (v := .bool c.sent) (hl := fl_sent (fenL_at hc))) <| Nl <| Ps ?_
    refine CW.cond rfl (fun h24 => ?_) (fun h24 => ?_)
    · replace h24 := bT h24
      have h24 : c.sent = true := h24
      have hfb : fenB c = (Ce.mk c.now c.way c.way false) := by unfold fenB; rw [if_pos h24]
      rw [hfb] at hst
      refine Rg <| Lv Mv <| Lv Mv <| Lv Mv <| Lv Nz <| Lv (Fa 128 139) <| Lv (La (byC c.way.1) (r := (fl_way (fenL_at hc)).choose) (hl := (fl_way (fenL_at hc)).choose_spec) (hs := by rw [byC64]; exact Tryz.sizeOf139)) <| Lv Nz <| Lv (Fa 64 139) <| LeN (Eff.storeA (cs := byC c.way.1) (l := (fenL D j).flatMap ceC) (l' := ((fenL D j).set j (Ce.mk c.now c.way c.way c.sent)).flatMap ceC) rfl rfl (by repeat (first | exact .here | exact .inner .here | exact .inner (.inner .here) | apply Upd.there)) (by have h8 := splice_in ceC_len (fenL_at hc) (y := (Ce.mk c.now c.way c.way c.sent)) 64 (byC c.way.1) (ce_kept c c.way) (by simp [byC64]); simpa using h8) (by rw [V.flatMap_len ceC_len]; simp [byC64]; omega) (by rw [byC64]; exact Tryz.sizeOf139) (V.byC_one _)) fun _ _ => Lv Nz <| Lv (Fa 192 4) <| LeN (Eff.storeX (v := .bool false) (l := ((fenL D j).set j (Ce.mk c.now c.way c.way c.sent)).flatMap ceC) (l' := ((fenL D j).set j (Ce.mk c.now c.way c.way false)).flatMap ceC) rfl rfl rfl (by repeat (first | exact .here | exact .inner .here | exact .inner (.inner .here) | apply Upd.there)) (by have h8 := splice_in ceC_len hc2 (y := (Ce.mk c.now c.way c.way false)) 192 [.bool false] (ce_sent (Ce.mk c.now c.way c.way c.sent) false) (by simp); rw [List.set_set] at h8; simpa [V.splice] using h8) (by rw [V.flatMap_len ceC_len]; simp; omega) Tryz.sizeOf4) fun _ _ => Nl <| Bn <| Ps <| Rg <| Lv Ar <| Lv Mv <| Nl ?_
      rw [hst]
      exact roundA (j + 1) (by omega) (by omega)
    · replace h24 := bF h24
      have h24 : c.sent = false := h24
      have hfb : fenB c = c := by unfold fenB; rw [if_neg (by simp [h24])]
      have hss : (fenL D j).set j c = fenL D j := by
        have h8 := fenL_at hc
        obtain ⟨h9, h7⟩ := List.getElem?_eq_some_iff.1 h8
        rw [← h7, List.set_getElem_self]
      rw [hfb, hss] at hst
      refine Sk <| Bn <| Ps <| Rg <| Lv Ar <| Lv Mv <| Nl ?_
      rw [hst]
      exact roundA (j + 1) (by omega) (by omega)
  · replace h13 := bF h13
    have hend : fenL D j = D.map fenB := by unfold fenL; rw [List.take_of_length_le (by omega), List.drop_eq_nil_iff.2 (by omega), List.append_nil]
    rw [hend]
    refine Xt <| Te <| Te <| Bh <| Ps <| Sq <| Rg <| Lv Mv <| Lv Nz <| Lv (Fa 1 155) <| Lv (Fa 2 153) <| Le (CM ([[(db, .cells (dvC cb D k).toArray 157 (0, 0))]]) fun w hw hs => addI_c db 3 (dvC cb D k) 157 k.c 1 w rfl hs) fun _ _ => Nl <| Ps <| Sq <| Rg <| Lv Av <| Nl <| Ps <| Rt <| Rt1 fun w' hw => ?_
    exact ⟨{ k with c := IntKind.i64.wrap (k.c + 1) }, trivial, rfl, by unfold devS dvC; rw [List.length_map]; exact hw.pick (by repeat (first | exact .nil | apply Pick.cons | exact .here | apply Ext.there))⟩
end Go.Proofs.YtlpbjmbgopfkhaaGreat

/- Numbers in bytes; sums. -/
namespace Go.Proofs.YtlpbjmbgopfkhaaGreat
open Go Go.RowKit V
set_option linter.unusedVariables false
set_option maxRecDepth 100000
instance : Und Tryz.prog 39 (dOf Tryz.underlying39) := ⟨Tryz.underlying39⟩
instance : Siz Tryz.prog 39 (kOf Tryz.sizeOf39) := ⟨Tryz.sizeOf39⟩
instance : AgF Tryz.prog 39 := ⟨Tryz.isAgg39⟩
instance : Zer Tryz.prog 39 (zOf Tryz.zeroValue39) := ⟨Tryz.zeroValue39⟩
instance : Und Tryz.prog 191 (dOf Tryz.underlying191) := ⟨Tryz.underlying191⟩
instance : Siz Tryz.prog 191 (kOf Tryz.sizeOf191) := ⟨Tryz.sizeOf191⟩
instance : AgF Tryz.prog 191 := ⟨Tryz.isAgg191⟩
instance : Zer Tryz.prog 191 (zOf Tryz.zeroValue191) := ⟨Tryz.zeroValue191⟩
instance : Cal Tryz.prog 122 := ⟨Tryz.call122⟩
instance : Cal Tryz.prog 192 := ⟨Tryz.call192⟩
instance : Cal Tryz.prog 229 := ⟨Tryz.call229⟩
open V (str byC ownV ownG ownS ownOk)
theorem check_c (p : Option Addr) (L cp at_ n : Nat) (h1 : 1 ≤ n ∧ n ≤ 8) (h2 : at_ + n ≤ L) (h3 : L ≤ 100000) (w : World) : Calls Tryz.prog 122 [.slice p L cp, .int .i64 (at_ : Nat), .int .i64 (n : Nat)].toArray w fun e w' => e = .returned (.int .i64 0) ∧ Below w.heap.size w w' := by
  refine V.calls [] Tryz.func122 rfl Tryz.ntmps122 (Nat.le_of_ble_eq_true rfl) (V.sat_nil _) <| Sq <| Rg <| Lv Av <| Nl <| Ps <| Sq <| Sq <| Rg <| Lv Mv <| Lv Cm <| LW.re 8 (.bool false) rfl (by first | (simp; done) | (simp; omega)) <| Lv Mv <| Lv Mv <| Lv Cm <| LW.re 11 (.bool false) rfl (by first | (simp; done) | (simp; omega)) <| Lv Pf <| Nl <| Ps <| Cf <| Sk <| Ps <| Sq <| Sq <| Rg <| Lv Mv <| Lv Cm <| LW.re 14 (.bool false) rfl (by first | (simp; done) | (simp; omega)) <| Lv Mv <| Lv Mv <| Lv Mv <| Lv Ln <| Lv Mv <| Lv Ar <| Lv Cm <| LW.re 21 (.bool false) rfl (by first | (simp; done) | (simp; omega)) <| Lv Pf <| Nl <| Ps <| Cf <| Sk <| Ps <| Sq <| Rg <| Lv Av <| Nl <| Ps <| Rt <| Rt1 ?_
  intro w hw; exact ⟨rfl, hw.below⟩
def shB (v : Int) (i : Nat) : UInt8 := UInt8.ofNat (IntKind.u8.wrap (v.fdiv (2 ^ (min ((8 : Int) * (i : Nat)).toNat IntKind.u64.bits)))).toNat
theorem u8_byte (x : Int) : IntKind.u8.wrap x = (((UInt8.ofNat (IntKind.u8.wrap x).toNat).toNat : Nat) : Int) := by
  rw [IntKind.wrap_u8]
  simp
  omega
/-- A number laid into bytes. -/
def putN (l : List UInt8) (at_ : Nat) (v : Int) : Nat → List UInt8
  | 0 => l
  | n + 1 => (putN l at_ v n).set (at_ + n) (shB v n)
theorem putN_len (l : List UInt8) (at_ : Nat) (v : Int) : ∀ n, (putN l at_ v n).length = l.length
  | 0 => rfl
  | n + 1 => by rw [putN, List.length_set, putN_len l at_ v n]
def fitB (v : Int) (n : Nat) : Bool := !(decide ((n : Int) < 8) && (v.fdiv (2 ^ (min ((8 : Int) * (n : Nat)).toNat IntKind.u64.bits)) != 0))
def putR (l : List UInt8) (at_ : Nat) (v : Int) (n : Nat) : List UInt8 := if fitB v n = true then putN l at_ v n else []
theorem set_byE (l : List UInt8) (rest : List Value) (i : Nat) (u : UInt8) (h : i < l.length) : (l.flatMap byE ++ rest).set (0 + i * 1) (.int .u8 (u.toNat : Nat)) = (l.set i u).flatMap byE ++ rest := by
  have h8 := V.splice_flat byE_len l i u rest h
  rw [Nat.zero_add]
  exact h8
theorem put_c (l : List UInt8) (p : Option Addr) (cp at_ n : Nat) (v : Int) (h1 : 1 ≤ n ∧ n ≤ 8) (h2 : at_ + n ≤ l.length) (h3 : l.length ≤ 1000) (w : World) (hp : V.slAt w p 1 byE l) : Calls Tryz.prog 123 [.slice p l.length cp, .int .i64 (at_ : Nat), .int .i64 (n : Nat), .int .u64 v].toArray w fun e w' => ∃ o : V.OwnO, ownOk 1 (putR l at_ v n).length ((putR l at_ v n).flatMap byE) o ∧ e = .returned (.tuple #[ownV (putR l at_ v n).length o, .int .i64 (if fitB v n = true then 0 else 11)]) ∧ Hp ⟨w, []⟩ [ownG 5 ((putR l at_ v n).flatMap byE) o] w' := by
  refine V.calls [] Tryz.func123 rfl Tryz.ntmps123 (Nat.le_of_ble_eq_true rfl) (V.sat_nil _) <| Sq <| Rg <| Lv Av <| Lv Av <| Nl <| Ps <| Sq <| Sq <| Rg <| Lv Mv <| Lv Mv <| Lv Mv <| Le (CV fun w hw => check_c p l.length cp at_ n h1 h2 (by omega) w) fun _ _ => Lv Av <| Nl <| Ps <| Sq <| Rg <| Lv Mv <| Lv Cm <| LW.re 18 (.bool false) rfl (by rfl) <| Nl <| Ps <| Cf <| Sk <| Ps <| Sq <| Sq <| Rg <| Lv Mv <| Lv Cm <| Lv Mv ?_
  refine LW.split (d := 22) rfl (fun h22 => ?_) (fun h22 => ?_)
  · replace h22 := bT h22
    have h22 : (n : Int) < 8 := h22
    refine Lv Mv <| Lv Mv <| Lv Ar <| Lv (Val.shr rfl rfl (by omega)) <| Lv Cm <| Lv Pt <| Nl <| Ps ?_
    refine CW.cond rfl (fun h28 => ?_) (fun h28 => ?_)
    · replace h28 := bT h28
      refine Sq <| Rg <| Lv Av <| Lv Av <| Nl <| Ps <| Rt <| Tr <| Rt2 ?_
      have hf : fitB v n = false := by unfold fitB; simp_all
      have hr : putR l at_ v n = [] := by unfold putR; rw [if_neg (by simp [hf])]
      rw [hr, hf]
      intro w' hw; exact ⟨none, ⟨rfl, rfl⟩, rfl, (hw.pick (ss := []) .nil).perm (.refl _)⟩
    · replace h28 := bF h28
      have hfit : fitB v n = true := by unfold fitB; simp_all
      refine Sk <| Ps <| Sq <| Rg <| Lv Mv <| Le (CM [] fun w hw hs0 => cloneB_c l p _ cp rfl (by omega) w (hw.slAt hp (by simp [ids]))) fun o ho => ?_
      obtain ⟨⟨gb, rest, cap⟩, rfl⟩ : ∃ q, o = some q := by
        rcases o with _ | q
        · have h9 : l.length = 0 := ho.2
          omega
        · exact ⟨q, rfl⟩
      refine LW.re 30 (.slice (some ⟨gb, 0, none⟩) l.length cap) rfl (by rfl) <| Lv Av <| Nl <| Ps <| Sq <| Sq <| Rg <| Lv Mv <| Lv Mv <| Nl <| Ps <| Bk ?_
      refine V.CW.perm (sg' := [[(gb, .cells ((putN l at_ v 0).flatMap byE ++ rest).toArray 5 (0, 0))]]) ?_ (by simp [V.ownG, V.ownS, putN])
      refine loopA (γ := Nat) (fun j => [(1, .int .i64 (at_ : Nat)), (3, .int .u64 v), (11, .slice (some ⟨gb, 0, none⟩) l.length cap), (31, .int .i64 (n : Nat)), (32, .int .i64 (j : Nat))]) (fun j => [[(gb, .cells ((putN l at_ v j).flatMap byE ++ rest).toArray 5 (0, 0))]]) (fun j => j ≤ n) (fun j => n - j) (0) (Nat.zero_le _) fun j hj => Sq <| Rg <| Lv Cm <| Nl <| Ps <| Sq ?_
      refine CW.cond rfl (fun h33 => ?_) (fun h33 => ?_)
      · replace h33 := bT h33
        refine Sk <| Ps <| Sq <| Bk <| Sq <| Rg <| Lv Mv <| Lv Av <| Nl <| Ps <| Rg <| Lv Mv <| Lv Mv <| Lv Mv <| Lv Ar <| LW.re 38 (.int .i64 ((at_ + j : Nat) : Int)) rfl (by congr 1) <| Lv Mv <| Lv Mv <| Lv Ar <| Lv (Val.shr rfl rfl (by omega)) <| Lv Cv <| LW.re 43 (.int .u8 ((shB v j).toNat : Nat)) rfl (by congr 1; exact u8_byte _) <| Lv (Val.indexAddrN (i := at_ + j) rfl rfl Tryz.underlying98 Tryz.sizeOf5 (by omega)) <| LeN (Eff.storeX (l' := (putN l at_ v (j + 1)).flatMap byE ++ rest) rfl rfl rfl (by repeat (first | exact .here | exact .inner .here | exact .inner (.inner .here) | apply Upd.there)) (set_byE _ rest (at_ + j) (shB v j) (by rw [putN_len]; omega)) (by rw [List.length_append, V.flatMap_len byE_len, putN_len]; omega) Tryz.sizeOf5) fun _ _ => Nl <| Bn <| Ps <| Rg <| Lv Ar <| Lv Mv <| Nl ?_
        exact roundA (j + 1) (by omega) (by omega)
      · replace h33 := bF h33
        refine Xt <| Te <| Te <| Bh <| Ps <| Sq <| Rg <| Lv Mv <| Lv Av <| Lv Av <| Nl <| Ps <| Rt <| Rt2 ?_
        have hfit : fitB v n = true := by first | assumption | (unfold fitB; simp; omega)
        have hj9 : j = n := by omega
        subst hj9
        have hr : putR l at_ v j = putN l at_ v j := by unfold putR; rw [if_pos hfit]
        rw [hr, hfit]
        intro w' hw; exact ⟨some (gb, rest, cap), ⟨V.flatMap_len byE_len _, by rw [V.flatMap_len byE_len, putN_len]; have h8 : (l.flatMap byE).length + rest.length = cap * 1 := ho.2; rw [V.flatMap_len byE_len] at h8; exact h8⟩, by rw [putN_len]; rfl, hw.pick (by repeat (first | exact .nil | apply Pick.cons | exact .here | apply Ext.there))⟩
  · replace h22 := bF h22
    have h22 : 8 ≤ (n : Int) := h22
    refine Lp <| Lp <| Lp <| Lp <| Lp <| Lv Pf <| Nl <| Ps <| Cf <| Sk <| Ps <| Sq <| Rg <| Lv Mv <| Le (CM [] fun w hw hs0 => cloneB_c l p _ cp rfl (by omega) w (hw.slAt hp (by simp [ids]))) fun o ho => ?_
    obtain ⟨⟨gb, rest, cap⟩, rfl⟩ : ∃ q, o = some q := by
      rcases o with _ | q
      · have h9 : l.length = 0 := ho.2
        omega
      · exact ⟨q, rfl⟩
    refine LW.re 30 (.slice (some ⟨gb, 0, none⟩) l.length cap) rfl (by rfl) <| Lv Av <| Nl <| Ps <| Sq <| Sq <| Rg <| Lv Mv <| Lv Mv <| Nl <| Ps <| Bk ?_
    refine V.CW.perm (sg' := [[(gb, .cells ((putN l at_ v 0).flatMap byE ++ rest).toArray 5 (0, 0))]]) ?_ (by simp [V.ownG, V.ownS, putN])
    refine loopA (γ := Nat) (fun j => [(1, .int .i64 (at_ : Nat)), (3, .int .u64 v), (11, .slice (some ⟨gb, 0, none⟩) l.length cap), (31, .int .i64 (n : Nat)), (32, .int .i64 (j : Nat))]) (fun j => [[(gb, .cells ((putN l at_ v j).flatMap byE ++ rest).toArray 5 (0, 0))]]) (fun j => j ≤ n) (fun j => n - j) (0) (Nat.zero_le _) fun j hj => Sq <| Rg <| Lv Cm <| Nl <| Ps <| Sq ?_
    refine CW.cond rfl (fun h33 => ?_) (fun h33 => ?_)
    · replace h33 := bT h33
      refine Sk <| Ps <| Sq <| Bk <| Sq <| Rg <| Lv Mv <| Lv Av <| Nl <| Ps <| Rg <| Lv Mv <| Lv Mv <| Lv Mv <| Lv Ar <| LW.re 38 (.int .i64 ((at_ + j : Nat) : Int)) rfl (by congr 1) <| Lv Mv <| Lv Mv <| Lv Ar <| Lv (Val.shr rfl rfl (by omega)) <| Lv Cv <| LW.re 43 (.int .u8 ((shB v j).toNat : Nat)) rfl (by congr 1; exact u8_byte _) <| Lv (Val.indexAddrN (i := at_ + j) rfl rfl Tryz.underlying98 Tryz.sizeOf5 (by omega)) <| LeN (Eff.storeX (l' := (putN l at_ v (j + 1)).flatMap byE ++ rest) rfl rfl rfl (by repeat (first | exact .here | exact .inner .here | exact .inner (.inner .here) | apply Upd.there)) (set_byE _ rest (at_ + j) (shB v j) (by rw [putN_len]; omega)) (by rw [List.length_append, V.flatMap_len byE_len, putN_len]; omega) Tryz.sizeOf5) fun _ _ => Nl <| Bn <| Ps <| Rg <| Lv Ar <| Lv Mv <| Nl ?_
      exact roundA (j + 1) (by omega) (by omega)
    · replace h33 := bF h33
      refine Xt <| Te <| Te <| Bh <| Ps <| Sq <| Rg <| Lv Mv <| Lv Av <| Lv Av <| Nl <| Ps <| Rt <| Rt2 ?_
      have hfit : fitB v n = true := by first | assumption | (unfold fitB; simp; omega)
      have hj9 : j = n := by omega
      subst hj9
      have hr : putR l at_ v j = putN l at_ v j := by unfold putR; rw [if_pos hfit]
      rw [hr, hfit]
      intro w' hw; exact ⟨some (gb, rest, cap), ⟨V.flatMap_len byE_len _, by rw [V.flatMap_len byE_len, putN_len]; have h8 : (l.flatMap byE).length + rest.length = cap * 1 := ho.2; rw [V.flatMap_len byE_len] at h8; exact h8⟩, by rw [putN_len]; rfl, hw.pick (by repeat (first | exact .nil | apply Pick.cons | exact .here | apply Ext.there))⟩
/-- A number out of bytes. -/
def getStep (v : Int) (b : UInt8) (i : Nat) : Int := IntKind.u64.wrap (BitVec.ofInt IntKind.u64.bits v ||| BitVec.ofInt IntKind.u64.bits (IntKind.u64.wrap (IntKind.u64.wrap ((b.toNat : Nat) : Int) * 2 ^ (min ((8 : Int) * (i : Nat)).toNat IntKind.u64.bits)))).toNat
def getN (l : List UInt8) (at_ : Nat) : Nat → Int
  | 0 => 0
  | n + 1 => getStep (getN l at_ n) (l.getD (at_ + n) 0) n
theorem get_c (l : List UInt8) (p : Option Addr) (cp at_ n : Nat) (h1 : 1 ≤ n ∧ n ≤ 8) (h2 : at_ + n ≤ l.length) (h3 : l.length ≤ 1000) (w : World) (hp : V.slAt w p 1 byE l) : Calls Tryz.prog 91 [.slice p l.length cp, .int .i64 (at_ : Nat), .int .i64 (n : Nat)].toArray w fun e w' => e = .returned (.tuple #[.int .u64 (getN l at_ n), .int .i64 0]) ∧ Below w.heap.size w w' := by
  obtain ⟨pb, po, _, rfl, hpb, _, hpr⟩ := V.slAt_at hp rfl (k := 0) (by omega)
  refine V.calls [] Tryz.func91 rfl Tryz.ntmps91 (Nat.le_of_ble_eq_true rfl) (V.sat_nil _) <| Sq <| Rg <| Lv Av <| Lv Av <| Nl <| Ps <| Sq <| Sq <| Rg <| Lv Mv <| Lv Mv <| Lv Mv <| Le (CV fun w hw => check_c _ l.length cp at_ n h1 h2 (by omega) w) fun _ _ => Lv Av <| Nl <| Ps <| Sq <| Rg <| Lv Mv <| Lv Cm <| LW.re 16 (.bool false) rfl (by rfl) <| Nl <| Ps <| Cf <| Sk <| Ps <| Sq <| Rg <| Lv Av <| Nl <| Ps <| Sq <| Sq <| Rg <| Lv Mv <| Lv Mv <| Nl <| Ps <| Bk <| loopA (γ := Nat) (fun j => [(0, .slice (some ⟨pb, po, none⟩) l.length cp), (1, .int .i64 (at_ : Nat)), (9, .int .u64 (getN l at_ j)), (18, .int .i64 (n : Nat)), (19, .int .i64 (j : Nat))]) (fun _ => []) (fun j => j ≤ n) (fun j => n - j) (0) (Nat.zero_le _) fun j hj => Sq <| Rg <| Lv Cm <| Nl <| Ps <| Sq ?_
  refine CW.cond rfl (fun h20 => ?_) (fun h20 => ?_)
  · replace h20 := bT h20
    obtain ⟨u, huj⟩ : ∃ u, l[at_ + j]? = some u := ⟨_, List.getElem?_eq_getElem (show at_ + j < l.length by omega)⟩
    have hu : l.getD (at_ + j) 0 = u := by rw [List.getD_eq_getElem?_getD, huj]; rfl
    refine Sk <| Ps <| Sq <| Bk <| Sq <| Rg <| Lv Mv <| Lv Av <| Nl <| Ps <| Rg <| Lv Mv <| Lv Mv <| Lv Mv <| Lv Mv <| Lv Ar <| LW.re 26 (.int .i64 ((at_ + j : Nat) : Int)) rfl (by congr 1) <| Lv (Val.indexAddrN (i := at_ + j) rfl rfl Tryz.underlying98 Tryz.sizeOf5 (by omega)) <| Lv (Val.loadO rfl Tryz.isAgg5 hpb (by simp [ids]) (hpr _ u huj 0 _ rfl)) <| Lv Cv <| Lv Mv <| Lv Ar <| Lv (Val.shl rfl rfl (by omega)) <| Lv (Val.or rfl rfl) <| LW.re 33 (.int .u64 (getN l at_ (j + 1))) rfl (by rw [getN, hu]; rfl) <| Lv Av <| Nl <| Bn <| Ps <| Rg <| Lv Ar <| Lv Mv <| Nl ?_
    exact roundA (j + 1) (by omega) (by omega)
  · replace h20 := bF h20
    refine Xt <| Te <| Te <| Bh <| Ps <| Sq <| Rg <| Lv Mv <| Lv Av <| Lv Av <| Nl <| Ps <| Rt <| Rt2 ?_
    have hj9 : j = n := by omega
    subst hj9
    intro w' hw; exact ⟨rfl, hw.below⟩
def xorI (a b : Int) : Int := IntKind.u32.wrap (BitVec.ofInt IntKind.u32.bits a ^^^ BitVec.ofInt IntKind.u32.bits b).toNat
def stepOne (c : Int) : Int := if c.tmod 2 = 0 then IntKind.u32.wrap (c.tdiv 2) else xorI (IntKind.u32.wrap (c.tdiv 2)) 3988292384
def stepK : Nat → Int → Int
  | 0, c => c
  | k + 1, c => stepOne (stepK k c)
def stepB (c : Int) (b : UInt8) : Int := stepK 8 (xorI c (IntKind.u32.wrap ((b.toNat : Nat) : Int)))
def sumF (l : List UInt8) : Int := xorI (l.foldl stepB (xorI 0 4294967295)) 4294967295
theorem step_c (c : Int) (b : UInt8) (w : World) : Calls Tryz.prog 229 [.int .u32 c, .int .u8 ((b.toNat : Nat) : Int)].toArray w fun e w' => e = .returned (.int .u32 (stepB c b)) ∧ Below w.heap.size w w' := by
  refine V.calls [] Tryz.func229 rfl Tryz.ntmps229 (Nat.le_of_ble_eq_true rfl) (V.sat_nil _) <| Sq <| Rg <| Lv Av <| Nl <| Ps <| CW.scope <| Sq <| Rg <| Lv Mv <| Lv Mv <| Lv Cv <| Lv (Val.xor rfl rfl) <| LW.re 9 (.int .u32 (xorI c (IntKind.u32.wrap ((b.toNat : Nat) : Int)))) rfl (by rfl) <| Lv Av <| Nl <| Ps <| Sq <| Rg <| Lv Av <| Nl <| Ps <| Sq <| CW.label <| Ps <| Sq <| Bk <| loopA (γ := Nat) (fun j => [(0, .int .u32 (stepK j (xorI c (IntKind.u32.wrap ((b.toNat : Nat) : Int))))), (5, .int .i64 (j : Nat))]) (fun _ => []) (fun j => j ≤ 8) (fun j => 8 - j) (0) (by omega) fun j hj => Sq <| Sq <| Rg <| Lv Mv <| Lv Cm <| Nl <| Ps ?_
  refine CW.cond rfl (fun h11 => ?_) (fun h11 => ?_)
  · replace h11 := bT h11
    refine Sk <| Ps <| Bk <| Sq <| Rg <| Lv Mv <| Lv Ar <| Lv Av <| Nl <| Ps <| Sq <| Sq <| Rg <| Lv Mv <| Lv (Val.rem rfl rfl (by omega)) <| Lv Cm <| Nl <| Ps ?_
    refine CW.cond rfl (fun h16 => ?_) (fun h16 => ?_)
    · replace h16 := bT h16
      have h16 : (stepK j (xorI c (IntKind.u32.wrap ((b.toNat : Nat) : Int)))).tmod 2 = 0 := h16
      refine Sq <| Rg <| Lv Mv <| Lv (Val.quo rfl rfl (by omega)) <| LW.re 18 (.int .u32 (stepK (j + 1) (xorI c (IntKind.u32.wrap ((b.toNat : Nat) : Int))))) rfl (by rw [stepK, stepOne, if_pos h16]) <| Lv Av <| Nl <| Ps <| Xt <| Te <| Bh ?_
      exact roundA (j + 1) (by omega) (by omega)
    · replace h16 := bF h16
      have h16 : ¬ (stepK j (xorI c (IntKind.u32.wrap ((b.toNat : Nat) : Int)))).tmod 2 = 0 := h16
      refine Sk <| Ps <| Rg <| Lv Mv <| Lv (Val.quo rfl rfl (by omega)) <| Lv (Val.xor rfl rfl) <| LW.re 21 (.int .u32 (stepK (j + 1) (xorI c (IntKind.u32.wrap ((b.toNat : Nat) : Int))))) rfl (by rw [stepK, stepOne, if_neg h16]; rfl) <| Lv Av <| Nl <| Bn ?_
      exact roundA (j + 1) (by omega) (by omega)
  · replace h11 := bF h11
    refine Xt <| Te <| Te <| Bh <| Ps <| Sq <| Rg <| Lv Mv <| Lv Av <| Nl <| Ps <| Rt <| Bs <| Rt1 ?_
    have hj9 : j = 8 := by omega
    subst hj9
    intro w' hw; exact ⟨rfl, hw.below⟩
theorem fold_take {l : List UInt8} {j : Nat} {u : UInt8} (h : l[j]? = some u) (c : Int) : (l.take (j + 1)).foldl stepB c = stepB ((l.take j).foldl stepB c) u := by rw [List.take_add_one, h, List.foldl_append]; rfl
theorem sumAdd_c (l : List UInt8) (p : Option Addr) (cp : Nat) (hl : l.length ≤ 100000) (w : World) (hp : V.slAt w p 1 byE l) : Calls Tryz.prog 192 [.int .u32 0, .slice p l.length cp].toArray w fun e w' => e = .returned (.int .u32 (sumF l)) ∧ Below w.heap.size w w' := by
  refine V.calls [] Tryz.func192 rfl Tryz.ntmps192 (Nat.le_of_ble_eq_true rfl) (V.sat_nil _) <| Sq <| Rg <| Lv Av <| Nl <| Ps <| Sq <| Rg <| Lv Mv <| Lv (Val.xor rfl rfl) <| LW.re 8 (.int .u32 (xorI 0 4294967295)) rfl (by rfl) <| Lv Av <| Nl <| Ps <| Sq <| Sq <| Rg <| Lv Mv <| Lv Ln <| Lv Mv <| Nl <| Ps <| Bk <| loopA (γ := Nat) (fun j => [(0, .int .u32 ((l.take j).foldl stepB (xorI 0 4294967295))), (9, .slice p l.length cp), (10, .int .i64 (l.length : Nat)), (11, .int .i64 (j : Nat))]) (fun _ => []) (fun j => j ≤ l.length) (fun j => l.length - j) (0) (Nat.zero_le _) fun j hj => Sq <| Rg <| Lv Cm <| Nl <| Ps <| Sq ?_
  refine CW.cond rfl (fun h12 => ?_) (fun h12 => ?_)
  · replace h12 := bT h12
    obtain ⟨pb, po, u, rfl, hpb, huj, hpr⟩ := V.slAt_at hp rfl (k := j) (by omega)
    refine Sk <| Ps <| Sq <| Bk <| Sq <| Rg <| Lv Ix <| Lv (Val.loadO rfl Tryz.isAgg5 hpb (by simp [ids]) (hpr j u huj 0 _ rfl)) <| Lv Av <| Nl <| Ps <| Rg <| Lv Mv <| Lv Mv <| Le (CV fun w hw => step_c ((l.take j).foldl stepB (xorI 0 4294967295)) u w) fun _ _ => LW.re 17 (.int .u32 ((l.take (j + 1)).foldl stepB (xorI 0 4294967295))) rfl (by rw [fold_take huj]) <| Lv Av <| Nl <| Bn <| Ps <| Rg <| Lv Ar <| Lv Mv <| Nl ?_
    exact roundA (j + 1) (by omega) (by omega)
  · replace h12 := bF h12
    have hte : l.take j = l := List.take_of_length_le (by omega)
    refine Xt <| Te <| Te <| Bh <| Ps <| Sq <| Rg <| Lv Mv <| Lv (Val.xor rfl rfl) <| LW.re 20 (.int .u32 (sumF l)) rfl (by rw [hte]; rfl) <| Lv Av <| Nl <| Ps <| Rt <| Rt1 ?_
    intro w' hw; exact ⟨rfl, hw.below⟩
theorem sum_c (l : List UInt8) (p : Option Addr) (cp : Nat) (hl : l.length ≤ 100000) (w : World) (hp : V.slAt w p 1 byE l) : Calls Tryz.prog 163 [.slice p l.length cp].toArray w fun e w' => e = .returned (.int .u32 (sumF l)) ∧ Below w.heap.size w w' := by
  refine V.calls [] Tryz.func163 rfl Tryz.ntmps163 (Nat.le_of_ble_eq_true rfl) (V.sat_nil _) <| Sq <| Rg <| Lv Av <| Nl <| Ps <| Sq <| Rg <| Lv Mv <| Le (CV fun w hw => sumAdd_c l p cp hl w (hw.slAt hp (by simp [ids]))) fun _ _ => Lv Av <| Nl <| Ps <| Rt <| Rt1 ?_
  intro w' hw; exact ⟨rfl, hw.below⟩
end Go.Proofs.YtlpbjmbgopfkhaaGreat

/- A device's lines: superblock and clock. -/
namespace Go.Proofs.YtlpbjmbgopfkhaaGreat
open Go Go.RowKit V
set_option linter.unusedVariables false
set_option maxRecDepth 100000
instance : Und Tryz.prog 158 (dOf Tryz.underlying158) := ⟨Tryz.underlying158⟩
instance : Siz Tryz.prog 158 (kOf Tryz.sizeOf158) := ⟨Tryz.sizeOf158⟩
instance : AgT Tryz.prog 158 := ⟨Tryz.isAgg158⟩
instance : Zer Tryz.prog 158 (zOf Tryz.zeroValue158) := ⟨Tryz.zeroValue158⟩
instance : Cal Tryz.prog 123 := ⟨Tryz.call123⟩
instance : Cal Tryz.prog 163 := ⟨Tryz.call163⟩
open V (str byC ownV ownG ownS ownOk)
def padB (l : List UInt8) : List UInt8 := l ++ List.replicate (64 - l.length) 0
theorem padB_len {l : List UInt8} (h : l.length ≤ 64) : (padB l).length = 64 := by unfold padB; simp; omega
/-- A line that begins so, and its sum. -/
def sealL (l : List UInt8) : List UInt8 := putN (padB l) 9 (IntKind.u64.wrap (sumF l)) 4
theorem sealL_len {l : List UInt8} (h : l.length ≤ 64) : (sealL l).length = 64 := by unfold sealL; rw [putN_len, padB_len h]
theorem sum_fit (l : List UInt8) : fitB (IntKind.u64.wrap (sumF l)) 4 = true := by
  have h : 0 ≤ sumF l ∧ sumF l < 4294967296 := by
    unfold sumF xorI
    rw [IntKind.wrap_u32]
    omega
  rw [IntWalk.u64_in _ (by omega)]
  unfold fitB
  have h2 : (sumF l).fdiv (2 ^ (min ((8 : Int) * ((4 : Nat) : Int)).toNat IntKind.u64.bits)) = 0 := by
    have e : (2 : Int) ^ (min ((8 : Int) * ((4 : Nat) : Int)).toNat IntKind.u64.bits) = 4294967296 := by decide
    rw [e, Int.fdiv_eq_ediv_of_nonneg _ (by omega)]
    omega
  rw [h2]
  simp
theorem putR_fit {l : List UInt8} {at_ : Nat} {v : Int} {n : Nat} (h : fitB v n = true) : putR l at_ v n = putN l at_ v n := by unfold putR; rw [if_pos h]
theorem some_of {n : Nat} {xs : List Value} {o : V.OwnO} (h : ownOk 1 n xs o) (hn : 0 < n) : ∃ g r c, o = some (g, r, c) := by
  rcases o with _ | ⟨g, r, c⟩
  · have h0 : n = 0 := h.2
    omega
  · exact ⟨g, r, c, rfl⟩
theorem pad_copy (l : List UInt8) (h : l.length ≤ 64) : (byC z64.1).take 0 ++ byC l ++ (byC z64.1).drop (0 + (byC l).length) = byC (padB l) := by
  unfold padB z64
  rw [V.byC_append, V.byC_len, Nat.zero_add, List.take_zero, List.nil_append]
  congr 1
  show List.drop l.length (List.map _ (List.replicate 64 0)) = List.map _ (List.replicate (64 - l.length) 0)
  rw [List.map_replicate, List.map_replicate, List.drop_replicate]
theorem sealed_c (l : List UInt8) (p : Option Addr) (cp : Nat) (h0 : 0 < l.length) (h64 : l.length ≤ 64) (w : World) (hp : V.slAt w p 1 byE l) : Calls Tryz.prog 124 [.slice p l.length cp].toArray w fun e w' => e = .returned (.agg (byC (sealL l)).toArray) ∧ Below w.heap.size w w' := by
  obtain ⟨pb, po, rfl, hpr⟩ := sl_range (F := []) byE_len hp h0 (by simp)
  refine V.calls [] Tryz.func124 rfl Tryz.ntmps124 (Nat.le_of_ble_eq_true rfl) (V.sat_nil _) <| Sq <| Rg <| Le (AA (l := byC z64.1) (hz := by exact Tryz.zeroValue158)) fun b2 _ => Nl <| Ps <| Sq <| Rg <| Le (AA (l := byC z64.1) (hz := by exact Tryz.zeroValue158)) fun b3 _ => Nl <| Ps <| Sq <| Rg <| Lv (Val.sliceArr 0 64 rfl Tryz.underlying158 Tryz.sizeOf5 rfl rfl (by omega) (by omega)) <| LW.re 6 (.slice (some ⟨b3, 0, none⟩) 64 64) rfl (by simp) <| Lv Mv <| Le (Eff.copyT (cs := byC l) (gb := b3) (cur := (byC z64.1)) (cells' := (byC (padB l))) (m := l.length) (sz := 1) rfl rfl Tryz.underlying98 (by kernel_rfl) (by repeat (first | exact .here | exact .inner .here | exact .inner (.inner .here) | apply Upd.there)) (pad_copy l h64) (show min (l.length) (64) = _ from by omega) (by rw [V.byC_len, Nat.mul_one]) (fun w1 hw1 j u hj => by rw [Addr.add_mid]; exact (hpr w1 hw1) j u (by rw [← byC_flat]; exact hj)) (by rw [V.byC_len, byC64]; omega) (V.byC_one _)) fun _ _ => Nl <| Ps <| Sq <| Dr ([]) <| Rv 0 rfl (Val.sliceArr 0 64 rfl Tryz.underlying158 Tryz.sizeOf5 rfl rfl (by omega) (by omega)) <| RW.re 10 (.slice (some ⟨b3, 0, none⟩) (padB l).length 64) rfl (by rw [padB_len h64]; simp) <| Rv 1 rfl Mv <| Re 2 rfl (CV fun w hw => sum_c l _ cp (by omega) w (hw.slAt hp (by simp [ids]))) fun _ _ => Rv 3 rfl Cv <| Re 4 rfl (CM [] fun w hw hs0 => put_c (padB l) _ 64 9 4 (IntKind.u64.wrap (sumF l)) (by omega) (by rw [padB_len h64]; omega) (by rw [padB_len h64]; omega) w (V.slAt_flat (r := []) hw byE_len (by rw [byC_flat, List.append_nil]) (show InS (b3, .cells (byC (padB l)).toArray 158 (0, 0)) _ from (by repeat (first | exact .here | exact .inner .here | exact .inner (.inner .here) | refine .there ?_))))) fun o ho => ?_
  rw [putR_fit (sum_fit l), sum_fit l] at *
  obtain ⟨gb, rest, cap, rfl⟩ := some_of ho (by rw [putN_len, padB_len h64]; omega)
  refine Rv 5 rfl Mv <| Rv 6 rfl Ex <| Rv 7 rfl Ex <| Rv 8 rfl Av <| RW.re 4 (.slice (some ⟨gb, 0, none⟩) 64 cap) rfl (by rw [putN_len, padB_len h64]; rfl) <| Rv 9 rfl Av <| Rd <| Ps <| Sq <| Rg <| Lv (Val.sliceArr 0 64 rfl Tryz.underlying158 Tryz.sizeOf5 rfl rfl (by omega) (by omega)) <| LW.re 17 (.slice (some ⟨b3, 0, none⟩) 64 64) rfl (by simp) <| Lv Mv <| Le (Eff.copyT (cs := byC (sealL l)) (gb := b3) (cur := (byC (padB l))) (cells' := (byC (sealL l))) (m := 64) (sz := 1) rfl rfl Tryz.underlying98 (by kernel_rfl) (by repeat (first | exact .here | exact .inner .here | exact .inner (.inner .here) | apply Upd.there)) (by rw [V.byC_len, sealL_len h64, List.drop_eq_nil_iff.2 (by rw [V.byC_len, padB_len h64]; omega)]; simp) (show min (64) (64) = _ from by omega) (by rw [V.byC_len, Nat.mul_one]; exact sealL_len h64) (fun w1 hw1 j u hj => by rw [Addr.add_mid]; exact (V.range_of_block (o := 0) (r := rest) (hw1.at (b := gb)) rfl) j u (by rw [← byC_flat]; exact hj)) (by rw [V.byC_len, V.byC_len, sealL_len h64, padB_len h64]; omega) (V.byC_one _)) fun _ _ => Nl <| Ps <| Sq <| Rg <| Lv (Lw (l := byC (sealL l)) (hs := by rw [V.byC_len, sealL_len h64]; exact Tryz.sizeOf158)) <| LeN (StW (cs := byC (sealL l)) (hlen := by rw [V.byC_len (sealL l), sealL_len h64]; exact byC64 z64) (hs := by rw [V.byC_len, sealL_len h64]; exact Tryz.sizeOf158) (h1 := V.byC_one _)) fun _ _ => Nl <| Ps <| Rt <| V.PQ.retC (l := byC (sealL l)) rfl rfl (by repeat (first | exact .here | exact .inner .here | exact .inner (.inner .here) | refine .there ?_)) Tryz.isAgg158 (by rw [V.byC_len, sealL_len h64]; exact Tryz.sizeOf158) ?_
  intro w' hw; exact ⟨rfl, hw.below⟩
end Go.Proofs.YtlpbjmbgopfkhaaGreat

/- A device's lines: superblock and clock, told and found; a device made ready. -/
namespace Go.Proofs.YtlpbjmbgopfkhaaGreat
open Go Go.RowKit V
set_option linter.unusedVariables false
set_option maxRecDepth 100000
instance : Cal Tryz.prog 90 := ⟨Tryz.call90⟩
instance : Cal Tryz.prog 91 := ⟨Tryz.call91⟩
instance : Cal Tryz.prog 92 := ⟨Tryz.call92⟩
instance : Cal Tryz.prog 124 := ⟨Tryz.call124⟩
instance : Cal Tryz.prog 206 := ⟨Tryz.call206⟩
open V (str byC ownV ownG ownS ownOk)
def supBase : List UInt8 := [4, 70, 85, 83, 69, 0, 0, 0, 0]
def clkBase : List UInt8 := [3, 0, 0, 0, 0, 0, 0, 0, 0]
def superL (x : Int) : List UInt8 := sealL (putN supBase 5 (IntKind.u64.wrap x) 4)
def clockL (v : Int) : List UInt8 := sealL (putN clkBase 1 v 8)
theorem superL_len (x : Int) : (superL x).length = 64 := sealL_len (by rw [putN_len]; decide)
theorem clockL_len (x : Int) : (clockL x).length = 64 := sealL_len (by rw [putN_len]; decide)
def superB (x : Int) : B64 := ⟨superL x, superL_len x⟩
def clockB (x : Int) : B64 := ⟨clockL x, clockL_len x⟩
theorem fit8 (v : Int) : fitB v 8 = true := by unfold fitB; simp
theorem fit_sm {x : Int} (h : 0 ≤ x ∧ x ≤ 258) : fitB (IntKind.u64.wrap x) 4 = true := by
  rw [IntWalk.u64_in _ (by omega)]
  unfold fitB
  have e : (2 : Int) ^ (min ((8 : Int) * ((4 : Nat) : Int)).toNat IntKind.u64.bits) = 4294967296 := by decide
  have h2 : x.fdiv 4294967296 = 0 := by rw [Int.fdiv_eq_ediv_of_nonneg _ (by omega)]; omega
  rw [e, h2]
  simp
theorem super_c (x : Int) (hx : 0 ≤ x ∧ x ≤ 258) (w : World) : Calls Tryz.prog 206 [.int .i64 x].toArray w fun e w' => e = .returned (.agg (byC (superL x)).toArray) ∧ Below w.heap.size w w' := by
  refine V.calls [] Tryz.func206 rfl Tryz.ntmps206 (Nat.le_of_ble_eq_true rfl) (V.sat_nil _) <| Sq <| Rg <| Le (AA (l := byC z64.1) (hz := by exact Tryz.zeroValue158)) fun b2 _ => Nl <| Ps <| Sq <| Rg <| Le (Eff.buildSlice rfl (byC supBase) Tryz.underlying98 Tryz.sizeOf5 (by exact Tryz.zeroValue5) rfl rfl rfl rfl (by rfl)) fun b6 _ => Lv Mv <| Lv Cv <| Le (CM [] fun w hw hs0 => put_c supBase _ 9 5 4 (IntKind.u64.wrap x) (by decide) (by decide) (by decide) w (V.slAt_flat (r := []) hw byE_len (by rfl) (show InS (b6, .cells (byC supBase).toArray 5 (0, 0)) _ from (by repeat (first | exact .here | exact .inner .here | exact .inner (.inner .here) | refine .there ?_))))) fun o ho => ?_
  rw [putR_fit (fit_sm hx), fit_sm hx] at *
  obtain ⟨gb, rest, cap, rfl⟩ := some_of ho (by rw [putN_len]; decide)
  refine Lv Mv <| Lv Ex <| Lv Ex <| Lv Av <| LW.re 3 (.slice (some ⟨gb, 0, none⟩) (putN supBase 5 (IntKind.u64.wrap x) 4).length cap) rfl (by rfl) <| Lv Av <| Nl <| Ps <| Sq <| Rg <| Lv Mv <| Le (CV fun w hw => sealed_c (putN supBase 5 (IntKind.u64.wrap x) 4) _ cap (by rw [putN_len]; decide) (by rw [putN_len]; decide) w (V.slAt_flat hw byE_len rfl (show InS (gb, .cells ((putN supBase 5 (IntKind.u64.wrap x) 4).flatMap byE ++ rest).toArray 5 (0, 0)) _ from (by repeat (first | exact .here | exact .inner .here | exact .inner (.inner .here) | refine .there ?_))))) fun _ _ => LeN (StW (cs := byC (superL x)) (hlen := by rw [V.byC_len (superL x), superL_len]; exact byC64 z64) (hs := by rw [V.byC_len, superL_len]; exact Tryz.sizeOf158) (h1 := V.byC_one _)) fun _ _ => Nl <| Ps <| Rt <| V.PQ.retC (l := byC (superL x)) rfl rfl (by repeat (first | exact .here | exact .inner .here | exact .inner (.inner .here) | refine .there ?_)) Tryz.isAgg158 (by rw [V.byC_len, superL_len]; exact Tryz.sizeOf158) ?_
  intro w' hw; exact ⟨rfl, hw.below⟩
theorem clock_c (x : Int)  (w : World) : Calls Tryz.prog 92 [.int .u64 x].toArray w fun e w' => e = .returned (.agg (byC (clockL x)).toArray) ∧ Below w.heap.size w w' := by
  refine V.calls [] Tryz.func92 rfl Tryz.ntmps92 (Nat.le_of_ble_eq_true rfl) (V.sat_nil _) <| Sq <| Rg <| Le (AA (l := byC z64.1) (hz := by exact Tryz.zeroValue158)) fun b2 _ => Nl <| Ps <| Sq <| Rg <| Le (Eff.buildSlice rfl (byC clkBase) Tryz.underlying98 Tryz.sizeOf5 (by exact Tryz.zeroValue5) rfl rfl rfl rfl (by rfl)) fun b6 _ => Lv Mv <| Le (CM [] fun w hw hs0 => put_c clkBase _ 9 1 8 x (by decide) (by decide) (by decide) w (V.slAt_flat (r := []) hw byE_len (by rfl) (show InS (b6, .cells (byC clkBase).toArray 5 (0, 0)) _ from (by repeat (first | exact .here | exact .inner .here | exact .inner (.inner .here) | refine .there ?_))))) fun o ho => ?_
  rw [putR_fit (fit8 x), fit8 x] at *
  obtain ⟨gb, rest, cap, rfl⟩ := some_of ho (by rw [putN_len]; decide)
  refine Lv Mv <| Lv Ex <| Lv Ex <| Lv Av <| LW.re 3 (.slice (some ⟨gb, 0, none⟩) (putN clkBase 1 x 8).length cap) rfl (by rfl) <| Lv Av <| Nl <| Ps <| Sq <| Rg <| Lv Mv <| Le (CV fun w hw => sealed_c (putN clkBase 1 x 8) _ cap (by rw [putN_len]; decide) (by rw [putN_len]; decide) w (V.slAt_flat hw byE_len rfl (show InS (gb, .cells ((putN clkBase 1 x 8).flatMap byE ++ rest).toArray 5 (0, 0)) _ from (by repeat (first | exact .here | exact .inner .here | exact .inner (.inner .here) | refine .there ?_))))) fun _ _ => LeN (StW (cs := byC (clockL x)) (hlen := by rw [V.byC_len (clockL x), clockL_len]; exact byC64 z64) (hs := by rw [V.byC_len, clockL_len]; exact Tryz.sizeOf158) (h1 := V.byC_one _)) fun _ _ => Nl <| Ps <| Rt <| V.PQ.retC (l := byC (clockL x)) rfl rfl (by repeat (first | exact .here | exact .inner .here | exact .inner (.inner .here) | refine .there ?_)) Tryz.isAgg158 (by rw [V.byC_len, clockL_len]; exact Tryz.sizeOf158) ?_
  intro w' hw; exact ⟨rfl, hw.below⟩
theorem Super_c (n : Nat) (h : 10 ≤ n ∧ n ≤ 258) (w : World) : Calls Tryz.prog 174 [.int .i64 (n : Nat)].toArray w fun e w' => ∃ b : Nat, True ∧ e = .returned (.tuple #[.slice (some ⟨b, 0, none⟩) 64 64, .int .i64 0]) ∧ Hp ⟨w, []⟩ [[(b, .cells (byC (superL (n : Nat))).toArray 158 (0, 0))]] w' := by
  refine V.calls [] Tryz.func174 rfl Tryz.ntmps174 (Nat.le_of_ble_eq_true rfl) (V.sat_nil _) <| Sq <| Rg <| Lv Av <| Lv Av <| Nl <| Ps <| Sq <| Sq <| Rg <| Lv Mv <| Lv Cm <| LW.re 6 (.bool false) rfl (by simp <;> omega) <| Lv Mv <| Lv Mv <| Lv Cm <| LW.re 9 (.bool false) rfl (by simp <;> omega) <| Lv Pf <| Nl <| Ps <| Cf <| Sk <| Ps <| Sq <| Rg <| Lv Mv <| Le (CV fun w hw => super_c (n : Nat) (by omega) w) fun _ _ => Le (AA (l := byC z64.1) (hz := by exact Tryz.zeroValue158)) fun b4 _ => LeN (StW (cs := byC (superL (n : Nat))) (hlen := by rw [V.byC_len (superL (n : Nat)), superL_len]; exact byC64 z64) (hs := by rw [V.byC_len, superL_len]; exact Tryz.sizeOf158) (h1 := V.byC_one _)) fun _ _ => Nl <| Ps <| Sq <| Rg <| Lv (Val.sliceArr 0 64 rfl Tryz.underlying158 Tryz.sizeOf5 rfl rfl (by omega) (by omega)) <| LW.re 13 (.slice (some ⟨b4, 0, none⟩) 64 64) rfl (by simp) <| Lv Av <| Lv Av <| Nl <| Ps <| Rt <| Rt2 ?_
  intro w' hw; exact ⟨b4, trivial, rfl, hw.pick (by repeat (first | exact .nil | apply Pick.cons | exact .here | apply Ext.there))⟩
theorem Clock_c (v : Int) (w : World) : Calls Tryz.prog 176 [.int .u64 v].toArray w fun e w' => ∃ b : Nat, True ∧ e = .returned (.slice (some ⟨b, 0, none⟩) 64 64) ∧ Hp ⟨w, []⟩ [[(b, .cells (byC (clockL v)).toArray 158 (0, 0))]] w' := by
  refine V.calls [] Tryz.func176 rfl Tryz.ntmps176 (Nat.le_of_ble_eq_true rfl) (V.sat_nil _) <| Sq <| Rg <| Lv Av <| Nl <| Ps <| Sq <| Rg <| Lv Mv <| Le (CV fun w hw => clock_c v w) fun _ _ => Le (AA (l := byC z64.1) (hz := by exact Tryz.zeroValue158)) fun b3 _ => LeN (StW (cs := byC (clockL v)) (hlen := by rw [V.byC_len (clockL v), clockL_len]; exact byC64 z64) (hs := by rw [V.byC_len, clockL_len]; exact Tryz.sizeOf158) (h1 := V.byC_one _)) fun _ _ => Nl <| Ps <| Sq <| Rg <| Lv (Val.sliceArr 0 64 rfl Tryz.underlying158 Tryz.sizeOf5 rfl rfl (by omega) (by omega)) <| LW.re 6 (.slice (some ⟨b3, 0, none⟩) 64 64) rfl (by simp) <| Lv Av <| Nl <| Ps <| Rt <| Rt1 ?_
  intro w' hw; exact ⟨b3, trivial, rfl, hw.pick (by repeat (first | exact .nil | apply Pick.cons | exact .here | apply Ext.there))⟩
theorem whole_c (b : B64) (p : Option Addr) (cp : Nat) (w : World) (hp : V.slAt w p 1 byE b.1) : Calls Tryz.prog 90 [.slice p 64 cp].toArray w fun e w' => e = .returned (.tuple #[.agg (byC b.1).toArray, .bool true]) ∧ Below w.heap.size w w' := by
  obtain ⟨pb, po, rfl, hpr⟩ := sl_range (F := []) byE_len hp (by rw [b.2]; omega) (by simp)
  have hpb : pb < w.heap.size := by
    rcases hp with h8 | ⟨b2, o2, h8, h9, _⟩
    · have := b.2; rw [h8] at this; simp at this
    · simp only [Option.some.injEq, Addr.mk.injEq] at h8; obtain ⟨rfl, _⟩ := h8; exact h9
  refine V.calls [] Tryz.func90 rfl Tryz.ntmps90 (Nat.le_of_ble_eq_true rfl) (V.sat_nil _) <| Sq <| Rg <| Le (AA (l := byC z64.1) (hz := by exact Tryz.zeroValue158)) fun b2 _ => Lv Av <| Nl <| Ps <| Sq <| Sq <| Rg <| Lv Mv <| Lv Ln <| Lv Cm <| LW.re 6 (.bool false) rfl (by rfl) <| Nl <| Ps <| Cf <| Sk <| Ps <| Sq <| Rg <| Lv Mv <| Lv (Val.arrPtr rfl Tryz.underlying158 (Nat.le_refl _)) <| Lv (Val.loadOA (cs := byC b.1) rfl Tryz.isAgg158 hpb (by simp [ids]) (by rw [byC_flat]; exact hpr w (V.hp_none w)) (by rw [V.byC_len, b.2]; exact Tryz.sizeOf158)) <| LeN (StW (cs := byC b.1) (hlen := by rw [byC64, byC64]) (hs := by rw [byC64]; exact Tryz.sizeOf158) (h1 := V.byC_one _)) fun _ _ => Lv Av <| Nl <| Ps <| Rt <| V.PQ.retCT (l := byC b.1) rfl rfl rfl (by repeat (first | exact .here | exact .inner .here | exact .inner (.inner .here) | refine .there ?_)) Tryz.isAgg158 (by rw [byC64]; exact Tryz.sizeOf158) ?_
  intro w' hw; exact ⟨rfl, hw.below⟩
def isSuperF (b : B64) : Int × Bool := if getN b.1 5 4 < 10 ∨ 258 < getN b.1 5 4 then (0, false) else if b.1 = superL (IntKind.i64.wrap (getN b.1 5 4)) then (IntKind.i64.wrap (getN b.1 5 4), true) else (0, false)
def isClockF (b : B64) : Int × Bool := if b.1 = clockL (getN b.1 1 8) then (getN b.1 1 8, true) else (0, false)
theorem isSuper_c (b : B64) (p : Option Addr) (cp : Nat) (w : World) (hp : V.slAt w p 1 byE b.1) : Calls Tryz.prog 342 [.slice p 64 cp].toArray w fun e w' => e = .returned (.tuple #[.int .i64 (isSuperF b).1, .bool (isSuperF b).2]) ∧ Below w.heap.size w w' := by
  refine V.calls [] Tryz.func342 rfl Tryz.ntmps342 (Nat.le_of_ble_eq_true rfl) (V.sat_nil _) <| Sq <| Rg <| Lv Av <| Lv Av <| Nl <| Ps <| Sq <| Rg <| Lv Mv <| Le (CV fun w hw => whole_c b p cp w (hw.slAt hp (by simp [ids]))) fun _ _ => Lv Mv <| Lv Ex <| Lv Ex <| Le (AA (l := byC z64.1) (hz := by exact Tryz.zeroValue158)) fun b4 _ => LeN (StW (cs := byC b.1) (hlen := by rw [byC64, byC64]) (hs := by rw [byC64]; exact Tryz.sizeOf158) (h1 := V.byC_one _)) fun _ _ => Lv Av <| Nl <| Ps <| Sq <| Sq <| Rg <| Lv Mv <| Lv Nt <| LW.re 14 (.bool false) rfl (by rfl) <| Nl <| Ps <| Cf <| Sk <| Ps <| Sq <| Rg <| Lv Mv <| Le (CV fun w hw => (by have h8 := get_c b.1 p cp 5 4 (by omega) (by rw [b.2]; omega) (by rw [b.2]; omega) w (hw.slAt hp (by simp [ids])); rw [b.2] at h8; exact h8)) fun _ _ => Lv Mv <| Lv Ex <| Lv Ex <| Lv Av <| Lv Av <| Nl <| Ps <| Sq <| Sq <| Qt <| Qv Mv <| Qv Cm <| Qv Mv ?_
  refine QW.split (d := 22) rfl (fun h22 => ?_) (fun h22 => ?_)
  · replace h22 := bT h22
    have h22 : getN b.1 5 4 < 10 := h22
    refine Qp <| Qp <| Qv Pt <| Qv Mv <| Qp <| Qp <| Qp <| Qp <| Qp <| Qv Pt <| Ql <| Ps <| Ct <| Sq <| Rg <| Lv Av <| Lv Av <| Nl <| Ps <| Rt <| Tr <| Rt2 ?_
    have e8 : isSuperF b = (0, false) := by
      unfold isSuperF
      rw [if_pos (by omega)]
    rw [e8]
    intro w' hw; exact ⟨rfl, hw.below⟩
  · replace h22 := bF h22
    have h22 : 10 ≤ getN b.1 5 4 := h22
    refine Qv Mv <| Qv Cm <| Qv Pf <| Qv Mv ?_
    refine QW.split (d := 26) rfl (fun h26 => ?_) (fun h26 => ?_)
    · replace h26 := bT h26
      have h26 : 258 < getN b.1 5 4 := h26
      refine Qp <| Qp <| Qp <| Qp <| Qp <| Qv Pt <| Ql <| Ps <| Ct <| Sq <| Rg <| Lv Av <| Lv Av <| Nl <| Ps <| Rt <| Tr <| Rt2 ?_
      have e8 : isSuperF b = (0, false) := by
        unfold isSuperF
        rw [if_pos (by omega)]
      rw [e8]
      intro w' hw; exact ⟨rfl, hw.below⟩
    · replace h26 := bF h26
      have h26 : getN b.1 5 4 ≤ 258 := h26
      refine Qv (Lw (l := byC b.1) (hs := by rw [byC64]; exact Tryz.sizeOf158)) <| Qv Mv <| Qv Cv <| Qc (QV fun w hw => super_c (IntKind.i64.wrap (getN b.1 5 4)) (by rw [IntWalk.i64_in _ (by omega)]; omega) w) <| Qv (Val.neBy (a := b.1) (b := superL (IntKind.i64.wrap (getN b.1 5 4))) rfl rfl (by kernel_rfl) Tryz.underlying158 Tryz.underlying5 Tryz.sizeOf5 b.2 (superL_len _)) <| Qv Pf <| Ql <| Ps ?_
      refine CW.cond rfl (fun h32 => ?_) (fun h32 => ?_)
      · replace h32 := bT h32
        have h32 : ¬ b.1 = superL (IntKind.i64.wrap (getN b.1 5 4)) := by simpa using h32
        refine Sq <| Rg <| Lv Av <| Lv Av <| Nl <| Ps <| Rt <| Tr <| Rt2 ?_
        have e8 : isSuperF b = (0, false) := by
          unfold isSuperF
          rw [if_neg (by omega), if_neg h32]
        rw [e8]
        intro w' hw; exact ⟨rfl, hw.below⟩
      · replace h32 := bF h32
        have h32 : b.1 = superL (IntKind.i64.wrap (getN b.1 5 4)) := by simpa using h32
        refine Sk <| Ps <| Sq <| Rg <| Lv Mv <| Lv Cv <| Lv Av <| Lv Av <| Nl <| Ps <| Rt <| Rt2 ?_
        have e8 : isSuperF b = (IntKind.i64.wrap (getN b.1 5 4), true) := by unfold isSuperF; rw [if_neg (by omega), if_pos h32]
        rw [e8]
        intro w' hw; exact ⟨rfl, hw.below⟩
theorem isClock_c (b : B64) (p : Option Addr) (cp : Nat) (w : World) (hp : V.slAt w p 1 byE b.1) : Calls Tryz.prog 51 [.slice p 64 cp].toArray w fun e w' => e = .returned (.tuple #[.int .u64 (isClockF b).1, .bool (isClockF b).2]) ∧ Below w.heap.size w w' := by
  refine V.calls [] Tryz.func51 rfl Tryz.ntmps51 (Nat.le_of_ble_eq_true rfl) (V.sat_nil _) <| Sq <| Rg <| Lv Av <| Lv Av <| Nl <| Ps <| Sq <| Rg <| Lv Mv <| Le (CV fun w hw => whole_c b p cp w (hw.slAt hp (by simp [ids]))) fun _ _ => Lv Mv <| Lv Ex <| Lv Ex <| Le (AA (l := byC z64.1) (hz := by exact Tryz.zeroValue158)) fun b4 _ => LeN (StW (cs := byC b.1) (hlen := by rw [byC64, byC64]) (hs := by rw [byC64]; exact Tryz.sizeOf158) (h1 := V.byC_one _)) fun _ _ => Lv Av <| Nl <| Ps <| Sq <| Sq <| Rg <| Lv Mv <| Lv Nt <| LW.re 14 (.bool false) rfl (by rfl) <| Nl <| Ps <| Cf <| Sk <| Ps <| Sq <| Rg <| Lv Mv <| Le (CV fun w hw => (by have h8 := get_c b.1 p cp 1 8 (by omega) (by rw [b.2]; omega) (by rw [b.2]; omega) w (hw.slAt hp (by simp [ids])); rw [b.2] at h8; exact h8)) fun _ _ => Lv Mv <| Lv Ex <| Lv Ex <| Lv Av <| Lv Av <| Nl <| Ps <| Sq <| Sq <| Qt <| Qv (Lw (l := byC b.1) (hs := by rw [byC64]; exact Tryz.sizeOf158)) <| Qv Mv <| Qc (QV fun w hw => clock_c (getN b.1 1 8) w) <| Qv (Val.neBy (a := b.1) (b := clockL (getN b.1 1 8)) rfl rfl (by kernel_rfl) Tryz.underlying158 Tryz.underlying5 Tryz.sizeOf5 b.2 (clockL_len _)) <| Ql <| Ps ?_
  refine CW.cond rfl (fun h23 => ?_) (fun h23 => ?_)
  · replace h23 := bT h23
    have h23 : ¬ b.1 = clockL (getN b.1 1 8) := by simpa using h23
    refine Sq <| Rg <| Lv Av <| Lv Av <| Nl <| Ps <| Rt <| Tr <| Rt2 ?_
    have e8 : isClockF b = (0, false) := by unfold isClockF; rw [if_neg h23]
    rw [e8]
    intro w' hw; exact ⟨rfl, hw.below⟩
  · replace h23 := bF h23
    have h23 : b.1 = clockL (getN b.1 1 8) := by simpa using h23
    refine Sk <| Ps <| Sq <| Rg <| Lv Mv <| Lv Av <| Lv Av <| Nl <| Ps <| Rt <| Rt2 ?_
    have e8 : isClockF b = (getN b.1 1 8, true) := by unfold isClockF; rw [if_pos h23]
    rw [e8]
    intro w' hw; exact ⟨rfl, hw.below⟩
end Go.Proofs.YtlpbjmbgopfkhaaGreat

/- A device made ready, and opened; heads; slabs. -/
namespace Go.Proofs.YtlpbjmbgopfkhaaGreat
open Go Go.RowKit V
set_option linter.unusedVariables false
set_option maxRecDepth 100000
instance : Cal Tryz.prog 51 := ⟨Tryz.call51⟩
instance : Cal Tryz.prog 115 := ⟨Tryz.call115⟩
instance : Cal Tryz.prog 156 := ⟨Tryz.call156⟩
instance : Cal Tryz.prog 174 := ⟨Tryz.call174⟩
instance : Cal Tryz.prog 175 := ⟨Tryz.call175⟩
instance : Cal Tryz.prog 176 := ⟨Tryz.call176⟩
instance : Cal Tryz.prog 177 := ⟨Tryz.call177⟩
instance : Cal Tryz.prog 178 := ⟨Tryz.call178⟩
instance : Cal Tryz.prog 196 := ⟨Tryz.call196⟩
instance : Cal Tryz.prog 342 := ⟨Tryz.call342⟩
open V (str byC ownV ownG ownS ownOk)
theorem putB_all (b l : B64) (h : 0 + l.1.length ≤ 64) : putB b 0 l.1 h = l := by
  apply Subtype.ext
  show b.1.take 0 ++ l.1 ++ b.1.drop (0 + l.1.length) = l.1
  rw [List.take_zero, List.nil_append, List.drop_eq_nil_iff.2 (by rw [b.2, l.2]; omega), List.append_nil]
def frm (r : B64) : Ce := ⟨r, r, r, false⟩
/-- A device that is ready, of m lines more than two. -/
def fmtD (m : Nat) : List Ce := frm (superB ((m + 2 : Nat) : Int)) :: frm (clockB 0) :: List.replicate m ce0
theorem own64 (b : B64) (o : V.OwnO) (ho : ownOk 1 64 (b.1.flatMap byE) o) : ∃ (p : Option Addr) (cp : Nat), ownV 64 o = .slice p 64 cp ∧ ∀ {B : V.Base} {sg r : V.Sg} {w : World}, Hp B sg w → Pick [ownG 5 (b.1.flatMap byE) o] sg r → V.slAt w p 1 byE b.1 := by
  obtain ⟨p, c, h1, _, h2⟩ := own_slg (e := 5) byE_len b.1 o (by rw [b.2]; exact ho)
  rw [b.2] at h1
  exact ⟨p, c, h1, h2⟩
theorem format_c (db cb m : Nat) (k : Cnt) (hm : 8 ≤ m ∧ m ≤ 256) (w : World) (hs : Sat (devS db cb (List.replicate (m + 2) ce0) k) w) : Calls Tryz.prog 145 [.pointer (some ⟨db, 0, none⟩)].toArray w fun e w' => ∃ k' : Cnt, True ∧ e = .returned (.int .i64 0) ∧ Hp ⟨w, V.ids (devS db cb (List.replicate (m + 2) ce0) k)⟩ (devS db cb (fmtD m) k') w' := by
  refine V.calls (devS db cb (List.replicate (m + 2) ce0) k) Tryz.func145 rfl Tryz.ntmps145 (Nat.le_of_ble_eq_true rfl) hs <| Sq <| Rg <| Lv Av <| Nl <| Ps <| Sq <| Sq <| Rg <| Lv Mv <| Lv EP <| Nl <| Ps <| Cf <| Sk <| Ps <| Sq <| Rg <| Lv Mv <| Le (CV fun w hw => lines_c db cb (List.replicate (m + 2) ce0) k w hw.at) fun _ _ => LW.re 9 (.int .i64 ((m + 2 : Nat) : Int)) rfl (by rw [List.length_replicate]) <| Le (CM [] fun w hw hs => Super_c (m + 2) (by omega) w) fun b1 _ => Lv Mv <| Lv Ex <| Lv Ex <| Lv Av <| Lv Av <| Nl <| Ps <| Sq <| Sq <| Rg <| Lv Mv <| Lv Cm <| LW.re 14 (.bool false) rfl (by rfl) <| Nl <| Ps <| Cf <| Sk <| Ps <| Sq <| Rg <| Lv Mv <| Lv Mv <| Le (CM (devS db cb (List.replicate (m + 2) ce0) k) fun w hw hs => store_c db cb (List.replicate (m + 2) ce0) k 0 0 (superB ((m + 2 : Nat) : Int)).1 ce0 _ 64 64 (superB ((m + 2 : Nat) : Int)).2.symm rfl (by rw [(superB ((m + 2 : Nat) : Int)).2]; omega) (by rw [(superB ((m + 2 : Nat) : Int)).2]; omega) w hs (V.slAt_flat (r := []) hw byE_len (by rw [byC_flat, List.append_nil]) (show InS (b1, .cells (byC (superB ((m + 2 : Nat) : Int)).1).toArray 158 (0, 0)) _ from (by repeat (first | exact .here | exact .inner .here | exact .inner (.inner .here) | refine .there ?_)))) (fun b o hb => by simp only [Option.some.injEq, Addr.mk.injEq] at hb; obtain ⟨rfl, _⟩ := hb; exact not_in hw (show Pick (devS db cb (List.replicate (m + 2) ce0) k) _ _ from (by repeat (first | exact .nil | apply Pick.cons | exact .here | apply Ext.there))) (show InS (b1, .cells (byC (superB ((m + 2 : Nat) : Int)).1).toArray 158 (0, 0)) _ from (by repeat (first | exact .here | exact .inner .here | exact .inner (.inner .here) | refine .there ?_))))) fun k1 _ => ?_
  rw [putB_all]
  refine Nl <| Ps <| Sq <| Rg <| Lv Mv <| Le (CM [] fun w hw hs => Clock_c 0 w) fun b2 _ => Le (CM (devS db cb ((List.replicate (m + 2) ce0).set 0 ({ ce0 with now := (superB ((m + 2 : Nat) : Int)) } : Ce)) k1) fun w hw hs => store_c db cb ((List.replicate (m + 2) ce0).set 0 ({ ce0 with now := (superB ((m + 2 : Nat) : Int)) } : Ce)) k1 1 0 (clockB 0).1 ce0 _ 64 64 (clockB 0).2.symm rfl (by rw [(clockB 0).2]; omega) (by rw [(clockB 0).2]; omega) w hs (V.slAt_flat (r := []) hw byE_len (by rw [byC_flat, List.append_nil]) (show InS (b2, .cells (byC (clockB 0).1).toArray 158 (0, 0)) _ from (by repeat (first | exact .here | exact .inner .here | exact .inner (.inner .here) | refine .there ?_)))) (fun b o hb => by simp only [Option.some.injEq, Addr.mk.injEq] at hb; obtain ⟨rfl, _⟩ := hb; exact not_in hw (show Pick (devS db cb ((List.replicate (m + 2) ce0).set 0 ({ ce0 with now := (superB ((m + 2 : Nat) : Int)) } : Ce)) k1) _ _ from (by repeat (first | exact .nil | apply Pick.cons | exact .here | apply Ext.there))) (show InS (b2, .cells (byC (clockB 0).1).toArray 158 (0, 0)) _ from (by repeat (first | exact .here | exact .inner .here | exact .inner (.inner .here) | refine .there ?_))))) fun k2 _ => ?_
  rw [putB_all]
  refine Nl <| Ps <| Sq <| Rg <| Lv Mv <| Le (CM (devS db cb (((List.replicate (m + 2) ce0).set 0 ({ ce0 with now := (superB ((m + 2 : Nat) : Int)) } : Ce)).set 1 ({ ce0 with now := (clockB 0) } : Ce)) k2) fun w hw hs => flush_c db cb (((List.replicate (m + 2) ce0).set 0 ({ ce0 with now := (superB ((m + 2 : Nat) : Int)) } : Ce)).set 1 ({ ce0 with now := (clockB 0) } : Ce)) k2 0 ({ ce0 with now := (superB ((m + 2 : Nat) : Int)) } : Ce) rfl w hs) fun k3 _ => Nl <| Ps <| Sq <| Rg <| Lv Mv <| Le (CM (devS db cb ((((List.replicate (m + 2) ce0).set 0 ({ ce0 with now := (superB ((m + 2 : Nat) : Int)) } : Ce)).set 1 ({ ce0 with now := (clockB 0) } : Ce)).set 0 ({ ({ ce0 with now := (superB ((m + 2 : Nat) : Int)) } : Ce) with way := ({ ce0 with now := (superB ((m + 2 : Nat) : Int)) } : Ce).now, sent := true } : Ce)) k3) fun w hw hs => flush_c db cb ((((List.replicate (m + 2) ce0).set 0 ({ ce0 with now := (superB ((m + 2 : Nat) : Int)) } : Ce)).set 1 ({ ce0 with now := (clockB 0) } : Ce)).set 0 ({ ({ ce0 with now := (superB ((m + 2 : Nat) : Int)) } : Ce) with way := ({ ce0 with now := (superB ((m + 2 : Nat) : Int)) } : Ce).now, sent := true } : Ce)) k3 1 ({ ce0 with now := (clockB 0) } : Ce) rfl w hs) fun k4 _ => Nl <| Ps <| Sq <| Rg <| Lv Mv <| Le (CM (devS db cb (((((List.replicate (m + 2) ce0).set 0 ({ ce0 with now := (superB ((m + 2 : Nat) : Int)) } : Ce)).set 1 ({ ce0 with now := (clockB 0) } : Ce)).set 0 ({ ({ ce0 with now := (superB ((m + 2 : Nat) : Int)) } : Ce) with way := ({ ce0 with now := (superB ((m + 2 : Nat) : Int)) } : Ce).now, sent := true } : Ce)).set 1 ({ ({ ce0 with now := (clockB 0) } : Ce) with way := ({ ce0 with now := (clockB 0) } : Ce).now, sent := true } : Ce)) k4) fun w hw hs => fence_c db cb (((((List.replicate (m + 2) ce0).set 0 ({ ce0 with now := (superB ((m + 2 : Nat) : Int)) } : Ce)).set 1 ({ ce0 with now := (clockB 0) } : Ce)).set 0 ({ ({ ce0 with now := (superB ((m + 2 : Nat) : Int)) } : Ce) with way := ({ ce0 with now := (superB ((m + 2 : Nat) : Int)) } : Ce).now, sent := true } : Ce)).set 1 ({ ({ ce0 with now := (clockB 0) } : Ce) with way := ({ ce0 with now := (clockB 0) } : Ce).now, sent := true } : Ce)) k4 (by simp; omega) w hs) ?_
  intro k5 _
  refine Nl <| Ps <| Sq <| Rg <| Lv Av <| Nl <| Ps <| Rt <| Rt1 ?_
  have e9 : (((((List.replicate (m + 2) ce0).set 0 ({ ce0 with now := (superB ((m + 2 : Nat) : Int)) } : Ce)).set 1 ({ ce0 with now := (clockB 0) } : Ce)).set 0 ({ ({ ce0 with now := (superB ((m + 2 : Nat) : Int)) } : Ce) with way := ({ ce0 with now := (superB ((m + 2 : Nat) : Int)) } : Ce).now, sent := true } : Ce)).set 1 ({ ({ ce0 with now := (clockB 0) } : Ce) with way := ({ ce0 with now := (clockB 0) } : Ce).now, sent := true } : Ce)).map fenB = fmtD m := by
    show fenB ({ ({ ce0 with now := (superB ((m + 2 : Nat) : Int)) } : Ce) with way := ({ ce0 with now := (superB ((m + 2 : Nat) : Int)) } : Ce).now, sent := true } : Ce) :: fenB ({ ({ ce0 with now := (clockB 0) } : Ce) with way := ({ ce0 with now := (clockB 0) } : Ce).now, sent := true } : Ce) :: (List.replicate m ce0).map fenB = _
    rw [List.map_replicate]
    rfl
  rw [e9]
  intro w' hw; exact ⟨k5, trivial, rfl, hw.pick (by repeat (first | exact .nil | apply Pick.cons | exact .here | apply Ext.there))⟩
theorem open_good (db cb : Nat) (D : List Ce) (k : Cnt) (c0 c1 : Ce) (h0 : D[0]? = some c0) (h1 : D[1]? = some c1) (v : Int) (hb : isSuperF c0.now = (((D.length : Nat) : Int), true)) (hc : isClockF c1.now = (v, true)) (hv9 : v ≤ 1152921504606846976) (hL : D.length ≤ 1000) (w : World) (hs : Sat (devS db cb D k) w) : Calls Tryz.prog 280 [.pointer (some ⟨db, 0, none⟩)].toArray w fun e w' => e = .returned (.tuple #[.int .u64 v, .int .i64 0]) ∧ Below w.heap.size w w' := by
  have hi := (List.getElem?_eq_some_iff.1 h0).1
  refine V.calls (devS db cb D k) Tryz.func280 rfl Tryz.ntmps280 (Nat.le_of_ble_eq_true rfl) hs <| Sq <| Rg <| Lv Av <| Lv Av <| Nl <| Ps <| Sq <| Sq <| Rg <| Lv Mv <| Lv EP <| Nl <| Ps <| Cf <| Sk <| Ps <| Sq <| Rg <| Lv Mv <| Le (CM [] fun w hw hs => load_c db cb D k 0 c0 h0 w hw.pk.sat) fun o ho => ?_
  obtain ⟨p, cp, hv, hsl⟩ := own64 c0.now o ho
  refine Lv Mv <| Lv Ex <| LW.re 17 (.slice p 64 cp) rfl hv <| Lv Ex <| Lv Av <| Lv Av <| Nl <| Ps <| Sq <| Rg <| Lv Mv <| Le (CV fun w hw => isSuper_c c0.now p cp w (hsl hw (by repeat (first | exact .nil | apply Pick.cons | exact .here | apply Ext.there)))) fun _ _ => Lv Mv <| Lv Ex <| Lv Ex <| Lv Av <| Lv Av <| Nl <| Ps <| Sq <| Sq <| Rg <| Lv Mv <| Lv Nt <| LW.re 25 (.bool false) rfl (by rw [hb]; rfl) <| Lv Mv <| Lv Mv <| Lv Mv <| Le (CV fun w hw => lines_c db cb D k w hw.at) fun _ _ => Lv Cm <| LW.re 30 (.bool false) rfl (by rw [hb]; simp) <| Lv Pf <| Nl <| Ps <| Cf <| Sk <| Ps <| Sq <| Rg <| Lv Mv <| Le (CM [] fun w hw hs => load_c db cb D k 1 c1 h1 w hw.pk.sat) fun o2 ho2 => ?_
  obtain ⟨p2, cp2, hv2, hsl2⟩ := own64 c1.now o2 ho2
  refine Lv Mv <| Lv Ex <| LW.re 35 (.slice p2 64 cp2) rfl hv2 <| Lv Ex <| Lv Av <| Lv Av <| Nl <| Ps <| Sq <| Rg <| Lv Mv <| Le (CV fun w hw => isClock_c c1.now p2 cp2 w (hsl2 hw (by repeat (first | exact .nil | apply Pick.cons | exact .here | apply Ext.there)))) fun _ _ => Lv Mv <| Lv Ex <| Lv Ex <| Lv Av <| Lv Av <| Nl <| Ps <| Sq <| Sq <| Rg <| Lv Mv <| Lv Nt <| LW.re 43 (.bool false) rfl (by rw [hc]; rfl) <| Nl <| Ps <| Cf <| Sk <| Ps <| Sq <| Sq <| Rg <| Lv Mv <| Lv Cm <| LW.re 45 (.bool false) rfl (by rw [hc]; simp; omega) <| Nl <| Ps <| Cf <| Sk <| Ps <| Sq <| Rg <| Lv Mv <| LW.re 46 (.int .u64 v) rfl (by rw [hc]) <| Lv Av <| Lv Av <| Nl <| Ps <| Rt <| Rt2 ?_
  intro w' hw; exact ⟨by rfl, hw.ro (by repeat (first | exact .nil | apply Pick.cons | exact .here | apply Ext.there)) hs⟩
theorem slabs_c (n : Nat) (h : 10 ≤ n ∧ n ≤ 258) (w : World) : Calls Tryz.prog 138 [.int .i64 (n : Nat)].toArray w fun e w' => e = .returned (.int .i64 (((n - 2) / 8 : Nat) : Int)) ∧ Below w.heap.size w w' := by
  refine V.calls [] Tryz.func138 rfl Tryz.ntmps138 (Nat.le_of_ble_eq_true rfl) (V.sat_nil _) <| Sq <| Rg <| Lv Av <| Nl <| Ps <| Sq <| Sq <| Rg <| Lv Mv <| Lv Cm <| LW.re 4 (.bool false) rfl (by simp <;> omega) <| Nl <| Ps <| Cf <| Sk <| Ps <| Sq <| Rg <| Lv Mv <| Lv (Val.minI rfl rfl) <| LW.re 6 (.int .i64 ((n : Nat) : Int)) rfl (by congr 1; split <;> omega) <| Lv Ar <| Lv (Val.quo rfl rfl (by omega)) <| LW.re 8 (.int .i64 (((n - 2) / 8 : Nat) : Int)) rfl (by congr 1; rw [Int.tdiv_eq_ediv_of_nonneg (by omega), IntWalk.i64_in _ (by omega)]; omega) <| Lv Av <| Nl <| Ps <| Rt <| Rt1 ?_
  intro w' hw; exact ⟨by rfl, hw.below⟩
theorem head0_c (b : B64) (u : UInt8) (hu : b.1[0]? = some u) (h1 : u ≠ 1) (p : Option Addr) (cp : Nat) (w : World) (hp : V.slAt w p 1 byE b.1) : Calls Tryz.prog 195 [.slice p 64 cp].toArray w fun e w' => e = .returned (.tuple #[.int .i64 0, .int .i64 0, .bool false]) ∧ Below w.heap.size w w' := by
  obtain ⟨pb, po, x, rfl, hpb, hx, hpr⟩ := V.slAt_at hp b.2 (k := 0) (by omega)
  obtain rfl : x = u := by rw [hx] at hu; cases hu; rfl
  refine V.calls [] Tryz.func195 rfl Tryz.ntmps195 (Nat.le_of_ble_eq_true rfl) (V.sat_nil _) <| Sq <| Rg <| Lv Av <| Lv Av <| Lv Av <| Nl <| Ps <| Sq <| Sq <| Rg <| Lv Mv <| Lv Ln <| Lv Cm <| LW.re 7 (.bool false) rfl (by rfl) <| Lv Mv <| Lv Mv <| Lv (Val.indexAddrN (i := 0) rfl rfl Tryz.underlying98 Tryz.sizeOf5 (by omega)) <| Lv (Val.loadO rfl Tryz.isAgg5 hpb (by simp [ids]) (hpr 0 x hx 0 _ rfl)) <| Lv Cm <| LW.re 12 (.bool true) rfl (by have h9 : ¬ (((x.toNat : Nat) : Int) = 1) := fun h8 => h1 (UInt8.toNat_inj.1 (show x.toNat = 1 by omega)); congr 1; simp; omega) <| Lv Pf <| Lv Mv <| Lp <| Lp <| Lp <| Lp <| Lp <| Lp <| Lv Pt <| Lv Mv <| Lp <| Lp <| Lp <| Lp <| Lv Pt <| Nl <| Ps <| Ct <| Sq <| Rg <| Lv Av <| Lv Av <| Lv Av <| Nl <| Ps <| Rt <| Tr <| Rt3 ?_
  intro w' hw; exact ⟨by rfl, hw.below⟩
end Go.Proofs.YtlpbjmbgopfkhaaGreat

/- An arena is made. -/
namespace Go.Proofs.YtlpbjmbgopfkhaaGreat
open Go Go.RowKit V
set_option linter.unusedVariables false
set_option maxRecDepth 100000
theorem places263 : ∀ w, ((Array.mapM (fun (f : Field) => do pure (f.offset, ← sizeOf f.type)) (Tryz.prog.fieldsOf 263) : Sem (Array (Nat × Nat)))).run Tryz.prog w = .ok [(0, 8)].toArray w := by
  intro w; kernel_rfl
theorem places274 : ∀ w, ((Array.mapM (fun (f : Field) => do pure (f.offset, ← sizeOf f.type)) (Tryz.prog.fieldsOf 274) : Sem (Array (Nat × Nat)))).run Tryz.prog w = .ok [(0, 3)].toArray w := by
  intro w; kernel_rfl
theorem places277 : ∀ w, ((Array.mapM (fun (f : Field) => do pure (f.offset, ← sizeOf f.type)) (Tryz.prog.fieldsOf 277) : Sem (Array (Nat × Nat)))).run Tryz.prog w = .ok [(0, 1), (1, 1)].toArray w := by
  intro w; kernel_rfl
theorem places282 : ∀ w, ((Array.mapM (fun (f : Field) => do pure (f.offset, ← sizeOf f.type)) (Tryz.prog.fieldsOf 282) : Sem (Array (Nat × Nat)))).run Tryz.prog w = .ok [(0, 1), (1, 1), (2, 1), (3, 1), (4, 258), (262, 258), (520, 1)].toArray w := by
  intro w; kernel_rfl
theorem places285 : ∀ w, ((Array.mapM (fun (f : Field) => do pure (f.offset, ← sizeOf f.type)) (Tryz.prog.fieldsOf 285) : Sem (Array (Nat × Nat)))).run Tryz.prog w = .ok [(0, 1)].toArray w := by
  intro w; kernel_rfl
theorem places291 : ∀ w, ((Array.mapM (fun (f : Field) => do pure (f.offset, ← sizeOf f.type)) (Tryz.prog.fieldsOf 291) : Sem (Array (Nat × Nat)))).run Tryz.prog w = .ok [(0, 1)].toArray w := by
  intro w; kernel_rfl
theorem places294 : ∀ w, ((Array.mapM (fun (f : Field) => do pure (f.offset, ← sizeOf f.type)) (Tryz.prog.fieldsOf 294) : Sem (Array (Nat × Nat)))).run Tryz.prog w = .ok [(0, 4)].toArray w := by
  intro w; kernel_rfl
instance : Und Tryz.prog 29 (dOf Tryz.underlying29) := ⟨Tryz.underlying29⟩
instance : Siz Tryz.prog 29 (kOf Tryz.sizeOf29) := ⟨Tryz.sizeOf29⟩
instance : AgF Tryz.prog 29 := ⟨Tryz.isAgg29⟩
instance : Zer Tryz.prog 29 (zOf Tryz.zeroValue29) := ⟨Tryz.zeroValue29⟩
instance : Und Tryz.prog 187 (dOf Tryz.underlying187) := ⟨Tryz.underlying187⟩
instance : Siz Tryz.prog 187 (kOf Tryz.sizeOf187) := ⟨Tryz.sizeOf187⟩
instance : AgT Tryz.prog 187 := ⟨Tryz.isAgg187⟩
instance : Zer Tryz.prog 187 (zOf Tryz.zeroValue187) := ⟨Tryz.zeroValue187⟩
instance : Und Tryz.prog 260 (dOf Tryz.underlying260) := ⟨Tryz.underlying260⟩
instance : Siz Tryz.prog 260 (kOf Tryz.sizeOf260) := ⟨Tryz.sizeOf260⟩
instance : AgF Tryz.prog 260 := ⟨Tryz.isAgg260⟩
instance : Zer Tryz.prog 260 (zOf Tryz.zeroValue260) := ⟨Tryz.zeroValue260⟩
instance : Und Tryz.prog 261 (dOf Tryz.underlying261) := ⟨Tryz.underlying261⟩
instance : Siz Tryz.prog 261 (kOf Tryz.sizeOf261) := ⟨Tryz.sizeOf261⟩
instance : AgT Tryz.prog 261 := ⟨Tryz.isAgg261⟩
instance : Zer Tryz.prog 261 (zOf Tryz.zeroValue261) := ⟨Tryz.zeroValue261⟩
instance : Und Tryz.prog 263 (dOf Tryz.underlying263) := ⟨Tryz.underlying263⟩
instance : Siz Tryz.prog 263 (kOf Tryz.sizeOf263) := ⟨Tryz.sizeOf263⟩
instance : AgT Tryz.prog 263 := ⟨Tryz.isAgg263⟩
instance : Zer Tryz.prog 263 (zOf Tryz.zeroValue263) := ⟨Tryz.zeroValue263⟩
instance : Und Tryz.prog 272 (dOf Tryz.underlying272) := ⟨Tryz.underlying272⟩
instance : Siz Tryz.prog 272 (kOf Tryz.sizeOf272) := ⟨Tryz.sizeOf272⟩
instance : AgT Tryz.prog 272 := ⟨Tryz.isAgg272⟩
instance : Zer Tryz.prog 272 (zOf Tryz.zeroValue272) := ⟨Tryz.zeroValue272⟩
instance : Und Tryz.prog 274 (dOf Tryz.underlying274) := ⟨Tryz.underlying274⟩
instance : Siz Tryz.prog 274 (kOf Tryz.sizeOf274) := ⟨Tryz.sizeOf274⟩
instance : AgT Tryz.prog 274 := ⟨Tryz.isAgg274⟩
instance : Zer Tryz.prog 274 (zOf Tryz.zeroValue274) := ⟨Tryz.zeroValue274⟩
instance : Und Tryz.prog 275 (dOf Tryz.underlying275) := ⟨Tryz.underlying275⟩
instance : Siz Tryz.prog 275 (kOf Tryz.sizeOf275) := ⟨Tryz.sizeOf275⟩
instance : AgF Tryz.prog 275 := ⟨Tryz.isAgg275⟩
instance : Zer Tryz.prog 275 (zOf Tryz.zeroValue275) := ⟨Tryz.zeroValue275⟩
instance : Und Tryz.prog 277 (dOf Tryz.underlying277) := ⟨Tryz.underlying277⟩
instance : Siz Tryz.prog 277 (kOf Tryz.sizeOf277) := ⟨Tryz.sizeOf277⟩
instance : AgT Tryz.prog 277 := ⟨Tryz.isAgg277⟩
instance : Zer Tryz.prog 277 (zOf Tryz.zeroValue277) := ⟨Tryz.zeroValue277⟩
instance : Und Tryz.prog 279 (dOf Tryz.underlying279) := ⟨Tryz.underlying279⟩
instance : Siz Tryz.prog 279 (kOf Tryz.sizeOf279) := ⟨Tryz.sizeOf279⟩
instance : AgT Tryz.prog 279 := ⟨Tryz.isAgg279⟩
instance : Zer Tryz.prog 279 (zOf Tryz.zeroValue279) := ⟨Tryz.zeroValue279⟩
instance : Und Tryz.prog 280 (dOf Tryz.underlying280) := ⟨Tryz.underlying280⟩
instance : Siz Tryz.prog 280 (kOf Tryz.sizeOf280) := ⟨Tryz.sizeOf280⟩
instance : AgF Tryz.prog 280 := ⟨Tryz.isAgg280⟩
instance : Zer Tryz.prog 280 (zOf Tryz.zeroValue280) := ⟨Tryz.zeroValue280⟩
instance : Und Tryz.prog 282 (dOf Tryz.underlying282) := ⟨Tryz.underlying282⟩
instance : Siz Tryz.prog 282 (kOf Tryz.sizeOf282) := ⟨Tryz.sizeOf282⟩
instance : AgT Tryz.prog 282 := ⟨Tryz.isAgg282⟩
instance : Zer Tryz.prog 282 (zOf Tryz.zeroValue282) := ⟨Tryz.zeroValue282⟩
instance : Und Tryz.prog 283 (dOf Tryz.underlying283) := ⟨Tryz.underlying283⟩
instance : Siz Tryz.prog 283 (kOf Tryz.sizeOf283) := ⟨Tryz.sizeOf283⟩
instance : AgF Tryz.prog 283 := ⟨Tryz.isAgg283⟩
instance : Zer Tryz.prog 283 (zOf Tryz.zeroValue283) := ⟨Tryz.zeroValue283⟩
instance : Und Tryz.prog 285 (dOf Tryz.underlying285) := ⟨Tryz.underlying285⟩
instance : Siz Tryz.prog 285 (kOf Tryz.sizeOf285) := ⟨Tryz.sizeOf285⟩
instance : AgT Tryz.prog 285 := ⟨Tryz.isAgg285⟩
instance : Zer Tryz.prog 285 (zOf Tryz.zeroValue285) := ⟨Tryz.zeroValue285⟩
instance : Und Tryz.prog 286 (dOf Tryz.underlying286) := ⟨Tryz.underlying286⟩
instance : Siz Tryz.prog 286 (kOf Tryz.sizeOf286) := ⟨Tryz.sizeOf286⟩
instance : AgT Tryz.prog 286 := ⟨Tryz.isAgg286⟩
instance : Zer Tryz.prog 286 (zOf Tryz.zeroValue286) := ⟨Tryz.zeroValue286⟩
instance : Und Tryz.prog 288 (dOf Tryz.underlying288) := ⟨Tryz.underlying288⟩
instance : Siz Tryz.prog 288 (kOf Tryz.sizeOf288) := ⟨Tryz.sizeOf288⟩
instance : AgT Tryz.prog 288 := ⟨Tryz.isAgg288⟩
instance : Zer Tryz.prog 288 (zOf Tryz.zeroValue288) := ⟨Tryz.zeroValue288⟩
instance : Und Tryz.prog 289 (dOf Tryz.underlying289) := ⟨Tryz.underlying289⟩
instance : Siz Tryz.prog 289 (kOf Tryz.sizeOf289) := ⟨Tryz.sizeOf289⟩
instance : AgF Tryz.prog 289 := ⟨Tryz.isAgg289⟩
instance : Zer Tryz.prog 289 (zOf Tryz.zeroValue289) := ⟨Tryz.zeroValue289⟩
instance : Und Tryz.prog 291 (dOf Tryz.underlying291) := ⟨Tryz.underlying291⟩
instance : Siz Tryz.prog 291 (kOf Tryz.sizeOf291) := ⟨Tryz.sizeOf291⟩
instance : AgT Tryz.prog 291 := ⟨Tryz.isAgg291⟩
instance : Zer Tryz.prog 291 (zOf Tryz.zeroValue291) := ⟨Tryz.zeroValue291⟩
instance : Und Tryz.prog 292 (dOf Tryz.underlying292) := ⟨Tryz.underlying292⟩
instance : Siz Tryz.prog 292 (kOf Tryz.sizeOf292) := ⟨Tryz.sizeOf292⟩
instance : AgT Tryz.prog 292 := ⟨Tryz.isAgg292⟩
instance : Zer Tryz.prog 292 (zOf Tryz.zeroValue292) := ⟨Tryz.zeroValue292⟩
instance : Und Tryz.prog 294 (dOf Tryz.underlying294) := ⟨Tryz.underlying294⟩
instance : Siz Tryz.prog 294 (kOf Tryz.sizeOf294) := ⟨Tryz.sizeOf294⟩
instance : AgT Tryz.prog 294 := ⟨Tryz.isAgg294⟩
instance : Zer Tryz.prog 294 (zOf Tryz.zeroValue294) := ⟨Tryz.zeroValue294⟩
instance : Plc Tryz.prog 263 (fOf Tryz.underlying263) (lOf (P := Tryz.prog) places263) := ⟨places263, Tryz.underlying263⟩
instance : Plc Tryz.prog 274 (fOf Tryz.underlying274) (lOf (P := Tryz.prog) places274) := ⟨places274, Tryz.underlying274⟩
instance : Plc Tryz.prog 277 (fOf Tryz.underlying277) (lOf (P := Tryz.prog) places277) := ⟨places277, Tryz.underlying277⟩
instance : Plc Tryz.prog 282 (fOf Tryz.underlying282) (lOf (P := Tryz.prog) places282) := ⟨places282, Tryz.underlying282⟩
instance : Plc Tryz.prog 285 (fOf Tryz.underlying285) (lOf (P := Tryz.prog) places285) := ⟨places285, Tryz.underlying285⟩
instance : Plc Tryz.prog 291 (fOf Tryz.underlying291) (lOf (P := Tryz.prog) places291) := ⟨places291, Tryz.underlying291⟩
instance : Plc Tryz.prog 294 (fOf Tryz.underlying294) (lOf (P := Tryz.prog) places294) := ⟨places294, Tryz.underlying294⟩
instance : Cal Tryz.prog 138 := ⟨Tryz.call138⟩
instance : Cal Tryz.prog 171 := ⟨Tryz.call171⟩
open V (str byC ownV ownG ownS ownOk)
theorem x_store {a : Addr} {u : Value} {y : Int} {w : World} (hc : w.cell? a = some u) (hz : w.frozen? a = false) : (callFunc 201 #[.pointer (some a), .int .u64 y]).run Tryz.prog w = .ok (.value (.tuple #[])) (w.setCell a (.int .u64 y)) := run_call_store Tryz.func201 (by kernel_rfl) (by kernel_rfl) (by kernel_rfl) (by kernel_rfl) hc hz
theorem aStore_c (b o : Nat) (l : List Value) (T : TypeId) (u : Value) (y : Int) (w : World) (hl : l[o]? = some u) (hs : Sat [[(b, .cells l.toArray T (0, 0))]] w) : Calls Tryz.prog 171 [.pointer (some ⟨b, o, none⟩), .int .u64 y].toArray w fun e w' => ∃ _u : Unit, True ∧ e = .returned (.tuple #[]) ∧ Hp ⟨w, V.ids [[(b, .cells l.toArray T (0, 0))]]⟩ [[(b, .cells (l.set o (.int .u64 y)).toArray T (0, 0))]] w' := by
  refine V.calls [[(b, .cells l.toArray T (0, 0))]] Tryz.func171 rfl Tryz.ntmps171 (Nat.le_of_ble_eq_true rfl) hs <| Rg <| Lv Mv <| Lv Nz <| Lv (Fa 0 39) <| Lv Mv <| Le (Eff.ext (l' := l.set o (.int .u64 y)) rfl .here rfl (fun w hb => x_store (V.cell_of_block hb (by exact hl)) (V.frozen_of hb))) fun _ _ => Nl <| PQ.end0 rfl ?_
  intro w' hw; exact ⟨(), trivial, rfl, hw⟩
theorem rdNew_c (w : World) : Calls Tryz.prog 135 [.int .i64 1].toArray w fun e w' => ∃ a : Nat, True ∧ e = .returned (.tuple #[.pointer (some ⟨a, 0, none⟩), .int .i64 0]) ∧ Below w.heap.size w w' := by
  refine V.calls [] Tryz.func135 rfl Tryz.ntmps135 (Nat.le_of_ble_eq_true rfl) (V.sat_nil _) <| Sq <| Rg <| Lv Av <| Lv Av <| Nl <| Ps <| Sq <| Sq <| Rg <| Lv Mv <| Lv Cm <| Lv Mv <| Lv Mv <| Lv Cm <| Lv Pf <| LW.re 10 (.bool false) rfl (by rfl) <| Nl <| Ps <| Cf <| Sk <| Ps <| Sq <| Rg <| Lv Mv <| Le (Eff.makeSlice (m := 1) (by_ := 8) rfl rfl Tryz.underlying275 (by kernel_rfl) Tryz.sizeOf187 (by exact Tryz.zeroValue187) rfl rfl (by omega) (by omega) (by omega)) fun b12 _ => Lv (Bd [_, _]) <| Le XA fun b14 _ => Lv Av <| Nl <| Ps <| Sq <| Rg <| Lv Mv <| Lv Nz <| Lv (Fa 0 187) <| Le (CM ([[(b14, .cells [.int .u64 0, .slice (some ⟨b12, 0, none⟩) 1 1].toArray 277 (0, 0))]]) fun w hw hs => aStore_c b14 0 [.int .u64 0, .slice (some ⟨b12, 0, none⟩) 1 1] 277 _ 1 w rfl hs) fun _ _ => Nl <| Ps <| Sq <| Rg <| Lv Mv <| Lv Av <| Lv Av <| Nl <| Ps <| Rt <| Rt2 ?_
  intro w' hw; exact ⟨b14, trivial, rfl, hw.below⟩
/-- A durability clock's cells. -/
def clkL (p : Value) : List Value := .int .u64 0 :: .int .u64 0 :: .int .u64 0 :: p :: (List.replicate 516 (.bool false) ++ [.nilFunc])
theorem zero_clk (w : World) : (zeroValue 282).run Tryz.prog w = .ok (.agg (clkL (.slice none 0 0)).toArray) w := (Tryz.zeroValue282 w).trans (by kernel_rfl)
theorem clNew_c (w : World) : Calls Tryz.prog 136 [.int .i64 1, .int .u64 0].toArray w fun e w' => ∃ a : Nat, True ∧ e = .returned (.tuple #[.pointer (some ⟨a, 0, none⟩), .int .i64 0]) ∧ Below w.heap.size w w' := by
  refine V.calls [] Tryz.func136 rfl Tryz.ntmps136 (Nat.le_of_ble_eq_true rfl) (V.sat_nil _) <| Sq <| Rg <| Lv Av <| Lv Av <| Nl <| Ps <| Sq <| Sq <| Rg <| Lv Mv <| Lv Cm <| Lv Mv <| Lv Mv <| Lv Cm <| LW.re 11 (.bool false) rfl (by rfl) <| Lv Pf <| Nl <| Ps <| Cf <| Sk <| Ps <| Sq <| Sq <| Rg <| Lv Mv <| Lv Cm <| LW.re 14 (.bool false) rfl (by rfl) <| Nl <| Ps <| Cf <| Sk <| Ps <| Sq <| Rg <| Lv Mv <| Le (Eff.makeSlice (m := 1) (by_ := 8) rfl rfl Tryz.underlying29 (by kernel_rfl) Tryz.sizeOf3 (by exact Tryz.zeroValue3) rfl rfl (by omega) (by omega) (by omega)) fun b16 _ => Lv (Val.build (clkL (.slice (some ⟨b16, 0, none⟩) 1 1)) zero_clk Tryz.underlying282 places282 rfl (by kernel_rfl)) <| Le XA fun b18 _ => Lv Av <| Nl <| Ps <| Sq <| Rg <| Lv Mv <| Lv Nz <| Lv (Fa 1 187) <| Lv Mv <| Le (CM ([[(b18, .cells (clkL (.slice (some ⟨b16, 0, none⟩) 1 1)).toArray 282 (0, 0))]]) fun w hw hs => aStore_c b18 1 (clkL (.slice (some ⟨b16, 0, none⟩) 1 1)) 282 _ 0 w rfl hs) fun _ _ => Nl <| Ps <| Sq <| Rg <| Lv Mv <| Lv Nz <| Lv (Fa 0 187) <| Lv Mv <| Lv Ar <| Le (CM ([[(b18, .cells ((clkL (.slice (some ⟨b16, 0, none⟩) 1 1)).set 1 (.int .u64 0)).toArray 282 (0, 0))]]) fun w hw hs => aStore_c b18 0 ((clkL (.slice (some ⟨b16, 0, none⟩) 1 1)).set 1 (.int .u64 0)) 282 _ 1 w rfl hs) fun _ _ => Nl <| Ps <| Sq <| Rg <| Lv Mv <| Lv Av <| Lv Av <| Nl <| Ps <| Rt <| Rt2 ?_
  intro w' hw; exact ⟨b18, trivial, rfl, hw.below⟩
theorem plNew_c (w : World) : Calls Tryz.prog 137 [.int .i64 1].toArray w fun e w' => ∃ a : Nat, True ∧ e = .returned (.tuple #[.pointer (some ⟨a, 0, none⟩), .int .i64 0]) ∧ Below w.heap.size w w' := by
  refine V.calls [] Tryz.func137 rfl Tryz.ntmps137 (Nat.le_of_ble_eq_true rfl) (V.sat_nil _) <| Sq <| Rg <| Lv Av <| Lv Av <| Nl <| Ps <| Sq <| Sq <| Rg <| Lv Mv <| Lv Cm <| Lv Mv <| Lv Mv <| Le (CV fun w hw => slabs_c 258 (by omega) w) fun _ _ => Lv Cm <| Lv Pf <| LW.re 12 (.bool false) rfl (by rfl) <| Nl <| Ps <| Cf <| Sk <| Ps <| Sq <| Rg <| Lv Mv <| Le (Eff.makeSlice (m := 1) (by_ := 24) rfl rfl Tryz.underlying283 (by kernel_rfl) Tryz.sizeOf288 (by exact Tryz.zeroValue288) rfl rfl (by omega) (by omega) (by omega)) fun b14 _ => Lv (Bd [_]) <| Le XA fun b16 _ => Lv Av <| Nl <| Ps <| Sq <| Sq <| Rg <| Lv Mv <| Lv Nz <| Lv (Fa 0 283) <| Lv Ld <| Lv Ln <| Lv Mv <| Nl <| Ps <| Bk <| CW.loopU 1 <| Sq <| Rg <| Lv Cm <| Nl <| Ps <| Sq <| Ct <| Sk <| Ps <| Sq <| Bk <| Sq <| Rg <| Lv Mv <| Lv Av <| Nl <| Ps <| Rg <| Lv Mv <| Lv Nz <| Lv (Fa 0 283) <| Lv Ld <| Lv Mv <| Lv (Val.indexAddrN (i := 0) rfl rfl Tryz.underlying283 Tryz.sizeOf288 (by decide)) <| Lv (Fa 0 3) <| LeN StS fun _ _ => Nl <| Bn <| Ps <| Rg <| Lv Ar <| Lv Mv <| Nl <| PQ.next <| Sq <| Rg <| Lv Cm <| Nl <| Ps <| Sq <| Cf <| Xt <| Te <| Te <| Bh <| Ps <| Sq <| Rg <| Lv Mv <| Lv Av <| Lv Av <| Nl <| Ps <| Rt <| Rt2 ?_
  intro w' hw; exact ⟨b16, trivial, rfl, hw.below⟩
theorem lbNew_c (w : World) : Calls Tryz.prog 139 [].toArray w fun e w' => ∃ a : Nat, True ∧ e = .returned (.pointer (some ⟨a, 0, none⟩)) ∧ Below w.heap.size w w' := by
  refine V.calls [] Tryz.func139 rfl Tryz.ntmps139 (Nat.le_of_ble_eq_true rfl) (V.sat_nil _) <| Sq <| Rg <| Lv Av <| Nl <| Ps <| Sq <| Rg <| Lv (Bd [_]) <| Le XA fun b2 _ => Lv Av <| Nl <| Ps <| Rt <| Rt1 ?_
  intro w' hw; exact ⟨b2, trivial, rfl, hw.below⟩
theorem orNew_c (w : World) : Calls Tryz.prog 141 [].toArray w fun e w' => ∃ a : Nat, True ∧ e = .returned (.pointer (some ⟨a, 0, none⟩)) ∧ Below w.heap.size w w' := by
  refine V.calls [] Tryz.func141 rfl Tryz.ntmps141 (Nat.le_of_ble_eq_true rfl) (V.sat_nil _) <| Sq <| Rg <| Lv Av <| Nl <| Ps <| Sq <| Rg <| Lv (Bd [_, _, _, _]) <| Le XA fun b2 _ => Lv Av <| Nl <| Ps <| Rt <| Rt1 ?_
  intro w' hw; exact ⟨b2, trivial, rfl, hw.below⟩
theorem ffNew_c (w : World) : Calls Tryz.prog 142 [].toArray w fun e w' => ∃ a : Nat, True ∧ e = .returned (.pointer (some ⟨a, 0, none⟩)) ∧ Below w.heap.size w w' := by
  refine V.calls [] Tryz.func142 rfl Tryz.ntmps142 (Nat.le_of_ble_eq_true rfl) (V.sat_nil _) <| Sq <| Rg <| Lv Av <| Nl <| Ps <| Sq <| Rg <| Lv (Bd [_, _, _]) <| Le XA fun b2 _ => Lv Av <| Nl <| Ps <| Rt <| Rt1 ?_
  intro w' hw; exact ⟨b2, trivial, rfl, hw.below⟩
theorem tbNew_c (w : World) : Calls Tryz.prog 140 [].toArray w fun e w' => ∃ a : Nat, True ∧ e = .returned (.pointer (some ⟨a, 0, none⟩)) ∧ Below w.heap.size w w' := by
  refine V.calls [] Tryz.func140 rfl Tryz.ntmps140 (Nat.le_of_ble_eq_true rfl) (V.sat_nil _) <| Sq <| Rg <| Lv Av <| Nl <| Ps <| Sq <| Rg <| Lv (Bd [_, _, _, _, _, _, _, _]) <| Le XA fun b4 _ => Lv Av <| Nl <| Ps <| Sq <| Sq <| Rg <| Lv Mv <| Nl <| Ps <| Bk <| CW.loopU 8 <| Sq <| Rg <| Lv Cm <| Nl <| Ps <| Sq <| Ct <| Sk <| Ps <| Sq <| Bk <| Sq <| Rg <| Lv Mv <| Lv Av <| Nl <| Ps <| Rg <| Lv Mv <| Lv Mv <| Le (Eff.makeMap) fun b10 _ => Lv Nz <| Lv (Fa 0 261) <| Lv (Val.indexAddrA (i := 0) rfl rfl Tryz.underlying261 Tryz.sizeOf260 (by decide)) <| LeN StS fun _ _ => Nl <| Bn <| Ps <| Rg <| Lv Ar <| Lv Mv <| Nl <| PQ.next <| Sq <| Rg <| Lv Cm <| Nl <| Ps <| Sq <| Ct <| Sk <| Ps <| Sq <| Bk <| Sq <| Rg <| Lv Mv <| Lv Av <| Nl <| Ps <| Rg <| Lv Mv <| Lv Mv <| Le (Eff.makeMap) fun b10 _ => Lv Nz <| Lv (Fa 0 261) <| Lv (Val.indexAddrA (i := 1) rfl rfl Tryz.underlying261 Tryz.sizeOf260 (by decide)) <| LeN StS fun _ _ => Nl <| Bn <| Ps <| Rg <| Lv Ar <| Lv Mv <| Nl <| PQ.next <| Sq <| Rg <| Lv Cm <| Nl <| Ps <| Sq <| Ct <| Sk <| Ps <| Sq <| Bk <| Sq <| Rg <| Lv Mv <| Lv Av <| Nl <| Ps <| Rg <| Lv Mv <| Lv Mv <| Le (Eff.makeMap) fun b10 _ => Lv Nz <| Lv (Fa 0 261) <| Lv (Val.indexAddrA (i := 2) rfl rfl Tryz.underlying261 Tryz.sizeOf260 (by decide)) <| LeN StS fun _ _ => Nl <| Bn <| Ps <| Rg <| Lv Ar <| Lv Mv <| Nl <| PQ.next <| Sq <| Rg <| Lv Cm <| Nl <| Ps <| Sq <| Ct <| Sk <| Ps <| Sq <| Bk <| Sq <| Rg <| Lv Mv <| Lv Av <| Nl <| Ps <| Rg <| Lv Mv <| Lv Mv <| Le (Eff.makeMap) fun b10 _ => Lv Nz <| Lv (Fa 0 261) <| Lv (Val.indexAddrA (i := 3) rfl rfl Tryz.underlying261 Tryz.sizeOf260 (by decide)) <| LeN StS fun _ _ => Nl <| Bn <| Ps <| Rg <| Lv Ar <| Lv Mv <| Nl <| PQ.next <| Sq <| Rg <| Lv Cm <| Nl <| Ps <| Sq <| Ct <| Sk <| Ps <| Sq <| Bk <| Sq <| Rg <| Lv Mv <| Lv Av <| Nl <| Ps <| Rg <| Lv Mv <| Lv Mv <| Le (Eff.makeMap) fun b10 _ => Lv Nz <| Lv (Fa 0 261) <| Lv (Val.indexAddrA (i := 4) rfl rfl Tryz.underlying261 Tryz.sizeOf260 (by decide)) <| LeN StS fun _ _ => Nl <| Bn <| Ps <| Rg <| Lv Ar <| Lv Mv <| Nl <| PQ.next <| Sq <| Rg <| Lv Cm <| Nl <| Ps <| Sq <| Ct <| Sk <| Ps <| Sq <| Bk <| Sq <| Rg <| Lv Mv <| Lv Av <| Nl <| Ps <| Rg <| Lv Mv <| Lv Mv <| Le (Eff.makeMap) fun b10 _ => Lv Nz <| Lv (Fa 0 261) <| Lv (Val.indexAddrA (i := 5) rfl rfl Tryz.underlying261 Tryz.sizeOf260 (by decide)) <| LeN StS fun _ _ => Nl <| Bn <| Ps <| Rg <| Lv Ar <| Lv Mv <| Nl <| PQ.next <| Sq <| Rg <| Lv Cm <| Nl <| Ps <| Sq <| Ct <| Sk <| Ps <| Sq <| Bk <| Sq <| Rg <| Lv Mv <| Lv Av <| Nl <| Ps <| Rg <| Lv Mv <| Lv Mv <| Le (Eff.makeMap) ?_
  intro b10 _
  refine Lv Nz <| Lv (Fa 0 261) <| Lv (Val.indexAddrA (i := 6) rfl rfl Tryz.underlying261 Tryz.sizeOf260 (by decide)) <| LeN StS fun _ _ => Nl <| Bn <| Ps <| Rg <| Lv Ar <| Lv Mv <| Nl <| PQ.next <| Sq <| Rg <| Lv Cm <| Nl <| Ps <| Sq <| Ct <| Sk <| Ps <| Sq <| Bk <| Sq <| Rg <| Lv Mv <| Lv Av <| Nl <| Ps <| Rg <| Lv Mv <| Lv Mv <| Le (Eff.makeMap) fun b10 _ => Lv Nz <| Lv (Fa 0 261) <| Lv (Val.indexAddrA (i := 7) rfl rfl Tryz.underlying261 Tryz.sizeOf260 (by decide)) <| LeN StS fun _ _ => Nl <| Bn <| Ps <| Rg <| Lv Ar <| Lv Mv <| Nl <| PQ.next <| Sq <| Rg <| Lv Cm <| Nl <| Ps <| Sq <| Cf <| Xt <| Te <| Te <| Bh <| Ps <| Sq <| Rg <| Lv Mv <| Lv Av <| Nl <| Ps <| Rt <| Rt1 ?_
  intro w' hw; exact ⟨b4, trivial, rfl, hw.below⟩
end Go.Proofs.YtlpbjmbgopfkhaaGreat

/- An arena is made over a device without blocks. -/
namespace Go.Proofs.YtlpbjmbgopfkhaaGreat
open Go Go.RowKit V
set_option linter.unusedVariables false
set_option maxRecDepth 100000
theorem places125 : ∀ w, ((Array.mapM (fun (f : Field) => do pure (f.offset, ← sizeOf f.type)) (Tryz.prog.fieldsOf 125) : Sem (Array (Nat × Nat)))).run Tryz.prog w = .ok [(0, 1), (1, 1), (2, 1), (3, 1), (4, 1)].toArray w := by
  intro w; kernel_rfl
theorem places189 : ∀ w, ((Array.mapM (fun (f : Field) => do pure (f.offset, ← sizeOf f.type)) (Tryz.prog.fieldsOf 189) : Sem (Array (Nat × Nat)))).run Tryz.prog w = .ok [(0, 1), (1, 1), (2, 1), (3, 1), (4, 1), (5, 1), (6, 1), (7, 1), (8, 1), (9, 1), (10, 1)].toArray w := by
  intro w; kernel_rfl
theorem places201 : ∀ w, ((Array.mapM (fun (f : Field) => do pure (f.offset, ← sizeOf f.type)) (Tryz.prog.fieldsOf 201) : Sem (Array (Nat × Nat)))).run Tryz.prog w = .ok [(0, 1), (1, 3)].toArray w := by
  intro w; kernel_rfl
instance : Und Tryz.prog 9 (dOf Tryz.underlying9) := ⟨Tryz.underlying9⟩
instance : Siz Tryz.prog 9 (kOf Tryz.sizeOf9) := ⟨Tryz.sizeOf9⟩
instance : AgF Tryz.prog 9 := ⟨Tryz.isAgg9⟩
instance : Zer Tryz.prog 9 (zOf Tryz.zeroValue9) := ⟨Tryz.zeroValue9⟩
instance : Und Tryz.prog 125 (dOf Tryz.underlying125) := ⟨Tryz.underlying125⟩
instance : Siz Tryz.prog 125 (kOf Tryz.sizeOf125) := ⟨Tryz.sizeOf125⟩
instance : AgT Tryz.prog 125 := ⟨Tryz.isAgg125⟩
instance : Zer Tryz.prog 125 (zOf Tryz.zeroValue125) := ⟨Tryz.zeroValue125⟩
instance : Und Tryz.prog 132 (dOf Tryz.underlying132) := ⟨Tryz.underlying132⟩
instance : Siz Tryz.prog 132 (kOf Tryz.sizeOf132) := ⟨Tryz.sizeOf132⟩
instance : AgF Tryz.prog 132 := ⟨Tryz.isAgg132⟩
instance : Zer Tryz.prog 132 (zOf Tryz.zeroValue132) := ⟨Tryz.zeroValue132⟩
instance : Und Tryz.prog 178 (dOf Tryz.underlying178) := ⟨Tryz.underlying178⟩
instance : Siz Tryz.prog 178 (kOf Tryz.sizeOf178) := ⟨Tryz.sizeOf178⟩
instance : AgF Tryz.prog 178 := ⟨Tryz.isAgg178⟩
instance : Zer Tryz.prog 178 (zOf Tryz.zeroValue178) := ⟨Tryz.zeroValue178⟩
instance : Und Tryz.prog 179 (dOf Tryz.underlying179) := ⟨Tryz.underlying179⟩
instance : Siz Tryz.prog 179 (kOf Tryz.sizeOf179) := ⟨Tryz.sizeOf179⟩
instance : AgF Tryz.prog 179 := ⟨Tryz.isAgg179⟩
instance : Zer Tryz.prog 179 (zOf Tryz.zeroValue179) := ⟨Tryz.zeroValue179⟩
instance : Und Tryz.prog 180 (dOf Tryz.underlying180) := ⟨Tryz.underlying180⟩
instance : Siz Tryz.prog 180 (kOf Tryz.sizeOf180) := ⟨Tryz.sizeOf180⟩
instance : AgF Tryz.prog 180 := ⟨Tryz.isAgg180⟩
instance : Zer Tryz.prog 180 (zOf Tryz.zeroValue180) := ⟨Tryz.zeroValue180⟩
instance : Und Tryz.prog 181 (dOf Tryz.underlying181) := ⟨Tryz.underlying181⟩
instance : Siz Tryz.prog 181 (kOf Tryz.sizeOf181) := ⟨Tryz.sizeOf181⟩
instance : AgF Tryz.prog 181 := ⟨Tryz.isAgg181⟩
instance : Zer Tryz.prog 181 (zOf Tryz.zeroValue181) := ⟨Tryz.zeroValue181⟩
instance : Und Tryz.prog 182 (dOf Tryz.underlying182) := ⟨Tryz.underlying182⟩
instance : Siz Tryz.prog 182 (kOf Tryz.sizeOf182) := ⟨Tryz.sizeOf182⟩
instance : AgF Tryz.prog 182 := ⟨Tryz.isAgg182⟩
instance : Zer Tryz.prog 182 (zOf Tryz.zeroValue182) := ⟨Tryz.zeroValue182⟩
instance : Und Tryz.prog 183 (dOf Tryz.underlying183) := ⟨Tryz.underlying183⟩
instance : Siz Tryz.prog 183 (kOf Tryz.sizeOf183) := ⟨Tryz.sizeOf183⟩
instance : AgF Tryz.prog 183 := ⟨Tryz.isAgg183⟩
instance : Zer Tryz.prog 183 (zOf Tryz.zeroValue183) := ⟨Tryz.zeroValue183⟩
instance : Und Tryz.prog 184 (dOf Tryz.underlying184) := ⟨Tryz.underlying184⟩
instance : Siz Tryz.prog 184 (kOf Tryz.sizeOf184) := ⟨Tryz.sizeOf184⟩
instance : AgF Tryz.prog 184 := ⟨Tryz.isAgg184⟩
instance : Zer Tryz.prog 184 (zOf Tryz.zeroValue184) := ⟨Tryz.zeroValue184⟩
instance : Und Tryz.prog 185 (dOf Tryz.underlying185) := ⟨Tryz.underlying185⟩
instance : Siz Tryz.prog 185 (kOf Tryz.sizeOf185) := ⟨Tryz.sizeOf185⟩
instance : AgF Tryz.prog 185 := ⟨Tryz.isAgg185⟩
instance : Zer Tryz.prog 185 (zOf Tryz.zeroValue185) := ⟨Tryz.zeroValue185⟩
instance : Und Tryz.prog 189 (dOf Tryz.underlying189) := ⟨Tryz.underlying189⟩
instance : Siz Tryz.prog 189 (kOf Tryz.sizeOf189) := ⟨Tryz.sizeOf189⟩
instance : AgT Tryz.prog 189 := ⟨Tryz.isAgg189⟩
instance : Zer Tryz.prog 189 (zOf Tryz.zeroValue189) := ⟨Tryz.zeroValue189⟩
instance : Und Tryz.prog 199 (dOf Tryz.underlying199) := ⟨Tryz.underlying199⟩
instance : Siz Tryz.prog 199 (kOf Tryz.sizeOf199) := ⟨Tryz.sizeOf199⟩
instance : AgT Tryz.prog 199 := ⟨Tryz.isAgg199⟩
instance : Zer Tryz.prog 199 (zOf Tryz.zeroValue199) := ⟨Tryz.zeroValue199⟩
instance : Und Tryz.prog 201 (dOf Tryz.underlying201) := ⟨Tryz.underlying201⟩
instance : Siz Tryz.prog 201 (kOf Tryz.sizeOf201) := ⟨Tryz.sizeOf201⟩
instance : AgT Tryz.prog 201 := ⟨Tryz.isAgg201⟩
instance : Zer Tryz.prog 201 (zOf Tryz.zeroValue201) := ⟨Tryz.zeroValue201⟩
instance : Und Tryz.prog 211 (dOf Tryz.underlying211) := ⟨Tryz.underlying211⟩
instance : Siz Tryz.prog 211 (kOf Tryz.sizeOf211) := ⟨Tryz.sizeOf211⟩
instance : AgF Tryz.prog 211 := ⟨Tryz.isAgg211⟩
instance : Zer Tryz.prog 211 (zOf Tryz.zeroValue211) := ⟨Tryz.zeroValue211⟩
instance : Und Tryz.prog 267 (dOf Tryz.underlying267) := ⟨Tryz.underlying267⟩
instance : Siz Tryz.prog 267 (kOf Tryz.sizeOf267) := ⟨Tryz.sizeOf267⟩
instance : AgT Tryz.prog 267 := ⟨Tryz.isAgg267⟩
instance : Zer Tryz.prog 267 (zOf Tryz.zeroValue267) := ⟨Tryz.zeroValue267⟩
instance : Und Tryz.prog 313 (dOf Tryz.underlying313) := ⟨Tryz.underlying313⟩
instance : Siz Tryz.prog 313 (kOf Tryz.sizeOf313) := ⟨Tryz.sizeOf313⟩
instance : AgF Tryz.prog 313 := ⟨Tryz.isAgg313⟩
instance : Zer Tryz.prog 313 (zOf Tryz.zeroValue313) := ⟨Tryz.zeroValue313⟩
instance : Und Tryz.prog 396 (dOf Tryz.underlying396) := ⟨Tryz.underlying396⟩
instance : Siz Tryz.prog 396 (kOf Tryz.sizeOf396) := ⟨Tryz.sizeOf396⟩
instance : AgT Tryz.prog 396 := ⟨Tryz.isAgg396⟩
instance : Zer Tryz.prog 396 (zOf Tryz.zeroValue396) := ⟨Tryz.zeroValue396⟩
instance : Plc Tryz.prog 125 (fOf Tryz.underlying125) (lOf (P := Tryz.prog) places125) := ⟨places125, Tryz.underlying125⟩
instance : Plc Tryz.prog 189 (fOf Tryz.underlying189) (lOf (P := Tryz.prog) places189) := ⟨places189, Tryz.underlying189⟩
instance : Plc Tryz.prog 201 (fOf Tryz.underlying201) (lOf (P := Tryz.prog) places201) := ⟨places201, Tryz.underlying201⟩
instance : Cal Tryz.prog 110 := ⟨Tryz.call110⟩
instance : Cal Tryz.prog 135 := ⟨Tryz.call135⟩
instance : Cal Tryz.prog 136 := ⟨Tryz.call136⟩
instance : Cal Tryz.prog 137 := ⟨Tryz.call137⟩
instance : Cal Tryz.prog 139 := ⟨Tryz.call139⟩
instance : Cal Tryz.prog 140 := ⟨Tryz.call140⟩
instance : Cal Tryz.prog 141 := ⟨Tryz.call141⟩
instance : Cal Tryz.prog 142 := ⟨Tryz.call142⟩
instance : Cal Tryz.prog 230 := ⟨Tryz.call230⟩
instance : Cal Tryz.prog 240 := ⟨Tryz.call240⟩
instance : Cal Tryz.prog 274 := ⟨Tryz.call274⟩
instance : Cal Tryz.prog 348 := ⟨Tryz.call348⟩
instance : Cal Tryz.prog 349 := ⟨Tryz.call349⟩
instance : Cal Tryz.prog 350 := ⟨Tryz.call350⟩
instance : Cal Tryz.prog 351 := ⟨Tryz.call351⟩
instance : Cal Tryz.prog 353 := ⟨Tryz.call353⟩
instance : Cal Tryz.prog 395 := ⟨Tryz.call395⟩
instance : Cal Tryz.prog 422 := ⟨Tryz.call422⟩
open V (str byC ownV ownG ownS ownOk)
theorem made_c (db cb : Nat) (D : List Ce) (k : Cnt) (hL : D.length = 10) (w : World) (hs : Sat (devS db cb D k) w) : Calls Tryz.prog 110 [.pointer (some ⟨db, 0, none⟩), .int .i64 1, .int .u64 0].toArray w fun e w' => ∃ a : Nat, True ∧ e = .returned (.tuple #[.pointer (some ⟨a, 0, none⟩), .int .i64 0]) ∧ Below w.heap.size w w' := by
  refine V.calls (devS db cb D k) Tryz.func110 rfl Tryz.ntmps110 (Nat.le_of_ble_eq_true rfl) hs <| Sq <| Rg <| Lv Av <| Lv Av <| Nl <| Ps <| Sq <| Rg <| Lv Mv <| Le (CR fun w hw => rdNew_c w) fun a1 _ => Lv Mv <| Lv Ex <| Lv Ex <| Lv Av <| Lv Av <| Nl <| Ps <| Sq <| Sq <| Rg <| Lv Mv <| Lv Cm <| Lv Mv <| Lv Mv <| Le (CV fun w hw => lines_c db cb D k w hw.at) fun _ _ => LW.re 22 (.int .i64 10) rfl (by rw [hL]; rfl) <| Lv Cm <| Lv Pf <| LW.re 24 (.bool false) rfl (by rfl) <| Nl <| Ps <| Cf <| Sk <| Ps <| Sq <| Rg <| Lv Mv <| Lv Mv <| Le (CR fun w hw => clNew_c w) fun a2 _ => Lv Mv <| Lv Ex <| Lv Ex <| Lv Av <| Lv Av <| Nl <| Ps <| Sq <| Sq <| Rg <| Lv Mv <| Lv Cm <| Nl <| Ps <| Cf <| Sk <| Ps <| Sq <| Rg <| Lv Mv <| Le (CV fun w hw => lines_c db cb D k w hw.at) fun _ _ => LW.re 36 (.int .i64 10) rfl (by rw [hL]; rfl) <| Le (CV fun w hw => slabs_c 10 (by omega) w) fun _ _ => LW.re 37 (.int .i64 1) rfl (by rfl) <| Le (CR fun w hw => plNew_c w) fun a3 _ => Lv Mv <| Lv Ex <| Lv Ex <| Lv Av <| Lv Av <| Nl <| Ps <| Sq <| Rg <| Lv Mv <| Lv (Bd [_, _, _, _]) <| Le XA fun b43 _ => Lv Mv <| Lv Mv <| Lv Mv <| Le (CR fun w hw => lbNew_c w) fun a4 _ => Le (CR fun w hw => tbNew_c w) fun a5 _ => Le (CR fun w hw => orNew_c w) fun a6 _ => Le (CR fun w hw => ffNew_c w) fun a7 _ => Lv (Bd [_, _, _, _, _, _, _, _, _, _, _]) <| Le XA fun b52 _ => Lv Av <| Lv Av <| Nl <| Ps <| Rt <| Rt2 ?_
  intro w' hw; exact ⟨b52, trivial, rfl, hw.ro (by repeat (first | exact .nil | apply Pick.cons | exact .here | apply Ext.there)) hs⟩
theorem ins_c (v : Value) (w : World) : Calls Tryz.prog 230 [.slice none 0 0, .int .i64 0, .int .i64 0, v].toArray w fun e w' => e = .returned (.tuple #[]) ∧ Below w.heap.size w w' := by
  refine V.calls [] Tryz.func230 rfl Tryz.ntmps230 (Nat.le_of_ble_eq_true rfl) (V.sat_nil _) <| Sq <| Rg <| Lv Mv <| Lv Ar <| Lv Av <| Nl <| Ps <| Bk <| CW.loopU 0 <| Sq <| Sq <| Rg <| Lv Mv <| Lv Mv <| Lv Cm <| Nl <| Ps <| Cf <| Xt <| Te <| Te <| Bh <| PQ.end0 rfl ?_
  intro w' hw; exact ⟨rfl, hw.below⟩
theorem stab_c (v : Value) (w : World) : Calls Tryz.prog 395 [.slice none 0 0, .int .i64 0, v].toArray w fun e w' => e = .returned (.tuple #[]) ∧ Below w.heap.size w w' := by
  refine V.calls [] Tryz.func395 rfl Tryz.ntmps395 (Nat.le_of_ble_eq_true rfl) (V.sat_nil _) <| Sq <| Rg <| Lv Av <| Nl <| Ps <| Sq <| Rg <| Lv Mv <| Lv Av <| Lv Av <| Nl <| Ps <| Sq <| Bk <| CW.loopU 0 <| Sq <| Sq <| Rg <| Lv Mv <| Lv Mv <| Lv Cm <| Nl <| Ps <| Cf <| Xt <| Te <| Te <| Bh <| Ps <| Sq <| Rg <| Lv Mv <| Lv Mv <| Lv Mv <| Lv Mv <| Le (CV fun w hw => ins_c v w) fun _ _ => Nl <| Ps <| Bk <| CW.loopU 0 <| Sq <| Sq <| Rg <| Lv Mv <| Lv Mv <| Lv Cm <| Nl <| Ps <| Cf <| Xt <| Te <| Te <| Bh <| PQ.end0 rfl ?_
  intro w' hw; exact ⟨rfl, hw.below⟩
theorem sort_c (v : Value) (w : World) : Calls Tryz.prog 351 [.slice none 0 0, v].toArray w fun e w' => e = .returned (.tuple #[]) ∧ Below w.heap.size w w' := by
  refine V.calls [] Tryz.func351 rfl Tryz.ntmps351 (Nat.le_of_ble_eq_true rfl) (V.sat_nil _) <| Rg <| Lv Mv <| Lv Mv <| Lv Ln <| Lv Mv <| Le (CV fun w hw => stab_c v w) fun _ _ => Nl <| PQ.end0 rfl ?_
  intro w' hw; exact ⟨rfl, hw.below⟩
theorem over_c (db cb : Nat) (D : List Ce) (k : Cnt) (hL : D.length = 10) (w : World) (hs : Sat (devS db cb D k) w) : Calls Tryz.prog 284 [.pointer (some ⟨db, 0, none⟩), .int .i64 1, .int .u64 0, .slice none 0 0].toArray w fun e w' => ∃ a : Nat, True ∧ e = .returned (.tuple #[.pointer (some ⟨a, 0, none⟩), .int .i64 0]) ∧ Below w.heap.size w w' := by
  refine V.calls (devS db cb D k) Tryz.func284 rfl Tryz.ntmps284 (Nat.le_of_ble_eq_true rfl) hs <| Sq <| Rg <| Lv Av <| Lv Av <| Nl <| Ps <| Sq <| Sq <| Rg <| Lv Mv <| Lv EP <| Nl <| Ps <| Cf <| Sk <| Ps <| Sq <| Rg <| Lv Mv <| Lv Mv <| Lv Mv <| Le (CR fun w hw => made_c db cb D k hL w hw.pk.sat) fun a1 _ => Lv Mv <| Lv Ex <| Lv Ex <| Lv Av <| Lv Av <| Nl <| Ps <| Sq <| Sq <| Rg <| Lv Mv <| Lv Cm <| Nl <| Ps <| Cf <| Sk <| Ps <| Sq <| Sq <| Rg <| Lv Mv <| Lv Ln <| Lv Mv <| Nl <| Ps <| Bk <| CW.loopU 0 <| Sq <| Rg <| Lv Cm <| Nl <| Ps <| Sq <| Cf <| Xt <| Te <| Te <| Bh <| Ps <| Sq <| Rg <| Lv Av <| Nl <| Ps <| Sq <| Sq <| Rg <| Lv Mv <| Lv Ln <| Lv Mv <| Nl <| Ps <| Bk <| CW.loopU 0 <| Sq <| Rg <| Lv Cm <| Nl <| Ps <| Sq <| Cf <| Xt <| Te <| Te <| Bh <| Ps <| Sq <| Rg <| Lv Mv <| Le (CV fun w hw => sort_c _ w) fun _ _ => Nl <| Ps <| Sq <| Sq <| Rg <| Lv Mv <| Lv Ln <| Lv Mv <| Nl <| Ps <| Bk <| CW.loopU 0 <| Sq <| Rg <| Lv Cm <| Nl <| Ps <| Sq <| Cf <| Xt <| Te <| Te <| Bh <| Ps <| Sq <| Rg <| Lv Mv <| Lv Av <| Lv Av <| Nl <| Ps <| Rt <| Rt2 ?_
  intro w' hw; exact ⟨a1, trivial, rfl, hw.ro (by repeat (first | exact .nil | apply Pick.cons | exact .here | apply Ext.there)) hs⟩
end Go.Proofs.YtlpbjmbgopfkhaaGreat

/- Once: a flag, a lock, calls that are deferred. -/
namespace Go.Proofs.YtlpbjmbgopfkhaaGreat
open Go Go.RowKit V
set_option linter.unusedVariables false
set_option maxRecDepth 100000
instance : Und Tryz.prog 21 (dOf Tryz.underlying21) := ⟨Tryz.underlying21⟩
instance : Siz Tryz.prog 21 (kOf Tryz.sizeOf21) := ⟨Tryz.sizeOf21⟩
instance : AgF Tryz.prog 21 := ⟨Tryz.isAgg21⟩
instance : Zer Tryz.prog 21 (zOf Tryz.zeroValue21) := ⟨Tryz.zeroValue21⟩
instance : Und Tryz.prog 190 (dOf Tryz.underlying190) := ⟨Tryz.underlying190⟩
instance : Siz Tryz.prog 190 (kOf Tryz.sizeOf190) := ⟨Tryz.sizeOf190⟩
instance : AgT Tryz.prog 190 := ⟨Tryz.isAgg190⟩
instance : Zer Tryz.prog 190 (zOf Tryz.zeroValue190) := ⟨Tryz.zeroValue190⟩
instance : Und Tryz.prog 193 (dOf Tryz.underlying193) := ⟨Tryz.underlying193⟩
instance : Siz Tryz.prog 193 (kOf Tryz.sizeOf193) := ⟨Tryz.sizeOf193⟩
instance : AgT Tryz.prog 193 := ⟨Tryz.isAgg193⟩
instance : Zer Tryz.prog 193 (zOf Tryz.zeroValue193) := ⟨Tryz.zeroValue193⟩
instance : Und Tryz.prog 195 (dOf Tryz.underlying195) := ⟨Tryz.underlying195⟩
instance : Siz Tryz.prog 195 (kOf Tryz.sizeOf195) := ⟨Tryz.sizeOf195⟩
instance : AgT Tryz.prog 195 := ⟨Tryz.isAgg195⟩
instance : Zer Tryz.prog 195 (zOf Tryz.zeroValue195) := ⟨Tryz.zeroValue195⟩
instance : Und Tryz.prog 197 (dOf Tryz.underlying197) := ⟨Tryz.underlying197⟩
instance : Siz Tryz.prog 197 (kOf Tryz.sizeOf197) := ⟨Tryz.sizeOf197⟩
instance : AgT Tryz.prog 197 := ⟨Tryz.isAgg197⟩
instance : Zer Tryz.prog 197 (zOf Tryz.zeroValue197) := ⟨Tryz.zeroValue197⟩
instance : Und Tryz.prog 408 (dOf Tryz.underlying408) := ⟨Tryz.underlying408⟩
instance : Siz Tryz.prog 408 (kOf Tryz.sizeOf408) := ⟨Tryz.sizeOf408⟩
instance : AgF Tryz.prog 408 := ⟨Tryz.isAgg408⟩
instance : Zer Tryz.prog 408 (zOf Tryz.zeroValue408) := ⟨Tryz.zeroValue408⟩
instance : Und Tryz.prog 412 (dOf Tryz.underlying412) := ⟨Tryz.underlying412⟩
instance : Siz Tryz.prog 412 (kOf Tryz.sizeOf412) := ⟨Tryz.sizeOf412⟩
instance : AgF Tryz.prog 412 := ⟨Tryz.isAgg412⟩
instance : Zer Tryz.prog 412 (zOf Tryz.zeroValue412) := ⟨Tryz.zeroValue412⟩
instance : Cal Tryz.prog 243 := ⟨Tryz.call243⟩
instance : Cal Tryz.prog 244 := ⟨Tryz.call244⟩
instance : Cal Tryz.prog 246 := ⟨Tryz.call246⟩
instance : Cal Tryz.prog 301 := ⟨Tryz.call301⟩
instance : Cal Tryz.prog 304 := ⟨Tryz.call304⟩
open V (str byC ownV ownG ownS ownOk)
theorem x_dis (w : World) : (callFunc 297 #[]).run Tryz.prog w = .ok (.value (.tuple #[])) w := run_call_mark0 Tryz.func297 (by kernel_rfl) (by kernel_rfl) (by kernel_rfl) .disable (by kernel_rfl) w
theorem x_en (w : World) : (callFunc 299 #[]).run Tryz.prog w = .ok (.value (.tuple #[])) w := run_call_mark0 Tryz.func299 (by kernel_rfl) (by kernel_rfl) (by kernel_rfl) .enable (by kernel_rfl) w
theorem x_acq (a : Addr) (w : World) : (callFunc 300 #[.pointer (some a)]).run Tryz.prog w = .ok (.value (.tuple #[])) w := run_call_marked Tryz.func300 (by kernel_rfl) (by kernel_rfl) (by kernel_rfl) .acquire (by kernel_rfl) a w
theorem x_rel (a : Addr) (w : World) : (callFunc 302 #[.pointer (some a)]).run Tryz.prog w = .ok (.value (.tuple #[])) w := run_call_marked Tryz.func302 (by kernel_rfl) (by kernel_rfl) (by kernel_rfl) .releaseMerge (by kernel_rfl) a w
theorem x_cas {a : Addr} {w : World} (hc : w.cell? a = some (.int .i32 0)) (hz : w.frozen? a = false) : (callFunc 298 #[.pointer (some a), .int .i32 0, .int .i32 1]).run Tryz.prog w = .ok (.value (.bool true)) (w.setCell a (.int .i32 1)) := run_call_cas_hit Tryz.func298 (by kernel_rfl) (by kernel_rfl) (by kernel_rfl) .i32 (by kernel_rfl) hc hz
theorem x_add32 {a : Addr} {w : World} (hc : w.cell? a = some (.int .i32 1)) (hz : w.frozen? a = false) : (callFunc 303 #[.pointer (some a), .int .i32 (-1)]).run Tryz.prog w = .ok (.value (.int .i32 0)) (w.setCell a (.int .i32 0)) := run_call_add Tryz.func303 (by kernel_rfl) (by kernel_rfl) (by kernel_rfl) .i32 (by kernel_rfl) (y := -1) (s := 0) hc hz (by simp [go_sem]; rfl)
theorem x_load32 {a : Addr} {x : Int} {w : World} (hc : w.cell? a = some (.int .u32 x)) : (callFunc 202 #[.pointer (some a)]).run Tryz.prog w = .ok (.value (.int .u32 x)) w := run_call_load Tryz.func202 (by kernel_rfl) (by kernel_rfl) (by kernel_rfl) .u32 (by kernel_rfl) hc
theorem x_store32 {a : Addr} {u : Value} {w : World} (hc : w.cell? a = some u) (hz : w.frozen? a = false) : (callFunc 245 #[.pointer (some a), .int .u32 1]).run Tryz.prog w = .ok (.value (.tuple #[])) (w.setCell a (.int .u32 1)) := run_call_store Tryz.func245 (by kernel_rfl) (by kernel_rfl) (by kernel_rfl) (by kernel_rfl) hc hz
theorem bLoad_c (x : Int) (b o : Nat) (l : List Value) (T : TypeId) (w : World) (hl : l[o]? = some (.int .u32 x)) (hs : Sat [[(b, .cells l.toArray T (0, 0))]] w) : Calls Tryz.prog 172 [.pointer (some ⟨b, o, none⟩)].toArray w fun e w' => e = .returned (.bool (!decide (x = 0))) ∧ Below w.heap.size w w' := by
  refine V.calls [[(b, .cells l.toArray T (0, 0))]] Tryz.func172 rfl Tryz.ntmps172 (Nat.le_of_ble_eq_true rfl) hs <| Sq <| Rg <| Lv Av <| Nl <| Ps <| Sq <| Rg <| Lv Mv <| Lv Nz <| Lv (Fa 0 191) <| LW.re 5 (.pointer (some ⟨b, o, none⟩)) rfl rfl <| Lv (Val.ext rfl (fun w hw => x_load32 (V.cell_of_block (hw.own _ InS.here.mem) (by exact hl)))) <| Lv Cm <| LW.re 7 (.bool (!decide (x = 0))) rfl (by rfl) <| Lv Av <| Nl <| Ps <| Rt <| Rt1 ?_
  intro w' hw; exact ⟨rfl, hw.ro (by repeat (first | exact .nil | apply Pick.cons | exact .here | apply Ext.there)) hs⟩
theorem b32_c (w : World) : Calls Tryz.prog 246 [.bool true].toArray w fun e w' => e = .returned (.int .u32 1) ∧ Below w.heap.size w w' := by
  refine V.calls [] Tryz.func246 rfl Tryz.ntmps246 (Nat.le_of_ble_eq_true rfl) (V.sat_nil _) <| Sq <| Rg <| Lv Av <| Nl <| Ps <| Sq <| Sq <| Rg <| Lv Mv <| Nl <| Ps <| Ct <| Sq <| Rg <| Lv Av <| Nl <| Ps <| Rt <| Tr <| Rt1 ?_
  intro w' hw; exact ⟨rfl, hw.below⟩
theorem lockI_c (b o : Nat) (l : List Value) (T : TypeId) (w : World) (hl : l[o]? = some (.int .i32 0)) (hs : Sat [[(b, .cells l.toArray T (0, 0))]] w) : Calls Tryz.prog 243 [.pointer (some ⟨b, o, none⟩)].toArray w fun e w' => ∃ _u : Unit, True ∧ e = .returned (.tuple #[]) ∧ Hp ⟨w, V.ids [[(b, .cells l.toArray T (0, 0))]]⟩ [[(b, .cells (l.set o (.int .i32 1)).toArray T (0, 0))]] w' := by
  have hl2 : (l.set o (.int .i32 1))[o]? = some (.int .i32 1) := by rw [List.getElem?_set_self ((List.getElem?_eq_some_iff.1 hl).1)]
  refine V.calls [[(b, .cells l.toArray T (0, 0))]] Tryz.func243 rfl Tryz.ntmps243 (Nat.le_of_ble_eq_true rfl) hs <| Sq <| Rg <| Lv (Val.callX rfl (fun w hw => x_dis w)) <| Nl <| Ps <| Sq <| Sq <| Rg <| Lv Mv <| Lv Nz <| Lv (Fa 0 21) <| LW.re 5 (.pointer (some ⟨b, o, none⟩)) rfl rfl <| Le (Eff.ext (l' := l.set o (.int .i32 1)) rfl .here rfl (fun w hb => x_cas (V.cell_of_block hb (by exact hl)) (V.frozen_of hb))) fun _ _ => Nl <| Ps <| Ct <| Sq <| Ct <| Sq <| Rg <| Lv (Val.callX rfl (fun w hw => x_en w)) <| Nl <| Ps <| Rg <| Lv Mv <| Lv (Val.toUns rfl Tryz.underlying408 Tryz.underlying412 (by kernel_rfl) (v := .int .i32 1) (fun w hw => V.cell_of_block (hw.own _ InS.here.mem) (by exact hl2))) <| Lv (Val.callX rfl (fun w hw => x_acq _ w)) <| Nl <| Ps <| Rt <| Tr <| PQ.ret0 rfl ?_
  intro w' hw; exact ⟨(), trivial, rfl, hw⟩
theorem lock_c (b o : Nat) (l : List Value) (T : TypeId) (w : World) (hl : l[o]? = some (.int .i32 0)) (hs : Sat [[(b, .cells l.toArray T (0, 0))]] w) : Calls Tryz.prog 203 [.pointer (some ⟨b, o, none⟩)].toArray w fun e w' => ∃ _u : Unit, True ∧ e = .returned (.tuple #[]) ∧ Hp ⟨w, V.ids [[(b, .cells l.toArray T (0, 0))]]⟩ [[(b, .cells (l.set o (.int .i32 1)).toArray T (0, 0))]] w' := by
  refine V.calls [[(b, .cells l.toArray T (0, 0))]] Tryz.func203 rfl Tryz.ntmps203 (Nat.le_of_ble_eq_true rfl) hs <| Rg <| Lv Mv <| Lv Nz <| Lv (Fa 0 195) <| LW.re 4 (.pointer (some ⟨b, o, none⟩)) rfl rfl <| Le (CM ([[(b, .cells l.toArray T (0, 0))]]) fun w hw hs => lockI_c b o l T w hl hs) fun _ _ => Nl <| PQ.end0 rfl ?_
  intro w' hw; exact ⟨(), trivial, rfl, hw⟩
theorem unlI_c (b o : Nat) (l : List Value) (T : TypeId) (w : World) (hl : l[o]? = some (.int .i32 1)) (hs : Sat [[(b, .cells l.toArray T (0, 0))]] w) : Calls Tryz.prog 244 [.pointer (some ⟨b, o, none⟩)].toArray w fun e w' => ∃ _u : Unit, True ∧ e = .returned (.tuple #[]) ∧ Hp ⟨w, V.ids [[(b, .cells l.toArray T (0, 0))]]⟩ [[(b, .cells (l.set o (.int .i32 0)).toArray T (0, 0))]] w' := by
  refine V.calls [[(b, .cells l.toArray T (0, 0))]] Tryz.func244 rfl Tryz.ntmps244 (Nat.le_of_ble_eq_true rfl) hs <| Sq <| Ct <| Sq <| Rg <| Lv Mv <| Lv Nz <| Lv (Fa 0 21) <| LW.re 5 (.pointer (some ⟨b, o, none⟩)) rfl rfl <| Lv (Val.load (v := .int .i32 1) rfl Tryz.isAgg21 (by repeat (first | exact .here | exact .inner .here | exact .inner (.inner .here) | refine .there ?_)) (by exact hl)) <| Nl <| Ps <| Sq <| Rg <| Lv Mv <| Lv (Val.toUns rfl Tryz.underlying408 Tryz.underlying412 (by kernel_rfl) (v := .int .i32 1) (fun w hw => V.cell_of_block (hw.own _ InS.here.mem) (by exact hl))) <| Lv (Val.callX rfl (fun w hw => x_rel _ w)) <| Nl <| Ps <| Rg <| Lv (Val.callX rfl (fun w hw => x_dis w)) <| Nl <| Ps <| Sq <| Rg <| Lv Mv <| Lv Nz <| Lv (Fa 0 21) <| LW.re 13 (.pointer (some ⟨b, o, none⟩)) rfl rfl <| Le (Eff.ext (l' := l.set o (.int .i32 0)) rfl .here rfl (fun w hb => x_add32 (V.cell_of_block hb (by exact hl)) (V.frozen_of hb))) fun _ _ => Lv Av <| Nl <| Ps <| Sq <| Sq <| Rg <| Lv Mv <| Lv Cm <| Nl <| Ps <| Cf <| Sk <| Ps <| Rg <| Lv (Val.callX rfl (fun w hw => x_en w)) <| Nl <| PQ.end0 rfl ?_
  intro w' hw; exact ⟨(), trivial, rfl, hw⟩
theorem unl_d (b o : Nat) (l : List Value) (T : TypeId) (w : World) (hl : l[o]? = some (.int .i32 1)) (hs : Sat [[(b, .cells l.toArray T (0, 0))]] w) : CallsD Tryz.prog 204 [.pointer (some ⟨b, o, none⟩)].toArray .returning w fun e u w' => u = .returning ∧ ∃ _u : Unit, True ∧ e = .returned (.tuple #[]) ∧ Hp ⟨w, V.ids [[(b, .cells l.toArray T (0, 0))]]⟩ [[(b, .cells (l.set o (.int .i32 0)).toArray T (0, 0))]] w' := by
  refine V.callsD [[(b, .cells l.toArray T (0, 0))]] Tryz.func204 rfl Tryz.ntmps204 (Nat.le_of_ble_eq_true rfl) hs <| Rg <| Lv Mv <| Lv Nz <| Lv (Fa 0 195) <| LW.re 4 (.pointer (some ⟨b, o, none⟩)) rfl rfl <| Le (CM ([[(b, .cells l.toArray T (0, 0))]]) fun w hw hs => unlI_c b o l T w hl hs) fun _ _ => Nl <| PQ.end0 rfl ?_
  intro w' hw; exact ⟨(), trivial, rfl, hw⟩
theorem sto_d (u : Value) (b o : Nat) (l : List Value) (T : TypeId) (w : World) (hl : l[o]? = some u) (hs : Sat [[(b, .cells l.toArray T (0, 0))]] w) : CallsD Tryz.prog 205 [.pointer (some ⟨b, o, none⟩), .bool true].toArray .returning w fun e u w' => u = .returning ∧ ∃ _u : Unit, True ∧ e = .returned (.tuple #[]) ∧ Hp ⟨w, V.ids [[(b, .cells l.toArray T (0, 0))]]⟩ [[(b, .cells (l.set o (.int .u32 1)).toArray T (0, 0))]] w' := by
  refine V.callsD [[(b, .cells l.toArray T (0, 0))]] Tryz.func205 rfl Tryz.ntmps205 (Nat.le_of_ble_eq_true rfl) hs <| Dr ([]) <| Rv 0 rfl Mv <| Rv 1 rfl Nz <| Rv 2 rfl (Fa 0 191) <| RW.re 6 (.pointer (some ⟨b, o, none⟩)) rfl rfl <| Rv 3 rfl Mv <| Re 4 rfl (CV fun w hw => b32_c w) fun _ _ => Re 5 rfl (Eff.ext (l' := l.set o (.int .u32 1)) rfl .here rfl (fun w hb => x_store32 (V.cell_of_block hb (by exact hl)) (V.frozen_of hb))) fun _ _ => Rd <| PQ.end0 rfl ?_
  intro w' hw; exact ⟨(), trivial, rfl, hw⟩
end Go.Proofs.YtlpbjmbgopfkhaaGreat

/- An arena over an empty device: what it holds. -/
namespace Go.Proofs.YtlpbjmbgopfkhaaGreat
open Go Go.RowKit V
set_option linter.unusedVariables false
set_option maxRecDepth 100000
open V (str byC ownV ownG ownS ownOk)
structure Tb where (b m0 m1 m2 m3 m4 m5 m6 m7 : Nat)
structure Aren where (a dv pl rd cl lb od ff : Nat) (t : Tb)
/-- A table without links; a line without any. -/
abbrev tbS (x : Tb) : Sg := [[(x.b, .cells [.map (some x.m0), .map (some x.m1), .map (some x.m2), .map (some x.m3), .map (some x.m4), .map (some x.m5), .map (some x.m6), .map (some x.m7)].toArray 263 (0, 0))], [(x.m0, mpO [] 0)], [(x.m1, mpO [] 0)], [(x.m2, mpO [] 0)], [(x.m3, mpO [] 0)], [(x.m4, mpO [] 0)], [(x.m5, mpO [] 0)], [(x.m6, mpO [] 0)], [(x.m7, mpO [] 0)]]
abbrev ffS (b : Nat) : Sg := [[(b, .cells [.slice none 0 0, .int .i64 0, .int .i64 0].toArray 274 (0, 0))]]
/-- An arena that holds nothing: what is asked of it. -/
abbrev arO (x : Aren) : Nat × Obj := (x.a, .cells [.pointer (some ⟨x.dv, 0, none⟩), .pointer (some ⟨x.pl, 0, none⟩), .pointer (some ⟨x.rd, 0, none⟩), .pointer (some ⟨x.cl, 0, none⟩), .pointer (some ⟨x.lb, 0, none⟩), .pointer (some ⟨x.t.b, 0, none⟩), .pointer (some ⟨x.od, 0, none⟩), .pointer (some ⟨x.ff, 0, none⟩), .int .u64 0, .int .u64 0, .slice none 0 0].toArray 189 (0, 0))
abbrev dvO (x : Aren) (db : Nat) (dn st : Int) : Nat × Obj := (x.dv, .cells [.pointer (some ⟨db, 0, none⟩), .int .u32 dn, .int .i32 st, .int .u32 0].toArray 201 (0, 0))
abbrev arS (x : Aren) (db : Nat) (dn st : Int) : Sg := [arO x] :: [dvO x db dn st] :: (ffS x.ff ++ tbS x.t)
theorem tbM_c (w : World) : Calls Tryz.prog 140 [].toArray w fun e w' => ∃ x : Tb, True ∧ e = .returned (.pointer (some ⟨x.b, 0, none⟩)) ∧ Hp ⟨w, []⟩ (tbS x) w' := by
  refine V.calls [] Tryz.func140 rfl Tryz.ntmps140 (Nat.le_of_ble_eq_true rfl) (V.sat_nil _) <| Sq <| Rg <| Lv Av <| Nl <| Ps <| Sq <| Rg <| Lv (Bd [_, _, _, _, _, _, _, _]) <| Le XA fun b4 _ => Lv Av <| Nl <| Ps <| Sq <| Sq <| Rg <| Lv Mv <| Nl <| Ps <| Bk <| CW.loopU 8 <| Sq <| Rg <| Lv Cm <| Nl <| Ps <| Sq <| Ct <| Sk <| Ps <| Sq <| Bk <| Sq <| Rg <| Lv Mv <| Lv Av <| Nl <| Ps <| Rg <| Lv Mv <| Lv Mv <| Le (Eff.makeMap) fun b10_0 _ => Lv Nz <| Lv (Fa 0 261) <| Lv (Val.indexAddrA (i := 0) rfl rfl Tryz.underlying261 Tryz.sizeOf260 (by decide)) <| LeN StS fun _ _ => Nl <| Bn <| Ps <| Rg <| Lv Ar <| Lv Mv <| Nl <| PQ.next <| Sq <| Rg <| Lv Cm <| Nl <| Ps <| Sq <| Ct <| Sk <| Ps <| Sq <| Bk <| Sq <| Rg <| Lv Mv <| Lv Av <| Nl <| Ps <| Rg <| Lv Mv <| Lv Mv <| Le (Eff.makeMap) fun b10_1 _ => Lv Nz <| Lv (Fa 0 261) <| Lv (Val.indexAddrA (i := 1) rfl rfl Tryz.underlying261 Tryz.sizeOf260 (by decide)) <| LeN StS fun _ _ => Nl <| Bn <| Ps <| Rg <| Lv Ar <| Lv Mv <| Nl <| PQ.next <| Sq <| Rg <| Lv Cm <| Nl <| Ps <| Sq <| Ct <| Sk <| Ps <| Sq <| Bk <| Sq <| Rg <| Lv Mv <| Lv Av <| Nl <| Ps <| Rg <| Lv Mv <| Lv Mv <| Le (Eff.makeMap) fun b10_2 _ => Lv Nz <| Lv (Fa 0 261) <| Lv (Val.indexAddrA (i := 2) rfl rfl Tryz.underlying261 Tryz.sizeOf260 (by decide)) <| LeN StS fun _ _ => Nl <| Bn <| Ps <| Rg <| Lv Ar <| Lv Mv <| Nl <| PQ.next <| Sq <| Rg <| Lv Cm <| Nl <| Ps <| Sq <| Ct <| Sk <| Ps <| Sq <| Bk <| Sq <| Rg <| Lv Mv <| Lv Av <| Nl <| Ps <| Rg <| Lv Mv <| Lv Mv <| Le (Eff.makeMap) fun b10_3 _ => Lv Nz <| Lv (Fa 0 261) <| Lv (Val.indexAddrA (i := 3) rfl rfl Tryz.underlying261 Tryz.sizeOf260 (by decide)) <| LeN StS fun _ _ => Nl <| Bn <| Ps <| Rg <| Lv Ar <| Lv Mv <| Nl <| PQ.next <| Sq <| Rg <| Lv Cm <| Nl <| Ps <| Sq <| Ct <| Sk <| Ps <| Sq <| Bk <| Sq <| Rg <| Lv Mv <| Lv Av <| Nl <| Ps <| Rg <| Lv Mv <| Lv Mv <| Le (Eff.makeMap) fun b10_4 _ => Lv Nz <| Lv (Fa 0 261) <| Lv (Val.indexAddrA (i := 4) rfl rfl Tryz.underlying261 Tryz.sizeOf260 (by decide)) <| LeN StS fun _ _ => Nl <| Bn <| Ps <| Rg <| Lv Ar <| Lv Mv <| Nl <| PQ.next <| Sq <| Rg <| Lv Cm <| Nl <| Ps <| Sq <| Ct <| Sk <| Ps <| Sq <| Bk <| Sq <| Rg <| Lv Mv <| Lv Av <| Nl <| Ps <| Rg <| Lv Mv <| Lv Mv <| Le (Eff.makeMap) fun b10_5 _ => Lv Nz <| Lv (Fa 0 261) <| Lv (Val.indexAddrA (i := 5) rfl rfl Tryz.underlying261 Tryz.sizeOf260 (by decide)) <| LeN StS fun _ _ => Nl <| Bn <| Ps <| Rg <| Lv Ar <| Lv Mv <| Nl <| PQ.next <| Sq <| Rg <| Lv Cm <| Nl <| Ps <| Sq <| Ct <| Sk <| Ps <| Sq <| Bk <| Sq <| Rg <| Lv Mv <| Lv Av <| Nl <| Ps <| Rg <| Lv Mv <| Lv Mv <| Le (Eff.makeMap) ?_
  intro b10_6 _
  refine Lv Nz <| Lv (Fa 0 261) <| Lv (Val.indexAddrA (i := 6) rfl rfl Tryz.underlying261 Tryz.sizeOf260 (by decide)) <| LeN StS fun _ _ => Nl <| Bn <| Ps <| Rg <| Lv Ar <| Lv Mv <| Nl <| PQ.next <| Sq <| Rg <| Lv Cm <| Nl <| Ps <| Sq <| Ct <| Sk <| Ps <| Sq <| Bk <| Sq <| Rg <| Lv Mv <| Lv Av <| Nl <| Ps <| Rg <| Lv Mv <| Lv Mv <| Le (Eff.makeMap) fun b10_7 _ => Lv Nz <| Lv (Fa 0 261) <| Lv (Val.indexAddrA (i := 7) rfl rfl Tryz.underlying261 Tryz.sizeOf260 (by decide)) <| LeN StS fun _ _ => Nl <| Bn <| Ps <| Rg <| Lv Ar <| Lv Mv <| Nl <| PQ.next <| Sq <| Rg <| Lv Cm <| Nl <| Ps <| Sq <| Cf <| Xt <| Te <| Te <| Bh <| Ps <| Sq <| Rg <| Lv Mv <| Lv Av <| Nl <| Ps <| Rt <| Rt1 ?_
  intro w' hw; exact ⟨⟨b4, b10_0, b10_1, b10_2, b10_3, b10_4, b10_5, b10_6, b10_7⟩, trivial, rfl, hw.pick (by repeat (first | exact .nil | apply Pick.cons | exact .here | apply Ext.there))⟩
theorem ffM_c (w : World) : Calls Tryz.prog 142 [].toArray w fun e w' => ∃ b : Nat, True ∧ e = .returned (.pointer (some ⟨b, 0, none⟩)) ∧ Hp ⟨w, []⟩ (ffS b) w' := by
  refine V.calls [] Tryz.func142 rfl Tryz.ntmps142 (Nat.le_of_ble_eq_true rfl) (V.sat_nil _) <| Sq <| Rg <| Lv Av <| Nl <| Ps <| Sq <| Rg <| Lv (Bd [_, _, _]) <| Le XA fun b2 _ => Lv Av <| Nl <| Ps <| Rt <| Rt1 ?_
  intro w' hw; exact ⟨b2, trivial, rfl, hw.pick (by repeat (first | exact .nil | apply Pick.cons | exact .here | apply Ext.there))⟩
theorem madeM_c (db cb : Nat) (D : List Ce) (k : Cnt) (hL : D.length = 10) (w : World) (hs : Sat (devS db cb D k) w) : Calls Tryz.prog 110 [.pointer (some ⟨db, 0, none⟩), .int .i64 1, .int .u64 0].toArray w fun e w' => ∃ x : Aren, True ∧ e = .returned (.tuple #[.pointer (some ⟨x.a, 0, none⟩), .int .i64 0]) ∧ Hp ⟨w, V.ids (devS db cb D k)⟩ (arS x db 0 0 ++ (devS db cb D k)) w' := by
  refine V.calls (devS db cb D k) Tryz.func110 rfl Tryz.ntmps110 (Nat.le_of_ble_eq_true rfl) hs <| Sq <| Rg <| Lv Av <| Lv Av <| Nl <| Ps <| Sq <| Rg <| Lv Mv <| Le (CR fun w hw => rdNew_c w) fun a1 _ => Lv Mv <| Lv Ex <| Lv Ex <| Lv Av <| Lv Av <| Nl <| Ps <| Sq <| Sq <| Rg <| Lv Mv <| Lv Cm <| Lv Mv <| Lv Mv <| Le (CV fun w hw => lines_c db cb D k w hw.at) fun _ _ => LW.re 22 (.int .i64 10) rfl (by rw [hL]; rfl) <| Lv Cm <| Lv Pf <| LW.re 24 (.bool false) rfl (by rfl) <| Nl <| Ps <| Cf <| Sk <| Ps <| Sq <| Rg <| Lv Mv <| Lv Mv <| Le (CR fun w hw => clNew_c w) fun a2 _ => Lv Mv <| Lv Ex <| Lv Ex <| Lv Av <| Lv Av <| Nl <| Ps <| Sq <| Sq <| Rg <| Lv Mv <| Lv Cm <| Nl <| Ps <| Cf <| Sk <| Ps <| Sq <| Rg <| Lv Mv <| Le (CV fun w hw => lines_c db cb D k w hw.at) fun _ _ => LW.re 36 (.int .i64 10) rfl (by rw [hL]; rfl) <| Le (CV fun w hw => slabs_c 10 (by omega) w) fun _ _ => LW.re 37 (.int .i64 1) rfl (by rfl) <| Le (CR fun w hw => plNew_c w) fun a3 _ => Lv Mv <| Lv Ex <| Lv Ex <| Lv Av <| Lv Av <| Nl <| Ps <| Sq <| Rg <| Lv Mv <| Lv (Bd [_, _, _, _]) <| Le XA fun b43 _ => Lv Mv <| Lv Mv <| Lv Mv <| Le (CR fun w hw => lbNew_c w) fun a4 _ => Le (CM [] fun w hw hs => tbM_c w) fun a5 _ => Le (CR fun w hw => orNew_c w) fun a6 _ => Le (CM [] fun w hw hs => ffM_c w) fun a7 _ => Lv (Bd [_, _, _, _, _, _, _, _, _, _, _]) <| Le XA fun b52 _ => Lv Av <| Lv Av <| Nl <| Ps <| Rt <| Rt2 ?_
  intro w' hw; exact ⟨⟨b52, b43, a3, a1, a2, a4, a6, a7, a5⟩, trivial, rfl, hw.pick (by repeat (first | exact .nil | apply Pick.cons | exact .here | apply Ext.there))⟩
theorem overM_c (db cb : Nat) (D : List Ce) (k : Cnt) (hL : D.length = 10) (w : World) (hs : Sat (devS db cb D k) w) : Calls Tryz.prog 284 [.pointer (some ⟨db, 0, none⟩), .int .i64 1, .int .u64 0, .slice none 0 0].toArray w fun e w' => ∃ x : Aren, True ∧ e = .returned (.tuple #[.pointer (some ⟨x.a, 0, none⟩), .int .i64 0]) ∧ Hp ⟨w, V.ids (devS db cb D k)⟩ (arS x db 0 0 ++ (devS db cb D k)) w' := by
  refine V.calls (devS db cb D k) Tryz.func284 rfl Tryz.ntmps284 (Nat.le_of_ble_eq_true rfl) hs <| Sq <| Rg <| Lv Av <| Lv Av <| Nl <| Ps <| Sq <| Sq <| Rg <| Lv Mv <| Lv EP <| Nl <| Ps <| Cf <| Sk <| Ps <| Sq <| Rg <| Lv Mv <| Lv Mv <| Lv Mv <| Le (CM ((devS db cb D k)) fun w hw hs => madeM_c db cb D k hL w hs) fun x _ => Lv Mv <| Lv Ex <| Lv Ex <| Lv Av <| Lv Av <| Nl <| Ps <| Sq <| Sq <| Rg <| Lv Mv <| Lv Cm <| Nl <| Ps <| Cf <| Sk <| Ps <| Sq <| Sq <| Rg <| Lv Mv <| Lv Ln <| Lv Mv <| Nl <| Ps <| Bk <| CW.loopU 0 <| Sq <| Rg <| Lv Cm <| Nl <| Ps <| Sq <| Cf <| Xt <| Te <| Te <| Bh <| Ps <| Sq <| Rg <| Lv Av <| Nl <| Ps <| Sq <| Sq <| Rg <| Lv Mv <| Lv Ln <| Lv Mv <| Nl <| Ps <| Bk <| CW.loopU 0 <| Sq <| Rg <| Lv Cm <| Nl <| Ps <| Sq <| Cf <| Xt <| Te <| Te <| Bh <| Ps <| Sq <| Rg <| Lv Mv <| Le (CV fun w hw => sort_c _ w) fun _ _ => Nl <| Ps <| Sq <| Sq <| Rg <| Lv Mv <| Lv Ln <| Lv Mv <| Nl <| Ps <| Bk <| CW.loopU 0 <| Sq <| Rg <| Lv Cm <| Nl <| Ps <| Sq <| Cf <| Xt <| Te <| Te <| Bh <| Ps <| Sq <| Rg <| Lv Mv <| Lv Av <| Lv Av <| Nl <| Ps <| Rt <| Rt2 ?_
  intro w' hw; exact ⟨x, trivial, rfl, hw.pick (by repeat (first | exact .nil | apply Pick.cons | exact .here | apply Ext.there))⟩
end Go.Proofs.YtlpbjmbgopfkhaaGreat

/- A revival: its block; the store is built, once. -/
namespace Go.Proofs.YtlpbjmbgopfkhaaGreat
open Go Go.RowKit V
set_option linter.unusedVariables false
set_option maxRecDepth 100000
instance : Und Tryz.prog 118 (dOf Tryz.underlying118) := ⟨Tryz.underlying118⟩
instance : Siz Tryz.prog 118 (kOf Tryz.sizeOf118) := ⟨Tryz.sizeOf118⟩
instance : AgF Tryz.prog 118 := ⟨Tryz.isAgg118⟩
instance : Zer Tryz.prog 118 (zOf Tryz.zeroValue118) := ⟨Tryz.zeroValue118⟩
instance : Und Tryz.prog 123 (dOf Tryz.underlying123) := ⟨Tryz.underlying123⟩
instance : Siz Tryz.prog 123 (kOf Tryz.sizeOf123) := ⟨Tryz.sizeOf123⟩
instance : AgF Tryz.prog 123 := ⟨Tryz.isAgg123⟩
instance : Zer Tryz.prog 123 (zOf Tryz.zeroValue123) := ⟨Tryz.zeroValue123⟩
instance : Und Tryz.prog 315 (dOf Tryz.underlying315) := ⟨Tryz.underlying315⟩
instance : Siz Tryz.prog 315 (kOf Tryz.sizeOf315) := ⟨Tryz.sizeOf315⟩
instance : AgT Tryz.prog 315 := ⟨Tryz.isAgg315⟩
instance : Zer Tryz.prog 315 (zOf Tryz.zeroValue315) := ⟨Tryz.zeroValue315⟩
instance : Cal Tryz.prog 172 := ⟨Tryz.call172⟩
instance : Cal Tryz.prog 173 := ⟨Tryz.call173⟩
instance : Cal Tryz.prog 203 := ⟨Tryz.call203⟩
instance : Cal Tryz.prog 284 := ⟨Tryz.call284⟩
open V (str byC ownV ownG ownS ownOk)
/-- A revival's cells: of one that found nothing. -/
abbrev rvL (db : Nat) (th ph e nx dn st : Int) (s : Value) (why : Int) : List Value := [.pointer (some ⟨db, 0, none⟩), .int .i64 th, .int .i64 ph, .int .u64 e, .int .i64 nx, .slice none 0 0, .slice none 0 0, .int .u32 dn, .int .i32 st, .int .u32 0, s, .int .i64 why]
abbrev rvO (rb db : Nat) (th ph e nx dn st : Int) (s : Value) (why : Int) : Nat × Obj := (rb, .cells (rvL db th ph e nx dn st s why).toArray 315 (0, 0))
abbrev pbO (pb rb : Nat) : Nat × Obj := (pb, .cells [.pointer (some ⟨rb, 0, none⟩)].toArray 123 (0, 0))
end Go.Proofs.YtlpbjmbgopfkhaaGreat

/- A revival: its phases, where nothing is found. -/
namespace Go.Proofs.YtlpbjmbgopfkhaaGreat
open Go Go.RowKit V
set_option linter.unusedVariables false
set_option maxRecDepth 100000
theorem places315 : ∀ w, ((Array.mapM (fun (f : Field) => do pure (f.offset, ← sizeOf f.type)) (Tryz.prog.fieldsOf 315) : Sem (Array (Nat × Nat)))).run Tryz.prog w = .ok [(0, 1), (1, 1), (2, 1), (3, 1), (4, 1), (5, 1), (6, 1), (7, 3), (10, 1), (11, 1)].toArray w := by
  intro w; kernel_rfl
instance : Plc Tryz.prog 315 (fOf Tryz.underlying315) (lOf (P := Tryz.prog) places315) := ⟨places315, Tryz.underlying315⟩
instance : Cal Tryz.prog 143 := ⟨Tryz.call143⟩
instance : Cal Tryz.prog 195 := ⟨Tryz.call195⟩
instance : Cal Tryz.prog 280 := ⟨Tryz.call280⟩
instance : Cal Tryz.prog 281 := ⟨Tryz.call281⟩
instance : Cal Tryz.prog 282 := ⟨Tryz.call282⟩
instance : Cal Tryz.prog 283 := ⟨Tryz.call283⟩
instance : Cal Tryz.prog 285 := ⟨Tryz.call285⟩
instance : Cal Tryz.prog 337 := ⟨Tryz.call337⟩
open V (str byC ownV ownG ownS ownOk)
theorem f8_len : (fmtD 8).length = 10 := rfl
theorem f8_0 : (fmtD 8)[0]? = some (frm (superB 10)) := rfl
theorem f8_1 : (fmtD 8)[1]? = some (frm (clockB 0)) := rfl
theorem f8_i {i : Nat} (h : i < 8) : (fmtD 8)[2 + i]? = some ce0 := by
  rw [Nat.add_comm]
  show (List.replicate 8 ce0)[i]? = some ce0
  rw [List.getElem?_replicate, if_pos h]
theorem f8_fen : (fmtD 8).map fenB = fmtD 8 := rfl
theorem f8_super : isSuperF (superB 10) = (10, true) := by decide +kernel
theorem f8_clock : isClockF (clockB 0) = (0, true) := by decide +kernel
theorem z_head : ce0.now.1[0]? = some 0 := rfl
theorem to_c (rb db : Nat) (th ph e0 nx dn st : Int) (s : Value) (why : Int) (p : Int) (w : World) (hs : Sat [[rvO rb db th ph e0 nx dn st s why]] w) : Calls Tryz.prog 281 [.pointer (some ⟨rb, 0, none⟩), .int .i64 p].toArray w fun e w' => ∃ _u : Unit, True ∧ e = .returned (.int .i64 0) ∧ Hp ⟨w, V.ids [[rvO rb db th ph e0 nx dn st s why]]⟩ [[rvO rb db th p e0 0 dn st s why]] w' := by
  refine V.calls [[rvO rb db th ph e0 nx dn st s why]] Tryz.func281 rfl Tryz.ntmps281 (Nat.le_of_ble_eq_true rfl) hs <| Sq <| Rg <| Lv Av <| Nl <| Ps <| Sq <| Rg <| Lv Mv <| Lv Mv <| Lv Mv <| Lv Nz <| Lv (Fa 2 3) <| LeN StS fun _ _ => Lv Nz <| Lv (Fa 4 3) <| LeN StS fun _ _ => Nl <| Ps <| Sq <| Rg <| Lv Av <| Nl <| Ps <| Rt <| Rt1 ?_
  intro w' hw; exact ⟨(), trivial, rfl, hw⟩
theorem rnew_c (db : Nat) (th : Int) (h : 1 ≤ th ∧ th ≤ 4) (w : World) : Calls Tryz.prog 160 [.pointer (some ⟨db, 0, none⟩), .int .i64 th].toArray w fun e w' => ∃ rb : Nat, True ∧ e = .returned (.tuple #[.pointer (some ⟨rb, 0, none⟩), .int .i64 0]) ∧ Hp ⟨w, []⟩ [[rvO rb db th 0 0 0 0 0 (.pointer none) 0]] w' := by
  refine V.calls [] Tryz.func160 rfl Tryz.ntmps160 (Nat.le_of_ble_eq_true rfl) (V.sat_nil _) <| Sq <| Rg <| Lv Av <| Lv Av <| Nl <| Ps <| Sq <| Sq <| Rg <| Lv Mv <| Lv EP <| Nl <| Ps <| Cf <| Sk <| Ps <| Sq <| Sq <| Rg <| Lv Mv <| Lv Cm <| LW.re 9 (.bool false) rfl (by first | rfl | (congr 1; simp <;> omega) | (congr 1; simp; done) | (simp <;> omega)) <| Lv Mv <| LW.re 10 (.bool false) rfl (by first | rfl | (congr 1; simp <;> omega) | (congr 1; simp; done) | (simp <;> omega)) <| Lv Mv <| Lv Cm <| Lv Pf <| LW.re 13 (.bool false) rfl (by first | rfl | (congr 1; simp <;> omega) | (congr 1; simp; done) | (simp <;> omega)) <| Nl <| Ps <| Cf <| Sk <| Ps <| Sq <| Rg <| Lv Mv <| Lv Mv <| Lv (Bd [_, _, _, _, _, _, _, _, _, _, _, _]) <| Le XA fun b17 _ => Lv Av <| Lv Av <| Nl <| Ps <| Rt <| Rt2 ?_
  intro w' hw; exact ⟨b17, trivial, rfl, hw⟩
theorem arena_c (rb db : Nat) (th ph e0 nx dn st : Int) (s : Value) (why : Int) (w : World) (hs : Sat [[rvO rb db th ph e0 nx dn st s why]] w) (hph : ph = 6) : Calls Tryz.prog 162 [.pointer (some ⟨rb, 0, none⟩)].toArray w fun e w' => e = .returned (.tuple #[s, .bool true]) ∧ Below w.heap.size w w' := by
  refine V.calls [[rvO rb db th ph e0 nx dn st s why]] Tryz.func162 rfl Tryz.ntmps162 (Nat.le_of_ble_eq_true rfl) hs <| Sq <| Rg <| Lv Av <| Lv Av <| Nl <| Ps <| Sq <| Sq <| Rg <| Lv Mv <| Lv EP <| Lv Mv <| Lv Mv <| Lv Nz <| Lv (Fa 2 3) <| Lv Ld <| Lv Cm <| LW.re 11 (.bool false) rfl (by rw [hph]; rfl) <| Lv Pf <| Nl <| Ps <| Cf <| Sk <| Ps <| Sq <| Rg <| Lv Mv <| Lv Nz <| Lv (Fa 10 118) <| Lv Ld <| Lv Av <| Lv Av <| Nl <| Ps <| Rt <| Rt2 ?_
  intro w' hw; exact ⟨rfl, hw.ro (by repeat (first | exact .nil | apply Pick.cons | exact .here | apply Ext.there)) hs⟩
theorem ropen_c (rb db cb : Nat) (k : Cnt)  (w : World) (hs : Sat ([rvO rb db 1 0 0 0 0 0 (.pointer none) 0] :: devS db cb (fmtD 8) k) w) : Calls Tryz.prog 223 [.pointer (some ⟨rb, 0, none⟩)].toArray w fun e w' => ∃ _u : Unit, True ∧ e = .returned (.int .i64 0) ∧ Hp ⟨w, V.ids ([rvO rb db 1 0 0 0 0 0 (.pointer none) 0] :: devS db cb (fmtD 8) k)⟩ ([rvO rb db 1 1 0 0 0 0 (.pointer none) 0] :: devS db cb (fmtD 8) k) w' := by
  refine V.calls ([rvO rb db 1 0 0 0 0 0 (.pointer none) 0] :: devS db cb (fmtD 8) k) Tryz.func223 rfl Tryz.ntmps223 (Nat.le_of_ble_eq_true rfl) hs <| Sq <| Rg <| Lv Av <| Nl <| Ps <| Sq <| Rg <| Lv Mv <| Lv Nz <| Lv (Fa 0 91) <| Lv Ld <| Le (CV fun w hw => open_good db cb (fmtD 8) k _ _ f8_0 f8_1 0 f8_super f8_clock (by decide) (by decide) w hw.pk.sat) fun _ _ => Lv Mv <| Lv Ex <| Lv Ex <| Lv Av <| Lv Av <| Nl <| Ps <| Sq <| Sq <| Rg <| Lv Mv <| Lv Cm <| Nl <| Ps <| Cf <| Sk <| Ps <| Sq <| Rg <| Lv Mv <| Lv Mv <| Lv Nz <| Lv (Fa 3 39) <| LeN StS fun _ _ => Nl <| Ps <| Sq <| Rg <| Lv Mv <| Le (CM ([[rvO rb db 1 0 0 0 0 0 (.pointer none) 0]]) fun w hw hs => to_c rb db 1 0 0 0 0 0 (.pointer none) 0 1 w hs) fun _ _ => Lv Av <| Nl <| Ps <| Rt <| Rt1 ?_
  intro w' hw; exact ⟨(), trivial, rfl, hw.pick (by repeat (first | exact .nil | apply Pick.cons | exact .here | apply Ext.there))⟩
theorem rscan_c (rb db cb : Nat) (k : Cnt) (nx : Nat) (hn : nx < 7) (w : World) (hs : Sat ([rvO rb db 1 1 0 ((nx : Nat) : Int) 0 0 (.pointer none) 0] :: devS db cb (fmtD 8) k) w) : Calls Tryz.prog 224 [.pointer (some ⟨rb, 0, none⟩)].toArray w fun e w' => ∃ _u : Unit, True ∧ e = .returned (.int .i64 0) ∧ Hp ⟨w, V.ids ([rvO rb db 1 1 0 ((nx : Nat) : Int) 0 0 (.pointer none) 0] :: devS db cb (fmtD 8) k)⟩ ([rvO rb db 1 1 0 ((nx + 1 : Nat) : Int) 0 0 (.pointer none) 0] :: devS db cb (fmtD 8) k) w' := by
  refine V.calls ([rvO rb db 1 1 0 ((nx : Nat) : Int) 0 0 (.pointer none) 0] :: devS db cb (fmtD 8) k) Tryz.func224 rfl Tryz.ntmps224 (Nat.le_of_ble_eq_true rfl) hs <| Sq <| Rg <| Lv Av <| Nl <| Ps <| Sq <| Rg <| Lv Mv <| Lv Nz <| Lv (Fa 4 3) <| Lv Ld <| Lv Ar <| LW.re 13 (.int .i64 ((2 + nx : Nat) : Int)) rfl (by first | rfl | (congr 1; omega)) <| Lv Av <| Nl <| Ps <| Sq <| Rg <| Lv Mv <| Lv Nz <| Lv (Fa 0 91) <| Lv Ld <| Lv Mv <| Le (CM [] fun w hw hs => load_c db cb (fmtD 8) k (2 + nx) ce0 (f8_i (by omega)) w hw.pk.sat) fun o ho => ?_
  obtain ⟨p, cp, hv, hsl⟩ := own64 ce0.now o ho
  refine Lv Mv <| Lv Ex <| LW.re 21 (.slice p 64 cp) rfl hv <| Lv Ex <| Lv Av <| Lv Av <| Nl <| Ps <| Sq <| Sq <| Rg <| Lv Mv <| Le (CV fun w hw => head0_c ce0.now 0 z_head (by decide) p cp w (hsl hw (by repeat (first | exact .nil | apply Pick.cons | exact .here | apply Ext.there)))) fun _ _ => Lv Mv <| Lv Ex <| Lv Ex <| Lv Ex <| Lv Av <| Lv Av <| Lv Av <| Nl <| Ps <| Sq <| Rg <| Lv Mv <| Lv Mv <| Lp <| Lp <| Lv Pf <| Nl <| Ps <| Cf <| Sk <| Ps <| Sq <| Rg <| Lv Mv <| Lv Nz <| Lv (Fa 4 3) <| Lv Ld <| Lv Ar <| LW.re 52 (.int .i64 ((nx + 1 : Nat) : Int)) rfl (by first | rfl | (congr 1; omega)) <| Lv Nz <| Lv (Fa 4 3) <| LeN StS fun _ _ => Nl <| Ps <| Sq <| Sq <| Qt <| Qv Mv <| Qv Nz <| Qv (Fa 4 3) <| Qv Ld <| Qv Mv <| Qv Nz <| Qv (Fa 0 91) <| Qv Ld <| Qc (QV fun w hw => lines_c db cb (fmtD 8) k w hw.at) <| QW.re 63 (.int .i64 10) rfl (by rfl) <| Qc (QV fun w hw => slabs_c 10 (by omega) w) <| QW.re 64 (.int .i64 1) rfl (by rfl) <| Qv Ar <| Qv Cm <| QW.re 66 (.bool false) rfl (by first | rfl | (congr 1; simp <;> omega) | (congr 1; simp; done) | (simp <;> omega)) <| Ql <| Ps <| Cf <| Sk <| Ps <| Sq <| Rg <| Lv Av <| Nl <| Ps <| Rt <| Rt1 ?_
  intro w' hw; exact ⟨(), trivial, rfl, hw.pick (by repeat (first | exact .nil | apply Pick.cons | exact .here | apply Ext.there))⟩
theorem rscanL_c (rb db cb : Nat) (k : Cnt)  (w : World) (hs : Sat ([rvO rb db 1 1 0 ((7 : Nat) : Int) 0 0 (.pointer none) 0] :: devS db cb (fmtD 8) k) w) : Calls Tryz.prog 224 [.pointer (some ⟨rb, 0, none⟩)].toArray w fun e w' => ∃ _u : Unit, True ∧ e = .returned (.int .i64 0) ∧ Hp ⟨w, V.ids ([rvO rb db 1 1 0 ((7 : Nat) : Int) 0 0 (.pointer none) 0] :: devS db cb (fmtD 8) k)⟩ ([rvO rb db 1 2 0 0 0 0 (.pointer none) 0] :: devS db cb (fmtD 8) k) w' := by
  refine V.calls ([rvO rb db 1 1 0 ((7 : Nat) : Int) 0 0 (.pointer none) 0] :: devS db cb (fmtD 8) k) Tryz.func224 rfl Tryz.ntmps224 (Nat.le_of_ble_eq_true rfl) hs <| Sq <| Rg <| Lv Av <| Nl <| Ps <| Sq <| Rg <| Lv Mv <| Lv Nz <| Lv (Fa 4 3) <| Lv Ld <| Lv Ar <| LW.re 13 (.int .i64 ((2 + 7 : Nat) : Int)) rfl (by rfl) <| Lv Av <| Nl <| Ps <| Sq <| Rg <| Lv Mv <| Lv Nz <| Lv (Fa 0 91) <| Lv Ld <| Lv Mv <| Le (CM [] fun w hw hs => load_c db cb (fmtD 8) k (2 + 7) ce0 (f8_i (by omega)) w hw.pk.sat) fun o ho => ?_
  obtain ⟨p, cp, hv, hsl⟩ := own64 ce0.now o ho
  refine Lv Mv <| Lv Ex <| LW.re 21 (.slice p 64 cp) rfl hv <| Lv Ex <| Lv Av <| Lv Av <| Nl <| Ps <| Sq <| Sq <| Rg <| Lv Mv <| Le (CV fun w hw => head0_c ce0.now 0 z_head (by decide) p cp w (hsl hw (by repeat (first | exact .nil | apply Pick.cons | exact .here | apply Ext.there)))) fun _ _ => Lv Mv <| Lv Ex <| Lv Ex <| Lv Ex <| Lv Av <| Lv Av <| Lv Av <| Nl <| Ps <| Sq <| Rg <| Lv Mv <| Lv Mv <| Lp <| Lp <| Lv Pf <| Nl <| Ps <| Cf <| Sk <| Ps <| Sq <| Rg <| Lv Mv <| Lv Nz <| Lv (Fa 4 3) <| Lv Ld <| Lv Ar <| LW.re 52 (.int .i64 ((7 + 1 : Nat) : Int)) rfl (by rfl) <| Lv Nz <| Lv (Fa 4 3) <| LeN StS fun _ _ => Nl <| Ps <| Sq <| Sq <| Qt <| Qv Mv <| Qv Nz <| Qv (Fa 4 3) <| Qv Ld <| Qv Mv <| Qv Nz <| Qv (Fa 0 91) <| Qv Ld <| Qc (QV fun w hw => lines_c db cb (fmtD 8) k w hw.at) <| QW.re 63 (.int .i64 10) rfl (by rfl) <| Qc (QV fun w hw => slabs_c 10 (by omega) w) <| QW.re 64 (.int .i64 1) rfl (by rfl) <| Qv Ar <| Qv Cm <| QW.re 66 (.bool true) rfl (by rfl) <| Ql <| Ps <| Ct <| Sq <| Rg <| Lv Mv <| Le (CM ([[rvO rb db 1 1 0 ((8 : Nat) : Int) 0 0 (.pointer none) 0]]) fun w hw hs => to_c rb db 1 1 0 ((8 : Nat) : Int) 0 0 (.pointer none) 0 2 w hs) fun _ _ => Lv Av <| Nl <| Ps <| Rt <| Tr <| Rt1 ?_
  intro w' hw; exact ⟨(), trivial, rfl, hw.pick (by repeat (first | exact .nil | apply Pick.cons | exact .here | apply Ext.there))⟩
theorem rdecide_c (rb db cb : Nat) (k : Cnt)  (w : World) (hs : Sat ([rvO rb db 1 2 0 0 0 0 (.pointer none) 0] :: devS db cb (fmtD 8) k) w) : Calls Tryz.prog 225 [.pointer (some ⟨rb, 0, none⟩)].toArray w fun e w' => ∃ _u : Unit, True ∧ e = .returned (.int .i64 0) ∧ Hp ⟨w, V.ids ([rvO rb db 1 2 0 0 0 0 (.pointer none) 0] :: devS db cb (fmtD 8) k)⟩ ([rvO rb db 1 3 0 0 0 0 (.pointer none) 0] :: devS db cb (fmtD 8) k) w' := by
  refine V.calls ([rvO rb db 1 2 0 0 0 0 (.pointer none) 0] :: devS db cb (fmtD 8) k) Tryz.func225 rfl Tryz.ntmps225 (Nat.le_of_ble_eq_true rfl) hs <| Sq <| Rg <| Lv Av <| Nl <| Ps <| Sq <| Rg <| Lv Av <| Nl <| Ps <| Sq <| Sq <| Rg <| Lv Mv <| Lv Nz <| Lv (Fa 5 313) <| Lv Ld <| Lv Ln <| Lv Mv <| Nl <| Ps <| Bk <| CW.loopU 0 <| Sq <| Rg <| Lv Cm <| Nl <| Ps <| Sq <| Cf <| Xt <| Te <| Te <| Bh <| Ps <| Sq <| Sq <| Dr (([rvO rb db 1 2 0 0 0 0 (.pointer none) 0] :: devS db cb (fmtD 8) k)) <| Rv 0 rfl Mv <| Rv 1 rfl Nz <| Rv 2 rfl (Fa 0 91) <| Rv 3 rfl Ld <| Rv 4 rfl Mv <| Rv 5 rfl Nz <| Rv 6 rfl (Fa 1 3) <| Rv 7 rfl Ld <| Rv 8 rfl Mv <| Rv 9 rfl Nz <| Rv 10 rfl (Fa 3 39) <| Rv 11 rfl Ld <| Rv 12 rfl Mv <| Re 13 rfl (CR fun w hw => over_c db cb (fmtD 8) k f8_len w hw.pk.sat) fun a _ => Rv 14 rfl Mv <| Rv 15 rfl Ex <| Rv 16 rfl Ex <| Rv 17 rfl Av <| Rv 18 rfl Av <| Rd <| Ps <| Sq <| Rg <| Lv Mv <| Lv Cm <| Nl <| Ps <| Cf <| Sk <| Ps <| Sq <| Rg <| Lv Mv <| Lv Mv <| Lv Nz <| Lv (Fa 6 313) <| LeN StS fun _ _ => Nl <| Ps <| Sq <| Rg <| Lv Mv <| Le (CM ([[rvO rb db 1 2 0 0 0 0 (.pointer none) 0]]) fun w hw hs => to_c rb db 1 2 0 0 0 0 (.pointer none) 0 3 w hs) fun _ _ => Lv Av <| Nl <| Ps <| Rt <| Rt1 ?_
  intro w' hw; exact ⟨(), trivial, rfl, hw.pick (by repeat (first | exact .nil | apply Pick.cons | exact .here | apply Ext.there))⟩
theorem wipe_c (rb db cb : Nat) (k : Cnt) (v : Value) (ph p : Int) (w : World) (hs : Sat ([rvO rb db 1 ph 0 0 0 0 (.pointer none) 0] :: devS db cb (fmtD 8) k) w) : Calls Tryz.prog 285 [.pointer (some ⟨rb, 0, none⟩), v, .int .i64 p].toArray w fun e w' => ∃ k' : Cnt, True ∧ e = .returned (.int .i64 0) ∧ Hp ⟨w, V.ids ([rvO rb db 1 ph 0 0 0 0 (.pointer none) 0] :: devS db cb (fmtD 8) k)⟩ ([rvO rb db 1 p 0 0 0 0 (.pointer none) 0] :: devS db cb (fmtD 8) k') w' := by
  refine V.calls ([rvO rb db 1 ph 0 0 0 0 (.pointer none) 0] :: devS db cb (fmtD 8) k) Tryz.func285 rfl Tryz.ntmps285 (Nat.le_of_ble_eq_true rfl) hs <| Sq <| Rg <| Lv Av <| Nl <| Ps <| Sq <| Bk <| CW.loopU 0 <| Sq <| Sq <| Qt <| Qv Mv <| Qv Nz <| Qv (Fa 4 3) <| Qv Ld <| Qv Mv <| Qv Nz <| Qv (Fa 5 313) <| Qv Ld <| Qv Ln <| Qv Cm <| Ql <| Ps <| Cf <| Xt <| Te <| Te <| Bh <| Ps <| Sq <| Rg <| Lv Mv <| Lv Nz <| Lv (Fa 0 91) <| Lv Ld <| Le (CM (devS db cb (fmtD 8) k) fun w hw hs => fence_c db cb (fmtD 8) k (by decide) w hs) fun k' _ => ?_
  rw [f8_fen]
  refine Nl <| Ps <| Sq <| Rg <| Lv Mv <| Lv Mv <| Le (CM ([[rvO rb db 1 ph 0 0 0 0 (.pointer none) 0]]) fun w hw hs => to_c rb db 1 ph 0 0 0 0 (.pointer none) 0 p w hs) fun _ _ => Lv Av <| Nl <| Ps <| Rt <| Rt1 ?_
  intro w' hw; exact ⟨k', trivial, rfl, hw.pick (by repeat (first | exact .nil | apply Pick.cons | exact .here | apply Ext.there))⟩
theorem rscrub_c (rb db cb : Nat) (k : Cnt)  (w : World) (hs : Sat ([rvO rb db 1 3 0 0 0 0 (.pointer none) 0] :: devS db cb (fmtD 8) k) w) : Calls Tryz.prog 226 [.pointer (some ⟨rb, 0, none⟩)].toArray w fun e w' => ∃ k' : Cnt, True ∧ e = .returned (.int .i64 0) ∧ Hp ⟨w, V.ids ([rvO rb db 1 3 0 0 0 0 (.pointer none) 0] :: devS db cb (fmtD 8) k)⟩ ([rvO rb db 1 4 0 0 0 0 (.pointer none) 0] :: devS db cb (fmtD 8) k') w' := by
  refine V.calls ([rvO rb db 1 3 0 0 0 0 (.pointer none) 0] :: devS db cb (fmtD 8) k) Tryz.func226 rfl Tryz.ntmps226 (Nat.le_of_ble_eq_true rfl) hs <| Sq <| Rg <| Le XS fun b1 _ => Lv Av <| Nl <| Ps <| Sq <| Rg <| Lv Ld <| Lv Mf <| Le (CM (([rvO rb db 1 3 0 0 0 0 (.pointer none) 0] :: devS db cb (fmtD 8) k)) fun w hw hs => wipe_c rb db cb k _ 3 4 w hs) fun k' _ => Lv Av <| Nl <| Ps <| Rt <| Rt1 ?_
  intro w' hw; exact ⟨k', trivial, rfl, hw.pick (by repeat (first | exact .nil | apply Pick.cons | exact .here | apply Ext.there))⟩
theorem rantis_c (rb db cb : Nat) (k : Cnt)  (w : World) (hs : Sat ([rvO rb db 1 4 0 0 0 0 (.pointer none) 0] :: devS db cb (fmtD 8) k) w) : Calls Tryz.prog 227 [.pointer (some ⟨rb, 0, none⟩)].toArray w fun e w' => ∃ k' : Cnt, True ∧ e = .returned (.int .i64 0) ∧ Hp ⟨w, V.ids ([rvO rb db 1 4 0 0 0 0 (.pointer none) 0] :: devS db cb (fmtD 8) k)⟩ ([rvO rb db 1 5 0 0 0 0 (.pointer none) 0] :: devS db cb (fmtD 8) k') w' := by
  refine V.calls ([rvO rb db 1 4 0 0 0 0 (.pointer none) 0] :: devS db cb (fmtD 8) k) Tryz.func227 rfl Tryz.ntmps227 (Nat.le_of_ble_eq_true rfl) hs <| Sq <| Rg <| Lv Av <| Nl <| Ps <| Sq <| Rg <| Lv Mv <| Lv Mv <| Lv Mf <| Le (CM (([rvO rb db 1 4 0 0 0 0 (.pointer none) 0] :: devS db cb (fmtD 8) k)) fun w hw hs => wipe_c rb db cb k _ 4 5 w hs) fun k' _ => Lv Av <| Nl <| Ps <| Rt <| Rt1 ?_
  intro w' hw; exact ⟨k', trivial, rfl, hw.pick (by repeat (first | exact .nil | apply Pick.cons | exact .here | apply Ext.there))⟩
end Go.Proofs.YtlpbjmbgopfkhaaGreat

/- The store is built, once: what it holds. -/
namespace Go.Proofs.YtlpbjmbgopfkhaaGreat
open Go Go.RowKit V
set_option linter.unusedVariables false
set_option maxRecDepth 100000
open V (str byC ownV ownG ownS ownOk)
set_option maxHeartbeats 1600000 in
theorem rebM_c (pb rb db cb : Nat) (D : List Ce) (k : Cnt) (hL : D.length = 10) (ph nx : Int) (dn st : Int) (w : World) (hs : Sat ([pbO pb rb] :: [rvO rb db 1 ph 0 nx dn st (.pointer none) 0] :: devS db cb D k) w) : Calls Tryz.prog 288 [.pointer (some ⟨pb, 0, none⟩)].toArray w fun e w' => ∃ x : Aren, True ∧ e = .returned (.tuple #[]) ∧ Hp ⟨w, V.ids ([pbO pb rb] :: [rvO rb db 1 ph 0 nx dn st (.pointer none) 0] :: devS db cb D k)⟩ ([pbO pb rb] :: [rvO rb db 1 ph 0 nx dn st (.pointer (some ⟨x.a, 0, none⟩)) 0] :: (arS x db 0 0 ++ devS db cb D k)) w' := by
  refine V.calls ([pbO pb rb] :: [rvO rb db 1 ph 0 nx dn st (.pointer none) 0] :: devS db cb D k) Tryz.func288 rfl Tryz.ntmps288 (Nat.le_of_ble_eq_true rfl) hs <| Dr ([[pbO pb rb]]) <| Rv 0 rfl Ld <| Rv 1 rfl Ld <| Rv 2 rfl Ld <| Rv 3 rfl Nz <| Rv 4 rfl (Fa 0 91) <| Rv 6 rfl Ld <| Rv 7 rfl Nz <| Rv 8 rfl (Fa 1 3) <| Rv 10 rfl Ld <| Rv 11 rfl Nz <| Rv 12 rfl (Fa 3 39) <| Rv 14 rfl Ld <| Rv 15 rfl Nz <| Rv 16 rfl (Fa 6 313) <| RW.batch [(5, 7, _), (9, 11, _), (13, 15, _), (17, 19, _)] 10 rfl (by kernel_rfl) rfl rfl (by simp) (by simp) ⟨⟨_, rfl, rfl, rfl, Eff.ofVal (Val.load rfl Tryz.isAgg91 (by repeat (first | exact .here | exact .inner .here | exact .inner (.inner .here) | refine .there ?_)) (by rfl))⟩, ⟨_, rfl, rfl, rfl, Eff.ofVal (Val.load rfl Tryz.isAgg3 (by repeat (first | exact .here | exact .inner .here | exact .inner (.inner .here) | refine .there ?_)) (by rfl))⟩, ⟨_, rfl, rfl, rfl, Eff.ofVal (Val.load rfl Tryz.isAgg39 (by repeat (first | exact .here | exact .inner .here | exact .inner (.inner .here) | refine .there ?_)) (by rfl))⟩, ⟨_, rfl, rfl, rfl, Eff.ofVal (Val.load rfl Tryz.isAgg313 (by repeat (first | exact .here | exact .inner .here | exact .inner (.inner .here) | refine .there ?_)) (by rfl))⟩, trivial⟩ ⟨_, (by repeat (first | exact .nil | apply Pick.cons | exact .here | apply Ext.there))⟩ <| Re 18 rfl (CM (devS db cb D k) fun w hw hs => overM_c db cb D k hL w hs) fun x _ => Rv 19 rfl Mv <| Rv 20 rfl Ex <| Rv 21 rfl Ex <| Rv 22 rfl Nz <| Rv 23 rfl (Fa 10 118) <| ReN 24 rfl StS fun _ _ => Rv 25 rfl Nz <| Rv 26 rfl (Fa 11 45) <| ReN 27 rfl StS fun _ _ => Rd <| PQ.end0 rfl ?_
  intro w' hw; exact ⟨x, trivial, rfl, hw.pick (by repeat (first | exact .nil | apply Pick.cons | exact .here | apply Ext.there))⟩
theorem slowM_c (pb rb db cb : Nat) (D : List Ce) (k : Cnt) (hL : D.length = 10) (ph nx : Int) (w : World) (hs : Sat ([pbO pb rb] :: [rvO rb db 1 ph 0 nx 0 0 (.pointer none) 0] :: devS db cb D k) w) : Calls Tryz.prog 173 [.pointer (some ⟨rb, 7, none⟩), .func (.func 288) #[] #[.pointer (some ⟨pb, 0, none⟩)]].toArray w fun e w' => ∃ x : Aren, True ∧ e = .returned (.tuple #[]) ∧ Hp ⟨w, V.ids ([pbO pb rb] :: [rvO rb db 1 ph 0 nx 0 0 (.pointer none) 0] :: devS db cb D k)⟩ ([pbO pb rb] :: [rvO rb db 1 ph 0 nx 1 0 (.pointer (some ⟨x.a, 0, none⟩)) 0] :: (arS x db 0 0 ++ devS db cb D k)) w' := by
  refine V.callsDf ([pbO pb rb] :: [rvO rb db 1 ph 0 nx 0 0 (.pointer none) 0] :: devS db cb D k) Tryz.func173 rfl Tryz.ntmps173 (Nat.le_of_ble_eq_true rfl) hs <| Sq <| Rg <| Lv Mv <| Lv Nz <| Lv (Fa 1 197) <| Le (CM ([[rvO rb db 1 ph 0 nx 0 0 (.pointer none) 0]]) fun w hw hs => lock_c rb 8 (rvL db 1 ph 0 nx 0 0 (.pointer none) 0) 315 w rfl hs) fun _ _ => Nl <| Ps <| Sq <| Rg <| Lv Mv <| Lv Nz <| Lv (Fa 1 197) <| LW.dfr rfl rfl <| CD.seq <| CD.region <| Lv Mv <| Lv Nz <| Lv (Fa 0 193) <| Le (CV fun w hw => bLoad_c 0 rb 7 (rvL db 1 ph 0 nx 0 1 (.pointer none) 0) 315 w rfl hw.pk.sat) fun _ _ => Lv Nt <| Nl <| PQ.seqD <| CD.cond_t rfl <| CD.seq <| CD.region <| Lv Mv <| Lv Nz <| Lv (Fa 0 193) <| LW.dfr2 rfl rfl <| CD.region <| Lv Mv <| Le (Eff.callFM (f := 288) (caps := [.pointer (some ⟨pb, 0, none⟩)]) ([pbO pb rb] :: [rvO rb db 1 ph 0 nx 0 1 (.pointer none) 0] :: devS db cb D k) (by repeat (first | exact .nil | apply Pick.cons | exact .here | apply Ext.there)) rfl rfl Tryz.call288 (fun w hw hs => rebM_c pb rb db cb D k hL ph nx 0 1 w hs)) fun x _ => Nl <| PQ.endD fun ac w' ha hw => ?_
  skip
  refine Leaves.call (ss := [[rvO rb db 1 ph 0 nx 0 1 (.pointer (some ⟨x.a, 0, none⟩)) 0]]) hw (by repeat (first | exact .nil | apply Pick.cons | exact .here | apply Ext.there)) Tryz.call205 (fun hs => sto_d _ rb 7 (rvL db 1 ph 0 nx 0 1 (.pointer (some ⟨x.a, 0, none⟩)) 0) 315 w' rfl hs) fun _ w' _ hw => ?_
  skip
  refine Leaves.call (ss := [[rvO rb db 1 ph 0 nx 1 1 (.pointer (some ⟨x.a, 0, none⟩)) 0]]) hw (by repeat (first | exact .nil | apply Pick.cons | exact .here | apply Ext.there)) Tryz.call204 (fun hs => unl_d rb 8 (rvL db 1 ph 0 nx 1 1 (.pointer (some ⟨x.a, 0, none⟩)) 0) 315 w' rfl hs) fun _ w' _ hw => ?_
  skip
  exact Leaves.nil0 rfl ⟨x, trivial, rfl, hw.pick (by repeat (first | exact .nil | apply Pick.cons | exact .here | apply Ext.there))⟩
theorem doM_c (pb rb db cb : Nat) (D : List Ce) (k : Cnt) (hL : D.length = 10) (ph nx : Int) (w : World) (hs : Sat ([pbO pb rb] :: [rvO rb db 1 ph 0 nx 0 0 (.pointer none) 0] :: devS db cb D k) w) : Calls Tryz.prog 143 [.pointer (some ⟨rb, 7, none⟩), .func (.func 288) #[] #[.pointer (some ⟨pb, 0, none⟩)]].toArray w fun e w' => ∃ x : Aren, True ∧ e = .returned (.tuple #[]) ∧ Hp ⟨w, V.ids ([pbO pb rb] :: [rvO rb db 1 ph 0 nx 0 0 (.pointer none) 0] :: devS db cb D k)⟩ ([pbO pb rb] :: [rvO rb db 1 ph 0 nx 1 0 (.pointer (some ⟨x.a, 0, none⟩)) 0] :: (arS x db 0 0 ++ devS db cb D k)) w' := by
  refine V.calls ([pbO pb rb] :: [rvO rb db 1 ph 0 nx 0 0 (.pointer none) 0] :: devS db cb D k) Tryz.func143 rfl Tryz.ntmps143 (Nat.le_of_ble_eq_true rfl) hs <| Sq <| Rg <| Lv Mv <| Lv Nz <| Lv (Fa 0 193) <| Le (CV fun w hw => bLoad_c 0 rb 7 (rvL db 1 ph 0 nx 0 0 (.pointer none) 0) 315 w rfl hw.pk.sat) fun _ _ => Lv Nt <| Nl <| Ps <| Ct <| Rg <| Lv Mv <| Lv Mv <| Le (CM (([pbO pb rb] :: [rvO rb db 1 ph 0 nx 0 0 (.pointer none) 0] :: devS db cb D k)) fun w hw hs => slowM_c pb rb db cb D k hL ph nx w hs) fun x _ => Nl <| PQ.end0 rfl ?_
  intro w' hw; exact ⟨x, trivial, rfl, hw.pick (by repeat (first | exact .nil | apply Pick.cons | exact .here | apply Ext.there))⟩
theorem rbuildM_c (rb db cb : Nat) (k : Cnt) (w : World) (hs : Sat ([rvO rb db 1 5 0 0 0 0 (.pointer none) 0] :: devS db cb (fmtD 8) k) w) : Calls Tryz.prog 228 [.pointer (some ⟨rb, 0, none⟩)].toArray w fun e w' => ∃ x : Aren, True ∧ e = .returned (.int .i64 0) ∧ Hp ⟨w, V.ids ([rvO rb db 1 5 0 0 0 0 (.pointer none) 0] :: devS db cb (fmtD 8) k)⟩ ([rvO rb db 1 6 0 0 1 0 (.pointer (some ⟨x.a, 0, none⟩)) 0] :: (arS x db 0 0 ++ devS db cb (fmtD 8) k)) w' := by
  refine V.calls ([rvO rb db 1 5 0 0 0 0 (.pointer none) 0] :: devS db cb (fmtD 8) k) Tryz.func228 rfl Tryz.ntmps228 (Nat.le_of_ble_eq_true rfl) hs <| Sq <| Rg <| Le XS fun b1 _ => Lv Av <| Nl <| Ps <| Sq <| Rg <| Lv Ld <| Lv Nz <| Lv (Fa 7 199) <| Lv Mf <| Le (CM (([pbO b1 rb] :: [rvO rb db 1 5 0 0 0 0 (.pointer none) 0] :: devS db cb (fmtD 8) k)) fun w hw hs => doM_c b1 rb db cb (fmtD 8) k f8_len 5 0 w hs) fun x _ => Nl <| Ps <| Sq <| Sq <| Rg <| Lv Ld <| Lv Nz <| Lv (Fa 11 45) <| Lv Ld <| Lv Cm <| Nl <| Ps <| Cf <| Sk <| Ps <| Sq <| Rg <| Lv Ld <| Le (CM ([[rvO rb db 1 5 0 0 1 0 (.pointer (some ⟨x.a, 0, none⟩)) 0]]) fun w hw hs => to_c rb db 1 5 0 0 1 0 (.pointer (some ⟨x.a, 0, none⟩)) 0 6 w hs) fun _ _ => Lv Av <| Nl <| Ps <| Rt <| Rt1 ?_
  intro w' hw; exact ⟨x, trivial, rfl, hw.pick (by repeat (first | exact .nil | apply Pick.cons | exact .here | apply Ext.there))⟩
end Go.Proofs.YtlpbjmbgopfkhaaGreat

/- A revival, step by step: what it leaves. -/
namespace Go.Proofs.YtlpbjmbgopfkhaaGreat
open Go Go.RowKit V
set_option linter.unusedVariables false
set_option maxRecDepth 100000
instance : Und Tryz.prog 316 (dOf Tryz.underlying316) := ⟨Tryz.underlying316⟩
instance : Siz Tryz.prog 316 (kOf Tryz.sizeOf316) := ⟨Tryz.sizeOf316⟩
instance : AgF Tryz.prog 316 := ⟨Tryz.isAgg316⟩
instance : Zer Tryz.prog 316 (zOf Tryz.zeroValue316) := ⟨Tryz.zeroValue316⟩
instance : Und Tryz.prog 317 (dOf Tryz.underlying317) := ⟨Tryz.underlying317⟩
instance : Siz Tryz.prog 317 (kOf Tryz.sizeOf317) := ⟨Tryz.sizeOf317⟩
instance : AgT Tryz.prog 317 := ⟨Tryz.isAgg317⟩
instance : Zer Tryz.prog 317 (zOf Tryz.zeroValue317) := ⟨Tryz.zeroValue317⟩
instance : Cal Tryz.prog 191 := ⟨Tryz.call191⟩
open V (str byC ownV ownG ownS ownOk)
abbrev phL : List Value := [.func (.func 223) #[] #[], .func (.func 224) #[] #[], .func (.func 225) #[] #[], .func (.func 226) #[] #[], .func (.func 227) #[] #[], .func (.func 228) #[] #[]]
theorem phases_c (w : World) : Calls Tryz.prog 191 [].toArray w fun e w' => e = .returned (.agg phL.toArray) ∧ Below w.heap.size w w' := by
  refine V.calls [] Tryz.func191 rfl Tryz.ntmps191 (Nat.le_of_ble_eq_true rfl) (V.sat_nil _) <| Sq <| Rg <| Le AA fun b0 _ => Nl <| Ps <| Sq <| Rg <| Lv (Val.buildArr [_, _, _, _, _, _] Tryz.zeroValue317 Tryz.underlying317 Tryz.sizeOf316 rfl (by rfl)) <| LeN StW fun _ _ => Nl <| Ps <| Rt <| PQ.retC (l := phL) rfl rfl (by repeat (first | exact .here | exact .inner .here | exact .inner (.inner .here) | refine .there ?_)) Tryz.isAgg317 (by exact Tryz.sizeOf317) ?_
  intro w' hw; exact ⟨rfl, hw.below⟩
theorem st_open (rb db cb : Nat) (k : Cnt)  (w : World) (hs : Sat ([rvO rb db 1 0 0 0 0 0 (.pointer none) 0] :: devS db cb (fmtD 8) k) w) : Calls Tryz.prog 161 [.pointer (some ⟨rb, 0, none⟩)].toArray w fun e w' => ∃ _u : Unit, True ∧ e = .returned (.int .i64 0) ∧ Hp ⟨w, V.ids ([rvO rb db 1 0 0 0 0 0 (.pointer none) 0] :: devS db cb (fmtD 8) k)⟩ ([rvO rb db 1 1 0 0 0 0 (.pointer none) 0] :: devS db cb (fmtD 8) k) w' := by
  refine V.calls ([rvO rb db 1 0 0 0 0 0 (.pointer none) 0] :: devS db cb (fmtD 8) k) Tryz.func161 rfl Tryz.ntmps161 (Nat.le_of_ble_eq_true rfl) hs <| Sq <| Rg <| Lv Av <| Nl <| Ps <| Sq <| Sq <| Rg <| Lv Mv <| Lv EP <| Nl <| Ps <| Cf <| Sk <| Ps <| Sq <| Rg <| Le (CV fun w hw => phases_c w) fun _ _ => Le AA fun b3 _ => LeN StW fun _ _ => Nl <| Ps <| Sq <| Sq <| Rg <| Lv Mv <| Lv Nz <| Lv (Fa 2 3) <| Lv Ld <| Lv Cm <| Nl <| Ps <| Cf <| Sk <| Ps <| Sq <| Rg <| Lv Mv <| Lv Nz <| Lv (Fa 2 3) <| Lv Ld <| Lv (Val.indexAddrA (i := 0) rfl rfl Tryz.underlying317 Tryz.sizeOf316 (by decide)) <| Lv Ld <| Lv Mv <| Le (Eff.callFM (f := 223) (caps := []) (([rvO rb db 1 0 0 0 0 0 (.pointer none) 0] :: devS db cb (fmtD 8) k)) (by repeat (first | exact .nil | apply Pick.cons | exact .here | apply Ext.there)) rfl rfl Tryz.call223 (fun w hw hs => ropen_c rb db cb k w hs)) fun _ _ => Lv Av <| Nl <| Ps <| Sq <| Sq <| Rg <| Lv Mv <| Lv Cm <| Nl <| Ps <| Cf <| Sk <| Ps <| Sq <| Rg <| Lv Mv <| Lv Av <| Nl <| Ps <| Rt <| Rt1 ?_
  intro w' hw; exact ⟨(), trivial, rfl, hw.pick (by repeat (first | exact .nil | apply Pick.cons | exact .here | apply Ext.there))⟩
theorem st_scan (rb db cb : Nat) (k : Cnt) (nx : Nat) (hn : nx < 7) (w : World) (hs : Sat ([rvO rb db 1 1 0 ((nx : Nat) : Int) 0 0 (.pointer none) 0] :: devS db cb (fmtD 8) k) w) : Calls Tryz.prog 161 [.pointer (some ⟨rb, 0, none⟩)].toArray w fun e w' => ∃ _u : Unit, True ∧ e = .returned (.int .i64 0) ∧ Hp ⟨w, V.ids ([rvO rb db 1 1 0 ((nx : Nat) : Int) 0 0 (.pointer none) 0] :: devS db cb (fmtD 8) k)⟩ ([rvO rb db 1 1 0 ((nx + 1 : Nat) : Int) 0 0 (.pointer none) 0] :: devS db cb (fmtD 8) k) w' := by
  refine V.calls ([rvO rb db 1 1 0 ((nx : Nat) : Int) 0 0 (.pointer none) 0] :: devS db cb (fmtD 8) k) Tryz.func161 rfl Tryz.ntmps161 (Nat.le_of_ble_eq_true rfl) hs <| Sq <| Rg <| Lv Av <| Nl <| Ps <| Sq <| Sq <| Rg <| Lv Mv <| Lv EP <| Nl <| Ps <| Cf <| Sk <| Ps <| Sq <| Rg <| Le (CV fun w hw => phases_c w) fun _ _ => Le AA fun b3 _ => LeN StW fun _ _ => Nl <| Ps <| Sq <| Sq <| Rg <| Lv Mv <| Lv Nz <| Lv (Fa 2 3) <| Lv Ld <| Lv Cm <| Nl <| Ps <| Cf <| Sk <| Ps <| Sq <| Rg <| Lv Mv <| Lv Nz <| Lv (Fa 2 3) <| Lv Ld <| Lv (Val.indexAddrA (i := 1) rfl rfl Tryz.underlying317 Tryz.sizeOf316 (by decide)) <| Lv Ld <| Lv Mv <| Le (Eff.callFM (f := 224) (caps := []) (([rvO rb db 1 1 0 ((nx : Nat) : Int) 0 0 (.pointer none) 0] :: devS db cb (fmtD 8) k)) (by repeat (first | exact .nil | apply Pick.cons | exact .here | apply Ext.there)) rfl rfl Tryz.call224 (fun w hw hs => rscan_c rb db cb k nx hn w hs)) fun _ _ => Lv Av <| Nl <| Ps <| Sq <| Sq <| Rg <| Lv Mv <| Lv Cm <| Nl <| Ps <| Cf <| Sk <| Ps <| Sq <| Rg <| Lv Mv <| Lv Av <| Nl <| Ps <| Rt <| Rt1 ?_
  intro w' hw; exact ⟨(), trivial, rfl, hw.pick (by repeat (first | exact .nil | apply Pick.cons | exact .here | apply Ext.there))⟩
theorem st_scanL (rb db cb : Nat) (k : Cnt)  (w : World) (hs : Sat ([rvO rb db 1 1 0 ((7 : Nat) : Int) 0 0 (.pointer none) 0] :: devS db cb (fmtD 8) k) w) : Calls Tryz.prog 161 [.pointer (some ⟨rb, 0, none⟩)].toArray w fun e w' => ∃ _u : Unit, True ∧ e = .returned (.int .i64 0) ∧ Hp ⟨w, V.ids ([rvO rb db 1 1 0 ((7 : Nat) : Int) 0 0 (.pointer none) 0] :: devS db cb (fmtD 8) k)⟩ ([rvO rb db 1 2 0 0 0 0 (.pointer none) 0] :: devS db cb (fmtD 8) k) w' := by
  refine V.calls ([rvO rb db 1 1 0 ((7 : Nat) : Int) 0 0 (.pointer none) 0] :: devS db cb (fmtD 8) k) Tryz.func161 rfl Tryz.ntmps161 (Nat.le_of_ble_eq_true rfl) hs <| Sq <| Rg <| Lv Av <| Nl <| Ps <| Sq <| Sq <| Rg <| Lv Mv <| Lv EP <| Nl <| Ps <| Cf <| Sk <| Ps <| Sq <| Rg <| Le (CV fun w hw => phases_c w) fun _ _ => Le AA fun b3 _ => LeN StW fun _ _ => Nl <| Ps <| Sq <| Sq <| Rg <| Lv Mv <| Lv Nz <| Lv (Fa 2 3) <| Lv Ld <| Lv Cm <| Nl <| Ps <| Cf <| Sk <| Ps <| Sq <| Rg <| Lv Mv <| Lv Nz <| Lv (Fa 2 3) <| Lv Ld <| Lv (Val.indexAddrA (i := 1) rfl rfl Tryz.underlying317 Tryz.sizeOf316 (by decide)) <| Lv Ld <| Lv Mv <| Le (Eff.callFM (f := 224) (caps := []) (([rvO rb db 1 1 0 ((7 : Nat) : Int) 0 0 (.pointer none) 0] :: devS db cb (fmtD 8) k)) (by repeat (first | exact .nil | apply Pick.cons | exact .here | apply Ext.there)) rfl rfl Tryz.call224 (fun w hw hs => rscanL_c rb db cb k w hs)) fun _ _ => Lv Av <| Nl <| Ps <| Sq <| Sq <| Rg <| Lv Mv <| Lv Cm <| Nl <| Ps <| Cf <| Sk <| Ps <| Sq <| Rg <| Lv Mv <| Lv Av <| Nl <| Ps <| Rt <| Rt1 ?_
  intro w' hw; exact ⟨(), trivial, rfl, hw.pick (by repeat (first | exact .nil | apply Pick.cons | exact .here | apply Ext.there))⟩
theorem st_decide (rb db cb : Nat) (k : Cnt)  (w : World) (hs : Sat ([rvO rb db 1 2 0 0 0 0 (.pointer none) 0] :: devS db cb (fmtD 8) k) w) : Calls Tryz.prog 161 [.pointer (some ⟨rb, 0, none⟩)].toArray w fun e w' => ∃ _u : Unit, True ∧ e = .returned (.int .i64 0) ∧ Hp ⟨w, V.ids ([rvO rb db 1 2 0 0 0 0 (.pointer none) 0] :: devS db cb (fmtD 8) k)⟩ ([rvO rb db 1 3 0 0 0 0 (.pointer none) 0] :: devS db cb (fmtD 8) k) w' := by
  refine V.calls ([rvO rb db 1 2 0 0 0 0 (.pointer none) 0] :: devS db cb (fmtD 8) k) Tryz.func161 rfl Tryz.ntmps161 (Nat.le_of_ble_eq_true rfl) hs <| Sq <| Rg <| Lv Av <| Nl <| Ps <| Sq <| Sq <| Rg <| Lv Mv <| Lv EP <| Nl <| Ps <| Cf <| Sk <| Ps <| Sq <| Rg <| Le (CV fun w hw => phases_c w) fun _ _ => Le AA fun b3 _ => LeN StW fun _ _ => Nl <| Ps <| Sq <| Sq <| Rg <| Lv Mv <| Lv Nz <| Lv (Fa 2 3) <| Lv Ld <| Lv Cm <| Nl <| Ps <| Cf <| Sk <| Ps <| Sq <| Rg <| Lv Mv <| Lv Nz <| Lv (Fa 2 3) <| Lv Ld <| Lv (Val.indexAddrA (i := 2) rfl rfl Tryz.underlying317 Tryz.sizeOf316 (by decide)) <| Lv Ld <| Lv Mv <| Le (Eff.callFM (f := 225) (caps := []) (([rvO rb db 1 2 0 0 0 0 (.pointer none) 0] :: devS db cb (fmtD 8) k)) (by repeat (first | exact .nil | apply Pick.cons | exact .here | apply Ext.there)) rfl rfl Tryz.call225 (fun w hw hs => rdecide_c rb db cb k w hs)) fun _ _ => Lv Av <| Nl <| Ps <| Sq <| Sq <| Rg <| Lv Mv <| Lv Cm <| Nl <| Ps <| Cf <| Sk <| Ps <| Sq <| Rg <| Lv Mv <| Lv Av <| Nl <| Ps <| Rt <| Rt1 ?_
  intro w' hw; exact ⟨(), trivial, rfl, hw.pick (by repeat (first | exact .nil | apply Pick.cons | exact .here | apply Ext.there))⟩
theorem st_scrub (rb db cb : Nat) (k : Cnt)  (w : World) (hs : Sat ([rvO rb db 1 3 0 0 0 0 (.pointer none) 0] :: devS db cb (fmtD 8) k) w) : Calls Tryz.prog 161 [.pointer (some ⟨rb, 0, none⟩)].toArray w fun e w' => ∃ k' : Cnt, True ∧ e = .returned (.int .i64 0) ∧ Hp ⟨w, V.ids ([rvO rb db 1 3 0 0 0 0 (.pointer none) 0] :: devS db cb (fmtD 8) k)⟩ ([rvO rb db 1 4 0 0 0 0 (.pointer none) 0] :: devS db cb (fmtD 8) k') w' := by
  refine V.calls ([rvO rb db 1 3 0 0 0 0 (.pointer none) 0] :: devS db cb (fmtD 8) k) Tryz.func161 rfl Tryz.ntmps161 (Nat.le_of_ble_eq_true rfl) hs <| Sq <| Rg <| Lv Av <| Nl <| Ps <| Sq <| Sq <| Rg <| Lv Mv <| Lv EP <| Nl <| Ps <| Cf <| Sk <| Ps <| Sq <| Rg <| Le (CV fun w hw => phases_c w) fun _ _ => Le AA fun b3 _ => LeN StW fun _ _ => Nl <| Ps <| Sq <| Sq <| Rg <| Lv Mv <| Lv Nz <| Lv (Fa 2 3) <| Lv Ld <| Lv Cm <| Nl <| Ps <| Cf <| Sk <| Ps <| Sq <| Rg <| Lv Mv <| Lv Nz <| Lv (Fa 2 3) <| Lv Ld <| Lv (Val.indexAddrA (i := 3) rfl rfl Tryz.underlying317 Tryz.sizeOf316 (by decide)) <| Lv Ld <| Lv Mv <| Le (Eff.callFM (f := 226) (caps := []) (([rvO rb db 1 3 0 0 0 0 (.pointer none) 0] :: devS db cb (fmtD 8) k)) (by repeat (first | exact .nil | apply Pick.cons | exact .here | apply Ext.there)) rfl rfl Tryz.call226 (fun w hw hs => rscrub_c rb db cb k w hs)) fun k' _ => Lv Av <| Nl <| Ps <| Sq <| Sq <| Rg <| Lv Mv <| Lv Cm <| Nl <| Ps <| Cf <| Sk <| Ps <| Sq <| Rg <| Lv Mv <| Lv Av <| Nl <| Ps <| Rt <| Rt1 ?_
  intro w' hw; exact ⟨k', trivial, rfl, hw.pick (by repeat (first | exact .nil | apply Pick.cons | exact .here | apply Ext.there))⟩
theorem st_antis (rb db cb : Nat) (k : Cnt)  (w : World) (hs : Sat ([rvO rb db 1 4 0 0 0 0 (.pointer none) 0] :: devS db cb (fmtD 8) k) w) : Calls Tryz.prog 161 [.pointer (some ⟨rb, 0, none⟩)].toArray w fun e w' => ∃ k' : Cnt, True ∧ e = .returned (.int .i64 0) ∧ Hp ⟨w, V.ids ([rvO rb db 1 4 0 0 0 0 (.pointer none) 0] :: devS db cb (fmtD 8) k)⟩ ([rvO rb db 1 5 0 0 0 0 (.pointer none) 0] :: devS db cb (fmtD 8) k') w' := by
  refine V.calls ([rvO rb db 1 4 0 0 0 0 (.pointer none) 0] :: devS db cb (fmtD 8) k) Tryz.func161 rfl Tryz.ntmps161 (Nat.le_of_ble_eq_true rfl) hs <| Sq <| Rg <| Lv Av <| Nl <| Ps <| Sq <| Sq <| Rg <| Lv Mv <| Lv EP <| Nl <| Ps <| Cf <| Sk <| Ps <| Sq <| Rg <| Le (CV fun w hw => phases_c w) fun _ _ => Le AA fun b3 _ => LeN StW fun _ _ => Nl <| Ps <| Sq <| Sq <| Rg <| Lv Mv <| Lv Nz <| Lv (Fa 2 3) <| Lv Ld <| Lv Cm <| Nl <| Ps <| Cf <| Sk <| Ps <| Sq <| Rg <| Lv Mv <| Lv Nz <| Lv (Fa 2 3) <| Lv Ld <| Lv (Val.indexAddrA (i := 4) rfl rfl Tryz.underlying317 Tryz.sizeOf316 (by decide)) <| Lv Ld <| Lv Mv <| Le (Eff.callFM (f := 227) (caps := []) (([rvO rb db 1 4 0 0 0 0 (.pointer none) 0] :: devS db cb (fmtD 8) k)) (by repeat (first | exact .nil | apply Pick.cons | exact .here | apply Ext.there)) rfl rfl Tryz.call227 (fun w hw hs => rantis_c rb db cb k w hs)) fun k' _ => Lv Av <| Nl <| Ps <| Sq <| Sq <| Rg <| Lv Mv <| Lv Cm <| Nl <| Ps <| Cf <| Sk <| Ps <| Sq <| Rg <| Lv Mv <| Lv Av <| Nl <| Ps <| Rt <| Rt1 ?_
  intro w' hw; exact ⟨k', trivial, rfl, hw.pick (by repeat (first | exact .nil | apply Pick.cons | exact .here | apply Ext.there))⟩
theorem st_buildM (rb db cb : Nat) (k : Cnt)  (w : World) (hs : Sat ([rvO rb db 1 5 0 0 0 0 (.pointer none) 0] :: devS db cb (fmtD 8) k) w) : Calls Tryz.prog 161 [.pointer (some ⟨rb, 0, none⟩)].toArray w fun e w' => ∃ x : Aren, True ∧ e = .returned (.int .i64 0) ∧ Hp ⟨w, V.ids ([rvO rb db 1 5 0 0 0 0 (.pointer none) 0] :: devS db cb (fmtD 8) k)⟩ ([rvO rb db 1 6 0 0 1 0 (.pointer (some ⟨x.a, 0, none⟩)) 0] :: (arS x db 0 0 ++ devS db cb (fmtD 8) k)) w' := by
  refine V.calls ([rvO rb db 1 5 0 0 0 0 (.pointer none) 0] :: devS db cb (fmtD 8) k) Tryz.func161 rfl Tryz.ntmps161 (Nat.le_of_ble_eq_true rfl) hs <| Sq <| Rg <| Lv Av <| Nl <| Ps <| Sq <| Sq <| Rg <| Lv Mv <| Lv EP <| Nl <| Ps <| Cf <| Sk <| Ps <| Sq <| Rg <| Le (CV fun w hw => phases_c w) fun _ _ => Le AA fun b3 _ => LeN StW fun _ _ => Nl <| Ps <| Sq <| Sq <| Rg <| Lv Mv <| Lv Nz <| Lv (Fa 2 3) <| Lv Ld <| Lv Cm <| Nl <| Ps <| Cf <| Sk <| Ps <| Sq <| Rg <| Lv Mv <| Lv Nz <| Lv (Fa 2 3) <| Lv Ld <| Lv (Val.indexAddrA (i := 5) rfl rfl Tryz.underlying317 Tryz.sizeOf316 (by decide)) <| Lv Ld <| Lv Mv <| Le (Eff.callFM (f := 228) (caps := []) (([rvO rb db 1 5 0 0 0 0 (.pointer none) 0] :: devS db cb (fmtD 8) k)) (by repeat (first | exact .nil | apply Pick.cons | exact .here | apply Ext.there)) rfl rfl Tryz.call228 (fun w hw hs => rbuildM_c rb db cb k w hs)) fun x _ => Lv Av <| Nl <| Ps <| Sq <| Sq <| Rg <| Lv Mv <| Lv Cm <| Nl <| Ps <| Cf <| Sk <| Ps <| Sq <| Rg <| Lv Mv <| Lv Av <| Nl <| Ps <| Rt <| Rt1 ?_
  intro w' hw; exact ⟨x, trivial, rfl, hw.pick (by repeat (first | exact .nil | apply Pick.cons | exact .here | apply Ext.there))⟩
/-! ### All thirteen steps -/
abbrev phF (i : Nat) : Int := if i = 0 then 0 else if i ≤ 8 then 1 else ((i - 7 : Nat) : Int)
abbrev nxF (i : Nat) : Int := if i ≤ 8 then ((i - 1 : Nat) : Int) else 0
abbrev dnF (i : Nat) : Int := if i = 13 then 1 else 0
abbrev ST (rb db cb i : Nat) (s : Value) (k : Cnt) : Sg := [rvO rb db 1 (phF i) 0 (nxF i) (dnF i) 0 s 0] :: devS db cb (fmtD 8) k
theorem rstep_c (rb db cb i : Nat) (hi : i < 12) (k : Cnt) (w : World) (hs : Sat (ST rb db cb i (.pointer none) k) w) : Calls Tryz.prog 161 [.pointer (some ⟨rb, 0, none⟩)].toArray w fun e w' => ∃ k' : Cnt, True ∧ e = .returned (.int .i64 0) ∧ Hp ⟨w, V.ids (ST rb db cb i (.pointer none) k)⟩ (ST rb db cb (i + 1) (.pointer none) k') w' := by
  have A : ∀ {ss so : Sg} {w : World} , ss = ST rb db cb i (.pointer none) k → so = ST rb db cb (i + 1) (.pointer none) k → (Calls Tryz.prog 161 [.pointer (some ⟨rb, 0, none⟩)].toArray w fun e w' => ∃ _u : Unit, True ∧ e = .returned (.int .i64 0) ∧ Hp ⟨w, V.ids ss⟩ so w') → Calls Tryz.prog 161 [.pointer (some ⟨rb, 0, none⟩)].toArray w fun e w' => ∃ k' : Cnt, True ∧ e = .returned (.int .i64 0) ∧ Hp ⟨w, V.ids (ST rb db cb i (.pointer none) k)⟩ (ST rb db cb (i + 1) (.pointer none) k') w' := fun h1 h2 h => h.mono fun e w' ⟨_, _, he, hp⟩ => ⟨k, trivial, he, by subst h1 h2; exact hp⟩
  match i, hi with
  | 0, _ => exact A (ss := ([rvO rb db 1 0 0 0 0 0 (.pointer none) 0] :: devS db cb (fmtD 8) k)) (so := ([rvO rb db 1 1 0 0 0 0 (.pointer none) 0] :: devS db cb (fmtD 8) k)) rfl rfl (st_open rb db cb k w hs)
  | 1, _ => exact A (ss := ([rvO rb db 1 1 0 ((0 : Nat) : Int) 0 0 (.pointer none) 0] :: devS db cb (fmtD 8) k)) (so := ([rvO rb db 1 1 0 ((0 + 1 : Nat) : Int) 0 0 (.pointer none) 0] :: devS db cb (fmtD 8) k)) rfl rfl (st_scan rb db cb k 0 (by decide) w hs)
  | 2, _ => exact A (ss := ([rvO rb db 1 1 0 ((1 : Nat) : Int) 0 0 (.pointer none) 0] :: devS db cb (fmtD 8) k)) (so := ([rvO rb db 1 1 0 ((1 + 1 : Nat) : Int) 0 0 (.pointer none) 0] :: devS db cb (fmtD 8) k)) rfl rfl (st_scan rb db cb k 1 (by decide) w hs)
  | 3, _ => exact A (ss := ([rvO rb db 1 1 0 ((2 : Nat) : Int) 0 0 (.pointer none) 0] :: devS db cb (fmtD 8) k)) (so := ([rvO rb db 1 1 0 ((2 + 1 : Nat) : Int) 0 0 (.pointer none) 0] :: devS db cb (fmtD 8) k)) rfl rfl (st_scan rb db cb k 2 (by decide) w hs)
  | 4, _ => exact A (ss := ([rvO rb db 1 1 0 ((3 : Nat) : Int) 0 0 (.pointer none) 0] :: devS db cb (fmtD 8) k)) (so := ([rvO rb db 1 1 0 ((3 + 1 : Nat) : Int) 0 0 (.pointer none) 0] :: devS db cb (fmtD 8) k)) rfl rfl (st_scan rb db cb k 3 (by decide) w hs)
  | 5, _ => exact A (ss := ([rvO rb db 1 1 0 ((4 : Nat) : Int) 0 0 (.pointer none) 0] :: devS db cb (fmtD 8) k)) (so := ([rvO rb db 1 1 0 ((4 + 1 : Nat) : Int) 0 0 (.pointer none) 0] :: devS db cb (fmtD 8) k)) rfl rfl (st_scan rb db cb k 4 (by decide) w hs)
  | 6, _ => exact A (ss := ([rvO rb db 1 1 0 ((5 : Nat) : Int) 0 0 (.pointer none) 0] :: devS db cb (fmtD 8) k)) (so := ([rvO rb db 1 1 0 ((5 + 1 : Nat) : Int) 0 0 (.pointer none) 0] :: devS db cb (fmtD 8) k)) rfl rfl (st_scan rb db cb k 5 (by decide) w hs)
  | 7, _ => exact A (ss := ([rvO rb db 1 1 0 ((6 : Nat) : Int) 0 0 (.pointer none) 0] :: devS db cb (fmtD 8) k)) (so := ([rvO rb db 1 1 0 ((6 + 1 : Nat) : Int) 0 0 (.pointer none) 0] :: devS db cb (fmtD 8) k)) rfl rfl (st_scan rb db cb k 6 (by decide) w hs)
  | 8, _ => exact A (ss := ([rvO rb db 1 1 0 ((7 : Nat) : Int) 0 0 (.pointer none) 0] :: devS db cb (fmtD 8) k)) (so := ([rvO rb db 1 2 0 0 0 0 (.pointer none) 0] :: devS db cb (fmtD 8) k)) rfl rfl (st_scanL rb db cb k w hs)
  | 9, _ => exact A (ss := ([rvO rb db 1 2 0 0 0 0 (.pointer none) 0] :: devS db cb (fmtD 8) k)) (so := ([rvO rb db 1 3 0 0 0 0 (.pointer none) 0] :: devS db cb (fmtD 8) k)) rfl rfl (st_decide rb db cb k w hs)
  | 10, _ => exact (st_scrub rb db cb k w hs).mono fun e w' ⟨k', _, he, hp⟩ => ⟨k', trivial, he, hp⟩
  | 11, _ => exact (st_antis rb db cb k w hs).mono fun e w' ⟨k', _, he, hp⟩ => ⟨k', trivial, he, hp⟩
end Go.Proofs.YtlpbjmbgopfkhaaGreat

/- A device: written back, cut, copied. -/
namespace Go.Proofs.YtlpbjmbgopfkhaaGreat
open Go Go.RowKit V
set_option linter.unusedVariables false
set_option maxRecDepth 100000
open V (str byC ownV ownG ownS ownOk)
theorem x_loadI {a : Addr} {x : Int} {w : World} (hc : w.cell? a = some (.int .i64 x)) : (callFunc 179 #[.pointer (some a)]).run Tryz.prog w = .ok (.value (.int .i64 x)) w := run_call_load Tryz.func179 (by kernel_rfl) (by kernel_rfl) (by kernel_rfl) .i64 (by kernel_rfl) hc
theorem x_storeI {a : Addr} {u : Value} {y : Int} {w : World} (hc : w.cell? a = some u) (hz : w.frozen? a = false) : (callFunc 147 #[.pointer (some a), .int .i64 y]).run Tryz.prog w = .ok (.value (.tuple #[])) (w.setCell a (.int .i64 y)) := run_call_store Tryz.func147 (by kernel_rfl) (by kernel_rfl) (by kernel_rfl) (by kernel_rfl) hc hz
theorem iLd_c (b o : Nat) (l : List Value) (T : TypeId) (x : Int) (w : World) (hl : l[o]? = some (.int .i64 x)) (hs : Sat [[(b, .cells l.toArray T (0, 0))]] w) : Calls Tryz.prog 146 [.pointer (some ⟨b, o, none⟩)].toArray w fun e w' => e = .returned (.int .i64 x) ∧ Below w.heap.size w w' := by
  refine V.calls [[(b, .cells l.toArray T (0, 0))]] Tryz.func146 rfl Tryz.ntmps146 (Nat.le_of_ble_eq_true rfl) hs <| Sq <| Rg <| Lv Av <| Nl <| Ps <| Sq <| Rg <| Lv Mv <| Lv Nz <| Lv (Fa 0 2) <| LW.re 5 (.pointer (some ⟨b, o, none⟩)) rfl rfl <| Lv (Val.ext rfl (fun w hw => x_loadI (V.cell_of_block (hw.own _ InS.here.mem) (by exact hl)))) <| Lv Av <| Nl <| Ps <| Rt <| Rt1 ?_
  intro w' hw; exact ⟨rfl, hw.ro (by repeat (first | exact .nil | apply Pick.cons | exact .here | apply Ext.there)) hs⟩
theorem iSt_c (b o : Nat) (l : List Value) (T : TypeId) (u : Value) (y : Int) (w : World) (hl : l[o]? = some u) (hs : Sat [[(b, .cells l.toArray T (0, 0))]] w) : Calls Tryz.prog 114 [.pointer (some ⟨b, o, none⟩), .int .i64 y].toArray w fun e w' => ∃ _u : Unit, True ∧ e = .returned (.tuple #[]) ∧ Hp ⟨w, V.ids [[(b, .cells l.toArray T (0, 0))]]⟩ [[(b, .cells (l.set o (.int .i64 y)).toArray T (0, 0))]] w' := by
  refine V.calls [[(b, .cells l.toArray T (0, 0))]] Tryz.func114 rfl Tryz.ntmps114 (Nat.le_of_ble_eq_true rfl) hs <| Rg <| Lv Mv <| Lv Nz <| Lv (Fa 0 2) <| LW.re 6 (.pointer (some ⟨b, o, none⟩)) rfl rfl <| Lv Mv <| Le (Eff.ext (l' := l.set o (.int .i64 y)) rfl .here rfl (fun w hb => x_storeI (V.cell_of_block hb (by exact hl)) (V.frozen_of hb))) fun _ _ => Nl <| PQ.end0 rfl ?_
  intro w' hw; exact ⟨(), trivial, rfl, hw⟩
theorem back_c (db cb : Nat) (D : List Ce) (k : Cnt) (i : Nat) (c : Ce) (hc : D[i]? = some c) (w : World) (hs : Sat (devS db cb D k) w) : Calls Tryz.prog 154 [.pointer (some ⟨db, 0, none⟩), .int .i64 (i : Nat)].toArray w fun e w' => ∃ k' : Cnt, True ∧ e = .returned (.int .i64 0) ∧ Hp ⟨w, V.ids (devS db cb D k)⟩ (devS db cb (D.set i (Ce.mk c.now c.now c.way false)) k') w' := by
  obtain ⟨hB, hC⟩ := devB hs
  have hi := (List.getElem?_eq_some_iff.1 hc).1
  have hmul := Nat.mul_le_mul_right 193 (show i + 1 ≤ D.length from hi)
  have hc2 : (D.set i (Ce.mk c.now c.now c.way c.sent))[i]? = some (Ce.mk c.now c.now c.way c.sent) := by rw [List.getElem?_set_self hi]
  refine V.calls (devS db cb D k) Tryz.func154 rfl Tryz.ntmps154 (Nat.le_of_ble_eq_true rfl) hs <| Sq <| Rg <| Lv Av <| Nl <| Ps <| Sq <| Sq <| Rg <| Lv Mv <| Lv Mv <| Le (CV fun w hw => there_c db cb D k (i : Nat) ((0 : Nat) : Int) 0 (by omega) w hw.at) fun _ _ => LW.re 9 (.int .i64 0) rfl (by rw [if_pos (th_ok hi (by omega))]) <| Lv Av <| Nl <| Ps <| Sq <| Rg <| Lv Mv <| Lv Cm <| LW.re 11 (.bool false) rfl (by rfl) <| Nl <| Ps <| Cf <| Sk <| Ps <| Sq <| Rg <| Lv Mv <| Lv Nz <| Lv (Fa 0 148) <| Lv (Ld (v := .slice (some ⟨cb, 0, none⟩) D.length D.length)) <| Lv Mv <| Lv (Val.indexAddrN rfl rfl Tryz.underlying148 Tryz.sizeOf141 hi) <| LW.re 18 (.pointer (some ⟨cb, i * 193, none⟩)) rfl (by simp) <| Lv Av <| Nl <| Ps <| Sq <| Rg <| Lv Mv <| Lv Mv <| Lv Mv <| Lv Nz <| Lv (Fa 0 139) <| Lv (La (byC c.now.1) (r := (fl_now hc).choose) (hl := by simpa using (fl_now hc).choose_spec) (hs := by rw [byC64]; exact Tryz.sizeOf139)) <| Lv Nz <| Lv (Fa 64 139) <| LeN (Eff.storeA (cs := byC c.now.1) (l := D.flatMap ceC) (l' := (D.set i (Ce.mk c.now c.now c.way c.sent)).flatMap ceC) rfl rfl (by repeat (first | exact .here | exact .inner .here | exact .inner (.inner .here) | apply Upd.there)) (by have h8 := splice_in ceC_len hc (y := (Ce.mk c.now c.now c.way c.sent)) 64 (byC c.now.1) (ce_kept c c.now) (by simp [byC64]); simpa using h8) (by rw [V.flatMap_len ceC_len]; simp [byC64]; omega) (by rw [byC64]; exact Tryz.sizeOf139) (V.byC_one _)) fun _ _ => Lv Nz <| Lv (Fa 192 4) <| LeN (Eff.storeX (v := .bool false) (l := (D.set i (Ce.mk c.now c.now c.way c.sent)).flatMap ceC) (l' := (D.set i (Ce.mk c.now c.now c.way false)).flatMap ceC) rfl rfl rfl (by repeat (first | exact .here | exact .inner .here | exact .inner (.inner .here) | apply Upd.there)) (by have h8 := splice_in ceC_len hc2 (y := (Ce.mk c.now c.now c.way false)) 192 [.bool false] (ce_sent (Ce.mk c.now c.now c.way c.sent) false) (by simp); rw [List.set_set] at h8; simpa [V.splice] using h8) (by rw [V.flatMap_len ceC_len]; simp; omega) Tryz.sizeOf4) ?_
  intro _ _
  refine Nl <| Ps <| Sq <| Rg <| Lv Mv <| Lv Nz <| Lv (Fa 1 155) <| Lv (Fa 3 153) <| Le (CM ([[(db, .cells (dvC cb D k).toArray 157 (0, 0))]]) fun w hw hs => addI_c db 4 (dvC cb D k) 157 k.d 1 w rfl hs) fun _ _ => Nl <| Ps <| Sq <| Rg <| Lv Av <| Nl <| Ps <| Rt <| Rt1 fun w' hw => ?_
  exact ⟨{ k with d := IntKind.i64.wrap (k.d + 1) }, trivial, rfl, by unfold devS dvC; rw [List.length_set]; exact hw.pick (by repeat (first | exact .nil | apply Pick.cons | exact .here | apply Ext.there))⟩
theorem loose_c (c : Ce) (h : c.now = c.kept) (w : World) : Calls Tryz.prog 85 [.agg (ceC c).toArray].toArray w fun e w' => e = .returned (.bool false) ∧ Below w.heap.size w w' := by
  refine V.calls [] Tryz.func85 rfl Tryz.ntmps85 (Nat.le_of_ble_eq_true rfl) (V.sat_nil _) <| Sq <| Rg <| Le XA fun b1 _ => Lv Av <| Nl <| Ps <| Sq <| Rg <| Lv (Fa 0 139) <| Lv (La (byC c.now.1) (r := byC c.kept.1 ++ (byC c.way.1 ++ [.bool c.sent])) (hl := by rfl) (hs := by rw [byC64]; exact Tryz.sizeOf139)) <| Lv (Fa 64 139) <| Lv (La (byC c.kept.1) (r := byC c.way.1 ++ [.bool c.sent]) (hl := by exact ce_at64 c) (hs := by rw [byC64]; exact Tryz.sizeOf139)) <| Lv (Val.neBy (a := c.now.1) (b := c.kept.1) rfl rfl (by kernel_rfl) Tryz.underlying139 Tryz.underlying5 Tryz.sizeOf5 c.now.2 c.kept.2) <| LW.re 7 (.bool false) rfl (by rw [h]; simp) <| Lv Av <| Nl <| Ps <| Rt <| Rt1 ?_
  intro w' hw; exact ⟨rfl, hw.below⟩
end Go.Proofs.YtlpbjmbgopfkhaaGreat

/- A device is cut, and copied; copies are asked. -/
namespace Go.Proofs.YtlpbjmbgopfkhaaGreat
open Go Go.RowKit V
set_option linter.unusedVariables false
set_option maxRecDepth 100000
instance : Cal Tryz.prog 56 := ⟨Tryz.call56⟩
instance : Cal Tryz.prog 85 := ⟨Tryz.call85⟩
open V (str byC ownV ownG ownS ownOk)
theorem fl_all {D : List Ce} {i : Nat} {c : Ce} (hc : D[i]? = some c) : ∃ r, (D.flatMap ceC).drop (i * 193 + 0) = ceC c ++ r := flat_at ceC_len hc (by omega) (r := []) (by simp)
theorem fl_kept {D : List Ce} {i : Nat} {c : Ce} (hc : D[i]? = some c) : ∃ r, (D.flatMap ceC).drop (i * 193 + 64) = byC c.kept.1 ++ r := flat_at ceC_len hc (by omega) (ce_at64 c)
/-- No line is loose, none is sent. -/
def calm (D : List Ce) : Prop := ∀ c ∈ D, c.now = c.kept ∧ c.sent = false
theorem f8_calm : calm (fmtD 8) := by
  intro c hc
  simp only [fmtD, List.mem_cons, List.mem_replicate] at hc
  rcases hc with rfl | rfl | ⟨_, rfl⟩ <;> exact ⟨rfl, rfl⟩
theorem cut_c (db cb : Nat) (D : List Ce) (k : Cnt) (hcm : calm D) (hD : D.length ≤ 1000) (w : World) (hs : Sat (devS db cb D k) w) : Calls Tryz.prog 155 [.pointer (some ⟨db, 0, none⟩), .slice none 0 0].toArray w fun e w' => ∃ k' : Cnt, True ∧ e = .returned (.tuple #[.slice none 0 0, .int .i64 0]) ∧ Hp ⟨w, V.ids (devS db cb D k)⟩ (devS db cb D k') w' := by
  refine V.calls (devS db cb D k) Tryz.func155 rfl Tryz.ntmps155 (Nat.le_of_ble_eq_true rfl) hs <| Sq <| Rg <| Lv Av <| Lv Av <| Nl <| Ps <| Sq <| Sq <| Rg <| Lv Mv <| Lv EP <| Nl <| Ps <| Cf <| Sk <| Ps <| Sq <| Rg <| Lv Av <| Nl <| Ps <| Sq <| Sq <| Rg <| Lv Mv <| Lv Nz <| Lv (Fa 0 148) <| Lv (Ld (v := .slice (some ⟨cb, 0, none⟩) D.length D.length)) <| Lv Ln <| Lv Mv <| Nl <| Ps <| Bk <| loopA (γ := Nat) (fun j => [(0, .pointer (some ⟨db, 0, none⟩)), (1, .slice none 0 0), (6, .slice none 0 0), (15, .int .i64 (D.length : Nat)), (16, .int .i64 (j : Nat))]) (fun j => (devS db cb D k)) (fun j => j ≤ D.length) (fun j => D.length - j) (0) (Nat.zero_le _) fun j hj => Sq <| Rg <| Lv Cm <| Nl <| Ps <| Sq ?_
  refine CW.cond rfl (fun h17 => ?_) (fun h17 => ?_)
  · replace h17 := bT h17
    have hi : j < D.length := by omega
    have hmul := Nat.mul_le_mul_right 193 (show j + 1 ≤ D.length from hi)
    obtain ⟨c, hc⟩ : ∃ c, D[j]? = some c := ⟨_, List.getElem?_eq_getElem hi⟩
    have hmem : c ∈ D := List.mem_of_getElem? hc
    have hc2 : (D.set j (Ce.mk c.kept c.kept c.way c.sent))[j]? = some (Ce.mk c.kept c.kept c.way c.sent) := by rw [List.getElem?_set_self hi]
    have hst : D.set j (Ce.mk c.kept c.kept c.way false) = D := by
      have h8 : (Ce.mk c.kept c.kept c.way false) = c := by
        have h9 := hcm c hmem
        revert h9
        cases c
        rintro ⟨h1, h2⟩
        simp only at h1 h2
        simp only [h1, h2]
      rw [h8]
      obtain ⟨h9, h7⟩ := List.getElem?_eq_some_iff.1 hc
      rw [← h7, List.set_getElem_self]
    refine Sk <| Ps <| Sq <| Bk <| Sq <| Rg <| Lv Mv <| Lv Av <| Nl <| Ps <| Sq <| Rg <| Lv Mv <| Lv Nz <| Lv (Fa 0 148) <| Lv (Ld (v := .slice (some ⟨cb, 0, none⟩) D.length D.length)) <| Lv Mv <| Lv (Val.indexAddrN rfl rfl Tryz.underlying148 Tryz.sizeOf141 hi) <| LW.re 24 (.pointer (some ⟨cb, j * 193, none⟩)) rfl (by simp) <| Lv Av <| Nl <| Ps <| Sq <| Sq <| Rg <| Lv Mv <| Lv Nz <| Lv (La (ceC c) (r := (fl_all hc).choose) (hl := by simpa using (fl_all hc).choose_spec) (hs := by rw [ceC_len]; exact Tryz.sizeOf141)) <| Le (CV fun w hw => loose_c c (hcm c hmem).1 w) fun _ _ => Nl <| Ps <| Cf <| Sk <| Ps <| Rg <| Lv Mv <| Lv Mv <| Lv Mv <| Lv Nz <| Lv (Fa 64 139) <| Lv (La (byC c.kept.1) (r := (fl_kept hc).choose) (hl := (fl_kept hc).choose_spec) (hs := by rw [byC64]; exact Tryz.sizeOf139)) <| Lv Nz <| Lv (Fa 0 139) <| LeN (Eff.storeA (cs := byC c.kept.1) (l := D.flatMap ceC) (l' := (D.set j (Ce.mk c.kept c.kept c.way c.sent)).flatMap ceC) rfl rfl (by repeat (first | exact .here | exact .inner .here | exact .inner (.inner .here) | apply Upd.there)) (by have h8 := splice_in ceC_len hc (y := (Ce.mk c.kept c.kept c.way c.sent)) 0 (byC c.kept.1) (ce_now c c.kept) (by simp [byC64]); simpa using h8) (by rw [V.flatMap_len ceC_len]; simp [byC64]; omega) (by rw [byC64]; exact Tryz.sizeOf139) (V.byC_one _)) fun _ _ => Lv Nz <| Lv (Fa 192 4) <| LeN (Eff.storeX (v := .bool false) (l := (D.set j (Ce.mk c.kept c.kept c.way c.sent)).flatMap ceC) (l' := (D.set j (Ce.mk c.kept c.kept c.way false)).flatMap ceC) rfl rfl rfl (by repeat (first | exact .here | exact .inner .here | exact .inner (.inner .here) | apply Upd.there)) (by have h8 := splice_in ceC_len hc2 (y := (Ce.mk c.kept c.kept c.way false)) 192 [.bool false] (ce_sent (Ce.mk c.kept c.kept c.way c.sent) false) (by simp); rw [List.set_set] at h8; simpa [V.splice] using h8) (by rw [V.flatMap_len ceC_len]; simp; omega) Tryz.sizeOf4) fun _ _ => Nl <| Bn <| Ps <| Rg <| Lv Ar <| Lv Mv <| Nl ?_
    rw [hst]
    exact roundA (j + 1) (by first | omega | (simp only; omega)) (by omega)
  · replace h17 := bF h17
    refine Xt <| Te <| Te <| Bh <| Ps <| Sq <| Rg <| Lv Mv <| Lv Nz <| Lv (Fa 1 155) <| Lv (Fa 4 153) <| Le (CM ([[(db, .cells (dvC cb D k).toArray 157 (0, 0))]]) fun w hw hs => addI_c db 5 (dvC cb D k) 157 k.e 1 w rfl hs) fun _ _ => Nl <| Ps <| Sq <| Rg <| Lv Mv <| Lv Av <| Lv Av <| Nl <| Ps <| Rt <| Rt2 fun w' hw => ?_
    exact ⟨{ k with e := IntKind.i64.wrap (k.e + 1) }, trivial, rfl, hw.pick (by repeat (first | exact .nil | apply Pick.cons | exact .here | apply Ext.there))⟩
theorem cloneC_c (l : List Ce) (p : Option Addr) (n c : Nat) (hn : n = l.length) (hl : l.length ≤ 1000) (w : World) (h : V.slAt w p 193 ceC l) : Calls Tryz.prog 112 [.slice p n c].toArray w fun e w' => ∃ o : V.OwnO, ownOk 193 l.length (l.flatMap ceC) o ∧ e = .returned (ownV l.length o) ∧ Hp ⟨w, []⟩ [ownG 141 (l.flatMap ceC) o] w' := by
  subst hn
  refine V.calls [] Tryz.func112 rfl Tryz.ntmps112 (Nat.le_of_ble_eq_true rfl) (V.sat_nil _) <| Sq <| Rg <| Lv Av <| Nl <| Ps <| Sq <| Sq <| Rg <| Lv Mv <| Lv (Val.eqSlNil rfl rfl Tryz.underlying148) <| Nl <| Ps ?_
  refine CW.cond rfl (fun h4 => ?_) (fun h4 => ?_)
  · replace h4 := bT h4
    have hpn : p = none := by cases p with | none => rfl | some q => simp at h4
    obtain rfl : l = [] := by
      rcases h with h | ⟨b, o, h, _⟩
      · exact h
      · rw [hpn] at h; cases h
    refine Sq <| Rg <| Lv Av <| Nl <| Ps <| Rt <| Tr <| Rt1 ?_
    intro w' hw; exact ⟨none, ⟨rfl, rfl⟩, rfl, hw.perm (.refl _)⟩
  · replace h4 := bF h4
    refine Sk <| Ps <| Sq <| Rg <| Le (Eff.buildSlice0 Tryz.underlying148 Tryz.sizeOf141) fun b5 _ => Lv Mv <| Le (Eff.appendAny (l.flatMap ceC) (sz := 193) (bytes := 193) (z := .agg (ceC ce0).toArray) (xs := []) (m0 := 0) (o := some (b5, [], 0)) (m := l.length) (pk := [ownG 141 [] (some (b5, [], 0))]) rfl rfl Tryz.underlying148 (by kernel_rfl) (by simp [Value.cells, ceC_len]) (by omega) (by repeat (first | exact .nil | apply Pick.cons | exact .here | apply Ext.there)) (by simp) ⟨rfl, rfl⟩ (V.flatMap_len ceC_len _) (fun hm0 => by obtain ⟨b8, o8, h8, h9⟩ := sl_range (F := []) ceC_len h hm0 (by simp); exact ⟨b8, o8, h8, fun w1 hw1 => h9 w1 hw1⟩) (all_one ceC_one _) (by omega) (by omega)) fun o2 ho2 => ?_
    have h2 : ownOk 193 l.length (l.flatMap ceC) o2 := by simpa using ho2
    rw [List.nil_append, Nat.zero_add]
    refine Lv Av <| Nl <| Ps <| Rt <| Rt1 ?_
    intro w' hw; exact ⟨o2, h2, rfl, hw.pick (by repeat (first | exact .nil | apply Pick.cons | exact .here | apply Ext.there))⟩
end Go.Proofs.YtlpbjmbgopfkhaaGreat

