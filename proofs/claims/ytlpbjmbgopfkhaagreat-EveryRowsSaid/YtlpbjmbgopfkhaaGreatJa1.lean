import Derived.Test.YtlpbjmbgopfkhaaGreatJn2
import Derived.Test.YtlpbjmbgopfkhaaGreatV26
import Derived.Test.YtlpbjmbgopfkhaaGreatV22
import Derived.Test.YtlpbjmbgopfkhaaGreatV20
import Derived.Lib.Hide
import Derived.Test.YtlpbjmbgopfkhaaGreatV27
import Derived.Lib.Overlaps
/- Stores compared; stores that may be. -/
namespace Go.Proofs.YtlpbjmbgopfkhaaGreat
open Go Go.RowKit V
set_option linter.unusedVariables false
set_option maxRecDepth 100000
namespace I
theorem qplaces34 : ∀ w, ((Array.mapM (fun (f : Field) => do pure (f.offset, ← sizeOf f.type)) (Tryz.prog.fieldsOf 34) : Sem (Array (Nat × Nat)))).run Tryz.prog w = .ok [(0, 1), (1, 1)].toArray w := by
  intro w; kernel_rfl
instance : V.Plc Tryz.prog 34 (fOf Tryz.underlying34) (lOf (P := Tryz.prog) qplaces34) := ⟨qplaces34, Tryz.underlying34⟩
instance : V.Cal Tryz.prog 40 := ⟨Tryz.call40⟩
instance : V.Cal Tryz.prog 42 := ⟨Tryz.call42⟩
instance : V.Cal Tryz.prog 66 := ⟨Tryz.call66⟩
instance : V.Cal Tryz.prog 67 := ⟨Tryz.call67⟩
instance : V.Cal Tryz.prog 102 := ⟨Tryz.call102⟩
instance : V.Cal Tryz.prog 103 := ⟨Tryz.call103⟩
instance : V.Cal Tryz.prog 105 := ⟨Tryz.call105⟩
instance : V.Cal Tryz.prog 106 := ⟨Tryz.call106⟩
instance : V.Cal Tryz.prog 133 := ⟨Tryz.call133⟩
open V (str byC ownV ownG ownS ownOk)
theorem places69 : ∀ w, ((Array.mapM (fun (f : Field) => do pure (f.offset, ← sizeOf f.type)) (Tryz.prog.fieldsOf 69) : Sem (Array (Nat × Nat)))).run Tryz.prog w = .ok [(0, 1), (1, 1)].toArray w := by
  intro w; kernel_rfl
theorem places34 : ∀ w, ((Array.mapM (fun (f : Field) => do pure (f.offset, ← sizeOf f.type)) (Tryz.prog.fieldsOf 34) : Sem (Array (Nat × Nat)))).run Tryz.prog w = .ok [(0, 1), (1, 1)].toArray w := by
  intro w; kernel_rfl
/-- A slice in memory. -/
structure Sl where
  a : Option Addr
  n : Nat
  c : Nat
/-- A key and its value. -/
structure Pr where
  key : List UInt8
  val : List UInt8
deriving DecidableEq
instance : Inhabited Pr := ⟨⟨[], []⟩⟩
def prC (x : Pr) : List Value := [str x.key, str x.val]
theorem prC_len (x : Pr) : (prC x).length = 2 := rfl
def stE (x : List UInt8) : List Value := [str x]
theorem stE_len (x : List UInt8) : (stE x).length = 1 := rfl
/-- A store: pairs, and what waits. -/
abbrev ShA := List Pr × List (List UInt8)
structure Sf where
  p : Sl
  q : Sl
def Sf.cells (s : Sf) : List Value := [.slice s.p.a s.p.n s.p.c, .slice s.q.a s.q.n s.q.c]
def SfR (w : World) (s : Sf) (A : ShA) : Prop := (s.p.n = A.1.length ∧ V.slAt w s.p.a 2 prC A.1) ∧ (s.q.n = A.2.length ∧ V.slAt w s.q.a 1 stE A.2) ∧ s.p.n ≤ s.p.c ∧ s.q.n ≤ s.q.c
theorem SfR.hp {w0 w : World} {F : List Nat} {sg : Sg} {s : Sf} {A : ShA} (h : SfR w0 s A) (hw : Hp ⟨w0, F⟩ sg w) (hF : ∀ b ∈ F, w0.heap.size ≤ b) : SfR w s A := by
  have key : ∀ {α : Type} {p : Option Addr} {sz : Nat} {enc : α → List Value} {l : List α}, V.slAt w0 p sz enc l → V.slAt w p sz enc l := by
    intro α p sz enc l h
    rcases h with h | ⟨b, o, hp, hb, hr⟩
    · exact .inl h
    · refine hw.slAt (.inr ⟨b, o, hp, hb, hr⟩) fun b2 o2 hp2 => ?_
      rw [hp] at hp2
      simp only [Option.some.injEq, Addr.mk.injEq] at hp2
      intro hm
      have := hF b2 hm
      omega
  exact ⟨⟨h.1.1, key h.1.2⟩, ⟨h.2.1.1, key h.2.1.2⟩, h.2.2⟩
theorem pr_ne (x y : Pr) : (!(decide ((⟨x.key.toArray⟩ : ByteArray) = ⟨y.key.toArray⟩) && (decide ((⟨x.val.toArray⟩ : ByteArray) = ⟨y.val.toArray⟩) && true))) = !decide (x = y) := by
  rw [V.str_dec, V.str_dec]
  obtain ⟨a, b⟩ := x; obtain ⟨c, d⟩ := y
  simp only [Pr.mk.injEq, Bool.and_true, Bool.decide_and]
theorem take_step {α : Type} {l1 l2 : List α} {k : Nat} {x : α} (h : l1.take k = l2.take k) (h1 : l1[k]? = some x) (h2 : l2[k]? = some x) : l1.take (k + 1) = l2.take (k + 1) := by rw [List.take_add_one, List.take_add_one, h, h1, h2]
theorem take_end {α : Type} {l1 l2 : List α} {k : Nat} (h : l1.take k = l2.take k) (h1 : l1.length ≤ k) (h2 : l2.length ≤ k) : l1 = l2 := by rw [← List.take_of_length_le h1, h, List.take_of_length_le h2]
theorem ne_at {α : Type} {l1 l2 : List α} {k : Nat} {x y : α} (h1 : l1[k]? = some x) (h2 : l2[k]? = some y) (hn : x ≠ y) : l1 ≠ l2 := fun e => by subst e; rw [h1] at h2; exact hn (Option.some.inj h2)
theorem samePairs_c (l1 l2 : List (Pr)) (p1 p2 : Option Addr) (n1 n2 c1 c2 : Nat) (hn1 : n1 = l1.length) (hn2 : n2 = l2.length) (hl : l1.length ≤ 100000) (w : World) (h1 : V.slAt w p1 2 prC l1) (h2 : V.slAt w p2 2 prC l2) : Calls Tryz.prog 40 [.slice p1 n1 c1, .slice p2 n2 c2].toArray w fun e w' => e = .returned (.bool (decide (l1 = l2))) ∧ Below w.heap.size w w' := by
  subst hn1; subst hn2
  refine V.calls [] Tryz.func40 rfl Tryz.ntmps40 (Nat.le_of_ble_eq_true rfl) (V.sat_nil _) <| Sq <| Rg <| Lv Av <| Nl <| Ps <| Sq <| Sq <| Rg <| Lv Mv <| Lv Ln <| Lv Mv <| Lv Ln <| Lv Cm <| Nl <| Ps ?_
  refine CW.cond rfl (fun h10 => ?_) (fun h10 => ?_)
  · replace h10 := bT h10
    refine Sq <| Rg <| Lv Av <| Nl <| Ps <| Rt <| Tr <| Rt1 ?_
    intro w' hw; exact ⟨by rw [decide_eq_false (fun e => h10 (by rw [e]))], hw.below⟩
  · replace h10 := bF h10
    refine Sk <| Ps <| Sq <| Sq <| Rg <| Lv Av <| Nl <| Ps <| Bk <| loopA (γ := Nat) (fun k => [(0, .slice p1 l1.length c1), (1, .slice p2 l2.length c2), (5, .int .i64 (k : Nat))]) (fun _ => []) (fun k => k ≤ l1.length ∧ l1.take k = l2.take k) (fun k => l1.length - k) (0) ⟨Nat.zero_le _, rfl⟩ fun k => ?_
    rintro ⟨hk1, hk2⟩
    refine Sq <| Sq <| Rg <| Lv Mv <| Lv Mv <| Lv Ln <| Lv Cm <| Nl <| Ps ?_
    refine CW.cond rfl (fun h14 => ?_) (fun h14 => ?_)
    · replace h14 := bT h14
      obtain ⟨b1, o1, x, rfl, hb1, hx1, hr1⟩ := V.slAt_at h1 rfl (k := k) (by omega)
      obtain ⟨b2, o2, y, rfl, hb2, hx2, hr2⟩ := V.slAt_at h2 rfl (k := k) (by omega)
      refine Sk <| Ps <| Sq <| Bk <| Sq <| Qt <| Qv Mv <| Qv Mv <| Qv Ix <| Qv (Val.loadOA rfl Tryz.isAgg69 hb1 (by simp [ids]) (hr1 k x hx1) Tryz.sizeOf69) <| Qv Mv <| Qv Mv <| Qv Ix <| Qv (Val.loadOA rfl Tryz.isAgg69 hb2 (by simp [ids]) (hr2 k y hx2) Tryz.sizeOf69) <| Qv (Val.neA rfl rfl (by kernel_rfl) Tryz.underlying69 (by kernel_rfl) (by exact (.str rfl rfl Tryz.isAgg9 Tryz.underlying9 (.str rfl rfl Tryz.isAgg9 Tryz.underlying9 .nil)))) <| QW.re 25 (.bool (!decide (x = y))) rfl (by rw [← pr_ne]) <| Ql <| Ps ?_
      refine CW.cond rfl (fun h25 => ?_) (fun h25 => ?_)
      · replace h25 := bT h25
        have h25 : x ≠ y := h25
        refine Sq <| Rg <| Lv Av <| Nl <| Ps <| Rt <| Br <| Tr <| Tr <| Br <| Tr <| Rt1 ?_
        intro w' hw; exact ⟨by rw [decide_eq_false (ne_at hx1 hx2 h25)], hw.below⟩
      · replace h25 := bF h25
        have h25 : x = y := h25
        subst h25
        refine Sk <| Bn <| Ps <| Rg <| Lv Mv <| Lv Ar <| Lv Av <| Nl ?_
        exact roundA (k + 1) ⟨by omega, take_step hk2 hx1 hx2⟩ (by omega)
    · replace h14 := bF h14
      refine Xt <| Te <| Te <| Bh <| Ps <| Sq <| Rg <| Lv Av <| Nl <| Ps <| Rt <| Rt1 ?_
      intro w' hw; exact ⟨by rw [decide_eq_true (take_end hk2 (by omega) (by omega))], hw.below⟩
theorem sameTexts_c (l1 l2 : List (List UInt8)) (p1 p2 : Option Addr) (n1 n2 c1 c2 : Nat) (hn1 : n1 = l1.length) (hn2 : n2 = l2.length) (hl : l1.length ≤ 100000) (w : World) (h1 : V.slAt w p1 1 stE l1) (h2 : V.slAt w p2 1 stE l2) : Calls Tryz.prog 42 [.slice p1 n1 c1, .slice p2 n2 c2].toArray w fun e w' => e = .returned (.bool (decide (l1 = l2))) ∧ Below w.heap.size w w' := by
  subst hn1; subst hn2
  refine V.calls [] Tryz.func42 rfl Tryz.ntmps42 (Nat.le_of_ble_eq_true rfl) (V.sat_nil _) <| Sq <| Rg <| Lv Av <| Nl <| Ps <| Sq <| Sq <| Rg <| Lv Mv <| Lv Ln <| Lv Mv <| Lv Ln <| Lv Cm <| Nl <| Ps ?_
  refine CW.cond rfl (fun h10 => ?_) (fun h10 => ?_)
  · replace h10 := bT h10
    refine Sq <| Rg <| Lv Av <| Nl <| Ps <| Rt <| Tr <| Rt1 ?_
    intro w' hw; exact ⟨by rw [decide_eq_false (fun e => h10 (by rw [e]))], hw.below⟩
  · replace h10 := bF h10
    refine Sk <| Ps <| Sq <| Sq <| Rg <| Lv Av <| Nl <| Ps <| Bk <| loopA (γ := Nat) (fun k => [(0, .slice p1 l1.length c1), (1, .slice p2 l2.length c2), (5, .int .i64 (k : Nat))]) (fun _ => []) (fun k => k ≤ l1.length ∧ l1.take k = l2.take k) (fun k => l1.length - k) (0) ⟨Nat.zero_le _, rfl⟩ fun k => ?_
    rintro ⟨hk1, hk2⟩
    refine Sq <| Sq <| Rg <| Lv Mv <| Lv Mv <| Lv Ln <| Lv Cm <| Nl <| Ps ?_
    refine CW.cond rfl (fun h14 => ?_) (fun h14 => ?_)
    · replace h14 := bT h14
      obtain ⟨b1, o1, x, rfl, hb1, hx1, hr1⟩ := V.slAt_at h1 rfl (k := k) (by omega)
      obtain ⟨b2, o2, y, rfl, hb2, hx2, hr2⟩ := V.slAt_at h2 rfl (k := k) (by omega)
      refine Sk <| Ps <| Sq <| Bk <| Sq <| Qt <| Qv Mv <| Qv Mv <| Qv Ix <| Qv (Val.loadO rfl Tryz.isAgg9 hb1 (by simp [ids]) (hr1 k x hx1 0 _ rfl)) <| Qv Mv <| Qv Mv <| Qv Ix <| Qv (Val.loadO rfl Tryz.isAgg9 hb2 (by simp [ids]) (hr2 k y hx2 0 _ rfl)) <| Qv NS <| Ql <| Ps ?_
      refine CW.cond rfl (fun h25 => ?_) (fun h25 => ?_)
      · replace h25 := bT h25
        have h25 : x ≠ y := h25
        refine Sq <| Rg <| Lv Av <| Nl <| Ps <| Rt <| Br <| Tr <| Tr <| Br <| Tr <| Rt1 ?_
        intro w' hw; exact ⟨by rw [decide_eq_false (ne_at hx1 hx2 h25)], hw.below⟩
      · replace h25 := bF h25
        have h25 : x = y := h25
        subst h25
        refine Sk <| Bn <| Ps <| Rg <| Lv Mv <| Lv Ar <| Lv Av <| Nl ?_
        exact roundA (k + 1) ⟨by omega, take_step hk2 hx1 hx2⟩ (by omega)
    · replace h14 := bF h14
      refine Xt <| Te <| Te <| Bh <| Ps <| Sq <| Rg <| Lv Av <| Nl <| Ps <| Rt <| Rt1 ?_
      intro w' hw; exact ⟨by rw [decide_eq_true (take_end hk2 (by omega) (by omega))], hw.below⟩
theorem sameShelf_c (s1 s2 : Sf) (A B : ShA) (w : World) (hA : SfR w s1 A) (hB : SfR w s2 B) (hl : A.1.length ≤ 100000 ∧ A.2.length ≤ 100000) : Calls Tryz.prog 20 [.agg s1.cells.toArray, .agg s2.cells.toArray].toArray w fun e w' => e = .returned (.bool (decide (A = B))) ∧ Below w.heap.size w w' := by
  refine V.calls [] Tryz.func20 rfl Tryz.ntmps20 (Nat.le_of_ble_eq_true rfl) (V.sat_nil _) <| Sq <| Rg <| Le XA fun b2 _ => Le XA fun b3 _ => Lv Av <| Nl <| Ps <| Sq <| Rg <| Lv (Fa 0 31) <| Lv Ld <| Lv (Fa 0 31) <| Lv Ld <| Le (CV fun w hw => samePairs_c A.1 B.1 _ _ _ _ _ _ hA.1.1 hB.1.1 hl.1 w (hw.slAt hA.1.2 (by simp [ids])) (hw.slAt hB.1.2 (by simp [ids]))) fun _ _ => Lv Mv ?_
  refine LW.split (d := 10) rfl (fun h10 => ?_) (fun h10 => ?_)
  · replace h10 := bT h10
    refine Lv (Fa 1 32) <| Lv Ld <| Lv (Fa 1 32) <| Lv Ld <| Le (CV fun w hw => sameTexts_c A.2 B.2 _ _ _ _ _ _ hA.2.1.1 hB.2.1.1 hl.2 w (hw.slAt hA.2.1.2 (by simp [ids])) (hw.slAt hB.2.1.2 (by simp [ids]))) fun _ _ => Lv Pt <| Lv Av <| Nl <| Ps <| Rt <| Rt1 ?_
    intro w' hw; exact ⟨by congr 2; obtain ⟨a, c⟩ := A; obtain ⟨d, e⟩ := B; simp_all, hw.below⟩
  · replace h10 := bF h10
    refine Lp <| Lp <| Lp <| Lp <| Lp <| Lv Pf <| Lv Av <| Nl <| Ps <| Rt <| Rt1 ?_
    intro w' hw; exact ⟨by congr 2; obtain ⟨a, c⟩ := A; obtain ⟨d, e⟩ := B; simp_all, hw.below⟩
theorem prC_one (x : Pr) : (prC x).all (·.oneCell') = true := rfl
theorem stE_one (x : List UInt8) : (stE x).all (·.oneCell') = true := rfl
theorem drop_at {α : Type} {l : List α} {k : Nat} {x : α} (h : l[k]? = some x) : l.drop k = x :: l.drop (k + 1) := by
  obtain ⟨hk, hx⟩ := List.getElem?_eq_some_iff.1 h
  rw [List.drop_eq_getElem_cons hk, hx]
def getF : List Pr → List UInt8 → Option (List UInt8)
  | [], _ => none
  | x :: r, k => if x.key = k then some x.val else getF r k
theorem getF_yes {l : List Pr} {j : Nat} {x : Pr} {k : List UInt8} (hx : l[j]? = some x) (h : x.key = k) : getF (l.drop j) k = some x.val := by rw [drop_at hx, getF, if_pos h]
theorem getF_no {l : List Pr} {j : Nat} {x : Pr} {k : List UInt8} (hx : l[j]? = some x) (h : x.key ≠ k) : getF (l.drop j) k = getF (l.drop (j + 1)) k := by rw [drop_at hx, getF, if_neg h]
def delF (l : List Pr) (k : List UInt8) : List Pr := l.filter fun x => !decide (x.key = k)
theorem del_no {l : List Pr} {j : Nat} {x : Pr} {k : List UInt8} (hx : l[j]? = some x) (h : x.key ≠ k) : delF (l.take (j + 1)) k = delF (l.take j) k ++ [x] := by unfold delF; rw [List.take_add_one, hx, List.filter_append]; simp [h]
theorem del_yes {l : List Pr} {j : Nat} {x : Pr} {k : List UInt8} (hx : l[j]? = some x) (h : x.key = k) : delF (l.take (j + 1)) k = delF (l.take j) k := by unfold delF; rw [List.take_add_one, hx, List.filter_append]; simp [h]
def repF (k v : List UInt8) : List Pr → List Pr
  | [] => []
  | x :: r => if x.key = k then ⟨x.key, v⟩ :: r else x :: repF k v r
def insF (k v : List UInt8) : List Pr → List Pr
  | [] => [⟨k, v⟩]
  | x :: r => if k < x.key then ⟨k, v⟩ :: x :: r else x :: insF k v r
def putF (l : List Pr) (k v : List UInt8) : List Pr := if (getF l k).isSome = true then repF k v l else insF k v l
theorem repF_at {l : List Pr} {j : Nat} {x : Pr} {k v : List UInt8} (hx : l[j]? = some x) : repF k v (l.drop j) = if x.key = k then ⟨x.key, v⟩ :: l.drop (j + 1) else x :: repF k v (l.drop (j + 1)) := by rw [drop_at hx, repF]
theorem insF_at {l : List Pr} {j : Nat} {x : Pr} {k v : List UInt8} (hx : l[j]? = some x) : insF k v (l.drop j) = if k < x.key then ⟨k, v⟩ :: x :: l.drop (j + 1) else x :: insF k v (l.drop (j + 1)) := by rw [drop_at hx, insF]
theorem cloneP_c (l : List (Pr)) (p : Option Addr) (n c : Nat) (hn : n = l.length) (hl : l.length ≤ 1000) (w : World) (h : V.slAt w p 2 prC l) : Calls Tryz.prog 66 [.slice p n c].toArray w fun e w' => ∃ o : V.OwnO, ownOk 2 l.length (l.flatMap prC) o ∧ e = .returned (ownV l.length o) ∧ Hp ⟨w, []⟩ [ownG 69 (l.flatMap prC) o] w' := by
  subst hn
  refine V.calls [] Tryz.func66 rfl Tryz.ntmps66 (Nat.le_of_ble_eq_true rfl) (V.sat_nil _) <| Sq <| Rg <| Lv Av <| Nl <| Ps <| Sq <| Sq <| Rg <| Lv Mv <| Lv (Val.eqSlNil rfl rfl Tryz.underlying31) <| Nl <| Ps ?_
  refine CW.cond rfl (fun h4 => ?_) (fun h4 => ?_)
  · replace h4 := bT h4
    have hpn : p = none := by cases p with | none => rfl | some q => simp at h4
    obtain rfl : l = [] := by
      rcases h with h | ⟨b, o, h, _⟩
      · exact h
      · rw [hpn] at h; cases h
    refine Sq <| Rg <| Lv Av <| Nl <| Ps <| Rt <| Tr <| Rt1 ?_
    intro w' hw; exact ⟨none, ⟨rfl, rfl⟩, rfl, hw.perm (.refl _)⟩
  · replace h4 := bF h4
    refine Sk <| Ps <| Sq <| Rg <| Le (Eff.buildSlice0 Tryz.underlying31 Tryz.sizeOf69) fun b5 _ => Lv Mv <| Le (Eff.appendAny (l.flatMap prC) (sz := 2) (bytes := 32) (z := .agg #[.string ⟨#[]⟩, .string ⟨#[]⟩]) (xs := []) (m0 := 0) (o := some (b5, [], 0)) (m := l.length) (pk := [ownG 69 [] (some (b5, [], 0))]) rfl rfl Tryz.underlying31 (by kernel_rfl) rfl (by omega) (by repeat (first | exact .nil | apply Pick.cons | exact .here | apply Ext.there)) (by simp) ⟨rfl, rfl⟩ (V.flatMap_len prC_len _) (fun hm0 => by obtain ⟨b8, o8, h8, h9⟩ := sl_range (F := []) prC_len h hm0 (by simp); exact ⟨b8, o8, h8, fun w hw => h9 w hw⟩) (all_one prC_one _) (by omega) (by omega)) fun o2 ho2 => ?_
    have h2 : ownOk 2 l.length (l.flatMap prC) o2 := by simpa using ho2
    rw [List.nil_append, Nat.zero_add]
    refine Lv Av <| Nl <| Ps <| Rt <| Rt1 ?_
    intro w' hw; exact ⟨o2, h2, rfl, hw.pick (by repeat (first | exact .nil | apply Pick.cons | exact .here | apply Ext.there))⟩
theorem cloneS_c (l : List (List UInt8)) (p : Option Addr) (n c : Nat) (hn : n = l.length) (hl : l.length ≤ 1000) (w : World) (h : V.slAt w p 1 stE l) : Calls Tryz.prog 67 [.slice p n c].toArray w fun e w' => ∃ o : V.OwnO, ownOk 1 l.length (l.flatMap stE) o ∧ e = .returned (ownV l.length o) ∧ Hp ⟨w, []⟩ [ownG 9 (l.flatMap stE) o] w' := by
  subst hn
  refine V.calls [] Tryz.func67 rfl Tryz.ntmps67 (Nat.le_of_ble_eq_true rfl) (V.sat_nil _) <| Sq <| Rg <| Lv Av <| Nl <| Ps <| Sq <| Sq <| Rg <| Lv Mv <| Lv (Val.eqSlNil rfl rfl Tryz.underlying32) <| Nl <| Ps ?_
  refine CW.cond rfl (fun h4 => ?_) (fun h4 => ?_)
  · replace h4 := bT h4
    have hpn : p = none := by cases p with | none => rfl | some q => simp at h4
    obtain rfl : l = [] := by
      rcases h with h | ⟨b, o, h, _⟩
      · exact h
      · rw [hpn] at h; cases h
    refine Sq <| Rg <| Lv Av <| Nl <| Ps <| Rt <| Tr <| Rt1 ?_
    intro w' hw; exact ⟨none, ⟨rfl, rfl⟩, rfl, hw.perm (.refl _)⟩
  · replace h4 := bF h4
    refine Sk <| Ps <| Sq <| Rg <| Le (Eff.buildSlice0 Tryz.underlying32 Tryz.sizeOf9) fun b5 _ => Lv Mv <| Le (Eff.appendAny (l.flatMap stE) (sz := 1) (bytes := 16) (z := .string ⟨#[]⟩) (xs := []) (m0 := 0) (o := some (b5, [], 0)) (m := l.length) (pk := [ownG 9 [] (some (b5, [], 0))]) rfl rfl Tryz.underlying32 (by kernel_rfl) rfl (by omega) (by repeat (first | exact .nil | apply Pick.cons | exact .here | apply Ext.there)) (by simp) ⟨rfl, rfl⟩ (V.flatMap_len stE_len _) (fun hm0 => by obtain ⟨b8, o8, h8, h9⟩ := sl_range (F := []) stE_len h hm0 (by simp); exact ⟨b8, o8, h8, fun w hw => h9 w hw⟩) (all_one stE_one _) (by omega) (by omega)) fun o2 ho2 => ?_
    have h2 : ownOk 1 l.length (l.flatMap stE) o2 := by simpa using ho2
    rw [List.nil_append, Nat.zero_add]
    refine Lv Av <| Nl <| Ps <| Rt <| Rt1 ?_
    intro w' hw; exact ⟨o2, h2, rfl, hw.pick (by repeat (first | exact .nil | apply Pick.cons | exact .here | apply Ext.there))⟩
/-- A store in blocks of its own. -/
def OwSh (A : ShA) (y : V.OwnO × V.OwnO) : Prop := ownOk 2 A.1.length (A.1.flatMap prC) y.1 ∧ ownOk 1 A.2.length (A.2.flatMap stE) y.2
def owC (A : ShA) (y : V.OwnO × V.OwnO) : List Value := [ownV A.1.length y.1, ownV A.2.length y.2]
theorem copied_c (s : Sf) (A : ShA) (w : World) (hA : SfR w s A) (hl : A.1.length ≤ 1000 ∧ A.2.length ≤ 1000) : Calls Tryz.prog 37 [.agg s.cells.toArray].toArray w fun e w' => ∃ y : V.OwnO × V.OwnO, OwSh A y ∧ e = .returned (.agg (owC A y).toArray) ∧ Hp ⟨w, []⟩ [ownG 69 (A.1.flatMap prC) y.1, ownG 9 (A.2.flatMap stE) y.2] w' := by
  obtain ⟨⟨pa, pn, pc⟩, ⟨qa, qn, qc⟩⟩ := s
  obtain ⟨l, q⟩ := A
  obtain ⟨⟨hn1, h1⟩, ⟨hn2, h2⟩, hcp, hcq⟩ := hA
  simp only at hn1 h1 hn2 h2 hcp hcq hl
  subst hn1; subst hn2
  refine V.calls [] Tryz.func37 rfl Tryz.ntmps37 (Nat.le_of_ble_eq_true rfl) (V.sat_nil _) <| Sq <| Rg <| Le XA fun b1 _ => Le AA fun b2 _ => Nl <| Ps <| Sq ?_
  refine CW.regJoin (fun y : V.OwnO × V.OwnO => OwSh (l, q) y) (fun _ => [(1, .pointer (some ⟨b1, 0, none⟩)), (2, .pointer (some ⟨b2, 0, none⟩))]) (fun y => [[(b1, .cells [.slice pa l.length pc, .slice qa q.length qc].toArray 34 (0, 0))], [(b2, .cells (owC (l, q) y).toArray 34 (0, 0))], ownG 69 (l.flatMap prC) y.1, ownG 9 (q.flatMap stE) y.2]) ?_ ?_
  · refine Dr ([[(b1, .cells [.slice pa l.length pc, .slice qa q.length qc].toArray 34 (0, 0))]]) <| Rv 0 rfl (Fa 0 31) <| Rv 1 rfl Ld <| Rv 3 rfl (Fa 1 32) <| Rv 4 rfl Ld <| Re 2 rfl (CM [] fun w hw hs0 => cloneP_c l _ _ _ rfl hl.1 w (hw.slAt h1 (by simp [ids]))) fun yp hyp => Re 5 rfl (CM [] fun w hw hs0 => cloneS_c q _ _ _ rfl hl.2 w (hw.slAt h2 (by simp [ids]))) fun yq hyq => Rv 6 rfl (Val.build [ownV l.length yp, ownV q.length yq] Tryz.zeroValue34 Tryz.underlying34 places34 rfl (by rcases yp with _ | ⟨_, _, _⟩ <;> rcases yq with _ | ⟨_, _, _⟩ <;> rfl)) <| ReN 7 rfl (StW (cs := owC (l, q) (yp, yq)) (h1 := by simp [owC, V.ownV_one])) fun _ _ => Rd ?_
    exact joinA ((yp, yq)) (⟨hyp, hyq⟩)
  · rintro ⟨yp, yq⟩ ⟨hyp, hyq⟩
    refine Ps <| Rt <| V.PQ.retC rfl rfl (by repeat (first | exact .here | exact .inner .here | exact .inner (.inner .here) | refine .there ?_)) Tryz.isAgg34 (by exact Tryz.sizeOf34) ?_
    intro w' hw; exact ⟨(yp, yq), ⟨hyp, hyq⟩, rfl, hw.pick (by repeat (first | exact .nil | apply Pick.cons | exact .here | apply Ext.there))⟩
end I
end Go.Proofs.YtlpbjmbgopfkhaaGreat

/- The first pair for which a function says yes; where a key stands. -/
namespace Go.Proofs.YtlpbjmbgopfkhaaGreat
open Go Go.RowKit V
set_option linter.unusedVariables false
set_option maxRecDepth 100000
namespace I
open V (str byC ownV ownG ownS ownOk)
def ixN (pred : Pr → Bool) : List Pr → Nat
  | [] => 0
  | x :: r => if pred x = true then 0 else ixN pred r + 1
def ixZ (pred : Pr → Bool) (l : List Pr) : Int := if ixN pred l < l.length then (ixN pred l : Nat) else -1
theorem ixN_yes {pred : Pr → Bool} {l : List Pr} {k : Nat} {x : Pr} (hx : l[k]? = some x) (h : pred x = true) : ixN pred (l.drop k) = 0 := by rw [drop_at hx, ixN, if_pos h]
theorem ixN_no {pred : Pr → Bool} {l : List Pr} {k : Nat} {x : Pr} (hx : l[k]? = some x) (h : pred x = false) : ixN pred (l.drop k) = ixN pred (l.drop (k + 1)) + 1 := by rw [drop_at hx, ixN, if_neg (by simp [h])]
theorem ixZ_yes {pred : Pr → Bool} {l : List Pr} {k : Nat} (hk : k < l.length) (h : ixN pred l = k + 0) : ixZ pred l = (k : Nat) := by unfold ixZ; rw [h, Nat.add_zero, if_pos hk]
theorem ixZ_no {pred : Pr → Bool} {l : List Pr} {k : Nat} (hk : l.length ≤ k) (h : ixN pred l = k + ixN pred (l.drop k)) : ixZ pred l = -1 := by unfold ixZ; rw [if_neg (by omega)]
theorem kcell {B : V.Base} {sg : V.Sg} {w w' : World} {b T : Nat} {v : Value} (hw : Hp B sg w) (hm : InS (b, .cells [v].toArray T (0, 0)) sg) (hb : Below w.heap.size w w') : b < w'.heap.size ∧ w'.cell? ⟨b, 0, none⟩ = some v := by
  have h := hw.own _ hm.mem
  have h1 := V.lt_of_some h
  have h2 : w'.heap[b]? = some (.cells [v].toArray T (0, 0)) := (hb.block b h1).trans h
  exact ⟨V.lt_of_some h2, V.cell_of_block h2 rfl⟩
theorem pl1_c (x : Pr) (b : Nat) (ky : List UInt8) (w : World) (h : b < w.heap.size ∧ w.cell? ⟨b, 0, none⟩ = some (str ky)) : Calls Tryz.prog 131 [.agg (prC x).toArray, .pointer (some ⟨b, 0, none⟩)].toArray w fun e w' => e = .returned (.bool (decide (x.key = ky))) ∧ Below w.heap.size w w' := by
  refine V.calls [] Tryz.func131 rfl Tryz.ntmps131 (Nat.le_of_ble_eq_true rfl) (V.sat_nil _) <| Sq <| Rg <| Le XA fun b2 _ => Lv Av <| Nl <| Ps <| Sq <| Rg <| Lv (Fa 0 9) <| Lv Ld <| Lv (Val.loadO rfl Tryz.isAgg9 h.1 (by simp [ids]) h.2) <| Lv ES <| Lv Av <| Nl <| Ps <| Rt <| Rt1 ?_
  intro w hw; exact ⟨rfl, hw.below⟩
theorem dr1_c (x : Pr) (b : Nat) (ky : List UInt8) (w : World) (h : b < w.heap.size ∧ w.cell? ⟨b, 0, none⟩ = some (str ky)) : Calls Tryz.prog 107 [.agg (prC x).toArray, .pointer (some ⟨b, 0, none⟩)].toArray w fun e w' => e = .returned (.bool (decide (x.key = ky))) ∧ Below w.heap.size w w' := by
  refine V.calls [] Tryz.func107 rfl Tryz.ntmps107 (Nat.le_of_ble_eq_true rfl) (V.sat_nil _) <| Sq <| Rg <| Le XA fun b2 _ => Lv Av <| Nl <| Ps <| Sq <| Rg <| Lv (Fa 0 9) <| Lv Ld <| Lv (Val.loadO rfl Tryz.isAgg9 h.1 (by simp [ids]) h.2) <| Lv ES <| Lv Av <| Nl <| Ps <| Rt <| Rt1 ?_
  intro w hw; exact ⟨rfl, hw.below⟩
theorem st1_c (x : Pr) (b : Nat) (ky : List UInt8) (w : World) (h : b < w.heap.size ∧ w.cell? ⟨b, 0, none⟩ = some (str ky)) : Calls Tryz.prog 104 [.agg (prC x).toArray, .pointer (some ⟨b, 0, none⟩)].toArray w fun e w' => e = .returned (.bool (decide (ky < x.key))) ∧ Below w.heap.size w w' := by
  refine V.calls [] Tryz.func104 rfl Tryz.ntmps104 (Nat.le_of_ble_eq_true rfl) (V.sat_nil _) <| Sq <| Rg <| Le XA fun b2 _ => Lv Av <| Nl <| Ps <| Sq <| Rg <| Lv (Fa 0 9) <| Lv Ld <| Lv (Val.loadO rfl Tryz.isAgg9 h.1 (by simp [ids]) h.2) <| Lv (Val.gtStr rfl rfl) <| Lv Av <| Nl <| Ps <| Rt <| Rt1 ?_
  intro w hw; exact ⟨rfl, hw.below⟩
theorem index_c (l : List Pr) (p : Option Addr) (c f : Nat) (caps : List Value) (pred : Pr → Bool) (hl : l.length ≤ 1000) (hcall : ∀ (args : Array Value) (w : World), (callFunc f args).run Tryz.prog w = .ok (.enter f args) w) (w : World) (h : V.slAt w p 2 prC l)
    (hf : ∀ w1, Below w.heap.size w w1 → ∀ x ∈ l, Calls Tryz.prog f (.agg (prC x).toArray :: caps).toArray w1 fun e w' => e = .returned (.bool (pred x)) ∧ Below w1.heap.size w1 w') :
    Calls Tryz.prog 103 [.slice p l.length c, .func (.func f) #[] caps.toArray].toArray w fun e w' => e = .returned (.int .i64 (ixZ pred l)) ∧ Below w.heap.size w w' := by
  refine V.calls [] Tryz.func103 rfl Tryz.ntmps103 (Nat.le_of_ble_eq_true rfl) (V.sat_nil _) <| Sq <| Rg <| Lv Av <| Nl <| Ps <| Sq <| Sq <| Rg <| Lv Mv <| Lv Ln <| Lv Mv <| Nl <| Ps <| Bk <| loopA (γ := Nat) (fun k => [(0, .slice p l.length c), (1, .func (.func f) #[] caps.toArray), (7, .int .i64 (l.length : Nat)), (8, .int .i64 (k : Nat))]) (fun _ => []) (fun k => k ≤ l.length ∧ ixN pred l = k + ixN pred (l.drop k)) (fun k => l.length - k) (0) ⟨Nat.zero_le _, by simp⟩ fun k => ?_
  rintro ⟨hk1, hk2⟩
  refine Sq <| Rg <| Lv Cm <| Nl <| Ps <| Sq ?_
  refine CW.cond rfl (fun h9 => ?_) (fun h9 => ?_)
  · replace h9 := bT h9
    have hk9 : k < l.length := by omega
    obtain ⟨b1, o1, x, rfl, hb1, hx1, hr1⟩ := V.slAt_at h rfl (k := k) hk9
    refine Sk <| Ps <| Sq <| Bk <| Sq <| Rg <| Lv Mv <| Lv Av <| Nl <| Ps <| Sq <| Rg <| Lv Mv <| Lv Mv <| Lv Mv <| Lv Ix <| Lv (Val.loadOA rfl Tryz.isAgg69 hb1 (by simp [ids]) (hr1 k x hx1) Tryz.sizeOf69) <| Le (Eff.callFV (f := f) (caps := caps) rfl rfl hcall (fun w hw => hf w hw.below x (List.mem_of_getElem? hx1))) fun _ _ => Nl <| Ps ?_
    refine CW.cond rfl (fun h16 => ?_) (fun h16 => ?_)
    · replace h16 := bT h16
      have h16 : pred x = true := h16
      refine Sq <| Rg <| Lv Mv <| Lv Av <| Nl <| Ps <| Rt <| Br <| Tr <| Tr <| Br <| Tr <| Rt1 ?_
      intro w' hw; exact ⟨by rw [ixZ_yes (pred := pred) hk9 (by rw [hk2, ixN_yes hx1 h16])], hw.below⟩
    · replace h16 := bF h16
      have h16 : pred x = false := h16
      refine Sk <| Bn <| Ps <| Rg <| Lv Ar <| Lv Mv <| Nl ?_
      exact roundA (k + 1) ⟨by omega, by rw [hk2, ixN_no hx1 h16]; omega⟩ (by omega)
  · replace h9 := bF h9
    have hk9 : l.length ≤ k := by omega
    refine Xt <| Te <| Te <| Bh <| Ps <| Sq <| Rg <| Lv Av <| Nl <| Ps <| Rt <| Rt1 ?_
    intro w' hw; exact ⟨by rw [ixZ_no (pred := pred) hk9 hk2], hw.below⟩
def isK (ky : List UInt8) (x : Pr) : Bool := decide (x.key = ky)
def gtK (ky : List UInt8) (x : Pr) : Bool := decide (ky < x.key)
theorem place_c (l : List Pr) (p : Option Addr) (c : Nat) (qv : Value) (hl : l.length ≤ 1000) (ky : List UInt8) (w : World) (h : V.slAt w p 2 prC l) : Calls Tryz.prog 102 [.agg [.slice p l.length c, qv].toArray, str ky].toArray w fun e w' => e = .returned (.int .i64 (ixZ (isK ky) l)) ∧ Below w.heap.size w w' := by
  refine V.calls [] Tryz.func102 rfl Tryz.ntmps102 (Nat.le_of_ble_eq_true rfl) (V.sat_nil _) <| Sq <| Rg <| Le XA fun b2 _ => Le XS fun b3 _ => Lv Av <| Nl <| Ps <| Sq <| Rg <| Lv (Fa 0 31) <| Lv Ld <| Lv Mf <| Le (CV fun w hw => index_c l p c 131 [.pointer (some ⟨b3, 0, none⟩)] (isK ky) hl Tryz.call131 w (hw.slAt h (by simp [ids])) (fun w1 hb1 x _ => pl1_c x b3 ky w1 (kcell hw (by repeat (first | exact .here | exact .inner .here | exact .inner (.inner .here) | refine .there ?_)) hb1))) fun _ _ => Lv Av <| Nl <| Ps <| Rt <| Rt1 ?_
  intro w hw; exact ⟨rfl, hw.below⟩
end I
end Go.Proofs.YtlpbjmbgopfkhaaGreat

/- A pair put in among pairs. -/
namespace Go.Proofs.YtlpbjmbgopfkhaaGreat
open Go Go.RowKit V
set_option linter.unusedVariables false
set_option maxRecDepth 100000
namespace I
open V (str byC ownV ownG ownS ownOk)
theorem cp2 {α : Type} {A T R N : List α} {a : Nat} (hA : A.length = a) (hT : T.length = N.length) : (A ++ (T ++ R)).take a ++ N ++ (A ++ (T ++ R)).drop (a + N.length) = A ++ (N ++ R) := by
  subst hA
  rw [List.take_left, ← hT, ← List.drop_drop, List.drop_left, List.drop_left, List.append_assoc]
theorem cp1 {α : Type} {A C R : List α} {a : Nat} (hA : A.length = a) (hC : 2 ≤ C.length) (hR : 2 ≤ R.length) : ((A ++ C) ++ R).take (a + 2) ++ C ++ ((A ++ C) ++ R).drop (a + 2 + C.length) = A ++ (C.take 2 ++ (C ++ R.drop 2)) := by
  subst hA
  have h1 : ((A ++ C) ++ R).take (A.length + 2) = A ++ C.take 2 := by
    rw [List.append_assoc, List.take_append, List.take_of_length_le (by omega), show A.length + 2 - A.length = 2 by omega, List.take_append, show 2 - C.length = 0 by omega]
    simp
  have h2 : ((A ++ C) ++ R).drop (A.length + 2 + C.length) = R.drop 2 := by
    rw [show A.length + 2 + C.length = (A ++ C).length + 2 by simp; omega, ← List.drop_drop, List.drop_left]
  rw [h1, h2]
  simp
/-- What an insertion leaves. -/
def insL (l : List Pr) (i : Nat) (x : Pr) : List Pr := l.take i ++ x :: l.drop i
theorem insL_len (l : List Pr) (i : Nat) (x : Pr) (hi : i ≤ l.length) : (insL l i x).length = l.length + 1 := by unfold insL; simp only [List.length_append, List.length_cons, List.length_take, List.length_drop]; omega
theorem prCs_len (l : List Pr) : (l.flatMap prC).length = l.length * 2 := V.flatMap_len prC_len l
theorem insert_c (l : List Pr) (y : V.OwnO) (i : Nat) (x : Pr) (xb xc : Nat) (w : World) (hy : ownOk 2 l.length (l.flatMap prC) y) (hl : l.length ≤ 1000) (hi : i ≤ l.length) (hs : Sat [ownG 69 (l.flatMap prC) y] w) (hx : w.heap[xb]? = some (.cells (prC x).toArray 69 (0, 0))) (hne : xb ∉ V.ids [ownG 69 (l.flatMap prC) y]) :
    Calls Tryz.prog 105 [ownV l.length y, .int .i64 (i : Nat), .slice (some ⟨xb, 0, none⟩) 1 xc].toArray w fun e w' => ∃ y' : V.OwnO, ownOk 2 (insL l i x).length ((insL l i x).flatMap prC) y' ∧ e = .returned (ownV (insL l i x).length y') ∧ Hp ⟨w, V.ids [ownG 69 (l.flatMap prC) y]⟩ [ownG 69 ((insL l i x).flatMap prC) y'] w' := by
  rw [insL_len l i x hi]
  have hxl := V.lt_of_some hx
  rcases y with _ | ⟨gb, rest, cap⟩
  · have hl0 : l = [] := List.length_eq_zero_iff.1 hy.2
    obtain rfl : i = 0 := by rw [hl0] at hi; simpa using hi
    have hfin : (insL l 0 x).flatMap prC = l.flatMap prC ++ prC x := by unfold insL; rw [hl0]; rfl
    refine V.calls [ownG 69 (l.flatMap prC) none] Tryz.func105 rfl Tryz.ntmps105 (Nat.le_of_ble_eq_true rfl) hs <| Sq <| Rg <| Lv Av <| Nl <| Ps <| Sq <| Rg <| Lv Mv <| Lv Mv <| Lv (Val.sliceG 0 0 0 rfl Tryz.underlying31 Tryz.sizeOf69 ⟨_, rfl⟩ (by rw [hl0]; rfl) rfl (fun _ => rfl) (by omega) (by omega) (by omega)) <| Nl <| Ps <| Sq <| Rg <| Lv Mv <| Lv Ln <| Lv Av <| Nl <| Ps <| Sq <| Sq <| Rg <| Lv Mv <| Lv Cm <| LW.re 16 (.bool false) rfl (by rfl) <| Nl <| Ps <| Cf <| Sk <| Ps <| Sq <| Rg <| Lv Mv <| Lv Ln <| Lv Av <| Nl <| Ps <| Sq <| Sq <| Rg <| Lv Mv <| Lv Mv <| Lv Cm <| LW.re 22 (.bool true) rfl (by rfl) <| Nl <| Ps <| Ct <| Sq <| Rg <| Lv Mv <| Lv Mv <| Le (Eff.appendAny (prC x) (sz := 2) (bytes := 32) (z := .agg #[.string ⟨#[]⟩, .string ⟨#[]⟩]) (xs := l.flatMap prC) (m0 := l.length) (o := none) (m := 1) (pk := [ownG 69 (l.flatMap prC) none]) rfl rfl Tryz.underlying31 (by kernel_rfl) rfl (by omega) (by repeat (first | exact .nil | apply Pick.cons | exact .here | apply Ext.there)) (by simp) (hy) (by rfl) (fun hm0 => ⟨xb, 0, rfl, fun w1 hw1 => V.range_of_block (o := 0) (cs := prC x) (r := []) ((hw1.old xb hxl hne).trans hx) (by simp)⟩) (by rfl) (by omega) (by omega)) fun o9 ho9 => ?_
    rw [← hfin] at ho9 ⊢
    refine Lv Av <| Nl <| Ps <| Rt <| Tr <| Rt1 ?_
    intro w' hw; exact ⟨o9, ho9, rfl, hw.pick (by repeat (first | exact .nil | apply Pick.cons | exact .here | apply Ext.there))⟩
  · obtain ⟨A, hA⟩ : ∃ A, A = (l.take i).flatMap prC := ⟨_, rfl⟩
    obtain ⟨C, hC⟩ : ∃ C, C = (l.drop i).flatMap prC := ⟨_, rfl⟩
    obtain ⟨zl, hz⟩ : ∃ zl : List Value, zl = [.string ⟨#[]⟩, .string ⟨#[]⟩] := ⟨_, rfl⟩
    have hzl : zl.length = 2 := by rw [hz]; rfl
    have hAC : l.flatMap prC = A ++ C := by rw [hA, hC, ← List.flatMap_append, List.take_append_drop]
    have hAl : A.length = i * 2 := by rw [hA, prCs_len, List.length_take]; congr 1; omega
    have hCl : C.length = (l.length - i) * 2 := by rw [hC, prCs_len, List.length_drop]
    have hC1 : C.all (·.oneCell') = true := by rw [hC]; exact all_one prC_one _
    have hfin : (insL l i x).flatMap prC = A ++ (prC x ++ C) := by unfold insL; rw [hA, hC]; simp
    have hcap : (A ++ C).length + rest.length = cap * 2 := by rw [← hAC]; exact hy.2
    have hcap2 : l.length ≤ cap := by simp only [List.length_append, hAl, hCl] at hcap; omega
    have hcap3 : i * 2 + (l.length - i) * 2 + rest.length = cap * 2 := by simp only [List.length_append, hAl, hCl] at hcap; omega
    rw [hAC] at hs
    refine V.calls [[(gb, .cells (((A ++ C) ++ rest)).toArray 69 (0, 0))]] Tryz.func105 rfl Tryz.ntmps105 (Nat.le_of_ble_eq_true rfl) hs <| Sq <| Rg <| Lv Av <| Nl <| Ps <| Sq <| Rg <| Lv Mv <| Lv Mv <| Lv (Val.slice (i) (l.length) (cap) rfl Tryz.underlying31 Tryz.sizeOf69 ⟨_, rfl⟩ rfl rfl (fun _ => rfl) (by omega) (by omega) (by omega)) <| Nl <| Ps <| Sq <| Rg <| Lv Mv <| Lv Ln <| Lv Av <| Nl <| Ps <| Sq <| Sq <| Rg <| Lv Mv <| Lv Cm <| LW.re 16 (.bool false) rfl (by rfl) <| Nl <| Ps <| Cf <| Sk <| Ps <| Sq <| Rg <| Lv Mv <| Lv Ln <| Lv Av <| Nl <| Ps <| Sq <| Sq <| Rg <| Lv Mv <| Lv Mv <| Lv Cm <| Nl <| Ps ?_
    refine CW.cond rfl (fun h22 => ?_) (fun h22 => ?_)
    · replace h22 := bT h22
      have h22 : (i : Int) = (l.length : Int) := h22
      refine Sq <| Rg <| Lv Mv <| Lv Mv <| Le (Eff.appendAny (prC x) (sz := 2) (bytes := 32) (z := .agg #[.string ⟨#[]⟩, .string ⟨#[]⟩]) (xs := (A ++ C)) (m0 := l.length) (o := some (gb, rest, cap)) (m := 1) (pk := [[(gb, .cells (((A ++ C) ++ rest)).toArray 69 (0, 0))]]) rfl rfl Tryz.underlying31 (by kernel_rfl) rfl (by omega) (by repeat (first | exact .nil | apply Pick.cons | exact .here | apply Ext.there)) (by rfl) (by rw [← hAC]; exact hy) (by rfl) (fun hm0 => ⟨xb, 0, rfl, fun w1 hw1 => V.range_of_block (o := 0) (cs := prC x) (r := []) ((hw1.old xb hxl hne).trans hx) (by simp)⟩) (by rfl) (by omega) (by omega)) fun o9 ho9 => Lv Av <| Nl <| Ps <| Rt <| Tr <| Rt1 ?_
      have hC0 : C = [] := List.length_eq_zero_iff.1 (by omega)
      have e9 : A ++ (prC x ++ C) = (A ++ C) ++ prC x := by rw [hC0]; simp
      rw [hfin, e9]
      intro w' hw; exact ⟨o9, ho9, rfl, hw.pick (by repeat (first | exact .nil | apply Pick.cons | exact .here | apply Ext.there))⟩
    · replace h22 := bF h22
      have h22 : (i : Int) ≠ (l.length : Int) := h22
      refine Sk <| Ps <| Sq <| Sq <| Rg <| Lv Mv <| Lv Mv <| Lv Ar <| Lv Mv <| Lv (Val.capSl rfl Tryz.underlying31) <| Lv Cm <| Nl <| Ps ?_
      refine CW.cond rfl (fun h31 => ?_) (fun h31 => ?_)
      · replace h31 := bT h31
        have h31 : (cap : Int) < (l.length : Int) + 1 := h31
        refine Sq <| Rg <| Lv Mv <| Lv Mv <| Lv (Val.slice (0) (i) (cap) rfl Tryz.underlying31 Tryz.sizeOf69 rfl ⟨_, rfl⟩ rfl (fun _ => rfl) (by omega) (by omega) (by omega)) <| LW.re 34 (.slice (some ⟨gb, 0, none⟩) (i) (cap)) rfl (by first | (rw [if_neg (by omega)]; simp; done) | (simp; done)) <| Lv Mv <| Lv Mv <| Lv Ar <| Lv Mv <| Lv Ar <| LW.re 39 (.int .i64 ((l.length - i + 1 : Nat) : Int)) rfl (by congr 1; omega) <| Le (Eff.appendMake (sz := 2) (bytes := 32) (z := .agg #[.string ⟨#[]⟩, .string ⟨#[]⟩]) (zl := zl) (olds := A) (k := l.length - i + 1) rfl rfl Tryz.underlying31 Tryz.underlying3 (by kernel_rfl) (by rw [hz]; rfl) hzl (by omega) hAl (fun w1 hw1 => V.range_of_block (o := 0) (r := C ++ rest) (hw1.own _ (show InS (gb, .cells ((A ++ C) ++ rest).toArray 69 (0, 0)) _ from (by repeat (first | exact .here | exact .inner .here | exact .inner (.inner .here) | refine .there ?_))).mem) (by simp)) (by omega) (by omega) (by omega) (by omega)) ?_
        rintro o40 ⟨ho40, hs40⟩
        obtain ⟨⟨g4, r4, c4⟩, rfl⟩ := Option.isSome_iff_exists.1 hs40
        obtain ⟨_, hc4⟩ := ho40
        simp only at hc4
        have hc42 : l.length + 1 ≤ c4 := by simp only [List.length_append, hAl, V.repL_length, hzl] at hc4; omega
        refine V.LW.perm (sg' := [[(g4, .cells ((A ++ (zl ++ (V.repL zl (l.length - i) ++ r4)))).toArray 69 (0, 0))], [(gb, .cells (((A ++ C) ++ rest)).toArray 69 (0, 0))]]) ?_ (by simp [V.ownG, V.ownS, V.repL])
        refine LW.re 40 (.slice (some ⟨g4, 0, none⟩) (l.length + 1) c4) rfl (by rw [show i + (l.length - i + 1) = l.length + 1 from by omega]; rfl) <| Lv Av <| Nl <| Ps <| Sq <| Rg <| Lv Mv <| Lv Mv <| Lv (Val.slice (i) (l.length + 1) (c4) rfl Tryz.underlying31 Tryz.sizeOf69 ⟨_, rfl⟩ rfl rfl (fun _ => rfl) (by omega) (by omega) (by omega)) <| LW.re 43 (.slice (some ⟨g4, i * 2, none⟩) (l.length + 1 - i) (c4 - i)) rfl (by first | (rw [if_neg (by omega)]; simp; done) | (simp; done)) <| Lv Mv <| Le (Eff.copy (cs := prC x) (gb := g4) (cur := (A ++ (zl ++ (V.repL zl (l.length - i) ++ r4)))) (cells' := ((A ++ prC x) ++ (V.repL zl (l.length - i) ++ r4))) (m := 1) (sz := 2) rfl rfl Tryz.underlying31 (by kernel_rfl) (by repeat (first | exact .here | exact .inner .here | exact .inner (.inner .here) | apply Upd.there)) (by rw [show i * 2 = A.length from hAl.symm, cp2 rfl (by rw [hzl]; rfl), List.append_assoc]) (show min (1) (l.length + 1 - i) = _ from by omega) (by first | rfl | exact hCl | omega) (fun w1 hw1 j u hj => by rw [Addr.add_mid]; exact (V.range_of_block (o := 0) (cs := prC x) (r := []) ((hw1.old xb hxl hne).trans hx) (by simp)) j u hj) (by simp only [List.length_append, List.length_drop, List.length_take, hAl, hCl, prC_len, V.repL_length, hzl, List.length_cons, List.length_nil]; omega) (by first | rfl | exact hC1)) fun _ _ => Nl <| Ps <| Sq <| Dr ([[(gb, .cells (((A ++ C) ++ rest)).toArray 69 (0, 0))]]) <| Rv 0 rfl Mv <| Rv 1 rfl Mv <| Rv 2 rfl Mv <| Rv 3 rfl Ar <| RW.re 49 (.int .i64 ((i + 1 : Nat) : Int)) rfl (by congr 1) <| Rv 4 rfl (Val.slice (i + 1) (l.length + 1) (c4) rfl Tryz.underlying31 Tryz.sizeOf69 ⟨_, rfl⟩ rfl rfl (fun _ => rfl) (by omega) (by omega) (by omega)) <| RW.re 50 (.slice (some ⟨g4, (i + 1) * 2, none⟩) (l.length + 1 - (i + 1)) (c4 - (i + 1))) rfl (by first | (rw [if_neg (by omega)]; simp; done) | (simp; done)) <| Rv 5 rfl Mv <| Rv 6 rfl Mv <| Rv 7 rfl (Val.slice (i) (l.length) (cap) rfl Tryz.underlying31 Tryz.sizeOf69 ⟨_, rfl⟩ rfl rfl (fun _ => rfl) (by omega) (by omega) (by omega)) <| RW.re 53 (.slice (some ⟨gb, i * 2, none⟩) (l.length - i) (cap - i)) rfl (by first | (rw [if_neg (by omega)]; simp; done) | (simp; done)) <| Re 8 rfl (Eff.copy (cs := C) (gb := g4) (cur := ((A ++ prC x) ++ (V.repL zl (l.length - i) ++ r4))) (cells' := ((A ++ prC x) ++ (C ++ r4))) (m := l.length - i) (sz := 2) rfl rfl Tryz.underlying31 (by kernel_rfl) (by repeat (first | exact .here | exact .inner .here | exact .inner (.inner .here) | apply Upd.there)) (cp2 (by simp only [List.length_append, hAl, prC_len]; omega) (by rw [V.repL_length, hzl, hCl])) (show min (l.length - i) (l.length + 1 - (i + 1)) = _ from by omega) (by first | rfl | exact hCl | omega) (fun w1 hw1 j u hj => by rw [Addr.add_mid]; exact (V.range_of_block (o := i * 2) (cs := C) (r := rest) (hw1.own _ (show InS (gb, .cells ((A ++ C) ++ rest).toArray 69 (0, 0)) _ from (by repeat (first | exact .here | exact .inner .here | exact .inner (.inner .here) | refine .there ?_))).mem) (by rw [List.append_assoc, ← hAl, List.drop_left])) j u hj) (by simp only [List.length_append, List.length_drop, List.length_take, hAl, hCl, prC_len, V.repL_length, hzl, List.length_cons, List.length_nil]; omega) (by first | rfl | exact hC1)) ?_
        intro _ _
        refine Rd <| Ps <| Sq <| Rg <| Lv Mv <| Lv Av <| Nl <| Ps <| Rt <| Tr <| Rt1 ?_
        have e9 : ((A ++ prC x) ++ (C ++ r4)) = (A ++ (prC x ++ C)) ++ r4 := by simp
        rw [hfin]
        intro w' hw
        rw [e9] at hw
        exact ⟨some (g4, r4, c4), ⟨by simp only [List.length_append, hAl, hCl, prC_len]; omega, by simp only [List.length_append, hAl, hCl, prC_len, V.repL_length, hzl] at hc4 ⊢; omega⟩, rfl, hw.pick (ss := [[(g4, .cells ((A ++ (prC x ++ C)) ++ r4).toArray 69 (0, 0))]]) (by repeat (first | exact .nil | apply Pick.cons | exact .here | apply Ext.there))⟩
      · replace h31 := bF h31
        have h31 : (l.length : Int) + 1 ≤ (cap : Int) := h31
        refine Sk <| Ps <| Sq <| Rg <| Lv Mv <| Lv Mv <| Lv Mv <| Lv Ar <| LW.re 59 (.int .i64 ((l.length + 1 : Nat) : Int)) rfl (by congr 1) <| Lv (Val.slice (0) (l.length + 1) (cap) rfl Tryz.underlying31 Tryz.sizeOf69 rfl ⟨_, rfl⟩ rfl (fun _ => rfl) (by omega) (by omega) (by omega)) <| LW.re 60 (.slice (some ⟨gb, 0, none⟩) (l.length + 1) (cap)) rfl (by first | (rw [if_neg (by omega)]; simp; done) | (simp; done)) <| Lv Av <| Nl <| Ps <| Sq <| Sq <| Rg <| Lv Mv <| Lv Mv <| Lv Mv <| Lv Mv <| Lv Ar <| LW.re 65 (.int .i64 ((i + 1 : Nat) : Int)) rfl (by congr 1) <| Lv (Val.slice (i + 1) (l.length + 1) (cap) rfl Tryz.underlying31 Tryz.sizeOf69 ⟨_, rfl⟩ rfl rfl (fun _ => rfl) (by omega) (by omega) (by omega)) <| LW.re 66 (.slice (some ⟨gb, (i + 1) * 2, none⟩) (l.length + 1 - (i + 1)) (cap - (i + 1))) rfl (by first | (rw [if_neg (by omega)]; simp; done) | (simp; done)) ?_
        refine LW.v rfl rfl (Val.callX (v := .bool false) rfl (fun w1 hw1 => by
            have hgb := hw1.own _ (show InS (gb, .cells ((A ++ C) ++ rest).toArray 69 (0, 0)) _ from (by repeat (first | exact .here | exact .inner .here | exact .inner (.inner .here) | refine .there ?_))).mem
            have hxb := (hw1.old xb hxl hne).trans hx
            rw [run_callFunc_extern Tryz.func132 (by kernel_rfl) (by kernel_rfl) (by kernel_rfl) (e := Extern.SlicesOverlaps.overlaps #[31, 31] #[4]) (by kernel_rfl)]
            have hr := Go.Lib.run_overlaps_apart (P := Tryz.prog) w1 31 4 69 Tryz.underlying31 2 Tryz.sizeOf69 ⟨xb, 0, none⟩ ⟨gb, (i + 1) * 2, none⟩ 1 xc (l.length + 1 - (i + 1)) (cap - (i + 1)) (fun h8 => hne (by simp only at h8; rw [h8]; exact List.mem_singleton.2 rfl)) 69 69 2 (((A ++ C) ++ rest).length) (by simp [World.shape?, hxb, prC]) (by simp [World.shape?, hgb]) (by simp only [List.length_append, hAl, hCl]; omega) (by simp [World.frozen?, hxb]) (by simp [World.frozen?, hxb])
            rw [hr]
            rfl)) ?_
        refine Lv Nt <| LW.re 68 (.bool true) rfl (by rfl) <| Nl <| Ps <| Ct <| Sq <| Dr ([]) <| Rv 0 rfl Mv <| Rv 1 rfl Mv <| Rv 2 rfl Mv <| Rv 3 rfl Ar <| RW.re 72 (.int .i64 ((i + 1 : Nat) : Int)) rfl (by congr 1) <| Rv 4 rfl (Val.slice (i + 1) (l.length + 1) (cap) rfl Tryz.underlying31 Tryz.sizeOf69 ⟨_, rfl⟩ rfl rfl (fun _ => rfl) (by omega) (by omega) (by omega)) <| RW.re 73 (.slice (some ⟨gb, (i + 1) * 2, none⟩) (l.length + 1 - (i + 1)) (cap - (i + 1))) rfl (by first | (rw [if_neg (by omega)]; simp; done) | (simp; done)) <| Rv 5 rfl Mv <| Rv 6 rfl Mv <| Rv 7 rfl (Val.slice (i) (l.length + 1) (cap) rfl Tryz.underlying31 Tryz.sizeOf69 ⟨_, rfl⟩ rfl rfl (fun _ => rfl) (by omega) (by omega) (by omega)) <| RW.re 76 (.slice (some ⟨gb, i * 2, none⟩) (l.length + 1 - i) (cap - i)) rfl (by first | (rw [if_neg (by omega)]; simp; done) | (simp; done)) <| Re 8 rfl (Eff.copy (cs := C) (gb := gb) (cur := ((A ++ C) ++ rest)) (cells' := (A ++ (C.take 2 ++ (C ++ rest.drop 2)))) (m := l.length - i) (sz := 2) rfl rfl Tryz.underlying31 (by kernel_rfl) (by repeat (first | exact .here | exact .inner .here | exact .inner (.inner .here) | apply Upd.there)) (by rw [Nat.add_mul]; exact cp1 hAl (by omega) (by simp only [List.length_append, hAl, hCl] at hcap; omega)) (show min (l.length + 1 - i) (l.length + 1 - (i + 1)) = _ from by omega) (by first | rfl | exact hCl | omega) (fun w1 hw1 j u hj => by rw [Addr.add_mid]; exact (V.range_of_block (o := i * 2) (cs := C) (r := rest) (hw1.own _ (show InS (gb, .cells ((A ++ C) ++ rest).toArray 69 (0, 0)) _ from (by repeat (first | exact .here | exact .inner .here | exact .inner (.inner .here) | refine .there ?_))).mem) (by rw [List.append_assoc, ← hAl, List.drop_left])) j u hj) (by simp only [List.length_append, List.length_drop, List.length_take, hAl, hCl, prC_len, V.repL_length, hzl, List.length_cons, List.length_nil]; omega) (by first | rfl | exact hC1)) ?_
        intro _ _
        refine Rd <| Ps <| Sq <| Rg <| Lv Mv <| Lv Mv <| Lv (Val.slice (i) (l.length + 1) (cap) rfl Tryz.underlying31 Tryz.sizeOf69 ⟨_, rfl⟩ rfl rfl (fun _ => rfl) (by omega) (by omega) (by omega)) <| LW.re 80 (.slice (some ⟨gb, i * 2, none⟩) (l.length + 1 - i) (cap - i)) rfl (by first | (rw [if_neg (by omega)]; simp; done) | (simp; done)) <| Lv Mv <| Le (Eff.copy (cs := prC x) (gb := gb) (cur := (A ++ (C.take 2 ++ (C ++ rest.drop 2)))) (cells' := (A ++ (prC x ++ (C ++ rest.drop 2)))) (m := 1) (sz := 2) rfl rfl Tryz.underlying31 (by kernel_rfl) (by repeat (first | exact .here | exact .inner .here | exact .inner (.inner .here) | apply Upd.there)) (cp2 hAl (by rw [List.length_take, hCl, prC_len]; omega)) (show min (1) (l.length + 1 - i) = _ from by omega) (by first | rfl | exact hCl | omega) (fun w1 hw1 j u hj => by rw [Addr.add_mid]; exact (V.range_of_block (o := 0) (cs := prC x) (r := []) ((hw1.old xb hxl hne).trans hx) (by simp)) j u hj) (by simp only [List.length_append, List.length_drop, List.length_take, hAl, hCl, prC_len, V.repL_length, hzl, List.length_cons, List.length_nil]; omega) (by first | rfl | exact hC1)) fun _ _ => Nl <| Ps <| Sq <| Rg <| Lv Mv <| Lv Av <| Nl <| Ps <| Rt <| Tr <| Rt1 ?_
        have e9 : (A ++ (prC x ++ (C ++ rest.drop 2))) = (A ++ (prC x ++ C)) ++ rest.drop 2 := by simp
        rw [hfin]
        intro w' hw
        rw [e9] at hw
        exact ⟨some (gb, rest.drop 2, cap), ⟨by simp only [List.length_append, hAl, hCl, prC_len]; omega, by simp only [List.length_append, List.length_drop, hAl, hCl, prC_len] at hcap ⊢; omega⟩, rfl, hw.pick (ss := [[(gb, .cells ((A ++ (prC x ++ C)) ++ rest.drop 2).toArray 69 (0, 0))]]) (by repeat (first | exact .nil | apply Pick.cons | exact .here | apply Ext.there))⟩
end I
end Go.Proofs.YtlpbjmbgopfkhaaGreat

/- The program's store: a key's value set. -/
namespace Go.Proofs.YtlpbjmbgopfkhaaGreat
open Go Go.RowKit V
set_option linter.unusedVariables false
set_option maxRecDepth 100000
namespace I
open V (str byC ownV ownG ownS ownOk)
theorem own_sl (l : List Pr) (y : V.OwnO) (hy : ownOk 2 l.length (l.flatMap prC) y) : ∃ (p : Option Addr) (c : Nat), ownV l.length y = .slice p l.length c ∧ ∀ {B : V.Base} {sg r : V.Sg} {w : World}, Hp B sg w → Pick [ownG 69 (l.flatMap prC) y] sg r → V.slAt w p 2 prC l := by
  rcases y with _ | ⟨gb, rest, cap⟩
  · have hl0 : l.length = 0 := hy.2
    exact ⟨none, 0, by rw [hl0]; rfl, fun _ _ => .inl (List.length_eq_zero_iff.1 hl0)⟩
  · exact ⟨some ⟨gb, 0, none⟩, cap, rfl, fun hw hp => V.slAt_flat (hw.pick hp) prC_len rfl .here⟩
theorem not_in {B : V.Base} {ss sg r : V.Sg} {w : World} {p : Nat × Obj} (hw : Hp B sg w) (hp : Pick ss sg r) (hm : InS p r) : p.1 ∉ V.ids ss := fun h => by
  have hnd := (hw.perm (sg' := ss ++ r) (by rw [List.flatten_append]; exact hp.perm')).nd
  rw [List.flatten_append, List.map_append] at hnd
  exact (List.nodup_append.1 hnd).2.2 _ h _ (List.mem_map.2 ⟨p, hm.mem, rfl⟩) rfl
theorem ixN_le (pred : Pr → Bool) (l : List Pr) : ixN pred l ≤ l.length := by
  induction l with
  | nil => exact Nat.le_refl _
  | cons a r ih => simp only [ixN, List.length_cons]; split <;> omega
theorem ixN_get (l : List Pr) (k : List UInt8) : (getF l k).isSome = decide (ixN (isK k) l < l.length) := by
  induction l with
  | nil => rfl
  | cons a r ih =>
    simp only [getF, ixN, isK, List.length_cons, decide_eq_true_eq]
    by_cases h : a.key = k
    · simp [h]
    · rw [if_neg h, if_neg h, ih]
      rw [decide_eq_decide]
      exact ⟨fun h => Nat.succ_lt_succ h, fun h => Nat.lt_of_succ_lt_succ h⟩
theorem insF_ins (l : List Pr) (k v : List UInt8) : insF k v l = insL l (ixN (gtK k) l) ⟨k, v⟩ := by
  induction l with
  | nil => rfl
  | cons a r ih =>
    simp only [insF, ixN, gtK, decide_eq_true_eq]
    by_cases h : k < a.key
    · rw [if_pos h, if_pos h]; rfl
    · rw [if_neg h, if_neg h, ih]; rfl
theorem repF_len (l : List Pr) (k v : List UInt8) : (repF k v l).length = l.length := by
  induction l with
  | nil => rfl
  | cons a r ih => simp only [repF]; split <;> simp_all
theorem rep_set (l : List Pr) (k v : List UInt8) (rest : List Value) (h : ixN (isK k) l < l.length) : (l.flatMap prC ++ rest).set (ixN (isK k) l * 2 + 1) (str v) = (repF k v l).flatMap prC ++ rest := by
  induction l with
  | nil => simp at h
  | cons a r ih =>
    simp only [ixN, isK, repF, decide_eq_true_eq] at h ⊢
    by_cases hk : a.key = k
    · rw [if_pos hk, if_pos hk]; rfl
    · rw [if_neg hk, if_neg hk]
      rw [if_neg hk] at h
      have h1 := ih (Nat.lt_of_succ_lt_succ h)
      rw [show (ixN (isK k) r + 1) * 2 + 1 = ixN (isK k) r * 2 + 1 + 1 + 1 by omega]
      show str a.key :: str a.val :: (((r.flatMap prC) ++ rest).set _ _) = _
      rw [h1]; rfl
theorem set_c (l : List Pr) (y : V.OwnO) (qv : Value) (sb : Nat) (ky v : List UInt8) (w : World) (hy : ownOk 2 l.length (l.flatMap prC) y) (hl : l.length ≤ 1000) (hq : qv.oneCell' = true) (hs : Sat [[(sb, .cells [ownV l.length y, qv].toArray 34 (0, 0))], ownG 69 (l.flatMap prC) y] w) :
    Calls Tryz.prog 73 [.pointer (some ⟨sb, 0, none⟩), str ky, str v].toArray w fun e w' => ∃ y' : V.OwnO, ownOk 2 (putF l ky v).length ((putF l ky v).flatMap prC) y' ∧ e = .returned (.bool (getF l ky).isSome) ∧ Hp ⟨w, V.ids [[(sb, .cells [ownV l.length y, qv].toArray 34 (0, 0))], ownG 69 (l.flatMap prC) y]⟩ [[(sb, .cells [ownV (putF l ky v).length y', qv].toArray 34 (0, 0))], ownG 69 ((putF l ky v).flatMap prC) y'] w' := by
  obtain ⟨p, c, hp, hsl⟩ := own_sl l y hy
  refine V.calls [[(sb, .cells [ownV l.length y, qv].toArray 34 (0, 0))], ownG 69 (l.flatMap prC) y] Tryz.func73 rfl Tryz.ntmps73 (Nat.le_of_ble_eq_true rfl) hs <| Sq <| Rg <| Le XS fun b4 _ => Lv Av <| Nl <| Ps <| Sq <| Sq <| Qt <| Qv Mv <| Qv Nz <| Qv (Lw (l := [ownV l.length y, qv])) <| QW.re 11 (.agg [.slice p l.length c, qv].toArray) rfl (by rw [hp]) <| Qv Ld <| Qc (QV fun w hw => place_c l p c qv hl ky w (hsl hw (by repeat (first | exact .nil | apply Pick.cons | exact .here | apply Ext.there)))) <| Qv Av <| Ql <| Ps <| Sq <| Rg <| Lv Mv <| Lv Cm <| Nl <| Ps ?_
  refine CW.cond rfl (fun h15 => ?_) (fun h15 => ?_)
  · replace h15 := bT h15
    have h15 : (0 : Int) ≤ ixZ (isK ky) l := h15
    have hix : ixN (isK ky) l < l.length := by unfold ixZ at h15; split at h15 <;> omega
    rcases y with _ | ⟨gb, rest, cap⟩
    · exact absurd hy.2 (by omega)
    refine V.CW.perm (sg' := [[(b4, .cells [str ky].toArray 9 (0, 0))], [(sb, .cells [ownV l.length (some (gb, rest, cap)), qv].toArray 34 (0, 0))], [(gb, .cells (l.flatMap prC ++ rest).toArray 69 (0, 0))]]) ?_ (by simp [V.ownG, V.ownS])
    refine Sq <| Rg <| Lv Mv <| Lv Nz <| Lv (Fa 0 31) <| Lv (Ld (v := ownV l.length (some (gb, rest, cap)))) <| LW.re 19 (.slice (some ⟨gb, 0, none⟩) l.length cap) rfl (by rfl) <| Lv Mv <| LW.re 20 (.int .i64 ((ixN (isK ky) l : Nat) : Int)) rfl (by congr 1; unfold ixZ; rw [if_pos hix]) <| Lv Mv <| Lv (Val.indexAddrN rfl rfl Tryz.underlying31 Tryz.sizeOf69 hix) <| Lv (Fa 1 9) <| LeN (Eff.storeX (l' := (repF ky v l).flatMap prC ++ rest) rfl rfl rfl (by repeat (first | exact .here | exact .inner .here | exact .inner (.inner .here) | apply Upd.there)) (by rw [Nat.zero_add]; exact rep_set l ky v rest hix) (by rw [List.length_append, prCs_len]; omega) Tryz.sizeOf9) fun _ _ => Nl <| Ps <| Sq <| Rg <| Lv Av <| Nl <| Ps <| Rt <| Tr <| Rt1 ?_
    have hpf : putF l ky v = repF ky v l := by unfold putF; rw [ixN_get, if_pos (by simpa using hix)]
    rw [hpf, ixN_get, decide_eq_true hix]
    intro w' hw
    exact ⟨some (gb, rest, cap), ⟨by rw [prCs_len], by rw [prCs_len, repF_len]; have h8 := hy.2; simp only [prCs_len] at h8; exact h8⟩, rfl, by rw [repF_len]; exact hw.pick (ss := [[(sb, .cells [ownV l.length (some (gb, rest, cap)), qv].toArray 34 (0, 0))], [(gb, .cells ((repF ky v l).flatMap prC ++ rest).toArray 69 (0, 0))]]) (by repeat (first | exact .nil | apply Pick.cons | exact .here | apply Ext.there))⟩
  · replace h15 := bF h15
    have h15 : ixZ (isK ky) l < 0 := h15
    have hnx : ¬ ixN (isK ky) l < l.length := by unfold ixZ at h15; split at h15 <;> omega
    have hpf : putF l ky v = insF ky v l := by unfold putF; rw [ixN_get, if_neg (by simpa using hnx)]
    refine Sk <| Ps <| Sq <| Rg <| Lv Mv <| Lv Nz <| Lv (Fa 0 31) <| Lv (Ld (v := ownV l.length y)) <| LW.re 27 (.slice p l.length c) rfl hp <| Lv Mf <| Le (CV fun w hw => index_c l p c 104 [.pointer (some ⟨b4, 0, none⟩)] (gtK ky) hl Tryz.call104 w (hsl hw (by repeat (first | exact .nil | apply Pick.cons | exact .here | apply Ext.there))) (fun w1 hb1 x _ => st1_c x b4 ky w1 (kcell hw (by repeat (first | exact .here | exact .inner .here | exact .inner (.inner .here) | refine .there ?_)) hb1))) fun _ _ => Lv Av <| Nl <| Ps <| Sq ?_
    refine CW.join (fun i : Nat => i ≤ l.length ∧ putF l ky v = insL l i ⟨ky, v⟩) (fun i => [(0, .pointer (some ⟨sb, 0, none⟩)), (2, str v), (4, .pointer (some ⟨b4, 0, none⟩)), (8, .int .i64 (i : Nat))]) (fun _ => [[(b4, .cells [str ky].toArray 9 (0, 0))], [(sb, .cells [ownV l.length y, qv].toArray 34 (0, 0))], ownG 69 (l.flatMap prC) y]) ?_ ?_
    · refine Sq <| Rg <| Lv Mv <| Lv Cm <| Nl <| Ps ?_
      refine CW.cond rfl (fun h31 => ?_) (fun h31 => ?_)
      · replace h31 := bT h31
        have h31 : ixZ (gtK ky) l < 0 := h31
        refine Rg <| Lv Mv <| Lv Nz <| Lv (Fa 0 31) <| Lv (Ld (v := ownV l.length y)) <| Lv (Val.lenOwn rfl Tryz.underlying31 hy) <| Lv Av <| Nl ?_
        exact joinC (l.length) (⟨Nat.le_refl _, by rw [hpf, insF_ins, show ixN (gtK ky) l = l.length from by have := ixN_le (gtK ky) l; unfold ixZ at h31; split at h31 <;> omega]⟩)
      · replace h31 := bF h31
        have h31 : (0 : Int) ≤ ixZ (gtK ky) l := h31
        refine Sk <| PQ.re 8 (.int .i64 ((ixN (gtK ky) l : Nat) : Int)) rfl (by congr 1; unfold ixZ at h31 ⊢; split at h31 <;> omega) ?_
        exact joinC (ixN (gtK ky) l) (⟨ixN_le _ _, by rw [hpf, insF_ins]⟩)
    · rintro i ⟨hi1, hi2⟩
      refine Ps <| Sq <| Dr ([[(b4, .cells [str ky].toArray 9 (0, 0))]]) <| Rv 0 rfl Mv <| Rv 1 rfl Mv <| Rv 2 rfl Nz <| Rv 3 rfl (Fa 0 31) <| Rv 5 rfl Mv <| Rv 6 rfl Ld <| Rv 7 rfl Mv <| Rv 8 rfl (Bd [_, _]) <| RW.any [4, 9] (by kernel_rfl) (by simp) fun i hi => ?_
      simp only [List.mem_cons, List.not_mem_nil, or_false] at hi
      rcases hi with rfl | rfl
      · refine Ro rfl (Eff.ofVal (Val.load (v := ownV l.length y) rfl Tryz.isAgg31 (by repeat (first | exact .here | exact .inner .here | exact .inner (.inner .here) | refine .there ?_)) (by rfl))) fun _ _ => Re 9 rfl (Eff.buildSlice (rfl) [_, _] Tryz.underlying31 Tryz.sizeOf69 (by exact Tryz.zeroValue69) rfl rfl rfl rfl (by rfl)) fun b46 _ => Re 10 rfl (CM ([ownG 69 (l.flatMap prC) y]) fun w hw hs => insert_c l y i ⟨ky, v⟩ b46 1 w hy hl hi1 hs (hw.own _ (show InS (b46, .cells (prC ⟨ky, v⟩).toArray 69 (0, 0)) _ from (by repeat (first | exact .here | exact .inner .here | exact .inner (.inner .here) | refine .there ?_))).mem) (not_in hw (show Pick [ownG 69 (l.flatMap prC) y] _ _ from (by repeat (first | exact .nil | apply Pick.cons | exact .here | apply Ext.there))) (show InS (b46, .cells (prC ⟨ky, v⟩).toArray 69 (0, 0)) _ from (by repeat (first | exact .here | exact .inner .here | exact .inner (.inner .here) | refine .there ?_))))) fun y2 hy2 => Rv 11 rfl Nz <| Rv 12 rfl (Fa 0 31) <| ReN 13 rfl (StS (h1 := V.ownV_one _ _)) fun _ _ => Rd <| Ps <| Sq <| Rg <| Lv Av <| Nl <| Ps <| Rt <| Rt1 ?_
        rw [ixN_get, decide_eq_false (by omega)]
        rw [hi2]
        intro w' hw
        exact ⟨y2, hy2, rfl, hw.pick (by repeat (first | exact .nil | apply Pick.cons | exact .here | apply Ext.there))⟩
      · refine Ro rfl (Eff.buildSlice (rfl) [_, _] Tryz.underlying31 Tryz.sizeOf69 (by exact Tryz.zeroValue69) rfl rfl rfl rfl (by rfl)) fun b46 _ => Re 4 rfl (Eff.ofVal (Val.load (v := ownV l.length y) rfl Tryz.isAgg31 (by repeat (first | exact .here | exact .inner .here | exact .inner (.inner .here) | refine .there ?_)) (by rfl))) fun _ _ => Re 10 rfl (CM ([ownG 69 (l.flatMap prC) y]) fun w hw hs => insert_c l y i ⟨ky, v⟩ b46 1 w hy hl hi1 hs (hw.own _ (show InS (b46, .cells (prC ⟨ky, v⟩).toArray 69 (0, 0)) _ from (by repeat (first | exact .here | exact .inner .here | exact .inner (.inner .here) | refine .there ?_))).mem) (not_in hw (show Pick [ownG 69 (l.flatMap prC) y] _ _ from (by repeat (first | exact .nil | apply Pick.cons | exact .here | apply Ext.there))) (show InS (b46, .cells (prC ⟨ky, v⟩).toArray 69 (0, 0)) _ from (by repeat (first | exact .here | exact .inner .here | exact .inner (.inner .here) | refine .there ?_))))) fun y2 hy2 => Rv 11 rfl Nz <| Rv 12 rfl (Fa 0 31) <| ReN 13 rfl (StS (h1 := V.ownV_one _ _)) fun _ _ => Rd <| Ps <| Sq <| Rg <| Lv Av <| Nl <| Ps <| Rt <| Rt1 ?_
        rw [ixN_get, decide_eq_false (by omega)]
        rw [hi2]
        intro w' hw
        exact ⟨y2, hy2, rfl, hw.pick (by repeat (first | exact .nil | apply Pick.cons | exact .here | apply Ext.there))⟩
end I
end Go.Proofs.YtlpbjmbgopfkhaaGreat

/- The program's store: a key taken away; what waits first taken away. -/
namespace Go.Proofs.YtlpbjmbgopfkhaaGreat
open Go Go.RowKit V
set_option linter.unusedVariables false
set_option maxRecDepth 100000
namespace I
open V (str byC ownV ownG ownS ownOk)
theorem splice_take : ∀ (cs l : List Value) (o : Nat), (V.splice l o cs).take o = l.take o
  | [], l, o => rfl
  | v :: r, l, o => by
    have h := splice_take r (l.set o v) (o + 1)
    have h2 : ((V.splice (l.set o v) (o + 1) r).take (o + 1)).take o = ((l.set o v).take (o + 1)).take o := by rw [h]
    rw [List.take_take, List.take_take, Nat.min_eq_left (Nat.le_succ o)] at h2
    show (V.splice (l.set o v) (o + 1) r).take o = _
    rw [h2]
    apply List.ext_getElem?
    intro i
    rw [List.getElem?_take, List.getElem?_take]
    split
    · rw [List.getElem?_set_ne (by omega)]
    · rfl
theorem zrep_one (m : Nat) : (V.repL [.string ⟨#[]⟩, .string ⟨#[]⟩] m).all (·.oneCell') = true := by
  induction m with
  | zero => rfl
  | succ m ih => simp only [V.repL, List.all_append, ih, Bool.and_true]; rfl
def npr (pred : Pr → Bool) (x : Pr) : Bool := !pred x
theorem fil_ix {pred : Pr → Bool} (l : List Pr) : (l.take (ixN pred l)).filter (npr pred) = l.take (ixN pred l) := by
  induction l with
  | nil => rfl
  | cons a r ih =>
    simp only [ixN]
    by_cases h : pred a = true
    · rw [if_pos h]; rfl
    · rw [if_neg h, List.take_succ_cons, List.filter_cons_of_pos (by simp [npr, h]), ih]
theorem fil_ix1 {pred : Pr → Bool} (l : List Pr) (h : ixN pred l < l.length) : (l.take (ixN pred l + 1)).filter (npr pred) = l.take (ixN pred l) := by
  induction l with
  | nil => simp at h
  | cons a r ih =>
    simp only [ixN] at h ⊢
    by_cases hp : pred a = true
    · rw [if_pos hp]; simp [npr, hp]
    · rw [if_neg hp] at h ⊢
      rw [List.take_succ_cons, List.filter_cons_of_pos (by simp [npr, hp]), ih (Nat.lt_of_succ_lt_succ h)]
      rfl
theorem fil_all {pred : Pr → Bool} (l : List Pr) (h : ¬ ixN pred l < l.length) : l.filter (npr pred) = l := by
  have h1 := fil_ix (pred := pred) l
  rw [List.take_of_length_le (by omega)] at h1
  exact h1
theorem fil_step {pred : Pr → Bool} {l : List Pr} {j : Nat} {x : Pr} (hx : l[j]? = some x) : (l.take (j + 1)).filter (npr pred) = (l.take j).filter (npr pred) ++ (if pred x = true then [] else [x]) := by
  rw [List.take_add_one, hx, List.filter_append]
  congr 1
  by_cases h : pred x = true
  · simp [npr, h]
  · simp [npr, h]
theorem set_take {M : List Pr} {i : Nat} (x : Pr) (h : i < M.length) : (M.set i x).take (i + 1) = M.take i ++ [x] := by
  rw [List.take_add_one, List.getElem?_set_self h]
  congr 1
  apply List.ext_getElem?
  intro k
  rw [List.getElem?_take, List.getElem?_take]
  split
  · rw [List.getElem?_set_ne (by omega)]
  · rfl
theorem set_drop {M : List Pr} {i j : Nat} (x : Pr) (h : i < j) : (M.set i x).drop j = M.drop j := by
  apply List.ext_getElem?
  intro k
  rw [List.getElem?_drop, List.getElem?_drop, List.getElem?_set_ne (by omega)]
theorem drop_get {M l : List Pr} {j : Nat} {x : Pr} (h : M.drop j = l.drop j) (hx : l[j]? = some x) : M[j]? = some x := by
  have h1 := congrArg (fun l => l[0]?) h
  simp only [List.getElem?_drop, Nat.add_zero] at h1
  rw [h1, hx]
theorem drop_succ {M l : List Pr} {j : Nat} (h : M.drop j = l.drop j) : M.drop (j + 1) = l.drop (j + 1) := by rw [← List.drop_drop, ← List.drop_drop, h]
theorem delfun_c (l : List Pr) (y : V.OwnO) (f : Nat) (caps : List Value) (pred : Pr → Bool) (w : World) (hy : ownOk 2 l.length (l.flatMap prC) y) (hl : l.length ≤ 1000) (hcall : ∀ (args : Array Value) (w : World), (callFunc f args).run Tryz.prog w = .ok (.enter f args) w) (hs : Sat [ownG 69 (l.flatMap prC) y] w)
    (hf : ∀ w1, w.heap.size ≤ w1.heap.size → (∀ b, b < w.heap.size → b ∉ V.ids [ownG 69 (l.flatMap prC) y] → w1.heap[b]? = w.heap[b]?) → ∀ x : Pr, Calls Tryz.prog f (.agg (prC x).toArray :: caps).toArray w1 fun e w' => e = .returned (.bool (pred x)) ∧ Below w1.heap.size w1 w') :
    Calls Tryz.prog 106 [ownV l.length y, .func (.func f) #[] caps.toArray].toArray w fun e w' => ∃ y' : V.OwnO, ownOk 2 (l.filter (npr pred)).length ((l.filter (npr pred)).flatMap prC) y' ∧ e = .returned (ownV (l.filter (npr pred)).length y') ∧ Hp ⟨w, V.ids [ownG 69 (l.flatMap prC) y]⟩ [ownG 69 ((l.filter (npr pred)).flatMap prC) y'] w' := by
  obtain ⟨p, c, hp, hsl⟩ := own_sl l y hy
  refine V.calls [ownG 69 (l.flatMap prC) y] Tryz.func106 rfl Tryz.ntmps106 (Nat.le_of_ble_eq_true rfl) hs <| CW.re 0 (.slice p l.length c) rfl hp <| Sq <| Rg <| Lv Av <| Nl <| Ps <| Sq <| Rg <| Lv Mv <| Lv Mv <| Le (CV fun w hw => index_c l p c f caps pred hl hcall w (hsl hw (by repeat (first | exact .nil | apply Pick.cons | exact .here | apply Ext.there))) (fun w1 hb1 x _ => hf w1 (Nat.le_trans hw.size hb1.size) (fun b h8 h9 => (hb1.block b (Nat.lt_of_lt_of_le h8 hw.size)).trans (hw.old b h8 h9)) x)) fun _ _ => Lv Av <| Nl <| Ps <| Sq <| Sq <| Rg <| Lv Mv <| Lv Cm <| Nl <| Ps ?_
  refine CW.cond rfl (fun h12 => ?_) (fun h12 => ?_)
  · replace h12 := bT h12
    have h12 : ixZ pred l = -1 := h12
    refine CW.re 0 (ownV l.length y) rfl hp.symm <| Sq <| Rg <| Lv Mv <| Lv Av <| Nl <| Ps <| Rt <| Tr <| Rt1 ?_
    have hnx : ¬ ixN pred l < l.length := fun h8 => by unfold ixZ at h12; rw [if_pos h8] at h12; omega
    rw [fil_all l hnx]
    intro w' hw
    exact ⟨y, hy, rfl, hw⟩
  · replace h12 := bF h12
    have h12 : ixZ pred l ≠ -1 := h12
    have hix : ixN pred l < l.length := by
      unfold ixZ at h12
      split at h12
      · assumption
      · exact absurd rfl h12
    rcases y with _ | ⟨gb, rest, cap⟩
    · exact absurd hy.2 (by omega)
    have hiz : ixZ pred l = ((ixN pred l : Nat) : Int) := by unfold ixZ; rw [if_pos hix]
    have hcap : l.length ≤ cap := by have h8 := hy.2; simp only [prCs_len] at h8; omega
    refine CW.re 0 (.slice (some ⟨gb, 0, none⟩) l.length cap) rfl hp.symm <| CW.re 5 (.int .i64 ((ixN pred l : Nat) : Int)) rfl (by rw [hiz]) ?_
    refine V.CW.perm (sg' := [[(gb, .cells (l.flatMap prC ++ rest).toArray 69 (0, 0))]]) ?_ (by simp [V.ownG, V.ownS])
    refine Sk <| Ps <| Sq <| Sq <| Rg <| Lv Mv <| Lv Ar <| LW.re 15 (.int .i64 ((ixN pred l + 1 : Nat) : Int)) rfl (by congr 1) <| Lv Av <| Nl <| Ps <| Bk <| loopA (γ := Nat × Nat × List Pr) (fun k => [(0, .slice (some ⟨gb, 0, none⟩) l.length cap), (1, .func (.func f) #[] caps.toArray), (5, .int .i64 (k.1 : Nat)), (6, .int .i64 (k.2.1 : Nat))]) (fun k => [[(gb, .cells (k.2.2.flatMap prC ++ rest).toArray 69 (0, 0))]]) (fun k => k.1 < k.2.1 ∧ k.2.1 ≤ l.length ∧ k.2.2.length = l.length ∧ k.2.2.take k.1 = (l.take k.2.1).filter (npr pred) ∧ k.2.2.drop k.2.1 = l.drop k.2.1) (fun k => l.length - k.2.1) ((ixN pred l, ixN pred l + 1, l)) ⟨Nat.lt_succ_self _, hix, rfl, (fil_ix1 l hix).symm, rfl⟩ fun k => ?_
    rintro ⟨hk2, hk3, hk4, hk5, hk6⟩
    refine Sq <| Sq <| Rg <| Lv Mv <| Lv Mv <| Lv Ln <| Lv Cm <| Nl <| Ps ?_
    refine CW.cond rfl (fun h19 => ?_) (fun h19 => ?_)
    · replace h19 := bT h19
      obtain ⟨x, hx⟩ : ∃ x, l[k.2.1]? = some x := ⟨_, List.getElem?_eq_getElem (show k.2.1 < l.length by omega)⟩
      refine Sk <| Ps <| Sq <| Bk <| Sq <| Rg <| Lv Mv <| Lv Mv <| Lv Ix <| Lv (Val.loadFl (enc := prC) (sz := 2) (l := k.2.2) rfl Tryz.isAgg69 (by repeat (first | exact .here | exact .inner .here | exact .inner (.inner .here) | refine .there ?_)) prC_len (drop_get hk6 hx) Tryz.sizeOf69) <| Le AA fun b7 _ => ?_
      first | (refine LW.eN rfl (Eff.storeW rfl rfl (by repeat (first | exact .here | exact .inner .here | exact .inner (.inner .here) | apply Upd.there)) (by rfl) Tryz.sizeOf69 (by rfl)) ?_) | (refine LW.eN rfl (Eff.storeA (l' := _) rfl rfl (by repeat (first | exact .here | exact .inner .here | exact .inner (.inner .here) | apply Upd.there)) (by rfl) (by decide) Tryz.sizeOf69 (by rfl)) ?_)
      intro _ _
      refine Nl <| Ps <| Sq <| Rg <| Lv Mv ?_
      first | (refine LW.v rfl rfl (Val.loadW rfl Tryz.isAgg69 (by repeat (first | exact .here | exact .inner .here | exact .inner (.inner .here) | refine .there ?_)) (by exact Tryz.sizeOf69)) ?_) | (refine LW.v rfl rfl (Val.loadA [_, _] rfl Tryz.isAgg69 (by repeat (first | exact .here | exact .inner .here | exact .inner (.inner .here) | refine .there ?_)) (by rfl) Tryz.sizeOf69) ?_)
      refine Le (Eff.callFV (f := f) (caps := caps) rfl rfl hcall (fun w hw => hf w hw.size (fun b h8 h9 => hw.old b h8 h9) x)) fun _ _ => Lv Nt <| Nl <| Ps ?_
      refine CW.cond rfl (fun h29 => ?_) (fun h29 => ?_)
      · replace h29 := bT h29
        have h29 : pred x = false := h29
        refine Sq <| Rg <| Lv Mv <| Lv Mv ?_
        first | (refine LW.v rfl rfl (Val.loadW rfl Tryz.isAgg69 (by repeat (first | exact .here | exact .inner .here | exact .inner (.inner .here) | refine .there ?_)) (by exact Tryz.sizeOf69)) ?_) | (refine LW.v rfl rfl (Val.loadA [_, _] rfl Tryz.isAgg69 (by repeat (first | exact .here | exact .inner .here | exact .inner (.inner .here) | refine .there ?_)) (by rfl) Tryz.sizeOf69) ?_)
        refine Lv Ix <| LeN (Eff.storeFl (enc := prC) (sz := 2) (l := k.2.2) (y := x) rfl rfl (by repeat (first | exact .here | exact .inner .here | exact .inner (.inner .here) | apply Upd.there)) prC_len (by omega) Tryz.sizeOf69 prC_one) fun _ _ => Nl <| Ps <| Rg <| Lv Mv <| Lv Ar <| Lv Av <| Nl <| Bn <| Ps <| Rg <| Lv Mv <| Lv Ar <| Lv Av <| Nl ?_
        exact roundA ((k.1 + 1, k.2.1 + 1, k.2.2.set k.1 x)) ⟨by simp only; omega, by simp only; omega, by simp only [List.length_set]; exact hk4, by simp only; rw [set_take x (by omega), fil_step hx, if_neg (by simp [h29]), hk5], by simp only; rw [set_drop x (by omega), drop_succ hk6]⟩ (by simp only; omega)
      · replace h29 := bF h29
        have h29 : pred x = true := by simpa using h29
        refine Sk <| Bn <| Ps <| Rg <| Lv Mv <| Lv Ar <| Lv Av <| Nl ?_
        exact roundA ((k.1, k.2.1 + 1, k.2.2)) ⟨by simp only; omega, by simp only; omega, hk4, by simp only; rw [fil_step hx, if_pos h29, List.append_nil, hk5], drop_succ hk6⟩ (by simp only; omega)
    · replace h19 := bF h19
      have hj8 : l.length ≤ k.2.1 := by omega
      refine Xt <| Te <| Te <| Bh <| Ps <| Sq <| Rg <| Lv Mv <| Lv Mv <| Lv (Val.slice k.1 l.length cap rfl Tryz.underlying31 Tryz.sizeOf69 ⟨_, rfl⟩ rfl rfl (fun _ => rfl) (by omega) (by omega) (Nat.le_refl _)) <| LW.re 38 (.slice (some ⟨gb, k.1 * 2, none⟩) (l.length - k.1 - 1 + 1) (cap - k.1)) rfl (by rw [if_neg (by omega), Nat.zero_add, show l.length - k.1 - 1 + 1 = l.length - k.1 by omega]) <| LeN (Eff.clear (zl := [.string ⟨#[]⟩, .string ⟨#[]⟩]) (cells' := (V.splice (k.2.2.flatMap prC ++ rest) (k.1 * 2) (V.repL [.string ⟨#[]⟩, .string ⟨#[]⟩] (l.length - k.1 - 1 + 1)))) rfl Tryz.underlying31 (by exact Tryz.zeroValue69) rfl (by repeat (first | exact .here | exact .inner .here | exact .inner (.inner .here) | apply Upd.there)) rfl (by rw [V.repL_length, List.length_append, prCs_len, hk4]; simp only [List.length_cons, List.length_nil]; omega) (zrep_one _)) fun _ _ => Nl <| Ps <| Sq <| Rg <| Lv Mv <| Lv Mv <| Lv (Val.slice 0 k.1 cap rfl Tryz.underlying31 Tryz.sizeOf69 rfl ⟨_, rfl⟩ rfl (fun _ => rfl) (by omega) (by omega) (Nat.le_refl _)) <| LW.re 41 (.slice (some ⟨gb, 0, none⟩) k.1 cap) rfl (by simp) <| Lv Av <| Nl <| Ps <| Rt <| Rt1 ?_
      have hM : k.2.2.take k.1 = (l.filter (npr pred)) := by rw [hk5, List.take_of_length_le hj8]
      have hln : k.1 = (l.filter (npr pred)).length := by rw [← hM, List.length_take]; omega
      have e9 : (V.splice (k.2.2.flatMap prC ++ rest) (k.1 * 2) (V.repL [.string ⟨#[]⟩, .string ⟨#[]⟩] (l.length - k.1 - 1 + 1))) = ((l.filter (npr pred))).flatMap prC ++ (V.splice (k.2.2.flatMap prC ++ rest) (k.1 * 2) (V.repL [.string ⟨#[]⟩, .string ⟨#[]⟩] (l.length - k.1 - 1 + 1))).drop (k.1 * 2) := by
        rw [← hM]
        have h8 := splice_take (V.repL [.string ⟨#[]⟩, .string ⟨#[]⟩] (l.length - k.1 - 1 + 1)) (k.2.2.flatMap prC ++ rest) (k.1 * 2)
        have h9 : (k.2.2.flatMap prC ++ rest).take (k.1 * 2) = (k.2.2.take k.1).flatMap prC := by
          rw [← List.take_append_drop k.1 k.2.2, List.flatMap_append, List.append_assoc, show k.1 * 2 = ((k.2.2.take k.1).flatMap prC).length by rw [prCs_len, List.length_take]; omega, List.take_left, List.take_append_drop]
        rw [← h9, ← h8, List.take_append_drop]
      intro w' hw
      rw [e9] at hw
      refine ⟨some (gb, (V.splice (k.2.2.flatMap prC ++ rest) (k.1 * 2) (V.repL [.string ⟨#[]⟩, .string ⟨#[]⟩] (l.length - k.1 - 1 + 1))).drop (k.1 * 2), cap), ⟨prCs_len _, ?_⟩, by rw [← hln]; rfl, hw⟩
      rw [prCs_len, ← hln]
      show k.1 * 2 + (List.drop _ _).length = cap * 2
      rw [List.length_drop, V.length_splice, List.length_append, prCs_len, hk4]
      have h8 := hy.2
      simp only [prCs_len] at h8
      omega
theorem del_npr (l : List Pr) (ky : List UInt8) : l.filter (npr (isK ky)) = delF l ky := rfl
theorem drop_c (l : List Pr) (y : V.OwnO) (qv : Value) (sb : Nat) (ky : List UInt8) (w : World) (hy : ownOk 2 l.length (l.flatMap prC) y) (hl : l.length ≤ 1000) (hq : qv.oneCell' = true) (hs : Sat [[(sb, .cells [ownV l.length y, qv].toArray 34 (0, 0))], ownG 69 (l.flatMap prC) y] w) :
    Calls Tryz.prog 75 [.pointer (some ⟨sb, 0, none⟩), str ky].toArray w fun e w' => ∃ y' : V.OwnO, ownOk 2 (delF l ky).length ((delF l ky).flatMap prC) y' ∧ e = .returned (.bool (decide ((delF l ky).length < l.length))) ∧ Hp ⟨w, V.ids [[(sb, .cells [ownV l.length y, qv].toArray 34 (0, 0))], ownG 69 (l.flatMap prC) y]⟩ [[(sb, .cells [ownV (delF l ky).length y', qv].toArray 34 (0, 0))], ownG 69 ((delF l ky).flatMap prC) y'] w' := by
  refine V.calls [[(sb, .cells [ownV l.length y, qv].toArray 34 (0, 0))], ownG 69 (l.flatMap prC) y] Tryz.func75 rfl Tryz.ntmps75 (Nat.le_of_ble_eq_true rfl) hs <| Sq <| Rg <| Le XS fun b3 _ => Lv Av <| Nl <| Ps <| Sq <| Rg <| Lv Mv <| Lv Nz <| Lv (Fa 0 31) <| Lv (Ld (v := ownV l.length y)) <| Lv (Val.lenOwn rfl Tryz.underlying31 hy) <| Lv Av <| Nl <| Ps <| Sq <| Rg <| Lv Mv <| Lv Mv <| Lv Nz <| Lv (Fa 0 31) <| Lv (Ld (v := ownV l.length y)) <| Lv Mf <| Le (CM ([ownG 69 (l.flatMap prC) y]) fun w hw hs => delfun_c l y 107 [.pointer (some ⟨b3, 0, none⟩)] (isK ky) w hy hl Tryz.call107 hs (fun w1 h8 h9 x => dr1_c x b3 ky w1 (by have h7 := (h9 b3 (V.lt_of_some (hw.own _ (show InS (b3, .cells [str ky].toArray 9 (0, 0)) _ from (by repeat (first | exact .here | exact .inner .here | exact .inner (.inner .here) | refine .there ?_))).mem)) (not_in hw (show Pick [ownG 69 (l.flatMap prC) y] _ _ from (by repeat (first | exact .nil | apply Pick.cons | exact .here | apply Ext.there))) (show InS (b3, .cells [str ky].toArray 9 (0, 0)) _ from (by repeat (first | exact .here | exact .inner .here | exact .inner (.inner .here) | refine .there ?_))))).trans (hw.own _ (show InS (b3, .cells [str ky].toArray 9 (0, 0)) _ from (by repeat (first | exact .here | exact .inner .here | exact .inner (.inner .here) | refine .there ?_))).mem); exact ⟨V.lt_of_some h7, V.cell_of_block h7 rfl⟩))) fun y2 hy2 => ?_
  rw [del_npr] at hy2 ⊢
  refine Lv Nz <| Lv (Fa 0 31) <| LeN (StS (h1 := V.ownV_one _ _)) fun _ _ => Nl <| Ps <| Sq <| Rg <| Lv Mv <| Lv Nz <| Lv (Fa 0 31) <| Lv (Ld (v := ownV (delF l ky).length y2)) <| Lv (Val.lenOwn rfl Tryz.underlying31 hy2) <| Lv Mv <| Lv Cm <| Lv Av <| Nl <| Ps <| Rt <| Rt1 fun w' hw => ?_
  exact ⟨y2, hy2, by congr 2; rw [decide_eq_decide]; omega, hw.pick (by repeat (first | exact .nil | apply Pick.cons | exact .here | apply Ext.there))⟩
/-- A slice whose block may begin ahead of it. -/
abbrev OffO := Option (Nat × List Value × List Value × Nat)
def offV (n : Nat) : OffO → Value
  | none => .slice none 0 0
  | some (g, pre, _, cap) => .slice (some ⟨g, pre.length, none⟩) n cap
def offG (e : Nat) (xs : List Value) : OffO → V.Seg
  | none => []
  | some (g, pre, rest, _) => [(g, .cells (pre ++ xs ++ rest).toArray e (0, 0))]
def offOk (n : Nat) : OffO → Prop
  | none => n = 0
  | some (_, _, _, cap) => n ≤ cap
theorem offV_one (n : Nat) (o : OffO) : (offV n o).oneCell' = true := by cases o <;> rfl
def offOf : V.OwnO → OffO
  | none => none
  | some (g, rest, cap) => some (g, [], rest, cap)
theorem offOf_V (n : Nat) (o : V.OwnO) : offV n (offOf o) = ownV n o := by rcases o with _ | ⟨_, _, _⟩ <;> rfl
theorem offOf_G (e : Nat) (xs : List Value) (o : V.OwnO) : offG e xs (offOf o) = ownG e xs o := by rcases o with _ | ⟨_, _, _⟩ <;> rfl
theorem offOf_ok {q : List (List UInt8)} {o : V.OwnO} (h : ownOk 1 q.length (q.flatMap stE) o) : offOk q.length (offOf o) := by
  rcases o with _ | ⟨_, rest, cap⟩
  · exact h.2
  · have h1 := h.1; have h2 : (q.flatMap stE).length + rest.length = cap * 1 := h.2
    show q.length ≤ cap
    omega
theorem off_sl (q : List (List UInt8)) (z : OffO) (hz : offOk q.length z) : ∃ (p : Option Addr) (c : Nat), offV q.length z = .slice p q.length c ∧ q.length ≤ c ∧ ∀ {B : V.Base} {sg r : V.Sg} {w : World}, Hp B sg w → Pick [offG 9 (q.flatMap stE) z] sg r → V.slAt w p 1 stE q := by
  rcases z with _ | ⟨gb, pre, rest, cap⟩
  · have hl0 : q.length = 0 := hz
    exact ⟨none, 0, by rw [hl0]; rfl, by omega, fun _ _ => .inl (List.length_eq_zero_iff.1 hl0)⟩
  · refine ⟨some ⟨gb, pre.length, none⟩, cap, rfl, hz, fun {B sg r w} hw hp => ?_⟩
    have hb := (hw.pick hp).own (gb, .cells (pre ++ q.flatMap stE ++ rest).toArray 9 (0, 0)) (by simp [offG])
    refine .inr ⟨gb, pre.length, rfl, V.lt_of_some hb, fun i x hx => ?_⟩
    obtain ⟨r, hr⟩ := V.drop_flatMap stE_len q i x hx
    exact V.range_of_block (r := r ++ rest) hb (by rw [List.append_assoc, ← List.drop_drop, List.drop_left, List.drop_append_of_le_length (by rw [V.flatMap_len stE_len]; have := (List.getElem?_eq_some_iff.1 hx).1; omega), hr, List.append_assoc])
theorem pop_c (q : List (List UInt8)) (z : V.OwnO) (pv : Value) (sb : Nat) (w : World) (hz : ownOk 1 q.length (q.flatMap stE) z) (hl : q.length ≤ 1000) (hq : pv.oneCell' = true) (hs : Sat [[(sb, .cells [pv, ownV q.length z].toArray 34 (0, 0))], ownG 9 (q.flatMap stE) z] w) :
    Calls Tryz.prog 78 [.pointer (some ⟨sb, 0, none⟩)].toArray w fun e w' => ∃ z' : OffO, offOk (q.drop 1).length z' ∧ e = .returned (.tuple #[str ((q[0]?).getD []), .bool (decide (q ≠ []))]) ∧ Hp ⟨w, V.ids [[(sb, .cells [pv, ownV q.length z].toArray 34 (0, 0))], ownG 9 (q.flatMap stE) z]⟩ [[(sb, .cells [pv, offV (q.drop 1).length z'].toArray 34 (0, 0))], offG 9 ((q.drop 1).flatMap stE) z'] w' := by
  refine V.calls [[(sb, .cells [pv, ownV q.length z].toArray 34 (0, 0))], ownG 9 (q.flatMap stE) z] Tryz.func78 rfl Tryz.ntmps78 (Nat.le_of_ble_eq_true rfl) hs <| Sq <| Rg <| Lv Av <| Lv Av <| Nl <| Ps <| Sq <| Sq <| Rg <| Lv Mv <| Lv Nz <| Lv (Fa 1 32) <| Lv (Ld (v := ownV q.length z)) <| Lv (Val.lenOwn rfl Tryz.underlying32 hz) <| Lv Cm <| Nl <| Ps ?_
  refine CW.cond rfl (fun h10 => ?_) (fun h10 => ?_)
  · replace h10 := bT h10
    have h10 : (q.length : Int) = 0 := h10
    refine Sq <| Rg <| Lv Av <| Lv Av <| Nl <| Ps <| Rt <| Tr <| Rt2 fun w' hw => ?_
    have hq0 : q = [] := List.length_eq_zero_iff.1 (by omega)
    subst hq0
    exact ⟨offOf z, offOf_ok hz, rfl, by show Hp _ [[(sb, .cells [pv, offV 0 (offOf z)].toArray 34 (0, 0))], offG 9 ([] : List Value) (offOf z)] w'; rw [offOf_V, offOf_G]; exact hw⟩
  · replace h10 := bF h10
    have h10 : (q.length : Int) ≠ 0 := h10
    rcases q with _ | ⟨x, r⟩
    · exact absurd rfl h10
    rcases z with _ | ⟨gb, rest, cap⟩
    · exact absurd hz.2 (by simp)
    have hcap0 : (List.flatMap stE (x :: r)).length + rest.length = cap * 1 := hz.2
    rw [V.flatMap_len stE_len, List.length_cons] at hcap0
    have hcap : r.length + 1 ≤ cap := by omega
    refine V.CW.perm (sg' := [[(sb, .cells [pv, .slice (some ⟨gb, 0, none⟩) (r.length + 1) cap].toArray 34 (0, 0))], [(gb, .cells (stE x ++ (r.flatMap stE ++ rest)).toArray 9 (0, 0))]]) ?_ (by simp [V.ownG, V.ownS]; rfl)
    refine Sk <| Ps <| Sq <| Rg <| Lv Mv <| Lv Nz <| Lv (Fa 1 32) <| Lv (Ld (v := .slice (some ⟨gb, 0, none⟩) (r.length + 1) cap)) <| Lv (Val.indexAddrN (i := 0) rfl rfl Tryz.underlying32 Tryz.sizeOf9 (by omega)) <| Lv (Ld (v := str x)) <| Lv Av <| Nl <| Ps <| Sq <| Rg <| Lv Mv <| Lv Mv <| Lv Nz <| Lv (Fa 1 32) <| Lv (Ld (v := .slice (some ⟨gb, 0, none⟩) (r.length + 1) cap)) <| Lv (Val.slice 1 (r.length + 1) cap rfl Tryz.underlying32 Tryz.sizeOf9 ⟨_, rfl⟩ rfl rfl (fun _ => rfl) (by omega) hcap (Nat.le_refl _)) <| Lv Nz <| Lv (Fa 1 32) <| LeN StS fun _ _ => Nl <| Ps <| Sq <| Rg <| Lv Mv <| Lv Av <| Lv Av <| Nl <| Ps <| Rt <| Rt2 fun w' hw => ?_
    by_cases hc1 : cap = 1
    · subst hc1
      have hr0 : r = [] := List.length_eq_zero_iff.1 (by omega)
      subst hr0
      exact ⟨some (gb, [], stE x ++ rest, 0), Nat.le_refl _, rfl, hw.perm (.refl _)⟩
    · rw [if_neg hc1] at hw
      exact ⟨some (gb, stE x, rest, cap - 1), by show r.length ≤ cap - 1; omega, rfl, hw.perm (.refl _)⟩
end I
end Go.Proofs.YtlpbjmbgopfkhaaGreat

