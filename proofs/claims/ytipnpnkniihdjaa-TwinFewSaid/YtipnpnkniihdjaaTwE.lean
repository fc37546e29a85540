/- The calls that make one store another one. -/
import Derived.Test.YtipnpnkniihdjaaTwD
import Derived.Lib.Hide
namespace Go.Proofs.Ytipnpnkniihdjaa
open Go Go.RowKit V
set_option linter.unusedVariables false
set_option maxRecDepth 100000
open V (str byC ownV ownG ownS ownOk)
def delC (x : Pr) : Cl := ⟨3, x.key, []⟩
def putC (x : Pr) : Cl := ⟨2, x.key, x.val⟩
def dgo : List Pr → List Pr → List Cl
  | [], [] => []
  | x :: r, [] => delC x :: dgo r []
  | [], y :: s => putC y :: dgo [] s
  | x :: r, y :: s => if x.key < y.key then delC x :: dgo r (y :: s) else if x = y then dgo r s else if x.key = y.key then putC y :: dgo r s else putC y :: dgo (x :: r) s
termination_by a b => a.length + b.length
def diffF (A B : ShA) : List Cl := if mayB A.1 = true ∧ mayB B.1 = true then dgo A.1 B.1 ++ lnF A.2 B.2 else []
theorem drop_at {α : Type} {l : List α} {k : Nat} {c : α} (h : l[k]? = some c) : l.drop k = c :: l.drop (k + 1) := by
  have hlt := (List.getElem?_eq_some_iff.1 h).1
  rw [List.drop_eq_getElem_cons hlt]
  have := List.getElem?_eq_getElem hlt
  rw [h] at this
  rw [Option.some.inj this]
theorem dgo_end {a b : List Pr} {i k : Nat} (hi : a.length ≤ i) (hk : b.length ≤ k) : dgo (a.drop i) (b.drop k) = [] := by
  rw [List.drop_eq_nil_iff.2 hi, List.drop_eq_nil_iff.2 hk, dgo]
theorem dgo_del0 {a b : List Pr} {i k : Nat} {x : Pr} (hx : a[i]? = some x) (hk : b.length ≤ k) : dgo (a.drop i) (b.drop k) = delC x :: dgo (a.drop (i + 1)) (b.drop k) := by
  rw [drop_at hx, List.drop_eq_nil_iff.2 hk, dgo]
theorem dgo_del {a b : List Pr} {i k : Nat} {x y : Pr} (hx : a[i]? = some x) (hy : b[k]? = some y) (h : x.key < y.key) : dgo (a.drop i) (b.drop k) = delC x :: dgo (a.drop (i + 1)) (b.drop k) := by
  rw [drop_at hx, drop_at hy, dgo, if_pos h]
theorem dgo_same {a b : List Pr} {i k : Nat} {x y : Pr} (hx : a[i]? = some x) (hy : b[k]? = some y) (h : ¬ x.key < y.key) (he : x = y) : dgo (a.drop i) (b.drop k) = dgo (a.drop (i + 1)) (b.drop (k + 1)) := by
  rw [drop_at hx, drop_at hy, dgo, if_neg h, if_pos he]
theorem dgo_both {a b : List Pr} {i k : Nat} {x y : Pr} (hx : a[i]? = some x) (hy : b[k]? = some y) (h : ¬ x.key < y.key) (he : x ≠ y) (hk : x.key = y.key) : dgo (a.drop i) (b.drop k) = putC y :: dgo (a.drop (i + 1)) (b.drop (k + 1)) := by
  rw [drop_at hx, drop_at hy, dgo, if_neg h, if_neg he, if_pos hk]
theorem dgo_put {a b : List Pr} {i k : Nat} {x y : Pr} (hx : a[i]? = some x) (hy : b[k]? = some y) (h : ¬ x.key < y.key) (he : x ≠ y) (hk : x.key ≠ y.key) : dgo (a.drop i) (b.drop k) = putC y :: dgo (a.drop i) (b.drop (k + 1)) := by
  rw [drop_at hx, drop_at hy, dgo, if_neg h, if_neg he, if_neg hk]
theorem dgo_put0 {a b : List Pr} {i k : Nat} {y : Pr} (hi : a.length ≤ i) (hy : b[k]? = some y) : dgo (a.drop i) (b.drop k) = putC y :: dgo (a.drop i) (b.drop (k + 1)) := by
  rw [drop_at hy, List.drop_eq_nil_iff.2 hi, dgo]
def ownSl (n : Nat) : V.OwnO → Sl
  | none => ⟨none, 0, 0⟩
  | some (g, _, cap) => ⟨some ⟨g, 0, none⟩, n, cap⟩
theorem ownSl_v2 {sz n : Nat} {xs : List Value} {o : V.OwnO} (h : ownOk sz n xs o) : ownV n o = .slice (ownSl n o).a n (ownSl n o).c := by
  rcases o with _ | q
  · have h0 : n = 0 := h.2
    subst h0; rfl
  · rfl
theorem own_range {sz n e : Nat} {xs : List Value} {o : V.OwnO} (h : ownOk sz n xs o) (hn : 0 < n) : ∃ b off, (ownSl n o).a = some ⟨b, off, none⟩ ∧ ∀ w, Sat [ownG e xs o] w → w.rangeAt b off xs := by
  obtain ⟨⟨g, rest, cap⟩, rfl⟩ := own_some h hn
  refine ⟨g, 0, rfl, fun w hs => ?_⟩
  have h8 := hs.own (g, .cells (xs ++ rest).toArray e (0, 0)) (by simp [V.ownG_some])
  exact V.range_of_block (o := 0) (r := rest) h8 rfl
theorem diff_c (s1 s2 : Sf) (A B : ShA) (w : World) (hA : SfR w s1 A) (hB : SfR w s2 B) (hl : (A.1.length ≤ 40 ∧ A.2.length ≤ 40) ∧ B.1.length ≤ 40 ∧ B.2.length ≤ 40) : Calls Try.prog 9 [.agg s1.cells.toArray, .agg s2.cells.toArray].toArray w fun e w' => ∃ o : V.OwnO, ownOk 5 (diffF A B).length ((diffF A B).flatMap clC) o ∧ e = .returned (ownV (diffF A B).length o) ∧ Hp ⟨w, []⟩ [ownG 38 ((diffF A B).flatMap clC) o] w' := by
  obtain ⟨⟨pa, pan, pac⟩, ⟨qa, qan, qac⟩⟩ := s1
  obtain ⟨⟨pb, pbn, pbc⟩, ⟨qb, qbn, qbc⟩⟩ := s2
  obtain ⟨a, u⟩ := A
  obtain ⟨c, v⟩ := B
  have hA0 := hA
  have hB0 := hB
  obtain ⟨⟨ha1, ha2⟩, ⟨ha3, ha4⟩, ha5, ha6⟩ := hA
  obtain ⟨⟨hb1, hb2⟩, ⟨hb3, hb4⟩, hb5, hb6⟩ := hB
  simp only at ha1 ha2 ha3 ha4 ha5 ha6 hb1 hb2 hb3 hb4 hb5 hb6 hl
  subst ha1; subst ha3; subst hb1; subst hb3
  refine V.calls [] Try.func9 rfl Try.ntmps9 (Nat.le_of_ble_eq_true rfl) (V.sat_nil _) ?_
  refine CW.seq ?_
  refine CW.region ?_
  refine LW.e rfl rfl (Eff.boxA rfl) ?_
  intro b2 _
  refine LW.e rfl rfl (Eff.boxA rfl) ?_
  intro b3 _
  refine LW.v rfl rfl (Val.assign rfl) ?_
  refine LW.nil ?_
  refine PQ.seq ?_
  refine CW.seq ?_
  refine CW.seq ?_
  refine CW.region ?_
  first | (refine LW.v rfl rfl (Val.loadW rfl Try.isAgg25 (by repeat (first | exact .here | exact .inner .here | exact .inner (.inner .here) | refine .there ?_)) (by exact Try.sizeOf25)) ?_) | (refine LW.v rfl rfl (Val.loadA [_, _] rfl Try.isAgg25 (by repeat (first | exact .here | exact .inner .here | exact .inner (.inner .here) | refine .there ?_)) (by rfl) Try.sizeOf25) ?_)
  refine LW.e rfl rfl (Eff.callV rfl Try.call18 (fun w hw => may_c _ (a, u) w (hA0.hp hw (by simp [ids])) (by simp only; omega))) ?_
  intro _ _
  refine LW.v rfl rfl (Val.not rfl) ?_
  refine LW.v rfl rfl (Val.move rfl) ?_
  refine LW.split (d := 11) rfl (fun h11 => ?_) (fun h11 => ?_)
  · replace h11 := bT h11
    refine LW.p rfl rfl ?_
    refine LW.p rfl rfl ?_
    refine LW.p rfl rfl ?_
    refine LW.v rfl rfl (Val.pick_t rfl rfl) ?_
    refine LW.nil ?_
    refine PQ.seq ?_
    refine CW.cond_t rfl ?_
    refine CW.seq ?_
    refine CW.region ?_
    refine LW.v rfl rfl (Val.assign rfl) ?_
    refine LW.nil ?_
    refine PQ.seq ?_
    refine CW.ret ?_
    refine PQ.then_ret ?_
    refine PQ.ret1 rfl rfl ?_
    intro w' hw
    have hd : diffF (a, u) (c, v) = [] := by unfold diffF; rw [if_neg]; simp only; intro h8; simp_all
    rw [hd]
    exact ⟨none, ⟨rfl, rfl⟩, rfl, (hw.pick (ss := []) .nil).perm (.refl _)⟩
  · replace h11 := bF h11
    have hm1 : mayB a = true := by simpa using h11
    first | (refine LW.v rfl rfl (Val.loadW rfl Try.isAgg25 (by repeat (first | exact .here | exact .inner .here | exact .inner (.inner .here) | refine .there ?_)) (by exact Try.sizeOf25)) ?_) | (refine LW.v rfl rfl (Val.loadA [_, _] rfl Try.isAgg25 (by repeat (first | exact .here | exact .inner .here | exact .inner (.inner .here) | refine .there ?_)) (by rfl) Try.sizeOf25) ?_)
    refine LW.e rfl rfl (Eff.callV rfl Try.call18 (fun w hw => may_c _ (c, v) w (hB0.hp hw (by simp [ids])) (by simp only; omega))) ?_
    intro _ _
    refine LW.v rfl rfl (Val.not rfl) ?_
    refine LW.v rfl rfl (Val.pick_f rfl rfl) ?_
    refine LW.nil ?_
    refine PQ.seq ?_
    refine CW.cond rfl (fun h15 => ?_) (fun h15 => ?_)
    · replace h15 := bT h15
      refine CW.seq ?_
      refine CW.region ?_
      refine LW.v rfl rfl (Val.assign rfl) ?_
      refine LW.nil ?_
      refine PQ.seq ?_
      refine CW.ret ?_
      refine PQ.then_ret ?_
      refine PQ.ret1 rfl rfl ?_
      intro w' hw
      have hd : diffF (a, u) (c, v) = [] := by unfold diffF; rw [if_neg]; simp only; intro h8; simp_all
      rw [hd]
      exact ⟨none, ⟨rfl, rfl⟩, rfl, (hw.pick (ss := []) .nil).perm (.refl _)⟩
    · replace h15 := bF h15
      have hm2 : mayB c = true := by simpa using h15
      refine CW.skip ?_
      refine PQ.seq ?_
      refine CW.seq ?_
      refine CW.region ?_
      refine LW.v rfl rfl (Val.assign rfl) ?_
      refine LW.nil ?_
      refine PQ.seq ?_
      refine CW.seq ?_
      refine CW.region ?_
      refine LW.v rfl rfl (Val.assign rfl) ?_
      refine LW.v rfl rfl (Val.assign rfl) ?_
      refine LW.nil ?_
      refine PQ.seq ?_
      refine CW.seq ?_
      refine CW.block ?_
      refine V.CW.perm (sg' := [[(b2, .cells [.slice pa a.length pac, .slice qa u.length qac].toArray 25 (0, 0))], [(b3, .cells [.slice pb c.length pbc, .slice qb v.length qbc].toArray 25 (0, 0))], ownG 38 (([] : List Cl).flatMap clC) none]) ?_ (by first | exact .refl _ | (simp [V.ownG, V.ownS]; exact List.Perm.swap _ _ _) | (simp [V.ownG, V.ownS]; done))
      refine CW.loop (γ := Nat × Nat × List Cl × V.OwnO) (fun k => [(2, .pointer (some ⟨b2, 0, none⟩)), (3, .pointer (some ⟨b3, 0, none⟩)), (5, ownV k.2.2.1.length k.2.2.2), (6, .int .i64 (k.1 : Nat)), (7, .int .i64 (k.2.1 : Nat))]) (fun k => [[(b2, .cells [.slice pa a.length pac, .slice qa u.length qac].toArray 25 (0, 0))], [(b3, .cells [.slice pb c.length pbc, .slice qb v.length qbc].toArray 25 (0, 0))], ownG 38 (k.2.2.1.flatMap clC) k.2.2.2]) (fun k => k.1 ≤ a.length ∧ k.2.1 ≤ c.length ∧ k.2.2.1.length ≤ k.1 + k.2.1 ∧ ownOk 5 k.2.2.1.length (k.2.2.1.flatMap clC) k.2.2.2 ∧ dgo a c = k.2.2.1 ++ dgo (a.drop k.1) (c.drop k.2.1)) (fun k => a.length + c.length - k.1 - k.2.1) ((0, 0, [], none)) ⟨Nat.zero_le _, Nat.zero_le _, Nat.zero_le _, ⟨rfl, rfl⟩, by simp⟩ (by repeat (first | exact trivial | refine ⟨rfl, ?_⟩)) (by repeat (first | exact .nil | apply Pick.cons | exact .here | apply Ext.there)) ?_
      intro k
      rintro ⟨hk1, hk2, hk3, hk4, hk5⟩
      refine CW.seq ?_
      refine CW.seq ?_
      refine CW.region ?_
      refine LW.v rfl rfl (Val.move rfl) ?_
      refine LW.v rfl rfl (Val.fieldAddr 0 rfl Try.underlying25 rfl rfl Try.sizeOf22) ?_
      refine LW.v rfl rfl (Val.load rfl Try.isAgg22 (by repeat (first | exact .here | exact .inner .here | exact .inner (.inner .here) | refine .there ?_)) (by rfl)) ?_
      refine LW.v rfl rfl (Val.lenSl rfl Try.underlying22) ?_
      refine LW.v rfl rfl (Val.cmp rfl rfl rfl) ?_
      refine LW.v rfl rfl (Val.move rfl) ?_
      refine LW.split (d := 21) rfl (fun h21 => ?_) (fun h21 => ?_)
      · replace h21 := bT h21
        obtain ⟨bx, ox, x, rfl, hxb, hxx, hxr⟩ := V.slAt_at ha2 rfl (k := k.1) (by omega)
        refine LW.p rfl rfl ?_
        refine LW.p rfl rfl ?_
        refine LW.p rfl rfl ?_
        refine LW.p rfl rfl ?_
        refine LW.p rfl rfl ?_
        refine LW.v rfl rfl (Val.pick_t rfl rfl) ?_
        refine LW.nil ?_
        refine PQ.seq ?_
        refine CW.cond_t rfl ?_
        refine CW.skip ?_
        refine PQ.seq ?_
        refine CW.block ?_
        refine CW.seq ?_
        refine CW.block ?_
        refine CW.seq ?_
        refine CW.quiet mixed (by kernel_rfl) ?_
        refine QW.v rfl rfl (Val.move rfl) ?_
        refine QW.v rfl rfl (Val.fieldAddr 0 rfl Try.underlying25 rfl rfl Try.sizeOf22) ?_
        refine QW.v rfl rfl (Val.load rfl Try.isAgg22 (by repeat (first | exact .here | exact .inner .here | exact .inner (.inner .here) | refine .there ?_)) (by rfl)) ?_
        refine QW.v rfl rfl (Val.lenSl rfl Try.underlying22) ?_
        refine QW.v rfl rfl (Val.cmp rfl rfl rfl) ?_
        refine QW.v rfl rfl (Val.move rfl) ?_
        refine QW.split (d := 72) rfl (fun h72 => ?_) (fun h72 => ?_)
        · replace h72 := bT h72
          refine QW.p rfl rfl ?_
          refine QW.p rfl rfl ?_
          refine QW.p rfl rfl ?_
          refine QW.p rfl rfl ?_
          refine QW.p rfl rfl ?_
          refine QW.p rfl rfl ?_
          refine QW.p rfl rfl ?_
          refine QW.p rfl rfl ?_
          refine QW.p rfl rfl ?_
          refine QW.p rfl rfl ?_
          refine QW.p rfl rfl ?_
          refine QW.p rfl rfl ?_
          refine QW.p rfl rfl ?_
          refine QW.p rfl rfl ?_
          refine QW.p rfl rfl ?_
          refine QW.p rfl rfl ?_
          refine QW.p rfl rfl ?_
          refine QW.p rfl rfl ?_
          refine QW.p rfl rfl ?_
          refine QW.p rfl rfl ?_
          refine QW.v rfl rfl (Val.pick_t rfl rfl) ?_
          refine QW.v rfl rfl (Val.assign rfl) ?_
          refine QW.nil ?_
          refine PQ.seq ?_
          refine CW.cond_t rfl ?_
          refine CW.seq ?_
          refine CW.region ?_
          refine LW.v rfl rfl (Val.move rfl) ?_
          refine LW.v rfl rfl (Val.fieldAddr 0 rfl Try.underlying25 rfl rfl Try.sizeOf22) ?_
          refine LW.v rfl rfl (Val.load rfl Try.isAgg22 (by repeat (first | exact .here | exact .inner .here | exact .inner (.inner .here) | refine .there ?_)) (by rfl)) ?_
          refine LW.v rfl rfl (Val.move rfl) ?_
          first | (refine LW.v rfl rfl (Val.indexAddrN rfl rfl Try.underlying22 Try.sizeOf45 (by omega)) ?_) | (refine LW.v rfl rfl (Val.indexAddr rfl rfl Try.underlying22 Try.sizeOf45 (by omega) (by omega)) ?_)
          refine LW.v rfl rfl (Val.fieldAddr 0 rfl Try.underlying45 rfl rfl Try.sizeOf9) ?_
          refine LW.v rfl rfl (Val.loadO rfl Try.isAgg9 hxb (by simp [ids]) (hxr k.1 x hxx 0 _ rfl)) ?_
          refine LW.v rfl rfl (Val.build [_, _, _, _, _] Try.zeroValue38 Try.underlying38 places38 rfl (by rfl)) ?_
          refine LW.e rfl rfl (Eff.buildSlice (rfl) [_, _, _, _, _] Try.underlying28 Try.sizeOf38 (by exact Try.zeroValue38) rfl rfl rfl rfl (by rfl)) ?_
          intro b102 _
          refine LW.e rfl rfl (Eff.appendAny (clC (delC x)) (sz := 5) (bytes := 80) (z := .agg #[.int .i64 0, .string ⟨#[]⟩, .string ⟨#[]⟩, .string ⟨#[]⟩, .slice none 0 0]) (xs := k.2.2.1.flatMap clC) (m0 := k.2.2.1.length) (o := k.2.2.2) (m := 1) (pk := [ownG 38 (k.2.2.1.flatMap clC) k.2.2.2]) rfl rfl Try.underlying28 (by kernel_rfl) rfl (by omega) (by repeat (first | exact .nil | apply Pick.cons | exact .here | apply Ext.there)) (by simp) hk4 (by rfl) (fun hm0 => ⟨b102, 0, rfl, fun w hw => V.range_of_block (o := 0) (cs := clC (delC x)) (r := []) (hw.own _ (show InS (b102, .cells (clC (delC x)).toArray 38 (0, 0)) _ from (by repeat (first | exact .here | exact .inner .here | exact .inner (.inner .here) | refine .there ?_))).mem) rfl⟩) (by rfl) (by omega) (by omega)) ?_
          intro o9 ho9
          refine LW.v rfl rfl (Val.assign rfl) ?_
          refine LW.nil ?_
          refine PQ.seq ?_
          refine CW.seq ?_
          refine CW.region ?_
          refine LW.v rfl rfl (Val.move rfl) ?_
          refine LW.v rfl rfl (Val.ar rfl rfl rfl (IntWalk.i64_in _ (by omega))) ?_
          refine LW.v rfl rfl (Val.assign rfl) ?_
          refine LW.nil ?_
          refine PQ.seq ?_
          refine CW.exit ?_
          refine PQ.in_out rfl ?_
          refine PQ.then_exit ?_
          refine PQ.in_here ?_
          refine PQ.segs (ss := [[(b2, .cells _ 25 (0, 0))], [(b3, .cells _ 25 (0, 0))], ownG 38 (k.2.2.1.flatMap clC ++ clC (delC x)) o9]) ?_ (by repeat (first | exact .nil | apply Pick.cons | exact .here | apply Ext.there))
          rw [show k.2.2.1.flatMap clC ++ clC (delC x) = (k.2.2.1 ++ [delC x]).flatMap clC from by simp]
          refine PQ.round ((k.1 + 1, k.2.1, k.2.2.1 ++ [delC x], o9)) ⟨by simp only; omega, by simp only; omega, by simp only [List.length_append, List.length_cons, List.length_nil]; omega, by simp only [List.length_append, List.length_cons, List.length_nil, List.flatMap_append, List.flatMap_cons, List.flatMap_nil, List.append_nil]; exact ho9, by rw [hk5, dgo_del0 hxx (by omega)]; simp⟩ (by simp only; omega) (by exact ⟨rfl, rfl, by simp only [List.length_append]; rfl, rfl, rfl, trivial⟩) (by repeat (first | exact .nil | apply Pick.cons | exact .here | apply Ext.there))
        · replace h72 := bF h72
          obtain ⟨by_, oy, y, rfl, hyb, hyx, hyr⟩ := V.slAt_at hb2 rfl (k := k.2.1) (by omega)
          refine QW.v rfl rfl (Val.move rfl) ?_
          refine QW.v rfl rfl (Val.fieldAddr 0 rfl Try.underlying25 rfl rfl Try.sizeOf22) ?_
          refine QW.v rfl rfl (Val.load rfl Try.isAgg22 (by repeat (first | exact .here | exact .inner .here | exact .inner (.inner .here) | refine .there ?_)) (by rfl)) ?_
          refine QW.v rfl rfl (Val.lenSl rfl Try.underlying22) ?_
          refine QW.v rfl rfl (Val.cmp rfl rfl rfl) ?_
          refine QW.v rfl rfl (Val.move rfl) ?_
          refine QW.split (d := 78) rfl (fun h78 => ?_) (fun h78 => ?_)
          · replace h78 := bT h78
            refine QW.v rfl rfl (Val.fieldAddr 0 rfl Try.underlying25 rfl rfl Try.sizeOf22) ?_
            refine QW.v rfl rfl (Val.load rfl Try.isAgg22 (by repeat (first | exact .here | exact .inner .here | exact .inner (.inner .here) | refine .there ?_)) (by rfl)) ?_
            refine QW.v rfl rfl (Val.move rfl) ?_
            first | (refine QW.v rfl rfl (Val.indexAddrN rfl rfl Try.underlying22 Try.sizeOf45 (by omega)) ?_) | (refine QW.v rfl rfl (Val.indexAddr rfl rfl Try.underlying22 Try.sizeOf45 (by omega) (by omega)) ?_)
            refine QW.v rfl rfl (Val.fieldAddr 0 rfl Try.underlying45 rfl rfl Try.sizeOf9) ?_
            refine QW.v rfl rfl (Val.loadO rfl Try.isAgg9 hxb (by simp [ids]) (hxr k.1 x hxx 0 _ rfl)) ?_
            refine QW.v rfl rfl (Val.fieldAddr 0 rfl Try.underlying25 rfl rfl Try.sizeOf22) ?_
            refine QW.v rfl rfl (Val.load rfl Try.isAgg22 (by repeat (first | exact .here | exact .inner .here | exact .inner (.inner .here) | refine .there ?_)) (by rfl)) ?_
            refine QW.v rfl rfl (Val.move rfl) ?_
            first | (refine QW.v rfl rfl (Val.indexAddrN rfl rfl Try.underlying22 Try.sizeOf45 (by omega)) ?_) | (refine QW.v rfl rfl (Val.indexAddr rfl rfl Try.underlying22 Try.sizeOf45 (by omega) (by omega)) ?_)
            refine QW.v rfl rfl (Val.fieldAddr 0 rfl Try.underlying45 rfl rfl Try.sizeOf9) ?_
            refine QW.v rfl rfl (Val.loadO rfl Try.isAgg9 hyb (by simp [ids]) (hyr k.2.1 y hyx 0 _ rfl)) ?_
            refine QW.v rfl rfl (Val.ltStr rfl rfl) ?_
            refine QW.v rfl rfl (Val.pick_t rfl rfl) ?_
            refine QW.v rfl rfl (Val.pick_f rfl rfl) ?_
            refine QW.v rfl rfl (Val.assign rfl) ?_
            refine QW.nil ?_
            refine PQ.seq ?_
            refine CW.cond rfl (fun h66 => ?_) (fun h66 => ?_)
            · replace h66 := bT h66
              have h66 : x.key < y.key := h66
              refine CW.seq ?_
              refine CW.region ?_
              refine LW.v rfl rfl (Val.move rfl) ?_
              refine LW.v rfl rfl (Val.fieldAddr 0 rfl Try.underlying25 rfl rfl Try.sizeOf22) ?_
              refine LW.v rfl rfl (Val.load rfl Try.isAgg22 (by repeat (first | exact .here | exact .inner .here | exact .inner (.inner .here) | refine .there ?_)) (by rfl)) ?_
              refine LW.v rfl rfl (Val.move rfl) ?_
              first | (refine LW.v rfl rfl (Val.indexAddrN rfl rfl Try.underlying22 Try.sizeOf45 (by omega)) ?_) | (refine LW.v rfl rfl (Val.indexAddr rfl rfl Try.underlying22 Try.sizeOf45 (by omega) (by omega)) ?_)
              refine LW.v rfl rfl (Val.fieldAddr 0 rfl Try.underlying45 rfl rfl Try.sizeOf9) ?_
              refine LW.v rfl rfl (Val.loadO rfl Try.isAgg9 hxb (by simp [ids]) (hxr k.1 x hxx 0 _ rfl)) ?_
              refine LW.v rfl rfl (Val.build [_, _, _, _, _] Try.zeroValue38 Try.underlying38 places38 rfl (by rfl)) ?_
              refine LW.e rfl rfl (Eff.buildSlice (rfl) [_, _, _, _, _] Try.underlying28 Try.sizeOf38 (by exact Try.zeroValue38) rfl rfl rfl rfl (by rfl)) ?_
              intro b102 _
              refine LW.e rfl rfl (Eff.appendAny (clC (delC x)) (sz := 5) (bytes := 80) (z := .agg #[.int .i64 0, .string ⟨#[]⟩, .string ⟨#[]⟩, .string ⟨#[]⟩, .slice none 0 0]) (xs := k.2.2.1.flatMap clC) (m0 := k.2.2.1.length) (o := k.2.2.2) (m := 1) (pk := [ownG 38 (k.2.2.1.flatMap clC) k.2.2.2]) rfl rfl Try.underlying28 (by kernel_rfl) rfl (by omega) (by repeat (first | exact .nil | apply Pick.cons | exact .here | apply Ext.there)) (by simp) hk4 (by rfl) (fun hm0 => ⟨b102, 0, rfl, fun w hw => V.range_of_block (o := 0) (cs := clC (delC x)) (r := []) (hw.own _ (show InS (b102, .cells (clC (delC x)).toArray 38 (0, 0)) _ from (by repeat (first | exact .here | exact .inner .here | exact .inner (.inner .here) | refine .there ?_))).mem) rfl⟩) (by rfl) (by omega) (by omega)) ?_
              intro o9 ho9
              refine LW.v rfl rfl (Val.assign rfl) ?_
              refine LW.nil ?_
              refine PQ.seq ?_
              refine CW.seq ?_
              refine CW.region ?_
              refine LW.v rfl rfl (Val.move rfl) ?_
              refine LW.v rfl rfl (Val.ar rfl rfl rfl (IntWalk.i64_in _ (by omega))) ?_
              refine LW.v rfl rfl (Val.assign rfl) ?_
              refine LW.nil ?_
              refine PQ.seq ?_
              refine CW.exit ?_
              refine PQ.in_out rfl ?_
              refine PQ.then_exit ?_
              refine PQ.in_here ?_
              refine PQ.segs (ss := [[(b2, .cells _ 25 (0, 0))], [(b3, .cells _ 25 (0, 0))], ownG 38 (k.2.2.1.flatMap clC ++ clC (delC x)) o9]) ?_ (by repeat (first | exact .nil | apply Pick.cons | exact .here | apply Ext.there))
              rw [show k.2.2.1.flatMap clC ++ clC (delC x) = (k.2.2.1 ++ [delC x]).flatMap clC from by simp]
              refine PQ.round ((k.1 + 1, k.2.1, k.2.2.1 ++ [delC x], o9)) ⟨by simp only; omega, by simp only; omega, by simp only [List.length_append, List.length_cons, List.length_nil]; omega, by simp only [List.length_append, List.length_cons, List.length_nil, List.flatMap_append, List.flatMap_cons, List.flatMap_nil, List.append_nil]; exact ho9, by rw [hk5, dgo_del hxx hyx h66]; simp⟩ (by simp only; omega) (by exact ⟨rfl, rfl, by simp only [List.length_append]; rfl, rfl, rfl, trivial⟩) (by repeat (first | exact .nil | apply Pick.cons | exact .here | apply Ext.there))
            · replace h66 := bF h66
              have h66 : ¬ x.key < y.key := by simpa using h66
              refine CW.seq ?_
              refine CW.quiet mixed (by kernel_rfl) ?_
              refine QW.v rfl rfl (Val.move rfl) ?_
              refine QW.v rfl rfl (Val.fieldAddr 0 rfl Try.underlying25 rfl rfl Try.sizeOf22) ?_
              refine QW.v rfl rfl (Val.load rfl Try.isAgg22 (by repeat (first | exact .here | exact .inner .here | exact .inner (.inner .here) | refine .there ?_)) (by rfl)) ?_
              refine QW.v rfl rfl (Val.lenSl rfl Try.underlying22) ?_
              refine QW.v rfl rfl (Val.cmp rfl rfl rfl) ?_
              refine QW.v rfl rfl (Val.move rfl) ?_
              refine QW.split (d := 112) rfl (fun h112 => ?_) (fun h112 => ?_)
              · replace h112 := bT h112
                refine QW.v rfl rfl (Val.fieldAddr 0 rfl Try.underlying25 rfl rfl Try.sizeOf22) ?_
                refine QW.v rfl rfl (Val.load rfl Try.isAgg22 (by repeat (first | exact .here | exact .inner .here | exact .inner (.inner .here) | refine .there ?_)) (by rfl)) ?_
                refine QW.v rfl rfl (Val.move rfl) ?_
                first | (refine QW.v rfl rfl (Val.indexAddrN rfl rfl Try.underlying22 Try.sizeOf45 (by omega)) ?_) | (refine QW.v rfl rfl (Val.indexAddr rfl rfl Try.underlying22 Try.sizeOf45 (by omega) (by omega)) ?_)
                refine QW.v rfl rfl (Val.loadOA rfl Try.isAgg45 hxb (by simp [ids]) (hxr k.1 x hxx) Try.sizeOf45) ?_
                refine QW.v rfl rfl (Val.fieldAddr 0 rfl Try.underlying25 rfl rfl Try.sizeOf22) ?_
                refine QW.v rfl rfl (Val.load rfl Try.isAgg22 (by repeat (first | exact .here | exact .inner .here | exact .inner (.inner .here) | refine .there ?_)) (by rfl)) ?_
                refine QW.v rfl rfl (Val.move rfl) ?_
                first | (refine QW.v rfl rfl (Val.indexAddrN rfl rfl Try.underlying22 Try.sizeOf45 (by omega)) ?_) | (refine QW.v rfl rfl (Val.indexAddr rfl rfl Try.underlying22 Try.sizeOf45 (by omega) (by omega)) ?_)
                refine QW.v rfl rfl (Val.loadOA rfl Try.isAgg45 hyb (by simp [ids]) (hyr k.2.1 y hyx) Try.sizeOf45) ?_
                refine QW.v rfl rfl (Val.eqA rfl rfl (by kernel_rfl) Try.underlying45 (by kernel_rfl) (by exact (.str rfl rfl Try.isAgg9 Try.underlying9 (.str rfl rfl Try.isAgg9 Try.underlying9 .nil)))) ?_
                refine QW.re 123 (.bool (decide (x = y))) rfl (by rw [← pr_eq]) ?_
                refine QW.v rfl rfl (Val.pick_t rfl rfl) ?_
                refine QW.v rfl rfl (Val.assign rfl) ?_
                refine QW.nil ?_
                refine PQ.seq ?_
                refine CW.cond rfl (fun h106 => ?_) (fun h106 => ?_)
                · replace h106 := bT h106
                  have h106 : x = y := h106
                  refine CW.region ?_
                  refine LW.v rfl rfl (Val.move rfl) ?_
                  refine LW.v rfl rfl (Val.ar rfl rfl rfl (IntWalk.i64_in _ (by omega))) ?_
                  refine LW.v rfl rfl (Val.assign rfl) ?_
                  refine LW.nil ?_
                  refine PQ.in_normal ?_
                  refine PQ.seq ?_
                  refine CW.region ?_
                  refine LW.v rfl rfl (Val.move rfl) ?_
                  refine LW.v rfl rfl (Val.ar rfl rfl rfl (IntWalk.i64_in _ (by omega))) ?_
                  refine LW.v rfl rfl (Val.assign rfl) ?_
                  refine LW.nil ?_
                  refine PQ.in_normal ?_
                  refine PQ.round ((k.1 + 1, k.2.1 + 1, k.2.2.1, k.2.2.2)) ⟨by simp only; omega, by simp only; omega, by simp only; omega, hk4, by rw [hk5, dgo_same hxx hyx h66 h106]⟩ (by simp only; omega) (by repeat (first | exact trivial | refine ⟨rfl, ?_⟩)) (by repeat (first | exact .nil | apply Pick.cons | exact .here | apply Ext.there))
                · replace h106 := bF h106
                  have h106 : x ≠ y := h106
                  refine CW.seq ?_
                  refine CW.drawn ([[(b2, .cells _ 25 (0, 0))], [(b3, .cells _ 25 (0, 0))]]) mixed (by repeat (first | exact .nil | apply Pick.cons | exact .here | apply Ext.there)) ?_
                  refine RW.v 0 rfl (by kernel_rfl) (by kernel_rfl) (by kernel_rfl) (fun _ _ _ h => h) rfl rfl (Val.move rfl) ?_
                  refine RW.v 1 rfl (by kernel_rfl) (by kernel_rfl) (by kernel_rfl) (fun _ _ _ h => h) rfl rfl (Val.fieldAddr 0 rfl Try.underlying25 rfl rfl Try.sizeOf22) ?_
                  refine RW.v 2 rfl (by kernel_rfl) (by kernel_rfl) (by kernel_rfl) (fun _ _ _ h => h) rfl rfl (Val.load rfl Try.isAgg22 (by repeat (first | exact .here | exact .inner .here | exact .inner (.inner .here) | refine .there ?_)) (by rfl)) ?_
                  refine RW.v 3 rfl (by kernel_rfl) (by kernel_rfl) (by kernel_rfl) (fun _ _ _ h => h) rfl rfl (Val.move rfl) ?_
                  first | (refine RW.v 4 rfl (by kernel_rfl) (by kernel_rfl) (by kernel_rfl) (fun _ _ _ h => h) rfl rfl (Val.indexAddrN rfl rfl Try.underlying22 Try.sizeOf45 (by omega)) ?_) | (refine RW.v 4 rfl (by kernel_rfl) (by kernel_rfl) (by kernel_rfl) (fun _ _ _ h => h) rfl rfl (Val.indexAddr rfl rfl Try.underlying22 Try.sizeOf45 (by omega) (by omega)) ?_)
                  refine RW.v 5 rfl (by kernel_rfl) (by kernel_rfl) (by kernel_rfl) (fun _ _ _ h => h) rfl rfl (Val.fieldAddr 0 rfl Try.underlying45 rfl rfl Try.sizeOf9) ?_
                  refine RW.v 6 rfl (by kernel_rfl) (by kernel_rfl) (by kernel_rfl) (fun _ _ _ h => h) rfl rfl (Val.loadO rfl Try.isAgg9 hyb (by simp [ids]) (hyr k.2.1 y hyx 0 _ rfl)) ?_
                  refine RW.v 7 rfl (by kernel_rfl) (by kernel_rfl) (by kernel_rfl) (fun _ _ _ h => h) rfl rfl (Val.fieldAddr 0 rfl Try.underlying25 rfl rfl Try.sizeOf22) ?_
                  refine RW.v 8 rfl (by kernel_rfl) (by kernel_rfl) (by kernel_rfl) (fun _ _ _ h => h) rfl rfl (Val.load rfl Try.isAgg22 (by repeat (first | exact .here | exact .inner .here | exact .inner (.inner .here) | refine .there ?_)) (by rfl)) ?_
                  refine RW.v 9 rfl (by kernel_rfl) (by kernel_rfl) (by kernel_rfl) (fun _ _ _ h => h) rfl rfl (Val.move rfl) ?_
                  first | (refine RW.v 10 rfl (by kernel_rfl) (by kernel_rfl) (by kernel_rfl) (fun _ _ _ h => h) rfl rfl (Val.indexAddrN rfl rfl Try.underlying22 Try.sizeOf45 (by omega)) ?_) | (refine RW.v 10 rfl (by kernel_rfl) (by kernel_rfl) (by kernel_rfl) (fun _ _ _ h => h) rfl rfl (Val.indexAddr rfl rfl Try.underlying22 Try.sizeOf45 (by omega) (by omega)) ?_)
                  refine RW.v 11 rfl (by kernel_rfl) (by kernel_rfl) (by kernel_rfl) (fun _ _ _ h => h) rfl rfl (Val.fieldAddr 1 rfl Try.underlying45 rfl rfl Try.sizeOf9) ?_
                  refine RW.v 12 rfl (by kernel_rfl) (by kernel_rfl) (by kernel_rfl) (fun _ _ _ h => h) rfl rfl (Val.loadO rfl Try.isAgg9 hyb (by simp [ids]) (hyr k.2.1 y hyx 1 _ rfl)) ?_
                  refine RW.v 13 rfl (by kernel_rfl) (by kernel_rfl) (by kernel_rfl) (fun _ _ _ h => h) rfl rfl (Val.build [_, _, _, _, _] Try.zeroValue38 Try.underlying38 places38 rfl (by rfl)) ?_
                  refine RW.e 14 rfl (by kernel_rfl) rfl rfl (Eff.buildSlice (rfl) [_, _, _, _, _] Try.underlying28 Try.sizeOf38 (by exact Try.zeroValue38) rfl rfl rfl rfl (by rfl)) (fun x => ⟨_, (by repeat (first | exact .nil | apply Pick.cons | exact .here | apply Ext.there))⟩) ?_
                  intro b42 _
                  refine RW.e 15 rfl (by kernel_rfl) rfl rfl (Eff.appendAny (clC (putC y)) (sz := 5) (bytes := 80) (z := .agg #[.int .i64 0, .string ⟨#[]⟩, .string ⟨#[]⟩, .string ⟨#[]⟩, .slice none 0 0]) (xs := k.2.2.1.flatMap clC) (m0 := k.2.2.1.length) (o := k.2.2.2) (m := 1) (pk := [ownG 38 (k.2.2.1.flatMap clC) k.2.2.2]) rfl rfl Try.underlying28 (by kernel_rfl) rfl (by omega) (by repeat (first | exact .nil | apply Pick.cons | exact .here | apply Ext.there)) (by simp) hk4 (by rfl) (fun hm0 => ⟨b42, 0, rfl, fun w hw => V.range_of_block (o := 0) (cs := clC (putC y)) (r := []) (hw.own _ (show InS (b42, .cells (clC (putC y)).toArray 38 (0, 0)) _ from (by repeat (first | exact .here | exact .inner .here | exact .inner (.inner .here) | refine .there ?_))).mem) rfl⟩) (by rfl) (by omega) (by omega)) (fun x => ⟨_, (by repeat (first | exact .nil | apply Pick.cons | exact .here | apply Ext.there))⟩) ?_
                  intro o9 ho9
                  refine RW.v 16 rfl (by kernel_rfl) (by kernel_rfl) (by kernel_rfl) (fun _ _ _ h => h) rfl rfl (Val.assign rfl) ?_
                  refine RW.done (by kernel_rfl) ?_
                  refine PQ.seq ?_
                  refine CW.seq ?_
                  refine CW.quiet mixed (by kernel_rfl) ?_
                  refine QW.v rfl rfl (Val.move rfl) ?_
                  refine QW.v rfl rfl (Val.fieldAddr 0 rfl Try.underlying25 rfl rfl Try.sizeOf22) ?_
                  refine QW.v rfl rfl (Val.load rfl Try.isAgg22 (by repeat (first | exact .here | exact .inner .here | exact .inner (.inner .here) | refine .there ?_)) (by rfl)) ?_
                  refine QW.v rfl rfl (Val.lenSl rfl Try.underlying22) ?_
                  refine QW.v rfl rfl (Val.cmp rfl rfl rfl) ?_
                  refine QW.v rfl rfl (Val.move rfl) ?_
                  refine QW.split (d := 49) rfl (fun h49 => ?_) (fun h49 => ?_)
                  · replace h49 := bT h49
                    refine QW.v rfl rfl (Val.fieldAddr 0 rfl Try.underlying25 rfl rfl Try.sizeOf22) ?_
                    refine QW.v rfl rfl (Val.load rfl Try.isAgg22 (by repeat (first | exact .here | exact .inner .here | exact .inner (.inner .here) | refine .there ?_)) (by rfl)) ?_
                    refine QW.v rfl rfl (Val.move rfl) ?_
                    first | (refine QW.v rfl rfl (Val.indexAddrN rfl rfl Try.underlying22 Try.sizeOf45 (by omega)) ?_) | (refine QW.v rfl rfl (Val.indexAddr rfl rfl Try.underlying22 Try.sizeOf45 (by omega) (by omega)) ?_)
                    refine QW.v rfl rfl (Val.fieldAddr 0 rfl Try.underlying45 rfl rfl Try.sizeOf9) ?_
                    refine QW.v rfl rfl (Val.loadO rfl Try.isAgg9 hxb (by simp [ids]) (hxr k.1 x hxx 0 _ rfl)) ?_
                    refine QW.v rfl rfl (Val.fieldAddr 0 rfl Try.underlying25 rfl rfl Try.sizeOf22) ?_
                    refine QW.v rfl rfl (Val.load rfl Try.isAgg22 (by repeat (first | exact .here | exact .inner .here | exact .inner (.inner .here) | refine .there ?_)) (by rfl)) ?_
                    refine QW.v rfl rfl (Val.move rfl) ?_
                    first | (refine QW.v rfl rfl (Val.indexAddrN rfl rfl Try.underlying22 Try.sizeOf45 (by omega)) ?_) | (refine QW.v rfl rfl (Val.indexAddr rfl rfl Try.underlying22 Try.sizeOf45 (by omega) (by omega)) ?_)
                    refine QW.v rfl rfl (Val.fieldAddr 0 rfl Try.underlying45 rfl rfl Try.sizeOf9) ?_
                    refine QW.v rfl rfl (Val.loadO rfl Try.isAgg9 hyb (by simp [ids]) (hyr k.2.1 y hyx 0 _ rfl)) ?_
                    refine QW.v rfl rfl (Val.eqStr rfl rfl) ?_
                    refine QW.v rfl rfl (Val.pick_t rfl rfl) ?_
                    refine QW.nil ?_
                    refine PQ.seq ?_
                    refine CW.cond rfl (fun h63 => ?_) (fun h63 => ?_)
                    · replace h63 := bT h63
                      have h63 : x.key = y.key := h63
                      refine CW.region ?_
                      refine LW.v rfl rfl (Val.move rfl) ?_
                      refine LW.v rfl rfl (Val.ar rfl rfl rfl (IntWalk.i64_in _ (by omega))) ?_
                      refine LW.v rfl rfl (Val.assign rfl) ?_
                      refine LW.nil ?_
                      refine PQ.in_normal ?_
                      refine PQ.seq ?_
                      refine CW.region ?_
                      refine LW.v rfl rfl (Val.move rfl) ?_
                      refine LW.v rfl rfl (Val.ar rfl rfl rfl (IntWalk.i64_in _ (by omega))) ?_
                      refine LW.v rfl rfl (Val.assign rfl) ?_
                      refine LW.nil ?_
                      refine PQ.in_normal ?_
                      refine PQ.segs (ss := [[(b2, .cells _ 25 (0, 0))], [(b3, .cells _ 25 (0, 0))], ownG 38 (k.2.2.1.flatMap clC ++ clC (putC y)) o9]) ?_ (by repeat (first | exact .nil | apply Pick.cons | exact .here | apply Ext.there))
                      rw [show k.2.2.1.flatMap clC ++ clC (putC y) = (k.2.2.1 ++ [putC y]).flatMap clC from by simp]
                      refine PQ.round ((k.1 + 1, k.2.1 + 1, k.2.2.1 ++ [putC y], o9)) ⟨by simp only; omega, by simp only; omega, by simp only [List.length_append, List.length_cons, List.length_nil]; omega, by simp only [List.length_append, List.length_cons, List.length_nil, List.flatMap_append, List.flatMap_cons, List.flatMap_nil, List.append_nil]; exact ho9, by rw [hk5, dgo_both hxx hyx h66 h106 h63]; simp⟩ (by simp only; omega) (by exact ⟨rfl, rfl, by simp only [List.length_append]; rfl, rfl, rfl, trivial⟩) (by repeat (first | exact .nil | apply Pick.cons | exact .here | apply Ext.there))
                    · replace h63 := bF h63
                      have h63 : x.key ≠ y.key := h63
                      refine CW.skip ?_
                      refine PQ.in_normal ?_
                      refine PQ.seq ?_
                      refine CW.region ?_
                      refine LW.v rfl rfl (Val.move rfl) ?_
                      refine LW.v rfl rfl (Val.ar rfl rfl rfl (IntWalk.i64_in _ (by omega))) ?_
                      refine LW.v rfl rfl (Val.assign rfl) ?_
                      refine LW.nil ?_
                      refine PQ.in_normal ?_
                      refine PQ.segs (ss := [[(b2, .cells _ 25 (0, 0))], [(b3, .cells _ 25 (0, 0))], ownG 38 (k.2.2.1.flatMap clC ++ clC (putC y)) o9]) ?_ (by repeat (first | exact .nil | apply Pick.cons | exact .here | apply Ext.there))
                      rw [show k.2.2.1.flatMap clC ++ clC (putC y) = (k.2.2.1 ++ [putC y]).flatMap clC from by simp]
                      refine PQ.round ((k.1, k.2.1 + 1, k.2.2.1 ++ [putC y], o9)) ⟨by simp only; omega, by simp only; omega, by simp only [List.length_append, List.length_cons, List.length_nil]; omega, by simp only [List.length_append, List.length_cons, List.length_nil, List.flatMap_append, List.flatMap_cons, List.flatMap_nil, List.append_nil]; exact ho9, by rw [hk5, dgo_put hxx hyx h66 h106 h63]; simp⟩ (by simp only; omega) (by exact ⟨rfl, rfl, by simp only [List.length_append]; rfl, rfl, rfl, trivial⟩) (by repeat (first | exact .nil | apply Pick.cons | exact .here | apply Ext.there))
                  · exact absurd (bF h49) (by first | (simp; done) | omega)
              · exact absurd (bF h112) (by first | (simp; done) | omega)
          · exact absurd (bF h78) (by first | (simp; done) | omega)
      · replace h21 := bF h21
        refine LW.v rfl rfl (Val.move rfl) ?_
        refine LW.v rfl rfl (Val.fieldAddr 0 rfl Try.underlying25 rfl rfl Try.sizeOf22) ?_
        refine LW.v rfl rfl (Val.load rfl Try.isAgg22 (by repeat (first | exact .here | exact .inner .here | exact .inner (.inner .here) | refine .there ?_)) (by rfl)) ?_
        refine LW.v rfl rfl (Val.lenSl rfl Try.underlying22) ?_
        refine LW.v rfl rfl (Val.cmp rfl rfl rfl) ?_
        refine LW.v rfl rfl (Val.pick_f rfl rfl) ?_
        refine LW.nil ?_
        refine PQ.seq ?_
        refine CW.cond rfl (fun h27 => ?_) (fun h27 => ?_)
        · replace h27 := bT h27
          refine CW.skip ?_
          refine PQ.seq ?_
          refine CW.block ?_
          refine CW.seq ?_
          refine CW.block ?_
          refine CW.seq ?_
          refine CW.quiet mixed (by kernel_rfl) ?_
          refine QW.v rfl rfl (Val.move rfl) ?_
          refine QW.v rfl rfl (Val.fieldAddr 0 rfl Try.underlying25 rfl rfl Try.sizeOf22) ?_
          refine QW.v rfl rfl (Val.load rfl Try.isAgg22 (by repeat (first | exact .here | exact .inner .here | exact .inner (.inner .here) | refine .there ?_)) (by rfl)) ?_
          refine QW.v rfl rfl (Val.lenSl rfl Try.underlying22) ?_
          refine QW.v rfl rfl (Val.cmp rfl rfl rfl) ?_
          refine QW.v rfl rfl (Val.move rfl) ?_
          refine QW.split (d := 72) rfl (fun h72 => ?_) (fun h72 => ?_)
          · exact absurd (bT h72) (by first | (simp; done) | omega)
          · replace h72 := bF h72
            obtain ⟨by_, oy, y, rfl, hyb, hyx, hyr⟩ := V.slAt_at hb2 rfl (k := k.2.1) (by omega)
            refine QW.v rfl rfl (Val.move rfl) ?_
            refine QW.v rfl rfl (Val.fieldAddr 0 rfl Try.underlying25 rfl rfl Try.sizeOf22) ?_
            refine QW.v rfl rfl (Val.load rfl Try.isAgg22 (by repeat (first | exact .here | exact .inner .here | exact .inner (.inner .here) | refine .there ?_)) (by rfl)) ?_
            refine QW.v rfl rfl (Val.lenSl rfl Try.underlying22) ?_
            refine QW.v rfl rfl (Val.cmp rfl rfl rfl) ?_
            refine QW.v rfl rfl (Val.move rfl) ?_
            refine QW.split (d := 78) rfl (fun h78 => ?_) (fun h78 => ?_)
            · exact absurd (bT h78) (by first | (simp; done) | omega)
            · replace h78 := bF h78
              refine QW.p rfl rfl ?_
              refine QW.p rfl rfl ?_
              refine QW.p rfl rfl ?_
              refine QW.p rfl rfl ?_
              refine QW.p rfl rfl ?_
              refine QW.p rfl rfl ?_
              refine QW.p rfl rfl ?_
              refine QW.p rfl rfl ?_
              refine QW.p rfl rfl ?_
              refine QW.p rfl rfl ?_
              refine QW.p rfl rfl ?_
              refine QW.p rfl rfl ?_
              refine QW.p rfl rfl ?_
              refine QW.v rfl rfl (Val.pick_f rfl rfl) ?_
              refine QW.v rfl rfl (Val.pick_f rfl rfl) ?_
              refine QW.v rfl rfl (Val.assign rfl) ?_
              refine QW.nil ?_
              refine PQ.seq ?_
              refine CW.cond_f rfl ?_
              refine CW.seq ?_
              refine CW.quiet mixed (by kernel_rfl) ?_
              refine QW.v rfl rfl (Val.move rfl) ?_
              refine QW.v rfl rfl (Val.fieldAddr 0 rfl Try.underlying25 rfl rfl Try.sizeOf22) ?_
              refine QW.v rfl rfl (Val.load rfl Try.isAgg22 (by repeat (first | exact .here | exact .inner .here | exact .inner (.inner .here) | refine .there ?_)) (by rfl)) ?_
              refine QW.v rfl rfl (Val.lenSl rfl Try.underlying22) ?_
              refine QW.v rfl rfl (Val.cmp rfl rfl rfl) ?_
              refine QW.v rfl rfl (Val.move rfl) ?_
              refine QW.split (d := 112) rfl (fun h112 => ?_) (fun h112 => ?_)
              · exact absurd (bT h112) (by first | (simp; done) | omega)
              · replace h112 := bF h112
                refine QW.p rfl rfl ?_
                refine QW.p rfl rfl ?_
                refine QW.p rfl rfl ?_
                refine QW.p rfl rfl ?_
                refine QW.p rfl rfl ?_
                refine QW.p rfl rfl ?_
                refine QW.p rfl rfl ?_
                refine QW.p rfl rfl ?_
                refine QW.p rfl rfl ?_
                refine QW.p rfl rfl ?_
                refine QW.p rfl rfl ?_
                refine QW.v rfl rfl (Val.pick_f rfl rfl) ?_
                refine QW.v rfl rfl (Val.assign rfl) ?_
                refine QW.nil ?_
                refine PQ.seq ?_
                refine CW.cond_f rfl ?_
                refine CW.seq ?_
                refine CW.drawn ([[(b2, .cells _ 25 (0, 0))], [(b3, .cells _ 25 (0, 0))]]) mixed (by repeat (first | exact .nil | apply Pick.cons | exact .here | apply Ext.there)) ?_
                refine RW.v 0 rfl (by kernel_rfl) (by kernel_rfl) (by kernel_rfl) (fun _ _ _ h => h) rfl rfl (Val.move rfl) ?_
                refine RW.v 1 rfl (by kernel_rfl) (by kernel_rfl) (by kernel_rfl) (fun _ _ _ h => h) rfl rfl (Val.fieldAddr 0 rfl Try.underlying25 rfl rfl Try.sizeOf22) ?_
                refine RW.v 2 rfl (by kernel_rfl) (by kernel_rfl) (by kernel_rfl) (fun _ _ _ h => h) rfl rfl (Val.load rfl Try.isAgg22 (by repeat (first | exact .here | exact .inner .here | exact .inner (.inner .here) | refine .there ?_)) (by rfl)) ?_
                refine RW.v 3 rfl (by kernel_rfl) (by kernel_rfl) (by kernel_rfl) (fun _ _ _ h => h) rfl rfl (Val.move rfl) ?_
                first | (refine RW.v 4 rfl (by kernel_rfl) (by kernel_rfl) (by kernel_rfl) (fun _ _ _ h => h) rfl rfl (Val.indexAddrN rfl rfl Try.underlying22 Try.sizeOf45 (by omega)) ?_) | (refine RW.v 4 rfl (by kernel_rfl) (by kernel_rfl) (by kernel_rfl) (fun _ _ _ h => h) rfl rfl (Val.indexAddr rfl rfl Try.underlying22 Try.sizeOf45 (by omega) (by omega)) ?_)
                refine RW.v 5 rfl (by kernel_rfl) (by kernel_rfl) (by kernel_rfl) (fun _ _ _ h => h) rfl rfl (Val.fieldAddr 0 rfl Try.underlying45 rfl rfl Try.sizeOf9) ?_
                refine RW.v 6 rfl (by kernel_rfl) (by kernel_rfl) (by kernel_rfl) (fun _ _ _ h => h) rfl rfl (Val.loadO rfl Try.isAgg9 hyb (by simp [ids]) (hyr k.2.1 y hyx 0 _ rfl)) ?_
                refine RW.v 7 rfl (by kernel_rfl) (by kernel_rfl) (by kernel_rfl) (fun _ _ _ h => h) rfl rfl (Val.fieldAddr 0 rfl Try.underlying25 rfl rfl Try.sizeOf22) ?_
                refine RW.v 8 rfl (by kernel_rfl) (by kernel_rfl) (by kernel_rfl) (fun _ _ _ h => h) rfl rfl (Val.load rfl Try.isAgg22 (by repeat (first | exact .here | exact .inner .here | exact .inner (.inner .here) | refine .there ?_)) (by rfl)) ?_
                refine RW.v 9 rfl (by kernel_rfl) (by kernel_rfl) (by kernel_rfl) (fun _ _ _ h => h) rfl rfl (Val.move rfl) ?_
                first | (refine RW.v 10 rfl (by kernel_rfl) (by kernel_rfl) (by kernel_rfl) (fun _ _ _ h => h) rfl rfl (Val.indexAddrN rfl rfl Try.underlying22 Try.sizeOf45 (by omega)) ?_) | (refine RW.v 10 rfl (by kernel_rfl) (by kernel_rfl) (by kernel_rfl) (fun _ _ _ h => h) rfl rfl (Val.indexAddr rfl rfl Try.underlying22 Try.sizeOf45 (by omega) (by omega)) ?_)
                refine RW.v 11 rfl (by kernel_rfl) (by kernel_rfl) (by kernel_rfl) (fun _ _ _ h => h) rfl rfl (Val.fieldAddr 1 rfl Try.underlying45 rfl rfl Try.sizeOf9) ?_
                refine RW.v 12 rfl (by kernel_rfl) (by kernel_rfl) (by kernel_rfl) (fun _ _ _ h => h) rfl rfl (Val.loadO rfl Try.isAgg9 hyb (by simp [ids]) (hyr k.2.1 y hyx 1 _ rfl)) ?_
                refine RW.v 13 rfl (by kernel_rfl) (by kernel_rfl) (by kernel_rfl) (fun _ _ _ h => h) rfl rfl (Val.build [_, _, _, _, _] Try.zeroValue38 Try.underlying38 places38 rfl (by rfl)) ?_
                refine RW.e 14 rfl (by kernel_rfl) rfl rfl (Eff.buildSlice (rfl) [_, _, _, _, _] Try.underlying28 Try.sizeOf38 (by exact Try.zeroValue38) rfl rfl rfl rfl (by rfl)) (fun x => ⟨_, (by repeat (first | exact .nil | apply Pick.cons | exact .here | apply Ext.there))⟩) ?_
                intro b42 _
                refine RW.e 15 rfl (by kernel_rfl) rfl rfl (Eff.appendAny (clC (putC y)) (sz := 5) (bytes := 80) (z := .agg #[.int .i64 0, .string ⟨#[]⟩, .string ⟨#[]⟩, .string ⟨#[]⟩, .slice none 0 0]) (xs := k.2.2.1.flatMap clC) (m0 := k.2.2.1.length) (o := k.2.2.2) (m := 1) (pk := [ownG 38 (k.2.2.1.flatMap clC) k.2.2.2]) rfl rfl Try.underlying28 (by kernel_rfl) rfl (by omega) (by repeat (first | exact .nil | apply Pick.cons | exact .here | apply Ext.there)) (by simp) hk4 (by rfl) (fun hm0 => ⟨b42, 0, rfl, fun w hw => V.range_of_block (o := 0) (cs := clC (putC y)) (r := []) (hw.own _ (show InS (b42, .cells (clC (putC y)).toArray 38 (0, 0)) _ from (by repeat (first | exact .here | exact .inner .here | exact .inner (.inner .here) | refine .there ?_))).mem) rfl⟩) (by rfl) (by omega) (by omega)) (fun x => ⟨_, (by repeat (first | exact .nil | apply Pick.cons | exact .here | apply Ext.there))⟩) ?_
                intro o9 ho9
                refine RW.v 16 rfl (by kernel_rfl) (by kernel_rfl) (by kernel_rfl) (fun _ _ _ h => h) rfl rfl (Val.assign rfl) ?_
                refine RW.done (by kernel_rfl) ?_
                refine PQ.seq ?_
                refine CW.seq ?_
                refine CW.quiet mixed (by kernel_rfl) ?_
                refine QW.v rfl rfl (Val.move rfl) ?_
                refine QW.v rfl rfl (Val.fieldAddr 0 rfl Try.underlying25 rfl rfl Try.sizeOf22) ?_
                refine QW.v rfl rfl (Val.load rfl Try.isAgg22 (by repeat (first | exact .here | exact .inner .here | exact .inner (.inner .here) | refine .there ?_)) (by rfl)) ?_
                refine QW.v rfl rfl (Val.lenSl rfl Try.underlying22) ?_
                refine QW.v rfl rfl (Val.cmp rfl rfl rfl) ?_
                refine QW.v rfl rfl (Val.move rfl) ?_
                refine QW.split (d := 49) rfl (fun h49 => ?_) (fun h49 => ?_)
                · exact absurd (bT h49) (by first | (simp; done) | omega)
                · replace h49 := bF h49
                  refine QW.p rfl rfl ?_
                  refine QW.p rfl rfl ?_
                  refine QW.p rfl rfl ?_
                  refine QW.p rfl rfl ?_
                  refine QW.p rfl rfl ?_
                  refine QW.p rfl rfl ?_
                  refine QW.p rfl rfl ?_
                  refine QW.p rfl rfl ?_
                  refine QW.p rfl rfl ?_
                  refine QW.p rfl rfl ?_
                  refine QW.p rfl rfl ?_
                  refine QW.p rfl rfl ?_
                  refine QW.p rfl rfl ?_
                  refine QW.v rfl rfl (Val.pick_f rfl rfl) ?_
                  refine QW.nil ?_
                  refine PQ.seq ?_
                  refine CW.cond_f rfl ?_
                  refine CW.skip ?_
                  refine PQ.in_normal ?_
                  refine PQ.seq ?_
                  refine CW.region ?_
                  refine LW.v rfl rfl (Val.move rfl) ?_
                  refine LW.v rfl rfl (Val.ar rfl rfl rfl (IntWalk.i64_in _ (by omega))) ?_
                  refine LW.v rfl rfl (Val.assign rfl) ?_
                  refine LW.nil ?_
                  refine PQ.in_normal ?_
                  refine PQ.segs (ss := [[(b2, .cells _ 25 (0, 0))], [(b3, .cells _ 25 (0, 0))], ownG 38 (k.2.2.1.flatMap clC ++ clC (putC y)) o9]) ?_ (by repeat (first | exact .nil | apply Pick.cons | exact .here | apply Ext.there))
                  rw [show k.2.2.1.flatMap clC ++ clC (putC y) = (k.2.2.1 ++ [putC y]).flatMap clC from by simp]
                  refine PQ.round ((k.1, k.2.1 + 1, k.2.2.1 ++ [putC y], o9)) ⟨by simp only; omega, by simp only; omega, by simp only [List.length_append, List.length_cons, List.length_nil]; omega, by simp only [List.length_append, List.length_cons, List.length_nil, List.flatMap_append, List.flatMap_cons, List.flatMap_nil, List.append_nil]; exact ho9, by rw [hk5, dgo_put0 (by omega) hyx]; simp⟩ (by simp only; omega) (by exact ⟨rfl, rfl, by simp only [List.length_append]; rfl, rfl, rfl, trivial⟩) (by repeat (first | exact .nil | apply Pick.cons | exact .here | apply Ext.there))
        · replace h27 := bF h27
          refine CW.exit ?_
          refine PQ.then_exit ?_
          refine PQ.then_exit ?_
          refine PQ.in_here ?_
          refine PQ.seq ?_
          refine CW.seq ?_
          refine CW.region ?_
          refine LW.v rfl rfl (Val.move rfl) ?_
          refine LW.v rfl rfl (Val.fieldAddr 1 rfl Try.underlying25 rfl rfl Try.sizeOf23) ?_
          refine LW.v rfl rfl (Val.load rfl Try.isAgg23 (by repeat (first | exact .here | exact .inner .here | exact .inner (.inner .here) | refine .there ?_)) (by rfl)) ?_
          refine LW.v rfl rfl (Val.fieldAddr 1 rfl Try.underlying25 rfl rfl Try.sizeOf23) ?_
          refine LW.v rfl rfl (Val.load rfl Try.isAgg23 (by repeat (first | exact .here | exact .inner .here | exact .inner (.inner .here) | refine .there ?_)) (by rfl)) ?_
          refine LW.e rfl rfl (Eff.callM ([]) .nil rfl Try.call20 (fun w hw hs0 => line_c u v _ _ _ _ _ _ rfl rfl ha6 hb6 ⟨by omega, by omega⟩ w (hw.slAt ha4 (by simp [ids])) (hw.slAt hb4 (by simp [ids])))) ?_
          intro o2 ho2
          have hll : (lnF u v).length ≤ 80 := by unfold lnF; have := lnN_le u v; simp only [List.length_append, List.length_replicate, List.length_map, List.length_drop]; omega
          refine LW.re 134 (.slice (ownSl (lnF u v).length o2).a (lnF u v).length (ownSl (lnF u v).length o2).c) rfl (ownSl_v2 ho2) ?_
          refine LW.e rfl rfl (Eff.appendAny ((lnF u v).flatMap clC) (sz := 5) (bytes := 80) (z := .agg #[.int .i64 0, .string ⟨#[]⟩, .string ⟨#[]⟩, .string ⟨#[]⟩, .slice none 0 0]) (xs := k.2.2.1.flatMap clC) (m0 := k.2.2.1.length) (o := k.2.2.2) (m := (lnF u v).length) (pk := [ownG 38 (k.2.2.1.flatMap clC) k.2.2.2]) rfl rfl Try.underlying28 (by kernel_rfl) rfl (by omega) (by repeat (first | exact .nil | apply Pick.cons | exact .here | apply Ext.there)) (by simp) hk4 (V.flatMap_len clC_len _) (fun hm0 => by obtain ⟨b8, off8, h8, h9⟩ := own_range (e := 38) ho2 hm0; exact ⟨b8, off8, h8, fun w hw => h9 w (hw.sat.pick (ss := [ownG 38 ((lnF u v).flatMap clC) o2]) (by repeat (first | exact .nil | apply Pick.cons | exact .here | apply Ext.there)))⟩) (List.all_eq_true.2 (rep_one _)) (by omega) (by omega)) ?_
          intro o9 ho9
          refine LW.v rfl rfl (Val.assign rfl) ?_
          refine LW.nil ?_
          refine PQ.seq ?_
          refine CW.ret ?_
          refine PQ.ret1 rfl rfl ?_
          intro w' hw
          have hd : diffF (a, u) (c, v) = k.2.2.1 ++ lnF u v := by unfold diffF; rw [if_pos ⟨hm1, hm2⟩]; simp only; rw [hk5, dgo_end (by omega) (by omega), List.append_nil]
          rw [hd]
          refine ⟨o9, by rw [List.length_append, List.flatMap_append]; exact ho9, by rw [List.length_append], ?_⟩
          have h8 := hw.pick (ss := [ownG 38 (k.2.2.1.flatMap clC ++ (lnF u v).flatMap clC) o9]) (by repeat (first | exact .nil | apply Pick.cons | exact .here | apply Ext.there))
          rw [← List.flatMap_append] at h8
          exact h8
end Go.Proofs.Ytipnpnkniihdjaa
