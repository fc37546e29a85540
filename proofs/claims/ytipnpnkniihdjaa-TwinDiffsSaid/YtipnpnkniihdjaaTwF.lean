/- The document's calls that make one store another one. -/
import Derived.Test.YtipnpnkniihdjaaTwE
import Derived.Lib.Hide
namespace Go.Proofs.Ytipnpnkniihdjaa
open Go Go.RowKit V
set_option linter.unusedVariables false
set_option maxRecDepth 100000
open V (str byC ownV ownG ownS ownOk)
theorem key_eq {x y : Pr} (h1 : ¬ x.key < y.key) (h2 : ¬ y.key < x.key) : x.key = y.key := List.le_antisymm (List.not_lt.1 h2) (List.not_lt.1 h1)
theorem pr_ext {x y : Pr} (h1 : x.key = y.key) (h2 : x.val = y.val) : x = y := by obtain ⟨a, b⟩ := x; obtain ⟨c, d⟩ := y; simp_all
theorem rdiff_c (s1 s2 : Sf) (A B : ShA) (w : World) (hA : SfR w s1 A) (hB : SfR w s2 B) (hl : (A.1.length ≤ 40 ∧ A.2.length ≤ 40) ∧ B.1.length ≤ 40 ∧ B.2.length ≤ 40) : Calls Try.prog 14 [.agg s1.cells.toArray, .agg s2.cells.toArray].toArray w fun e w' => ∃ o : V.OwnO, ownOk 5 (diffF A B).length ((diffF A B).flatMap clC) o ∧ e = .returned (ownV (diffF A B).length o) ∧ Hp ⟨w, []⟩ [ownG 38 ((diffF A B).flatMap clC) o] w' := by
  obtain ⟨⟨pa, pan, pac⟩, ⟨qa, qan, qac⟩⟩ := s1
  obtain ⟨⟨pb, pbn, pbc⟩, ⟨qb, qbn, qbc⟩⟩ := s2
  obtain ⟨a, u⟩ := A
  obtain ⟨c, v⟩ := B
  have hA0 := hA
  have hB0 := hB
  obtain ⟨⟨ha1, ha2⟩, ⟨ha3, ha4⟩, ha5, ha6⟩ := hA
  obtain ⟨⟨hb1, hb2⟩, ⟨hb3, hb4⟩, hb5, hb6⟩ := hB
  simp only at ha1 ha2 ha3 ha4 ha5 ha6 hb1 hb2 hb3 hb4 hb5 hb6 hl
  subst ha1; subst ha3; subst hb1; subst hb3
  refine V.calls [] Try.func14 rfl Try.ntmps14 (Nat.le_of_ble_eq_true rfl) (V.sat_nil _) ?_
  refine CW.seq ?_
  refine CW.region ?_
  refine LW.e rfl rfl (Eff.boxA rfl) ?_
  intro b2 _
  refine LW.e rfl rfl (Eff.boxA rfl) ?_
  intro b3 _
  refine LW.v rfl rfl (Val.assign rfl) ?_
  refine LW.nil ?_
  refine PQ.seq ?_
  refine CW.seq ?_
  refine CW.seq ?_
  refine CW.region ?_
  first | (refine LW.v rfl rfl (Val.loadW rfl Try.isAgg25 (by repeat (first | exact .here | exact .inner .here | exact .inner (.inner .here) | refine .there ?_)) (by exact Try.sizeOf25)) ?_) | (refine LW.v rfl rfl (Val.loadA [_, _] rfl Try.isAgg25 (by repeat (first | exact .here | exact .inner .here | exact .inner (.inner .here) | refine .there ?_)) (by rfl) Try.sizeOf25) ?_)
  refine LW.e rfl rfl (Eff.callV rfl Try.call26 (fun w hw => rmay_c _ (a, u) w (hA0.hp hw (by simp [ids])) (by simp only; omega))) ?_
  intro _ _
  refine LW.v rfl rfl (Val.not rfl) ?_
  refine LW.v rfl rfl (Val.move rfl) ?_
  refine LW.split (d := 13) rfl (fun h13 => ?_) (fun h13 => ?_)
  · replace h13 := bT h13
    refine LW.p rfl rfl ?_
    refine LW.p rfl rfl ?_
    refine LW.p rfl rfl ?_
    refine LW.v rfl rfl (Val.pick_t rfl rfl) ?_
    refine LW.nil ?_
    refine PQ.seq ?_
    refine CW.cond_t rfl ?_
    refine CW.seq ?_
    refine CW.region ?_
    refine LW.v rfl rfl (Val.assign rfl) ?_
    refine LW.nil ?_
    refine PQ.seq ?_
    refine CW.ret ?_
    refine PQ.then_ret ?_
    refine PQ.ret1 rfl rfl ?_
    intro w' hw
    have hd : diffF (a, u) (c, v) = [] := by unfold diffF; rw [if_neg]; simp only; intro h8; simp_all
    rw [hd]
    exact ⟨none, ⟨rfl, rfl⟩, rfl, (hw.pick (ss := []) .nil).perm (.refl _)⟩
  · replace h13 := bF h13
    have hm1 : mayB a = true := by simpa using h13
    first | (refine LW.v rfl rfl (Val.loadW rfl Try.isAgg25 (by repeat (first | exact .here | exact .inner .here | exact .inner (.inner .here) | refine .there ?_)) (by exact Try.sizeOf25)) ?_) | (refine LW.v rfl rfl (Val.loadA [_, _] rfl Try.isAgg25 (by repeat (first | exact .here | exact .inner .here | exact .inner (.inner .here) | refine .there ?_)) (by rfl) Try.sizeOf25) ?_)
    refine LW.e rfl rfl (Eff.callV rfl Try.call26 (fun w hw => rmay_c _ (c, v) w (hB0.hp hw (by simp [ids])) (by simp only; omega))) ?_
    intro _ _
    refine LW.v rfl rfl (Val.not rfl) ?_
    refine LW.v rfl rfl (Val.pick_f rfl rfl) ?_
    refine LW.nil ?_
    refine PQ.seq ?_
    refine CW.cond rfl (fun h17 => ?_) (fun h17 => ?_)
    · replace h17 := bT h17
      refine CW.seq ?_
      refine CW.region ?_
      refine LW.v rfl rfl (Val.assign rfl) ?_
      refine LW.nil ?_
      refine PQ.seq ?_
      refine CW.ret ?_
      refine PQ.then_ret ?_
      refine PQ.ret1 rfl rfl ?_
      intro w' hw
      have hd : diffF (a, u) (c, v) = [] := by unfold diffF; rw [if_neg]; simp only; intro h8; simp_all
      rw [hd]
      exact ⟨none, ⟨rfl, rfl⟩, rfl, (hw.pick (ss := []) .nil).perm (.refl _)⟩
    · replace h17 := bF h17
      have hm2 : mayB c = true := by simpa using h17
      refine CW.skip ?_
      refine PQ.seq ?_
      refine CW.seq ?_
      refine CW.region ?_
      refine LW.v rfl rfl (Val.assign rfl) ?_
      refine LW.nil ?_
      refine PQ.seq ?_
      refine CW.seq ?_
      refine CW.region ?_
      refine LW.v rfl rfl (Val.assign rfl) ?_
      refine LW.v rfl rfl (Val.assign rfl) ?_
      refine LW.nil ?_
      refine PQ.seq ?_
      refine CW.seq ?_
      refine CW.join (fun o : V.OwnO => ownOk 5 (dgo a c).length ((dgo a c).flatMap clC) o ∧ (dgo a c).length ≤ 80) (fun o => [(2, .pointer (some ⟨b2, 0, none⟩)), (3, .pointer (some ⟨b3, 0, none⟩)), (5, ownV (dgo a c).length o)]) (fun o => [[(b2, .cells [.slice pa a.length pac, .slice qa u.length qac].toArray 25 (0, 0))], [(b3, .cells [.slice pb c.length pbc, .slice qb v.length qbc].toArray 25 (0, 0))], ownG 38 ((dgo a c).flatMap clC) o]) ?_ ?_
      · refine CW.block ?_
        refine V.CW.perm (sg' := [[(b2, .cells [.slice pa a.length pac, .slice qa u.length qac].toArray 25 (0, 0))], [(b3, .cells [.slice pb c.length pbc, .slice qb v.length qbc].toArray 25 (0, 0))], ownG 38 (([] : List Cl).flatMap clC) none]) ?_ (by first | exact .refl _ | (simp [V.ownG, V.ownS]; exact List.Perm.swap _ _ _) | (simp [V.ownG, V.ownS]; done))
        refine CW.loop (γ := Nat × Nat × List Cl × V.OwnO) (fun k => [(2, .pointer (some ⟨b2, 0, none⟩)), (3, .pointer (some ⟨b3, 0, none⟩)), (5, ownV k.2.2.1.length k.2.2.2), (6, .int .i64 (k.1 : Nat)), (7, .int .i64 (k.2.1 : Nat))]) (fun k => [[(b2, .cells [.slice pa a.length pac, .slice qa u.length qac].toArray 25 (0, 0))], [(b3, .cells [.slice pb c.length pbc, .slice qb v.length qbc].toArray 25 (0, 0))], ownG 38 (k.2.2.1.flatMap clC) k.2.2.2]) (fun k => k.1 ≤ a.length ∧ k.2.1 ≤ c.length ∧ k.2.2.1.length ≤ k.1 + k.2.1 ∧ ownOk 5 k.2.2.1.length (k.2.2.1.flatMap clC) k.2.2.2 ∧ dgo a c = k.2.2.1 ++ dgo (a.drop k.1) (c.drop k.2.1)) (fun k => a.length + c.length - k.1 - k.2.1) ((0, 0, [], none)) ⟨Nat.zero_le _, Nat.zero_le _, Nat.zero_le _, ⟨rfl, rfl⟩, by simp⟩ (by repeat (first | exact trivial | refine ⟨rfl, ?_⟩)) (by repeat (first | exact .nil | apply Pick.cons | exact .here | apply Ext.there)) ?_
        intro k
        rintro ⟨hk1, hk2, hk3, hk4, hk5⟩
        refine CW.seq ?_
        refine CW.seq ?_
        refine CW.region ?_
        refine LW.v rfl rfl (Val.move rfl) ?_
        refine LW.v rfl rfl (Val.fieldAddr 0 rfl Try.underlying25 rfl rfl Try.sizeOf22) ?_
        refine LW.v rfl rfl (Val.load rfl Try.isAgg22 (by repeat (first | exact .here | exact .inner .here | exact .inner (.inner .here) | refine .there ?_)) (by rfl)) ?_
        refine LW.v rfl rfl (Val.lenSl rfl Try.underlying22) ?_
        refine LW.v rfl rfl (Val.cmp rfl rfl rfl) ?_
        refine LW.v rfl rfl (Val.move rfl) ?_
        refine LW.split (d := 23) rfl (fun h23 => ?_) (fun h23 => ?_)
        · replace h23 := bT h23
          obtain ⟨bx, ox, x, rfl, hxb, hxx, hxr⟩ := V.slAt_at ha2 rfl (k := k.1) (by omega)
          refine LW.p rfl rfl ?_
          refine LW.p rfl rfl ?_
          refine LW.p rfl rfl ?_
          refine LW.p rfl rfl ?_
          refine LW.p rfl rfl ?_
          refine LW.v rfl rfl (Val.pick_t rfl rfl) ?_
          refine LW.nil ?_
          refine PQ.seq ?_
          refine CW.cond_t rfl ?_
          refine CW.skip ?_
          refine PQ.seq ?_
          refine CW.block ?_
          refine CW.block ?_
          refine CW.seq ?_
          refine CW.quiet mixed (by kernel_rfl) ?_
          refine QW.v rfl rfl (Val.move rfl) ?_
          refine QW.v rfl rfl (Val.fieldAddr 0 rfl Try.underlying25 rfl rfl Try.sizeOf22) ?_
          refine QW.v rfl rfl (Val.load rfl Try.isAgg22 (by repeat (first | exact .here | exact .inner .here | exact .inner (.inner .here) | refine .there ?_)) (by rfl)) ?_
          refine QW.v rfl rfl (Val.lenSl rfl Try.underlying22) ?_
          refine QW.v rfl rfl (Val.cmp rfl rfl rfl) ?_
          refine QW.v rfl rfl (Val.move rfl) ?_
          refine QW.split (d := 69) rfl (fun h69 => ?_) (fun h69 => ?_)
          · replace h69 := bT h69
            refine QW.p rfl rfl ?_
            refine QW.p rfl rfl ?_
            refine QW.p rfl rfl ?_
            refine QW.p rfl rfl ?_
            refine QW.p rfl rfl ?_
            refine QW.p rfl rfl ?_
            refine QW.p rfl rfl ?_
            refine QW.p rfl rfl ?_
            refine QW.p rfl rfl ?_
            refine QW.p rfl rfl ?_
            refine QW.p rfl rfl ?_
            refine QW.p rfl rfl ?_
            refine QW.p rfl rfl ?_
            refine QW.p rfl rfl ?_
            refine QW.p rfl rfl ?_
            refine QW.p rfl rfl ?_
            refine QW.p rfl rfl ?_
            refine QW.p rfl rfl ?_
            refine QW.p rfl rfl ?_
            refine QW.p rfl rfl ?_
            refine QW.v rfl rfl (Val.pick_t rfl rfl) ?_
            refine QW.v rfl rfl (Val.assign rfl) ?_
            refine QW.nil ?_
            refine PQ.seq ?_
            refine CW.cond_t rfl ?_
            refine CW.seq ?_
            refine CW.region ?_
            refine LW.v rfl rfl (Val.move rfl) ?_
            refine LW.v rfl rfl (Val.fieldAddr 0 rfl Try.underlying25 rfl rfl Try.sizeOf22) ?_
            refine LW.v rfl rfl (Val.load rfl Try.isAgg22 (by repeat (first | exact .here | exact .inner .here | exact .inner (.inner .here) | refine .there ?_)) (by rfl)) ?_
            refine LW.v rfl rfl (Val.move rfl) ?_
            first | (refine LW.v rfl rfl (Val.indexAddrN rfl rfl Try.underlying22 Try.sizeOf45 (by omega)) ?_) | (refine LW.v rfl rfl (Val.indexAddr rfl rfl Try.underlying22 Try.sizeOf45 (by omega) (by omega)) ?_)
            refine LW.v rfl rfl (Val.fieldAddr 0 rfl Try.underlying45 rfl rfl Try.sizeOf9) ?_
            refine LW.v rfl rfl (Val.loadO rfl Try.isAgg9 hxb (by simp [ids]) (hxr k.1 x hxx 0 _ rfl)) ?_
            refine LW.v rfl rfl (Val.build [_, _, _, _, _] Try.zeroValue38 Try.underlying38 places38 rfl (by rfl)) ?_
            refine LW.e rfl rfl (Eff.buildSlice (rfl) [_, _, _, _, _] Try.underlying28 Try.sizeOf38 (by exact Try.zeroValue38) rfl rfl rfl rfl (by rfl)) ?_
            intro b99 _
            refine LW.e rfl rfl (Eff.appendAny (clC (delC x)) (sz := 5) (bytes := 80) (z := .agg #[.int .i64 0, .string ⟨#[]⟩, .string ⟨#[]⟩, .string ⟨#[]⟩, .slice none 0 0]) (xs := k.2.2.1.flatMap clC) (m0 := k.2.2.1.length) (o := k.2.2.2) (m := 1) (pk := [ownG 38 (k.2.2.1.flatMap clC) k.2.2.2]) rfl rfl Try.underlying28 (by kernel_rfl) rfl (by omega) (by repeat (first | exact .nil | apply Pick.cons | exact .here | apply Ext.there)) (by simp) hk4 (by rfl) (fun hm0 => ⟨b99, 0, rfl, fun w hw => V.range_of_block (o := 0) (cs := clC (delC x)) (r := []) (hw.own _ (show InS (b99, .cells (clC (delC x)).toArray 38 (0, 0)) _ from (by repeat (first | exact .here | exact .inner .here | exact .inner (.inner .here) | refine .there ?_))).mem) rfl⟩) (by rfl) (by omega) (by omega)) ?_
            intro o9 ho9
            refine LW.v rfl rfl (Val.assign rfl) ?_
            refine LW.nil ?_
            refine PQ.seq ?_
            refine CW.region ?_
            refine LW.v rfl rfl (Val.move rfl) ?_
            refine LW.v rfl rfl (Val.ar rfl rfl rfl (IntWalk.i64_in _ (by omega))) ?_
            refine LW.v rfl rfl (Val.assign rfl) ?_
            refine LW.nil ?_
            refine PQ.in_normal ?_
            refine PQ.in_normal ?_
            refine PQ.segs (ss := [[(b2, .cells _ 25 (0, 0))], [(b3, .cells _ 25 (0, 0))], ownG 38 (k.2.2.1.flatMap clC ++ clC (delC x)) o9]) ?_ (by repeat (first | exact .nil | apply Pick.cons | exact .here | apply Ext.there))
            rw [show k.2.2.1.flatMap clC ++ clC (delC x) = (k.2.2.1 ++ [delC x]).flatMap clC from by simp]
            refine PQ.round ((k.1 + 1, k.2.1, k.2.2.1 ++ [delC x], o9)) ⟨by simp only; omega, by simp only; omega, by simp only [List.length_append, List.length_cons, List.length_nil]; omega, by simp only [List.length_append, List.length_cons, List.length_nil, List.flatMap_append, List.flatMap_cons, List.flatMap_nil, List.append_nil]; exact ho9, by rw [hk5, dgo_del0 hxx (by omega)]; simp⟩ (by simp only; omega) (by exact ⟨rfl, rfl, by simp only [List.length_append]; rfl, rfl, rfl, trivial⟩) (by repeat (first | exact .nil | apply Pick.cons | exact .here | apply Ext.there))
          · replace h69 := bF h69
            obtain ⟨by_, oy, y, rfl, hyb, hyx, hyr⟩ := V.slAt_at hb2 rfl (k := k.2.1) (by omega)
            refine QW.v rfl rfl (Val.move rfl) ?_
            refine QW.v rfl rfl (Val.fieldAddr 0 rfl Try.underlying25 rfl rfl Try.sizeOf22) ?_
            refine QW.v rfl rfl (Val.load rfl Try.isAgg22 (by repeat (first | exact .here | exact .inner .here | exact .inner (.inner .here) | refine .there ?_)) (by rfl)) ?_
            refine QW.v rfl rfl (Val.lenSl rfl Try.underlying22) ?_
            refine QW.v rfl rfl (Val.cmp rfl rfl rfl) ?_
            refine QW.v rfl rfl (Val.move rfl) ?_
            refine QW.split (d := 75) rfl (fun h75 => ?_) (fun h75 => ?_)
            · replace h75 := bT h75
              refine QW.v rfl rfl (Val.fieldAddr 0 rfl Try.underlying25 rfl rfl Try.sizeOf22) ?_
              refine QW.v rfl rfl (Val.load rfl Try.isAgg22 (by repeat (first | exact .here | exact .inner .here | exact .inner (.inner .here) | refine .there ?_)) (by rfl)) ?_
              refine QW.v rfl rfl (Val.move rfl) ?_
              first | (refine QW.v rfl rfl (Val.indexAddrN rfl rfl Try.underlying22 Try.sizeOf45 (by omega)) ?_) | (refine QW.v rfl rfl (Val.indexAddr rfl rfl Try.underlying22 Try.sizeOf45 (by omega) (by omega)) ?_)
              refine QW.v rfl rfl (Val.fieldAddr 0 rfl Try.underlying45 rfl rfl Try.sizeOf9) ?_
              refine QW.v rfl rfl (Val.loadO rfl Try.isAgg9 hxb (by simp [ids]) (hxr k.1 x hxx 0 _ rfl)) ?_
              refine QW.v rfl rfl (Val.fieldAddr 0 rfl Try.underlying25 rfl rfl Try.sizeOf22) ?_
              refine QW.v rfl rfl (Val.load rfl Try.isAgg22 (by repeat (first | exact .here | exact .inner .here | exact .inner (.inner .here) | refine .there ?_)) (by rfl)) ?_
              refine QW.v rfl rfl (Val.move rfl) ?_
              first | (refine QW.v rfl rfl (Val.indexAddrN rfl rfl Try.underlying22 Try.sizeOf45 (by omega)) ?_) | (refine QW.v rfl rfl (Val.indexAddr rfl rfl Try.underlying22 Try.sizeOf45 (by omega) (by omega)) ?_)
              refine QW.v rfl rfl (Val.fieldAddr 0 rfl Try.underlying45 rfl rfl Try.sizeOf9) ?_
              refine QW.v rfl rfl (Val.loadO rfl Try.isAgg9 hyb (by simp [ids]) (hyr k.2.1 y hyx 0 _ rfl)) ?_
              refine QW.v rfl rfl (Val.ltStr rfl rfl) ?_
              refine QW.v rfl rfl (Val.pick_t rfl rfl) ?_
              refine QW.v rfl rfl (Val.pick_f rfl rfl) ?_
              refine QW.v rfl rfl (Val.assign rfl) ?_
              refine QW.nil ?_
              refine PQ.seq ?_
              refine CW.cond rfl (fun h63 => ?_) (fun h63 => ?_)
              · replace h63 := bT h63
                have h63 : x.key < y.key := h63
                refine CW.seq ?_
                refine CW.region ?_
                refine LW.v rfl rfl (Val.move rfl) ?_
                refine LW.v rfl rfl (Val.fieldAddr 0 rfl Try.underlying25 rfl rfl Try.sizeOf22) ?_
                refine LW.v rfl rfl (Val.load rfl Try.isAgg22 (by repeat (first | exact .here | exact .inner .here | exact .inner (.inner .here) | refine .there ?_)) (by rfl)) ?_
                refine LW.v rfl rfl (Val.move rfl) ?_
                first | (refine LW.v rfl rfl (Val.indexAddrN rfl rfl Try.underlying22 Try.sizeOf45 (by omega)) ?_) | (refine LW.v rfl rfl (Val.indexAddr rfl rfl Try.underlying22 Try.sizeOf45 (by omega) (by omega)) ?_)
                refine LW.v rfl rfl (Val.fieldAddr 0 rfl Try.underlying45 rfl rfl Try.sizeOf9) ?_
                refine LW.v rfl rfl (Val.loadO rfl Try.isAgg9 hxb (by simp [ids]) (hxr k.1 x hxx 0 _ rfl)) ?_
                refine LW.v rfl rfl (Val.build [_, _, _, _, _] Try.zeroValue38 Try.underlying38 places38 rfl (by rfl)) ?_
                refine LW.e rfl rfl (Eff.buildSlice (rfl) [_, _, _, _, _] Try.underlying28 Try.sizeOf38 (by exact Try.zeroValue38) rfl rfl rfl rfl (by rfl)) ?_
                intro b99 _
                refine LW.e rfl rfl (Eff.appendAny (clC (delC x)) (sz := 5) (bytes := 80) (z := .agg #[.int .i64 0, .string ⟨#[]⟩, .string ⟨#[]⟩, .string ⟨#[]⟩, .slice none 0 0]) (xs := k.2.2.1.flatMap clC) (m0 := k.2.2.1.length) (o := k.2.2.2) (m := 1) (pk := [ownG 38 (k.2.2.1.flatMap clC) k.2.2.2]) rfl rfl Try.underlying28 (by kernel_rfl) rfl (by omega) (by repeat (first | exact .nil | apply Pick.cons | exact .here | apply Ext.there)) (by simp) hk4 (by rfl) (fun hm0 => ⟨b99, 0, rfl, fun w hw => V.range_of_block (o := 0) (cs := clC (delC x)) (r := []) (hw.own _ (show InS (b99, .cells (clC (delC x)).toArray 38 (0, 0)) _ from (by repeat (first | exact .here | exact .inner .here | exact .inner (.inner .here) | refine .there ?_))).mem) rfl⟩) (by rfl) (by omega) (by omega)) ?_
                intro o9 ho9
                refine LW.v rfl rfl (Val.assign rfl) ?_
                refine LW.nil ?_
                refine PQ.seq ?_
                refine CW.region ?_
                refine LW.v rfl rfl (Val.move rfl) ?_
                refine LW.v rfl rfl (Val.ar rfl rfl rfl (IntWalk.i64_in _ (by omega))) ?_
                refine LW.v rfl rfl (Val.assign rfl) ?_
                refine LW.nil ?_
                refine PQ.in_normal ?_
                refine PQ.in_normal ?_
                refine PQ.segs (ss := [[(b2, .cells _ 25 (0, 0))], [(b3, .cells _ 25 (0, 0))], ownG 38 (k.2.2.1.flatMap clC ++ clC (delC x)) o9]) ?_ (by repeat (first | exact .nil | apply Pick.cons | exact .here | apply Ext.there))
                rw [show k.2.2.1.flatMap clC ++ clC (delC x) = (k.2.2.1 ++ [delC x]).flatMap clC from by simp]
                refine PQ.round ((k.1 + 1, k.2.1, k.2.2.1 ++ [delC x], o9)) ⟨by simp only; omega, by simp only; omega, by simp only [List.length_append, List.length_cons, List.length_nil]; omega, by simp only [List.length_append, List.length_cons, List.length_nil, List.flatMap_append, List.flatMap_cons, List.flatMap_nil, List.append_nil]; exact ho9, by rw [hk5, dgo_del hxx hyx h63]; simp⟩ (by simp only; omega) (by exact ⟨rfl, rfl, by simp only [List.length_append]; rfl, rfl, rfl, trivial⟩) (by repeat (first | exact .nil | apply Pick.cons | exact .here | apply Ext.there))
              · replace h63 := bF h63
                have h63 : ¬ x.key < y.key := by simpa using h63
                refine CW.seq ?_
                refine CW.quiet mixed (by kernel_rfl) ?_
                refine QW.v rfl rfl (Val.move rfl) ?_
                refine QW.v rfl rfl (Val.fieldAddr 0 rfl Try.underlying25 rfl rfl Try.sizeOf22) ?_
                refine QW.v rfl rfl (Val.load rfl Try.isAgg22 (by repeat (first | exact .here | exact .inner .here | exact .inner (.inner .here) | refine .there ?_)) (by rfl)) ?_
                refine QW.v rfl rfl (Val.lenSl rfl Try.underlying22) ?_
                refine QW.v rfl rfl (Val.cmp rfl rfl rfl) ?_
                refine QW.v rfl rfl (Val.move rfl) ?_
                refine QW.split (d := 109) rfl (fun h109 => ?_) (fun h109 => ?_)
                · exact absurd (bT h109) (by first | (simp; done) | omega)
                · replace h109 := bF h109
                  refine QW.v rfl rfl (Val.fieldAddr 0 rfl Try.underlying25 rfl rfl Try.sizeOf22) ?_
                  refine QW.v rfl rfl (Val.load rfl Try.isAgg22 (by repeat (first | exact .here | exact .inner .here | exact .inner (.inner .here) | refine .there ?_)) (by rfl)) ?_
                  refine QW.v rfl rfl (Val.move rfl) ?_
                  first | (refine QW.v rfl rfl (Val.indexAddrN rfl rfl Try.underlying22 Try.sizeOf45 (by omega)) ?_) | (refine QW.v rfl rfl (Val.indexAddr rfl rfl Try.underlying22 Try.sizeOf45 (by omega) (by omega)) ?_)
                  refine QW.v rfl rfl (Val.fieldAddr 0 rfl Try.underlying45 rfl rfl Try.sizeOf9) ?_
                  refine QW.v rfl rfl (Val.loadO rfl Try.isAgg9 hyb (by simp [ids]) (hyr k.2.1 y hyx 0 _ rfl)) ?_
                  refine QW.v rfl rfl (Val.fieldAddr 0 rfl Try.underlying25 rfl rfl Try.sizeOf22) ?_
                  refine QW.v rfl rfl (Val.load rfl Try.isAgg22 (by repeat (first | exact .here | exact .inner .here | exact .inner (.inner .here) | refine .there ?_)) (by rfl)) ?_
                  refine QW.v rfl rfl (Val.move rfl) ?_
                  first | (refine QW.v rfl rfl (Val.indexAddrN rfl rfl Try.underlying22 Try.sizeOf45 (by omega)) ?_) | (refine QW.v rfl rfl (Val.indexAddr rfl rfl Try.underlying22 Try.sizeOf45 (by omega) (by omega)) ?_)
                  refine QW.v rfl rfl (Val.fieldAddr 0 rfl Try.underlying45 rfl rfl Try.sizeOf9) ?_
                  refine QW.v rfl rfl (Val.loadO rfl Try.isAgg9 hxb (by simp [ids]) (hxr k.1 x hxx 0 _ rfl)) ?_
                  refine QW.v rfl rfl (Val.ltStr rfl rfl) ?_
                  refine QW.v rfl rfl (Val.pick_f rfl rfl) ?_
                  refine QW.v rfl rfl (Val.assign rfl) ?_
                  refine QW.nil ?_
                  refine PQ.seq ?_
                  refine CW.cond rfl (fun h103 => ?_) (fun h103 => ?_)
                  · replace h103 := bT h103
                    have h103 : y.key < x.key := h103
                    refine CW.seq ?_
                    refine CW.drawn ([[(b2, .cells _ 25 (0, 0))], [(b3, .cells _ 25 (0, 0))]]) mixed (by repeat (first | exact .nil | apply Pick.cons | exact .here | apply Ext.there)) ?_
                    refine RW.v 0 rfl (by kernel_rfl) (by kernel_rfl) (by kernel_rfl) (fun _ _ _ h => h) rfl rfl (Val.move rfl) ?_
                    refine RW.v 1 rfl (by kernel_rfl) (by kernel_rfl) (by kernel_rfl) (fun _ _ _ h => h) rfl rfl (Val.fieldAddr 0 rfl Try.underlying25 rfl rfl Try.sizeOf22) ?_
                    refine RW.v 2 rfl (by kernel_rfl) (by kernel_rfl) (by kernel_rfl) (fun _ _ _ h => h) rfl rfl (Val.load rfl Try.isAgg22 (by repeat (first | exact .here | exact .inner .here | exact .inner (.inner .here) | refine .there ?_)) (by rfl)) ?_
                    refine RW.v 3 rfl (by kernel_rfl) (by kernel_rfl) (by kernel_rfl) (fun _ _ _ h => h) rfl rfl (Val.move rfl) ?_
                    first | (refine RW.v 4 rfl (by kernel_rfl) (by kernel_rfl) (by kernel_rfl) (fun _ _ _ h => h) rfl rfl (Val.indexAddrN rfl rfl Try.underlying22 Try.sizeOf45 (by omega)) ?_) | (refine RW.v 4 rfl (by kernel_rfl) (by kernel_rfl) (by kernel_rfl) (fun _ _ _ h => h) rfl rfl (Val.indexAddr rfl rfl Try.underlying22 Try.sizeOf45 (by omega) (by omega)) ?_)
                    refine RW.v 5 rfl (by kernel_rfl) (by kernel_rfl) (by kernel_rfl) (fun _ _ _ h => h) rfl rfl (Val.fieldAddr 0 rfl Try.underlying45 rfl rfl Try.sizeOf9) ?_
                    refine RW.v 6 rfl (by kernel_rfl) (by kernel_rfl) (by kernel_rfl) (fun _ _ _ h => h) rfl rfl (Val.loadO rfl Try.isAgg9 hyb (by simp [ids]) (hyr k.2.1 y hyx 0 _ rfl)) ?_
                    refine RW.v 7 rfl (by kernel_rfl) (by kernel_rfl) (by kernel_rfl) (fun _ _ _ h => h) rfl rfl (Val.fieldAddr 0 rfl Try.underlying25 rfl rfl Try.sizeOf22) ?_
                    refine RW.v 8 rfl (by kernel_rfl) (by kernel_rfl) (by kernel_rfl) (fun _ _ _ h => h) rfl rfl (Val.load rfl Try.isAgg22 (by repeat (first | exact .here | exact .inner .here | exact .inner (.inner .here) | refine .there ?_)) (by rfl)) ?_
                    refine RW.v 9 rfl (by kernel_rfl) (by kernel_rfl) (by kernel_rfl) (fun _ _ _ h => h) rfl rfl (Val.move rfl) ?_
                    first | (refine RW.v 10 rfl (by kernel_rfl) (by kernel_rfl) (by kernel_rfl) (fun _ _ _ h => h) rfl rfl (Val.indexAddrN rfl rfl Try.underlying22 Try.sizeOf45 (by omega)) ?_) | (refine RW.v 10 rfl (by kernel_rfl) (by kernel_rfl) (by kernel_rfl) (fun _ _ _ h => h) rfl rfl (Val.indexAddr rfl rfl Try.underlying22 Try.sizeOf45 (by omega) (by omega)) ?_)
                    refine RW.v 11 rfl (by kernel_rfl) (by kernel_rfl) (by kernel_rfl) (fun _ _ _ h => h) rfl rfl (Val.fieldAddr 1 rfl Try.underlying45 rfl rfl Try.sizeOf9) ?_
                    refine RW.v 12 rfl (by kernel_rfl) (by kernel_rfl) (by kernel_rfl) (fun _ _ _ h => h) rfl rfl (Val.loadO rfl Try.isAgg9 hyb (by simp [ids]) (hyr k.2.1 y hyx 1 _ rfl)) ?_
                    refine RW.v 13 rfl (by kernel_rfl) (by kernel_rfl) (by kernel_rfl) (fun _ _ _ h => h) rfl rfl (Val.build [_, _, _, _, _] Try.zeroValue38 Try.underlying38 places38 rfl (by rfl)) ?_
                    refine RW.e 14 rfl (by kernel_rfl) rfl rfl (Eff.buildSlice (rfl) [_, _, _, _, _] Try.underlying28 Try.sizeOf38 (by exact Try.zeroValue38) rfl rfl rfl rfl (by rfl)) (fun x => ⟨_, (by repeat (first | exact .nil | apply Pick.cons | exact .here | apply Ext.there))⟩) ?_
                    intro b138 _
                    refine RW.e 15 rfl (by kernel_rfl) rfl rfl (Eff.appendAny (clC (putC y)) (sz := 5) (bytes := 80) (z := .agg #[.int .i64 0, .string ⟨#[]⟩, .string ⟨#[]⟩, .string ⟨#[]⟩, .slice none 0 0]) (xs := k.2.2.1.flatMap clC) (m0 := k.2.2.1.length) (o := k.2.2.2) (m := 1) (pk := [ownG 38 (k.2.2.1.flatMap clC) k.2.2.2]) rfl rfl Try.underlying28 (by kernel_rfl) rfl (by omega) (by repeat (first | exact .nil | apply Pick.cons | exact .here | apply Ext.there)) (by simp) hk4 (by rfl) (fun hm0 => ⟨b138, 0, rfl, fun w hw => V.range_of_block (o := 0) (cs := clC (putC y)) (r := []) (hw.own _ (show InS (b138, .cells (clC (putC y)).toArray 38 (0, 0)) _ from (by repeat (first | exact .here | exact .inner .here | exact .inner (.inner .here) | refine .there ?_))).mem) rfl⟩) (by rfl) (by omega) (by omega)) (fun x => ⟨_, (by repeat (first | exact .nil | apply Pick.cons | exact .here | apply Ext.there))⟩) ?_
                    intro o9 ho9
                    refine RW.v 16 rfl (by kernel_rfl) (by kernel_rfl) (by kernel_rfl) (fun _ _ _ h => h) rfl rfl (Val.assign rfl) ?_
                    refine RW.done (by kernel_rfl) ?_
                    refine PQ.seq ?_
                    refine CW.region ?_
                    refine LW.v rfl rfl (Val.move rfl) ?_
                    refine LW.v rfl rfl (Val.ar rfl rfl rfl (IntWalk.i64_in _ (by omega))) ?_
                    refine LW.v rfl rfl (Val.assign rfl) ?_
                    refine LW.nil ?_
                    refine PQ.in_normal ?_
                    refine PQ.in_normal ?_
                    refine PQ.segs (ss := [[(b2, .cells _ 25 (0, 0))], [(b3, .cells _ 25 (0, 0))], ownG 38 (k.2.2.1.flatMap clC ++ clC (putC y)) o9]) ?_ (by repeat (first | exact .nil | apply Pick.cons | exact .here | apply Ext.there))
                    rw [show k.2.2.1.flatMap clC ++ clC (putC y) = (k.2.2.1 ++ [putC y]).flatMap clC from by simp]
                    refine PQ.round ((k.1, k.2.1 + 1, k.2.2.1 ++ [putC y], o9)) ⟨by simp only; omega, by simp only; omega, by simp only [List.length_append, List.length_cons, List.length_nil]; omega, by simp only [List.length_append, List.length_cons, List.length_nil, List.flatMap_append, List.flatMap_cons, List.flatMap_nil, List.append_nil]; exact ho9, by rw [hk5, dgo_put hxx hyx h63 (fun e => by subst e; exact List.lt_irrefl _ h103) (fun e => by rw [e] at h103; exact List.lt_irrefl _ h103)]; simp⟩ (by simp only; omega) (by exact ⟨rfl, rfl, by simp only [List.length_append]; rfl, rfl, rfl, trivial⟩) (by repeat (first | exact .nil | apply Pick.cons | exact .here | apply Ext.there))
                  · replace h103 := bF h103
                    have h103 : ¬ y.key < x.key := by simpa using h103
                    refine CW.seq ?_
                    refine CW.seq ?_
                    refine CW.quiet mixed (by kernel_rfl) ?_
                    refine QW.v rfl rfl (Val.fieldAddr 0 rfl Try.underlying25 rfl rfl Try.sizeOf22) ?_
                    refine QW.v rfl rfl (Val.load rfl Try.isAgg22 (by repeat (first | exact .here | exact .inner .here | exact .inner (.inner .here) | refine .there ?_)) (by rfl)) ?_
                    refine QW.v rfl rfl (Val.move rfl) ?_
                    first | (refine QW.v rfl rfl (Val.indexAddrN rfl rfl Try.underlying22 Try.sizeOf45 (by omega)) ?_) | (refine QW.v rfl rfl (Val.indexAddr rfl rfl Try.underlying22 Try.sizeOf45 (by omega) (by omega)) ?_)
                    refine QW.v rfl rfl (Val.fieldAddr 1 rfl Try.underlying45 rfl rfl Try.sizeOf9) ?_
                    refine QW.v rfl rfl (Val.loadO rfl Try.isAgg9 hxb (by simp [ids]) (hxr k.1 x hxx 1 _ rfl)) ?_
                    refine QW.v rfl rfl (Val.fieldAddr 0 rfl Try.underlying25 rfl rfl Try.sizeOf22) ?_
                    refine QW.v rfl rfl (Val.load rfl Try.isAgg22 (by repeat (first | exact .here | exact .inner .here | exact .inner (.inner .here) | refine .there ?_)) (by rfl)) ?_
                    refine QW.v rfl rfl (Val.move rfl) ?_
                    first | (refine QW.v rfl rfl (Val.indexAddrN rfl rfl Try.underlying22 Try.sizeOf45 (by omega)) ?_) | (refine QW.v rfl rfl (Val.indexAddr rfl rfl Try.underlying22 Try.sizeOf45 (by omega) (by omega)) ?_)
                    refine QW.v rfl rfl (Val.fieldAddr 1 rfl Try.underlying45 rfl rfl Try.sizeOf9) ?_
                    refine QW.v rfl rfl (Val.loadO rfl Try.isAgg9 hyb (by simp [ids]) (hyr k.2.1 y hyx 1 _ rfl)) ?_
                    refine QW.v rfl rfl (Val.neStr rfl rfl) ?_
                    refine QW.nil ?_
                    refine PQ.seq ?_
                    refine CW.cond rfl (fun h42 => ?_) (fun h42 => ?_)
                    · replace h42 := bT h42
                      have h42 : x.val ≠ y.val := h42
                      refine CW.drawn ([[(b2, .cells _ 25 (0, 0))], [(b3, .cells _ 25 (0, 0))]]) mixed (by repeat (first | exact .nil | apply Pick.cons | exact .here | apply Ext.there)) ?_
                      refine RW.v 0 rfl (by kernel_rfl) (by kernel_rfl) (by kernel_rfl) (fun _ _ _ h => h) rfl rfl (Val.move rfl) ?_
                      refine RW.v 1 rfl (by kernel_rfl) (by kernel_rfl) (by kernel_rfl) (fun _ _ _ h => h) rfl rfl (Val.fieldAddr 0 rfl Try.underlying25 rfl rfl Try.sizeOf22) ?_
                      refine RW.v 2 rfl (by kernel_rfl) (by kernel_rfl) (by kernel_rfl) (fun _ _ _ h => h) rfl rfl (Val.load rfl Try.isAgg22 (by repeat (first | exact .here | exact .inner .here | exact .inner (.inner .here) | refine .there ?_)) (by rfl)) ?_
                      refine RW.v 3 rfl (by kernel_rfl) (by kernel_rfl) (by kernel_rfl) (fun _ _ _ h => h) rfl rfl (Val.move rfl) ?_
                      first | (refine RW.v 4 rfl (by kernel_rfl) (by kernel_rfl) (by kernel_rfl) (fun _ _ _ h => h) rfl rfl (Val.indexAddrN rfl rfl Try.underlying22 Try.sizeOf45 (by omega)) ?_) | (refine RW.v 4 rfl (by kernel_rfl) (by kernel_rfl) (by kernel_rfl) (fun _ _ _ h => h) rfl rfl (Val.indexAddr rfl rfl Try.underlying22 Try.sizeOf45 (by omega) (by omega)) ?_)
                      refine RW.v 5 rfl (by kernel_rfl) (by kernel_rfl) (by kernel_rfl) (fun _ _ _ h => h) rfl rfl (Val.fieldAddr 0 rfl Try.underlying45 rfl rfl Try.sizeOf9) ?_
                      refine RW.v 6 rfl (by kernel_rfl) (by kernel_rfl) (by kernel_rfl) (fun _ _ _ h => h) rfl rfl (Val.loadO rfl Try.isAgg9 hyb (by simp [ids]) (hyr k.2.1 y hyx 0 _ rfl)) ?_
                      refine RW.v 7 rfl (by kernel_rfl) (by kernel_rfl) (by kernel_rfl) (fun _ _ _ h => h) rfl rfl (Val.fieldAddr 0 rfl Try.underlying25 rfl rfl Try.sizeOf22) ?_
                      refine RW.v 8 rfl (by kernel_rfl) (by kernel_rfl) (by kernel_rfl) (fun _ _ _ h => h) rfl rfl (Val.load rfl Try.isAgg22 (by repeat (first | exact .here | exact .inner .here | exact .inner (.inner .here) | refine .there ?_)) (by rfl)) ?_
                      refine RW.v 9 rfl (by kernel_rfl) (by kernel_rfl) (by kernel_rfl) (fun _ _ _ h => h) rfl rfl (Val.move rfl) ?_
                      first | (refine RW.v 10 rfl (by kernel_rfl) (by kernel_rfl) (by kernel_rfl) (fun _ _ _ h => h) rfl rfl (Val.indexAddrN rfl rfl Try.underlying22 Try.sizeOf45 (by omega)) ?_) | (refine RW.v 10 rfl (by kernel_rfl) (by kernel_rfl) (by kernel_rfl) (fun _ _ _ h => h) rfl rfl (Val.indexAddr rfl rfl Try.underlying22 Try.sizeOf45 (by omega) (by omega)) ?_)
                      refine RW.v 11 rfl (by kernel_rfl) (by kernel_rfl) (by kernel_rfl) (fun _ _ _ h => h) rfl rfl (Val.fieldAddr 1 rfl Try.underlying45 rfl rfl Try.sizeOf9) ?_
                      refine RW.v 12 rfl (by kernel_rfl) (by kernel_rfl) (by kernel_rfl) (fun _ _ _ h => h) rfl rfl (Val.loadO rfl Try.isAgg9 hyb (by simp [ids]) (hyr k.2.1 y hyx 1 _ rfl)) ?_
                      refine RW.v 13 rfl (by kernel_rfl) (by kernel_rfl) (by kernel_rfl) (fun _ _ _ h => h) rfl rfl (Val.build [_, _, _, _, _] Try.zeroValue38 Try.underlying38 places38 rfl (by rfl)) ?_
                      refine RW.e 14 rfl (by kernel_rfl) rfl rfl (Eff.buildSlice (rfl) [_, _, _, _, _] Try.underlying28 Try.sizeOf38 (by exact Try.zeroValue38) rfl rfl rfl rfl (by rfl)) (fun x => ⟨_, (by repeat (first | exact .nil | apply Pick.cons | exact .here | apply Ext.there))⟩) ?_
                      intro b57 _
                      refine RW.e 15 rfl (by kernel_rfl) rfl rfl (Eff.appendAny (clC (putC y)) (sz := 5) (bytes := 80) (z := .agg #[.int .i64 0, .string ⟨#[]⟩, .string ⟨#[]⟩, .string ⟨#[]⟩, .slice none 0 0]) (xs := k.2.2.1.flatMap clC) (m0 := k.2.2.1.length) (o := k.2.2.2) (m := 1) (pk := [ownG 38 (k.2.2.1.flatMap clC) k.2.2.2]) rfl rfl Try.underlying28 (by kernel_rfl) rfl (by omega) (by repeat (first | exact .nil | apply Pick.cons | exact .here | apply Ext.there)) (by simp) hk4 (by rfl) (fun hm0 => ⟨b57, 0, rfl, fun w hw => V.range_of_block (o := 0) (cs := clC (putC y)) (r := []) (hw.own _ (show InS (b57, .cells (clC (putC y)).toArray 38 (0, 0)) _ from (by repeat (first | exact .here | exact .inner .here | exact .inner (.inner .here) | refine .there ?_))).mem) rfl⟩) (by rfl) (by omega) (by omega)) (fun x => ⟨_, (by repeat (first | exact .nil | apply Pick.cons | exact .here | apply Ext.there))⟩) ?_
                      intro o9 ho9
                      refine RW.v 16 rfl (by kernel_rfl) (by kernel_rfl) (by kernel_rfl) (fun _ _ _ h => h) rfl rfl (Val.assign rfl) ?_
                      refine RW.done (by kernel_rfl) ?_
                      refine PQ.seq ?_
                      refine CW.seq ?_
                      refine CW.region ?_
                      refine LW.v rfl rfl (Val.move rfl) ?_
                      refine LW.v rfl rfl (Val.ar rfl rfl rfl (IntWalk.i64_in _ (by omega))) ?_
                      refine LW.v rfl rfl (Val.assign rfl) ?_
                      refine LW.nil ?_
                      refine PQ.seq ?_
                      refine CW.region ?_
                      refine LW.v rfl rfl (Val.move rfl) ?_
                      refine LW.v rfl rfl (Val.ar rfl rfl rfl (IntWalk.i64_in _ (by omega))) ?_
                      refine LW.v rfl rfl (Val.assign rfl) ?_
                      refine LW.nil ?_
                      refine PQ.in_normal ?_
                      refine PQ.in_normal ?_
                      refine PQ.segs (ss := [[(b2, .cells _ 25 (0, 0))], [(b3, .cells _ 25 (0, 0))], ownG 38 (k.2.2.1.flatMap clC ++ clC (putC y)) o9]) ?_ (by repeat (first | exact .nil | apply Pick.cons | exact .here | apply Ext.there))
                      rw [show k.2.2.1.flatMap clC ++ clC (putC y) = (k.2.2.1 ++ [putC y]).flatMap clC from by simp]
                      refine PQ.round ((k.1 + 1, k.2.1 + 1, k.2.2.1 ++ [putC y], o9)) ⟨by simp only; omega, by simp only; omega, by simp only [List.length_append, List.length_cons, List.length_nil]; omega, by simp only [List.length_append, List.length_cons, List.length_nil, List.flatMap_append, List.flatMap_cons, List.flatMap_nil, List.append_nil]; exact ho9, by rw [hk5, dgo_both hxx hyx h63 (fun e => h42 (by rw [e])) (key_eq h63 h103)]; simp⟩ (by simp only; omega) (by exact ⟨rfl, rfl, by simp only [List.length_append]; rfl, rfl, rfl, trivial⟩) (by repeat (first | exact .nil | apply Pick.cons | exact .here | apply Ext.there))
                    · replace h42 := bF h42
                      have h42 : x.val = y.val := h42
                      refine CW.skip ?_
                      refine PQ.seq ?_
                      refine CW.seq ?_
                      refine CW.region ?_
                      refine LW.v rfl rfl (Val.move rfl) ?_
                      refine LW.v rfl rfl (Val.ar rfl rfl rfl (IntWalk.i64_in _ (by omega))) ?_
                      refine LW.v rfl rfl (Val.assign rfl) ?_
                      refine LW.nil ?_
                      refine PQ.seq ?_
                      refine CW.region ?_
                      refine LW.v rfl rfl (Val.move rfl) ?_
                      refine LW.v rfl rfl (Val.ar rfl rfl rfl (IntWalk.i64_in _ (by omega))) ?_
                      refine LW.v rfl rfl (Val.assign rfl) ?_
                      refine LW.nil ?_
                      refine PQ.in_normal ?_
                      refine PQ.in_normal ?_
                      refine PQ.round ((k.1 + 1, k.2.1 + 1, k.2.2.1, k.2.2.2)) ⟨by simp only; omega, by simp only; omega, by simp only; omega, hk4, by rw [hk5, dgo_same hxx hyx h63 (pr_ext (key_eq h63 h103) h42)]⟩ (by simp only; omega) (by repeat (first | exact trivial | refine ⟨rfl, ?_⟩)) (by repeat (first | exact .nil | apply Pick.cons | exact .here | apply Ext.there))
            · exact absurd (bF h75) (by first | (simp; done) | omega)
        · replace h23 := bF h23
          refine LW.v rfl rfl (Val.move rfl) ?_
          refine LW.v rfl rfl (Val.fieldAddr 0 rfl Try.underlying25 rfl rfl Try.sizeOf22) ?_
          refine LW.v rfl rfl (Val.load rfl Try.isAgg22 (by repeat (first | exact .here | exact .inner .here | exact .inner (.inner .here) | refine .there ?_)) (by rfl)) ?_
          refine LW.v rfl rfl (Val.lenSl rfl Try.underlying22) ?_
          refine LW.v rfl rfl (Val.cmp rfl rfl rfl) ?_
          refine LW.v rfl rfl (Val.pick_f rfl rfl) ?_
          refine LW.nil ?_
          refine PQ.seq ?_
          refine CW.cond rfl (fun h29 => ?_) (fun h29 => ?_)
          · replace h29 := bT h29
            refine CW.skip ?_
            refine PQ.seq ?_
            refine CW.block ?_
            refine CW.block ?_
            refine CW.seq ?_
            refine CW.quiet mixed (by kernel_rfl) ?_
            refine QW.v rfl rfl (Val.move rfl) ?_
            refine QW.v rfl rfl (Val.fieldAddr 0 rfl Try.underlying25 rfl rfl Try.sizeOf22) ?_
            refine QW.v rfl rfl (Val.load rfl Try.isAgg22 (by repeat (first | exact .here | exact .inner .here | exact .inner (.inner .here) | refine .there ?_)) (by rfl)) ?_
            refine QW.v rfl rfl (Val.lenSl rfl Try.underlying22) ?_
            refine QW.v rfl rfl (Val.cmp rfl rfl rfl) ?_
            refine QW.v rfl rfl (Val.move rfl) ?_
            refine QW.split (d := 69) rfl (fun h69 => ?_) (fun h69 => ?_)
            · exact absurd (bT h69) (by first | (simp; done) | omega)
            · replace h69 := bF h69
              obtain ⟨by_, oy, y, rfl, hyb, hyx, hyr⟩ := V.slAt_at hb2 rfl (k := k.2.1) (by omega)
              refine QW.v rfl rfl (Val.move rfl) ?_
              refine QW.v rfl rfl (Val.fieldAddr 0 rfl Try.underlying25 rfl rfl Try.sizeOf22) ?_
              refine QW.v rfl rfl (Val.load rfl Try.isAgg22 (by repeat (first | exact .here | exact .inner .here | exact .inner (.inner .here) | refine .there ?_)) (by rfl)) ?_
              refine QW.v rfl rfl (Val.lenSl rfl Try.underlying22) ?_
              refine QW.v rfl rfl (Val.cmp rfl rfl rfl) ?_
              refine QW.v rfl rfl (Val.move rfl) ?_
              refine QW.split (d := 75) rfl (fun h75 => ?_) (fun h75 => ?_)
              · exact absurd (bT h75) (by first | (simp; done) | omega)
              · replace h75 := bF h75
                refine QW.p rfl rfl ?_
                refine QW.p rfl rfl ?_
                refine QW.p rfl rfl ?_
                refine QW.p rfl rfl ?_
                refine QW.p rfl rfl ?_
                refine QW.p rfl rfl ?_
                refine QW.p rfl rfl ?_
                refine QW.p rfl rfl ?_
                refine QW.p rfl rfl ?_
                refine QW.p rfl rfl ?_
                refine QW.p rfl rfl ?_
                refine QW.p rfl rfl ?_
                refine QW.p rfl rfl ?_
                refine QW.v rfl rfl (Val.pick_f rfl rfl) ?_
                refine QW.v rfl rfl (Val.pick_f rfl rfl) ?_
                refine QW.v rfl rfl (Val.assign rfl) ?_
                refine QW.nil ?_
                refine PQ.seq ?_
                refine CW.cond_f rfl ?_
                refine CW.seq ?_
                refine CW.quiet mixed (by kernel_rfl) ?_
                refine QW.v rfl rfl (Val.move rfl) ?_
                refine QW.v rfl rfl (Val.fieldAddr 0 rfl Try.underlying25 rfl rfl Try.sizeOf22) ?_
                refine QW.v rfl rfl (Val.load rfl Try.isAgg22 (by repeat (first | exact .here | exact .inner .here | exact .inner (.inner .here) | refine .there ?_)) (by rfl)) ?_
                refine QW.v rfl rfl (Val.lenSl rfl Try.underlying22) ?_
                refine QW.v rfl rfl (Val.cmp rfl rfl rfl) ?_
                refine QW.v rfl rfl (Val.move rfl) ?_
                refine QW.split (d := 109) rfl (fun h109 => ?_) (fun h109 => ?_)
                · replace h109 := bT h109
                  refine QW.p rfl rfl ?_
                  refine QW.p rfl rfl ?_
                  refine QW.p rfl rfl ?_
                  refine QW.p rfl rfl ?_
                  refine QW.p rfl rfl ?_
                  refine QW.p rfl rfl ?_
                  refine QW.p rfl rfl ?_
                  refine QW.p rfl rfl ?_
                  refine QW.p rfl rfl ?_
                  refine QW.p rfl rfl ?_
                  refine QW.p rfl rfl ?_
                  refine QW.p rfl rfl ?_
                  refine QW.p rfl rfl ?_
                  refine QW.v rfl rfl (Val.pick_t rfl rfl) ?_
                  refine QW.v rfl rfl (Val.assign rfl) ?_
                  refine QW.nil ?_
                  refine PQ.seq ?_
                  refine CW.cond_t rfl ?_
                  refine CW.seq ?_
                  refine CW.drawn ([[(b2, .cells _ 25 (0, 0))], [(b3, .cells _ 25 (0, 0))]]) mixed (by repeat (first | exact .nil | apply Pick.cons | exact .here | apply Ext.there)) ?_
                  refine RW.v 0 rfl (by kernel_rfl) (by kernel_rfl) (by kernel_rfl) (fun _ _ _ h => h) rfl rfl (Val.move rfl) ?_
                  refine RW.v 1 rfl (by kernel_rfl) (by kernel_rfl) (by kernel_rfl) (fun _ _ _ h => h) rfl rfl (Val.fieldAddr 0 rfl Try.underlying25 rfl rfl Try.sizeOf22) ?_
                  refine RW.v 2 rfl (by kernel_rfl) (by kernel_rfl) (by kernel_rfl) (fun _ _ _ h => h) rfl rfl (Val.load rfl Try.isAgg22 (by repeat (first | exact .here | exact .inner .here | exact .inner (.inner .here) | refine .there ?_)) (by rfl)) ?_
                  refine RW.v 3 rfl (by kernel_rfl) (by kernel_rfl) (by kernel_rfl) (fun _ _ _ h => h) rfl rfl (Val.move rfl) ?_
                  first | (refine RW.v 4 rfl (by kernel_rfl) (by kernel_rfl) (by kernel_rfl) (fun _ _ _ h => h) rfl rfl (Val.indexAddrN rfl rfl Try.underlying22 Try.sizeOf45 (by omega)) ?_) | (refine RW.v 4 rfl (by kernel_rfl) (by kernel_rfl) (by kernel_rfl) (fun _ _ _ h => h) rfl rfl (Val.indexAddr rfl rfl Try.underlying22 Try.sizeOf45 (by omega) (by omega)) ?_)
                  refine RW.v 5 rfl (by kernel_rfl) (by kernel_rfl) (by kernel_rfl) (fun _ _ _ h => h) rfl rfl (Val.fieldAddr 0 rfl Try.underlying45 rfl rfl Try.sizeOf9) ?_
                  refine RW.v 6 rfl (by kernel_rfl) (by kernel_rfl) (by kernel_rfl) (fun _ _ _ h => h) rfl rfl (Val.loadO rfl Try.isAgg9 hyb (by simp [ids]) (hyr k.2.1 y hyx 0 _ rfl)) ?_
                  refine RW.v 7 rfl (by kernel_rfl) (by kernel_rfl) (by kernel_rfl) (fun _ _ _ h => h) rfl rfl (Val.fieldAddr 0 rfl Try.underlying25 rfl rfl Try.sizeOf22) ?_
                  refine RW.v 8 rfl (by kernel_rfl) (by kernel_rfl) (by kernel_rfl) (fun _ _ _ h => h) rfl rfl (Val.load rfl Try.isAgg22 (by repeat (first | exact .here | exact .inner .here | exact .inner (.inner .here) | refine .there ?_)) (by rfl)) ?_
                  refine RW.v 9 rfl (by kernel_rfl) (by kernel_rfl) (by kernel_rfl) (fun _ _ _ h => h) rfl rfl (Val.move rfl) ?_
                  first | (refine RW.v 10 rfl (by kernel_rfl) (by kernel_rfl) (by kernel_rfl) (fun _ _ _ h => h) rfl rfl (Val.indexAddrN rfl rfl Try.underlying22 Try.sizeOf45 (by omega)) ?_) | (refine RW.v 10 rfl (by kernel_rfl) (by kernel_rfl) (by kernel_rfl) (fun _ _ _ h => h) rfl rfl (Val.indexAddr rfl rfl Try.underlying22 Try.sizeOf45 (by omega) (by omega)) ?_)
                  refine RW.v 11 rfl (by kernel_rfl) (by kernel_rfl) (by kernel_rfl) (fun _ _ _ h => h) rfl rfl (Val.fieldAddr 1 rfl Try.underlying45 rfl rfl Try.sizeOf9) ?_
                  refine RW.v 12 rfl (by kernel_rfl) (by kernel_rfl) (by kernel_rfl) (fun _ _ _ h => h) rfl rfl (Val.loadO rfl Try.isAgg9 hyb (by simp [ids]) (hyr k.2.1 y hyx 1 _ rfl)) ?_
                  refine RW.v 13 rfl (by kernel_rfl) (by kernel_rfl) (by kernel_rfl) (fun _ _ _ h => h) rfl rfl (Val.build [_, _, _, _, _] Try.zeroValue38 Try.underlying38 places38 rfl (by rfl)) ?_
                  refine RW.e 14 rfl (by kernel_rfl) rfl rfl (Eff.buildSlice (rfl) [_, _, _, _, _] Try.underlying28 Try.sizeOf38 (by exact Try.zeroValue38) rfl rfl rfl rfl (by rfl)) (fun x => ⟨_, (by repeat (first | exact .nil | apply Pick.cons | exact .here | apply Ext.there))⟩) ?_
                  intro b138 _
                  refine RW.e 15 rfl (by kernel_rfl) rfl rfl (Eff.appendAny (clC (putC y)) (sz := 5) (bytes := 80) (z := .agg #[.int .i64 0, .string ⟨#[]⟩, .string ⟨#[]⟩, .string ⟨#[]⟩, .slice none 0 0]) (xs := k.2.2.1.flatMap clC) (m0 := k.2.2.1.length) (o := k.2.2.2) (m := 1) (pk := [ownG 38 (k.2.2.1.flatMap clC) k.2.2.2]) rfl rfl Try.underlying28 (by kernel_rfl) rfl (by omega) (by repeat (first | exact .nil | apply Pick.cons | exact .here | apply Ext.there)) (by simp) hk4 (by rfl) (fun hm0 => ⟨b138, 0, rfl, fun w hw => V.range_of_block (o := 0) (cs := clC (putC y)) (r := []) (hw.own _ (show InS (b138, .cells (clC (putC y)).toArray 38 (0, 0)) _ from (by repeat (first | exact .here | exact .inner .here | exact .inner (.inner .here) | refine .there ?_))).mem) rfl⟩) (by rfl) (by omega) (by omega)) (fun x => ⟨_, (by repeat (first | exact .nil | apply Pick.cons | exact .here | apply Ext.there))⟩) ?_
                  intro o9 ho9
                  refine RW.v 16 rfl (by kernel_rfl) (by kernel_rfl) (by kernel_rfl) (fun _ _ _ h => h) rfl rfl (Val.assign rfl) ?_
                  refine RW.done (by kernel_rfl) ?_
                  refine PQ.seq ?_
                  refine CW.region ?_
                  refine LW.v rfl rfl (Val.move rfl) ?_
                  refine LW.v rfl rfl (Val.ar rfl rfl rfl (IntWalk.i64_in _ (by omega))) ?_
                  refine LW.v rfl rfl (Val.assign rfl) ?_
                  refine LW.nil ?_
                  refine PQ.in_normal ?_
                  refine PQ.in_normal ?_
                  refine PQ.segs (ss := [[(b2, .cells _ 25 (0, 0))], [(b3, .cells _ 25 (0, 0))], ownG 38 (k.2.2.1.flatMap clC ++ clC (putC y)) o9]) ?_ (by repeat (first | exact .nil | apply Pick.cons | exact .here | apply Ext.there))
                  rw [show k.2.2.1.flatMap clC ++ clC (putC y) = (k.2.2.1 ++ [putC y]).flatMap clC from by simp]
                  refine PQ.round ((k.1, k.2.1 + 1, k.2.2.1 ++ [putC y], o9)) ⟨by simp only; omega, by simp only; omega, by simp only [List.length_append, List.length_cons, List.length_nil]; omega, by simp only [List.length_append, List.length_cons, List.length_nil, List.flatMap_append, List.flatMap_cons, List.flatMap_nil, List.append_nil]; exact ho9, by rw [hk5, dgo_put0 (by omega) hyx]; simp⟩ (by simp only; omega) (by exact ⟨rfl, rfl, by simp only [List.length_append]; rfl, rfl, rfl, trivial⟩) (by repeat (first | exact .nil | apply Pick.cons | exact .here | apply Ext.there))
                · exact absurd (bF h109) (by first | (simp; done) | omega)
          · replace h29 := bF h29
            refine CW.exit ?_
            refine PQ.then_exit ?_
            refine PQ.then_exit ?_
            refine PQ.in_here ?_
            have hde : k.2.2.1 = dgo a c := by rw [hk5, dgo_end (by omega) (by omega), List.append_nil]
            rw [hde] at hk4 hk3
            rw [hde]
            refine PQ.joinedC (k.2.2.2) (⟨hk4, by omega⟩) (by repeat (first | exact trivial | refine ⟨rfl, ?_⟩)) (by repeat (first | exact .nil | apply Pick.cons | exact .here | apply Ext.there))
      · rintro o ⟨ho, hol⟩
        refine PQ.seq ?_
        refine CW.seq ?_
        refine CW.region ?_
        refine LW.v rfl rfl (Val.assign rfl) ?_
        refine LW.nil ?_
        refine PQ.seq ?_
        refine CW.seq ?_
        refine CW.block ?_
        refine CW.re 5 (ownV ((dgo a c) ++ List.replicate 0 dqC).length o) rfl (by simp) ?_
        refine V.CW.perm (sg' := [[(b2, .cells [.slice pa a.length pac, .slice qa u.length qac].toArray 25 (0, 0))], [(b3, .cells [.slice pb c.length pbc, .slice qb v.length qbc].toArray 25 (0, 0))], ownG 38 (((dgo a c) ++ List.replicate 0 dqC).flatMap clC) o]) ?_ (by simp)
        refine CW.loop (γ := Nat × V.OwnO) (fun n => [(2, .pointer (some ⟨b2, 0, none⟩)), (3, .pointer (some ⟨b3, 0, none⟩)), (5, ownV ((dgo a c) ++ List.replicate n.1 dqC).length n.2), (8, .int .i64 (n.1 : Nat))]) (fun n => [[(b2, .cells [.slice pa a.length pac, .slice qa u.length qac].toArray 25 (0, 0))], [(b3, .cells [.slice pb c.length pbc, .slice qb v.length qbc].toArray 25 (0, 0))], ownG 38 (((dgo a c) ++ List.replicate n.1 dqC).flatMap clC) n.2]) (fun n => n.1 ≤ u.length ∧ ownOk 5 ((dgo a c) ++ List.replicate n.1 dqC).length (((dgo a c) ++ List.replicate n.1 dqC).flatMap clC) n.2 ∧ lnN u v = n.1 + lnN (u.drop n.1) v) (fun n => u.length - n.1) ((0, o)) ⟨Nat.zero_le _, by simpa using ho, by simp⟩ (by repeat (first | exact trivial | refine ⟨rfl, ?_⟩)) (by repeat (first | exact .nil | apply Pick.cons | exact .here | apply Ext.there)) ?_
        intro n
        rintro ⟨hn1, hn2, hn3⟩
        have hnl : ((dgo a c) ++ List.replicate n.1 dqC).length ≤ 160 := by simp only [List.length_append, List.length_replicate]; omega
        refine CW.seq ?_
        refine CW.seq ?_
        refine CW.quiet mixed (by kernel_rfl) ?_
        refine QW.v rfl rfl (Val.fieldAddr 1 rfl Try.underlying25 rfl rfl Try.sizeOf23) ?_
        refine QW.v rfl rfl (Val.load rfl Try.isAgg23 (by repeat (first | exact .here | exact .inner .here | exact .inner (.inner .here) | refine .there ?_)) (by rfl)) ?_
        refine QW.v rfl rfl (Val.fieldAddr 1 rfl Try.underlying25 rfl rfl Try.sizeOf23) ?_
        refine QW.v rfl rfl (Val.load rfl Try.isAgg23 (by repeat (first | exact .here | exact .inner .here | exact .inner (.inner .here) | refine .there ?_)) (by rfl)) ?_
        refine QW.v rfl rfl (Val.move rfl) ?_
        refine QW.v rfl rfl (Val.sliceG n.1 u.length qac rfl Try.underlying23 Try.sizeOf9 ⟨_, rfl⟩ rfl rfl (fun _ => rfl) hn1 ha6 (Nat.le_refl _)) ?_
        refine QW.c rfl rfl (Qcall.of rfl Try.call27 (fun w hw => begins_c v (u.drop n.1) _ _ _ _ _ _ rfl (by rw [List.length_drop]) (by omega) w (hw.slAt hb4 (by simp [ids])) (V.slAt_drop (hw.slAt ha4 (by simp [ids])) hn1 ha6))) ?_
        refine QW.v rfl rfl (Val.not rfl) ?_
        refine QW.nil ?_
        refine PQ.seq ?_
        refine CW.cond rfl (fun h149 => ?_) (fun h149 => ?_)
        · replace h149 := bT h149
          have h149 : ¬ u.drop n.1 = v.take (u.drop n.1).length := by simpa using h149
          refine CW.skip ?_
          refine PQ.seq ?_
          refine CW.block ?_
          refine CW.seq ?_
          refine CW.region ?_
          refine LW.v rfl rfl (Val.move rfl) ?_
          refine LW.v rfl rfl (Val.build [_, _, _, _, _] Try.zeroValue38 Try.underlying38 places38 rfl (by rfl)) ?_
          refine LW.e rfl rfl (Eff.buildSlice (rfl) [_, _, _, _, _] Try.underlying28 Try.sizeOf38 (by exact Try.zeroValue38) rfl rfl rfl rfl (by rfl)) ?_
          intro b152 _
          refine LW.e rfl rfl (Eff.appendAny (clC dqC) (sz := 5) (bytes := 80) (z := .agg #[.int .i64 0, .string ⟨#[]⟩, .string ⟨#[]⟩, .string ⟨#[]⟩, .slice none 0 0]) (xs := ((dgo a c) ++ List.replicate n.1 dqC).flatMap clC) (m0 := ((dgo a c) ++ List.replicate n.1 dqC).length) (o := n.2) (m := 1) (pk := [ownG 38 (((dgo a c) ++ List.replicate n.1 dqC).flatMap clC) n.2]) rfl rfl Try.underlying28 (by kernel_rfl) rfl (by omega) (by repeat (first | exact .nil | apply Pick.cons | exact .here | apply Ext.there)) (by simp) hn2 (by rfl) (fun hm0 => ⟨b152, 0, rfl, fun w hw => V.range_of_block (o := 0) (cs := clC dqC) (r := []) (hw.own _ (show InS (b152, .cells (clC dqC).toArray 38 (0, 0)) _ from (by repeat (first | exact .here | exact .inner .here | exact .inner (.inner .here) | refine .there ?_))).mem) rfl⟩) (by rfl) (by omega) (by omega)) ?_
          intro o9 ho9
          refine LW.v rfl rfl (Val.assign rfl) ?_
          refine LW.nil ?_
          refine PQ.seq ?_
          refine CW.region ?_
          refine LW.v rfl rfl (Val.move rfl) ?_
          refine LW.v rfl rfl (Val.ar rfl rfl rfl (IntWalk.i64_in _ (by omega))) ?_
          refine LW.v rfl rfl (Val.assign rfl) ?_
          refine LW.nil ?_
          refine PQ.in_normal ?_
          have hnu : n.1 < u.length := by
            rcases Nat.lt_or_ge n.1 u.length with h8 | h8
            · exact h8
            · exact absurd (by rw [List.drop_eq_nil_iff.2 h8]; simp) h149
          have hr1 : ((dgo a c) ++ List.replicate (n.1 + 1) dqC) = ((dgo a c) ++ List.replicate n.1 dqC) ++ [dqC] := by rw [List.replicate_succ']; simp
          refine PQ.segs (ss := [[(b2, .cells _ 25 (0, 0))], [(b3, .cells _ 25 (0, 0))], ownG 38 (((dgo a c) ++ List.replicate n.1 dqC).flatMap clC ++ clC (dqC)) o9]) ?_ (by repeat (first | exact .nil | apply Pick.cons | exact .here | apply Ext.there))
          rw [show ((dgo a c) ++ List.replicate n.1 dqC).flatMap clC ++ clC (dqC) = ((dgo a c) ++ List.replicate (n.1 + 1) dqC).flatMap clC from by rw [hr1]; simp, show ((dgo a c) ++ List.replicate n.1 dqC).length + 1 = ((dgo a c) ++ List.replicate (n.1 + 1) dqC).length from by rw [hr1]; simp [Nat.add_assoc]]
          refine PQ.round ((n.1 + 1, o9)) ⟨by simp only; omega, by simp only; rw [hr1]; simpa [Nat.add_assoc] using ho9, lnN_no hnu (by rw [List.length_drop] at h149; exact h149) hn3⟩ (by simp only; omega) (by repeat (first | exact trivial | refine ⟨rfl, ?_⟩)) (by repeat (first | exact .nil | apply Pick.cons | exact .here | apply Ext.there))
        · replace h149 := bF h149
          have h149 : u.drop n.1 = v.take (u.drop n.1).length := by simpa using h149
          refine CW.exit ?_
          refine PQ.then_exit ?_
          refine PQ.then_exit ?_
          refine PQ.in_here ?_
          refine PQ.seq ?_
          refine CW.seq ?_
          refine CW.seq ?_
          refine CW.region ?_
          refine LW.v rfl rfl (Val.fieldAddr 1 rfl Try.underlying25 rfl rfl Try.sizeOf23) ?_
          refine LW.v rfl rfl (Val.load rfl Try.isAgg23 (by repeat (first | exact .here | exact .inner .here | exact .inner (.inner .here) | refine .there ?_)) (by rfl)) ?_
          refine LW.v rfl rfl (Val.lenSl rfl Try.underlying23) ?_
          refine LW.v rfl rfl (Val.move rfl) ?_
          refine LW.v rfl rfl (Val.ar rfl rfl rfl (IntWalk.i64_in _ (by omega))) ?_
          refine LW.v rfl rfl (Val.assign rfl) ?_
          refine LW.nil ?_
          refine PQ.seq ?_
          refine CW.block ?_
          obtain ⟨m, o3⟩ := n
          simp only at hn1 hn2 hn3 hnl h149 ⊢
          have hmn : lnN u v = m := lnN_at hn1 (by rw [List.length_drop] at h149; exact h149) hn3
          have hfit := lnN_fit (a := u) (b := v)
          rw [hmn] at hfit
          have hdl : (v.drop (u.length - m)).length = v.length - (u.length - m) := by rw [List.length_drop]
          have ho3 := hn2
          refine CW.re 5 (ownV ((dgo a c) ++ (List.replicate m dqC ++ ((v.drop (u.length - m)).take 0).map enC)).length o3) rfl (by simp) ?_
          refine CW.re 9 (.int .i64 ((u.length - m + 0 : Nat) : Int)) rfl (by congr 1 <;> omega) ?_
          refine V.CW.perm (sg' := [[(b2, .cells [.slice pa a.length pac, .slice qa u.length qac].toArray 25 (0, 0))], [(b3, .cells [.slice pb c.length pbc, .slice qb v.length qbc].toArray 25 (0, 0))], ownG 38 (((dgo a c) ++ (List.replicate m dqC ++ ((v.drop (u.length - m)).take 0).map enC)).flatMap clC) o3]) ?_ (by simp)
          refine CW.loop (γ := Nat × V.OwnO) (fun j => [(2, .pointer (some ⟨b2, 0, none⟩)), (3, .pointer (some ⟨b3, 0, none⟩)), (5, ownV ((dgo a c) ++ (List.replicate m dqC ++ ((v.drop (u.length - m)).take j.1).map enC)).length j.2), (9, .int .i64 ((u.length - m + j.1 : Nat) : Int))]) (fun j => [[(b2, .cells [.slice pa a.length pac, .slice qa u.length qac].toArray 25 (0, 0))], [(b3, .cells [.slice pb c.length pbc, .slice qb v.length qbc].toArray 25 (0, 0))], ownG 38 (((dgo a c) ++ (List.replicate m dqC ++ ((v.drop (u.length - m)).take j.1).map enC)).flatMap clC) j.2]) (fun j => j.1 ≤ (v.drop (u.length - m)).length ∧ ownOk 5 ((dgo a c) ++ (List.replicate m dqC ++ ((v.drop (u.length - m)).take j.1).map enC)).length (((dgo a c) ++ (List.replicate m dqC ++ ((v.drop (u.length - m)).take j.1).map enC)).flatMap clC) j.2) (fun j => (v.drop (u.length - m)).length - j.1) ((0, o3)) ⟨Nat.zero_le _, by simpa using ho3⟩ (by repeat (first | exact trivial | refine ⟨rfl, ?_⟩)) (by repeat (first | exact .nil | apply Pick.cons | exact .here | apply Ext.there)) ?_
          intro j
          rintro ⟨hj1, hj2⟩
          have hjl : ((dgo a c) ++ (List.replicate m dqC ++ ((v.drop (u.length - m)).take j.1).map enC)).length ≤ 220 := by simp only [List.length_append, List.length_replicate, List.length_map, List.length_take]; omega
          refine CW.seq ?_
          refine CW.seq ?_
          refine CW.region ?_
          refine LW.v rfl rfl (Val.move rfl) ?_
          refine LW.v rfl rfl (Val.fieldAddr 1 rfl Try.underlying25 rfl rfl Try.sizeOf23) ?_
          refine LW.v rfl rfl (Val.load rfl Try.isAgg23 (by repeat (first | exact .here | exact .inner .here | exact .inner (.inner .here) | refine .there ?_)) (by rfl)) ?_
          refine LW.v rfl rfl (Val.lenSl rfl Try.underlying23) ?_
          refine LW.v rfl rfl (Val.cmp rfl rfl rfl) ?_
          refine LW.nil ?_
          refine PQ.seq ?_
          refine CW.cond rfl (fun h165 => ?_) (fun h165 => ?_)
          · replace h165 := bT h165
            have hjv : u.length - m + j.1 < v.length := by omega
            obtain ⟨b4, o4, x, hq4, h4b, h4x, h4r⟩ := V.slAt_at hb4 rfl (k := u.length - m + j.1) hjv
            subst hq4
            have htk : ((dgo a c) ++ (List.replicate m dqC ++ ((v.drop (u.length - m)).take (j.1 + 1)).map enC)) = ((dgo a c) ++ (List.replicate m dqC ++ ((v.drop (u.length - m)).take j.1).map enC)) ++ [enC x] := by rw [en_take (j := u.length - m) h4x]; simp
            refine CW.skip ?_
            refine PQ.seq ?_
            refine CW.seq ?_
            refine CW.block ?_
            refine CW.region ?_
            refine LW.v rfl rfl (Val.move rfl) ?_
            refine LW.v rfl rfl (Val.fieldAddr 1 rfl Try.underlying25 rfl rfl Try.sizeOf23) ?_
            refine LW.v rfl rfl (Val.load rfl Try.isAgg23 (by repeat (first | exact .here | exact .inner .here | exact .inner (.inner .here) | refine .there ?_)) (by rfl)) ?_
            refine LW.v rfl rfl (Val.move rfl) ?_
            first | (refine LW.v rfl rfl (Val.indexAddrN rfl rfl Try.underlying23 Try.sizeOf9 (by omega)) ?_) | (refine LW.v rfl rfl (Val.indexAddr rfl rfl Try.underlying23 Try.sizeOf9 (by omega) (by omega)) ?_)
            refine LW.v rfl rfl (Val.loadO rfl Try.isAgg9 h4b (by simp [ids]) (h4r (u.length - m + j.1) x h4x 0 _ rfl)) ?_
            refine LW.v rfl rfl (Val.build [_, _, _, _, _] Try.zeroValue38 Try.underlying38 places38 rfl (by rfl)) ?_
            refine LW.e rfl rfl (Eff.buildSlice (rfl) [_, _, _, _, _] Try.underlying28 Try.sizeOf38 (by exact Try.zeroValue38) rfl rfl rfl rfl (by rfl)) ?_
            intro b175 _
            refine LW.e rfl rfl (Eff.appendAny (clC (enC x)) (sz := 5) (bytes := 80) (z := .agg #[.int .i64 0, .string ⟨#[]⟩, .string ⟨#[]⟩, .string ⟨#[]⟩, .slice none 0 0]) (xs := ((dgo a c) ++ (List.replicate m dqC ++ ((v.drop (u.length - m)).take j.1).map enC)).flatMap clC) (m0 := ((dgo a c) ++ (List.replicate m dqC ++ ((v.drop (u.length - m)).take j.1).map enC)).length) (o := j.2) (m := 1) (pk := [ownG 38 (((dgo a c) ++ (List.replicate m dqC ++ ((v.drop (u.length - m)).take j.1).map enC)).flatMap clC) j.2]) rfl rfl Try.underlying28 (by kernel_rfl) rfl (by omega) (by repeat (first | exact .nil | apply Pick.cons | exact .here | apply Ext.there)) (by simp) hj2 (by rfl) (fun hm0 => ⟨b175, 0, rfl, fun w hw => V.range_of_block (o := 0) (cs := clC (enC x)) (r := []) (hw.own _ (show InS (b175, .cells (clC (enC x)).toArray 38 (0, 0)) _ from (by repeat (first | exact .here | exact .inner .here | exact .inner (.inner .here) | refine .there ?_))).mem) rfl⟩) (by rfl) (by omega) (by omega)) ?_
            intro o9 ho9
            refine LW.v rfl rfl (Val.assign rfl) ?_
            refine LW.nil ?_
            refine PQ.in_normal ?_
            refine PQ.seq ?_
            refine CW.region ?_
            refine LW.v rfl rfl (Val.move rfl) ?_
            refine LW.v rfl rfl (Val.ar rfl rfl rfl (IntWalk.i64_in _ (by omega))) ?_
            refine LW.re 167 (.int .i64 ((u.length - m + (j.1 + 1) : Nat) : Int)) rfl (by congr 1 <;> omega) ?_
            refine LW.v rfl rfl (Val.assign rfl) ?_
            refine LW.nil ?_
            refine PQ.segs (ss := [[(b2, .cells _ 25 (0, 0))], [(b3, .cells _ 25 (0, 0))], ownG 38 (((dgo a c) ++ (List.replicate m dqC ++ ((v.drop (u.length - m)).take j.1).map enC)).flatMap clC ++ clC (enC x)) o9]) ?_ (by repeat (first | exact .nil | apply Pick.cons | exact .here | apply Ext.there))
            rw [show ((dgo a c) ++ (List.replicate m dqC ++ ((v.drop (u.length - m)).take j.1).map enC)).flatMap clC ++ clC (enC x) = ((dgo a c) ++ (List.replicate m dqC ++ ((v.drop (u.length - m)).take (j.1 + 1)).map enC)).flatMap clC from by rw [htk]; simp, show ((dgo a c) ++ (List.replicate m dqC ++ ((v.drop (u.length - m)).take j.1).map enC)).length + 1 = ((dgo a c) ++ (List.replicate m dqC ++ ((v.drop (u.length - m)).take (j.1 + 1)).map enC)).length from by rw [htk]; simp [Nat.add_assoc]]
            refine PQ.round ((j.1 + 1, o9)) ⟨by simp only; omega, by simp only; rw [htk, List.flatMap_append, List.length_append]; simpa using ho9⟩ (by simp only; omega) (by repeat (first | exact trivial | refine ⟨rfl, ?_⟩)) (by repeat (first | exact .nil | apply Pick.cons | exact .here | apply Ext.there))
          · replace h165 := bF h165
            refine CW.exit ?_
            refine PQ.then_exit ?_
            refine PQ.then_exit ?_
            refine PQ.in_here ?_
            refine PQ.seq ?_
            refine CW.seq ?_
            refine CW.region ?_
            refine LW.v rfl rfl (Val.move rfl) ?_
            refine LW.v rfl rfl (Val.assign rfl) ?_
            refine LW.nil ?_
            refine PQ.seq ?_
            refine CW.ret ?_
            refine PQ.ret1 rfl rfl ?_
            intro w' hw
            have hd : diffF (a, u) (c, v) = ((dgo a c) ++ (List.replicate m dqC ++ ((v.drop (u.length - m)).take j.1).map enC)) := by
              unfold diffF
              rw [if_pos ⟨hm1, hm2⟩]
              simp only
              unfold lnF
              rw [hmn, List.take_of_length_le (by omega)]
            rw [hd]
            exact ⟨j.2, hj2, rfl, hw.pick (ss := [ownG 38 (((dgo a c) ++ (List.replicate m dqC ++ ((v.drop (u.length - m)).take j.1).map enC)).flatMap clC) j.2]) (by repeat (first | exact .nil | apply Pick.cons | exact .here | apply Ext.there))⟩
end Go.Proofs.Ytipnpnkniihdjaa
