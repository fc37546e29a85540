/- Calls and groups read out of words. -/
import Derived.Test.YtagliemeolngiaaDoorScR
import Derived.Lib.Hide
namespace Go.Proofs.YtagliemeolngiaaDoor
open Go Go.RowKit V
set_option linter.unusedVariables false
set_option maxRecDepth 100000
open V (str byC ownV ownG ownS ownOk)
/-- The calls of a group. -/
def pGroup : Nat → List (List UInt8) → Option (List Cq × List (List UInt8))
  | 0, _ => none
  | _ + 1, [] => none
  | n + 1, w :: r => match pSingle w r with
    | none => none
    | some (c, []) => some ([c], [])
    | some (c, x :: r3) => if x = [59] then (pGroup n r3).map fun y => (c :: y.1, y.2) else none
theorem pGroup_irr : ∀ (n k : Nat) (L : List (List UInt8)), L.length ≤ n → L.length ≤ k → pGroup n L = pGroup k L
  | 0, 0, _, _, _ => rfl
  | 0, k + 1, L, h, _ => by
    obtain rfl : L = [] := List.length_eq_zero_iff.1 (by omega)
    rfl
  | n + 1, 0, L, _, h => by
    obtain rfl : L = [] := List.length_eq_zero_iff.1 (by omega)
    rfl
  | n + 1, k + 1, [], _, _ => rfl
  | n + 1, k + 1, w :: r, h1, h2 => by
    simp only [pGroup]
    cases hp : pSingle w r with
    | none => rfl
    | some y =>
      obtain ⟨c, r2⟩ := y
      cases r2 with
      | nil => rfl
      | cons x r3 =>
        have := pSingle_len hp
        simp only [List.length_cons] at this h1 h2
        simp only
        rw [pGroup_irr n k r3 (by omega) (by omega)]
def pGr (L : List (List UInt8)) : Option (List Cq × List (List UInt8)) := pGroup L.length L
theorem pGr_cons (w : List UInt8) (r : List (List UInt8)) : pGr (w :: r) = match pSingle w r with
    | none => none
    | some (c, []) => some ([c], [])
    | some (c, x :: r3) => if x = [59] then (pGr r3).map fun y => (c :: y.1, y.2) else none := by
  unfold pGr
  simp only [List.length_cons, pGroup]
  cases hp : pSingle w r with
  | none => rfl
  | some y =>
    obtain ⟨c, r2⟩ := y
    cases r2 with
    | nil => rfl
    | cons x r3 =>
      have := pSingle_len hp
      simp only [List.length_cons] at this
      simp only
      rw [pGroup_irr r.length r3.length r3 (by omega) (by omega)]
def pCall : List (List UInt8) → Option ((Cq × List Cq) × List (List UInt8))
  | [] => none
  | w :: r => if w = [103, 114, 111, 117, 112] then (pGr r).map fun y => ((c0q 7, y.1), y.2) else (pSingle w r).map fun y => ((y.1, []), y.2)
/-- A group, read in part. -/
def PG (bad bd : Bool) (L0 : List (List UInt8)) (gl : List Cq) (L : List (List UInt8)) : Prop := (bad = true → bd = true) ∧ (bad = false → (bd = false → pGr L0 = (pGr L).map fun y => (gl ++ y.1, y.2)) ∧ (bd = true → pGr L0 = none))
/-- One call of a group, and what comes behind it. -/
theorem PG.one {bad bd bd2 : Bool} {L0 : List (List UInt8)} {gl : List Cq} {q q2 : Bool × List UInt8} {c : Cq} (h : PG bad bd L0 gl (wl q)) (hbd : bd = false)
    (hs : PRes (bd || (wl q).isEmpty) bd2 (pSingle ((wl q).headD []) (wl (nxq q))) c (wl q2)) :
    (bad = true → bd2 = true) ∧ (bad = false → (bd2 = true → pGr L0 = none) ∧ (bd2 = false → (wl q2 = [] → pGr L0 = some (gl ++ [c], [])) ∧ (wl q2 ≠ [] → (wl q2).headD [] ≠ [59] → pGr L0 = none) ∧ (wl q2 ≠ [] → (wl q2).headD [] = [59] → pGr L0 = (pGr (wl (nxq q2))).map fun y => (gl ++ [c] ++ y.1, y.2)))) := by
  subst hbd
  refine ⟨fun hb => absurd (h.1 hb) (by simp), fun hb => ?_⟩
  have h1 := (h.2 hb).1 rfl
  rw [nxq_wl] at hs
  rw [nxq_wl]
  cases hw : wl q with
  | nil =>
    rw [hw] at hs h1
    have e : bd2 = true := hs.1 rfl
    exact ⟨fun _ => by rw [h1]; rfl, fun h8 => by rw [e] at h8; cases h8⟩
  | cons w r =>
    rw [hw] at hs h1
    rw [pGr_cons] at h1
    obtain ⟨h2, h3⟩ := hs.2 rfl
    simp only [List.headD_cons, List.tail_cons] at h2 h3
    refine ⟨fun h8 => by rw [h1, h3 h8]; rfl, fun h8 => ?_⟩
    rw [h2 h8] at h1
    cases hw2 : wl q2 with
    | nil => rw [hw2] at h1; exact ⟨fun _ => by rw [h1]; rfl, fun h9 => absurd rfl h9, fun h9 => absurd rfl h9⟩
    | cons x r3 =>
      rw [hw2] at h1
      simp only at h1
      refine ⟨(fun h9 => by cases h9), fun _ h9 => ?_, fun _ h9 => ?_⟩
      · rw [List.headD_cons] at h9
        rw [h1, if_neg h9]; rfl
      · rw [List.headD_cons] at h9
        rw [h1, if_pos h9, List.tail_cons]
        cases pGr r3 <;> simp
theorem rdcall_c (r m s : Nat) (q : Bool × List UInt8) (bad : Bool) (hq : QOk q) (w : World) (hs : Sat [rdS r m s q bad] w) : Calls Tryd.prog 61 [.pointer (some ⟨r, 0, none⟩)].toArray w fun e w' => ∃ y : (Cq × List Cq × V.OwnO) × (Bool × List UInt8) × Bool, (PRes bad y.2.2 (pCall (wl q)) (y.1.1, y.1.2.1) (wl y.2.1) ∧ QOk y.2.1 ∧ ownOk 5 y.1.2.1.length (y.1.2.1.flatMap Cq.cells) y.1.2.2 ∧ (y.1.1.grp = nilSl ∧ y.1.1.small) ∧ ∀ x ∈ y.1.2.1, x.grp = nilSl ∧ x.small) ∧ e = .returned (.agg (y.1.1.re (ownSl y.1.2.1.length y.1.2.2)).cells.toArray) ∧ Hp ⟨w, ids [rdS r m s q bad]⟩ [rdS r m s y.2.1 y.2.2, ownG 41 (y.1.2.1.flatMap Cq.cells) y.1.2.2] w' := by
  refine V.calls [rdS r m s q bad] Tryd.func61 rfl Tryd.ntmps61 (Nat.le_of_ble_eq_true rfl) hs ?_
  have hwq0 := wl_len hq
  have hcnt := wl_count hq
  refine CW.seq ?_
  refine CW.region ?_
  refine LW.e rfl rfl (Eff.allocA (by exact Tryd.zeroValue41)) ?_
  intro b2 _
  refine LW.nil ?_
  refine PQ.seq ?_
  refine CW.seq ?_
  refine CW.region ?_
  refine LW.v rfl rfl (Val.move rfl) ?_
  refine LW.e rfl rfl (Eff.callM ([rdS r m s q bad]) (by repeat (first | exact .nil | apply Pick.cons | exact .here | apply Ext.there)) rfl Tryd.call59 (fun w hw hs0 => rword2_c r m s q bad hq w hs0)) ?_
  intro _ _
  refine LW.v rfl rfl (Val.assign rfl) ?_
  refine LW.nil ?_
  refine PQ.seq ?_
  refine CW.seq ?_
  refine CW.seq ?_
  refine CW.region ?_
  refine LW.v rfl rfl (Val.move rfl) ?_
  refine LW.v rfl rfl (Val.neStr rfl rfl) ?_
  refine LW.nil ?_
  refine PQ.seq ?_
  refine CW.cond rfl (fun h10 => ?_) (fun h10 => ?_)
  · replace h10 := bT h10
    have h10n : ¬ (wl q).headD [] = [103, 114, 111, 117, 112] := by simpa using h10
    refine CW.seq ?_
    refine CW.region ?_
    refine LW.v rfl rfl (Val.move rfl) ?_
    refine LW.v rfl rfl (Val.move rfl) ?_
    refine LW.e rfl rfl (Eff.callM ([rdS r m s (nxq q) (bad || (wl q).isEmpty)]) (by repeat (first | exact .nil | apply Pick.cons | exact .here | apply Ext.there)) rfl Tryd.call72 (fun w hw hs0 => rdsingle_c r m s (nxq q) (bad || (wl q).isEmpty) (nxq_ok hq) ((wl q).headD []) (by omega) w hs0)) ?_
    intro y hy
    first | (refine LW.eN rfl (Eff.storeW (cs := y.1.cells) rfl rfl (by repeat (first | exact .here | exact .inner .here | exact .inner (.inner .here) | apply Upd.there)) (by rfl) Tryd.sizeOf41 (by first | rfl | (simp only [ownSl_v]; rfl))) ?_) | (refine LW.eN rfl (Eff.storeW (cs := [.int .i64 7, str [], str [], str [], ownV k.1.length k.2.1]) rfl rfl (by repeat (first | exact .here | exact .inner .here | exact .inner (.inner .here) | apply Upd.there)) (by rfl) Tryd.sizeOf41 (by first | rfl | (simp only [ownSl_v]; rfl))) ?_) | (refine LW.eN rfl (Eff.storeW (cs := [.int .i64 7, str [], str [], str [], ownV (k.1.length + 1) o9]) rfl rfl (by repeat (first | exact .here | exact .inner .here | exact .inner (.inner .here) | apply Upd.there)) (by rfl) Tryd.sizeOf41 (by first | rfl | (simp only [ownSl_v]; rfl))) ?_)
    intro _ _
    refine LW.nil ?_
    refine PQ.seq ?_
    refine CW.ret ?_
    refine PQ.then_ret ?_
    refine V.PQ.retC rfl rfl (by repeat (first | exact .here | exact .inner .here | exact .inner (.inner .here) | refine .there ?_)) Tryd.isAgg41 (by exact Tryd.sizeOf41) ?_
    intro w' hw
    have hgr : y.1.re (ownSl ([] : List Cq).length none) = y.1 := by
      have h9 := hy.2.2.2.1
      obtain ⟨⟨a, b, c, d, e⟩, _⟩ := y
      simp only at h9
      subst h9; rfl
    refine ⟨((y.1, [], none), y.2.1, y.2.2), ⟨⟨fun hb => hy.1.1 (by rw [hb]; rfl), fun hb => ?_⟩, hy.2.1, ⟨rfl, rfl⟩, ⟨hy.2.2.2.1, hy.2.2.2.2⟩, by simp⟩, by simp only; rw [hgr], (hw.pick (ss := [rdS r m s y.2.1 y.2.2]) (by repeat (first | exact .nil | apply Pick.cons | exact .here | apply Ext.there))).perm (.refl _)⟩
    have h8 := hy.1.2
    rw [nxq_wl] at h8
    cases hwq : wl q with
    | nil => rw [hwq] at h8 h10n; exact ⟨(fun h9 => by have := hy.1.1 (by rw [hwq]; simp); rw [h9] at this; cases this), fun _ => rfl⟩
    | cons w1 r1 =>
      rw [hwq] at h8 h10n
      simp only [List.headD_cons] at h10n
      obtain ⟨h9, h11⟩ := h8 (by rw [hb]; rfl)
      simp only [List.headD_cons, List.tail_cons] at h9 h11
      simp only [pCall]
      rw [if_neg h10n]
      exact ⟨fun h12 => by rw [h9 h12]; rfl, fun h12 => by rw [h11 h12]; rfl⟩
  · replace h10 := bF h10
    have h10n : (wl q).headD [] = [103, 114, 111, 117, 112] := by simpa using h10
    have hne : (wl q).isEmpty = false := by
      cases hwz : wl q with
      | nil => rw [hwz] at h10n; cases h10n
      | cons a b => rfl
    rw [show (bad || (wl q).isEmpty) = bad from by rw [hne]; simp]
    refine CW.skip ?_
    refine PQ.seq ?_
    refine CW.seq ?_
    refine CW.region ?_
    refine LW.v rfl rfl (Val.build [_, _, _, _, _] Tryd.zeroValue41 Tryd.underlying41 places41 rfl (by rfl)) ?_
    refine LW.e rfl rfl (Eff.allocA (by exact Tryd.zeroValue41)) ?_
    intro b4 _
    refine LW.eN rfl (Eff.storeW (cs := [.int .i64 7, str [], str [], str [], ownV ([] : List Cq).length none]) rfl rfl (by repeat (first | exact .here | exact .inner .here | exact .inner (.inner .here) | apply Upd.there)) (by rfl) Tryd.sizeOf41 (by rfl)) ?_
    intro _ _
    refine LW.nil ?_
    refine PQ.seq ?_
    refine CW.seq ?_
    refine CW.block ?_
    refine V.CW.perm (sg' := [(b4, .cells [.int .i64 7, str [], str [], str [], ownV ([] : List Cq).length none].toArray 41 (0, 0))] :: [(b2, .cells [.int .i64 0, .string ⟨#[]⟩, .string ⟨#[]⟩, .string ⟨#[]⟩, .slice none 0 0].toArray 41 (0, 0))] :: [rdS r m s (nxq q) bad] ++ [ownG 41 (([] : List Cq).flatMap Cq.cells) none]) ?_ (by simp [V.ownG, V.ownS]; done)
    refine CW.loop (γ := List Cq × V.OwnO × (Bool × List UInt8) × Bool) (fun k => [(0, .pointer (some ⟨r, 0, none⟩)), (2, .pointer (some ⟨b2, 0, none⟩)), (4, .pointer (some ⟨b4, 0, none⟩))]) (fun k => [rdS r m s k.2.2.1 k.2.2.2, [(b2, .cells [.int .i64 0, .string ⟨#[]⟩, .string ⟨#[]⟩, .string ⟨#[]⟩, .slice none 0 0].toArray 41 (0, 0))], [(b4, .cells [.int .i64 7, str [], str [], str [], ownV k.1.length k.2.1].toArray 41 (0, 0))], ownG 41 (k.1.flatMap Cq.cells) k.2.1]) (fun k => ownOk 5 k.1.length (k.1.flatMap Cq.cells) k.2.1 ∧ QOk k.2.2.1 ∧ k.1.length + (wl k.2.2.1).length ≤ 70001 ∧ (∀ x ∈ k.1, x.grp = nilSl ∧ x.small) ∧ PG bad k.2.2.2 (wl (nxq q)) k.1 (wl k.2.2.1)) (fun k => 2 * (wl k.2.2.1).length + (if k.2.2.2 = true then 0 else 1)) (([], none, nxq q, bad)) ⟨⟨rfl, rfl⟩, nxq_ok hq, by simp only [List.length_nil]; rw [nxq_wl, List.length_tail]; omega, by simp, ⟨fun h => h, fun h => ⟨fun _ => by simp, fun h2 => by simp only at h2; rw [h] at h2; cases h2⟩⟩⟩ (by repeat (first | exact trivial | refine ⟨rfl, ?_⟩)) (by repeat (first | exact .nil | apply Pick.cons | exact .here | apply Ext.there)) ?_
    intro k
    rintro ⟨hk2, hkq, hk3, hk5, hkp⟩
    refine CW.seq ?_
    refine CW.seq ?_
    refine CW.region ?_
    refine LW.v rfl rfl (Val.move rfl) ?_
    refine LW.v rfl rfl (Val.nilCheck rfl) ?_
    refine LW.v rfl rfl (Val.fieldAddr 1 rfl Tryd.underlying87 rfl rfl Tryd.sizeOf4) ?_
    refine LW.v rfl rfl (Val.load rfl Tryd.isAgg4 (by repeat (first | exact .here | exact .inner .here | exact .inner (.inner .here) | refine .there ?_)) (by rfl)) ?_
    refine LW.v rfl rfl (Val.not rfl) ?_
    refine LW.nil ?_
    refine PQ.seq ?_
    refine CW.cond rfl (fun h19 => ?_) (fun h19 => ?_)
    · replace h19 := bT h19
      have hbd : k.2.2.2 = false := by simpa using h19
      have hwk := wl_len hkq
      have hnk : (wl (nxq k.2.2.1)).length ≤ (wl k.2.2.1).length := by rw [nxq_wl, List.length_tail]; omega
      refine CW.skip ?_
      refine PQ.seq ?_
      refine CW.block ?_
      refine CW.seq ?_
      refine CW.regJoin (fun z : (Cq × (Bool × List UInt8) × Bool) × V.OwnO => (PRes (k.2.2.2 || (wl k.2.2.1).isEmpty) z.1.2.2 (pSingle ((wl k.2.2.1).headD []) (wl (nxq k.2.2.1))) z.1.1 (wl z.1.2.1) ∧ QOk z.1.2.1 ∧ (wl z.1.2.1).length ≤ (wl (nxq k.2.2.1)).length ∧ z.1.1.grp = nilSl ∧ z.1.1.small) ∧ ownOk 5 (k.1.length + 1) (k.1.flatMap Cq.cells ++ z.1.1.cells) z.2) (fun _ => [(0, .pointer (some ⟨r, 0, none⟩)), (2, .pointer (some ⟨b2, 0, none⟩)), (4, .pointer (some ⟨b4, 0, none⟩))]) (fun z => [rdS r m s z.1.2.1 z.1.2.2, [(b2, .cells [.int .i64 0, .string ⟨#[]⟩, .string ⟨#[]⟩, .string ⟨#[]⟩, .slice none 0 0].toArray 41 (0, 0))], [(b4, .cells [.int .i64 7, str [], str [], str [], ownV (k.1.length + 1) z.2].toArray 41 (0, 0))], ownG 41 (k.1.flatMap Cq.cells ++ z.1.1.cells) z.2]) ?_ ?_
      · refine CW.drawn ([]) mixed (by repeat (first | exact .nil | apply Pick.cons | exact .here | apply Ext.there)) ?_
        refine RW.v 0 rfl (by kernel_rfl) (by kernel_rfl) (by kernel_rfl) (fun _ _ _ h => h) rfl rfl (Val.fieldAddr 4 rfl Tryd.underlying41 rfl rfl Tryd.sizeOf39) ?_
        refine RW.v 2 rfl (by kernel_rfl) (by kernel_rfl) (by kernel_rfl) (fun _ _ _ h => h) rfl rfl (Val.move rfl) ?_
        refine RW.v 3 rfl (by kernel_rfl) (by kernel_rfl) (by kernel_rfl) (fun _ _ _ h => h) rfl rfl (Val.move rfl) ?_
        refine RW.any [1, 4] (by kernel_rfl) (by simp) ?_
        intro i hi
        simp only [List.mem_cons, List.not_mem_nil, or_false] at hi
        rcases hi with rfl | rfl
        · refine RO.e rfl rfl rfl (Eff.ofVal (Val.load (v := ownV k.1.length k.2.1) rfl Tryd.isAgg39 (by repeat (first | exact .here | exact .inner .here | exact .inner (.inner .here) | refine .there ?_)) (by rfl))) (fun x => ⟨_, (by repeat (first | exact .nil | apply Pick.cons | exact .here | apply Ext.there))⟩) ?_
          intro _ _
          refine RW.e 4 rfl (by kernel_rfl) rfl rfl (Eff.callM ([rdS r m s k.2.2.1 k.2.2.2]) (by repeat (first | exact .nil | apply Pick.cons | exact .here | apply Ext.there)) rfl Tryd.call59 (fun w hw hs0 => rword2_c r m s k.2.2.1 k.2.2.2 hkq w hs0)) (fun x => ⟨_, (by repeat (first | exact .nil | apply Pick.cons | exact .here | apply Ext.there))⟩) ?_
          intro _ _
          refine RW.e 5 rfl (by kernel_rfl) rfl rfl (Eff.callM ([rdS r m s (nxq k.2.2.1) (k.2.2.2 || (wl k.2.2.1).isEmpty)]) (by repeat (first | exact .nil | apply Pick.cons | exact .here | apply Ext.there)) rfl Tryd.call72 (fun w hw hs0 => rdsingle_c r m s (nxq k.2.2.1) (k.2.2.2 || (wl k.2.2.1).isEmpty) (nxq_ok hkq) ((wl k.2.2.1).headD []) (by omega) w hs0)) (fun x => ⟨_, (by repeat (first | exact .nil | apply Pick.cons | exact .here | apply Ext.there))⟩) ?_
          intro y hy
          refine RW.e 6 rfl (by kernel_rfl) rfl rfl (Eff.buildSlice (rfl) [_, _, _, _, _] Tryd.underlying39 Tryd.sizeOf41 (by exact Tryd.zeroValue41) rfl rfl rfl rfl (by rfl)) (fun x => ⟨_, (by repeat (first | exact .nil | apply Pick.cons | exact .here | apply Ext.there))⟩) ?_
          intro b26 _
          refine RW.e 7 rfl (by kernel_rfl) rfl rfl (Eff.appendAny (y.1.cells) (sz := 5) (bytes := 80) (z := .agg #[.int .i64 0, .string ⟨#[]⟩, .string ⟨#[]⟩, .string ⟨#[]⟩, .slice none 0 0]) (xs := k.1.flatMap Cq.cells) (m0 := k.1.length) (o := k.2.1) (m := 1) (pk := [ownG 41 (k.1.flatMap Cq.cells) k.2.1]) rfl rfl Tryd.underlying39 (by kernel_rfl) rfl (by omega) (by repeat (first | exact .nil | apply Pick.cons | exact .here | apply Ext.there)) (by simp) hk2 (by rfl) (fun hm0 => ⟨b26, 0, rfl, fun w hw => V.range_of_block (o := 0) (cs := y.1.cells) (r := []) (hw.own _ (show InS (b26, .cells (y.1.cells).toArray 41 (0, 0)) _ from (by repeat (first | exact .here | exact .inner .here | exact .inner (.inner .here) | refine .there ?_))).mem) rfl⟩) (by rfl) (by omega) (by omega)) (fun x => ⟨_, (by repeat (first | exact .nil | apply Pick.cons | exact .here | apply Ext.there))⟩) ?_
          intro o9 ho9
          refine RW.v 8 rfl (by kernel_rfl) (by kernel_rfl) (by kernel_rfl) (fun _ _ _ h => h) rfl rfl (Val.fieldAddr 4 rfl Tryd.underlying41 rfl rfl Tryd.sizeOf39) ?_
          refine RW.eN 9 rfl (by kernel_rfl) rfl (Eff.store rfl rfl (V.ownV_one _ _) (by repeat (first | exact .here | exact .inner .here | exact .inner (.inner .here) | apply Upd.there)) (by rfl) (by rfl) Tryd.sizeOf39) (fun x => ⟨_, (by repeat (first | exact .nil | apply Pick.cons | exact .here | apply Ext.there))⟩) ?_
          intro _ _
          refine RW.done (by kernel_rfl) ?_
          refine PQ.joined ((y, o9)) (⟨hy, ho9⟩) (by repeat (first | exact trivial | refine ⟨rfl, ?_⟩)) (by repeat (first | exact .nil | apply Pick.cons | exact .here | apply Ext.there))
        · refine RO.e rfl rfl rfl (Eff.callM ([rdS r m s k.2.2.1 k.2.2.2]) (by repeat (first | exact .nil | apply Pick.cons | exact .here | apply Ext.there)) rfl Tryd.call59 (fun w hw hs0 => rword2_c r m s k.2.2.1 k.2.2.2 hkq w hs0)) (fun x => ⟨_, (by repeat (first | exact .nil | apply Pick.cons | exact .here | apply Ext.there))⟩) ?_
          intro _ _
          refine RW.any [1, 5] (by kernel_rfl) (by simp) ?_
          intro i hi
          simp only [List.mem_cons, List.not_mem_nil, or_false] at hi
          rcases hi with rfl | rfl
          · refine RO.e rfl rfl rfl (Eff.ofVal (Val.load (v := ownV k.1.length k.2.1) rfl Tryd.isAgg39 (by repeat (first | exact .here | exact .inner .here | exact .inner (.inner .here) | refine .there ?_)) (by rfl))) (fun x => ⟨_, (by repeat (first | exact .nil | apply Pick.cons | exact .here | apply Ext.there))⟩) ?_
            intro _ _
            refine RW.e 5 rfl (by kernel_rfl) rfl rfl (Eff.callM ([rdS r m s (nxq k.2.2.1) (k.2.2.2 || (wl k.2.2.1).isEmpty)]) (by repeat (first | exact .nil | apply Pick.cons | exact .here | apply Ext.there)) rfl Tryd.call72 (fun w hw hs0 => rdsingle_c r m s (nxq k.2.2.1) (k.2.2.2 || (wl k.2.2.1).isEmpty) (nxq_ok hkq) ((wl k.2.2.1).headD []) (by omega) w hs0)) (fun x => ⟨_, (by repeat (first | exact .nil | apply Pick.cons | exact .here | apply Ext.there))⟩) ?_
            intro y hy
            refine RW.e 6 rfl (by kernel_rfl) rfl rfl (Eff.buildSlice (rfl) [_, _, _, _, _] Tryd.underlying39 Tryd.sizeOf41 (by exact Tryd.zeroValue41) rfl rfl rfl rfl (by rfl)) (fun x => ⟨_, (by repeat (first | exact .nil | apply Pick.cons | exact .here | apply Ext.there))⟩) ?_
            intro b26 _
            refine RW.e 7 rfl (by kernel_rfl) rfl rfl (Eff.appendAny (y.1.cells) (sz := 5) (bytes := 80) (z := .agg #[.int .i64 0, .string ⟨#[]⟩, .string ⟨#[]⟩, .string ⟨#[]⟩, .slice none 0 0]) (xs := k.1.flatMap Cq.cells) (m0 := k.1.length) (o := k.2.1) (m := 1) (pk := [ownG 41 (k.1.flatMap Cq.cells) k.2.1]) rfl rfl Tryd.underlying39 (by kernel_rfl) rfl (by omega) (by repeat (first | exact .nil | apply Pick.cons | exact .here | apply Ext.there)) (by simp) hk2 (by rfl) (fun hm0 => ⟨b26, 0, rfl, fun w hw => V.range_of_block (o := 0) (cs := y.1.cells) (r := []) (hw.own _ (show InS (b26, .cells (y.1.cells).toArray 41 (0, 0)) _ from (by repeat (first | exact .here | exact .inner .here | exact .inner (.inner .here) | refine .there ?_))).mem) rfl⟩) (by rfl) (by omega) (by omega)) (fun x => ⟨_, (by repeat (first | exact .nil | apply Pick.cons | exact .here | apply Ext.there))⟩) ?_
            intro o9 ho9
            refine RW.v 8 rfl (by kernel_rfl) (by kernel_rfl) (by kernel_rfl) (fun _ _ _ h => h) rfl rfl (Val.fieldAddr 4 rfl Tryd.underlying41 rfl rfl Tryd.sizeOf39) ?_
            refine RW.eN 9 rfl (by kernel_rfl) rfl (Eff.store rfl rfl (V.ownV_one _ _) (by repeat (first | exact .here | exact .inner .here | exact .inner (.inner .here) | apply Upd.there)) (by rfl) (by rfl) Tryd.sizeOf39) (fun x => ⟨_, (by repeat (first | exact .nil | apply Pick.cons | exact .here | apply Ext.there))⟩) ?_
            intro _ _
            refine RW.done (by kernel_rfl) ?_
            refine PQ.joined ((y, o9)) (⟨hy, ho9⟩) (by repeat (first | exact trivial | refine ⟨rfl, ?_⟩)) (by repeat (first | exact .nil | apply Pick.cons | exact .here | apply Ext.there))
          · refine RO.e rfl rfl rfl (Eff.callM ([rdS r m s (nxq k.2.2.1) (k.2.2.2 || (wl k.2.2.1).isEmpty)]) (by repeat (first | exact .nil | apply Pick.cons | exact .here | apply Ext.there)) rfl Tryd.call72 (fun w hw hs0 => rdsingle_c r m s (nxq k.2.2.1) (k.2.2.2 || (wl k.2.2.1).isEmpty) (nxq_ok hkq) ((wl k.2.2.1).headD []) (by omega) w hs0)) (fun x => ⟨_, (by repeat (first | exact .nil | apply Pick.cons | exact .here | apply Ext.there))⟩) ?_
            intro y hy
            refine RW.any [1, 6] (by kernel_rfl) (by simp) ?_
            intro i hi
            simp only [List.mem_cons, List.not_mem_nil, or_false] at hi
            rcases hi with rfl | rfl
            · refine RO.e rfl rfl rfl (Eff.ofVal (Val.load (v := ownV k.1.length k.2.1) rfl Tryd.isAgg39 (by repeat (first | exact .here | exact .inner .here | exact .inner (.inner .here) | refine .there ?_)) (by rfl))) (fun x => ⟨_, (by repeat (first | exact .nil | apply Pick.cons | exact .here | apply Ext.there))⟩) ?_
              intro _ _
              refine RW.e 6 rfl (by kernel_rfl) rfl rfl (Eff.buildSlice (rfl) [_, _, _, _, _] Tryd.underlying39 Tryd.sizeOf41 (by exact Tryd.zeroValue41) rfl rfl rfl rfl (by rfl)) (fun x => ⟨_, (by repeat (first | exact .nil | apply Pick.cons | exact .here | apply Ext.there))⟩) ?_
              intro b26 _
              refine RW.e 7 rfl (by kernel_rfl) rfl rfl (Eff.appendAny (y.1.cells) (sz := 5) (bytes := 80) (z := .agg #[.int .i64 0, .string ⟨#[]⟩, .string ⟨#[]⟩, .string ⟨#[]⟩, .slice none 0 0]) (xs := k.1.flatMap Cq.cells) (m0 := k.1.length) (o := k.2.1) (m := 1) (pk := [ownG 41 (k.1.flatMap Cq.cells) k.2.1]) rfl rfl Tryd.underlying39 (by kernel_rfl) rfl (by omega) (by repeat (first | exact .nil | apply Pick.cons | exact .here | apply Ext.there)) (by simp) hk2 (by rfl) (fun hm0 => ⟨b26, 0, rfl, fun w hw => V.range_of_block (o := 0) (cs := y.1.cells) (r := []) (hw.own _ (show InS (b26, .cells (y.1.cells).toArray 41 (0, 0)) _ from (by repeat (first | exact .here | exact .inner .here | exact .inner (.inner .here) | refine .there ?_))).mem) rfl⟩) (by rfl) (by omega) (by omega)) (fun x => ⟨_, (by repeat (first | exact .nil | apply Pick.cons | exact .here | apply Ext.there))⟩) ?_
              intro o9 ho9
              refine RW.v 8 rfl (by kernel_rfl) (by kernel_rfl) (by kernel_rfl) (fun _ _ _ h => h) rfl rfl (Val.fieldAddr 4 rfl Tryd.underlying41 rfl rfl Tryd.sizeOf39) ?_
              refine RW.eN 9 rfl (by kernel_rfl) rfl (Eff.store rfl rfl (V.ownV_one _ _) (by repeat (first | exact .here | exact .inner .here | exact .inner (.inner .here) | apply Upd.there)) (by rfl) (by rfl) Tryd.sizeOf39) (fun x => ⟨_, (by repeat (first | exact .nil | apply Pick.cons | exact .here | apply Ext.there))⟩) ?_
              intro _ _
              refine RW.done (by kernel_rfl) ?_
              refine PQ.joined ((y, o9)) (⟨hy, ho9⟩) (by repeat (first | exact trivial | refine ⟨rfl, ?_⟩)) (by repeat (first | exact .nil | apply Pick.cons | exact .here | apply Ext.there))
            · refine RO.e rfl rfl rfl (Eff.buildSlice (rfl) [_, _, _, _, _] Tryd.underlying39 Tryd.sizeOf41 (by exact Tryd.zeroValue41) rfl rfl rfl rfl (by rfl)) (fun x => ⟨_, (by repeat (first | exact .nil | apply Pick.cons | exact .here | apply Ext.there))⟩) ?_
              intro b26 _
              refine RW.e 1 rfl (by kernel_rfl) rfl rfl (Eff.ofVal (Val.load (v := ownV k.1.length k.2.1) rfl Tryd.isAgg39 (by repeat (first | exact .here | exact .inner .here | exact .inner (.inner .here) | refine .there ?_)) (by rfl))) (fun x => ⟨_, (by repeat (first | exact .nil | apply Pick.cons | exact .here | apply Ext.there))⟩) ?_
              intro _ _
              refine RW.e 7 rfl (by kernel_rfl) rfl rfl (Eff.appendAny (y.1.cells) (sz := 5) (bytes := 80) (z := .agg #[.int .i64 0, .string ⟨#[]⟩, .string ⟨#[]⟩, .string ⟨#[]⟩, .slice none 0 0]) (xs := k.1.flatMap Cq.cells) (m0 := k.1.length) (o := k.2.1) (m := 1) (pk := [ownG 41 (k.1.flatMap Cq.cells) k.2.1]) rfl rfl Tryd.underlying39 (by kernel_rfl) rfl (by omega) (by repeat (first | exact .nil | apply Pick.cons | exact .here | apply Ext.there)) (by simp) hk2 (by rfl) (fun hm0 => ⟨b26, 0, rfl, fun w hw => V.range_of_block (o := 0) (cs := y.1.cells) (r := []) (hw.own _ (show InS (b26, .cells (y.1.cells).toArray 41 (0, 0)) _ from (by repeat (first | exact .here | exact .inner .here | exact .inner (.inner .here) | refine .there ?_))).mem) rfl⟩) (by rfl) (by omega) (by omega)) (fun x => ⟨_, (by repeat (first | exact .nil | apply Pick.cons | exact .here | apply Ext.there))⟩) ?_
              intro o9 ho9
              refine RW.v 8 rfl (by kernel_rfl) (by kernel_rfl) (by kernel_rfl) (fun _ _ _ h => h) rfl rfl (Val.fieldAddr 4 rfl Tryd.underlying41 rfl rfl Tryd.sizeOf39) ?_
              refine RW.eN 9 rfl (by kernel_rfl) rfl (Eff.store rfl rfl (V.ownV_one _ _) (by repeat (first | exact .here | exact .inner .here | exact .inner (.inner .here) | apply Upd.there)) (by rfl) (by rfl) Tryd.sizeOf39) (fun x => ⟨_, (by repeat (first | exact .nil | apply Pick.cons | exact .here | apply Ext.there))⟩) ?_
              intro _ _
              refine RW.done (by kernel_rfl) ?_
              refine PQ.joined ((y, o9)) (⟨hy, ho9⟩) (by repeat (first | exact trivial | refine ⟨rfl, ?_⟩)) (by repeat (first | exact .nil | apply Pick.cons | exact .here | apply Ext.there))
      · rintro ⟨y, o9⟩ ⟨hy, ho9⟩
        simp only at hy ho9
        refine PQ.seq ?_
        refine CW.seq ?_
        refine CW.region ?_
        refine LW.v rfl rfl (Val.move rfl) ?_
        refine LW.v rfl rfl (Val.nilCheck rfl) ?_
        refine LW.v rfl rfl (Val.fieldAddr 0 rfl Tryd.underlying87 rfl rfl Tryd.sizeOf84) ?_
        refine LW.v rfl rfl (Val.load rfl Tryd.isAgg84 (by repeat (first | exact .here | exact .inner .here | exact .inner (.inner .here) | refine .there ?_)) (by rfl)) ?_
        refine LW.e rfl rfl (Eff.callFM (f := 58) (caps := [.pointer (some ⟨m, 0, none⟩), .pointer (some ⟨s, 0, none⟩)]) ([rdS r m s y.2.1 y.2.2]) (by repeat (first | exact .nil | apply Pick.cons | exact .here | apply Ext.there)) rfl rfl Tryd.call58 (fun w hw hs0 => next_c r m s y.2.1 y.2.2 hy.2.1 w hs0)) ?_
        intro _ _
        refine LW.v rfl rfl (Val.move rfl) ?_
        refine LW.v rfl rfl (Val.extract rfl rfl) ?_
        refine LW.v rfl rfl (Val.extract rfl rfl) ?_
        refine LW.v rfl rfl (Val.assign rfl) ?_
        refine LW.v rfl rfl (Val.assign rfl) ?_
        refine LW.nil ?_
        refine PQ.seq ?_
        refine CW.seq ?_
        refine CW.seq ?_
        refine CW.region ?_
        refine LW.v rfl rfl (Val.move rfl) ?_
        refine LW.v rfl rfl (Val.not rfl) ?_
        refine LW.nil ?_
        refine PQ.seq ?_
        refine CW.cond rfl (fun h38 => ?_) (fun h38 => ?_)
        · replace h38 := bT h38
          have hlN : (k.1 ++ [y.1]).length = k.1.length + 1 := by simp
          have hfN : k.1.flatMap Cq.cells ++ y.1.cells = (k.1 ++ [y.1]).flatMap Cq.cells := by simp
          have hoN : ownOk 5 (k.1 ++ [y.1]).length ((k.1 ++ [y.1]).flatMap Cq.cells) o9 := by rw [hlN, ← hfN]; exact ho9
          have hall : ∀ x ∈ k.1 ++ [y.1], x.grp = nilSl ∧ x.small := fun x hx => by
            rcases List.mem_append.1 hx with h8 | h8
            · exact hk5 x h8
            · simp at h8; subst h8; exact hy.2.2.2
          refine CW.exit ?_
          refine PQ.then_exit ?_
          refine PQ.in_out rfl ?_
          refine PQ.then_exit ?_
          refine PQ.in_here ?_
          refine PQ.seq ?_
          refine CW.seq ?_
          refine CW.region ?_
          first | (refine LW.v rfl rfl (Val.loadW rfl Tryd.isAgg41 (by repeat (first | exact .here | exact .inner .here | exact .inner (.inner .here) | refine .there ?_)) (by exact Tryd.sizeOf41)) ?_) | (refine LW.v rfl rfl (Val.loadA [_, _, _, _, _] rfl Tryd.isAgg41 (by repeat (first | exact .here | exact .inner .here | exact .inner (.inner .here) | refine .there ?_)) (by rfl) Tryd.sizeOf41) ?_)
          first | (refine LW.eN rfl (Eff.storeW (cs := y.1.cells) rfl rfl (by repeat (first | exact .here | exact .inner .here | exact .inner (.inner .here) | apply Upd.there)) (by rfl) Tryd.sizeOf41 (by first | rfl | (simp only [ownSl_v]; rfl))) ?_) | (refine LW.eN rfl (Eff.storeW (cs := [.int .i64 7, str [], str [], str [], ownV k.1.length k.2.1]) rfl rfl (by repeat (first | exact .here | exact .inner .here | exact .inner (.inner .here) | apply Upd.there)) (by rfl) Tryd.sizeOf41 (by first | rfl | (simp only [ownSl_v]; rfl))) ?_) | (refine LW.eN rfl (Eff.storeW (cs := [.int .i64 7, str [], str [], str [], ownV (k.1.length + 1) o9]) rfl rfl (by repeat (first | exact .here | exact .inner .here | exact .inner (.inner .here) | apply Upd.there)) (by rfl) Tryd.sizeOf41 (by first | rfl | (simp only [ownSl_v]; rfl))) ?_)
          intro _ _
          refine LW.nil ?_
          refine PQ.seq ?_
          refine CW.ret ?_
          refine V.PQ.retC rfl rfl (by repeat (first | exact .here | exact .inner .here | exact .inner (.inner .here) | refine .there ?_)) Tryd.isAgg41 (by exact Tryd.sizeOf41) ?_
          intro w' hw
          have hpc : pCall (wl q) = (pGr (wl (nxq q))).map fun y => ((c0q 7, y.1), y.2) := by
            rw [wl_cons hne]
            simp only [pCall]
            rw [if_pos h10n]
          have hend : wl y.2.1 = [] := by
            cases hwz : wl y.2.1 with
            | nil => rfl
            | cons a b => rw [hwz] at h38; simp at h38
          have hone := PG.one hkp hbd hy.1
          refine ⟨((c0q 7, k.1 ++ [y.1], o9), nxq y.2.1, y.2.2), ⟨⟨fun hb => hone.1 hb, fun hb => ⟨fun h8 => ?_, fun h8 => ?_⟩⟩, nxq_ok hy.2.1, hoN, ⟨rfl, by unfold Cq.small c0q; simp⟩, hall⟩, by simp only [Cq.re, Cq.cells, c0q]; rw [← ownSl_v, hlN], ?_⟩
          · rw [hpc, ((hone.2 hb).2 h8).1 hend, nxq_wl, hend]; rfl
          · rw [hpc, (hone.2 hb).1 h8]; rfl
          · have h8 := hw.pick (ss := [rdS r m s (nxq y.2.1) y.2.2, ownG 41 (k.1.flatMap Cq.cells ++ y.1.cells) o9]) (by repeat (first | exact .nil | apply Pick.cons | exact .here | apply Ext.there))
            rw [hfN] at h8; exact h8
        · replace h38 := bF h38
          have hlN : (k.1 ++ [y.1]).length = k.1.length + 1 := by simp
          have hfN : k.1.flatMap Cq.cells ++ y.1.cells = (k.1 ++ [y.1]).flatMap Cq.cells := by simp
          have hoN : ownOk 5 (k.1 ++ [y.1]).length ((k.1 ++ [y.1]).flatMap Cq.cells) o9 := by rw [hlN, ← hfN]; exact ho9
          have hall : ∀ x ∈ k.1 ++ [y.1], x.grp = nilSl ∧ x.small := fun x hx => by
            rcases List.mem_append.1 hx with h8 | h8
            · exact hk5 x h8
            · simp at h8; subst h8; exact hy.2.2.2
          have hne2 : wl y.2.1 ≠ [] := by intro h8; rw [h8] at h38; simp at h38
          refine CW.skip ?_
          refine PQ.seq ?_
          refine CW.regJoin (fun _ : Unit => True) (fun _ => [(0, .pointer (some ⟨r, 0, none⟩)), (2, .pointer (some ⟨b2, 0, none⟩)), (4, .pointer (some ⟨b4, 0, none⟩))]) (fun _ => [rdS r m s (nxq y.2.1) (y.2.2 || !decide ((wl y.2.1).headD [] = [59])), [(b2, .cells [.int .i64 0, .string ⟨#[]⟩, .string ⟨#[]⟩, .string ⟨#[]⟩, .slice none 0 0].toArray 41 (0, 0))], [(b4, .cells [.int .i64 7, str [], str [], str [], ownV (k.1 ++ [y.1]).length o9].toArray 41 (0, 0))], ownG 41 ((k.1 ++ [y.1]).flatMap Cq.cells) o9]) ?_ ?_
          · refine CW.region ?_
            refine LW.v rfl rfl (Val.move rfl) ?_
            refine LW.v rfl rfl (Val.move rfl) ?_
            refine LW.v rfl rfl (Val.nilCheck rfl) ?_
            refine LW.v rfl rfl (Val.fieldAddr 1 rfl Tryd.underlying87 rfl rfl Tryd.sizeOf4) ?_
            refine LW.v rfl rfl (Val.load rfl Tryd.isAgg4 (by repeat (first | exact .here | exact .inner .here | exact .inner (.inner .here) | refine .there ?_)) (by rfl)) ?_
            refine LW.v rfl rfl (Val.move rfl) ?_
            refine LW.split (d := 44) rfl (fun h44 => ?_) (fun h44 => ?_)
            · replace h44 := bT h44
              refine LW.p rfl rfl ?_
              refine LW.p rfl rfl ?_
              refine LW.v rfl rfl (Val.pick_t rfl rfl) ?_
              refine LW.re 47 (.bool (y.2.2 || !decide ((wl y.2.1).headD [] = [59]))) rfl (by rw [h44]; rfl) ?_
              refine LW.v rfl rfl (Val.nilCheck rfl) ?_
              refine LW.v rfl rfl (Val.fieldAddr 1 rfl Tryd.underlying87 rfl rfl Tryd.sizeOf4) ?_
              refine LW.eN rfl (Eff.store rfl rfl rfl (by repeat (first | exact .here | exact .inner .here | exact .inner (.inner .here) | apply Upd.there)) (by rfl) (by rfl) Tryd.sizeOf4) ?_
              intro _ _
              refine LW.nil ?_
              refine PQ.segs (ss := [rdS r m s (nxq y.2.1) (y.2.2 || !decide ((wl y.2.1).headD [] = [59])), [(b2, .cells [.int .i64 0, .string ⟨#[]⟩, .string ⟨#[]⟩, .string ⟨#[]⟩, .slice none 0 0].toArray 41 (0, 0))], [(b4, .cells [.int .i64 7, str [], str [], str [], ownV (k.1.length + 1) o9].toArray 41 (0, 0))], ownG 41 (k.1.flatMap Cq.cells ++ y.1.cells) o9]) ?_ (by repeat (first | exact .nil | apply Pick.cons | exact .here | apply Ext.there))
              rw [hfN, ← hlN]
              refine PQ.joined (()) (trivial) (by repeat (first | exact trivial | refine ⟨rfl, ?_⟩)) (by repeat (first | exact .nil | apply Pick.cons | exact .here | apply Ext.there))
            · replace h44 := bF h44
              refine LW.v rfl rfl (Val.move rfl) ?_
              refine LW.v rfl rfl (Val.neStr rfl rfl) ?_
              refine LW.v rfl rfl (Val.pick_f rfl rfl) ?_
              refine LW.re 47 (.bool (y.2.2 || !decide ((wl y.2.1).headD [] = [59]))) rfl (by rw [h44]; rfl) ?_
              refine LW.v rfl rfl (Val.nilCheck rfl) ?_
              refine LW.v rfl rfl (Val.fieldAddr 1 rfl Tryd.underlying87 rfl rfl Tryd.sizeOf4) ?_
              refine LW.eN rfl (Eff.store rfl rfl rfl (by repeat (first | exact .here | exact .inner .here | exact .inner (.inner .here) | apply Upd.there)) (by rfl) (by rfl) Tryd.sizeOf4) ?_
              intro _ _
              refine LW.nil ?_
              refine PQ.segs (ss := [rdS r m s (nxq y.2.1) (y.2.2 || !decide ((wl y.2.1).headD [] = [59])), [(b2, .cells [.int .i64 0, .string ⟨#[]⟩, .string ⟨#[]⟩, .string ⟨#[]⟩, .slice none 0 0].toArray 41 (0, 0))], [(b4, .cells [.int .i64 7, str [], str [], str [], ownV (k.1.length + 1) o9].toArray 41 (0, 0))], ownG 41 (k.1.flatMap Cq.cells ++ y.1.cells) o9]) ?_ (by repeat (first | exact .nil | apply Pick.cons | exact .here | apply Ext.there))
              rw [hfN, ← hlN]
              refine PQ.joined (()) (trivial) (by repeat (first | exact trivial | refine ⟨rfl, ?_⟩)) (by repeat (first | exact .nil | apply Pick.cons | exact .here | apply Ext.there))
          · intro _ _
            refine PQ.in_normal ?_
            have hone := PG.one hkp hbd hy.1
            have hlen1 : (wl (nxq y.2.1)).length + 1 = (wl y.2.1).length := by
              rw [nxq_wl, List.length_tail]
              have := List.length_pos_iff.2 hne2
              omega
            have hlen2 := hy.2.2.1
            have hcn : (k.1 ++ [y.1]).length + (wl (nxq y.2.1)).length ≤ 70001 := by rw [hlN]; omega
            have hmu : 2 * (wl (nxq y.2.1)).length + (if (y.2.2 || !decide ((wl y.2.1).headD [] = [59])) = true then 0 else 1) < 2 * (wl k.2.2.1).length + (if k.2.2.2 = true then 0 else 1) := by
              split <;> split <;> omega
            have hpg : PG bad (y.2.2 || !decide ((wl y.2.1).headD [] = [59])) (wl (nxq q)) (k.1 ++ [y.1]) (wl (nxq y.2.1)) := by
              refine ⟨fun hb => by rw [hone.1 hb]; rfl, fun hb => ⟨fun h8 => ?_, fun h8 => ?_⟩⟩
              · simp only [Bool.or_eq_false_iff, Bool.not_eq_false', decide_eq_true_eq] at h8
                exact ((hone.2 hb).2 h8.1).2.2 hne2 h8.2
              · cases h9 : y.2.2 with
                | true => exact (hone.2 hb).1 h9
                | false =>
                  rw [h9] at h8
                  simp at h8
                  exact ((hone.2 hb).2 h9).2.1 hne2 (by simpa using h8)
            refine PQ.round ((k.1 ++ [y.1], o9, nxq y.2.1, (y.2.2 || !decide ((wl y.2.1).headD [] = [59])))) ⟨hoN, nxq_ok hy.2.1, hcn, hall, hpg⟩ hmu (by repeat (first | exact trivial | refine ⟨rfl, ?_⟩)) (by repeat (first | exact .nil | apply Pick.cons | exact .here | apply Ext.there))
    · replace h19 := bF h19
      refine CW.exit ?_
      refine PQ.then_exit ?_
      refine PQ.then_exit ?_
      refine PQ.in_here ?_
      refine PQ.seq ?_
      refine CW.seq ?_
      refine CW.region ?_
      first | (refine LW.v rfl rfl (Val.loadW rfl Tryd.isAgg41 (by repeat (first | exact .here | exact .inner .here | exact .inner (.inner .here) | refine .there ?_)) (by exact Tryd.sizeOf41)) ?_) | (refine LW.v rfl rfl (Val.loadA [_, _, _, _, _] rfl Tryd.isAgg41 (by repeat (first | exact .here | exact .inner .here | exact .inner (.inner .here) | refine .there ?_)) (by rfl) Tryd.sizeOf41) ?_)
      first | (refine LW.eN rfl (Eff.storeW (cs := y.1.cells) rfl rfl (by repeat (first | exact .here | exact .inner .here | exact .inner (.inner .here) | apply Upd.there)) (by rfl) Tryd.sizeOf41 (by first | rfl | (simp only [ownSl_v]; rfl))) ?_) | (refine LW.eN rfl (Eff.storeW (cs := [.int .i64 7, str [], str [], str [], ownV k.1.length k.2.1]) rfl rfl (by repeat (first | exact .here | exact .inner .here | exact .inner (.inner .here) | apply Upd.there)) (by rfl) Tryd.sizeOf41 (by first | rfl | (simp only [ownSl_v]; rfl))) ?_) | (refine LW.eN rfl (Eff.storeW (cs := [.int .i64 7, str [], str [], str [], ownV (k.1.length + 1) o9]) rfl rfl (by repeat (first | exact .here | exact .inner .here | exact .inner (.inner .here) | apply Upd.there)) (by rfl) Tryd.sizeOf41 (by first | rfl | (simp only [ownSl_v]; rfl))) ?_)
      intro _ _
      refine LW.nil ?_
      refine PQ.seq ?_
      refine CW.ret ?_
      refine V.PQ.retC rfl rfl (by repeat (first | exact .here | exact .inner .here | exact .inner (.inner .here) | refine .there ?_)) Tryd.isAgg41 (by exact Tryd.sizeOf41) ?_
      intro w' hw
      have hpc : pCall (wl q) = (pGr (wl (nxq q))).map fun y => ((c0q 7, y.1), y.2) := by
        rw [wl_cons hne]
        simp only [pCall]
        rw [if_pos h10n]
      have hbd : k.2.2.2 = true := by simpa using h19
      refine ⟨((c0q 7, k.1, k.2.1), k.2.2.1, k.2.2.2), ⟨⟨fun _ => hbd, fun hb => ⟨(fun h8 => by rw [hbd] at h8; cases h8), fun _ => ?_⟩⟩, hkq, hk2, ⟨rfl, by unfold Cq.small c0q; simp⟩, hk5⟩, by simp only [Cq.re, Cq.cells, c0q]; rw [← ownSl_v], hw.pick (by repeat (first | exact .nil | apply Pick.cons | exact .here | apply Ext.there))⟩
      rw [hpc, (hkp.2 hb).2 hbd]; rfl
end Go.Proofs.YtagliemeolngiaaDoor
