import Derived.Test.YtlpbjmbgopfkhaaGreatJa3
import Derived.Test.YtlpbjmbgopfkhaaGreatJa4
import Derived.Lib.Hide
/- A call done to a store: the document's, of one call. -/
namespace Go.Proofs.YtlpbjmbgopfkhaaGreat
open Go Go.RowKit V
set_option linter.unusedVariables false
set_option maxRecDepth 100000
namespace I
instance : V.Cal Tryz.prog 27 := ⟨Tryz.call27⟩
instance : V.Cal Tryz.prog 57 := ⟨Tryz.call57⟩
instance : V.Cal Tryz.prog 59 := ⟨Tryz.call59⟩
instance : V.Cal Tryz.prog 60 := ⟨Tryz.call60⟩
instance : V.Cal Tryz.prog 61 := ⟨Tryz.call61⟩
instance : V.Cal Tryz.prog 62 := ⟨Tryz.call62⟩
open V (str byC ownV ownG ownS ownOk)
/-- The store that was handed in, or one of one's own. -/
abbrev ResO := Option (V.OwnO × V.OwnO)
def refV (s : Sf) (A : ShA) : ResO → List Value
  | none => s.cells
  | some y => owC A y
def refP (A : ShA) : ResO → V.Seg
  | none => []
  | some y => ownG 69 (A.1.flatMap prC) y.1
def refQ (A : ShA) : ResO → V.Seg
  | none => []
  | some y => ownG 9 (A.2.flatMap stE) y.2
def refOk (A0 A : ShA) : ResO → Prop
  | none => A = A0
  | some y => OwSh A y
theorem ansP_one (c : Int) (n : Nat) (o : V.OwnO) : (ansC c false [] (ownV n o) (.slice none 0 0)).all (·.oneCell') = true := by
  unfold ansC
  simp only [List.all_cons, List.all_nil, V.ownV_one, Bool.and_true, Bool.true_and]
  rfl
theorem get_del (l : List Pr) (k : List UInt8) : (getF l k).isSome = decide ((delF l k).length < l.length) := by
  induction l with
  | nil => rfl
  | cons x r ih =>
    have h1 : (delF r k).length ≤ r.length := List.length_filter_le _ _
    unfold delF at ih h1 ⊢
    simp only [getF, List.filter_cons]
    by_cases h : x.key = k
    · simp only [h, if_true, Option.isSome_some, decide_true, Bool.not_true, Bool.false_eq_true, if_false, List.length_cons]
      rw [eq_comm, decide_eq_true_eq]
      omega
    · simp only [h, if_false, decide_false, Bool.not_false, if_true, List.length_cons, Nat.add_lt_add_iff_right]
      exact ih
theorem rapply_bad (s : Sf) (A : ShA) (x : Cal) (L : List Cal) (hg : goodF x L ≠ 0) (w : World) (hA : SfR w s A) (hL : L.length ≤ 1000) (hR : x.ck = 7 → CalR w x L) : Calls Tryz.prog 27 [.agg s.cells.toArray, .agg (calC x).toArray].toArray w fun e w' => e = .returned (.tuple #[.agg s.cells.toArray, .agg (ans0 (goodF x L)).toArray]) ∧ Below w.heap.size w w' := by
  refine V.calls [] Tryz.func27 rfl Tryz.ntmps27 (Nat.le_of_ble_eq_true rfl) (V.sat_nil _) <| Sq <| Rg <| Le XA fun b2 _ => Le XA fun b3 _ => Le AA fun b4 _ => Le AA fun b5 _ => Nl <| Ps <| Sq <| Rg <| Le AA fun b6 _ => Nl <| Ps <| Sq <| Rg <| Lv (Lw (l := calC x)) <| Le (CV fun w hw => rgood_c x L hL w (fun h => (hR h).hp hw)) fun _ _ => Lv Av <| Nl <| Ps <| Sq <| Sq <| Rg <| Lv Mv <| Lv Cm <| LW.re 15 (.bool true) rfl (by simp [hg]) <| Nl <| Ps <| Ct <| Sq <| Rg <| Lv Mv <| Lv (Fa 0 45) <| LeN StS fun _ _ => Nl <| Ps <| Sq <| Dr ([[(b2, .cells _ 34 (0, 0))], [(b6, .cells _ 48 (0, 0))]]) ?_
  refine Rv 0 rfl (Lw (l := s.cells)) <| Rv 1 rfl (Lw (l := ans0 (goodF x L))) <| ReN 2 rfl (StW (cs := s.cells) (h1 := by rfl)) fun _ _ => ReN 3 rfl (StW (cs := ans0 (goodF x L)) (h1 := by rfl)) fun _ _ => Rd <| Ps <| Rt <| Tr <| V.PQ.retCC rfl rfl rfl (by repeat (first | exact .here | exact .inner .here | exact .inner (.inner .here) | refine .there ?_)) Tryz.isAgg34 (by exact Tryz.sizeOf34) (by repeat (first | exact .here | exact .inner .here | exact .inner (.inner .here) | refine .there ?_)) Tryz.isAgg48 (by exact Tryz.sizeOf48) ?_
  intro w' hw; exact ⟨rfl, hw.below⟩
theorem rapply0_c (s : Sf) (A : ShA) (x : Cal) (L : List Cal) (hk : x.ck ≠ 7) (w : World) (hA : SfR w s A) (hl : A.1.length ≤ 900 ∧ A.2.length ≤ 900) (hL : L.length ≤ 1000) : Calls Tryz.prog 27 [.agg s.cells.toArray, .agg (calC x).toArray].toArray w fun e w' => ∃ r : ResO × AnsO, (refOk A (apA A x L).1 r.1 ∧ ansOk (apA A x L).2 r.2) ∧ e = .returned (.tuple #[.agg (refV s (apA A x L).1 r.1).toArray, .agg ((apA A x L).2.cells r.2).toArray]) ∧ Hp ⟨w, []⟩ [refP (apA A x L).1 r.1, refQ (apA A x L).1 r.1, ownG 69 ((apA A x L).2.ps.flatMap prC) r.2.1, ownG 4 ((apA A x L).2.hs.flatMap boE) r.2.2] w' := by
  rcases Decidable.em (goodF x L ≠ 0) with hg | hg
  · have hap : apA A x L = (A, ⟨goodF x L, false, [], [], []⟩) := by unfold apA; rw [if_pos hg]
    rw [hap]
    refine (rapply_bad s A x L hg w hA hL (fun h => absurd h hk)).mono fun e w' ⟨he, hb⟩ => ⟨(none, (none, none)), ⟨rfl, ⟨rfl, rfl⟩, ⟨rfl, rfl⟩⟩, he, ?_⟩
    exact ((hp_none w).call_ro hb).perm (by simp [refP, refQ, V.ownG, V.ownS])
  replace hg : goodF x L = 0 := by simpa using hg
  have hkk : x.ck = 1 ∨ x.ck = 2 ∨ x.ck = 3 ∨ x.ck = 4 ∨ x.ck = 5 ∨ x.ck = 6 ∨ x.ck = 8 := by
    rcases good_kind hg with h | h
    · exact h
    · exact absurd h.1 hk
  have hap : apA A x L = doA A x := by unfold apA; rw [if_neg (by simpa using hg), if_neg hk]
  rw [hap]
  clear hap
  have hA0 := hA
  obtain ⟨⟨pa, pn, pc⟩, ⟨qa, qn, qc⟩⟩ := s
  obtain ⟨l, q⟩ := A
  obtain ⟨⟨hn1, h1⟩, ⟨hn2, h2⟩, hcp, hcq⟩ := hA
  simp only at hn1 h1 hn2 h2 hcp hcq hl ⊢
  subst hn1; subst hn2
  obtain ⟨ck, key, val, to, gp, gn, gc⟩ := x
  simp only at hkk
  rcases hkk with rfl | rfl | rfl | rfl | rfl | rfl | rfl
  · refine V.calls [] Tryz.func27 rfl Tryz.ntmps27 (Nat.le_of_ble_eq_true rfl) (V.sat_nil _) <| Sq <| Rg <| Le XA fun b2 _ => Le XA fun b3 _ => Le AA fun b4 _ => Le AA fun b5 _ => Nl <| Ps <| Sq <| Rg <| Le AA fun b6 _ => Nl <| Ps <| Sq <| Rg <| Lv (Lw (l := calC (Cal.mk 1 key val to gp gn gc))) <| Le (CV fun w hw => rgood_c (Cal.mk 1 key val to gp gn gc) L hL w (fun h => absurd h hk)) fun _ _ => Lv Av <| Nl <| Ps <| Sq <| Sq <| Rg <| Lv Mv <| Lv Cm <| LW.re 15 (.bool false) rfl (by rw [hg]; rfl) <| Nl <| Ps <| Cf <| Sk <| Ps <| Sq <| Sq <| Rg <| Lv (Fa 0 3) <| Lv Ld <| Nl <| Ps <| Bk <| Sq <| Rg <| Lv Cm <| LW.re 23 (.bool true) rfl (by rfl) <| Lv Av <| Nl <| Ps <| Ct <| Rg ?_
    first | (refine LW.v rfl rfl (Val.loadW rfl Tryz.isAgg34 (by repeat (first | exact .here | exact .inner .here | exact .inner (.inner .here) | refine .there ?_)) (by exact Tryz.sizeOf34)) ?_) | (refine LW.v rfl rfl (Val.loadA [_, _] rfl Tryz.isAgg34 (by repeat (first | exact .here | exact .inner .here | exact .inner (.inner .here) | refine .there ?_)) (by rfl) Tryz.sizeOf34) ?_)
    refine Lv (Fa 1 9) <| Lv Ld <| Le (CV fun w hw => rget_c _ (l, q) key w (hA0.hp hw (by simp [ids])) (by simp only; omega)) fun _ _ => Lv Mv <| Lv Ex <| Lv Ex <| Lv (Fa 2 9) <| LeN StS fun _ _ => Lv (Fa 1 4) <| LeN StS fun _ _ => Nl <| Bn <| Ps <| Sq <| Dr ([[(b2, .cells _ 34 (0, 0))], [(b6, .cells _ 48 (0, 0))]]) ?_
    refine Rv 0 rfl (Lw (l := [.slice pa l.length pc, .slice qa q.length qc])) <| Rv 1 rfl (Lw (l := (ansC 0 (getF l key).isSome ((getF l key).getD []) (.slice none 0 0) (.slice none 0 0)))) <| ReN 2 rfl (StW (cs := [.slice pa l.length pc, .slice qa q.length qc]) (h1 := by rfl)) fun _ _ => ?_
    first | (refine RW.eN 3 rfl (by kernel_rfl) rfl (Eff.storeW rfl rfl (by repeat (first | exact .here | exact .inner .here | exact .inner (.inner .here) | apply Upd.there)) (by rfl) Tryz.sizeOf48 (by rfl)) (fun x => ⟨_, (by repeat (first | exact .nil | apply Pick.cons | exact .here | apply Ext.there))⟩) ?_) | (refine RW.eN 3 rfl (by kernel_rfl) rfl (Eff.storeA (l' := _) rfl rfl (by repeat (first | exact .here | exact .inner .here | exact .inner (.inner .here) | apply Upd.there)) (by rfl) (by decide) Tryz.sizeOf48 (by rfl)) (fun x => ⟨_, (by repeat (first | exact .nil | apply Pick.cons | exact .here | apply Ext.there))⟩) ?_)
    intro _ _
    refine Rd <| Ps <| Rt <| V.PQ.retCC rfl rfl rfl (by repeat (first | exact .here | exact .inner .here | exact .inner (.inner .here) | refine .there ?_)) Tryz.isAgg34 (by exact Tryz.sizeOf34) (by repeat (first | exact .here | exact .inner .here | exact .inner (.inner .here) | refine .there ?_)) Tryz.isAgg48 (by exact Tryz.sizeOf48) fun w' hw => ?_
    exact ⟨(none, (none, none)), ⟨rfl, ⟨rfl, rfl⟩, ⟨rfl, rfl⟩⟩, rfl, (hw.pick (ss := []) (by repeat (first | exact .nil | apply Pick.cons | exact .here | apply Ext.there))).perm (by simp [refP, refQ, V.ownG, V.ownS, doA])⟩
  · refine V.calls [] Tryz.func27 rfl Tryz.ntmps27 (Nat.le_of_ble_eq_true rfl) (V.sat_nil _) <| Sq <| Rg <| Le XA fun b2 _ => Le XA fun b3 _ => Le AA fun b4 _ => Le AA fun b5 _ => Nl <| Ps <| Sq <| Rg <| Le AA fun b6 _ => Nl <| Ps <| Sq <| Rg <| Lv (Lw (l := calC (Cal.mk 2 key val to gp gn gc))) <| Le (CV fun w hw => rgood_c (Cal.mk 2 key val to gp gn gc) L hL w (fun h => absurd h hk)) fun _ _ => Lv Av <| Nl <| Ps <| Sq <| Sq <| Rg <| Lv Mv <| Lv Cm <| LW.re 15 (.bool false) rfl (by rw [hg]; rfl) <| Nl <| Ps <| Cf <| Sk <| Ps <| Sq <| Sq <| Rg <| Lv (Fa 0 3) <| Lv Ld <| Nl <| Ps <| Bk <| Sq <| Rg <| Lv Cm <| LW.re 23 (.bool false) rfl (by rfl) <| Lv Av <| Nl <| Ps <| Cf <| Sq <| Rg <| Lv Cm <| LW.re 34 (.bool true) rfl (by rfl) <| Lv Av <| Nl <| Ps <| Ct <| Sq <| Rg ?_
    first | (refine LW.v rfl rfl (Val.loadW rfl Tryz.isAgg34 (by repeat (first | exact .here | exact .inner .here | exact .inner (.inner .here) | refine .there ?_)) (by exact Tryz.sizeOf34)) ?_) | (refine LW.v rfl rfl (Val.loadA [_, _] rfl Tryz.isAgg34 (by repeat (first | exact .here | exact .inner .here | exact .inner (.inner .here) | refine .there ?_)) (by rfl) Tryz.sizeOf34) ?_)
    refine Lv (Fa 1 9) <| Lv Ld <| Le (CV fun w hw => rget_c _ (l, q) key w (hA0.hp hw (by simp [ids])) (by simp only; omega)) fun _ _ => Lv Mv <| Lv Ex <| Lv Ex <| Lv (Fa 1 4) <| LeN StS fun _ _ => Nl <| Ps <| Rg ?_
    first | (refine LW.v rfl rfl (Val.loadW rfl Tryz.isAgg34 (by repeat (first | exact .here | exact .inner .here | exact .inner (.inner .here) | refine .there ?_)) (by exact Tryz.sizeOf34)) ?_) | (refine LW.v rfl rfl (Val.loadA [_, _] rfl Tryz.isAgg34 (by repeat (first | exact .here | exact .inner .here | exact .inner (.inner .here) | refine .there ?_)) (by rfl) Tryz.sizeOf34) ?_)
    refine Lv (Fa 1 9) <| Lv Ld <| Lv (Fa 2 9) <| Lv Ld <| Le (CM [] fun w hw hs0 => rput_c _ (l, q) key val w (hA0.hp hw (by simp [ids])) (by simp only; omega)) fun y hy => LeN (StW (cs := owC ((putF l key val), q) y) (h1 := by simp [owC, V.ownV_one])) fun _ _ => Nl <| Bn <| Ps <| Sq <| Dr ([[(b2, .cells _ 34 (0, 0))], [(b6, .cells _ 48 (0, 0))]]) ?_
    refine Rv 0 rfl (Lw (l := owC ((putF l key val), q) y)) <| Rv 1 rfl (Lw (l := (ansC 0 (getF l key).isSome [] (.slice none 0 0) (.slice none 0 0)))) <| ReN 2 rfl (StW (cs := owC ((putF l key val), q) y) (h1 := by simp [owC, V.ownV_one])) fun _ _ => ?_
    first | (refine RW.eN 3 rfl (by kernel_rfl) rfl (Eff.storeW rfl rfl (by repeat (first | exact .here | exact .inner .here | exact .inner (.inner .here) | apply Upd.there)) (by rfl) Tryz.sizeOf48 (by rfl)) (fun x => ⟨_, (by repeat (first | exact .nil | apply Pick.cons | exact .here | apply Ext.there))⟩) ?_) | (refine RW.eN 3 rfl (by kernel_rfl) rfl (Eff.storeA (l' := _) rfl rfl (by repeat (first | exact .here | exact .inner .here | exact .inner (.inner .here) | apply Upd.there)) (by rfl) (by decide) Tryz.sizeOf48 (by rfl)) (fun x => ⟨_, (by repeat (first | exact .nil | apply Pick.cons | exact .here | apply Ext.there))⟩) ?_)
    intro _ _
    refine Rd <| Ps <| Rt <| V.PQ.retCC rfl rfl rfl (by repeat (first | exact .here | exact .inner .here | exact .inner (.inner .here) | refine .there ?_)) Tryz.isAgg34 (by exact Tryz.sizeOf34) (by repeat (first | exact .here | exact .inner .here | exact .inner (.inner .here) | refine .there ?_)) Tryz.isAgg48 (by exact Tryz.sizeOf48) fun w' hw => ?_
    exact ⟨(some y, (none, none)), ⟨hy, ⟨rfl, rfl⟩, ⟨rfl, rfl⟩⟩, rfl, (hw.pick (ss := [ownG 69 ((putF l key val).flatMap prC) y.1, ownG 9 (q.flatMap stE) y.2]) (by repeat (first | exact .nil | apply Pick.cons | exact .here | apply Ext.there))).perm (by simp [refP, refQ, V.ownG, V.ownS, doA])⟩
  · refine V.calls [] Tryz.func27 rfl Tryz.ntmps27 (Nat.le_of_ble_eq_true rfl) (V.sat_nil _) <| Sq <| Rg <| Le XA fun b2 _ => Le XA fun b3 _ => Le AA fun b4 _ => Le AA fun b5 _ => Nl <| Ps <| Sq <| Rg <| Le AA fun b6 _ => Nl <| Ps <| Sq <| Rg <| Lv (Lw (l := calC (Cal.mk 3 key val to gp gn gc))) <| Le (CV fun w hw => rgood_c (Cal.mk 3 key val to gp gn gc) L hL w (fun h => absurd h hk)) fun _ _ => Lv Av <| Nl <| Ps <| Sq <| Sq <| Rg <| Lv Mv <| Lv Cm <| LW.re 15 (.bool false) rfl (by rw [hg]; rfl) <| Nl <| Ps <| Cf <| Sk <| Ps <| Sq <| Sq <| Rg <| Lv (Fa 0 3) <| Lv Ld <| Nl <| Ps <| Bk <| Sq <| Rg <| Lv Cm <| LW.re 23 (.bool false) rfl (by rfl) <| Lv Av <| Nl <| Ps <| Cf <| Sq <| Rg <| Lv Cm <| LW.re 34 (.bool false) rfl (by rfl) <| Lv Av <| Nl <| Ps <| Cf <| Sq <| Rg <| Lv Cm <| LW.re 50 (.bool true) rfl (by rfl) <| Lv Av <| Nl <| Ps <| Ct <| Sq <| Rg ?_
    first | (refine LW.v rfl rfl (Val.loadW rfl Tryz.isAgg34 (by repeat (first | exact .here | exact .inner .here | exact .inner (.inner .here) | refine .there ?_)) (by exact Tryz.sizeOf34)) ?_) | (refine LW.v rfl rfl (Val.loadA [_, _] rfl Tryz.isAgg34 (by repeat (first | exact .here | exact .inner .here | exact .inner (.inner .here) | refine .there ?_)) (by rfl) Tryz.sizeOf34) ?_)
    refine Lv (Fa 1 9) <| Lv Ld <| Le (CV fun w hw => rget_c _ (l, q) key w (hA0.hp hw (by simp [ids])) (by simp only; omega)) fun _ _ => Lv Mv <| Lv Ex <| Lv Ex <| Lv (Fa 1 4) <| LeN StS fun _ _ => Nl <| Ps <| Rg ?_
    first | (refine LW.v rfl rfl (Val.loadW rfl Tryz.isAgg34 (by repeat (first | exact .here | exact .inner .here | exact .inner (.inner .here) | refine .there ?_)) (by exact Tryz.sizeOf34)) ?_) | (refine LW.v rfl rfl (Val.loadA [_, _] rfl Tryz.isAgg34 (by repeat (first | exact .here | exact .inner .here | exact .inner (.inner .here) | refine .there ?_)) (by rfl) Tryz.sizeOf34) ?_)
    refine Lv (Fa 1 9) <| Lv Ld <| Le (CM [] fun w hw hs0 => rdel_c _ (l, q) key w (hA0.hp hw (by simp [ids])) (by simp only; omega)) fun y hy => LeN (StW (cs := owC ((delF l key), q) y) (h1 := by simp [owC, V.ownV_one])) fun _ _ => Nl <| Bn <| Ps <| Sq <| Dr ([[(b2, .cells _ 34 (0, 0))], [(b6, .cells _ 48 (0, 0))]]) ?_
    refine Rv 0 rfl (Lw (l := owC ((delF l key), q) y)) <| Rv 1 rfl (Lw (l := (ansC 0 (getF l key).isSome [] (.slice none 0 0) (.slice none 0 0)))) <| ReN 2 rfl (StW (cs := owC ((delF l key), q) y) (h1 := by simp [owC, V.ownV_one])) fun _ _ => ?_
    first | (refine RW.eN 3 rfl (by kernel_rfl) rfl (Eff.storeW rfl rfl (by repeat (first | exact .here | exact .inner .here | exact .inner (.inner .here) | apply Upd.there)) (by rfl) Tryz.sizeOf48 (by rfl)) (fun x => ⟨_, (by repeat (first | exact .nil | apply Pick.cons | exact .here | apply Ext.there))⟩) ?_) | (refine RW.eN 3 rfl (by kernel_rfl) rfl (Eff.storeA (l' := _) rfl rfl (by repeat (first | exact .here | exact .inner .here | exact .inner (.inner .here) | apply Upd.there)) (by rfl) (by decide) Tryz.sizeOf48 (by rfl)) (fun x => ⟨_, (by repeat (first | exact .nil | apply Pick.cons | exact .here | apply Ext.there))⟩) ?_)
    intro _ _
    refine Rd <| Ps <| Rt <| V.PQ.retCC rfl rfl rfl (by repeat (first | exact .here | exact .inner .here | exact .inner (.inner .here) | refine .there ?_)) Tryz.isAgg34 (by exact Tryz.sizeOf34) (by repeat (first | exact .here | exact .inner .here | exact .inner (.inner .here) | refine .there ?_)) Tryz.isAgg48 (by exact Tryz.sizeOf48) ?_
    have hgd := get_del l key
    intro w' hw
    exact ⟨(some y, (none, none)), ⟨hy, ⟨rfl, rfl⟩, ⟨rfl, rfl⟩⟩, by simp only [doA]; rw [← hgd]; rfl, (hw.pick (ss := [ownG 69 ((delF l key).flatMap prC) y.1, ownG 9 (q.flatMap stE) y.2]) (by repeat (first | exact .nil | apply Pick.cons | exact .here | apply Ext.there))).perm (by simp [refP, refQ, V.ownG, V.ownS, doA])⟩
  · refine V.calls [] Tryz.func27 rfl Tryz.ntmps27 (Nat.le_of_ble_eq_true rfl) (V.sat_nil _) <| Sq <| Rg <| Le XA fun b2 _ => Le XA fun b3 _ => Le AA fun b4 _ => Le AA fun b5 _ => Nl <| Ps <| Sq <| Rg <| Le AA fun b6 _ => Nl <| Ps <| Sq <| Rg <| Lv (Lw (l := calC (Cal.mk 4 key val to gp gn gc))) <| Le (CV fun w hw => rgood_c (Cal.mk 4 key val to gp gn gc) L hL w (fun h => absurd h hk)) fun _ _ => Lv Av <| Nl <| Ps <| Sq <| Sq <| Rg <| Lv Mv <| Lv Cm <| LW.re 15 (.bool false) rfl (by rw [hg]; rfl) <| Nl <| Ps <| Cf <| Sk <| Ps <| Sq <| Sq <| Rg <| Lv (Fa 0 3) <| Lv Ld <| Nl <| Ps <| Bk <| Sq <| Rg <| Lv Cm <| LW.re 23 (.bool false) rfl (by rfl) <| Lv Av <| Nl <| Ps <| Cf <| Sq <| Rg <| Lv Cm <| LW.re 34 (.bool false) rfl (by rfl) <| Lv Av <| Nl <| Ps <| Cf <| Sq <| Rg <| Lv Cm <| LW.re 50 (.bool false) rfl (by rfl) <| Lv Av <| Nl <| Ps <| Cf <| Sq <| Rg <| Lv Cm <| LW.re 64 (.bool true) rfl (by rfl) <| Lv Av <| Nl <| Ps <| Ct <| Rg ?_
    first | (refine LW.v rfl rfl (Val.loadW rfl Tryz.isAgg34 (by repeat (first | exact .here | exact .inner .here | exact .inner (.inner .here) | refine .there ?_)) (by exact Tryz.sizeOf34)) ?_) | (refine LW.v rfl rfl (Val.loadA [_, _] rfl Tryz.isAgg34 (by repeat (first | exact .here | exact .inner .here | exact .inner (.inner .here) | refine .there ?_)) (by rfl) Tryz.sizeOf34) ?_)
    refine Lv (Fa 2 9) <| Lv Ld <| Le (CM [] fun w hw hs0 => rpush_c _ (l, q) val w (hA0.hp hw (by simp [ids])) (by simp only; omega)) fun y hy => LeN (StW (cs := owC (l, (q ++ [val])) y) (h1 := by simp [owC, V.ownV_one])) fun _ _ => Nl <| Bn <| Ps <| Sq <| Dr ([[(b2, .cells _ 34 (0, 0))], [(b6, .cells _ 48 (0, 0))]]) ?_
    refine Rv 0 rfl (Lw (l := owC (l, (q ++ [val])) y)) <| Rv 1 rfl (Lw (l := (ansC 0 false [] (.slice none 0 0) (.slice none 0 0)))) <| ReN 2 rfl (StW (cs := owC (l, (q ++ [val])) y) (h1 := by simp [owC, V.ownV_one])) fun _ _ => ?_
    first | (refine RW.eN 3 rfl (by kernel_rfl) rfl (Eff.storeW rfl rfl (by repeat (first | exact .here | exact .inner .here | exact .inner (.inner .here) | apply Upd.there)) (by rfl) Tryz.sizeOf48 (by rfl)) (fun x => ⟨_, (by repeat (first | exact .nil | apply Pick.cons | exact .here | apply Ext.there))⟩) ?_) | (refine RW.eN 3 rfl (by kernel_rfl) rfl (Eff.storeA (l' := _) rfl rfl (by repeat (first | exact .here | exact .inner .here | exact .inner (.inner .here) | apply Upd.there)) (by rfl) (by decide) Tryz.sizeOf48 (by rfl)) (fun x => ⟨_, (by repeat (first | exact .nil | apply Pick.cons | exact .here | apply Ext.there))⟩) ?_)
    intro _ _
    refine Rd <| Ps <| Rt <| V.PQ.retCC rfl rfl rfl (by repeat (first | exact .here | exact .inner .here | exact .inner (.inner .here) | refine .there ?_)) Tryz.isAgg34 (by exact Tryz.sizeOf34) (by repeat (first | exact .here | exact .inner .here | exact .inner (.inner .here) | refine .there ?_)) Tryz.isAgg48 (by exact Tryz.sizeOf48) fun w' hw => ?_
    exact ⟨(some y, (none, none)), ⟨hy, ⟨rfl, rfl⟩, ⟨rfl, rfl⟩⟩, rfl, (hw.pick (ss := [ownG 69 (l.flatMap prC) y.1, ownG 9 ((q ++ [val]).flatMap stE) y.2]) (by repeat (first | exact .nil | apply Pick.cons | exact .here | apply Ext.there))).perm (by simp [refP, refQ, V.ownG, V.ownS, doA])⟩
  · refine V.calls [] Tryz.func27 rfl Tryz.ntmps27 (Nat.le_of_ble_eq_true rfl) (V.sat_nil _) <| Sq <| Rg <| Le XA fun b2 _ => Le XA fun b3 _ => Le AA fun b4 _ => Le AA fun b5 _ => Nl <| Ps <| Sq <| Rg <| Le AA fun b6 _ => Nl <| Ps <| Sq <| Rg <| Lv (Lw (l := calC (Cal.mk 5 key val to gp gn gc))) <| Le (CV fun w hw => rgood_c (Cal.mk 5 key val to gp gn gc) L hL w (fun h => absurd h hk)) fun _ _ => Lv Av <| Nl <| Ps <| Sq <| Sq <| Rg <| Lv Mv <| Lv Cm <| LW.re 15 (.bool false) rfl (by rw [hg]; rfl) <| Nl <| Ps <| Cf <| Sk <| Ps <| Sq <| Sq <| Rg <| Lv (Fa 0 3) <| Lv Ld <| Nl <| Ps <| Bk <| Sq <| Rg <| Lv Cm <| LW.re 23 (.bool false) rfl (by rfl) <| Lv Av <| Nl <| Ps <| Cf <| Sq <| Rg <| Lv Cm <| LW.re 34 (.bool false) rfl (by rfl) <| Lv Av <| Nl <| Ps <| Cf <| Sq <| Rg <| Lv Cm <| LW.re 50 (.bool false) rfl (by rfl) <| Lv Av <| Nl <| Ps <| Cf <| Sq <| Rg <| Lv Cm <| LW.re 64 (.bool false) rfl (by rfl) <| Lv Av <| Nl <| Ps <| Cf <| Sq <| Rg <| Lv Cm <| LW.re 70 (.bool true) rfl (by rfl) <| Lv Av <| Nl <| Ps <| Ct <| Sq <| Sq <| Rg <| Lv (Fa 1 32) <| Lv Ld <| Lv Ln <| Lv Cm <| Nl <| Ps ?_
    refine CW.cond rfl (fun h74 => ?_) (fun h74 => ?_)
    · replace h74 := bT h74
      have h74 : (0 : Int) < (q.length : Int) := h74
      obtain ⟨bb1, o1, x, rfl, hb1, hx1, hr1⟩ := V.slAt_at h2 rfl (k := 0) (by omega)
      refine Sq <| Rg <| Lv (Fa 1 4) <| LeN StS fun _ _ => Nl <| Ps <| Rg <| Lv (Fa 1 32) <| Lv Ld <| Lv (Val.indexAddrN (i := 0) rfl rfl Tryz.underlying32 Tryz.sizeOf9 (by omega)) <| Lv (Val.loadO rfl Tryz.isAgg9 hb1 (by simp [ids]) (hr1 0 x hx1 0 _ rfl)) <| Lv (Fa 2 9) <| LeN StS fun _ _ => Nl <| Ps <| Rg ?_
      first | (refine LW.v rfl rfl (Val.loadW rfl Tryz.isAgg34 (by repeat (first | exact .here | exact .inner .here | exact .inner (.inner .here) | refine .there ?_)) (by exact Tryz.sizeOf34)) ?_) | (refine LW.v rfl rfl (Val.loadA [_, _] rfl Tryz.isAgg34 (by repeat (first | exact .here | exact .inner .here | exact .inner (.inner .here) | refine .there ?_)) (by rfl) Tryz.sizeOf34) ?_)
      refine Le (CM [] fun w hw hs0 => rpop_c _ (l, q) w (hA0.hp hw (by simp [ids])) (by simp only; omega)) fun y hy => LeN (StW (cs := owC (l, (q.drop 1)) y) (h1 := by simp [owC, V.ownV_one])) fun _ _ => Nl <| Bn <| Ps <| Sq <| Dr ([[(b2, .cells _ 34 (0, 0))], [(b6, .cells _ 48 (0, 0))]]) ?_
      refine Rv 0 rfl (Lw (l := owC (l, (q.drop 1)) y)) <| Rv 1 rfl (Lw (l := (ansC 0 true x (.slice none 0 0) (.slice none 0 0)))) <| ReN 2 rfl (StW (cs := owC (l, (q.drop 1)) y) (h1 := by simp [owC, V.ownV_one])) fun _ _ => ?_
      first | (refine RW.eN 3 rfl (by kernel_rfl) rfl (Eff.storeW rfl rfl (by repeat (first | exact .here | exact .inner .here | exact .inner (.inner .here) | apply Upd.there)) (by rfl) Tryz.sizeOf48 (by rfl)) (fun x => ⟨_, (by repeat (first | exact .nil | apply Pick.cons | exact .here | apply Ext.there))⟩) ?_) | (refine RW.eN 3 rfl (by kernel_rfl) rfl (Eff.storeA (l' := _) rfl rfl (by repeat (first | exact .here | exact .inner .here | exact .inner (.inner .here) | apply Upd.there)) (by rfl) (by decide) Tryz.sizeOf48 (by rfl)) (fun x => ⟨_, (by repeat (first | exact .nil | apply Pick.cons | exact .here | apply Ext.there))⟩) ?_)
      intro _ _
      refine Rd <| Ps <| Rt <| V.PQ.retCC rfl rfl rfl (by repeat (first | exact .here | exact .inner .here | exact .inner (.inner .here) | refine .there ?_)) Tryz.isAgg34 (by exact Tryz.sizeOf34) (by repeat (first | exact .here | exact .inner .here | exact .inner (.inner .here) | refine .there ?_)) Tryz.isAgg48 (by exact Tryz.sizeOf48) ?_
      have hq9 : decide (q ≠ []) = true ∧ (q[0]?).getD [] = x := by rw [hx1]; exact ⟨by rw [decide_eq_true_eq]; intro e; rw [e] at hx1; simp at hx1, rfl⟩
      intro w' hw
      exact ⟨(some y, (none, none)), ⟨hy, ⟨rfl, rfl⟩, ⟨rfl, rfl⟩⟩, by simp only [doA]; rw [hq9.1, hq9.2]; rfl, (hw.pick (ss := [ownG 69 (l.flatMap prC) y.1, ownG 9 ((q.drop 1).flatMap stE) y.2]) (by repeat (first | exact .nil | apply Pick.cons | exact .here | apply Ext.there))).perm (by simp [refP, refQ, V.ownG, V.ownS, doA])⟩
    · replace h74 := bF h74
      have h74 : (q.length : Int) ≤ 0 := h74
      refine Sk <| Ps <| Rg ?_
      first | (refine LW.v rfl rfl (Val.loadW rfl Tryz.isAgg34 (by repeat (first | exact .here | exact .inner .here | exact .inner (.inner .here) | refine .there ?_)) (by exact Tryz.sizeOf34)) ?_) | (refine LW.v rfl rfl (Val.loadA [_, _] rfl Tryz.isAgg34 (by repeat (first | exact .here | exact .inner .here | exact .inner (.inner .here) | refine .there ?_)) (by rfl) Tryz.sizeOf34) ?_)
      refine Le (CM [] fun w hw hs0 => rpop_c _ (l, q) w (hA0.hp hw (by simp [ids])) (by simp only; omega)) fun y hy => LeN (StW (cs := owC (l, (q.drop 1)) y) (h1 := by simp [owC, V.ownV_one])) fun _ _ => Nl <| Bn <| Ps <| Sq <| Dr ([[(b2, .cells _ 34 (0, 0))], [(b6, .cells _ 48 (0, 0))]]) ?_
      refine Rv 0 rfl (Lw (l := owC (l, (q.drop 1)) y)) <| Rv 1 rfl (Lw (l := (ansC 0 false [] (.slice none 0 0) (.slice none 0 0)))) <| ReN 2 rfl (StW (cs := owC (l, (q.drop 1)) y) (h1 := by simp [owC, V.ownV_one])) fun _ _ => ?_
      first | (refine RW.eN 3 rfl (by kernel_rfl) rfl (Eff.storeW rfl rfl (by repeat (first | exact .here | exact .inner .here | exact .inner (.inner .here) | apply Upd.there)) (by rfl) Tryz.sizeOf48 (by rfl)) (fun x => ⟨_, (by repeat (first | exact .nil | apply Pick.cons | exact .here | apply Ext.there))⟩) ?_) | (refine RW.eN 3 rfl (by kernel_rfl) rfl (Eff.storeA (l' := _) rfl rfl (by repeat (first | exact .here | exact .inner .here | exact .inner (.inner .here) | apply Upd.there)) (by rfl) (by decide) Tryz.sizeOf48 (by rfl)) (fun x => ⟨_, (by repeat (first | exact .nil | apply Pick.cons | exact .here | apply Ext.there))⟩) ?_)
      intro _ _
      refine Rd <| Ps <| Rt <| V.PQ.retCC rfl rfl rfl (by repeat (first | exact .here | exact .inner .here | exact .inner (.inner .here) | refine .there ?_)) Tryz.isAgg34 (by exact Tryz.sizeOf34) (by repeat (first | exact .here | exact .inner .here | exact .inner (.inner .here) | refine .there ?_)) Tryz.isAgg48 (by exact Tryz.sizeOf48) ?_
      have hq9 : decide (q ≠ []) = false ∧ (q[0]?).getD [] = [] := by
        have hq0 : q = [] := List.length_eq_zero_iff.1 (by omega)
        subst hq0; exact ⟨rfl, rfl⟩
      intro w' hw
      exact ⟨(some y, (none, none)), ⟨hy, ⟨rfl, rfl⟩, ⟨rfl, rfl⟩⟩, by simp only [doA]; rw [hq9.1, hq9.2]; rfl, (hw.pick (ss := [ownG 69 (l.flatMap prC) y.1, ownG 9 ((q.drop 1).flatMap stE) y.2]) (by repeat (first | exact .nil | apply Pick.cons | exact .here | apply Ext.there))).perm (by simp [refP, refQ, V.ownG, V.ownS, doA])⟩
  · refine V.calls [] Tryz.func27 rfl Tryz.ntmps27 (Nat.le_of_ble_eq_true rfl) (V.sat_nil _) <| Sq <| Rg <| Le XA fun b2 _ => Le XA fun b3 _ => Le AA fun b4 _ => Le AA fun b5 _ => Nl <| Ps <| Sq <| Rg <| Le AA fun b6 _ => Nl <| Ps <| Sq <| Rg <| Lv (Lw (l := calC (Cal.mk 6 key val to gp gn gc))) <| Le (CV fun w hw => rgood_c (Cal.mk 6 key val to gp gn gc) L hL w (fun h => absurd h hk)) fun _ _ => Lv Av <| Nl <| Ps <| Sq <| Sq <| Rg <| Lv Mv <| Lv Cm <| LW.re 15 (.bool false) rfl (by rw [hg]; rfl) <| Nl <| Ps <| Cf <| Sk <| Ps <| Sq <| Sq <| Rg <| Lv (Fa 0 3) <| Lv Ld <| Nl <| Ps <| Bk <| Sq <| Rg <| Lv Cm <| LW.re 23 (.bool false) rfl (by rfl) <| Lv Av <| Nl <| Ps <| Cf <| Sq <| Rg <| Lv Cm <| LW.re 34 (.bool false) rfl (by rfl) <| Lv Av <| Nl <| Ps <| Cf <| Sq <| Rg <| Lv Cm <| LW.re 50 (.bool false) rfl (by rfl) <| Lv Av <| Nl <| Ps <| Cf <| Sq <| Rg <| Lv Cm <| LW.re 64 (.bool false) rfl (by rfl) <| Lv Av <| Nl <| Ps <| Cf <| Sq <| Rg <| Lv Cm <| LW.re 70 (.bool false) rfl (by rfl) <| Lv Av <| Nl <| Ps <| Cf <| Sq <| Rg <| Lv Cm <| LW.re 84 (.bool true) rfl (by rfl) <| Lv Av <| Nl <| Ps <| Ct <| Sq <| Rg <| Lv Av <| Nl <| Ps <| Bk <| V.CW.addOwn 69 <| loopA (γ := Nat × V.OwnO) (fun k => [(2, .pointer (some ⟨b2, 0, none⟩)), (3, .pointer (some ⟨b3, 0, none⟩)), (4, .pointer (some ⟨b4, 0, none⟩)), (5, .pointer (some ⟨b5, 0, none⟩)), (6, .pointer (some ⟨b6, 0, none⟩)), (8, .int .i64 (k.1 : Nat))]) (fun k => [[(b2, .cells [.slice pa l.length pc, .slice qa q.length qc].toArray 34 (0, 0))], [(b3, .cells (calC (Cal.mk 6 key val to gp gn gc)).toArray 52 (0, 0))], [(b4, .cells [.slice none 0 0, .slice none 0 0].toArray 34 (0, 0))], [(b5, .cells (ans0 0).toArray 48 (0, 0))], [(b6, .cells (ansC 0 false [] (ownV (scanF (l.take k.1) key to).length k.2) (.slice none 0 0)).toArray 48 (0, 0))], ownG 69 ((scanF (l.take k.1) key to).flatMap prC) k.2]) (fun k => k.1 ≤ l.length ∧ ownOk 2 (scanF (l.take k.1) key to).length ((scanF (l.take k.1) key to).flatMap prC) k.2) (fun k => l.length - k.1) ((0, none)) ⟨Nat.zero_le _, ⟨rfl, rfl⟩⟩ fun k => ?_
    rintro ⟨hk1, hk2⟩
    refine Sq <| Sq <| Rg <| Lv Mv <| Lv (Fa 0 31) <| Lv Ld <| Lv Ln <| Lv Cm <| Nl <| Ps ?_
    refine CW.cond rfl (fun h89 => ?_) (fun h89 => ?_)
    · replace h89 := bT h89
      have hk9 : k.1 < l.length := by omega
      obtain ⟨bb1, o1, u, rfl, hb1, hx1, hr1⟩ := V.slAt_at h1 rfl (k := k.1) hk9
      refine Sk <| Ps <| Sq <| Bk <| Sq <| Qt <| Qv (Fa 0 31) <| Qv Ld <| Qv Mv <| Qv Ix <| Qv (Fa 0 9) <| Qv (Val.loadO rfl Tryz.isAgg9 hb1 (by simp [ids]) (hr1 k.1 u hx1 0 _ rfl)) <| Qv (Fa 1 9) <| Qv Ld <| Qv (Val.geStr rfl rfl) ?_
      refine QW.split (d := 100) rfl (fun h100 => ?_) (fun h100 => ?_)
      · replace h100 := bT h100
        have h100 : ¬ u.key < key := by simpa using h100
        refine Qv Mv <| Qv (Fa 3 9) <| Qv Ld <| Qv ES ?_
        refine QW.split (d := 104) rfl (fun h104 => ?_) (fun h104 => ?_)
        · replace h104 := bT h104
          have h104 : to = [] := by simpa using h104
          refine Qv Mv <| Qp <| Qp <| Qp <| Qp <| Qp <| Qp <| Qp <| Qp <| Qp <| Qv Pt <| Qv Pt <| Ql <| Ps <| Ct ?_
          refine CW.regJoin (fun o9 : V.OwnO => ownOk 2 ((scanF (l.take k.1) key to).length + 1) ((scanF (l.take k.1) key to).flatMap prC ++ prC u) o9) (fun _ => [(2, .pointer (some ⟨b2, 0, none⟩)), (3, .pointer (some ⟨b3, 0, none⟩)), (4, .pointer (some ⟨b4, 0, none⟩)), (5, .pointer (some ⟨b5, 0, none⟩)), (6, .pointer (some ⟨b6, 0, none⟩)), (8, .int .i64 (k.1 : Nat))]) (fun o9 => [[(b2, .cells [.slice (some ⟨bb1, o1, none⟩) l.length pc, .slice qa q.length qc].toArray 34 (0, 0))], [(b3, .cells (calC (Cal.mk 6 key val to gp gn gc)).toArray 52 (0, 0))], [(b4, .cells [.slice none 0 0, .slice none 0 0].toArray 34 (0, 0))], [(b5, .cells (ans0 0).toArray 48 (0, 0))], [(b6, .cells (ansC 0 false [] (ownV ((scanF (l.take k.1) key to).length + 1) o9) (.slice none 0 0)).toArray 48 (0, 0))], ownG 69 ((scanF (l.take k.1) key to).flatMap prC ++ prC u) o9]) ?_ ?_
          · refine Dr ([[(b2, .cells _ 34 (0, 0))]]) ?_
            refine Rv 0 rfl (Fa 3 31) <| Rv 2 rfl (Fa 0 31) <| Rv 3 rfl Ld <| Rv 4 rfl Mv <| Rv 5 rfl Ix <| Rv 6 rfl (Val.loadOA rfl Tryz.isAgg69 hb1 (by simp [ids]) (hr1 k.1 u hx1) Tryz.sizeOf69) <| RW.any [1, 7] (by kernel_rfl) (by simp) fun i hi => ?_
            simp only [List.mem_cons, List.not_mem_nil, or_false] at hi
            rcases hi with rfl | rfl
            · refine Ro rfl (Eff.ofVal (Val.load (v := ownV (scanF (l.take k.1) key to).length k.2) rfl Tryz.isAgg31 (by repeat (first | exact .here | exact .inner .here | exact .inner (.inner .here) | refine .there ?_)) (by rfl))) fun _ _ => Re 7 rfl (Eff.buildSlice (rfl) [_, _] Tryz.underlying31 Tryz.sizeOf69 (by exact Tryz.zeroValue69) rfl rfl rfl rfl (by rfl)) fun b124 _ => Re 8 rfl (Eff.appendAny (prC u) (sz := 2) (bytes := 32) (z := .agg #[.string ⟨#[]⟩, .string ⟨#[]⟩]) (xs := (scanF (l.take k.1) key to).flatMap prC) (m0 := (scanF (l.take k.1) key to).length) (o := k.2) (m := 1) (pk := [ownG 69 ((scanF (l.take k.1) key to).flatMap prC) k.2]) rfl rfl Tryz.underlying31 (by kernel_rfl) rfl (by omega) (by repeat (first | exact .nil | apply Pick.cons | exact .here | apply Ext.there)) (by simp) hk2 (by rfl) (fun hm0 => ⟨b124, 0, rfl, fun w hw => V.range_of_block (o := 0) (cs := prC u) (r := []) (hw.own _ (show InS (b124, .cells (prC u).toArray 69 (0, 0)) _ from (by repeat (first | exact .here | exact .inner .here | exact .inner (.inner .here) | refine .there ?_))).mem) rfl⟩) (by rfl) (by have := List.length_filter_le (scB key to) (l.take k.1); unfold scanF; rw [List.length_take] at this; omega) (by have := List.length_filter_le (scB key to) (l.take k.1); unfold scanF; rw [List.length_take] at this; omega)) fun o9 ho9 => Rv 9 rfl (Fa 3 31) <| ReN 10 rfl (StS (h1 := V.ownV_one _ _)) fun _ _ => Rd ?_
              exact joinA (o9) (ho9)
            · refine Ro rfl (Eff.buildSlice (rfl) [_, _] Tryz.underlying31 Tryz.sizeOf69 (by exact Tryz.zeroValue69) rfl rfl rfl rfl (by rfl)) fun b124 _ => Re 1 rfl (Eff.ofVal (Val.load (v := ownV (scanF (l.take k.1) key to).length k.2) rfl Tryz.isAgg31 (by repeat (first | exact .here | exact .inner .here | exact .inner (.inner .here) | refine .there ?_)) (by rfl))) fun _ _ => Re 8 rfl (Eff.appendAny (prC u) (sz := 2) (bytes := 32) (z := .agg #[.string ⟨#[]⟩, .string ⟨#[]⟩]) (xs := (scanF (l.take k.1) key to).flatMap prC) (m0 := (scanF (l.take k.1) key to).length) (o := k.2) (m := 1) (pk := [ownG 69 ((scanF (l.take k.1) key to).flatMap prC) k.2]) rfl rfl Tryz.underlying31 (by kernel_rfl) rfl (by omega) (by repeat (first | exact .nil | apply Pick.cons | exact .here | apply Ext.there)) (by simp) hk2 (by rfl) (fun hm0 => ⟨b124, 0, rfl, fun w hw => V.range_of_block (o := 0) (cs := prC u) (r := []) (hw.own _ (show InS (b124, .cells (prC u).toArray 69 (0, 0)) _ from (by repeat (first | exact .here | exact .inner .here | exact .inner (.inner .here) | refine .there ?_))).mem) rfl⟩) (by rfl) (by have := List.length_filter_le (scB key to) (l.take k.1); unfold scanF; rw [List.length_take] at this; omega) (by have := List.length_filter_le (scB key to) (l.take k.1); unfold scanF; rw [List.length_take] at this; omega)) fun o9 ho9 => Rv 9 rfl (Fa 3 31) <| ReN 10 rfl (StS (h1 := V.ownV_one _ _)) fun _ _ => Rd ?_
              exact joinA (o9) (ho9)
          · intro o9 ho9
            refine Bn <| Ps <| Rg <| Lv Mv <| Lv Ar <| Lv Av <| Nl ?_
            have hsc : scB key to u = true := by unfold scB; first | (rw [decide_eq_false h100, decide_eq_true h104]; rfl) | (rw [decide_eq_false h100, decide_eq_true h115]; simp)
            rw [show (scanF (l.take k.1) key to).flatMap prC ++ prC u = (scanF (l.take (k.1 + 1)) key to).flatMap prC from by rw [scan_yes hx1 hsc]; simp, show (scanF (l.take k.1) key to).length + 1 = (scanF (l.take (k.1 + 1)) key to).length from by rw [scan_yes hx1 hsc]; simp]
            exact roundA ((k.1 + 1, o9)) ⟨by simp only; omega, by simp only; rw [scan_yes hx1 hsc]; simpa using ho9⟩ (by simp only; omega)
        · replace h104 := bF h104
          have h104 : to ≠ [] := by simpa using h104
          refine Qv Mv <| Qv (Fa 0 31) <| Qv Ld <| Qv Mv <| Qv Ix <| Qv (Fa 0 9) <| Qv (Val.loadO rfl Tryz.isAgg9 hb1 (by simp [ids]) (hr1 k.1 u hx1 0 _ rfl)) <| Qv (Fa 3 9) <| Qv Ld <| Qv (Val.ltStr rfl rfl) <| Qv Pf <| Qv Pt <| Ql <| Ps ?_
          refine CW.cond rfl (fun h116 => ?_) (fun h116 => ?_)
          · replace h116 := bT h116
            have h115 : u.key < to := by simpa using h116
            refine CW.regJoin (fun o9 : V.OwnO => ownOk 2 ((scanF (l.take k.1) key to).length + 1) ((scanF (l.take k.1) key to).flatMap prC ++ prC u) o9) (fun _ => [(2, .pointer (some ⟨b2, 0, none⟩)), (3, .pointer (some ⟨b3, 0, none⟩)), (4, .pointer (some ⟨b4, 0, none⟩)), (5, .pointer (some ⟨b5, 0, none⟩)), (6, .pointer (some ⟨b6, 0, none⟩)), (8, .int .i64 (k.1 : Nat))]) (fun o9 => [[(b2, .cells [.slice (some ⟨bb1, o1, none⟩) l.length pc, .slice qa q.length qc].toArray 34 (0, 0))], [(b3, .cells (calC (Cal.mk 6 key val to gp gn gc)).toArray 52 (0, 0))], [(b4, .cells [.slice none 0 0, .slice none 0 0].toArray 34 (0, 0))], [(b5, .cells (ans0 0).toArray 48 (0, 0))], [(b6, .cells (ansC 0 false [] (ownV ((scanF (l.take k.1) key to).length + 1) o9) (.slice none 0 0)).toArray 48 (0, 0))], ownG 69 ((scanF (l.take k.1) key to).flatMap prC ++ prC u) o9]) ?_ ?_
            · refine Dr ([[(b2, .cells _ 34 (0, 0))]]) ?_
              refine Rv 0 rfl (Fa 3 31) <| Rv 2 rfl (Fa 0 31) <| Rv 3 rfl Ld <| Rv 4 rfl Mv <| Rv 5 rfl Ix <| Rv 6 rfl (Val.loadOA rfl Tryz.isAgg69 hb1 (by simp [ids]) (hr1 k.1 u hx1) Tryz.sizeOf69) <| RW.any [1, 7] (by kernel_rfl) (by simp) fun i hi => ?_
              simp only [List.mem_cons, List.not_mem_nil, or_false] at hi
              rcases hi with rfl | rfl
              · refine Ro rfl (Eff.ofVal (Val.load (v := ownV (scanF (l.take k.1) key to).length k.2) rfl Tryz.isAgg31 (by repeat (first | exact .here | exact .inner .here | exact .inner (.inner .here) | refine .there ?_)) (by rfl))) fun _ _ => Re 7 rfl (Eff.buildSlice (rfl) [_, _] Tryz.underlying31 Tryz.sizeOf69 (by exact Tryz.zeroValue69) rfl rfl rfl rfl (by rfl)) fun b124 _ => Re 8 rfl (Eff.appendAny (prC u) (sz := 2) (bytes := 32) (z := .agg #[.string ⟨#[]⟩, .string ⟨#[]⟩]) (xs := (scanF (l.take k.1) key to).flatMap prC) (m0 := (scanF (l.take k.1) key to).length) (o := k.2) (m := 1) (pk := [ownG 69 ((scanF (l.take k.1) key to).flatMap prC) k.2]) rfl rfl Tryz.underlying31 (by kernel_rfl) rfl (by omega) (by repeat (first | exact .nil | apply Pick.cons | exact .here | apply Ext.there)) (by simp) hk2 (by rfl) (fun hm0 => ⟨b124, 0, rfl, fun w hw => V.range_of_block (o := 0) (cs := prC u) (r := []) (hw.own _ (show InS (b124, .cells (prC u).toArray 69 (0, 0)) _ from (by repeat (first | exact .here | exact .inner .here | exact .inner (.inner .here) | refine .there ?_))).mem) rfl⟩) (by rfl) (by have := List.length_filter_le (scB key to) (l.take k.1); unfold scanF; rw [List.length_take] at this; omega) (by have := List.length_filter_le (scB key to) (l.take k.1); unfold scanF; rw [List.length_take] at this; omega)) fun o9 ho9 => Rv 9 rfl (Fa 3 31) <| ReN 10 rfl (StS (h1 := V.ownV_one _ _)) fun _ _ => Rd ?_
                exact joinA (o9) (ho9)
              · refine Ro rfl (Eff.buildSlice (rfl) [_, _] Tryz.underlying31 Tryz.sizeOf69 (by exact Tryz.zeroValue69) rfl rfl rfl rfl (by rfl)) fun b124 _ => Re 1 rfl (Eff.ofVal (Val.load (v := ownV (scanF (l.take k.1) key to).length k.2) rfl Tryz.isAgg31 (by repeat (first | exact .here | exact .inner .here | exact .inner (.inner .here) | refine .there ?_)) (by rfl))) fun _ _ => Re 8 rfl (Eff.appendAny (prC u) (sz := 2) (bytes := 32) (z := .agg #[.string ⟨#[]⟩, .string ⟨#[]⟩]) (xs := (scanF (l.take k.1) key to).flatMap prC) (m0 := (scanF (l.take k.1) key to).length) (o := k.2) (m := 1) (pk := [ownG 69 ((scanF (l.take k.1) key to).flatMap prC) k.2]) rfl rfl Tryz.underlying31 (by kernel_rfl) rfl (by omega) (by repeat (first | exact .nil | apply Pick.cons | exact .here | apply Ext.there)) (by simp) hk2 (by rfl) (fun hm0 => ⟨b124, 0, rfl, fun w hw => V.range_of_block (o := 0) (cs := prC u) (r := []) (hw.own _ (show InS (b124, .cells (prC u).toArray 69 (0, 0)) _ from (by repeat (first | exact .here | exact .inner .here | exact .inner (.inner .here) | refine .there ?_))).mem) rfl⟩) (by rfl) (by have := List.length_filter_le (scB key to) (l.take k.1); unfold scanF; rw [List.length_take] at this; omega) (by have := List.length_filter_le (scB key to) (l.take k.1); unfold scanF; rw [List.length_take] at this; omega)) fun o9 ho9 => Rv 9 rfl (Fa 3 31) <| ReN 10 rfl (StS (h1 := V.ownV_one _ _)) fun _ _ => Rd ?_
                exact joinA (o9) (ho9)
            · intro o9 ho9
              refine Bn <| Ps <| Rg <| Lv Mv <| Lv Ar <| Lv Av <| Nl ?_
              have hsc : scB key to u = true := by unfold scB; first | (rw [decide_eq_false h100, decide_eq_true h104]; rfl) | (rw [decide_eq_false h100, decide_eq_true h115]; simp)
              rw [show (scanF (l.take k.1) key to).flatMap prC ++ prC u = (scanF (l.take (k.1 + 1)) key to).flatMap prC from by rw [scan_yes hx1 hsc]; simp, show (scanF (l.take k.1) key to).length + 1 = (scanF (l.take (k.1 + 1)) key to).length from by rw [scan_yes hx1 hsc]; simp]
              exact roundA ((k.1 + 1, o9)) ⟨by simp only; omega, by simp only; rw [scan_yes hx1 hsc]; simpa using ho9⟩ (by simp only; omega)
          · replace h116 := bF h116
            have h115 : ¬ u.key < to := by simpa using h116
            refine Sk <| Bn <| Ps <| Rg <| Lv Mv <| Lv Ar <| Lv Av <| Nl ?_
            have hsc : scB key to u = false := by unfold scB; first | (rw [decide_eq_true h100]; rfl) | (rw [decide_eq_false h115, decide_eq_false h104]; simp)
            rw [← scan_no hx1 hsc]
            exact roundA ((k.1 + 1, k.2)) ⟨by simp only; omega, by simp only; rw [scan_no hx1 hsc]; exact hk2⟩ (by simp only; omega)
      · replace h100 := bF h100
        have h100 : u.key < key := by simpa using h100
        refine Qv Mv <| Qp <| Qp <| Qp <| Qp <| Qp <| Qp <| Qp <| Qp <| Qp <| Qp <| Qp <| Qp <| Qp <| Qp <| Qv Pf <| Ql <| Ps <| Cf <| Sk <| Bn <| Ps <| Rg <| Lv Mv <| Lv Ar <| Lv Av <| Nl ?_
        have hsc : scB key to u = false := by unfold scB; first | (rw [decide_eq_true h100]; rfl) | (rw [decide_eq_false h115, decide_eq_false h104]; simp)
        rw [← scan_no hx1 hsc]
        exact roundA ((k.1 + 1, k.2)) ⟨by simp only; omega, by simp only; rw [scan_no hx1 hsc]; exact hk2⟩ (by simp only; omega)
    · replace h89 := bF h89
      have hk9 : l.length ≤ k.1 := by omega
      have hte : l.take k.1 = l := List.take_of_length_le hk9
      rw [hte] at hk2
      refine Xt <| Te <| Te <| Bh <| Bn <| Ps <| Sq <| Dr ([[(b2, .cells _ 34 (0, 0))], [(b6, .cells _ 48 (0, 0))]]) ?_
      refine Rv 0 rfl (Lw (l := [.slice pa l.length pc, .slice qa q.length qc])) <| Rv 1 rfl (Lw (l := (ansC 0 false [] (ownV (scanF (l.take k.1) key to).length k.2) (.slice none 0 0)))) <| ReN 2 rfl (StW (cs := [.slice pa l.length pc, .slice qa q.length qc]) (h1 := by rfl)) fun _ _ => ReN 3 rfl (Eff.storeW (cs := (ansC 0 false [] (ownV (scanF (l.take k.1) key to).length k.2) (.slice none 0 0))) rfl rfl (by repeat (first | exact .here | exact .inner .here | exact .inner (.inner .here) | apply Upd.there)) (by rfl) Tryz.sizeOf48 (ansP_one _ _ _)) fun _ _ => Rd <| Ps <| Rt <| V.PQ.retCC rfl rfl rfl (by repeat (first | exact .here | exact .inner .here | exact .inner (.inner .here) | refine .there ?_)) Tryz.isAgg34 (by exact Tryz.sizeOf34) (by repeat (first | exact .here | exact .inner .here | exact .inner (.inner .here) | refine .there ?_)) Tryz.isAgg48 (by exact Tryz.sizeOf48) ?_
      rw [hte]
      intro w' hw; exact ⟨(none, (k.2, none)), ⟨rfl, hk2, ⟨rfl, rfl⟩⟩, rfl, (hw.pick (ss := [ownG 69 ((scanF l key to).flatMap prC) k.2]) (by repeat (first | exact .nil | apply Pick.cons | exact .here | apply Ext.there))).perm (by simp [refP, refQ, V.ownG, V.ownS, doA])⟩
  · refine V.calls [] Tryz.func27 rfl Tryz.ntmps27 (Nat.le_of_ble_eq_true rfl) (V.sat_nil _) <| Sq <| Rg <| Le XA fun b2 _ => Le XA fun b3 _ => Le AA fun b4 _ => Le AA fun b5 _ => Nl <| Ps <| Sq <| Rg <| Le AA fun b6 _ => Nl <| Ps <| Sq <| Rg <| Lv (Lw (l := calC (Cal.mk 8 key val to gp gn gc))) <| Le (CV fun w hw => rgood_c (Cal.mk 8 key val to gp gn gc) L hL w (fun h => absurd h hk)) fun _ _ => Lv Av <| Nl <| Ps <| Sq <| Sq <| Rg <| Lv Mv <| Lv Cm <| LW.re 15 (.bool false) rfl (by rw [hg]; rfl) <| Nl <| Ps <| Cf <| Sk <| Ps <| Sq <| Sq <| Rg <| Lv (Fa 0 3) <| Lv Ld <| Nl <| Ps <| Bk <| Sq <| Rg <| Lv Cm <| LW.re 23 (.bool false) rfl (by rfl) <| Lv Av <| Nl <| Ps <| Cf <| Sq <| Rg <| Lv Cm <| LW.re 34 (.bool false) rfl (by rfl) <| Lv Av <| Nl <| Ps <| Cf <| Sq <| Rg <| Lv Cm <| LW.re 50 (.bool false) rfl (by rfl) <| Lv Av <| Nl <| Ps <| Cf <| Sq <| Rg <| Lv Cm <| LW.re 64 (.bool false) rfl (by rfl) <| Lv Av <| Nl <| Ps <| Cf <| Sq <| Rg <| Lv Cm <| LW.re 70 (.bool false) rfl (by rfl) <| Lv Av <| Nl <| Ps <| Cf <| Sq <| Rg <| Lv Cm <| LW.re 84 (.bool false) rfl (by rfl) <| Lv Av <| Nl <| Ps <| Cf <| Sq <| Rg <| Lv Cm <| LW.re 128 (.bool false) rfl (by rfl) <| Lv Av <| Nl <| Ps <| Cf <| Sk <| Bn <| Ps <| Sq <| Dr ([[(b2, .cells _ 34 (0, 0))], [(b6, .cells _ 48 (0, 0))]]) ?_
    refine Rv 0 rfl (Lw (l := [.slice pa l.length pc, .slice qa q.length qc])) <| Rv 1 rfl (Lw (l := (ansC 0 false [] (.slice none 0 0) (.slice none 0 0)))) <| ReN 2 rfl (StW (cs := [.slice pa l.length pc, .slice qa q.length qc]) (h1 := by rfl)) fun _ _ => ?_
    first | (refine RW.eN 3 rfl (by kernel_rfl) rfl (Eff.storeW rfl rfl (by repeat (first | exact .here | exact .inner .here | exact .inner (.inner .here) | apply Upd.there)) (by rfl) Tryz.sizeOf48 (by rfl)) (fun x => ⟨_, (by repeat (first | exact .nil | apply Pick.cons | exact .here | apply Ext.there))⟩) ?_) | (refine RW.eN 3 rfl (by kernel_rfl) rfl (Eff.storeA (l' := _) rfl rfl (by repeat (first | exact .here | exact .inner .here | exact .inner (.inner .here) | apply Upd.there)) (by rfl) (by decide) Tryz.sizeOf48 (by rfl)) (fun x => ⟨_, (by repeat (first | exact .nil | apply Pick.cons | exact .here | apply Ext.there))⟩) ?_)
    intro _ _
    refine Rd <| Ps <| Rt <| V.PQ.retCC rfl rfl rfl (by repeat (first | exact .here | exact .inner .here | exact .inner (.inner .here) | refine .there ?_)) Tryz.isAgg34 (by exact Tryz.sizeOf34) (by repeat (first | exact .here | exact .inner .here | exact .inner (.inner .here) | refine .there ?_)) Tryz.isAgg48 (by exact Tryz.sizeOf48) fun w' hw => ?_
    exact ⟨(none, (none, none)), ⟨rfl, ⟨rfl, rfl⟩, ⟨rfl, rfl⟩⟩, rfl, (hw.pick (ss := []) (by repeat (first | exact .nil | apply Pick.cons | exact .here | apply Ext.there))).perm (by simp [refP, refQ, V.ownG, V.ownS, doA])⟩
end I
end Go.Proofs.YtlpbjmbgopfkhaaGreat

/- A call done to a store: the document's, of a group. -/
namespace Go.Proofs.YtlpbjmbgopfkhaaGreat
open Go Go.RowKit V
set_option linter.unusedVariables false
set_option maxRecDepth 100000
namespace I
open V (str byC ownV ownG ownS ownOk)
def slY (n : Nat) : V.OwnO → Sl
  | none => ⟨none, 0, 0⟩
  | some (g, _, cap) => ⟨some ⟨g, 0, none⟩, n, cap⟩
theorem slY_v (n : Nat) (o : V.OwnO) : ownV n o = .slice (slY n o).a (slY n o).n (slY n o).c := by rcases o with _ | ⟨_, _, _⟩ <;> rfl
theorem slY_ok {α : Type} {enc : α → List Value} {sz e : Nat} {l : List α} {o : V.OwnO} {w : World} (hsz : ∀ x, (enc x).length = sz) (h0 : 0 < sz) (hk : ownOk sz l.length (l.flatMap enc) o) (hs : Sat [ownG e (l.flatMap enc) o] w) : ((slY l.length o).n = l.length ∧ V.slAt w (slY l.length o).a sz enc l) ∧ (slY l.length o).n ≤ (slY l.length o).c := by
  rcases o with _ | ⟨g, rest, cap⟩
  · have hl : l.length = 0 := hk.2
    exact ⟨⟨by rw [hl]; rfl, .inl (List.length_eq_zero_iff.1 hl)⟩, Nat.le_refl _⟩
  · have h2 : (l.flatMap enc).length + rest.length = cap * sz := hk.2
    have h1 := hk.1
    have hc : l.length ≤ cap := Nat.le_of_mul_le_mul_right (by omega : l.length * sz ≤ cap * sz) h0
    exact ⟨⟨rfl, V.slAt_flat (Hp.start hs) hsz rfl .here⟩, hc⟩
/-- The store that stands there, as a slice of each. -/
def sfX (s : Sf) (A : ShA) : ResO → Sf
  | none => s
  | some y => ⟨slY A.1.length y.1, slY A.2.length y.2⟩
theorem sfX_c (s : Sf) (A : ShA) (r : ResO) : refV s A r = (sfX s A r).cells := by
  rcases r with _ | ⟨y1, y2⟩
  · rfl
  · show owC A (y1, y2) = _
    unfold owC sfX Sf.cells
    rw [slY_v, slY_v]
theorem sfX_ok {s : Sf} {A0 A : ShA} {r : ResO} {B : V.Base} {sg rr : V.Sg} {w : World} (h0 : SfR w s A0) (hk : refOk A0 A r) (hw : Hp B sg w) (hp : Pick [refP A r, refQ A r] sg rr) : SfR w (sfX s A r) A := by
  rcases r with _ | y
  · have e : A = A0 := hk
    rw [e]; exact h0
  · have h4 := hw.pick hp
    have h1 := slY_ok (e := 69) prC_len (by decide) hk.1 (w := w) ⟨fun q hq => h4.own q (by simp only [List.flatten_cons, List.flatten_nil, List.append_nil] at hq ⊢; exact List.mem_append.2 (.inl hq)), by rcases y.1 with _ | ⟨_, _, _⟩ <;> simp [V.ownG, V.ownS]⟩
    have h2 := slY_ok (e := 9) stE_len (by decide) hk.2 (w := w) ⟨fun q hq => h4.own q (by simp only [List.flatten_cons, List.flatten_nil, List.append_nil] at hq ⊢; exact List.mem_append.2 (.inr hq)), by rcases y.2 with _ | ⟨_, _, _⟩ <;> simp [V.ownG, V.ownS]⟩
    exact ⟨h1.1, h2.1, h1.2, h2.2⟩
def resN (r r' : ResO) : ResO := match r' with | none => r | some y => some y
theorem resN_v {s : Sf} {A A' : ShA} {r r' : ResO} (h : refOk A A' r') : refV (sfX s A r) A' r' = refV s A' (resN r r') := by
  rcases r' with _ | y
  · have e : A' = A := h
    rw [e]; exact (sfX_c s A r).symm
  · rfl
theorem resN_ok {A0 A A' : ShA} {r r' : ResO} (h0 : refOk A0 A r) (h : refOk A A' r') : refOk A0 A' (resN r r') := by
  rcases r' with _ | y
  · have e : A' = A := h
    rw [e]; exact h0
  · exact h
theorem hp_keep2 {B : V.Base} {w : World} {a b c d : V.Seg} {R : V.Sg} (hw : Hp B (a :: b :: c :: d :: R) w) : Hp B (c :: d :: R) w := by
  have h9 : Hp B ((c :: d :: R) ++ [a, b]) w := hw.perm (by
    simp only [List.flatten_cons, List.flatten_append, List.flatten_nil, List.append_nil]
    classical
    refine List.perm_iff_count.2 fun i => ?_
    simp only [List.count_append]
    omega)
  exact h9.left
theorem hp_keep1 {B : V.Base} {w : World} {a b c d : V.Seg} {R : V.Sg} (hw : Hp B (a :: b :: c :: d :: R) w) : Hp B (a :: b :: R) w := by
  have h9 : Hp B ((a :: b :: R) ++ [c, d]) w := hw.perm (by
    simp only [List.flatten_cons, List.flatten_append, List.flatten_nil, List.append_nil]
    classical
    refine List.perm_iff_count.2 fun i => ?_
    simp only [List.count_append]
    omega)
  exact h9.left
theorem resN_hp {B : V.Base} {w : World} {A A' : ShA} {r r' : ResO} {R : V.Sg} (h : refOk A A' r') (hw : Hp B (refP A' r' :: refQ A' r' :: refP A r :: refQ A r :: R) w) : Hp B (refP A' (resN r r') :: refQ A' (resN r r') :: R) w := by
  rcases r' with _ | y
  · have e : A' = A := h
    subst e
    exact hp_keep2 hw
  · exact hp_keep1 hw
/-- What a good group holds. -/
theorem grp_good {x : Cal} {L : List Cal} (hk : x.ck = 7) (hg : goodF x L = 0) : ∀ y ∈ L, (y.ck = 2 ∨ y.ck = 3 ∨ y.ck = 4) ∧ goodF y [] = 0 := by
  have hs : shapeB x L = true := by
    cases h : shapeB x L
    · unfold goodF at hg; rw [h] at hg; simp at hg
    · rfl
  have hl : L.any long1 = false := by
    unfold goodF longB at hg
    rw [if_pos hs, if_pos hk] at hg
    cases h : L.any long1
    · rfl
    · rw [h] at hg; simp at hg
  have key : ∀ (pre M : List Cal), gshB pre M = true → ∀ y ∈ M, grpB y.ck = true ∧ noKey y = false := by
    intro pre M
    induction M generalizing pre with
    | nil => intro _ y hy; simp at hy
    | cons z r ih =>
      intro h y hy
      simp only [gshB, Bool.and_eq_true] at h
      rcases List.mem_cons.1 hy with rfl | hy
      · have h1 := h.1
        unfold subB at h1
        simp only [Bool.and_eq_true, Bool.not_eq_true'] at h1
        exact h1.1
      · exact ih _ h.2 y hy
  intro y hy
  obtain ⟨h1, h2⟩ := key [] L (shape_sub hs hk) y hy
  have h3 : long1 y = false := by
    have h9 := List.any_eq_false.1 hl y hy
    simpa using h9
  unfold grpB at h1
  have h4 : y.ck = 2 ∨ y.ck = 3 ∨ y.ck = 4 := by simpa using h1
  refine ⟨h4, ?_⟩
  have h5 : shapeB y [] = true := by
    unfold shapeB
    rw [h2]
    rcases h4 with h | h | h <;> rw [h] <;> decide
  have h6 : longB y [] = false := by
    unfold longB
    rw [if_neg (by omega)]; exact h3
  unfold goodF
  rw [if_pos h5, h6]
  rfl
theorem ap_sub {A : ShA} {y : Cal} (h : y.ck = 2 ∨ y.ck = 3 ∨ y.ck = 4) (hg : goodF y [] = 0) : apA A y [] = doA A y := by unfold apA; rw [if_neg (by simpa using hg), if_neg (by omega)]
end I
end Go.Proofs.YtlpbjmbgopfkhaaGreat

/- A call done to a store: the document's, of a group: Apply in full. -/
namespace Go.Proofs.YtlpbjmbgopfkhaaGreat
open Go Go.RowKit V
set_option linter.unusedVariables false
set_option maxRecDepth 100000
namespace I
open V (str byC ownV ownG ownS ownOk)
theorem resN_x {s : Sf} {A A' : ShA} {r r' : ResO} (h : refOk A A' r') : (sfX (sfX s A r) A' r').cells = (sfX s A' (resN r r')).cells := by rw [← sfX_c, ← sfX_c, resN_v h]
theorem ansH_one (c : Int) (n : Nat) (o : V.OwnO) : (ansC c false [] (.slice none 0 0) (ownV n o)).all (·.oneCell') = true := by
  unfold ansC
  simp only [List.all_cons, List.all_nil, V.ownV_one, Bool.and_true, Bool.true_and]
  rfl
theorem PQ_mono {n : Nat} {B : V.Base} {Q : Exit → Act → World → Prop} {e : Exit} {ks : V.Ks} {sg sg' : V.Sg} (h : ∀ w, Hp B sg w → Hp B sg' w) (k : V.PQ n B Q e ks sg') : V.PQ n B Q e ks sg := fun a w ha hw => k a w ha (h w hw)
theorem rapplyS_c (s : Sf) (A : ShA) (y : Cal) (h : y.ck = 2 ∨ y.ck = 3 ∨ y.ck = 4) (hg : goodF y [] = 0) (w : World) (hA : SfR w s A) (hl : A.1.length ≤ 900 ∧ A.2.length ≤ 900) : Calls Tryz.prog 27 [.agg s.cells.toArray, .agg (calC y).toArray].toArray w fun e w' => ∃ r : ResO × AnsO, (refOk A (doA A y).1 r.1 ∧ ansOk (doA A y).2 r.2) ∧ e = .returned (.tuple #[.agg (refV s (doA A y).1 r.1).toArray, .agg ((doA A y).2.cells r.2).toArray]) ∧ Hp ⟨w, []⟩ [refP (doA A y).1 r.1, refQ (doA A y).1 r.1, ownG 69 ((doA A y).2.ps.flatMap prC) r.2.1, ownG 4 ((doA A y).2.hs.flatMap boE) r.2.2] w' := by
  rw [← ap_sub h hg]
  exact rapply0_c s A y [] (by omega) w hA hl (by simp)
theorem rapplyG_c (s : Sf) (A : ShA) (x : Cal) (L : List Cal) (hk : x.ck = 7) (hg : goodF x L = 0) (w : World) (hA : SfR w s A) (hl : A.1.length ≤ 800 ∧ A.2.length ≤ 800) (hL : L.length ≤ 1000) (hR : CalR w x L) : Calls Tryz.prog 27 [.agg s.cells.toArray, .agg (calC x).toArray].toArray w fun e w' => ∃ r : ResO × AnsO, (refOk A (apA A x L).1 r.1 ∧ ansOk (apA A x L).2 r.2) ∧ e = .returned (.tuple #[.agg (refV s (apA A x L).1 r.1).toArray, .agg ((apA A x L).2.cells r.2).toArray]) ∧ Hp ⟨w, []⟩ [refP (apA A x L).1 r.1, refQ (apA A x L).1 r.1, ownG 69 ((apA A x L).2.ps.flatMap prC) r.2.1, ownG 4 ((apA A x L).2.hs.flatMap boE) r.2.2] w' := by
  have hap : apA A x L = ((grpA A L).1, ⟨0, false, [], [], (grpA A L).2⟩) := by unfold apA; rw [if_neg (by simpa using hg), if_pos hk]
  rw [hap]
  clear hap
  have hL3 : L.length ≤ 3 := by
    rcases good_kind hg with h | h
    · omega
    · exact h.2.1
  have hgr := grp_good hk hg
  have hR0 := hR
  obtain ⟨ck, key, val, to, gp, gn, gc⟩ := x
  simp only at hk
  subst hk
  obtain ⟨⟨hn, hc⟩, hLs⟩ := hR
  simp only at hn hc hLs
  subst hn
  refine V.calls [] Tryz.func27 rfl Tryz.ntmps27 (Nat.le_of_ble_eq_true rfl) (V.sat_nil _) <| Sq <| Rg <| Le XA fun b2 _ => Le XA fun b3 _ => Le AA fun b4 _ => Le AA fun b5 _ => Nl <| Ps <| Sq <| Rg <| Le AA fun b6 _ => Nl <| Ps <| Sq <| Rg <| Lv (Lw (l := calC (Cal.mk 7 key val to gp L.length gc))) <| Le (CV fun w hw => rgood_c (Cal.mk 7 key val to gp L.length gc) L hL w (fun _ => hR0.hp hw)) fun _ _ => Lv Av <| Nl <| Ps <| Sq <| Sq <| Rg <| Lv Mv <| Lv Cm <| LW.re 15 (.bool false) rfl (by rw [hg]; rfl) <| Nl <| Ps <| Cf <| Sk <| Ps <| Sq <| Sq <| Rg <| Lv (Fa 0 3) <| Lv Ld <| Nl <| Ps <| Bk <| Sq <| Rg <| Lv Cm <| LW.re 23 (.bool false) rfl (by rfl) <| Lv Av <| Nl <| Ps <| Cf <| Sq <| Rg <| Lv Cm <| LW.re 34 (.bool false) rfl (by rfl) <| Lv Av <| Nl <| Ps <| Cf <| Sq <| Rg <| Lv Cm <| LW.re 50 (.bool false) rfl (by rfl) <| Lv Av <| Nl <| Ps <| Cf <| Sq <| Rg <| Lv Cm <| LW.re 64 (.bool false) rfl (by rfl) <| Lv Av <| Nl <| Ps <| Cf <| Sq <| Rg <| Lv Cm <| LW.re 70 (.bool false) rfl (by rfl) <| Lv Av <| Nl <| Ps <| Cf <| Sq <| Rg <| Lv Cm <| LW.re 84 (.bool false) rfl (by rfl) <| Lv Av <| Nl <| Ps <| Cf <| Sq <| Rg <| Lv Cm <| LW.re 128 (.bool true) rfl (by rfl) <| Lv Av <| Nl <| Ps <| Ct <| Sq <| Rg <| Lv Av <| Nl <| Ps <| Bk ?_
  refine V.CW.perm (sg' := [[(b2, .cells ((sfX s A none).cells).toArray 34 (0, 0))], [(b3, .cells (calC (Cal.mk 7 key val to gp L.length gc)).toArray 52 (0, 0))], [(b4, .cells [.slice none 0 0, .slice none 0 0].toArray 34 (0, 0))], [(b5, .cells (ans0 0).toArray 48 (0, 0))], [(b6, .cells (ansC 0 false [] (.slice none 0 0) (ownV ([] : List Bool).length none)).toArray 48 (0, 0))], refP A none, refQ A none, ownG 4 (([] : List Bool).flatMap boE) none]) ?_ (show ([[(b6, .cells (ansC 0 false [] (.slice none 0 0) (ownV ([] : List Bool).length none)).toArray 48 (0, 0))], [(b5, .cells (ans0 0).toArray 48 (0, 0))], [(b4, .cells [.slice none 0 0, .slice none 0 0].toArray 34 (0, 0))], [(b3, .cells (calC (Cal.mk 7 key val to gp L.length gc)).toArray 52 (0, 0))], [(b2, .cells (s.cells).toArray 34 (0, 0))]] : V.Sg).flatten.Perm _ from by
    simp only [sfX, List.flatten_cons, List.flatten_nil, List.append_nil, refP, refQ, V.ownG, V.ownS, List.flatMap_nil, List.nil_append]
    classical
    refine List.perm_iff_count.2 fun i => ?_
    simp only [List.count_append, List.count_nil]
    omega)
  refine loopA (γ := Nat × ResO × V.OwnO) (fun k => [(2, .pointer (some ⟨b2, 0, none⟩)), (3, .pointer (some ⟨b3, 0, none⟩)), (4, .pointer (some ⟨b4, 0, none⟩)), (5, .pointer (some ⟨b5, 0, none⟩)), (6, .pointer (some ⟨b6, 0, none⟩)), (9, .int .i64 (k.1 : Nat))]) (fun k => [[(b2, .cells ((sfX s (grpA A (L.take k.1)).1 k.2.1).cells).toArray 34 (0, 0))], [(b3, .cells (calC (Cal.mk 7 key val to gp L.length gc)).toArray 52 (0, 0))], [(b4, .cells [.slice none 0 0, .slice none 0 0].toArray 34 (0, 0))], [(b5, .cells (ans0 0).toArray 48 (0, 0))], [(b6, .cells (ansC 0 false [] (.slice none 0 0) (ownV (grpA A (L.take k.1)).2.length k.2.2)).toArray 48 (0, 0))], refP (grpA A (L.take k.1)).1 k.2.1, refQ (grpA A (L.take k.1)).1 k.2.1, ownG 4 ((grpA A (L.take k.1)).2.flatMap boE) k.2.2]) (fun k => k.1 ≤ L.length ∧ refOk A (grpA A (L.take k.1)).1 k.2.1 ∧ ownOk 1 (grpA A (L.take k.1)).2.length ((grpA A (L.take k.1)).2.flatMap boE) k.2.2) (fun k => L.length - k.1) ((0, none, none)) ⟨Nat.zero_le _, rfl, ⟨rfl, rfl⟩⟩ fun k => ?_
  rintro ⟨hk1, hk2, hk3⟩
  refine Sq <| Sq <| Rg <| Lv Mv <| Lv (Fa 4 22) <| Lv Ld <| Lv Ln <| Lv Cm <| Nl <| Ps ?_
  refine CW.cond rfl (fun h133 => ?_) (fun h133 => ?_)
  · replace h133 := bT h133
    have h133 : (k.1 : Int) < L.length := h133
    have hk9 : k.1 < L.length := by omega
    obtain ⟨bb1, o1, y, rfl, hb1, hx1, hr1⟩ := V.slAt_at hLs rfl (k := k.1) hk9
    have hy := hgr y (List.mem_of_getElem? hx1)
    have hgt := grp_take (A := A) hx1
    have hgl := grp_len A (L.take k.1)
    have htl : (L.take k.1).length ≤ 3 := by rw [List.length_take]; omega
    have hg1 : (grpA A (L.take (k.1 + 1))).1 = (doA (grpA A (L.take k.1)).1 y).1 := by rw [hgt]
    have hg2 : (grpA A (L.take (k.1 + 1))).2 = (grpA A (L.take k.1)).2 ++ [(doA (grpA A (L.take k.1)).1 y).2.fd] := by rw [hgt]
    refine Sk <| Ps <| Sq <| Bk <| Sq <| Dr ([[(b2, .cells ((sfX s (grpA A (L.take k.1)).1 k.2.1).cells).toArray 34 (0, 0))], [(b3, .cells (calC (Cal.mk 7 key val to (some ⟨bb1, o1, none⟩) L.length gc)).toArray 52 (0, 0))]]) <| Rv 0 rfl (Lw (l := (sfX s (grpA A (L.take k.1)).1 k.2.1).cells)) <| Rv 1 rfl (Fa 4 22) <| Rv 2 rfl Ld <| Rv 3 rfl Mv <| Rv 4 rfl (Val.indexAddrN rfl rfl Tryz.underlying22 Tryz.sizeOf52 hk9) <| Rv 5 rfl (Val.loadOA rfl Tryz.isAgg52 hb1 (by simp [ids]) (hr1 k.1 y hx1) Tryz.sizeOf52) <| RW.any [6, 10, 11] (by kernel_rfl) (by simp) fun i hi => ?_
    simp only [List.mem_cons, List.not_mem_nil, or_false] at hi
    rcases hi with rfl | rfl | rfl
    · refine Ro rfl (CM [] fun w hw hs0 => rapplyS_c (sfX s (grpA A (L.take k.1)).1 k.2.1) (grpA A (L.take k.1)).1 y hy.1 hy.2 w (sfX_ok (hA.hp hw (by simp [ids])) hk2 hw (by repeat (first | exact .nil | apply Pick.cons | exact .here | apply Ext.there))) (by omega)) ?_
      rintro ⟨r9, ra9⟩ ⟨hr9, ha9⟩
      refine Rv 7 rfl Mv <| Rv 8 rfl Ex <| RW.re 144 (.agg ((sfX (sfX s (grpA A (L.take k.1)).1 k.2.1) (doA (grpA A (L.take k.1)).1 y).1 r9).cells).toArray) rfl (by rw [sfX_c]) <| Rv 9 rfl Ex <| RW.any [10, 11] (by kernel_rfl) (by simp) fun i hi => ?_
      simp only [List.mem_cons, List.not_mem_nil, or_false] at hi
      rcases hi with rfl | rfl
      · refine Ro rfl AA fun b10 _ => Re 11 rfl AA fun b11 _ => ReN 12 rfl (StW (cs := (sfX (sfX s (grpA A (L.take k.1)).1 k.2.1) (doA (grpA A (L.take k.1)).1 y).1 r9).cells) (h1 := by rfl)) fun _ _ => ReN 13 rfl (Eff.storeW (cs := (doA (grpA A (L.take k.1)).1 y).2.cells ra9) rfl rfl (by repeat (first | exact .here | exact .inner .here | exact .inner (.inner .here) | apply Upd.there)) (by rfl) Tryz.sizeOf48 (ans_one _ _)) fun _ _ => Rd <| Ps <| Sq <| Rg <| Lv (Lw (l := (sfX (sfX s (grpA A (L.take k.1)).1 k.2.1) (doA (grpA A (L.take k.1)).1 y).1 r9).cells)) <| LeN (StW (cs := (sfX (sfX s (grpA A (L.take k.1)).1 k.2.1) (doA (grpA A (L.take k.1)).1 y).1 r9).cells) (h1 := by rfl)) fun _ _ => Nl <| Ps <| Rg <| Lv (Fa 4 46) <| Lv (Ld (v := ownV (grpA A (L.take k.1)).2.length k.2.2)) <| Lv (Fa 1 4) <| Lv (Ld (v := .bool (doA (grpA A (L.take k.1)).1 y).2.fd)) <| Le (Eff.buildSlice (rfl) [_] Tryz.underlying46 Tryz.sizeOf4 (by exact Tryz.zeroValue4) rfl rfl rfl rfl (by rfl)) fun b151 _ => Le (Eff.appendAny (boE (doA (grpA A (L.take k.1)).1 y).2.fd) (sz := 1) (bytes := 1) (z := .bool false) (xs := (grpA A (L.take k.1)).2.flatMap boE) (m0 := (grpA A (L.take k.1)).2.length) (o := k.2.2) (m := 1) (pk := [ownG 4 ((grpA A (L.take k.1)).2.flatMap boE) k.2.2]) rfl rfl Tryz.underlying46 (by kernel_rfl) rfl (by omega) (by repeat (first | exact .nil | apply Pick.cons | exact .here | apply Ext.there)) (by simp) hk3 (by rfl) (fun hm0 => ⟨b151, 0, rfl, fun w hw => V.range_of_block (o := 0) (cs := boE (doA (grpA A (L.take k.1)).1 y).2.fd) (r := []) (hw.own _ (show InS (b151, .cells (boE (doA (grpA A (L.take k.1)).1 y).2.fd).toArray 4 (0, 0)) _ from (by repeat (first | exact .here | exact .inner .here | exact .inner (.inner .here) | refine .there ?_))).mem) rfl⟩) (by rfl) (by omega) (by omega)) fun o9 ho9 => Lv (Fa 4 46) <| LeN (StS (h1 := V.ownV_one _ _)) ?_
        intro _ _
        refine Nl <| Bn <| Ps <| Rg <| Lv Mv <| Lv Ar <| Lv Av <| Nl ?_
        rw [resN_x hr9]
        refine PQ_mono (sg' := [[(b2, .cells ((sfX s (grpA A (L.take (k.1 + 1))).1 (resN k.2.1 r9)).cells).toArray 34 (0, 0))], [(b3, .cells (calC (Cal.mk 7 key val to (some ⟨bb1, o1, none⟩) L.length gc)).toArray 52 (0, 0))], [(b4, .cells [.slice none 0 0, .slice none 0 0].toArray 34 (0, 0))], [(b5, .cells (ans0 0).toArray 48 (0, 0))], [(b6, .cells (ansC 0 false [] (.slice none 0 0) (ownV (grpA A (L.take (k.1 + 1))).2.length o9)).toArray 48 (0, 0))], refP (grpA A (L.take (k.1 + 1))).1 (resN k.2.1 r9), refQ (grpA A (L.take (k.1 + 1))).1 (resN k.2.1 r9), ownG 4 ((grpA A (L.take (k.1 + 1))).2.flatMap boE) o9]) (fun w hw => ?_) ?_
        · rw [hg1, hg2]
          have h9 := resN_hp (R := [[(b2, .cells ((sfX s (doA (grpA A (L.take k.1)).1 y).1 (resN k.2.1 r9)).cells).toArray 34 (0, 0))], [(b3, .cells (calC (Cal.mk 7 key val to (some ⟨bb1, o1, none⟩) L.length gc)).toArray 52 (0, 0))], [(b4, .cells [.slice none 0 0, .slice none 0 0].toArray 34 (0, 0))], [(b5, .cells (ans0 0).toArray 48 (0, 0))], [(b6, .cells (ansC 0 false [] (.slice none 0 0) (ownV ((grpA A (L.take k.1)).2.length + 1) o9)).toArray 48 (0, 0))], ownG 4 ((grpA A (L.take k.1)).2.flatMap boE ++ boE (doA (grpA A (L.take k.1)).1 y).2.fd) o9]) hr9 (hw.pick (ss := [refP (doA (grpA A (L.take k.1)).1 y).1 r9, refQ (doA (grpA A (L.take k.1)).1 y).1 r9, refP (grpA A (L.take k.1)).1 k.2.1, refQ (grpA A (L.take k.1)).1 k.2.1, [(b2, .cells ((sfX s (doA (grpA A (L.take k.1)).1 y).1 (resN k.2.1 r9)).cells).toArray 34 (0, 0))], [(b3, .cells (calC (Cal.mk 7 key val to (some ⟨bb1, o1, none⟩) L.length gc)).toArray 52 (0, 0))], [(b4, .cells [.slice none 0 0, .slice none 0 0].toArray 34 (0, 0))], [(b5, .cells (ans0 0).toArray 48 (0, 0))], [(b6, .cells (ansC 0 false [] (.slice none 0 0) (ownV ((grpA A (L.take k.1)).2.length + 1) o9)).toArray 48 (0, 0))], ownG 4 ((grpA A (L.take k.1)).2.flatMap boE ++ boE (doA (grpA A (L.take k.1)).1 y).2.fd) o9]) (by repeat (first | exact .nil | apply Pick.cons | exact .here | apply Ext.there)))
          refine h9.perm ?_
          simp only [List.flatten_cons, List.flatten_nil, List.append_nil, List.flatMap_append, List.flatMap_cons, List.flatMap_nil, List.length_append, List.length_cons, List.length_nil, Nat.zero_add]
          classical
          refine List.perm_iff_count.2 fun i => ?_
          simp only [List.count_append]
          omega
        exact roundA ((k.1 + 1, resN k.2.1 r9, o9)) ⟨by simp only; omega, by simp only; rw [hg1]; exact resN_ok hk2 hr9, by simp only; rw [hg2]; simpa using ho9⟩ (by simp only; omega)
      · refine Ro rfl AA fun b11 _ => Re 10 rfl AA fun b10 _ => ReN 12 rfl (StW (cs := (sfX (sfX s (grpA A (L.take k.1)).1 k.2.1) (doA (grpA A (L.take k.1)).1 y).1 r9).cells) (h1 := by rfl)) fun _ _ => ReN 13 rfl (Eff.storeW (cs := (doA (grpA A (L.take k.1)).1 y).2.cells ra9) rfl rfl (by repeat (first | exact .here | exact .inner .here | exact .inner (.inner .here) | apply Upd.there)) (by rfl) Tryz.sizeOf48 (ans_one _ _)) fun _ _ => Rd <| Ps <| Sq <| Rg <| Lv (Lw (l := (sfX (sfX s (grpA A (L.take k.1)).1 k.2.1) (doA (grpA A (L.take k.1)).1 y).1 r9).cells)) <| LeN (StW (cs := (sfX (sfX s (grpA A (L.take k.1)).1 k.2.1) (doA (grpA A (L.take k.1)).1 y).1 r9).cells) (h1 := by rfl)) fun _ _ => Nl <| Ps <| Rg <| Lv (Fa 4 46) <| Lv (Ld (v := ownV (grpA A (L.take k.1)).2.length k.2.2)) <| Lv (Fa 1 4) <| Lv (Ld (v := .bool (doA (grpA A (L.take k.1)).1 y).2.fd)) <| Le (Eff.buildSlice (rfl) [_] Tryz.underlying46 Tryz.sizeOf4 (by exact Tryz.zeroValue4) rfl rfl rfl rfl (by rfl)) fun b151 _ => Le (Eff.appendAny (boE (doA (grpA A (L.take k.1)).1 y).2.fd) (sz := 1) (bytes := 1) (z := .bool false) (xs := (grpA A (L.take k.1)).2.flatMap boE) (m0 := (grpA A (L.take k.1)).2.length) (o := k.2.2) (m := 1) (pk := [ownG 4 ((grpA A (L.take k.1)).2.flatMap boE) k.2.2]) rfl rfl Tryz.underlying46 (by kernel_rfl) rfl (by omega) (by repeat (first | exact .nil | apply Pick.cons | exact .here | apply Ext.there)) (by simp) hk3 (by rfl) (fun hm0 => ⟨b151, 0, rfl, fun w hw => V.range_of_block (o := 0) (cs := boE (doA (grpA A (L.take k.1)).1 y).2.fd) (r := []) (hw.own _ (show InS (b151, .cells (boE (doA (grpA A (L.take k.1)).1 y).2.fd).toArray 4 (0, 0)) _ from (by repeat (first | exact .here | exact .inner .here | exact .inner (.inner .here) | refine .there ?_))).mem) rfl⟩) (by rfl) (by omega) (by omega)) fun o9 ho9 => Lv (Fa 4 46) <| LeN (StS (h1 := V.ownV_one _ _)) ?_
        intro _ _
        refine Nl <| Bn <| Ps <| Rg <| Lv Mv <| Lv Ar <| Lv Av <| Nl ?_
        rw [resN_x hr9]
        refine PQ_mono (sg' := [[(b2, .cells ((sfX s (grpA A (L.take (k.1 + 1))).1 (resN k.2.1 r9)).cells).toArray 34 (0, 0))], [(b3, .cells (calC (Cal.mk 7 key val to (some ⟨bb1, o1, none⟩) L.length gc)).toArray 52 (0, 0))], [(b4, .cells [.slice none 0 0, .slice none 0 0].toArray 34 (0, 0))], [(b5, .cells (ans0 0).toArray 48 (0, 0))], [(b6, .cells (ansC 0 false [] (.slice none 0 0) (ownV (grpA A (L.take (k.1 + 1))).2.length o9)).toArray 48 (0, 0))], refP (grpA A (L.take (k.1 + 1))).1 (resN k.2.1 r9), refQ (grpA A (L.take (k.1 + 1))).1 (resN k.2.1 r9), ownG 4 ((grpA A (L.take (k.1 + 1))).2.flatMap boE) o9]) (fun w hw => ?_) ?_
        · rw [hg1, hg2]
          have h9 := resN_hp (R := [[(b2, .cells ((sfX s (doA (grpA A (L.take k.1)).1 y).1 (resN k.2.1 r9)).cells).toArray 34 (0, 0))], [(b3, .cells (calC (Cal.mk 7 key val to (some ⟨bb1, o1, none⟩) L.length gc)).toArray 52 (0, 0))], [(b4, .cells [.slice none 0 0, .slice none 0 0].toArray 34 (0, 0))], [(b5, .cells (ans0 0).toArray 48 (0, 0))], [(b6, .cells (ansC 0 false [] (.slice none 0 0) (ownV ((grpA A (L.take k.1)).2.length + 1) o9)).toArray 48 (0, 0))], ownG 4 ((grpA A (L.take k.1)).2.flatMap boE ++ boE (doA (grpA A (L.take k.1)).1 y).2.fd) o9]) hr9 (hw.pick (ss := [refP (doA (grpA A (L.take k.1)).1 y).1 r9, refQ (doA (grpA A (L.take k.1)).1 y).1 r9, refP (grpA A (L.take k.1)).1 k.2.1, refQ (grpA A (L.take k.1)).1 k.2.1, [(b2, .cells ((sfX s (doA (grpA A (L.take k.1)).1 y).1 (resN k.2.1 r9)).cells).toArray 34 (0, 0))], [(b3, .cells (calC (Cal.mk 7 key val to (some ⟨bb1, o1, none⟩) L.length gc)).toArray 52 (0, 0))], [(b4, .cells [.slice none 0 0, .slice none 0 0].toArray 34 (0, 0))], [(b5, .cells (ans0 0).toArray 48 (0, 0))], [(b6, .cells (ansC 0 false [] (.slice none 0 0) (ownV ((grpA A (L.take k.1)).2.length + 1) o9)).toArray 48 (0, 0))], ownG 4 ((grpA A (L.take k.1)).2.flatMap boE ++ boE (doA (grpA A (L.take k.1)).1 y).2.fd) o9]) (by repeat (first | exact .nil | apply Pick.cons | exact .here | apply Ext.there)))
          refine h9.perm ?_
          simp only [List.flatten_cons, List.flatten_nil, List.append_nil, List.flatMap_append, List.flatMap_cons, List.flatMap_nil, List.length_append, List.length_cons, List.length_nil, Nat.zero_add]
          classical
          refine List.perm_iff_count.2 fun i => ?_
          simp only [List.count_append]
          omega
        exact roundA ((k.1 + 1, resN k.2.1 r9, o9)) ⟨by simp only; omega, by simp only; rw [hg1]; exact resN_ok hk2 hr9, by simp only; rw [hg2]; simpa using ho9⟩ (by simp only; omega)
    · refine Ro rfl AA fun b10 _ => RW.any [6, 11] (by kernel_rfl) (by simp) fun i hi => ?_
      simp only [List.mem_cons, List.not_mem_nil, or_false] at hi
      rcases hi with rfl | rfl
      · refine Ro rfl (CM [] fun w hw hs0 => rapplyS_c (sfX s (grpA A (L.take k.1)).1 k.2.1) (grpA A (L.take k.1)).1 y hy.1 hy.2 w (sfX_ok (hA.hp hw (by simp [ids])) hk2 hw (by repeat (first | exact .nil | apply Pick.cons | exact .here | apply Ext.there))) (by omega)) ?_
        rintro ⟨r9, ra9⟩ ⟨hr9, ha9⟩
        refine Rv 7 rfl Mv <| Rv 8 rfl Ex <| RW.re 144 (.agg ((sfX (sfX s (grpA A (L.take k.1)).1 k.2.1) (doA (grpA A (L.take k.1)).1 y).1 r9).cells).toArray) rfl (by rw [sfX_c]) <| Rv 9 rfl Ex <| Re 11 rfl AA fun b11 _ => ReN 12 rfl (StW (cs := (sfX (sfX s (grpA A (L.take k.1)).1 k.2.1) (doA (grpA A (L.take k.1)).1 y).1 r9).cells) (h1 := by rfl)) fun _ _ => ReN 13 rfl (Eff.storeW (cs := (doA (grpA A (L.take k.1)).1 y).2.cells ra9) rfl rfl (by repeat (first | exact .here | exact .inner .here | exact .inner (.inner .here) | apply Upd.there)) (by rfl) Tryz.sizeOf48 (ans_one _ _)) fun _ _ => Rd <| Ps <| Sq <| Rg <| Lv (Lw (l := (sfX (sfX s (grpA A (L.take k.1)).1 k.2.1) (doA (grpA A (L.take k.1)).1 y).1 r9).cells)) <| LeN (StW (cs := (sfX (sfX s (grpA A (L.take k.1)).1 k.2.1) (doA (grpA A (L.take k.1)).1 y).1 r9).cells) (h1 := by rfl)) fun _ _ => Nl <| Ps <| Rg <| Lv (Fa 4 46) <| Lv (Ld (v := ownV (grpA A (L.take k.1)).2.length k.2.2)) <| Lv (Fa 1 4) <| Lv (Ld (v := .bool (doA (grpA A (L.take k.1)).1 y).2.fd)) <| Le (Eff.buildSlice (rfl) [_] Tryz.underlying46 Tryz.sizeOf4 (by exact Tryz.zeroValue4) rfl rfl rfl rfl (by rfl)) fun b151 _ => Le (Eff.appendAny (boE (doA (grpA A (L.take k.1)).1 y).2.fd) (sz := 1) (bytes := 1) (z := .bool false) (xs := (grpA A (L.take k.1)).2.flatMap boE) (m0 := (grpA A (L.take k.1)).2.length) (o := k.2.2) (m := 1) (pk := [ownG 4 ((grpA A (L.take k.1)).2.flatMap boE) k.2.2]) rfl rfl Tryz.underlying46 (by kernel_rfl) rfl (by omega) (by repeat (first | exact .nil | apply Pick.cons | exact .here | apply Ext.there)) (by simp) hk3 (by rfl) (fun hm0 => ⟨b151, 0, rfl, fun w hw => V.range_of_block (o := 0) (cs := boE (doA (grpA A (L.take k.1)).1 y).2.fd) (r := []) (hw.own _ (show InS (b151, .cells (boE (doA (grpA A (L.take k.1)).1 y).2.fd).toArray 4 (0, 0)) _ from (by repeat (first | exact .here | exact .inner .here | exact .inner (.inner .here) | refine .there ?_))).mem) rfl⟩) (by rfl) (by omega) (by omega)) ?_
        intro o9 ho9
        refine Lv (Fa 4 46) <| LeN (StS (h1 := V.ownV_one _ _)) fun _ _ => Nl <| Bn <| Ps <| Rg <| Lv Mv <| Lv Ar <| Lv Av <| Nl ?_
        rw [resN_x hr9]
        refine PQ_mono (sg' := [[(b2, .cells ((sfX s (grpA A (L.take (k.1 + 1))).1 (resN k.2.1 r9)).cells).toArray 34 (0, 0))], [(b3, .cells (calC (Cal.mk 7 key val to (some ⟨bb1, o1, none⟩) L.length gc)).toArray 52 (0, 0))], [(b4, .cells [.slice none 0 0, .slice none 0 0].toArray 34 (0, 0))], [(b5, .cells (ans0 0).toArray 48 (0, 0))], [(b6, .cells (ansC 0 false [] (.slice none 0 0) (ownV (grpA A (L.take (k.1 + 1))).2.length o9)).toArray 48 (0, 0))], refP (grpA A (L.take (k.1 + 1))).1 (resN k.2.1 r9), refQ (grpA A (L.take (k.1 + 1))).1 (resN k.2.1 r9), ownG 4 ((grpA A (L.take (k.1 + 1))).2.flatMap boE) o9]) (fun w hw => ?_) ?_
        · rw [hg1, hg2]
          have h9 := resN_hp (R := [[(b2, .cells ((sfX s (doA (grpA A (L.take k.1)).1 y).1 (resN k.2.1 r9)).cells).toArray 34 (0, 0))], [(b3, .cells (calC (Cal.mk 7 key val to (some ⟨bb1, o1, none⟩) L.length gc)).toArray 52 (0, 0))], [(b4, .cells [.slice none 0 0, .slice none 0 0].toArray 34 (0, 0))], [(b5, .cells (ans0 0).toArray 48 (0, 0))], [(b6, .cells (ansC 0 false [] (.slice none 0 0) (ownV ((grpA A (L.take k.1)).2.length + 1) o9)).toArray 48 (0, 0))], ownG 4 ((grpA A (L.take k.1)).2.flatMap boE ++ boE (doA (grpA A (L.take k.1)).1 y).2.fd) o9]) hr9 (hw.pick (ss := [refP (doA (grpA A (L.take k.1)).1 y).1 r9, refQ (doA (grpA A (L.take k.1)).1 y).1 r9, refP (grpA A (L.take k.1)).1 k.2.1, refQ (grpA A (L.take k.1)).1 k.2.1, [(b2, .cells ((sfX s (doA (grpA A (L.take k.1)).1 y).1 (resN k.2.1 r9)).cells).toArray 34 (0, 0))], [(b3, .cells (calC (Cal.mk 7 key val to (some ⟨bb1, o1, none⟩) L.length gc)).toArray 52 (0, 0))], [(b4, .cells [.slice none 0 0, .slice none 0 0].toArray 34 (0, 0))], [(b5, .cells (ans0 0).toArray 48 (0, 0))], [(b6, .cells (ansC 0 false [] (.slice none 0 0) (ownV ((grpA A (L.take k.1)).2.length + 1) o9)).toArray 48 (0, 0))], ownG 4 ((grpA A (L.take k.1)).2.flatMap boE ++ boE (doA (grpA A (L.take k.1)).1 y).2.fd) o9]) (by repeat (first | exact .nil | apply Pick.cons | exact .here | apply Ext.there)))
          refine h9.perm ?_
          simp only [List.flatten_cons, List.flatten_nil, List.append_nil, List.flatMap_append, List.flatMap_cons, List.flatMap_nil, List.length_append, List.length_cons, List.length_nil, Nat.zero_add]
          classical
          refine List.perm_iff_count.2 fun i => ?_
          simp only [List.count_append]
          omega
        exact roundA ((k.1 + 1, resN k.2.1 r9, o9)) ⟨by simp only; omega, by simp only; rw [hg1]; exact resN_ok hk2 hr9, by simp only; rw [hg2]; simpa using ho9⟩ (by simp only; omega)
      · refine Ro rfl AA fun b11 _ => Re 6 rfl (CM [] fun w hw hs0 => rapplyS_c (sfX s (grpA A (L.take k.1)).1 k.2.1) (grpA A (L.take k.1)).1 y hy.1 hy.2 w (sfX_ok (hA.hp hw (by simp [ids])) hk2 hw (by repeat (first | exact .nil | apply Pick.cons | exact .here | apply Ext.there))) (by omega)) ?_
        rintro ⟨r9, ra9⟩ ⟨hr9, ha9⟩
        refine Rv 7 rfl Mv <| Rv 8 rfl Ex <| RW.re 144 (.agg ((sfX (sfX s (grpA A (L.take k.1)).1 k.2.1) (doA (grpA A (L.take k.1)).1 y).1 r9).cells).toArray) rfl (by rw [sfX_c]) <| Rv 9 rfl Ex <| ReN 12 rfl (StW (cs := (sfX (sfX s (grpA A (L.take k.1)).1 k.2.1) (doA (grpA A (L.take k.1)).1 y).1 r9).cells) (h1 := by rfl)) fun _ _ => ReN 13 rfl (Eff.storeW (cs := (doA (grpA A (L.take k.1)).1 y).2.cells ra9) rfl rfl (by repeat (first | exact .here | exact .inner .here | exact .inner (.inner .here) | apply Upd.there)) (by rfl) Tryz.sizeOf48 (ans_one _ _)) fun _ _ => Rd <| Ps <| Sq <| Rg <| Lv (Lw (l := (sfX (sfX s (grpA A (L.take k.1)).1 k.2.1) (doA (grpA A (L.take k.1)).1 y).1 r9).cells)) <| LeN (StW (cs := (sfX (sfX s (grpA A (L.take k.1)).1 k.2.1) (doA (grpA A (L.take k.1)).1 y).1 r9).cells) (h1 := by rfl)) fun _ _ => Nl <| Ps <| Rg <| Lv (Fa 4 46) <| Lv (Ld (v := ownV (grpA A (L.take k.1)).2.length k.2.2)) <| Lv (Fa 1 4) <| Lv (Ld (v := .bool (doA (grpA A (L.take k.1)).1 y).2.fd)) <| Le (Eff.buildSlice (rfl) [_] Tryz.underlying46 Tryz.sizeOf4 (by exact Tryz.zeroValue4) rfl rfl rfl rfl (by rfl)) fun b151 _ => Le (Eff.appendAny (boE (doA (grpA A (L.take k.1)).1 y).2.fd) (sz := 1) (bytes := 1) (z := .bool false) (xs := (grpA A (L.take k.1)).2.flatMap boE) (m0 := (grpA A (L.take k.1)).2.length) (o := k.2.2) (m := 1) (pk := [ownG 4 ((grpA A (L.take k.1)).2.flatMap boE) k.2.2]) rfl rfl Tryz.underlying46 (by kernel_rfl) rfl (by omega) (by repeat (first | exact .nil | apply Pick.cons | exact .here | apply Ext.there)) (by simp) hk3 (by rfl) (fun hm0 => ⟨b151, 0, rfl, fun w hw => V.range_of_block (o := 0) (cs := boE (doA (grpA A (L.take k.1)).1 y).2.fd) (r := []) (hw.own _ (show InS (b151, .cells (boE (doA (grpA A (L.take k.1)).1 y).2.fd).toArray 4 (0, 0)) _ from (by repeat (first | exact .here | exact .inner .here | exact .inner (.inner .here) | refine .there ?_))).mem) rfl⟩) (by rfl) (by omega) (by omega)) ?_
        intro o9 ho9
        refine Lv (Fa 4 46) <| LeN (StS (h1 := V.ownV_one _ _)) fun _ _ => Nl <| Bn <| Ps <| Rg <| Lv Mv <| Lv Ar <| Lv Av <| Nl ?_
        rw [resN_x hr9]
        refine PQ_mono (sg' := [[(b2, .cells ((sfX s (grpA A (L.take (k.1 + 1))).1 (resN k.2.1 r9)).cells).toArray 34 (0, 0))], [(b3, .cells (calC (Cal.mk 7 key val to (some ⟨bb1, o1, none⟩) L.length gc)).toArray 52 (0, 0))], [(b4, .cells [.slice none 0 0, .slice none 0 0].toArray 34 (0, 0))], [(b5, .cells (ans0 0).toArray 48 (0, 0))], [(b6, .cells (ansC 0 false [] (.slice none 0 0) (ownV (grpA A (L.take (k.1 + 1))).2.length o9)).toArray 48 (0, 0))], refP (grpA A (L.take (k.1 + 1))).1 (resN k.2.1 r9), refQ (grpA A (L.take (k.1 + 1))).1 (resN k.2.1 r9), ownG 4 ((grpA A (L.take (k.1 + 1))).2.flatMap boE) o9]) (fun w hw => ?_) ?_
        · rw [hg1, hg2]
          have h9 := resN_hp (R := [[(b2, .cells ((sfX s (doA (grpA A (L.take k.1)).1 y).1 (resN k.2.1 r9)).cells).toArray 34 (0, 0))], [(b3, .cells (calC (Cal.mk 7 key val to (some ⟨bb1, o1, none⟩) L.length gc)).toArray 52 (0, 0))], [(b4, .cells [.slice none 0 0, .slice none 0 0].toArray 34 (0, 0))], [(b5, .cells (ans0 0).toArray 48 (0, 0))], [(b6, .cells (ansC 0 false [] (.slice none 0 0) (ownV ((grpA A (L.take k.1)).2.length + 1) o9)).toArray 48 (0, 0))], ownG 4 ((grpA A (L.take k.1)).2.flatMap boE ++ boE (doA (grpA A (L.take k.1)).1 y).2.fd) o9]) hr9 (hw.pick (ss := [refP (doA (grpA A (L.take k.1)).1 y).1 r9, refQ (doA (grpA A (L.take k.1)).1 y).1 r9, refP (grpA A (L.take k.1)).1 k.2.1, refQ (grpA A (L.take k.1)).1 k.2.1, [(b2, .cells ((sfX s (doA (grpA A (L.take k.1)).1 y).1 (resN k.2.1 r9)).cells).toArray 34 (0, 0))], [(b3, .cells (calC (Cal.mk 7 key val to (some ⟨bb1, o1, none⟩) L.length gc)).toArray 52 (0, 0))], [(b4, .cells [.slice none 0 0, .slice none 0 0].toArray 34 (0, 0))], [(b5, .cells (ans0 0).toArray 48 (0, 0))], [(b6, .cells (ansC 0 false [] (.slice none 0 0) (ownV ((grpA A (L.take k.1)).2.length + 1) o9)).toArray 48 (0, 0))], ownG 4 ((grpA A (L.take k.1)).2.flatMap boE ++ boE (doA (grpA A (L.take k.1)).1 y).2.fd) o9]) (by repeat (first | exact .nil | apply Pick.cons | exact .here | apply Ext.there)))
          refine h9.perm ?_
          simp only [List.flatten_cons, List.flatten_nil, List.append_nil, List.flatMap_append, List.flatMap_cons, List.flatMap_nil, List.length_append, List.length_cons, List.length_nil, Nat.zero_add]
          classical
          refine List.perm_iff_count.2 fun i => ?_
          simp only [List.count_append]
          omega
        exact roundA ((k.1 + 1, resN k.2.1 r9, o9)) ⟨by simp only; omega, by simp only; rw [hg1]; exact resN_ok hk2 hr9, by simp only; rw [hg2]; simpa using ho9⟩ (by simp only; omega)
    · refine Ro rfl AA fun b11 _ => RW.any [6, 10] (by kernel_rfl) (by simp) fun i hi => ?_
      simp only [List.mem_cons, List.not_mem_nil, or_false] at hi
      rcases hi with rfl | rfl
      · refine Ro rfl (CM [] fun w hw hs0 => rapplyS_c (sfX s (grpA A (L.take k.1)).1 k.2.1) (grpA A (L.take k.1)).1 y hy.1 hy.2 w (sfX_ok (hA.hp hw (by simp [ids])) hk2 hw (by repeat (first | exact .nil | apply Pick.cons | exact .here | apply Ext.there))) (by omega)) ?_
        rintro ⟨r9, ra9⟩ ⟨hr9, ha9⟩
        refine Rv 7 rfl Mv <| Rv 8 rfl Ex <| RW.re 144 (.agg ((sfX (sfX s (grpA A (L.take k.1)).1 k.2.1) (doA (grpA A (L.take k.1)).1 y).1 r9).cells).toArray) rfl (by rw [sfX_c]) <| Rv 9 rfl Ex <| Re 10 rfl AA fun b10 _ => ReN 12 rfl (StW (cs := (sfX (sfX s (grpA A (L.take k.1)).1 k.2.1) (doA (grpA A (L.take k.1)).1 y).1 r9).cells) (h1 := by rfl)) fun _ _ => ReN 13 rfl (Eff.storeW (cs := (doA (grpA A (L.take k.1)).1 y).2.cells ra9) rfl rfl (by repeat (first | exact .here | exact .inner .here | exact .inner (.inner .here) | apply Upd.there)) (by rfl) Tryz.sizeOf48 (ans_one _ _)) fun _ _ => Rd <| Ps <| Sq <| Rg <| Lv (Lw (l := (sfX (sfX s (grpA A (L.take k.1)).1 k.2.1) (doA (grpA A (L.take k.1)).1 y).1 r9).cells)) <| LeN (StW (cs := (sfX (sfX s (grpA A (L.take k.1)).1 k.2.1) (doA (grpA A (L.take k.1)).1 y).1 r9).cells) (h1 := by rfl)) fun _ _ => Nl <| Ps <| Rg <| Lv (Fa 4 46) <| Lv (Ld (v := ownV (grpA A (L.take k.1)).2.length k.2.2)) <| Lv (Fa 1 4) <| Lv (Ld (v := .bool (doA (grpA A (L.take k.1)).1 y).2.fd)) <| Le (Eff.buildSlice (rfl) [_] Tryz.underlying46 Tryz.sizeOf4 (by exact Tryz.zeroValue4) rfl rfl rfl rfl (by rfl)) fun b151 _ => Le (Eff.appendAny (boE (doA (grpA A (L.take k.1)).1 y).2.fd) (sz := 1) (bytes := 1) (z := .bool false) (xs := (grpA A (L.take k.1)).2.flatMap boE) (m0 := (grpA A (L.take k.1)).2.length) (o := k.2.2) (m := 1) (pk := [ownG 4 ((grpA A (L.take k.1)).2.flatMap boE) k.2.2]) rfl rfl Tryz.underlying46 (by kernel_rfl) rfl (by omega) (by repeat (first | exact .nil | apply Pick.cons | exact .here | apply Ext.there)) (by simp) hk3 (by rfl) (fun hm0 => ⟨b151, 0, rfl, fun w hw => V.range_of_block (o := 0) (cs := boE (doA (grpA A (L.take k.1)).1 y).2.fd) (r := []) (hw.own _ (show InS (b151, .cells (boE (doA (grpA A (L.take k.1)).1 y).2.fd).toArray 4 (0, 0)) _ from (by repeat (first | exact .here | exact .inner .here | exact .inner (.inner .here) | refine .there ?_))).mem) rfl⟩) (by rfl) (by omega) (by omega)) ?_
        intro o9 ho9
        refine Lv (Fa 4 46) <| LeN (StS (h1 := V.ownV_one _ _)) fun _ _ => Nl <| Bn <| Ps <| Rg <| Lv Mv <| Lv Ar <| Lv Av <| Nl ?_
        rw [resN_x hr9]
        refine PQ_mono (sg' := [[(b2, .cells ((sfX s (grpA A (L.take (k.1 + 1))).1 (resN k.2.1 r9)).cells).toArray 34 (0, 0))], [(b3, .cells (calC (Cal.mk 7 key val to (some ⟨bb1, o1, none⟩) L.length gc)).toArray 52 (0, 0))], [(b4, .cells [.slice none 0 0, .slice none 0 0].toArray 34 (0, 0))], [(b5, .cells (ans0 0).toArray 48 (0, 0))], [(b6, .cells (ansC 0 false [] (.slice none 0 0) (ownV (grpA A (L.take (k.1 + 1))).2.length o9)).toArray 48 (0, 0))], refP (grpA A (L.take (k.1 + 1))).1 (resN k.2.1 r9), refQ (grpA A (L.take (k.1 + 1))).1 (resN k.2.1 r9), ownG 4 ((grpA A (L.take (k.1 + 1))).2.flatMap boE) o9]) (fun w hw => ?_) ?_
        · rw [hg1, hg2]
          have h9 := resN_hp (R := [[(b2, .cells ((sfX s (doA (grpA A (L.take k.1)).1 y).1 (resN k.2.1 r9)).cells).toArray 34 (0, 0))], [(b3, .cells (calC (Cal.mk 7 key val to (some ⟨bb1, o1, none⟩) L.length gc)).toArray 52 (0, 0))], [(b4, .cells [.slice none 0 0, .slice none 0 0].toArray 34 (0, 0))], [(b5, .cells (ans0 0).toArray 48 (0, 0))], [(b6, .cells (ansC 0 false [] (.slice none 0 0) (ownV ((grpA A (L.take k.1)).2.length + 1) o9)).toArray 48 (0, 0))], ownG 4 ((grpA A (L.take k.1)).2.flatMap boE ++ boE (doA (grpA A (L.take k.1)).1 y).2.fd) o9]) hr9 (hw.pick (ss := [refP (doA (grpA A (L.take k.1)).1 y).1 r9, refQ (doA (grpA A (L.take k.1)).1 y).1 r9, refP (grpA A (L.take k.1)).1 k.2.1, refQ (grpA A (L.take k.1)).1 k.2.1, [(b2, .cells ((sfX s (doA (grpA A (L.take k.1)).1 y).1 (resN k.2.1 r9)).cells).toArray 34 (0, 0))], [(b3, .cells (calC (Cal.mk 7 key val to (some ⟨bb1, o1, none⟩) L.length gc)).toArray 52 (0, 0))], [(b4, .cells [.slice none 0 0, .slice none 0 0].toArray 34 (0, 0))], [(b5, .cells (ans0 0).toArray 48 (0, 0))], [(b6, .cells (ansC 0 false [] (.slice none 0 0) (ownV ((grpA A (L.take k.1)).2.length + 1) o9)).toArray 48 (0, 0))], ownG 4 ((grpA A (L.take k.1)).2.flatMap boE ++ boE (doA (grpA A (L.take k.1)).1 y).2.fd) o9]) (by repeat (first | exact .nil | apply Pick.cons | exact .here | apply Ext.there)))
          refine h9.perm ?_
          simp only [List.flatten_cons, List.flatten_nil, List.append_nil, List.flatMap_append, List.flatMap_cons, List.flatMap_nil, List.length_append, List.length_cons, List.length_nil, Nat.zero_add]
          classical
          refine List.perm_iff_count.2 fun i => ?_
          simp only [List.count_append]
          omega
        exact roundA ((k.1 + 1, resN k.2.1 r9, o9)) ⟨by simp only; omega, by simp only; rw [hg1]; exact resN_ok hk2 hr9, by simp only; rw [hg2]; simpa using ho9⟩ (by simp only; omega)
      · refine Ro rfl AA fun b10 _ => Re 6 rfl (CM [] fun w hw hs0 => rapplyS_c (sfX s (grpA A (L.take k.1)).1 k.2.1) (grpA A (L.take k.1)).1 y hy.1 hy.2 w (sfX_ok (hA.hp hw (by simp [ids])) hk2 hw (by repeat (first | exact .nil | apply Pick.cons | exact .here | apply Ext.there))) (by omega)) ?_
        rintro ⟨r9, ra9⟩ ⟨hr9, ha9⟩
        refine Rv 7 rfl Mv <| Rv 8 rfl Ex <| RW.re 144 (.agg ((sfX (sfX s (grpA A (L.take k.1)).1 k.2.1) (doA (grpA A (L.take k.1)).1 y).1 r9).cells).toArray) rfl (by rw [sfX_c]) <| Rv 9 rfl Ex <| ReN 12 rfl (StW (cs := (sfX (sfX s (grpA A (L.take k.1)).1 k.2.1) (doA (grpA A (L.take k.1)).1 y).1 r9).cells) (h1 := by rfl)) fun _ _ => ReN 13 rfl (Eff.storeW (cs := (doA (grpA A (L.take k.1)).1 y).2.cells ra9) rfl rfl (by repeat (first | exact .here | exact .inner .here | exact .inner (.inner .here) | apply Upd.there)) (by rfl) Tryz.sizeOf48 (ans_one _ _)) fun _ _ => Rd <| Ps <| Sq <| Rg <| Lv (Lw (l := (sfX (sfX s (grpA A (L.take k.1)).1 k.2.1) (doA (grpA A (L.take k.1)).1 y).1 r9).cells)) <| LeN (StW (cs := (sfX (sfX s (grpA A (L.take k.1)).1 k.2.1) (doA (grpA A (L.take k.1)).1 y).1 r9).cells) (h1 := by rfl)) fun _ _ => Nl <| Ps <| Rg <| Lv (Fa 4 46) <| Lv (Ld (v := ownV (grpA A (L.take k.1)).2.length k.2.2)) <| Lv (Fa 1 4) <| Lv (Ld (v := .bool (doA (grpA A (L.take k.1)).1 y).2.fd)) <| Le (Eff.buildSlice (rfl) [_] Tryz.underlying46 Tryz.sizeOf4 (by exact Tryz.zeroValue4) rfl rfl rfl rfl (by rfl)) fun b151 _ => Le (Eff.appendAny (boE (doA (grpA A (L.take k.1)).1 y).2.fd) (sz := 1) (bytes := 1) (z := .bool false) (xs := (grpA A (L.take k.1)).2.flatMap boE) (m0 := (grpA A (L.take k.1)).2.length) (o := k.2.2) (m := 1) (pk := [ownG 4 ((grpA A (L.take k.1)).2.flatMap boE) k.2.2]) rfl rfl Tryz.underlying46 (by kernel_rfl) rfl (by omega) (by repeat (first | exact .nil | apply Pick.cons | exact .here | apply Ext.there)) (by simp) hk3 (by rfl) (fun hm0 => ⟨b151, 0, rfl, fun w hw => V.range_of_block (o := 0) (cs := boE (doA (grpA A (L.take k.1)).1 y).2.fd) (r := []) (hw.own _ (show InS (b151, .cells (boE (doA (grpA A (L.take k.1)).1 y).2.fd).toArray 4 (0, 0)) _ from (by repeat (first | exact .here | exact .inner .here | exact .inner (.inner .here) | refine .there ?_))).mem) rfl⟩) (by rfl) (by omega) (by omega)) ?_
        intro o9 ho9
        refine Lv (Fa 4 46) <| LeN (StS (h1 := V.ownV_one _ _)) fun _ _ => Nl <| Bn <| Ps <| Rg <| Lv Mv <| Lv Ar <| Lv Av <| Nl ?_
        rw [resN_x hr9]
        refine PQ_mono (sg' := [[(b2, .cells ((sfX s (grpA A (L.take (k.1 + 1))).1 (resN k.2.1 r9)).cells).toArray 34 (0, 0))], [(b3, .cells (calC (Cal.mk 7 key val to (some ⟨bb1, o1, none⟩) L.length gc)).toArray 52 (0, 0))], [(b4, .cells [.slice none 0 0, .slice none 0 0].toArray 34 (0, 0))], [(b5, .cells (ans0 0).toArray 48 (0, 0))], [(b6, .cells (ansC 0 false [] (.slice none 0 0) (ownV (grpA A (L.take (k.1 + 1))).2.length o9)).toArray 48 (0, 0))], refP (grpA A (L.take (k.1 + 1))).1 (resN k.2.1 r9), refQ (grpA A (L.take (k.1 + 1))).1 (resN k.2.1 r9), ownG 4 ((grpA A (L.take (k.1 + 1))).2.flatMap boE) o9]) (fun w hw => ?_) ?_
        · rw [hg1, hg2]
          have h9 := resN_hp (R := [[(b2, .cells ((sfX s (doA (grpA A (L.take k.1)).1 y).1 (resN k.2.1 r9)).cells).toArray 34 (0, 0))], [(b3, .cells (calC (Cal.mk 7 key val to (some ⟨bb1, o1, none⟩) L.length gc)).toArray 52 (0, 0))], [(b4, .cells [.slice none 0 0, .slice none 0 0].toArray 34 (0, 0))], [(b5, .cells (ans0 0).toArray 48 (0, 0))], [(b6, .cells (ansC 0 false [] (.slice none 0 0) (ownV ((grpA A (L.take k.1)).2.length + 1) o9)).toArray 48 (0, 0))], ownG 4 ((grpA A (L.take k.1)).2.flatMap boE ++ boE (doA (grpA A (L.take k.1)).1 y).2.fd) o9]) hr9 (hw.pick (ss := [refP (doA (grpA A (L.take k.1)).1 y).1 r9, refQ (doA (grpA A (L.take k.1)).1 y).1 r9, refP (grpA A (L.take k.1)).1 k.2.1, refQ (grpA A (L.take k.1)).1 k.2.1, [(b2, .cells ((sfX s (doA (grpA A (L.take k.1)).1 y).1 (resN k.2.1 r9)).cells).toArray 34 (0, 0))], [(b3, .cells (calC (Cal.mk 7 key val to (some ⟨bb1, o1, none⟩) L.length gc)).toArray 52 (0, 0))], [(b4, .cells [.slice none 0 0, .slice none 0 0].toArray 34 (0, 0))], [(b5, .cells (ans0 0).toArray 48 (0, 0))], [(b6, .cells (ansC 0 false [] (.slice none 0 0) (ownV ((grpA A (L.take k.1)).2.length + 1) o9)).toArray 48 (0, 0))], ownG 4 ((grpA A (L.take k.1)).2.flatMap boE ++ boE (doA (grpA A (L.take k.1)).1 y).2.fd) o9]) (by repeat (first | exact .nil | apply Pick.cons | exact .here | apply Ext.there)))
          refine h9.perm ?_
          simp only [List.flatten_cons, List.flatten_nil, List.append_nil, List.flatMap_append, List.flatMap_cons, List.flatMap_nil, List.length_append, List.length_cons, List.length_nil, Nat.zero_add]
          classical
          refine List.perm_iff_count.2 fun i => ?_
          simp only [List.count_append]
          omega
        exact roundA ((k.1 + 1, resN k.2.1 r9, o9)) ⟨by simp only; omega, by simp only; rw [hg1]; exact resN_ok hk2 hr9, by simp only; rw [hg2]; simpa using ho9⟩ (by simp only; omega)
  · replace h133 := bF h133
    have h133 : (L.length : Int) ≤ k.1 := h133
    have hk9 : L.length ≤ k.1 := by omega
    have hte : L.take k.1 = L := List.take_of_length_le hk9
    rw [hte] at hk2 hk3
    refine Xt <| Te <| Te <| Bh <| Bn <| Ps <| Sq <| Dr ([[(b2, .cells _ 34 (0, 0))], [(b6, .cells _ 48 (0, 0))]]) ?_
    refine Rv 0 rfl (Lw (l := (sfX s (grpA A (L.take k.1)).1 k.2.1).cells)) <| Rv 1 rfl (Lw (l := (ansC 0 false [] (.slice none 0 0) (ownV (grpA A (L.take k.1)).2.length k.2.2)))) <| ReN 2 rfl (StW (cs := (sfX s (grpA A (L.take k.1)).1 k.2.1).cells) (h1 := by rfl)) fun _ _ => ReN 3 rfl (Eff.storeW (cs := (ansC 0 false [] (.slice none 0 0) (ownV (grpA A (L.take k.1)).2.length k.2.2))) rfl rfl (by repeat (first | exact .here | exact .inner .here | exact .inner (.inner .here) | apply Upd.there)) (by rfl) Tryz.sizeOf48 (ansH_one _ _ _)) fun _ _ => Rd <| Ps <| Rt <| V.PQ.retCC rfl rfl rfl (by repeat (first | exact .here | exact .inner .here | exact .inner (.inner .here) | refine .there ?_)) Tryz.isAgg34 (by exact Tryz.sizeOf34) (by repeat (first | exact .here | exact .inner .here | exact .inner (.inner .here) | refine .there ?_)) Tryz.isAgg48 (by exact Tryz.sizeOf48) ?_
    rw [hte]
    intro w' hw; exact ⟨(k.2.1, (none, k.2.2)), ⟨hk2, ⟨rfl, rfl⟩, hk3⟩, by rw [sfX_c]; rfl, (hw.pick (ss := [refP (grpA A L).1 k.2.1, refQ (grpA A L).1 k.2.1, ownG 4 ((grpA A L).2.flatMap boE) k.2.2]) (by repeat (first | exact .nil | apply Pick.cons | exact .here | apply Ext.there))).perm (by simp [V.ownG, V.ownS])⟩
end I
end Go.Proofs.YtlpbjmbgopfkhaaGreat

/- The document's Apply in full; its orders. -/
namespace Go.Proofs.YtlpbjmbgopfkhaaGreat
open Go Go.RowKit V
set_option linter.unusedVariables false
set_option maxRecDepth 100000
namespace I
open V (str byC ownV ownG ownS ownOk)
theorem rapply_c (s : Sf) (A : ShA) (x : Cal) (L : List Cal) (w : World) (hA : SfR w s A) (hl : A.1.length ≤ 800 ∧ A.2.length ≤ 800) (hL : L.length ≤ 1000) (hR : CalR w x L) : Calls Tryz.prog 27 [.agg s.cells.toArray, .agg (calC x).toArray].toArray w fun e w' => ∃ r : ResO × AnsO, (refOk A (apA A x L).1 r.1 ∧ ansOk (apA A x L).2 r.2) ∧ e = .returned (.tuple #[.agg (refV s (apA A x L).1 r.1).toArray, .agg ((apA A x L).2.cells r.2).toArray]) ∧ Hp ⟨w, []⟩ [refP (apA A x L).1 r.1, refQ (apA A x L).1 r.1, ownG 69 ((apA A x L).2.ps.flatMap prC) r.2.1, ownG 4 ((apA A x L).2.hs.flatMap boE) r.2.2] w' := by
  by_cases hk : x.ck = 7
  · by_cases hg : goodF x L = 0
    · exact rapplyG_c s A x L hk hg w hA hl hL hR
    · have hap : apA A x L = (A, ⟨goodF x L, false, [], [], []⟩) := by unfold apA; rw [if_pos hg]
      rw [hap]
      refine (rapply_bad s A x L hg w hA hL (fun _ => hR)).mono fun e w' ⟨he, hb⟩ => ⟨(none, (none, none)), ⟨rfl, ⟨rfl, rfl⟩, ⟨rfl, rfl⟩⟩, he, ?_⟩
      exact ((hp_none w).call_ro hb).perm (by simp [refP, refQ, V.ownG, V.ownS])
  · exact rapply0_c s A x L hk w hA (by omega) hL
def UpN (l : List Nat) (k : Nat) : Prop := ∀ (i j x y : Nat), i < k → j < i → l[i]? = some x → l[j]? = some y → x ≠ y
def UpM (l : List Nat) (k j : Nat) : Prop := ∀ (i x y : Nat), i < j → l[k]? = some x → l[i]? = some y → x ≠ y
theorem UpM.step {l : List Nat} {k j x y : Nat} (h : UpM l k j) (hx : l[k]? = some x) (hy : l[j]? = some y) (e : x ≠ y) : UpM l k (j + 1) := fun i a b hi ha hb => by
  by_cases e9 : i = j
  · subst e9; rw [hx] at ha; rw [hy] at hb; cases ha; cases hb; exact e
  · exact h i a b (by omega) ha hb
theorem UpN.step {l : List Nat} {k j : Nat} (h : UpN l k) (h2 : UpM l k j) (hj : k ≤ j) : UpN l (k + 1) := fun a b x y ha hb hx hy => by
  by_cases e : a = k
  · subst e; exact h2 b x y (by omega) hx hy
  · exact h a b x y (by omega) hb hx hy
theorem UpN.end {l : List Nat} {k : Nat} (h : UpN l k) (hk : l.length ≤ k) : l.Nodup := by
  rw [List.nodup_iff_pairwise_ne, List.pairwise_iff_getElem]
  intro i j hi hj hij e
  exact h j i l[j] l[i] (by omega) hij (by simp) (by simp) e.symm
theorem dup_of {l : List Nat} {k j x : Nat} (hj : j < k) (hx : l[k]? = some x) (hy : l[j]? = some x) : ¬ l.Nodup := fun h => by
  obtain ⟨h1, h2⟩ := List.getElem?_eq_some_iff.1 hx
  obtain ⟨h3, h4⟩ := List.getElem?_eq_some_iff.1 hy
  have := (List.getElem_inj h).1 (h2.trans h4.symm)
  omega
theorem order_c (l : List Nat) (p : Option Addr) (n c : Nat) (hn : n = l.length) (hl : l.length ≤ 1000) (w : World) (h : V.slAt w p 1 inE l) : Calls Tryz.prog 26 [.slice p n c].toArray w fun e w' => e = .returned (.bool (decide l.Nodup)) ∧ Below w.heap.size w w' := by
  subst hn
  refine V.calls [] Tryz.func26 rfl Tryz.ntmps26 (Nat.le_of_ble_eq_true rfl) (V.sat_nil _) <| Sq <| Rg <| Lv Av <| Nl <| Ps <| Sq <| Sq <| Rg <| Lv Av <| Nl <| Ps <| Bk <| loopA (γ := Nat) (fun k => [(0, .slice p l.length c), (3, .int .i64 (k : Nat))]) (fun _ => []) (fun k => k ≤ l.length ∧ UpN l k) (fun k => l.length - k) (0) ⟨Nat.zero_le _, fun i j x y h => absurd h (Nat.not_lt_zero _)⟩ fun k => ?_
  rintro ⟨hk1, hk2⟩
  refine Sq <| Sq <| Rg <| Lv Mv <| Lv Mv <| Lv Ln <| Lv Cm <| Nl <| Ps ?_
  refine CW.cond rfl (fun h8 => ?_) (fun h8 => ?_)
  · replace h8 := bT h8
    have hk9 : k < l.length := by omega
    obtain ⟨bb1, o1, x, rfl, hb1, hx1, hr1⟩ := V.slAt_at h rfl (k := k) hk9
    refine Sk <| Ps <| Sq <| Bk <| Sq <| Rg <| Lv Av <| Nl <| Ps <| Bk <| loopA (γ := Nat) (fun j => [(0, .slice (some ⟨bb1, o1, none⟩) l.length c), (3, .int .i64 (k : Nat)), (4, .int .i64 (j : Nat))]) (fun _ => []) (fun j => j ≤ k ∧ UpM l k j) (fun j => k - j) (0) ⟨Nat.zero_le _, fun i x y h => absurd h (Nat.not_lt_zero _)⟩ fun j => ?_
    rintro ⟨hj1, hj2⟩
    refine Sq <| Sq <| Rg <| Lv Mv <| Lv Mv <| Lv Cm <| Nl <| Ps ?_
    refine CW.cond rfl (fun h13 => ?_) (fun h13 => ?_)
    · replace h13 := bT h13
      have hj9 : j < k := by omega
      have hj8 : j < l.length := by omega
      obtain ⟨bb2, o2, y, hpp2, hb2, hx2, hr2⟩ := V.slAt_at h rfl (k := j) hj8
      cases hpp2
      refine Sk <| Ps <| Sq <| Bk <| Sq <| Qt <| Qv Mv <| Qv Mv <| Qv (Val.indexAddrN rfl rfl Tryz.underlying29 Tryz.sizeOf3 hk9) <| Qv (Val.loadO rfl Tryz.isAgg3 hb1 (by simp [ids]) (hr1 k x hx1 0 _ rfl)) <| Qv Mv <| Qv Mv <| Qv (Val.indexAddrN rfl rfl Tryz.underlying29 Tryz.sizeOf3 hj8) <| Qv (Val.loadO rfl Tryz.isAgg3 hb2 (by simp [ids]) (hr2 j y hx2 0 _ rfl)) <| Qv Cm <| Ql <| Ps ?_
      refine CW.cond rfl (fun h24 => ?_) (fun h24 => ?_)
      · replace h24 := bT h24
        have h24 : x = y := by omega
        subst h24
        refine Sq <| Rg <| Lv Av <| Nl <| Ps <| Rt <| Br <| Tr <| Tr <| Br <| Br <| Tr <| Tr <| Br <| Tr <| Rt1 ?_
        intro w' hw; exact ⟨by rw [decide_eq_false (dup_of hj9 hx1 hx2)], hw.below⟩
      · replace h24 := bF h24
        have h24 : x ≠ y := fun e => by subst e; simp at h24
        refine Sk <| Bn <| Ps <| Rg <| Lv Mv <| Lv Ar <| Lv Av <| Nl ?_
        exact roundA (j + 1) ⟨by omega, hj2.step hx1 hx2 h24⟩ (by omega)
    · replace h13 := bF h13
      have hj9 : k ≤ j := by omega
      refine Xt <| Te <| Te <| Bh <| Bn <| Ps <| Rg <| Lv Mv <| Lv Ar <| Lv Av <| Nl ?_
      exact roundA (k + 1) ⟨by omega, hk2.step hj2 hj9⟩ (by omega)
  · replace h8 := bF h8
    have hk9 : l.length ≤ k := by omega
    refine Xt <| Te <| Te <| Bh <| Ps <| Sq <| Rg <| Lv Av <| Nl <| Ps <| Rt <| Rt1 ?_
    intro w' hw; exact ⟨by rw [decide_eq_true (hk2.end hk9)], hw.below⟩
end I
end Go.Proofs.YtlpbjmbgopfkhaaGreat

/- The document's digits. -/
namespace Go.Proofs.YtlpbjmbgopfkhaaGreat
open Go Go.RowKit V
set_option linter.unusedVariables false
set_option maxRecDepth 100000
namespace I
open V (str byC ownV ownG ownS ownOk)
/-- A number's last digits, the last one last. -/
def digF (i n : Nat) : Nat → List Nat
  | 0 => []
  | d + 1 => digF (i / n) n d ++ [i % n]
theorem digF_len (n : Nat) : ∀ (d i : Nat), (digF i n d).length = d
  | 0, _ => rfl
  | d + 1, i => by rw [digF, List.length_append, digF_len n d]; rfl
theorem zeros (d : Nat) : V.repL [Value.int .i64 0] d = (List.replicate d 0).flatMap inE := by
  induction d with
  | zero => rfl
  | succ d ih => rw [List.replicate_succ, List.flatMap_cons, ← ih]; rfl
theorem tdiv_nat (i n : Nat) (hi : i ≤ 9223372036854775807) : IntKind.i64.wrap (((i : Nat) : Int).tdiv (n : Nat)) = ((i / n : Nat) : Int) := by
  rw [show ((i : Nat) : Int).tdiv (n : Nat) = ((i / n : Nat) : Int) from rfl]
  have h1 : i / n ≤ i := Nat.div_le_self _ _
  generalize i / n = q at h1 ⊢
  exact IntWalk.i64_in _ (by omega)
/-- What the cells hold behind j digits. -/
def mid (d : Nat) (x : Nat × Nat × List Nat) : List Nat := List.replicate (d - x.1) 0 ++ x.2.2
theorem in_set (l : List Nat) (k v : Nat) : (l.flatMap inE).set k (.int .i64 (v : Nat)) = (l.set k v).flatMap inE := by
  induction l generalizing k with
  | nil => rfl
  | cons a r ih => cases k with
    | zero => rfl
    | succ k => simp only [List.flatMap_cons, inE, List.cons_append, List.nil_append, List.set_cons_succ, List.cons.injEq, true_and]; exact ih k
theorem mid_set {d j v : Nat} {tl : List Nat} (hj : j < d) : (List.replicate (d - j) 0 ++ tl).set (d - j - 1) v = List.replicate (d - (j + 1)) 0 ++ v :: tl := by
  obtain ⟨m, hm⟩ : ∃ m, d - j = m + 1 := ⟨d - j - 1, by omega⟩
  rw [hm, show m + 1 - 1 = m by omega, show d - (j + 1) = m by omega, List.replicate_succ', List.append_assoc, List.set_append_right _ _ (by simp)]
  simp
theorem digits_c (i n d : Nat) (hi : i ≤ 9223372036854775807) (hn : 0 < n) (hd0 : 0 < d) (hd : d ≤ 1000) (w : World) : Calls Tryz.prog 25 [.int .i64 (i : Nat), .int .i64 (n : Nat), .int .i64 (d : Nat)].toArray w fun e w' => ∃ b : Nat, True ∧ e = .returned (.slice (some ⟨b, 0, none⟩) d d) ∧ Hp ⟨w, []⟩ [[(b, .cells ((digF i n d).flatMap inE).toArray 3 (0, 0))]] w' := by
  refine V.calls [] Tryz.func25 rfl Tryz.ntmps25 (Nat.le_of_ble_eq_true rfl) (V.sat_nil _) <| Sq <| Rg <| Lv Av <| Nl <| Ps <| Sq <| Rg <| Lv Mv <| Le (Eff.makeSlice (by_ := 8) (zl := [.int .i64 0]) rfl rfl Tryz.underlying29 (by kernel_rfl) Tryz.sizeOf3 (by exact Tryz.zeroValue3) rfl rfl (by omega) (by omega) (by omega)) fun b10 _ => ?_
  rw [zeros, show List.replicate d 0 = mid d (0, i, []) from by simp [mid]]
  refine Lv Av <| Nl <| Ps <| Sq <| Sq <| Rg <| Lv Mv <| Lv Ar <| Lv Av <| Nl <| Ps <| Bk <| loopA (γ := Nat × Nat × List Nat) (fun x => [(0, .int .i64 (x.2.1 : Nat)), (1, .int .i64 (n : Nat)), (2, .int .i64 (d : Nat)), (7, .slice (some ⟨b10, 0, none⟩) d d), (8, .int .i64 (((d - x.1 : Nat) : Int) - 1))]) (fun x => [[(b10, .cells ((mid d x).flatMap inE).toArray 3 (0, 0))]]) (fun x => x.1 ≤ d ∧ x.2.1 ≤ i ∧ x.2.2.length = x.1 ∧ digF i n d = digF x.2.1 n (d - x.1) ++ x.2.2) (fun x => d - x.1) ((0, i, [])) ⟨Nat.zero_le _, Nat.le_refl _, rfl, by simp⟩ fun x => ?_
  rintro ⟨hj1, hj2, hj3, hj4⟩
  refine Sq <| Sq <| Rg <| Lv Mv <| Lv Cm <| Nl <| Ps ?_
  refine CW.cond rfl (fun h14 => ?_) (fun h14 => ?_)
  · replace h14 := bT h14
    have hj9 : x.1 < d := by omega
    refine Sk <| Ps <| Sq <| Bk <| Sq <| Rg <| Lv Mv <| Lv Mv <| LW.re 18 (.int .i64 ((d - x.1 - 1 : Nat) : Int)) rfl (by congr 1; omega) <| Lv Mv <| Lv Mv <| Lv (Val.rem rfl rfl (by omega)) <| LW.re 21 (.int .i64 ((x.2.1 % n : Nat) : Int)) rfl (by rfl) <| Lv (Val.indexAddrN rfl rfl Tryz.underlying29 Tryz.sizeOf3 (show d - x.1 - 1 < d by omega)) <| LeN (Eff.store (l' := (mid d (x.1 + 1, x.2.1 / n, x.2.1 % n :: x.2.2)).flatMap inE) rfl rfl rfl (by repeat (first | exact .here | exact .inner .here | exact .inner (.inner .here) | apply Upd.there)) (by rw [Nat.zero_add, Nat.mul_one, in_set]; exact congrArg (List.flatMap inE) (mid_set (by omega))) (by rw [V.flatMap_len inE_len, Nat.blt_eq]; simp only [mid, List.length_append, List.length_replicate]; omega) Tryz.sizeOf3) fun _ _ => Nl <| Ps <| Rg <| Lv Mv <| Lv Mv <| Lv (Val.quo rfl rfl (by omega)) <| LW.re 25 (.int .i64 ((x.2.1 / n : Nat) : Int)) rfl (by rw [tdiv_nat _ _ (by omega)]) <| Lv Av <| Nl <| Bn <| Ps <| Rg <| Lv Mv <| Lv Ar <| LW.re 16 (.int .i64 (((d - (x.1 + 1) : Nat) : Int) - 1)) rfl (by congr 1; omega) <| Lv Av <| Nl ?_
    exact roundA ((x.1 + 1, x.2.1 / n, x.2.1 % n :: x.2.2)) ⟨by simp only; omega, by have h9 := Nat.div_le_self x.2.1 n; simp only; omega, by simp [hj3], by simp only; rw [hj4, show d - x.1 = (d - (x.1 + 1)) + 1 by omega, digF, List.append_assoc]; rfl⟩ (by simp only; omega)
  · replace h14 := bF h14
    have hj9 : x.1 = d := by omega
    refine Xt <| Te <| Te <| Bh <| Ps <| Sq <| Rg <| Lv Mv <| Lv Av <| Nl <| Ps <| Rt <| Rt1 ?_
    have he : mid d x = digF i n d := by rw [hj4, hj9]; simp [mid, hj9, digF]
    rw [he]
    intro w' hw; exact ⟨b10, trivial, rfl, hw.pick (by repeat (first | exact .nil | apply Pick.cons | exact .here | apply Ext.there))⟩
end I
end Go.Proofs.YtlpbjmbgopfkhaaGreat

