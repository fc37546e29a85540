import Derived.Test.YtlpbjmbgopfkhaaGreatJa2
import Derived.Lib.Hide
import Derived.Test.YtlpbjmbgopfkhaaGreatV36
/- A call done to a store. -/
namespace Go.Proofs.YtlpbjmbgopfkhaaGreat
open Go Go.RowKit V
set_option linter.unusedVariables false
set_option maxRecDepth 100000
namespace I
theorem qplaces36 : ∀ w, ((Array.mapM (fun (f : Field) => do pure (f.offset, ← sizeOf f.type)) (Tryz.prog.fieldsOf 36) : Sem (Array (Nat × Nat)))).run Tryz.prog w = .ok [(0, 1), (1, 1), (2, 2)].toArray w := by
  intro w; kernel_rfl
theorem qplaces48 : ∀ w, ((Array.mapM (fun (f : Field) => do pure (f.offset, ← sizeOf f.type)) (Tryz.prog.fieldsOf 48) : Sem (Array (Nat × Nat)))).run Tryz.prog w = .ok [(0, 1), (1, 1), (2, 1), (3, 1), (4, 1), (5, 1)].toArray w := by
  intro w; kernel_rfl
theorem qplaces52 : ∀ w, ((Array.mapM (fun (f : Field) => do pure (f.offset, ← sizeOf f.type)) (Tryz.prog.fieldsOf 52) : Sem (Array (Nat × Nat)))).run Tryz.prog w = .ok [(0, 1), (1, 1), (2, 1), (3, 1), (4, 1)].toArray w := by
  intro w; kernel_rfl
theorem qplaces60 : ∀ w, ((Array.mapM (fun (f : Field) => do pure (f.offset, ← sizeOf f.type)) (Tryz.prog.fieldsOf 60) : Sem (Array (Nat × Nat)))).run Tryz.prog w = .ok [(0, 1), (1, 1), (2, 1)].toArray w := by
  intro w; kernel_rfl
instance : V.Und Tryz.prog 25 (dOf Tryz.underlying25) := ⟨Tryz.underlying25⟩
instance : V.Siz Tryz.prog 25 (kOf Tryz.sizeOf25) := ⟨Tryz.sizeOf25⟩
instance : V.AgF Tryz.prog 25 := ⟨Tryz.isAgg25⟩
instance : V.Zer Tryz.prog 25 (zOf Tryz.zeroValue25) := ⟨Tryz.zeroValue25⟩
instance : V.Und Tryz.prog 30 (dOf Tryz.underlying30) := ⟨Tryz.underlying30⟩
instance : V.Siz Tryz.prog 30 (kOf Tryz.sizeOf30) := ⟨Tryz.sizeOf30⟩
instance : V.AgF Tryz.prog 30 := ⟨Tryz.isAgg30⟩
instance : V.Zer Tryz.prog 30 (zOf Tryz.zeroValue30) := ⟨Tryz.zeroValue30⟩
instance : V.Und Tryz.prog 36 (dOf Tryz.underlying36) := ⟨Tryz.underlying36⟩
instance : V.Siz Tryz.prog 36 (kOf Tryz.sizeOf36) := ⟨Tryz.sizeOf36⟩
instance : V.AgT Tryz.prog 36 := ⟨Tryz.isAgg36⟩
instance : V.Zer Tryz.prog 36 (zOf Tryz.zeroValue36) := ⟨Tryz.zeroValue36⟩
instance : V.Und Tryz.prog 67 (dOf Tryz.underlying67) := ⟨Tryz.underlying67⟩
instance : V.Siz Tryz.prog 67 (kOf Tryz.sizeOf67) := ⟨Tryz.sizeOf67⟩
instance : V.AgF Tryz.prog 67 := ⟨Tryz.isAgg67⟩
instance : V.Zer Tryz.prog 67 (zOf Tryz.zeroValue67) := ⟨Tryz.zeroValue67⟩
instance : V.Plc Tryz.prog 36 (fOf Tryz.underlying36) (lOf (P := Tryz.prog) qplaces36) := ⟨qplaces36, Tryz.underlying36⟩
instance : V.Plc Tryz.prog 48 (fOf Tryz.underlying48) (lOf (P := Tryz.prog) qplaces48) := ⟨qplaces48, Tryz.underlying48⟩
instance : V.Plc Tryz.prog 52 (fOf Tryz.underlying52) (lOf (P := Tryz.prog) qplaces52) := ⟨qplaces52, Tryz.underlying52⟩
instance : V.Plc Tryz.prog 60 (fOf Tryz.underlying60) (lOf (P := Tryz.prog) qplaces60) := ⟨qplaces60, Tryz.underlying60⟩
instance : V.Cal Tryz.prog 9 := ⟨Tryz.call9⟩
instance : V.Cal Tryz.prog 18 := ⟨Tryz.call18⟩
instance : V.Cal Tryz.prog 23 := ⟨Tryz.call23⟩
instance : V.Cal Tryz.prog 24 := ⟨Tryz.call24⟩
instance : V.Cal Tryz.prog 37 := ⟨Tryz.call37⟩
instance : V.Cal Tryz.prog 38 := ⟨Tryz.call38⟩
instance : V.Cal Tryz.prog 39 := ⟨Tryz.call39⟩
instance : V.Cal Tryz.prog 96 := ⟨Tryz.call96⟩
open V (str byC ownV ownG ownS ownOk)
/-- An answer. -/
structure AnsA where
  code : Int
  fd : Bool
  vl : List UInt8
  ps : List Pr
  hs : List Bool
deriving DecidableEq
instance : Inhabited AnsA := ⟨⟨0, false, [], [], []⟩⟩
abbrev AnsO := V.OwnO × V.OwnO
def AnsA.cells (a : AnsA) (r : AnsO) : List Value := ansC a.code a.fd a.vl (ownV a.ps.length r.1) (ownV a.hs.length r.2)
theorem ans_one (a : AnsA) (r : AnsO) : (a.cells r).all (·.oneCell') = true := by
  unfold AnsA.cells ansC
  simp only [List.all_cons, List.all_nil, V.ownV_one, Bool.and_true]
  rfl
def ansOk (a : AnsA) (r : AnsO) : Prop := ownOk 2 a.ps.length (a.ps.flatMap prC) r.1 ∧ ownOk 1 a.hs.length (a.hs.flatMap boE) r.2
abbrev ShO := V.OwnO × OffO
def shC (A : ShA) (r : ShO) : List Value := [ownV A.1.length r.1, offV A.2.length r.2]
def shOk (A : ShA) (r : ShO) : Prop := ownOk 2 A.1.length (A.1.flatMap prC) r.1 ∧ offOk A.2.length r.2
/-- One call that is good. -/
def doA (A : ShA) (x : Cal) : ShA × AnsA :=
  if x.ck = 1 then (A, ⟨0, (getF A.1 x.key).isSome, (getF A.1 x.key).getD [], [], []⟩)
  else if x.ck = 2 then ((putF A.1 x.key x.val, A.2), ⟨0, (getF A.1 x.key).isSome, [], [], []⟩)
  else if x.ck = 3 then ((delF A.1 x.key, A.2), ⟨0, decide ((delF A.1 x.key).length < A.1.length), [], [], []⟩)
  else if x.ck = 4 then ((A.1, A.2 ++ [x.val]), ⟨0, false, [], [], []⟩)
  else if x.ck = 5 then ((A.1, A.2.drop 1), ⟨0, decide (A.2 ≠ []), (A.2[0]?).getD [], [], []⟩)
  else if x.ck = 6 then (A, ⟨0, false, [], scanF A.1 x.key x.to, []⟩)
  else (A, ⟨0, false, [], [], []⟩)
def grpA : ShA → List Cal → ShA × List Bool
  | A, [] => (A, [])
  | A, x :: r => ((grpA (doA A x).1 r).1, (doA A x).2.fd :: (grpA (doA A x).1 r).2)
theorem grp_snoc (A : ShA) (l : List Cal) (x : Cal) : grpA A (l ++ [x]) = ((doA (grpA A l).1 x).1, (grpA A l).2 ++ [(doA (grpA A l).1 x).2.fd]) := by
  induction l generalizing A with
  | nil => rfl
  | cons y r ih => simp only [List.cons_append, grpA, ih]
theorem grp_take {A : ShA} {L : List Cal} {j : Nat} {x : Cal} (h : L[j]? = some x) : grpA A (L.take (j + 1)) = ((doA (grpA A (L.take j)).1 x).1, (grpA A (L.take j)).2 ++ [(doA (grpA A (L.take j)).1 x).2.fd]) := by rw [List.take_add_one, h]; exact grp_snoc A _ x
/-- A call done to a store: the store behind it, and the answer. -/
def apA (A : ShA) (x : Cal) (L : List Cal) : ShA × AnsA :=
  if goodF x L ≠ 0 then (A, ⟨goodF x L, false, [], [], []⟩) else if x.ck = 7 then ((grpA A L).1, ⟨0, false, [], [], (grpA A L).2⟩) else doA A x
theorem good_kind {x : Cal} {L : List Cal} (h : goodF x L = 0) : (x.ck = 1 ∨ x.ck = 2 ∨ x.ck = 3 ∨ x.ck = 4 ∨ x.ck = 5 ∨ x.ck = 6 ∨ x.ck = 8) ∨ (x.ck = 7 ∧ L.length ≤ 3 ∧ ∀ y ∈ L, y.ck = 2 ∨ y.ck = 3 ∨ y.ck = 4) := by
  unfold goodF at h
  split at h
  · rename_i hs
    by_cases h7 : x.ck = 7
    · right
      have h9 := hs
      unfold shapeB at h9
      simp only [Bool.and_eq_true, Bool.or_eq_true, Bool.not_eq_true', decide_eq_true_eq, h7, ne_eq, not_true_eq_false, decide_false, Bool.false_eq_true, false_or] at h9
      refine ⟨h7, h9.2.1.2, ?_⟩
      have key : ∀ (pre L : List Cal), gshB pre L = true → ∀ y ∈ L, y.ck = 2 ∨ y.ck = 3 ∨ y.ck = 4 := by
        intro pre L
        induction L generalizing pre with
        | nil => intro _ y hy; simp at hy
        | cons z r ih =>
          intro hg y hy
          simp only [gshB, Bool.and_eq_true] at hg
          rcases List.mem_cons.1 hy with rfl | hy
          · have h1 := hg.1
            unfold subB grpB at h1
            simp only [Bool.and_eq_true, decide_eq_true_eq] at h1
            exact h1.1.1
          · exact ih _ hg.2 y hy
      exact key [] L h9.2.2
    · left
      unfold shapeB at hs
      simp only [Bool.and_eq_true, Bool.not_eq_true', Bool.or_eq_false_iff, decide_eq_false_iff_not] at hs
      omega
  · omega
theorem putF_len (l : List Pr) (k v : List UInt8) : (putF l k v).length ≤ l.length + 1 := by
  unfold putF
  split
  · rw [repF_len]; omega
  · rw [insF_ins, insL_len _ _ _ (ixN_le _ _)]; exact Nat.le_refl _
theorem delF_len (l : List Pr) (k : List UInt8) : (delF l k).length ≤ l.length := List.length_filter_le _ _
theorem do_len (A : ShA) (x : Cal) : (doA A x).1.1.length ≤ A.1.length + 1 ∧ (doA A x).1.2.length ≤ A.2.length + 1 := by
  unfold doA
  have h1 := putF_len A.1 x.key x.val
  have h2 := delF_len A.1 x.key
  repeat' split
  all_goals simp only [List.length_append, List.length_cons, List.length_nil, List.length_drop]
  all_goals omega
theorem grp_len (A : ShA) (l : List Cal) : (grpA A l).1.1.length ≤ A.1.length + l.length ∧ (grpA A l).1.2.length ≤ A.2.length + l.length ∧ (grpA A l).2.length = l.length := by
  induction l generalizing A with
  | nil => simp [grpA]
  | cons x r ih =>
    have h1 := ih (doA A x).1
    have h2 := do_len A x
    simp only [grpA, List.length_cons]
    omega
theorem ap_len (A : ShA) (x : Cal) (L : List Cal) : (apA A x L).1.1.length ≤ A.1.length + 3 ∧ (apA A x L).1.2.length ≤ A.2.length + 3 := by
  unfold apA
  split
  · simp only; omega
  · rename_i hg
    have hk := good_kind (show goodF x L = 0 by simpa using hg)
    split
    · rename_i h7
      have h1 := grp_len A L
      rcases hk with hk | ⟨_, hk, _⟩
      · omega
      · simp only; omega
    · have h2 := do_len A x
      omega
theorem apply_c (s : Sf) (A : ShA) (x : Cal) (L : List Cal) (w : World) (hA : SfR w s A) (hR : CalR w x L) (hl : A.1.length ≤ 900 ∧ A.2.length ≤ 900) (hL : L.length ≤ 1000) : Calls Tryz.prog 18 [.agg s.cells.toArray, .agg (calC x).toArray].toArray w fun e w' => ∃ r : ShO × AnsO, (shOk (apA A x L).1 r.1 ∧ ansOk (apA A x L).2 r.2) ∧ e = .returned (.tuple #[.agg (shC (apA A x L).1 r.1).toArray, .agg ((apA A x L).2.cells r.2).toArray]) ∧ Hp ⟨w, []⟩ [ownG 69 ((apA A x L).1.1.flatMap prC) r.1.1, offG 9 ((apA A x L).1.2.flatMap stE) r.1.2, ownG 69 ((apA A x L).2.ps.flatMap prC) r.2.1, ownG 4 ((apA A x L).2.hs.flatMap boE) r.2.2] w' := by
  have hgood := fun w1 (hw : CalR w1 x L) => good_c x L hL w1 hw
  obtain ⟨l, q⟩ := A
  simp only at hl
  by_cases hg : goodF x L = 0
  · have hap : apA (l, q) x L = if x.ck = 7 then ((grpA (l, q) L).1, ⟨0, false, [], [], (grpA (l, q) L).2⟩) else doA (l, q) x := by unfold apA; rw [if_neg (by simpa using hg)]
    rcases good_kind hg with hk | ⟨h7, hL3, hsub⟩
    · obtain ⟨ck, key, val, to, gp, gn, gc⟩ := x
      simp only at hk hap
      rcases hk with rfl | rfl | rfl | rfl | rfl | rfl | rfl
      · rw [hap, if_neg (by decide), show doA (l, q) ⟨1, key, val, to, gp, gn, gc⟩ = ((l, q), AnsA.mk 0 (getF l key).isSome ((getF l key).getD []) [] []) from rfl]
        refine V.calls [] Tryz.func18 rfl Tryz.ntmps18 (Nat.le_of_ble_eq_true rfl) (V.sat_nil _) <| Sq <| Rg <| Le XA fun b2 _ => Le XA fun b3 _ => Le AA fun b4 _ => Le AA fun b5 _ => Nl <| Ps <| Sq <| Rg ?_
        first | (refine LW.v rfl rfl (Val.loadW rfl Tryz.isAgg34 (by repeat (first | exact .here | exact .inner .here | exact .inner (.inner .here) | refine .there ?_)) (by exact Tryz.sizeOf34)) ?_) | (refine LW.v rfl rfl (Val.loadA [_, _] rfl Tryz.isAgg34 (by repeat (first | exact .here | exact .inner .here | exact .inner (.inner .here) | refine .there ?_)) (by rfl) Tryz.sizeOf34) ?_)
        refine Le (CM [] fun w hw hs => copied_c s (l, q) w (hA.hp hw (by simp [ids])) (by simp only; omega)) ?_
        rintro ⟨yp, yq⟩ ⟨hyp, hyq⟩
        simp only at hyp hyq
        refine Le AA fun b6 _ => LeN (StW (cs := owC (l, q) (yp, yq)) (h1 := by simp [owC, V.ownV_one])) fun _ _ => Nl <| Ps <| Sq <| Rg ?_
        first | (refine LW.v rfl rfl (Val.loadW rfl Tryz.isAgg52 (by repeat (first | exact .here | exact .inner .here | exact .inner (.inner .here) | refine .there ?_)) (by exact Tryz.sizeOf52)) ?_) | (refine LW.v rfl rfl (Val.loadA [_, _, _, _, _] rfl Tryz.isAgg52 (by repeat (first | exact .here | exact .inner .here | exact .inner (.inner .here) | refine .there ?_)) (by rfl) Tryz.sizeOf52) ?_)
        refine Le (CV fun w hw => hgood w (hR.hp hw)) fun _ _ => LW.re 15 (.int .i64 0) rfl (by rw [hg]) <| Lv (Val.build (ans0 0) Tryz.zeroValue48 Tryz.underlying48 places48 rfl (by rfl)) <| Le AA fun b7 _ => LeN (StW (cs := ans0 0) (h1 := by rfl)) fun _ _ => Nl <| Ps <| Sq <| Sq <| Rg <| Lv (Fa 0 45) <| Lv Ld <| Lv Cm <| LW.re 19 (.bool false) rfl (by rfl) <| Nl <| Ps <| Cf <| Sk <| Ps <| Sq <| Rg <| Le (CM [] fun w hw hs => idoings_c w) fun mb _ => Lv Av <| Nl <| Ps <| Sq <| Sq <| Rg <| Lv (Fa 0 3) <| Lv Ld <| Lv Cm <| LW.re 25 (.bool true) rfl (by rfl) <| Nl <| Ps <| Ct <| Sq <| Rg <| Lv Mv <| Lv (Fa 0 3) <| Lv Ld <| Lv (Val.ilookup1 (E := doE) (c := 7) rfl rfl Tryz.underlying80 Tryz.underlying3 (by exact Tryz.zeroValue83) (by repeat (first | exact .here | exact .inner .here | exact .inner (.inner .here) | refine .there ?_))) <| LW.re 29 (.func (.func 70) #[] #[]) rfl (by rfl) ?_
        first | (refine LW.v rfl rfl (Val.loadW rfl Tryz.isAgg52 (by repeat (first | exact .here | exact .inner .here | exact .inner (.inner .here) | refine .there ?_)) (by exact Tryz.sizeOf52)) ?_) | (refine LW.v rfl rfl (Val.loadA [_, _, _, _, _] rfl Tryz.isAgg52 (by repeat (first | exact .here | exact .inner .here | exact .inner (.inner .here) | refine .there ?_)) (by rfl) Tryz.sizeOf52) ?_)
        refine Le (Eff.callFM (f := 70) (caps := []) ([[(b6, .cells [ownV l.length yp, ownV q.length yq].toArray 34 (0, 0))], ownG 69 (l.flatMap prC) yp, ownG 9 (q.flatMap stE) yq, [(b7, .cells (ansC 0 false [] (.slice none 0 0) (.slice none 0 0)).toArray 48 (0, 0))]]) (by repeat (first | exact .nil | apply Pick.cons | exact .here | apply Ext.there)) rfl rfl Tryz.call70 (fun w hw hs => do1_c l yp q yq b6 b7 ⟨1, key, val, to, gp, gn, gc⟩ w hyp hyq (by omega) hs)) fun u1 _ => ?_
        rw [← offOf_V q.length yq]
        refine Nl <| Ps <| Sq <| Dr ([[(b6, .cells _ 34 (0, 0))], [(b7, .cells _ 48 (0, 0))]]) ?_
        refine Rv 0 rfl (Lw (l := shC ((l, q)) ((yp, (offOf yq))))) <| Rv 1 rfl (Lw (l := AnsA.cells (AnsA.mk 0 (getF l key).isSome ((getF l key).getD []) [] []) (((none : V.OwnO), (none : V.OwnO))))) <| ReN 2 rfl (StW (cs := shC ((l, q)) ((yp, (offOf yq)))) (h1 := by simp [shC, V.ownV_one, offV_one])) fun _ _ => ReN 3 rfl (Eff.storeW (cs := AnsA.cells (AnsA.mk 0 (getF l key).isSome ((getF l key).getD []) [] []) (((none : V.OwnO), (none : V.OwnO)))) rfl rfl (by repeat (first | exact .here | exact .inner .here | exact .inner (.inner .here) | apply Upd.there)) (by rfl) Tryz.sizeOf48 (ans_one _ _)) fun _ _ => Rd <| Ps <| Rt <| Tr <| V.PQ.retCC (l := shC ((l, q)) ((yp, (offOf yq)))) (l2 := AnsA.cells (AnsA.mk 0 (getF l key).isSome ((getF l key).getD []) [] []) (((none : V.OwnO), (none : V.OwnO)))) rfl rfl rfl (by repeat (first | exact .here | exact .inner .here | exact .inner (.inner .here) | refine .there ?_)) Tryz.isAgg34 (by exact Tryz.sizeOf34) (by repeat (first | exact .here | exact .inner .here | exact .inner (.inner .here) | refine .there ?_)) Tryz.isAgg48 (by exact Tryz.sizeOf48) fun w' hw => ?_
        exact ⟨((yp, (offOf yq)), ((none : V.OwnO), (none : V.OwnO))), ⟨⟨hyp, offOf_ok hyq⟩, ⟨⟨rfl, rfl⟩, ⟨rfl, rfl⟩⟩⟩, rfl, (by show Hp _ [ownG 69 (l.flatMap prC) yp, offG 9 (q.flatMap stE) (offOf yq), ownG 69 (([] : List Pr).flatMap prC) none, ownG 4 (([] : List Bool).flatMap boE) none] w'; rw [offOf_G]; exact (hw.pick (ss := [ownG 69 (l.flatMap prC) yp, ownG 9 (q.flatMap stE) yq]) (by repeat (first | exact .nil | apply Pick.cons | exact .here | apply Ext.there))).perm (by simp [V.ownG, V.ownS]))⟩
      · rw [hap, if_neg (by decide), show doA (l, q) ⟨2, key, val, to, gp, gn, gc⟩ = (((putF l key val), q), AnsA.mk 0 (getF l key).isSome [] [] []) from rfl]
        refine V.calls [] Tryz.func18 rfl Tryz.ntmps18 (Nat.le_of_ble_eq_true rfl) (V.sat_nil _) <| Sq <| Rg <| Le XA fun b2 _ => Le XA fun b3 _ => Le AA fun b4 _ => Le AA fun b5 _ => Nl <| Ps <| Sq <| Rg ?_
        first | (refine LW.v rfl rfl (Val.loadW rfl Tryz.isAgg34 (by repeat (first | exact .here | exact .inner .here | exact .inner (.inner .here) | refine .there ?_)) (by exact Tryz.sizeOf34)) ?_) | (refine LW.v rfl rfl (Val.loadA [_, _] rfl Tryz.isAgg34 (by repeat (first | exact .here | exact .inner .here | exact .inner (.inner .here) | refine .there ?_)) (by rfl) Tryz.sizeOf34) ?_)
        refine Le (CM [] fun w hw hs => copied_c s (l, q) w (hA.hp hw (by simp [ids])) (by simp only; omega)) ?_
        rintro ⟨yp, yq⟩ ⟨hyp, hyq⟩
        simp only at hyp hyq
        refine Le AA fun b6 _ => LeN (StW (cs := owC (l, q) (yp, yq)) (h1 := by simp [owC, V.ownV_one])) fun _ _ => Nl <| Ps <| Sq <| Rg ?_
        first | (refine LW.v rfl rfl (Val.loadW rfl Tryz.isAgg52 (by repeat (first | exact .here | exact .inner .here | exact .inner (.inner .here) | refine .there ?_)) (by exact Tryz.sizeOf52)) ?_) | (refine LW.v rfl rfl (Val.loadA [_, _, _, _, _] rfl Tryz.isAgg52 (by repeat (first | exact .here | exact .inner .here | exact .inner (.inner .here) | refine .there ?_)) (by rfl) Tryz.sizeOf52) ?_)
        refine Le (CV fun w hw => hgood w (hR.hp hw)) fun _ _ => LW.re 15 (.int .i64 0) rfl (by rw [hg]) <| Lv (Val.build (ans0 0) Tryz.zeroValue48 Tryz.underlying48 places48 rfl (by rfl)) <| Le AA fun b7 _ => LeN (StW (cs := ans0 0) (h1 := by rfl)) fun _ _ => Nl <| Ps <| Sq <| Sq <| Rg <| Lv (Fa 0 45) <| Lv Ld <| Lv Cm <| LW.re 19 (.bool false) rfl (by rfl) <| Nl <| Ps <| Cf <| Sk <| Ps <| Sq <| Rg <| Le (CM [] fun w hw hs => idoings_c w) fun mb _ => Lv Av <| Nl <| Ps <| Sq <| Sq <| Rg <| Lv (Fa 0 3) <| Lv Ld <| Lv Cm <| LW.re 25 (.bool true) rfl (by rfl) <| Nl <| Ps <| Ct <| Sq <| Rg <| Lv Mv <| Lv (Fa 0 3) <| Lv Ld <| Lv (Val.ilookup1 (E := doE) (c := 7) rfl rfl Tryz.underlying80 Tryz.underlying3 (by exact Tryz.zeroValue83) (by repeat (first | exact .here | exact .inner .here | exact .inner (.inner .here) | refine .there ?_))) <| LW.re 29 (.func (.func 72) #[] #[]) rfl (by rfl) ?_
        first | (refine LW.v rfl rfl (Val.loadW rfl Tryz.isAgg52 (by repeat (first | exact .here | exact .inner .here | exact .inner (.inner .here) | refine .there ?_)) (by exact Tryz.sizeOf52)) ?_) | (refine LW.v rfl rfl (Val.loadA [_, _, _, _, _] rfl Tryz.isAgg52 (by repeat (first | exact .here | exact .inner .here | exact .inner (.inner .here) | refine .there ?_)) (by rfl) Tryz.sizeOf52) ?_)
        refine Le (Eff.callFM (f := 72) (caps := []) ([[(b6, .cells [ownV l.length yp, ownV q.length yq].toArray 34 (0, 0))], ownG 69 (l.flatMap prC) yp, ownG 9 (q.flatMap stE) yq, [(b7, .cells (ansC 0 false [] (.slice none 0 0) (.slice none 0 0)).toArray 48 (0, 0))]]) (by repeat (first | exact .nil | apply Pick.cons | exact .here | apply Ext.there)) rfl rfl Tryz.call72 (fun w hw hs => do2_c l yp q yq b6 b7 ⟨2, key, val, to, gp, gn, gc⟩ w hyp hyq (by omega) hs)) fun r hr => ?_
        rw [← offOf_V q.length yq]
        refine Nl <| Ps <| Sq <| Dr ([[(b6, .cells _ 34 (0, 0))], [(b7, .cells _ 48 (0, 0))]]) ?_
        refine Rv 0 rfl (Lw (l := shC (((putF l key val), q)) ((r, (offOf yq))))) <| Rv 1 rfl (Lw (l := AnsA.cells (AnsA.mk 0 (getF l key).isSome [] [] []) (((none : V.OwnO), (none : V.OwnO))))) <| ReN 2 rfl (StW (cs := shC (((putF l key val), q)) ((r, (offOf yq)))) (h1 := by simp [shC, V.ownV_one, offV_one])) fun _ _ => ReN 3 rfl (Eff.storeW (cs := AnsA.cells (AnsA.mk 0 (getF l key).isSome [] [] []) (((none : V.OwnO), (none : V.OwnO)))) rfl rfl (by repeat (first | exact .here | exact .inner .here | exact .inner (.inner .here) | apply Upd.there)) (by rfl) Tryz.sizeOf48 (ans_one _ _)) fun _ _ => Rd <| Ps <| Rt <| Tr <| V.PQ.retCC (l := shC (((putF l key val), q)) ((r, (offOf yq)))) (l2 := AnsA.cells (AnsA.mk 0 (getF l key).isSome [] [] []) (((none : V.OwnO), (none : V.OwnO)))) rfl rfl rfl (by repeat (first | exact .here | exact .inner .here | exact .inner (.inner .here) | refine .there ?_)) Tryz.isAgg34 (by exact Tryz.sizeOf34) (by repeat (first | exact .here | exact .inner .here | exact .inner (.inner .here) | refine .there ?_)) Tryz.isAgg48 (by exact Tryz.sizeOf48) fun w' hw => ?_
        exact ⟨((r, (offOf yq)), ((none : V.OwnO), (none : V.OwnO))), ⟨⟨hr, offOf_ok hyq⟩, ⟨⟨rfl, rfl⟩, ⟨rfl, rfl⟩⟩⟩, rfl, (by show Hp _ [ownG 69 ((putF l key val).flatMap prC) r, offG 9 (q.flatMap stE) (offOf yq), ownG 69 (([] : List Pr).flatMap prC) none, ownG 4 (([] : List Bool).flatMap boE) none] w'; rw [offOf_G]; exact (hw.pick (ss := [ownG 69 ((putF l key val).flatMap prC) r, ownG 9 (q.flatMap stE) yq]) (by repeat (first | exact .nil | apply Pick.cons | exact .here | apply Ext.there))).perm (by simp [V.ownG, V.ownS]))⟩
      · rw [hap, if_neg (by decide), show doA (l, q) ⟨3, key, val, to, gp, gn, gc⟩ = (((delF l key), q), AnsA.mk 0 (decide ((delF l key).length < l.length)) [] [] []) from rfl]
        refine V.calls [] Tryz.func18 rfl Tryz.ntmps18 (Nat.le_of_ble_eq_true rfl) (V.sat_nil _) <| Sq <| Rg <| Le XA fun b2 _ => Le XA fun b3 _ => Le AA fun b4 _ => Le AA fun b5 _ => Nl <| Ps <| Sq <| Rg ?_
        first | (refine LW.v rfl rfl (Val.loadW rfl Tryz.isAgg34 (by repeat (first | exact .here | exact .inner .here | exact .inner (.inner .here) | refine .there ?_)) (by exact Tryz.sizeOf34)) ?_) | (refine LW.v rfl rfl (Val.loadA [_, _] rfl Tryz.isAgg34 (by repeat (first | exact .here | exact .inner .here | exact .inner (.inner .here) | refine .there ?_)) (by rfl) Tryz.sizeOf34) ?_)
        refine Le (CM [] fun w hw hs => copied_c s (l, q) w (hA.hp hw (by simp [ids])) (by simp only; omega)) ?_
        rintro ⟨yp, yq⟩ ⟨hyp, hyq⟩
        simp only at hyp hyq
        refine Le AA fun b6 _ => LeN (StW (cs := owC (l, q) (yp, yq)) (h1 := by simp [owC, V.ownV_one])) fun _ _ => Nl <| Ps <| Sq <| Rg ?_
        first | (refine LW.v rfl rfl (Val.loadW rfl Tryz.isAgg52 (by repeat (first | exact .here | exact .inner .here | exact .inner (.inner .here) | refine .there ?_)) (by exact Tryz.sizeOf52)) ?_) | (refine LW.v rfl rfl (Val.loadA [_, _, _, _, _] rfl Tryz.isAgg52 (by repeat (first | exact .here | exact .inner .here | exact .inner (.inner .here) | refine .there ?_)) (by rfl) Tryz.sizeOf52) ?_)
        refine Le (CV fun w hw => hgood w (hR.hp hw)) fun _ _ => LW.re 15 (.int .i64 0) rfl (by rw [hg]) <| Lv (Val.build (ans0 0) Tryz.zeroValue48 Tryz.underlying48 places48 rfl (by rfl)) <| Le AA fun b7 _ => LeN (StW (cs := ans0 0) (h1 := by rfl)) fun _ _ => Nl <| Ps <| Sq <| Sq <| Rg <| Lv (Fa 0 45) <| Lv Ld <| Lv Cm <| LW.re 19 (.bool false) rfl (by rfl) <| Nl <| Ps <| Cf <| Sk <| Ps <| Sq <| Rg <| Le (CM [] fun w hw hs => idoings_c w) fun mb _ => Lv Av <| Nl <| Ps <| Sq <| Sq <| Rg <| Lv (Fa 0 3) <| Lv Ld <| Lv Cm <| LW.re 25 (.bool true) rfl (by rfl) <| Nl <| Ps <| Ct <| Sq <| Rg <| Lv Mv <| Lv (Fa 0 3) <| Lv Ld <| Lv (Val.ilookup1 (E := doE) (c := 7) rfl rfl Tryz.underlying80 Tryz.underlying3 (by exact Tryz.zeroValue83) (by repeat (first | exact .here | exact .inner .here | exact .inner (.inner .here) | refine .there ?_))) <| LW.re 29 (.func (.func 74) #[] #[]) rfl (by rfl) ?_
        first | (refine LW.v rfl rfl (Val.loadW rfl Tryz.isAgg52 (by repeat (first | exact .here | exact .inner .here | exact .inner (.inner .here) | refine .there ?_)) (by exact Tryz.sizeOf52)) ?_) | (refine LW.v rfl rfl (Val.loadA [_, _, _, _, _] rfl Tryz.isAgg52 (by repeat (first | exact .here | exact .inner .here | exact .inner (.inner .here) | refine .there ?_)) (by rfl) Tryz.sizeOf52) ?_)
        refine Le (Eff.callFM (f := 74) (caps := []) ([[(b6, .cells [ownV l.length yp, ownV q.length yq].toArray 34 (0, 0))], ownG 69 (l.flatMap prC) yp, ownG 9 (q.flatMap stE) yq, [(b7, .cells (ansC 0 false [] (.slice none 0 0) (.slice none 0 0)).toArray 48 (0, 0))]]) (by repeat (first | exact .nil | apply Pick.cons | exact .here | apply Ext.there)) rfl rfl Tryz.call74 (fun w hw hs => do3_c l yp q yq b6 b7 ⟨3, key, val, to, gp, gn, gc⟩ w hyp hyq (by omega) hs)) fun r hr => ?_
        rw [← offOf_V q.length yq]
        refine Nl <| Ps <| Sq <| Dr ([[(b6, .cells _ 34 (0, 0))], [(b7, .cells _ 48 (0, 0))]]) ?_
        refine Rv 0 rfl (Lw (l := shC (((delF l key), q)) ((r, (offOf yq))))) <| Rv 1 rfl (Lw (l := AnsA.cells (AnsA.mk 0 (decide ((delF l key).length < l.length)) [] [] []) (((none : V.OwnO), (none : V.OwnO))))) <| ReN 2 rfl (StW (cs := shC (((delF l key), q)) ((r, (offOf yq)))) (h1 := by simp [shC, V.ownV_one, offV_one])) fun _ _ => ReN 3 rfl (Eff.storeW (cs := AnsA.cells (AnsA.mk 0 (decide ((delF l key).length < l.length)) [] [] []) (((none : V.OwnO), (none : V.OwnO)))) rfl rfl (by repeat (first | exact .here | exact .inner .here | exact .inner (.inner .here) | apply Upd.there)) (by rfl) Tryz.sizeOf48 (ans_one _ _)) fun _ _ => Rd <| Ps <| Rt <| Tr <| V.PQ.retCC (l := shC (((delF l key), q)) ((r, (offOf yq)))) (l2 := AnsA.cells (AnsA.mk 0 (decide ((delF l key).length < l.length)) [] [] []) (((none : V.OwnO), (none : V.OwnO)))) rfl rfl rfl (by repeat (first | exact .here | exact .inner .here | exact .inner (.inner .here) | refine .there ?_)) Tryz.isAgg34 (by exact Tryz.sizeOf34) (by repeat (first | exact .here | exact .inner .here | exact .inner (.inner .here) | refine .there ?_)) Tryz.isAgg48 (by exact Tryz.sizeOf48) fun w' hw => ?_
        exact ⟨((r, (offOf yq)), ((none : V.OwnO), (none : V.OwnO))), ⟨⟨hr, offOf_ok hyq⟩, ⟨⟨rfl, rfl⟩, ⟨rfl, rfl⟩⟩⟩, rfl, (by show Hp _ [ownG 69 ((delF l key).flatMap prC) r, offG 9 (q.flatMap stE) (offOf yq), ownG 69 (([] : List Pr).flatMap prC) none, ownG 4 (([] : List Bool).flatMap boE) none] w'; rw [offOf_G]; exact (hw.pick (ss := [ownG 69 ((delF l key).flatMap prC) r, ownG 9 (q.flatMap stE) yq]) (by repeat (first | exact .nil | apply Pick.cons | exact .here | apply Ext.there))).perm (by simp [V.ownG, V.ownS]))⟩
      · rw [hap, if_neg (by decide), show doA (l, q) ⟨4, key, val, to, gp, gn, gc⟩ = ((l, (q ++ [val])), AnsA.mk 0 false [] [] []) from rfl]
        refine V.calls [] Tryz.func18 rfl Tryz.ntmps18 (Nat.le_of_ble_eq_true rfl) (V.sat_nil _) <| Sq <| Rg <| Le XA fun b2 _ => Le XA fun b3 _ => Le AA fun b4 _ => Le AA fun b5 _ => Nl <| Ps <| Sq <| Rg ?_
        first | (refine LW.v rfl rfl (Val.loadW rfl Tryz.isAgg34 (by repeat (first | exact .here | exact .inner .here | exact .inner (.inner .here) | refine .there ?_)) (by exact Tryz.sizeOf34)) ?_) | (refine LW.v rfl rfl (Val.loadA [_, _] rfl Tryz.isAgg34 (by repeat (first | exact .here | exact .inner .here | exact .inner (.inner .here) | refine .there ?_)) (by rfl) Tryz.sizeOf34) ?_)
        refine Le (CM [] fun w hw hs => copied_c s (l, q) w (hA.hp hw (by simp [ids])) (by simp only; omega)) ?_
        rintro ⟨yp, yq⟩ ⟨hyp, hyq⟩
        simp only at hyp hyq
        refine Le AA fun b6 _ => LeN (StW (cs := owC (l, q) (yp, yq)) (h1 := by simp [owC, V.ownV_one])) fun _ _ => Nl <| Ps <| Sq <| Rg ?_
        first | (refine LW.v rfl rfl (Val.loadW rfl Tryz.isAgg52 (by repeat (first | exact .here | exact .inner .here | exact .inner (.inner .here) | refine .there ?_)) (by exact Tryz.sizeOf52)) ?_) | (refine LW.v rfl rfl (Val.loadA [_, _, _, _, _] rfl Tryz.isAgg52 (by repeat (first | exact .here | exact .inner .here | exact .inner (.inner .here) | refine .there ?_)) (by rfl) Tryz.sizeOf52) ?_)
        refine Le (CV fun w hw => hgood w (hR.hp hw)) fun _ _ => LW.re 15 (.int .i64 0) rfl (by rw [hg]) <| Lv (Val.build (ans0 0) Tryz.zeroValue48 Tryz.underlying48 places48 rfl (by rfl)) <| Le AA fun b7 _ => LeN (StW (cs := ans0 0) (h1 := by rfl)) fun _ _ => Nl <| Ps <| Sq <| Sq <| Rg <| Lv (Fa 0 45) <| Lv Ld <| Lv Cm <| LW.re 19 (.bool false) rfl (by rfl) <| Nl <| Ps <| Cf <| Sk <| Ps <| Sq <| Rg <| Le (CM [] fun w hw hs => idoings_c w) fun mb _ => Lv Av <| Nl <| Ps <| Sq <| Sq <| Rg <| Lv (Fa 0 3) <| Lv Ld <| Lv Cm <| LW.re 25 (.bool true) rfl (by rfl) <| Nl <| Ps <| Ct <| Sq <| Rg <| Lv Mv <| Lv (Fa 0 3) <| Lv Ld <| Lv (Val.ilookup1 (E := doE) (c := 7) rfl rfl Tryz.underlying80 Tryz.underlying3 (by exact Tryz.zeroValue83) (by repeat (first | exact .here | exact .inner .here | exact .inner (.inner .here) | refine .there ?_))) <| LW.re 29 (.func (.func 76) #[] #[]) rfl (by rfl) ?_
        first | (refine LW.v rfl rfl (Val.loadW rfl Tryz.isAgg52 (by repeat (first | exact .here | exact .inner .here | exact .inner (.inner .here) | refine .there ?_)) (by exact Tryz.sizeOf52)) ?_) | (refine LW.v rfl rfl (Val.loadA [_, _, _, _, _] rfl Tryz.isAgg52 (by repeat (first | exact .here | exact .inner .here | exact .inner (.inner .here) | refine .there ?_)) (by rfl) Tryz.sizeOf52) ?_)
        refine Le (Eff.callFM (f := 76) (caps := []) ([[(b6, .cells [ownV l.length yp, ownV q.length yq].toArray 34 (0, 0))], ownG 69 (l.flatMap prC) yp, ownG 9 (q.flatMap stE) yq, [(b7, .cells (ansC 0 false [] (.slice none 0 0) (.slice none 0 0)).toArray 48 (0, 0))]]) (by repeat (first | exact .nil | apply Pick.cons | exact .here | apply Ext.there)) rfl rfl Tryz.call76 (fun w hw hs => do4_c l yp q yq b6 b7 ⟨4, key, val, to, gp, gn, gc⟩ w hyp hyq (by omega) hs)) fun r hr => ?_
        rw [← offOf_V (q ++ [val]).length r]
        refine Nl <| Ps <| Sq <| Dr ([[(b6, .cells _ 34 (0, 0))], [(b7, .cells _ 48 (0, 0))]]) ?_
        refine Rv 0 rfl (Lw (l := shC ((l, (q ++ [val]))) ((yp, (offOf r))))) <| Rv 1 rfl (Lw (l := AnsA.cells (AnsA.mk 0 false [] [] []) (((none : V.OwnO), (none : V.OwnO))))) <| ReN 2 rfl (StW (cs := shC ((l, (q ++ [val]))) ((yp, (offOf r)))) (h1 := by simp [shC, V.ownV_one, offV_one])) fun _ _ => ReN 3 rfl (Eff.storeW (cs := AnsA.cells (AnsA.mk 0 false [] [] []) (((none : V.OwnO), (none : V.OwnO)))) rfl rfl (by repeat (first | exact .here | exact .inner .here | exact .inner (.inner .here) | apply Upd.there)) (by rfl) Tryz.sizeOf48 (ans_one _ _)) fun _ _ => Rd <| Ps <| Rt <| Tr <| V.PQ.retCC (l := shC ((l, (q ++ [val]))) ((yp, (offOf r)))) (l2 := AnsA.cells (AnsA.mk 0 false [] [] []) (((none : V.OwnO), (none : V.OwnO)))) rfl rfl rfl (by repeat (first | exact .here | exact .inner .here | exact .inner (.inner .here) | refine .there ?_)) Tryz.isAgg34 (by exact Tryz.sizeOf34) (by repeat (first | exact .here | exact .inner .here | exact .inner (.inner .here) | refine .there ?_)) Tryz.isAgg48 (by exact Tryz.sizeOf48) fun w' hw => ?_
        exact ⟨((yp, (offOf r)), ((none : V.OwnO), (none : V.OwnO))), ⟨⟨hyp, offOf_ok hr⟩, ⟨⟨rfl, rfl⟩, ⟨rfl, rfl⟩⟩⟩, rfl, (by show Hp _ [ownG 69 (l.flatMap prC) yp, offG 9 ((q ++ [val]).flatMap stE) (offOf r), ownG 69 (([] : List Pr).flatMap prC) none, ownG 4 (([] : List Bool).flatMap boE) none] w'; rw [offOf_G]; exact (hw.pick (ss := [ownG 69 (l.flatMap prC) yp, ownG 9 ((q ++ [val]).flatMap stE) r]) (by repeat (first | exact .nil | apply Pick.cons | exact .here | apply Ext.there))).perm (by simp [V.ownG, V.ownS]))⟩
      · rw [hap, if_neg (by decide), show doA (l, q) ⟨5, key, val, to, gp, gn, gc⟩ = ((l, (q.drop 1)), AnsA.mk 0 (decide (q ≠ [])) ((q[0]?).getD []) [] []) from rfl]
        refine V.calls [] Tryz.func18 rfl Tryz.ntmps18 (Nat.le_of_ble_eq_true rfl) (V.sat_nil _) <| Sq <| Rg <| Le XA fun b2 _ => Le XA fun b3 _ => Le AA fun b4 _ => Le AA fun b5 _ => Nl <| Ps <| Sq <| Rg ?_
        first | (refine LW.v rfl rfl (Val.loadW rfl Tryz.isAgg34 (by repeat (first | exact .here | exact .inner .here | exact .inner (.inner .here) | refine .there ?_)) (by exact Tryz.sizeOf34)) ?_) | (refine LW.v rfl rfl (Val.loadA [_, _] rfl Tryz.isAgg34 (by repeat (first | exact .here | exact .inner .here | exact .inner (.inner .here) | refine .there ?_)) (by rfl) Tryz.sizeOf34) ?_)
        refine Le (CM [] fun w hw hs => copied_c s (l, q) w (hA.hp hw (by simp [ids])) (by simp only; omega)) ?_
        rintro ⟨yp, yq⟩ ⟨hyp, hyq⟩
        simp only at hyp hyq
        refine Le AA fun b6 _ => LeN (StW (cs := owC (l, q) (yp, yq)) (h1 := by simp [owC, V.ownV_one])) fun _ _ => Nl <| Ps <| Sq <| Rg ?_
        first | (refine LW.v rfl rfl (Val.loadW rfl Tryz.isAgg52 (by repeat (first | exact .here | exact .inner .here | exact .inner (.inner .here) | refine .there ?_)) (by exact Tryz.sizeOf52)) ?_) | (refine LW.v rfl rfl (Val.loadA [_, _, _, _, _] rfl Tryz.isAgg52 (by repeat (first | exact .here | exact .inner .here | exact .inner (.inner .here) | refine .there ?_)) (by rfl) Tryz.sizeOf52) ?_)
        refine Le (CV fun w hw => hgood w (hR.hp hw)) fun _ _ => LW.re 15 (.int .i64 0) rfl (by rw [hg]) <| Lv (Val.build (ans0 0) Tryz.zeroValue48 Tryz.underlying48 places48 rfl (by rfl)) <| Le AA fun b7 _ => LeN (StW (cs := ans0 0) (h1 := by rfl)) fun _ _ => Nl <| Ps <| Sq <| Sq <| Rg <| Lv (Fa 0 45) <| Lv Ld <| Lv Cm <| LW.re 19 (.bool false) rfl (by rfl) <| Nl <| Ps <| Cf <| Sk <| Ps <| Sq <| Rg <| Le (CM [] fun w hw hs => idoings_c w) fun mb _ => Lv Av <| Nl <| Ps <| Sq <| Sq <| Rg <| Lv (Fa 0 3) <| Lv Ld <| Lv Cm <| LW.re 25 (.bool true) rfl (by rfl) <| Nl <| Ps <| Ct <| Sq <| Rg <| Lv Mv <| Lv (Fa 0 3) <| Lv Ld <| Lv (Val.ilookup1 (E := doE) (c := 7) rfl rfl Tryz.underlying80 Tryz.underlying3 (by exact Tryz.zeroValue83) (by repeat (first | exact .here | exact .inner .here | exact .inner (.inner .here) | refine .there ?_))) <| LW.re 29 (.func (.func 77) #[] #[]) rfl (by rfl) ?_
        first | (refine LW.v rfl rfl (Val.loadW rfl Tryz.isAgg52 (by repeat (first | exact .here | exact .inner .here | exact .inner (.inner .here) | refine .there ?_)) (by exact Tryz.sizeOf52)) ?_) | (refine LW.v rfl rfl (Val.loadA [_, _, _, _, _] rfl Tryz.isAgg52 (by repeat (first | exact .here | exact .inner .here | exact .inner (.inner .here) | refine .there ?_)) (by rfl) Tryz.sizeOf52) ?_)
        refine Le (Eff.callFM (f := 77) (caps := []) ([[(b6, .cells [ownV l.length yp, ownV q.length yq].toArray 34 (0, 0))], ownG 69 (l.flatMap prC) yp, ownG 9 (q.flatMap stE) yq, [(b7, .cells (ansC 0 false [] (.slice none 0 0) (.slice none 0 0)).toArray 48 (0, 0))]]) (by repeat (first | exact .nil | apply Pick.cons | exact .here | apply Ext.there)) rfl rfl Tryz.call77 (fun w hw hs => do5_c l yp q yq b6 b7 ⟨5, key, val, to, gp, gn, gc⟩ w hyp hyq (by omega) hs)) fun r hr => Nl <| Ps <| Sq <| Dr ([[(b6, .cells _ 34 (0, 0))], [(b7, .cells _ 48 (0, 0))]]) ?_
        refine Rv 0 rfl (Lw (l := shC ((l, (q.drop 1))) ((yp, r)))) <| Rv 1 rfl (Lw (l := AnsA.cells (AnsA.mk 0 (decide (q ≠ [])) ((q[0]?).getD []) [] []) (((none : V.OwnO), (none : V.OwnO))))) <| ReN 2 rfl (StW (cs := shC ((l, (q.drop 1))) ((yp, r))) (h1 := by simp [shC, V.ownV_one, offV_one])) fun _ _ => ReN 3 rfl (Eff.storeW (cs := AnsA.cells (AnsA.mk 0 (decide (q ≠ [])) ((q[0]?).getD []) [] []) (((none : V.OwnO), (none : V.OwnO)))) rfl rfl (by repeat (first | exact .here | exact .inner .here | exact .inner (.inner .here) | apply Upd.there)) (by rfl) Tryz.sizeOf48 (ans_one _ _)) fun _ _ => Rd <| Ps <| Rt <| Tr <| V.PQ.retCC (l := shC ((l, (q.drop 1))) ((yp, r))) (l2 := AnsA.cells (AnsA.mk 0 (decide (q ≠ [])) ((q[0]?).getD []) [] []) (((none : V.OwnO), (none : V.OwnO)))) rfl rfl rfl (by repeat (first | exact .here | exact .inner .here | exact .inner (.inner .here) | refine .there ?_)) Tryz.isAgg34 (by exact Tryz.sizeOf34) (by repeat (first | exact .here | exact .inner .here | exact .inner (.inner .here) | refine .there ?_)) Tryz.isAgg48 (by exact Tryz.sizeOf48) fun w' hw => ?_
        exact ⟨((yp, r), ((none : V.OwnO), (none : V.OwnO))), ⟨⟨hyp, hr⟩, ⟨⟨rfl, rfl⟩, ⟨rfl, rfl⟩⟩⟩, rfl, (by show Hp _ [ownG 69 (l.flatMap prC) yp, offG 9 ((q.drop 1).flatMap stE) r, ownG 69 (([] : List Pr).flatMap prC) none, ownG 4 (([] : List Bool).flatMap boE) none] w'; exact (hw.pick (ss := [ownG 69 (l.flatMap prC) yp, offG 9 ((q.drop 1).flatMap stE) r]) (by repeat (first | exact .nil | apply Pick.cons | exact .here | apply Ext.there))).perm (by simp [V.ownG, V.ownS]))⟩
      · rw [hap, if_neg (by decide), show doA (l, q) ⟨6, key, val, to, gp, gn, gc⟩ = ((l, q), AnsA.mk 0 false [] (scanF l key to) []) from rfl]
        refine V.calls [] Tryz.func18 rfl Tryz.ntmps18 (Nat.le_of_ble_eq_true rfl) (V.sat_nil _) <| Sq <| Rg <| Le XA fun b2 _ => Le XA fun b3 _ => Le AA fun b4 _ => Le AA fun b5 _ => Nl <| Ps <| Sq <| Rg ?_
        first | (refine LW.v rfl rfl (Val.loadW rfl Tryz.isAgg34 (by repeat (first | exact .here | exact .inner .here | exact .inner (.inner .here) | refine .there ?_)) (by exact Tryz.sizeOf34)) ?_) | (refine LW.v rfl rfl (Val.loadA [_, _] rfl Tryz.isAgg34 (by repeat (first | exact .here | exact .inner .here | exact .inner (.inner .here) | refine .there ?_)) (by rfl) Tryz.sizeOf34) ?_)
        refine Le (CM [] fun w hw hs => copied_c s (l, q) w (hA.hp hw (by simp [ids])) (by simp only; omega)) ?_
        rintro ⟨yp, yq⟩ ⟨hyp, hyq⟩
        simp only at hyp hyq
        refine Le AA fun b6 _ => LeN (StW (cs := owC (l, q) (yp, yq)) (h1 := by simp [owC, V.ownV_one])) fun _ _ => Nl <| Ps <| Sq <| Rg ?_
        first | (refine LW.v rfl rfl (Val.loadW rfl Tryz.isAgg52 (by repeat (first | exact .here | exact .inner .here | exact .inner (.inner .here) | refine .there ?_)) (by exact Tryz.sizeOf52)) ?_) | (refine LW.v rfl rfl (Val.loadA [_, _, _, _, _] rfl Tryz.isAgg52 (by repeat (first | exact .here | exact .inner .here | exact .inner (.inner .here) | refine .there ?_)) (by rfl) Tryz.sizeOf52) ?_)
        refine Le (CV fun w hw => hgood w (hR.hp hw)) fun _ _ => LW.re 15 (.int .i64 0) rfl (by rw [hg]) <| Lv (Val.build (ans0 0) Tryz.zeroValue48 Tryz.underlying48 places48 rfl (by rfl)) <| Le AA fun b7 _ => LeN (StW (cs := ans0 0) (h1 := by rfl)) fun _ _ => Nl <| Ps <| Sq <| Sq <| Rg <| Lv (Fa 0 45) <| Lv Ld <| Lv Cm <| LW.re 19 (.bool false) rfl (by rfl) <| Nl <| Ps <| Cf <| Sk <| Ps <| Sq <| Rg <| Le (CM [] fun w hw hs => idoings_c w) fun mb _ => Lv Av <| Nl <| Ps <| Sq <| Sq <| Rg <| Lv (Fa 0 3) <| Lv Ld <| Lv Cm <| LW.re 25 (.bool true) rfl (by rfl) <| Nl <| Ps <| Ct <| Sq <| Rg <| Lv Mv <| Lv (Fa 0 3) <| Lv Ld <| Lv (Val.ilookup1 (E := doE) (c := 7) rfl rfl Tryz.underlying80 Tryz.underlying3 (by exact Tryz.zeroValue83) (by repeat (first | exact .here | exact .inner .here | exact .inner (.inner .here) | refine .there ?_))) <| LW.re 29 (.func (.func 79) #[] #[]) rfl (by rfl) ?_
        first | (refine LW.v rfl rfl (Val.loadW rfl Tryz.isAgg52 (by repeat (first | exact .here | exact .inner .here | exact .inner (.inner .here) | refine .there ?_)) (by exact Tryz.sizeOf52)) ?_) | (refine LW.v rfl rfl (Val.loadA [_, _, _, _, _] rfl Tryz.isAgg52 (by repeat (first | exact .here | exact .inner .here | exact .inner (.inner .here) | refine .there ?_)) (by rfl) Tryz.sizeOf52) ?_)
        refine Le (Eff.callFM (f := 79) (caps := []) ([[(b6, .cells [ownV l.length yp, ownV q.length yq].toArray 34 (0, 0))], ownG 69 (l.flatMap prC) yp, ownG 9 (q.flatMap stE) yq, [(b7, .cells (ansC 0 false [] (.slice none 0 0) (.slice none 0 0)).toArray 48 (0, 0))]]) (by repeat (first | exact .nil | apply Pick.cons | exact .here | apply Ext.there)) rfl rfl Tryz.call79 (fun w hw hs => do6_c l yp q yq b6 b7 ⟨6, key, val, to, gp, gn, gc⟩ w hyp hyq (by omega) hs)) fun r hr => ?_
        rw [← offOf_V q.length yq]
        refine Nl <| Ps <| Sq <| Dr ([[(b6, .cells _ 34 (0, 0))], [(b7, .cells _ 48 (0, 0))]]) ?_
        refine Rv 0 rfl (Lw (l := shC ((l, q)) ((yp, (offOf yq))))) <| Rv 1 rfl (Lw (l := AnsA.cells (AnsA.mk 0 false [] (scanF l key to) []) (((r : V.OwnO), (none : V.OwnO))))) <| ReN 2 rfl (StW (cs := shC ((l, q)) ((yp, (offOf yq)))) (h1 := by simp [shC, V.ownV_one, offV_one])) fun _ _ => ReN 3 rfl (Eff.storeW (cs := AnsA.cells (AnsA.mk 0 false [] (scanF l key to) []) (((r : V.OwnO), (none : V.OwnO)))) rfl rfl (by repeat (first | exact .here | exact .inner .here | exact .inner (.inner .here) | apply Upd.there)) (by rfl) Tryz.sizeOf48 (ans_one _ _)) fun _ _ => Rd <| Ps <| Rt <| Tr <| V.PQ.retCC (l := shC ((l, q)) ((yp, (offOf yq)))) (l2 := AnsA.cells (AnsA.mk 0 false [] (scanF l key to) []) (((r : V.OwnO), (none : V.OwnO)))) rfl rfl rfl (by repeat (first | exact .here | exact .inner .here | exact .inner (.inner .here) | refine .there ?_)) Tryz.isAgg34 (by exact Tryz.sizeOf34) (by repeat (first | exact .here | exact .inner .here | exact .inner (.inner .here) | refine .there ?_)) Tryz.isAgg48 (by exact Tryz.sizeOf48) fun w' hw => ?_
        exact ⟨((yp, (offOf yq)), ((r : V.OwnO), (none : V.OwnO))), ⟨⟨hyp, offOf_ok hyq⟩, ⟨hr, ⟨rfl, rfl⟩⟩⟩, rfl, (by show Hp _ [ownG 69 (l.flatMap prC) yp, offG 9 (q.flatMap stE) (offOf yq), ownG 69 ((scanF l key to).flatMap prC) r, ownG 4 (([] : List Bool).flatMap boE) none] w'; rw [offOf_G]; exact (hw.pick (ss := [ownG 69 (l.flatMap prC) yp, ownG 9 (q.flatMap stE) yq, ownG 69 ((scanF l key to).flatMap prC) r]) (by repeat (first | exact .nil | apply Pick.cons | exact .here | apply Ext.there))).perm (by simp [V.ownG, V.ownS]))⟩
      · rw [hap, if_neg (by decide), show doA (l, q) ⟨8, key, val, to, gp, gn, gc⟩ = ((l, q), AnsA.mk 0 false [] [] []) from rfl]
        refine V.calls [] Tryz.func18 rfl Tryz.ntmps18 (Nat.le_of_ble_eq_true rfl) (V.sat_nil _) <| Sq <| Rg <| Le XA fun b2 _ => Le XA fun b3 _ => Le AA fun b4 _ => Le AA fun b5 _ => Nl <| Ps <| Sq <| Rg ?_
        first | (refine LW.v rfl rfl (Val.loadW rfl Tryz.isAgg34 (by repeat (first | exact .here | exact .inner .here | exact .inner (.inner .here) | refine .there ?_)) (by exact Tryz.sizeOf34)) ?_) | (refine LW.v rfl rfl (Val.loadA [_, _] rfl Tryz.isAgg34 (by repeat (first | exact .here | exact .inner .here | exact .inner (.inner .here) | refine .there ?_)) (by rfl) Tryz.sizeOf34) ?_)
        refine Le (CM [] fun w hw hs => copied_c s (l, q) w (hA.hp hw (by simp [ids])) (by simp only; omega)) ?_
        rintro ⟨yp, yq⟩ ⟨hyp, hyq⟩
        simp only at hyp hyq
        refine Le AA fun b6 _ => LeN (StW (cs := owC (l, q) (yp, yq)) (h1 := by simp [owC, V.ownV_one])) fun _ _ => Nl <| Ps <| Sq <| Rg ?_
        first | (refine LW.v rfl rfl (Val.loadW rfl Tryz.isAgg52 (by repeat (first | exact .here | exact .inner .here | exact .inner (.inner .here) | refine .there ?_)) (by exact Tryz.sizeOf52)) ?_) | (refine LW.v rfl rfl (Val.loadA [_, _, _, _, _] rfl Tryz.isAgg52 (by repeat (first | exact .here | exact .inner .here | exact .inner (.inner .here) | refine .there ?_)) (by rfl) Tryz.sizeOf52) ?_)
        refine Le (CV fun w hw => hgood w (hR.hp hw)) fun _ _ => LW.re 15 (.int .i64 0) rfl (by rw [hg]) <| Lv (Val.build (ans0 0) Tryz.zeroValue48 Tryz.underlying48 places48 rfl (by rfl)) <| Le AA fun b7 _ => LeN (StW (cs := ans0 0) (h1 := by rfl)) fun _ _ => Nl <| Ps <| Sq <| Sq <| Rg <| Lv (Fa 0 45) <| Lv Ld <| Lv Cm <| LW.re 19 (.bool false) rfl (by rfl) <| Nl <| Ps <| Cf <| Sk <| Ps <| Sq <| Rg <| Le (CM [] fun w hw hs => idoings_c w) fun mb _ => Lv Av <| Nl <| Ps <| Sq <| Sq <| Rg <| Lv (Fa 0 3) <| Lv Ld <| Lv Cm <| LW.re 25 (.bool true) rfl (by rfl) <| Nl <| Ps <| Ct <| Sq <| Rg <| Lv Mv <| Lv (Fa 0 3) <| Lv Ld <| Lv (Val.ilookup1 (E := doE) (c := 7) rfl rfl Tryz.underlying80 Tryz.underlying3 (by exact Tryz.zeroValue83) (by repeat (first | exact .here | exact .inner .here | exact .inner (.inner .here) | refine .there ?_))) <| LW.re 29 (.func (.func 80) #[] #[]) rfl (by rfl) ?_
        first | (refine LW.v rfl rfl (Val.loadW rfl Tryz.isAgg52 (by repeat (first | exact .here | exact .inner .here | exact .inner (.inner .here) | refine .there ?_)) (by exact Tryz.sizeOf52)) ?_) | (refine LW.v rfl rfl (Val.loadA [_, _, _, _, _] rfl Tryz.isAgg52 (by repeat (first | exact .here | exact .inner .here | exact .inner (.inner .here) | refine .there ?_)) (by rfl) Tryz.sizeOf52) ?_)
        refine Le (Eff.callFM (f := 80) (caps := []) ([[(b6, .cells [ownV l.length yp, ownV q.length yq].toArray 34 (0, 0))], ownG 69 (l.flatMap prC) yp, ownG 9 (q.flatMap stE) yq, [(b7, .cells (ansC 0 false [] (.slice none 0 0) (.slice none 0 0)).toArray 48 (0, 0))]]) (by repeat (first | exact .nil | apply Pick.cons | exact .here | apply Ext.there)) rfl rfl Tryz.call80 (fun w hw hs => do8_c l yp q yq b6 b7 ⟨8, key, val, to, gp, gn, gc⟩ w hyp hyq (by omega) hs)) fun u1 _ => ?_
        rw [← offOf_V q.length yq]
        refine Nl <| Ps <| Sq <| Dr ([[(b6, .cells _ 34 (0, 0))], [(b7, .cells _ 48 (0, 0))]]) ?_
        refine Rv 0 rfl (Lw (l := shC ((l, q)) ((yp, (offOf yq))))) <| Rv 1 rfl (Lw (l := AnsA.cells (AnsA.mk 0 false [] [] []) (((none : V.OwnO), (none : V.OwnO))))) <| ReN 2 rfl (StW (cs := shC ((l, q)) ((yp, (offOf yq)))) (h1 := by simp [shC, V.ownV_one, offV_one])) fun _ _ => ReN 3 rfl (Eff.storeW (cs := AnsA.cells (AnsA.mk 0 false [] [] []) (((none : V.OwnO), (none : V.OwnO)))) rfl rfl (by repeat (first | exact .here | exact .inner .here | exact .inner (.inner .here) | apply Upd.there)) (by rfl) Tryz.sizeOf48 (ans_one _ _)) fun _ _ => Rd <| Ps <| Rt <| Tr <| V.PQ.retCC (l := shC ((l, q)) ((yp, (offOf yq)))) (l2 := AnsA.cells (AnsA.mk 0 false [] [] []) (((none : V.OwnO), (none : V.OwnO)))) rfl rfl rfl (by repeat (first | exact .here | exact .inner .here | exact .inner (.inner .here) | refine .there ?_)) Tryz.isAgg34 (by exact Tryz.sizeOf34) (by repeat (first | exact .here | exact .inner .here | exact .inner (.inner .here) | refine .there ?_)) Tryz.isAgg48 (by exact Tryz.sizeOf48) fun w' hw => ?_
        exact ⟨((yp, (offOf yq)), ((none : V.OwnO), (none : V.OwnO))), ⟨⟨hyp, offOf_ok hyq⟩, ⟨⟨rfl, rfl⟩, ⟨rfl, rfl⟩⟩⟩, rfl, (by show Hp _ [ownG 69 (l.flatMap prC) yp, offG 9 (q.flatMap stE) (offOf yq), ownG 69 (([] : List Pr).flatMap prC) none, ownG 4 (([] : List Bool).flatMap boE) none] w'; rw [offOf_G]; exact (hw.pick (ss := [ownG 69 (l.flatMap prC) yp, ownG 9 (q.flatMap stE) yq]) (by repeat (first | exact .nil | apply Pick.cons | exact .here | apply Ext.there))).perm (by simp [V.ownG, V.ownS]))⟩
    · obtain ⟨ck, key, val, to, gp, gn, gc⟩ := x
      simp only at h7 hap
      subst h7
      rw [hap, if_pos rfl]
      obtain ⟨⟨hgn, hgc⟩, hLs⟩ := hR
      simp only at hgn hgc hLs
      subst hgn
      have hR : CalR w ⟨7, key, val, to, gp, L.length, gc⟩ L := ⟨⟨rfl, hgc⟩, hLs⟩
      refine V.calls [] Tryz.func18 rfl Tryz.ntmps18 (Nat.le_of_ble_eq_true rfl) (V.sat_nil _) <| Sq <| Rg <| Le XA fun b2 _ => Le XA fun b3 _ => Le AA fun b4 _ => Le AA fun b5 _ => Nl <| Ps <| Sq <| Rg ?_
      first | (refine LW.v rfl rfl (Val.loadW rfl Tryz.isAgg34 (by repeat (first | exact .here | exact .inner .here | exact .inner (.inner .here) | refine .there ?_)) (by exact Tryz.sizeOf34)) ?_) | (refine LW.v rfl rfl (Val.loadA [_, _] rfl Tryz.isAgg34 (by repeat (first | exact .here | exact .inner .here | exact .inner (.inner .here) | refine .there ?_)) (by rfl) Tryz.sizeOf34) ?_)
      refine Le (CM [] fun w hw hs => copied_c s (l, q) w (hA.hp hw (by simp [ids])) (by simp only; omega)) ?_
      rintro ⟨yp, yq⟩ ⟨hyp, hyq⟩
      simp only at hyp hyq
      refine Le AA fun b6 _ => LeN (StW (cs := owC (l, q) (yp, yq)) (h1 := by simp [owC, V.ownV_one])) fun _ _ => Nl <| Ps <| Sq <| Rg ?_
      first | (refine LW.v rfl rfl (Val.loadW rfl Tryz.isAgg52 (by repeat (first | exact .here | exact .inner .here | exact .inner (.inner .here) | refine .there ?_)) (by exact Tryz.sizeOf52)) ?_) | (refine LW.v rfl rfl (Val.loadA [_, _, _, _, _] rfl Tryz.isAgg52 (by repeat (first | exact .here | exact .inner .here | exact .inner (.inner .here) | refine .there ?_)) (by rfl) Tryz.sizeOf52) ?_)
      refine Le (CV fun w hw => hgood w (hR.hp hw)) fun _ _ => LW.re 15 (.int .i64 0) rfl (by rw [hg]) <| Lv (Val.build (ans0 0) Tryz.zeroValue48 Tryz.underlying48 places48 rfl (by rfl)) <| Le AA fun b7 _ => LeN (StW (cs := ans0 0) (h1 := by rfl)) fun _ _ => Nl <| Ps <| Sq <| Sq <| Rg <| Lv (Fa 0 45) <| Lv Ld <| Lv Cm <| LW.re 19 (.bool false) rfl (by rfl) <| Nl <| Ps <| Cf <| Sk <| Ps <| Sq <| Rg <| Le (CM [] fun w hw hs => idoings_c w) fun mb _ => Lv Av <| Nl <| Ps <| Sq <| Sq <| Rg <| Lv (Fa 0 3) <| Lv Ld <| Lv Cm <| LW.re 25 (.bool false) rfl (by rfl) <| Nl <| Ps <| Cf <| Sk <| Ps <| Sq <| Sq <| Rg <| Lv (Fa 4 22) <| Lv Ld <| Lv Ln <| Lv Mv <| Nl <| Ps <| Bk <| V.CW.addOwn 4 <| loopA (γ := Nat × ShA × List Bool × V.OwnO × V.OwnO × V.OwnO) (fun k => [(4, .pointer (some ⟨b4, 0, none⟩)), (5, .pointer (some ⟨b5, 0, none⟩)), (6, .pointer (some ⟨b6, 0, none⟩)), (7, .pointer (some ⟨b7, 0, none⟩)), (8, .map (some mb)), (35, .slice gp L.length gc), (36, .int .i64 (L.length : Nat)), (37, .int .i64 (k.1 : Nat))]) (fun k => [[(b4, .cells [.slice none 0 0, .slice none 0 0].toArray 34 (0, 0))], [(b5, .cells (ans0 0).toArray 48 (0, 0))], [(b6, .cells [ownV k.2.1.1.length k.2.2.2.1, ownV k.2.1.2.length k.2.2.2.2.1].toArray 34 (0, 0))], ownG 69 (k.2.1.1.flatMap prC) k.2.2.2.1, ownG 9 (k.2.1.2.flatMap stE) k.2.2.2.2.1, [(b7, .cells (ansC 0 false [] (.slice none 0 0) (ownV k.2.2.1.length k.2.2.2.2.2)).toArray 48 (0, 0))], ownG 4 (k.2.2.1.flatMap boE) k.2.2.2.2.2, [(mb, V.imO doE 7)]]) (fun k => k.1 ≤ L.length ∧ (k.2.1, k.2.2.1) = grpA (l, q) (L.take k.1) ∧ ownOk 2 k.2.1.1.length (k.2.1.1.flatMap prC) k.2.2.2.1 ∧ ownOk 1 k.2.1.2.length (k.2.1.2.flatMap stE) k.2.2.2.2.1 ∧ ownOk 1 k.2.2.1.length (k.2.2.1.flatMap boE) k.2.2.2.2.2 ∧ k.2.1.1.length ≤ l.length + k.1 ∧ k.2.1.2.length ≤ q.length + k.1 ∧ k.2.2.1.length = k.1) (fun k => L.length - k.1) ((0, (l, q), [], yp, yq, none)) ⟨Nat.zero_le _, rfl, hyp, hyq, ⟨rfl, rfl⟩, by simp⟩ fun k => ?_
      rintro ⟨hk1, hk2, hk3, hk4, hk5, hk6, hk7, hk8⟩
      refine Sq <| Rg <| Lv Cm <| Nl <| Ps <| Sq ?_
      refine CW.cond rfl (fun h38 => ?_) (fun h38 => ?_)
      · replace h38 := bT h38
        have hk9 : k.1 < L.length := by omega
        obtain ⟨bb1, o1, y, rfl, hb1, hx1, hr1⟩ := V.slAt_at hLs rfl (k := k.1) hk9
        have hyk := hsub y (List.mem_of_getElem? hx1)
        refine Sk <| Ps <| Sq <| Bk <| Sq <| Rg <| Lv (Val.indexAddrN rfl rfl Tryz.underlying22 Tryz.sizeOf52 (by omega)) <| Lv (Val.loadOA rfl Tryz.isAgg52 hb1 (by simp [ids]) (hr1 k.1 y hx1) Tryz.sizeOf52) <| Le AA fun b10 _ => LeN (StW (cs := calC y) (h1 := by rfl)) fun _ _ => Nl <| Ps <| Sq <| Rg <| Le AA fun b11 _ => Nl <| Ps <| Sq ?_
        rcases hyk with hyk | hyk | hyk
        · skip
          refine Rg <| Lv Mv <| Lv (Fa 0 3) <| Lv Ld <| Lv (Val.ilookup1 (E := doE) (c := 7) rfl rfl Tryz.underlying80 Tryz.underlying3 (by exact Tryz.zeroValue83) (by repeat (first | exact .here | exact .inner .here | exact .inner (.inner .here) | refine .there ?_))) <| LW.re 44 (.func (.func 72) #[] #[]) rfl (by rw [hyk]; rfl) <| Lv (Lw (l := calC y)) <| Le (Eff.callFM (f := 72) (caps := []) ([[(b6, .cells [ownV k.2.1.1.length k.2.2.2.1, ownV k.2.1.2.length k.2.2.2.2.1].toArray 34 (0, 0))], ownG 69 (k.2.1.1.flatMap prC) k.2.2.2.1, ownG 9 (k.2.1.2.flatMap stE) k.2.2.2.2.1, [(b11, .cells (ansC 0 false [] (.slice none 0 0) (.slice none 0 0)).toArray 48 (0, 0))]]) (by repeat (first | exact .nil | apply Pick.cons | exact .here | apply Ext.there)) rfl rfl Tryz.call72 (fun w hw hs => do2_c k.2.1.1 k.2.2.2.1 k.2.1.2 k.2.2.2.2.1 b6 b11 y w hk3 hk4 (by omega) hs)) fun r hr => Nl <| Ps <| Rg <| Lv (Fa 4 46) <| Lv (Ld (v := ownV k.2.2.1.length k.2.2.2.2.2)) <| Lv (Fa 1 4) <| Lv Ld <| Le (Eff.buildSlice (rfl) [_] Tryz.underlying46 Tryz.sizeOf4 (by exact Tryz.zeroValue4) rfl rfl rfl rfl (by rfl)) fun b51 _ => Le (Eff.appendAny (boE (getF k.2.1.1 y.key).isSome) (sz := 1) (bytes := 1) (z := .bool false) (xs := k.2.2.1.flatMap boE) (m0 := k.2.2.1.length) (o := k.2.2.2.2.2) (m := 1) (pk := [ownG 4 (k.2.2.1.flatMap boE) k.2.2.2.2.2]) rfl rfl Tryz.underlying46 (by kernel_rfl) rfl (by omega) (by repeat (first | exact .nil | apply Pick.cons | exact .here | apply Ext.there)) (by simp) hk5 (by rfl) (fun hm0 => ⟨b51, 0, rfl, fun w hw => V.range_of_block (o := 0) (cs := boE (getF k.2.1.1 y.key).isSome) (r := []) (hw.own _ (show InS (b51, .cells (boE (getF k.2.1.1 y.key).isSome).toArray 4 (0, 0)) _ from (by repeat (first | exact .here | exact .inner .here | exact .inner (.inner .here) | refine .there ?_))).mem) rfl⟩) (by rfl) (by omega) (by omega)) fun o9 ho90 => ?_
          have ho9 : ownOk 1 (k.2.2.1 ++ [(getF k.2.1.1 y.key).isSome]).length ((k.2.2.1 ++ [(getF k.2.1.1 y.key).isSome]).flatMap boE) o9 := by simpa using ho90
          rw [show k.2.2.1.flatMap boE ++ boE (getF k.2.1.1 y.key).isSome = (k.2.2.1 ++ [(getF k.2.1.1 y.key).isSome]).flatMap boE from by simp, show k.2.2.1.length + 1 = (k.2.2.1 ++ [(getF k.2.1.1 y.key).isSome]).length from by simp]
          refine Lv (Fa 4 46) <| LeN (StS (h1 := V.ownV_one _ _)) fun _ _ => Nl <| Bn <| Ps <| Rg <| Lv Ar <| Lv Mv <| Nl ?_
          exact roundA ((k.1 + 1, (putF k.2.1.1 y.key y.val, k.2.1.2), k.2.2.1 ++ [(getF k.2.1.1 y.key).isSome], r, k.2.2.2.2.1, o9)) ⟨by simp only; omega, by rw [grp_take hx1, ← hk2]; unfold doA; simp [hyk], hr, hk4, ho9, by have h9 := putF_len k.2.1.1 y.key y.val; have h8 := delF_len k.2.1.1 y.key; simp only [List.length_append, List.length_cons, List.length_nil]; omega⟩ (by simp only; omega)
        · skip
          refine Rg <| Lv Mv <| Lv (Fa 0 3) <| Lv Ld <| Lv (Val.ilookup1 (E := doE) (c := 7) rfl rfl Tryz.underlying80 Tryz.underlying3 (by exact Tryz.zeroValue83) (by repeat (first | exact .here | exact .inner .here | exact .inner (.inner .here) | refine .there ?_))) <| LW.re 44 (.func (.func 74) #[] #[]) rfl (by rw [hyk]; rfl) <| Lv (Lw (l := calC y)) <| Le (Eff.callFM (f := 74) (caps := []) ([[(b6, .cells [ownV k.2.1.1.length k.2.2.2.1, ownV k.2.1.2.length k.2.2.2.2.1].toArray 34 (0, 0))], ownG 69 (k.2.1.1.flatMap prC) k.2.2.2.1, ownG 9 (k.2.1.2.flatMap stE) k.2.2.2.2.1, [(b11, .cells (ansC 0 false [] (.slice none 0 0) (.slice none 0 0)).toArray 48 (0, 0))]]) (by repeat (first | exact .nil | apply Pick.cons | exact .here | apply Ext.there)) rfl rfl Tryz.call74 (fun w hw hs => do3_c k.2.1.1 k.2.2.2.1 k.2.1.2 k.2.2.2.2.1 b6 b11 y w hk3 hk4 (by omega) hs)) fun r hr => Nl <| Ps <| Rg <| Lv (Fa 4 46) <| Lv (Ld (v := ownV k.2.2.1.length k.2.2.2.2.2)) <| Lv (Fa 1 4) <| Lv Ld <| Le (Eff.buildSlice (rfl) [_] Tryz.underlying46 Tryz.sizeOf4 (by exact Tryz.zeroValue4) rfl rfl rfl rfl (by rfl)) fun b51 _ => Le (Eff.appendAny (boE (decide ((delF k.2.1.1 y.key).length < k.2.1.1.length))) (sz := 1) (bytes := 1) (z := .bool false) (xs := k.2.2.1.flatMap boE) (m0 := k.2.2.1.length) (o := k.2.2.2.2.2) (m := 1) (pk := [ownG 4 (k.2.2.1.flatMap boE) k.2.2.2.2.2]) rfl rfl Tryz.underlying46 (by kernel_rfl) rfl (by omega) (by repeat (first | exact .nil | apply Pick.cons | exact .here | apply Ext.there)) (by simp) hk5 (by rfl) (fun hm0 => ⟨b51, 0, rfl, fun w hw => V.range_of_block (o := 0) (cs := boE (decide ((delF k.2.1.1 y.key).length < k.2.1.1.length))) (r := []) (hw.own _ (show InS (b51, .cells (boE (decide ((delF k.2.1.1 y.key).length < k.2.1.1.length))).toArray 4 (0, 0)) _ from (by repeat (first | exact .here | exact .inner .here | exact .inner (.inner .here) | refine .there ?_))).mem) rfl⟩) (by rfl) (by omega) (by omega)) ?_
          intro o9 ho90
          have ho9 : ownOk 1 (k.2.2.1 ++ [(decide ((delF k.2.1.1 y.key).length < k.2.1.1.length))]).length ((k.2.2.1 ++ [(decide ((delF k.2.1.1 y.key).length < k.2.1.1.length))]).flatMap boE) o9 := by simpa using ho90
          rw [show k.2.2.1.flatMap boE ++ boE (decide ((delF k.2.1.1 y.key).length < k.2.1.1.length)) = (k.2.2.1 ++ [(decide ((delF k.2.1.1 y.key).length < k.2.1.1.length))]).flatMap boE from by simp, show k.2.2.1.length + 1 = (k.2.2.1 ++ [(decide ((delF k.2.1.1 y.key).length < k.2.1.1.length))]).length from by simp]
          refine Lv (Fa 4 46) <| LeN (StS (h1 := V.ownV_one _ _)) fun _ _ => Nl <| Bn <| Ps <| Rg <| Lv Ar <| Lv Mv <| Nl ?_
          exact roundA ((k.1 + 1, (delF k.2.1.1 y.key, k.2.1.2), k.2.2.1 ++ [(decide ((delF k.2.1.1 y.key).length < k.2.1.1.length))], r, k.2.2.2.2.1, o9)) ⟨by simp only; omega, by rw [grp_take hx1, ← hk2]; unfold doA; simp [hyk], hr, hk4, ho9, by have h9 := putF_len k.2.1.1 y.key y.val; have h8 := delF_len k.2.1.1 y.key; simp only [List.length_append, List.length_cons, List.length_nil]; omega⟩ (by simp only; omega)
        · skip
          refine Rg <| Lv Mv <| Lv (Fa 0 3) <| Lv Ld <| Lv (Val.ilookup1 (E := doE) (c := 7) rfl rfl Tryz.underlying80 Tryz.underlying3 (by exact Tryz.zeroValue83) (by repeat (first | exact .here | exact .inner .here | exact .inner (.inner .here) | refine .there ?_))) <| LW.re 44 (.func (.func 76) #[] #[]) rfl (by rw [hyk]; rfl) <| Lv (Lw (l := calC y)) <| Le (Eff.callFM (f := 76) (caps := []) ([[(b6, .cells [ownV k.2.1.1.length k.2.2.2.1, ownV k.2.1.2.length k.2.2.2.2.1].toArray 34 (0, 0))], ownG 69 (k.2.1.1.flatMap prC) k.2.2.2.1, ownG 9 (k.2.1.2.flatMap stE) k.2.2.2.2.1, [(b11, .cells (ansC 0 false [] (.slice none 0 0) (.slice none 0 0)).toArray 48 (0, 0))]]) (by repeat (first | exact .nil | apply Pick.cons | exact .here | apply Ext.there)) rfl rfl Tryz.call76 (fun w hw hs => do4_c k.2.1.1 k.2.2.2.1 k.2.1.2 k.2.2.2.2.1 b6 b11 y w hk3 hk4 (by omega) hs)) fun r hr => Nl <| Ps <| Rg <| Lv (Fa 4 46) <| Lv (Ld (v := ownV k.2.2.1.length k.2.2.2.2.2)) <| Lv (Fa 1 4) <| Lv Ld <| Le (Eff.buildSlice (rfl) [_] Tryz.underlying46 Tryz.sizeOf4 (by exact Tryz.zeroValue4) rfl rfl rfl rfl (by rfl)) fun b51 _ => Le (Eff.appendAny (boE false) (sz := 1) (bytes := 1) (z := .bool false) (xs := k.2.2.1.flatMap boE) (m0 := k.2.2.1.length) (o := k.2.2.2.2.2) (m := 1) (pk := [ownG 4 (k.2.2.1.flatMap boE) k.2.2.2.2.2]) rfl rfl Tryz.underlying46 (by kernel_rfl) rfl (by omega) (by repeat (first | exact .nil | apply Pick.cons | exact .here | apply Ext.there)) (by simp) hk5 (by rfl) (fun hm0 => ⟨b51, 0, rfl, fun w hw => V.range_of_block (o := 0) (cs := boE false) (r := []) (hw.own _ (show InS (b51, .cells (boE false).toArray 4 (0, 0)) _ from (by repeat (first | exact .here | exact .inner .here | exact .inner (.inner .here) | refine .there ?_))).mem) rfl⟩) (by rfl) (by omega) (by omega)) fun o9 ho90 => ?_
          have ho9 : ownOk 1 (k.2.2.1 ++ [false]).length ((k.2.2.1 ++ [false]).flatMap boE) o9 := by simpa using ho90
          rw [show k.2.2.1.flatMap boE ++ boE false = (k.2.2.1 ++ [false]).flatMap boE from by simp, show k.2.2.1.length + 1 = (k.2.2.1 ++ [false]).length from by simp]
          refine Lv (Fa 4 46) <| LeN (StS (h1 := V.ownV_one _ _)) fun _ _ => Nl <| Bn <| Ps <| Rg <| Lv Ar <| Lv Mv <| Nl ?_
          exact roundA ((k.1 + 1, (k.2.1.1, k.2.1.2 ++ [y.val]), k.2.2.1 ++ [false], k.2.2.2.1, r, o9)) ⟨by simp only; omega, by rw [grp_take hx1, ← hk2]; unfold doA; simp [hyk], hk3, hr, ho9, by have h9 := putF_len k.2.1.1 y.key y.val; have h8 := delF_len k.2.1.1 y.key; simp only [List.length_append, List.length_cons, List.length_nil]; omega⟩ (by simp only; omega)
      · replace h38 := bF h38
        have hk9 : L.length ≤ k.1 := by omega
        rw [List.take_of_length_le hk9] at hk2
        rw [show (grpA (l, q) L).1 = k.2.1 from by rw [← hk2], show (grpA (l, q) L).2 = k.2.2.1 from by rw [← hk2], ← offOf_V k.2.1.2.length k.2.2.2.2.1]
        refine Xt <| Te <| Te <| Bh <| Ps <| Sq <| Dr ([[(b6, .cells _ 34 (0, 0))], [(b7, .cells _ 48 (0, 0))]]) ?_
        refine Rv 0 rfl (Lw (l := shC (k.2.1) ((k.2.2.2.1, offOf k.2.2.2.2.1)))) <| Rv 1 rfl (Lw (l := AnsA.cells (AnsA.mk 0 false [] [] k.2.2.1) (((none : V.OwnO), k.2.2.2.2.2)))) <| ReN 2 rfl (StW (cs := shC (k.2.1) ((k.2.2.2.1, offOf k.2.2.2.2.1))) (h1 := by simp [shC, V.ownV_one, offV_one])) fun _ _ => ReN 3 rfl (Eff.storeW (cs := AnsA.cells (AnsA.mk 0 false [] [] k.2.2.1) (((none : V.OwnO), k.2.2.2.2.2))) rfl rfl (by repeat (first | exact .here | exact .inner .here | exact .inner (.inner .here) | apply Upd.there)) (by rfl) Tryz.sizeOf48 (ans_one _ _)) fun _ _ => Rd <| Ps <| Rt <| V.PQ.retCC (l := shC (k.2.1) ((k.2.2.2.1, offOf k.2.2.2.2.1))) (l2 := AnsA.cells (AnsA.mk 0 false [] [] k.2.2.1) (((none : V.OwnO), k.2.2.2.2.2))) rfl rfl rfl (by repeat (first | exact .here | exact .inner .here | exact .inner (.inner .here) | refine .there ?_)) Tryz.isAgg34 (by exact Tryz.sizeOf34) (by repeat (first | exact .here | exact .inner .here | exact .inner (.inner .here) | refine .there ?_)) Tryz.isAgg48 (by exact Tryz.sizeOf48) fun w' hw => ?_
        exact ⟨((k.2.2.2.1, offOf k.2.2.2.2.1), ((none : V.OwnO), k.2.2.2.2.2)), ⟨⟨hk3, offOf_ok hk4⟩, ⟨rfl, rfl⟩, hk5⟩, rfl, (by show Hp _ [ownG 69 (k.2.1.1.flatMap prC) k.2.2.2.1, offG 9 (k.2.1.2.flatMap stE) (offOf k.2.2.2.2.1), ownG 69 (([] : List Pr).flatMap prC) none, ownG 4 (k.2.2.1.flatMap boE) k.2.2.2.2.2] w'; rw [offOf_G]; exact (hw.pick (ss := [ownG 69 (k.2.1.1.flatMap prC) k.2.2.2.1, ownG 9 (k.2.1.2.flatMap stE) k.2.2.2.2.1, ownG 4 (k.2.2.1.flatMap boE) k.2.2.2.2.2]) (by repeat (first | exact .nil | apply Pick.cons | exact .here | apply Ext.there))).perm (by simp [V.ownG, V.ownS]))⟩
  · have hap : apA (l, q) x L = ((l, q), ⟨goodF x L, false, [], [], []⟩) := by unfold apA; rw [if_pos hg]
    rw [hap]
    refine V.calls [] Tryz.func18 rfl Tryz.ntmps18 (Nat.le_of_ble_eq_true rfl) (V.sat_nil _) <| Sq <| Rg <| Le XA fun b2 _ => Le XA fun b3 _ => Le AA fun b4 _ => Le AA fun b5 _ => Nl <| Ps <| Sq <| Rg ?_
    first | (refine LW.v rfl rfl (Val.loadW rfl Tryz.isAgg34 (by repeat (first | exact .here | exact .inner .here | exact .inner (.inner .here) | refine .there ?_)) (by exact Tryz.sizeOf34)) ?_) | (refine LW.v rfl rfl (Val.loadA [_, _] rfl Tryz.isAgg34 (by repeat (first | exact .here | exact .inner .here | exact .inner (.inner .here) | refine .there ?_)) (by rfl) Tryz.sizeOf34) ?_)
    refine Le (CM [] fun w hw hs => copied_c s (l, q) w (hA.hp hw (by simp [ids])) (by simp only; omega)) ?_
    rintro ⟨yp, yq⟩ ⟨hyp, hyq⟩
    simp only at hyp hyq
    have hoff : offV q.length (offOf yq) = ownV q.length yq := offOf_V _ _
    refine Le AA fun b6 _ => LeN (Eff.storeW (cs := shC (l, q) (yp, offOf yq)) rfl (by show some _ = some (Value.agg [_, offV _ _].toArray); rw [hoff]; rfl) (by repeat (first | exact .here | exact .inner .here | exact .inner (.inner .here) | apply Upd.there)) (by rfl) Tryz.sizeOf34 (by simp [shC, V.ownV_one, offV_one])) fun _ _ => Nl <| Ps <| Sq <| Rg ?_
    first | (refine LW.v rfl rfl (Val.loadW rfl Tryz.isAgg52 (by repeat (first | exact .here | exact .inner .here | exact .inner (.inner .here) | refine .there ?_)) (by exact Tryz.sizeOf52)) ?_) | (refine LW.v rfl rfl (Val.loadA [_, _, _, _, _] rfl Tryz.isAgg52 (by repeat (first | exact .here | exact .inner .here | exact .inner (.inner .here) | refine .there ?_)) (by rfl) Tryz.sizeOf52) ?_)
    refine Le (CV fun w hw => hgood w (hR.hp hw)) fun _ _ => Lv (Val.build (ans0 (goodF x L)) Tryz.zeroValue48 Tryz.underlying48 places48 rfl (by rfl)) <| Le AA fun b7 _ => LeN (StW (cs := ans0 (goodF x L)) (h1 := by rfl)) fun _ _ => Nl <| Ps <| Sq <| Sq <| Rg <| Lv (Fa 0 45) <| Lv Ld <| Lv Cm <| LW.re 19 (.bool true) rfl (by simp [hg]) <| Nl <| Ps <| Ct <| Sq <| Dr ([[(b6, .cells _ 34 (0, 0))], [(b7, .cells _ 48 (0, 0))]]) ?_
    refine Rv 0 rfl (Lw (l := shC ((l, q)) ((yp, offOf yq)))) <| Rv 1 rfl (Lw (l := AnsA.cells (AnsA.mk (goodF x L) false [] [] []) (((none : V.OwnO), (none : V.OwnO))))) <| ReN 2 rfl (StW (cs := shC ((l, q)) ((yp, offOf yq))) (h1 := by simp [shC, V.ownV_one, offV_one])) fun _ _ => ReN 3 rfl (Eff.storeW (cs := AnsA.cells (AnsA.mk (goodF x L) false [] [] []) (((none : V.OwnO), (none : V.OwnO)))) rfl rfl (by repeat (first | exact .here | exact .inner .here | exact .inner (.inner .here) | apply Upd.there)) (by rfl) Tryz.sizeOf48 (ans_one _ _)) fun _ _ => Rd <| Ps <| Rt <| Tr <| V.PQ.retCC (l := shC ((l, q)) ((yp, offOf yq))) (l2 := AnsA.cells (AnsA.mk (goodF x L) false [] [] []) (((none : V.OwnO), (none : V.OwnO)))) rfl rfl rfl (by repeat (first | exact .here | exact .inner .here | exact .inner (.inner .here) | refine .there ?_)) Tryz.isAgg34 (by exact Tryz.sizeOf34) (by repeat (first | exact .here | exact .inner .here | exact .inner (.inner .here) | refine .there ?_)) Tryz.isAgg48 (by exact Tryz.sizeOf48) fun w' hw => ?_
    exact ⟨((yp, offOf yq), ((none : V.OwnO), (none : V.OwnO))), ⟨⟨hyp, offOf_ok hyq⟩, ⟨⟨rfl, rfl⟩, ⟨rfl, rfl⟩⟩⟩, rfl, (by show Hp _ [ownG 69 (l.flatMap prC) yp, offG 9 (q.flatMap stE) (offOf yq), ownG 69 (([] : List Pr).flatMap prC) none, ownG 4 (([] : List Bool).flatMap boE) none] w'; rw [offOf_G]; exact (hw.pick (ss := [ownG 69 (l.flatMap prC) yp, ownG 9 (q.flatMap stE) yq]) (by repeat (first | exact .nil | apply Pick.cons | exact .here | apply Ext.there))).perm (by simp [V.ownG, V.ownS]))⟩
end I
end Go.Proofs.YtlpbjmbgopfkhaaGreat

/- All orders of a few numbers, given out one by one. -/
namespace Go.Proofs.YtlpbjmbgopfkhaaGreat
open Go Go.RowKit V
set_option linter.unusedVariables false
set_option maxRecDepth 100000
namespace I
open V (str byC ownV ownG ownS ownOk)
def inE (x : Nat) : List Value := [.int .i64 (x : Nat)]
theorem inE_len (x : Nat) : (inE x).length = 1 := rfl
theorem inE_one (x : Nat) : (inE x).all (·.oneCell') = true := rfl
theorem cloneI_c (l : List Nat) (p : Option Addr) (n c : Nat) (hn : n = l.length) (hl : l.length ≤ 1000) (w : World) (h : V.slAt w p 1 inE l) : Calls Tryz.prog 49 [.slice p n c].toArray w fun e w' => ∃ o : V.OwnO, ownOk 1 l.length (l.flatMap inE) o ∧ e = .returned (ownV l.length o) ∧ Hp ⟨w, []⟩ [ownG 3 (l.flatMap inE) o] w' := by
  subst hn
  refine V.calls [] Tryz.func49 rfl Tryz.ntmps49 (Nat.le_of_ble_eq_true rfl) (V.sat_nil _) <| Sq <| Rg <| Lv Av <| Nl <| Ps <| Sq <| Sq <| Rg <| Lv Mv <| Lv (Val.eqSlNil rfl rfl Tryz.underlying29) <| Nl <| Ps ?_
  refine CW.cond rfl (fun h4 => ?_) (fun h4 => ?_)
  · replace h4 := bT h4
    have hpn : p = none := by cases p with | none => rfl | some q => simp at h4
    obtain rfl : l = [] := by
      rcases h with h | ⟨b, o, h, _⟩
      · exact h
      · rw [hpn] at h; cases h
    refine Sq <| Rg <| Lv Av <| Nl <| Ps <| Rt <| Tr <| Rt1 ?_
    intro w' hw; exact ⟨none, ⟨rfl, rfl⟩, rfl, hw.perm (.refl _)⟩
  · replace h4 := bF h4
    refine Sk <| Ps <| Sq <| Rg <| Le (Eff.buildSlice0 Tryz.underlying29 Tryz.sizeOf3) fun b5 _ => Lv Mv <| Le (Eff.appendAny (l.flatMap inE) (sz := 1) (bytes := 8) (z := .int .i64 0) (xs := []) (m0 := 0) (o := some (b5, [], 0)) (m := l.length) (pk := [ownG 3 [] (some (b5, [], 0))]) rfl rfl Tryz.underlying29 (by kernel_rfl) rfl (by omega) (by repeat (first | exact .nil | apply Pick.cons | exact .here | apply Ext.there)) (by simp) ⟨rfl, rfl⟩ (V.flatMap_len inE_len _) (fun hm0 => by obtain ⟨b8, o8, h8, h9⟩ := sl_range (F := []) inE_len h hm0 (by simp); exact ⟨b8, o8, h8, fun w hw => h9 w hw⟩) (all_one inE_one _) (by omega) (by omega)) fun o2 ho2 => ?_
    have h2 : ownOk 1 l.length (l.flatMap inE) o2 := by simpa using ho2
    rw [List.nil_append, Nat.zero_add]
    refine Lv Av <| Nl <| Ps <| Rt <| Rt1 ?_
    intro w' hw; exact ⟨o2, h2, rfl, hw.pick (by repeat (first | exact .nil | apply Pick.cons | exact .here | apply Ext.there))⟩
theorem ixP {l : List Nat} {k x y : Nat} (hx : l[k]? = some y) (h : x = y) : ((0 : Int) ≤ (k : Nat)) = (x ∈ l) := by
  subst h
  simp only [eq_iff_iff]
  exact ⟨fun _ => List.mem_of_getElem? hx, fun _ => by omega⟩
theorem ixQ {l : List Nat} {x : Nat} (h : x ∉ l) : ((0 : Int) ≤ -1) = (x ∈ l) := by
  simp only [eq_iff_iff]
  exact ⟨fun h => by omega, fun h1 => absurd h1 h⟩
theorem index0_c (l : List Nat) (p : Option Addr) (c x : Nat) (hl : l.length ≤ 1000) (w : World) (h : V.slAt w p 1 inE l) : Calls Tryz.prog 96 [.slice p l.length c, .int .i64 (x : Nat)].toArray w fun e w' => ∃ i : Int, ((0 ≤ i) = (x ∈ l)) ∧ e = .returned (.int .i64 i) ∧ Below w.heap.size w w' := by
  refine V.calls [] Tryz.func96 rfl Tryz.ntmps96 (Nat.le_of_ble_eq_true rfl) (V.sat_nil _) <| Sq <| Rg <| Lv Av <| Nl <| Ps <| Sq <| Sq <| Rg <| Lv Mv <| Lv Ln <| Lv Mv <| Nl <| Ps <| Bk <| loopA (γ := Nat) (fun k => [(0, .slice p l.length c), (1, .int .i64 (x : Nat)), (7, .int .i64 (l.length : Nat)), (8, .int .i64 (k : Nat))]) (fun _ => []) (fun k => k ≤ l.length ∧ x ∉ l.take k) (fun k => l.length - k) (0) ⟨Nat.zero_le _, by simp⟩ fun k => ?_
  rintro ⟨hk1, hk2⟩
  refine Sq <| Rg <| Lv Cm <| Nl <| Ps <| Sq ?_
  refine CW.cond rfl (fun h9 => ?_) (fun h9 => ?_)
  · replace h9 := bT h9
    have hk9 : k < l.length := by omega
    obtain ⟨bb1, o1, y, rfl, hb1, hx1, hr1⟩ := V.slAt_at h rfl (k := k) hk9
    refine Sk <| Ps <| Sq <| Bk <| Sq <| Rg <| Lv Mv <| Lv Av <| Nl <| Ps <| Sq <| Rg <| Lv Mv <| Lv Mv <| Lv Mv <| Lv (Val.indexAddrN rfl rfl Tryz.underlying29 Tryz.sizeOf3 (by omega)) <| Lv (Val.loadO rfl Tryz.isAgg3 hb1 (by simp [ids]) (hr1 k y hx1 0 _ rfl)) <| Lv Cm <| Nl <| Ps ?_
    refine CW.cond rfl (fun h16 => ?_) (fun h16 => ?_)
    · replace h16 := bT h16
      have h16 : x = y := by have h : (x : Int) = (y : Nat) := h16; omega
      refine Sq <| Rg <| Lv Mv <| Lv Av <| Nl <| Ps <| Rt <| Br <| Tr <| Tr <| Br <| Tr <| Rt1 ?_
      intro w' hw; exact ⟨(k : Nat), ixP hx1 h16, rfl, hw.below⟩
    · replace h16 := bF h16
      have h16 : x ≠ y := by have h : ¬ (x : Int) = (y : Nat) := h16; omega
      refine Sk <| Bn <| Ps <| Rg <| Lv Ar <| Lv Mv <| Nl ?_
      exact roundA (k + 1) ⟨by omega, by rw [List.take_add_one, hx1]; simp; exact ⟨hk2, h16⟩⟩ (by omega)
  · replace h9 := bF h9
    have hk9 : l.length ≤ k := by omega
    refine Xt <| Te <| Te <| Bh <| Ps <| Sq <| Rg <| Lv Av <| Nl <| Ps <| Rt <| Rt1 ?_
    intro w' hw; exact ⟨-1, ixQ (by rw [List.take_of_length_le hk9] at hk2; exact hk2), rfl, hw.below⟩
theorem contains_c (l : List Nat) (p : Option Addr) (c x : Nat) (hl : l.length ≤ 1000) (w : World) (h : V.slAt w p 1 inE l) : Calls Tryz.prog 56 [.slice p l.length c, .int .i64 (x : Nat)].toArray w fun e w' => e = .returned (.bool (decide (x ∈ l))) ∧ Below w.heap.size w w' := by
  refine V.calls [] Tryz.func56 rfl Tryz.ntmps56 (Nat.le_of_ble_eq_true rfl) (V.sat_nil _) <| Sq <| Rg <| Lv Av <| Nl <| Ps <| Sq <| Rg <| Lv Mv <| Lv Mv <| Le (CR fun w hw => index0_c l p c x hl w (hw.slAt h (by simp [ids]))) fun i hi => Lv Cm <| Lv Av <| Nl <| Ps <| Rt <| Rt1 ?_
  intro w' hw; exact ⟨by congr 2; rw [Bool.eq_iff_iff, decide_eq_true_eq, decide_eq_true_eq, hi], hw.below⟩
/-- All ways to make a row longer by so many of the numbers below n that it lacks, rising. -/
def ext (n : Nat) : Nat → List Nat → List (List Nat)
  | 0, row => [row]
  | f + 1, row => (List.range n).flatMap fun i => if i ∈ row then [] else ext n f (row ++ [i])
def extTo (n f : Nat) (row : List Nat) (k : Nat) : List (List Nat) := (List.range k).flatMap fun i => if i ∈ row then [] else ext n f (row ++ [i])
theorem extTo_succ (n f : Nat) (row : List Nat) (k : Nat) : extTo n f row (k + 1) = extTo n f row k ++ (if k ∈ row then [] else ext n f (row ++ [k])) := by unfold extTo; rw [List.range_succ, List.flatMap_append]; simp
abbrev RowO := List Nat × V.OwnO
def rowV (x : RowO) : List Value := [ownV x.1.length x.2]
def rowM (x : RowO) : V.Sg := [ownG 3 (x.1.flatMap inE) x.2]
def rowOk (x : RowO) : Prop := ownOk 1 x.1.length (x.1.flatMap inE) x.2
/-- What the iterator's calls lean on. -/
structure Orc (J : List RowO → List Nat → World → Prop) (l n cn cy cg : Nat) (N : Nat) (T : List (List Nat)) : Prop where
  grow : ∀ pre Ks W0 W1 new, J pre Ks W0 → Below W0.heap.size W0 W1 → (∀ k ∈ new, W0.heap.size ≤ k ∧ k < W1.heap.size) → J pre (new ++ Ks) W1
  yield : ∀ pre x Ks W0 W1, J pre Ks W0 → Below W0.heap.size W0 W1 → Sat (rowM x) W1 → (∀ k ∈ V.ids (rowM x), W0.heap.size ≤ k) → (x.1 ∈ T ∧ rowOk x) → pre.length < N →
      YieldAt (V.Wd none) 0 Tryz.prog l (rowV x).toArray W1 fun e W' => e = .returned (.bool true) ∧ J (pre ++ [x]) Ks W' ∧ ∀ k ∈ Ks, W'.heap[k]? = W1.heap[k]?
def orS (l n cn cy cg : Nat) : V.Sg := [[(cn, .cells [.int .i64 (n : Nat)].toArray 3 (0, 0))], [(cy, .cells [.func (.yield l) #[] #[]].toArray 67 (0, 0))], [(cg, .cells [.func (.func 55) #[] [.pointer (some ⟨cn, 0, none⟩), .pointer (some ⟨cy, 0, none⟩), .pointer (some ⟨cg, 0, none⟩)].toArray].toArray 67 (0, 0))]]
def Kept (Ks : List Nat) (W w : World) : Prop := ∀ k ∈ Ks, w.heap[k]? = W.heap[k]?
theorem Kept.hp {Ks : List Nat} {W w0 w : World} {sg : V.Sg} (h : Kept Ks W w0) (hlt : ∀ k ∈ Ks, k < W.heap.size) (hw : Hp ⟨w0, []⟩ sg w) : Kept Ks W w := fun k hk => by
  have h1 := h k hk
  have h2 : k < w0.heap.size := by
    obtain ⟨o, ho⟩ : ∃ o, W.heap[k]? = some o := ⟨W.heap[k]'(hlt k hk), by simp [hlt k hk]⟩
    rw [ho] at h1
    exact V.lt_of_some h1
  exact (hw.old k h2 (by simp)).trans h1
theorem Kept.sat {Ks : List Nat} {W w : World} {sg : V.Sg} (h : Kept Ks W w) (hs : Sat sg W) (hk : ∀ k ∈ V.ids sg, k ∈ Ks) : Sat sg w := ⟨fun p hp => (h p.1 (hk p.1 (List.mem_map.2 ⟨p, hp, rfl⟩))).trans (hs.own p hp), hs.nd⟩
theorem Kept.slAt {α : Type} {Ks : List Nat} {W w : World} {p : Option Addr} {sz : Nat} {enc : α → List Value} {l : List α} (h : Kept Ks W w) (hs : V.slAt W p sz enc l) (hk : ∀ b o, p = some ⟨b, o, none⟩ → b ∈ Ks) : V.slAt w p sz enc l := by
  rcases hs with h1 | ⟨b, o, hp, hb, hr⟩
  · exact .inl h1
  · have h2 := h b (hk b o hp)
    have h3 : b < w.heap.size := by
      obtain ⟨ob, ho⟩ : ∃ o, W.heap[b]? = some o := ⟨W.heap[b]'hb, by simp [hb]⟩
      rw [ho] at h2
      exact V.lt_of_some h2
    refine .inr ⟨b, o, hp, h3, fun i x hx j v hv => ?_⟩
    have h4 := hr i x hx j v hv
    rw [World.cell?_of_block h2]
    exact h4
theorem kept_lt {Ks : List Nat} {W w : World} (h : Kept Ks W w) (hlt : ∀ k ∈ Ks, k < W.heap.size) : ∀ k ∈ Ks, k < w.heap.size := fun k hk => by
  have h1 := h k hk
  obtain ⟨o, ho⟩ : ∃ o, W.heap[k]? = some o := ⟨W.heap[k]'(hlt k hk), by simp [hlt k hk]⟩
  rw [ho] at h1
  exact V.lt_of_some h1
theorem extTo_mono (n f : Nat) (row : List Nat) {k m : Nat} (h : k ≤ m) : (extTo n f row k).length ≤ (extTo n f row m).length := by
  induction h with
  | refl => exact Nat.le_refl _
  | step _ ih => rw [extTo_succ, List.length_append]; omega
theorem extTo_le {n f k : Nat} {row : List Nat} (h : k ≤ n) : (extTo n f row k).length ≤ (ext n (f + 1) row).length := extTo_mono n f row h
theorem goOn_c (J : List RowO → List Nat → World → Prop) (l n cn cy cg N : Nat) (hn : n ≤ 3) (T : List (List Nat)) (hO : Orc J l n cn cy cg N T) : ∀ (f : Nat) (row : List Nat) (p : Option Addr) (c : Nat) (pre : List RowO) (Ks : List Nat) (W : World), row.length + f = n → J pre Ks W → (∀ k ∈ Ks, k < W.heap.size) → Sat (orS l n cn cy cg) W → (∀ k ∈ V.ids (orS l n cn cy cg), k ∈ Ks) →
    V.slAt W p 1 inE row → (∀ b o, p = some ⟨b, o, none⟩ → b ∈ Ks) → pre.length + (ext n f row).length ≤ N → (∀ y ∈ ext n f row, y ∈ T) →
    Calls Tryz.prog 55 [.slice p row.length c, .pointer (some ⟨cn, 0, none⟩), .pointer (some ⟨cy, 0, none⟩), .pointer (some ⟨cg, 0, none⟩)].toArray W fun e W' => e = .returned (.bool true) ∧ ∃ xs Ks', (xs.map Prod.fst = ext n f row ∧ ∀ x ∈ xs, rowOk x) ∧ J (pre ++ xs) Ks' W' ∧ (∀ k ∈ Ks, k ∈ Ks') ∧ (∀ k ∈ Ks', k < W'.heap.size) ∧ Kept Ks W W'
  | 0, row, p, c, pre, Ks, W, hlen, hJ, hKlt, hS, hSK, hsl, hpK, hN, hT => by
    have hcn := hS.own (cn, .cells [.int .i64 (n : Nat)].toArray 3 (0, 0)) (by simp [orS])
    have hcy := hS.own (cy, .cells [.func (.yield l) #[] #[]].toArray 67 (0, 0)) (by simp [orS])
    refine V.calls [] Tryz.func55 rfl Tryz.ntmps55 (Nat.le_of_ble_eq_true rfl) (V.sat_nil _) <| Sq <| Rg <| Lv Av <| Nl <| Ps <| Sq <| Sq <| Rg <| Lv Mv <| Lv Ln <| Lv (Val.loadO rfl Tryz.isAgg3 (V.lt_of_some (hcn)) (by simp [ids]) (V.cell_of_block (hcn) rfl)) <| Lv Cm <| LW.re 10 (.bool true) rfl (by congr 1; simp; omega) <| Nl <| Ps <| Ct <| Sq <| V.CW.toI <| V.CI.drawnI mixed ?_
    have yl : ∀ o : V.OwnO, ownOk 1 row.length (row.flatMap inE) o → ∀ w, Hp ⟨W, V.ids []⟩ [ownG 3 (row.flatMap inE) o] w → YieldAt (V.Wd none) 0 Tryz.prog l [ownV row.length o].toArray w fun e w' => ∃ b, e = .returned (.bool b) ∧ (b = true ∧ J (pre ++ [(row, o)]) Ks w' ∧ Kept Ks W w') := fun o ho w hw => by
      obtain ⟨fn, tm, ac, bd, hr, hR⟩ := hO.yield pre (row, o) Ks W w hJ hw.below (hw.sat) (fun k hk => hw.lo0 hk) ⟨hT row (by simp [ext]), ho⟩ (by simp [ext] at hN; omega)
      refine ⟨fn, tm, ac, bd, hr, hR.mono ?_⟩
      rintro e w' ⟨rfl, hj', hkp⟩
      exact ⟨true, rfl, rfl, hj', fun k hk => (hkp k hk).trans (hw.below.block k (hKlt k hk))⟩
    refine V.RI.any [0, 1] (by kernel_rfl) (by simp) fun i hi => ?_
    simp only [List.mem_cons, List.not_mem_nil, or_false] at hi
    rcases hi with rfl | rfl
    · refine V.RIo.v rfl rfl rfl rfl (Val.loadO rfl Tryz.isAgg67 (V.lt_of_some (hcy)) (by simp [ids]) (V.cell_of_block (hcy) rfl)) <| V.RI.any [1] (by kernel_rfl) (by simp) fun i hi => ?_
      obtain rfl : i = 1 := by simpa using hi
      refine V.RIo.v rfl rfl rfl rfl (Val.move rfl) <| V.RI.any [2] (by kernel_rfl) (by simp) fun i hi => ?_
      obtain rfl : i = 2 := by simpa using hi
      refine V.RIo.e rfl rfl rfl rfl (Eff.callM ([]) .nil rfl Tryz.call49 (fun w hw hs => cloneI_c row p _ c rfl (by omega) w (hw.slAt hsl (by simp [ids])))) fun o ho => V.RI.any [3] (by kernel_rfl) (by simp) fun i hi => ?_
      obtain rfl : i = 3 := by simpa using hi
      refine V.RIo.y (Hy := fun b w => b = true ∧ J (pre ++ [(row, o)]) Ks w ∧ Kept Ks W w) rfl rfl rfl rfl rfl (fun w hw => yl o ho w (hw.pick (by repeat (first | exact .nil | apply Pick.cons | exact .here | apply Ext.there)))) fun b => V.RI.any [4] (by kernel_rfl) (by simp) fun i hi => ?_
      obtain rfl : i = 4 := by simpa using hi
      refine V.RIo.u rfl rfl rfl rfl (fun w => Val.assign rfl) <| V.RI.done (by kernel_rfl) <| V.PI.seqW <| CI.ret <| PI.then_ret <| V.PI.ret1 rfl rfl ?_
      rintro w' ⟨rfl, hj, hkp⟩; exact ⟨rfl, [(row, o)], Ks, ⟨by simp [ext], by simp; exact ho⟩, hj, fun k hk => hk, fun k hk => kept_lt hkp hKlt k hk, hkp⟩
    · refine V.RIo.v rfl rfl rfl rfl (Val.move rfl) <| V.RI.any [0, 2] (by kernel_rfl) (by simp) fun i hi => ?_
      simp only [List.mem_cons, List.not_mem_nil, or_false] at hi
      rcases hi with rfl | rfl
      · refine V.RIo.v rfl rfl rfl rfl (Val.loadO rfl Tryz.isAgg67 (V.lt_of_some (hcy)) (by simp [ids]) (V.cell_of_block (hcy) rfl)) <| V.RI.any [2] (by kernel_rfl) (by simp) fun i hi => ?_
        obtain rfl : i = 2 := by simpa using hi
        refine V.RIo.e rfl rfl rfl rfl (Eff.callM ([]) .nil rfl Tryz.call49 (fun w hw hs => cloneI_c row p _ c rfl (by omega) w (hw.slAt hsl (by simp [ids])))) fun o ho => V.RI.any [3] (by kernel_rfl) (by simp) fun i hi => ?_
        obtain rfl : i = 3 := by simpa using hi
        refine V.RIo.y (Hy := fun b w => b = true ∧ J (pre ++ [(row, o)]) Ks w ∧ Kept Ks W w) rfl rfl rfl rfl rfl (fun w hw => yl o ho w (hw.pick (by repeat (first | exact .nil | apply Pick.cons | exact .here | apply Ext.there)))) fun b => V.RI.any [4] (by kernel_rfl) (by simp) fun i hi => ?_
        obtain rfl : i = 4 := by simpa using hi
        refine V.RIo.u rfl rfl rfl rfl (fun w => Val.assign rfl) <| V.RI.done (by kernel_rfl) <| V.PI.seqW <| CI.ret <| PI.then_ret <| V.PI.ret1 rfl rfl ?_
        rintro w' ⟨rfl, hj, hkp⟩; exact ⟨rfl, [(row, o)], Ks, ⟨by simp [ext], by simp; exact ho⟩, hj, fun k hk => hk, fun k hk => kept_lt hkp hKlt k hk, hkp⟩
      · refine V.RIo.e rfl rfl rfl rfl (Eff.callM ([]) .nil rfl Tryz.call49 (fun w hw hs => cloneI_c row p _ c rfl (by omega) w (hw.slAt hsl (by simp [ids])))) fun o ho => V.RI.any [0] (by kernel_rfl) (by simp) fun i hi => ?_
        obtain rfl : i = 0 := by simpa using hi
        refine V.RIo.v rfl rfl rfl rfl (Val.loadO rfl Tryz.isAgg67 (V.lt_of_some (hcy)) (by simp [ids]) (V.cell_of_block (hcy) rfl)) <| V.RI.any [3] (by kernel_rfl) (by simp) fun i hi => ?_
        obtain rfl : i = 3 := by simpa using hi
        refine V.RIo.y (Hy := fun b w => b = true ∧ J (pre ++ [(row, o)]) Ks w ∧ Kept Ks W w) rfl rfl rfl rfl rfl (fun w hw => yl o ho w (hw.pick (by repeat (first | exact .nil | apply Pick.cons | exact .here | apply Ext.there)))) fun b => V.RI.any [4] (by kernel_rfl) (by simp) fun i hi => ?_
        obtain rfl : i = 4 := by simpa using hi
        refine V.RIo.u rfl rfl rfl rfl (fun w => Val.assign rfl) <| V.RI.done (by kernel_rfl) <| V.PI.seqW <| CI.ret <| PI.then_ret <| V.PI.ret1 rfl rfl ?_
        rintro w' ⟨rfl, hj, hkp⟩; exact ⟨rfl, [(row, o)], Ks, ⟨by simp [ext], by simp; exact ho⟩, hj, fun k hk => hk, fun k hk => kept_lt hkp hKlt k hk, hkp⟩
  | f + 1, row, p, c, pre, Ks, W, hlen, hJ, hKlt, hS, hSK, hsl, hpK, hN, hT => by
    have hcn := hS.own (cn, .cells [.int .i64 (n : Nat)].toArray 3 (0, 0)) (by simp [orS])
    have hcgS : ∀ w, Kept Ks W w → w.heap[cg]? = some (.cells [.func (.func 55) #[] [.pointer (some ⟨cn, 0, none⟩), .pointer (some ⟨cy, 0, none⟩), .pointer (some ⟨cg, 0, none⟩)].toArray].toArray 67 (0, 0)) := fun w hk => (hk.sat hS hSK).own (cg, _) (by simp [orS])
    refine V.calls [] Tryz.func55 rfl Tryz.ntmps55 (Nat.le_of_ble_eq_true rfl) (V.sat_nil _) <| Sq <| Rg <| Lv Av <| Nl <| Ps <| Sq <| Sq <| Rg <| Lv Mv <| Lv Ln <| Lv (Val.loadO rfl Tryz.isAgg3 (V.lt_of_some (hcn)) (by simp [ids]) (V.cell_of_block (hcn) rfl)) <| Lv Cm <| LW.re 10 (.bool false) rfl (by congr 1; simp; omega) <| Nl <| Ps <| Cf <| Sk <| Ps <| Sq <| Sq <| Rg <| Lv (Val.loadO rfl Tryz.isAgg3 (V.lt_of_some (hcn)) (by simp [ids]) (V.cell_of_block (hcn) rfl)) <| Lv Mv <| Nl <| Ps <| Bk <| V.CW.loopZ (γ := Nat × List RowO × List Nat) (fun x => [(0, .slice p row.length c), (1, .pointer (some ⟨cn, 0, none⟩)), (2, .pointer (some ⟨cy, 0, none⟩)), (3, .pointer (some ⟨cg, 0, none⟩)), (15, .int .i64 (n : Nat)), (16, .int .i64 (x.1 : Nat))]) (fun x w => J (pre ++ x.2.1) x.2.2 w ∧ Kept Ks W w ∧ ∀ k ∈ x.2.2, k < w.heap.size) (fun x => x.1 ≤ n ∧ (x.2.1.map Prod.fst = extTo n f row x.1 ∧ ∀ y ∈ x.2.1, rowOk y) ∧ ∀ k ∈ Ks, k ∈ x.2.2) (fun x => n - x.1) (0, [], Ks) ⟨Nat.zero_le _, ⟨rfl, by simp⟩, fun k hk => hk⟩ (by repeat (first | exact trivial | refine ⟨rfl, ?_⟩)) (fun w hw => ⟨by have h9 := hO.grow pre Ks W w [] hJ hw.below (by simp); simpa using h9, Kept.hp (fun k _ => rfl) hKlt hw, fun k hk => Nat.lt_of_lt_of_le (hKlt k hk) hw.size⟩) ?_
    rintro ⟨k, xs, Ks'⟩ ⟨hk1, ⟨hx1, hx2⟩, hx3⟩ w0 ⟨hJ0, hkp, hKl0⟩
    simp only at hk1 hx1 hx2 hx3 hJ0 hKl0 ⊢
    refine Sq <| Rg <| Lv Cm <| Nl <| Ps <| Sq ?_
    refine CW.cond rfl (fun h17 => ?_) (fun h17 => ?_)
    · replace h17 := bT h17
      have h17 : (k : Int) < n := h17
      refine Sk <| Ps <| Sq <| Bk <| Sq <| Rg <| Lv Mv <| Lv Av <| Nl <| Ps <| Sq <| V.CW.drawnZ (S := Kept Ks W) mixed (fun w hw => hkp.hp hKlt hw) <| V.RZ.v 0 rfl (by kernel_rfl) (by kernel_rfl) (by kernel_rfl) (fun _ _ _ h => h) rfl rfl (fun w hS => Val.move rfl) <| V.RZ.v 1 rfl (by kernel_rfl) (by kernel_rfl) (by kernel_rfl) (fun _ _ _ h => h) rfl rfl (fun w hS => Val.move rfl) ?_
      refine V.RZ.one 2 (by kernel_rfl) (V.ROZ.e rfl rfl rfl (Eff.callV rfl Tryz.call56 (fun w hw => contains_c row p c k (by omega) w ((hkp.hp hKlt hw).slAt hsl hpK))) (fun x w _ hw => hkp.hp hKlt hw) ?_)
      intro _ _
      refine V.RZ.v 3 rfl (by kernel_rfl) (by kernel_rfl) (by kernel_rfl) (fun _ _ _ h => h) rfl rfl (fun w hS => Val.not rfl) <| V.RZ.v 4 rfl (by kernel_rfl) (by kernel_rfl) (by kernel_rfl) (fun _ _ _ h => h) rfl rfl (fun w hS => Val.move rfl) ?_
      refine V.RZ.split (d := 23) rfl (fun h23 => ?_) (fun h23 => ?_)
      · replace h23 := bT h23
        have h23 : k ∉ row := by simpa using h23
        refine V.RZ.v 5 rfl (by kernel_rfl) (by kernel_rfl) (by kernel_rfl) (fun _ _ _ h => h) rfl rfl (fun w hS => Val.loadO rfl Tryz.isAgg67 (V.lt_of_some (hcgS w hS)) (by simp) (V.cell_of_block (hcgS w hS) rfl)) <| V.RZ.v 6 rfl (by kernel_rfl) (by kernel_rfl) (by kernel_rfl) (fun _ _ _ h => h) rfl rfl (fun w hS => Val.move rfl) <| V.RZ.v 8 rfl (by kernel_rfl) (by kernel_rfl) (by kernel_rfl) (fun _ _ _ h => h) rfl rfl (fun w hS => Val.move rfl) <| V.RZ.any [7, 9] (by kernel_rfl) (by simp) fun i hi => ?_
        simp only [List.mem_cons, List.not_mem_nil, or_false] at hi
        rcases hi with rfl | rfl
        · refine V.ROZ.e rfl rfl rfl (Eff.callM ([]) .nil rfl Tryz.call49 (fun w hw hs0 => cloneI_c row p _ c rfl (by omega) w ((hkp.hp hKlt hw).slAt hsl hpK))) (fun x w _ hw => hkp.hp hKlt hw) fun o ho => ?_
          refine V.RZ.one 9 (by kernel_rfl) (V.ROZ.e rfl rfl rfl (Eff.buildSlice (rfl) [_] Tryz.underlying29 Tryz.sizeOf3 (by exact Tryz.zeroValue3) rfl rfl rfl rfl (by rfl)) (fun x w _ hw => hkp.hp hKlt hw) ?_)
          intro b28 _
          skip
          refine V.RZ.one 10 (by kernel_rfl) (V.ROZ.e rfl rfl rfl (Eff.appendAny (inE k) (sz := 1) (bytes := 8) (z := .int .i64 0) (xs := row.flatMap inE) (m0 := row.length) (o := o) (m := 1) (pk := [ownG 3 (row.flatMap inE) o]) rfl rfl Tryz.underlying29 (by kernel_rfl) rfl (by omega) (by repeat (first | exact .nil | apply Pick.cons | exact .here | apply Ext.there)) (by simp) ho (by rfl) (fun hm0 => ⟨b28, 0, rfl, fun w hw => V.range_of_block (o := 0) (cs := inE k) (r := []) (hw.own _ (show InS (b28, .cells (inE k).toArray 3 (0, 0)) _ from (by repeat (first | exact .here | exact .inner .here | exact .inner (.inner .here) | refine .there ?_))).mem) rfl⟩) (by rfl) (by omega) (by omega)) (fun x w _ hw => hkp.hp hKlt hw) ?_)
          intro o9 ho9
          have ho9' : ownOk 1 (row ++ [k]).length ((row ++ [k]).flatMap inE) o9 := by simpa using ho9
          rcases o9 with _ | ⟨g9, rest9, cap9⟩
          · exact absurd ho9.2 (by omega)
          refine V.RZ.re 29 (.slice (some ⟨g9, 0, none⟩) (row ++ [k]).length cap9) rfl (by simp [V.ownV]) ?_
          refine V.RZ.one 11 (by kernel_rfl) (V.ROZ.c (Z := (fun w2 => ∃ ys Ks2, (ys.map Prod.fst = ext n f (row ++ [k]) ∧ ∀ x ∈ ys, rowOk x) ∧ J (pre ++ xs ++ ys) Ks2 w2 ∧ (∀ k ∈ Ks', k ∈ Ks2) ∧ (∀ k ∈ Ks2, k < w2.heap.size) ∧ Kept Ks W w2)) rfl rfl rfl (V.CallZ.callF (f := 55) (caps := [.pointer (some ⟨cn, 0, none⟩), .pointer (some ⟨cy, 0, none⟩), .pointer (some ⟨cg, 0, none⟩)]) rfl rfl Tryz.call55 (fun w hw => by
                  have hg9 : w.heap[g9]? = some (.cells ((row ++ [k]).flatMap inE ++ rest9).toArray 3 (0, 0)) := by
                    have h8 := hw.own (g9, .cells ((row.flatMap inE ++ inE k) ++ rest9).toArray 3 (0, 0)) (by simp [V.ownG, V.ownS])
                    simpa using h8
                  have hlo9 : w0.heap.size ≤ g9 := (hw.pick (ss := [ownG 3 (row.flatMap inE ++ inE k) (some (g9, rest9, cap9))]) (by repeat (first | exact .nil | apply Pick.cons | exact .here | apply Ext.there))).lo0 (by simp [V.ids, V.ownG, V.ownS])
                  have hk9 := hkp.hp hKlt hw
                  have hJ9 := hO.grow (pre ++ xs) Ks' w0 w [g9] hJ0 hw.below (fun k hk => by obtain rfl : k = g9 := (by simpa using hk); exact ⟨hlo9, V.lt_of_some hg9⟩)
                  have hnm : (extTo n f row (k + 1)).length ≤ (ext n (f + 1) row).length := extTo_le (by omega)
                  have hxl : xs.length = (extTo n f row k).length := by rw [← hx1]; simp
                  rw [extTo_succ, if_neg h23, List.length_append] at hnm
                  refine (goOn_c J l n cn cy cg N hn T hO f (row ++ [k]) (some ⟨g9, 0, none⟩) cap9 (pre ++ xs) (g9 :: Ks') w (by simp; omega) hJ9 ?_ (hk9.sat hS hSK) (fun k hk => List.mem_cons_of_mem _ (hx3 k (hSK k hk))) ?_ ?_ ?_ ?_).mono ?_
                  · intro k hk
                    rcases List.mem_cons.1 hk with rfl | hk
                    · exact V.lt_of_some hg9
                    · exact Nat.lt_of_lt_of_le (hKl0 k hk) hw.size
                  · refine .inr ⟨g9, 0, rfl, V.lt_of_some hg9, fun i x hx => ?_⟩
                    obtain ⟨r, hr⟩ := V.drop_flatMap inE_len (row ++ [k]) i x hx
                    exact V.range_of_block (r := r ++ rest9) hg9 (by rw [Nat.zero_add, List.drop_append_of_le_length (by rw [V.flatMap_len inE_len]; have := (List.getElem?_eq_some_iff.1 hx).1; omega), hr, List.append_assoc])
                  · intro b o hb
                    obtain ⟨rfl, _⟩ : g9 = b ∧ _ := by simpa using hb
                    exact List.mem_cons_self ..
                  · simp only [List.length_append]; omega
                  · exact fun y hy => hT y (by show y ∈ extTo n f row n; unfold extTo; exact List.mem_flatMap.2 ⟨k, List.mem_range.2 (by omega), by rw [if_neg h23]; exact hy⟩)
                  · rintro e w2 ⟨he, ys, Ks2, h1, h2, h3, h4, h5⟩
                    exact ⟨he, ys, Ks2, h1, h2, fun k hk => h3 k (List.mem_cons_of_mem _ hk), h4, fun k hk => (h5 k (List.mem_cons_of_mem _ (hx3 k hk))).trans (hk9 k hk)⟩)) ((fun w ⟨_, _, _, _, _, _, h⟩ => h)) ?_)
          refine V.RZ.v 12 rfl (by kernel_rfl) (by kernel_rfl) (by kernel_rfl) (fun _ _ _ h => h) rfl rfl (fun w hS => Val.not rfl) <| V.RZ.v 13 rfl (by kernel_rfl) (by kernel_rfl) (by kernel_rfl) (fun _ _ _ h => h) rfl rfl (fun w hS => Val.pick_t rfl rfl) <| V.RZ.done (by kernel_rfl) fun a0 w1 ha0 hz1 => ?_
          refine (?_ : V.PQ _ ⟨w1, []⟩ _ .normal _ []) a0 w1 ha0 (V.hp_none w1)
          obtain ⟨ys, Ks2, ⟨hy1, hy2⟩, hy3, hy4, hy5, hy6⟩ := hz1
          refine Ps <| Cf <| Sk <| Bn <| Ps <| Rg <| Lv Ar <| Lv Mv <| Nl ?_
          refine V.PQ.roundZ (k + 1, xs ++ ys, Ks2) ⟨by simp only; omega, ⟨by rw [List.map_append, hx1, hy1, extTo_succ, if_neg h23], fun y hy => by
            rcases List.mem_append.1 hy with h | h
            · exact hx2 y h
            · exact hy2 y h⟩, fun k hk => hy4 k (hx3 k hk)⟩ (by simp only; omega) (by repeat (first | exact trivial | refine ⟨rfl, ?_⟩)) (fun w hw => ⟨by have h9 := hO.grow _ _ w1 w [] hy3 hw.below (by simp); simpa [List.append_assoc] using h9, hy6.hp hKlt hw, fun k hk => Nat.lt_of_lt_of_le (hy5 k hk) hw.size⟩)
        · refine V.ROZ.e rfl rfl rfl (Eff.buildSlice (rfl) [_] Tryz.underlying29 Tryz.sizeOf3 (by exact Tryz.zeroValue3) rfl rfl rfl rfl (by rfl)) (fun x w _ hw => hkp.hp hKlt hw) fun b28 _ => ?_
          refine V.RZ.one 7 (by kernel_rfl) (V.ROZ.e rfl rfl rfl (Eff.callM ([]) .nil rfl Tryz.call49 (fun w hw hs0 => cloneI_c row p _ c rfl (by omega) w ((hkp.hp hKlt hw).slAt hsl hpK))) (fun x w _ hw => hkp.hp hKlt hw) ?_)
          intro o ho
          refine V.RZ.one 10 (by kernel_rfl) (V.ROZ.e rfl rfl rfl (Eff.appendAny (inE k) (sz := 1) (bytes := 8) (z := .int .i64 0) (xs := row.flatMap inE) (m0 := row.length) (o := o) (m := 1) (pk := [ownG 3 (row.flatMap inE) o]) rfl rfl Tryz.underlying29 (by kernel_rfl) rfl (by omega) (by repeat (first | exact .nil | apply Pick.cons | exact .here | apply Ext.there)) (by simp) ho (by rfl) (fun hm0 => ⟨b28, 0, rfl, fun w hw => V.range_of_block (o := 0) (cs := inE k) (r := []) (hw.own _ (show InS (b28, .cells (inE k).toArray 3 (0, 0)) _ from (by repeat (first | exact .here | exact .inner .here | exact .inner (.inner .here) | refine .there ?_))).mem) rfl⟩) (by rfl) (by omega) (by omega)) (fun x w _ hw => hkp.hp hKlt hw) ?_)
          intro o9 ho9
          have ho9' : ownOk 1 (row ++ [k]).length ((row ++ [k]).flatMap inE) o9 := by simpa using ho9
          rcases o9 with _ | ⟨g9, rest9, cap9⟩
          · exact absurd ho9.2 (by omega)
          refine V.RZ.re 29 (.slice (some ⟨g9, 0, none⟩) (row ++ [k]).length cap9) rfl (by simp [V.ownV]) ?_
          refine V.RZ.one 11 (by kernel_rfl) (V.ROZ.c (Z := (fun w2 => ∃ ys Ks2, (ys.map Prod.fst = ext n f (row ++ [k]) ∧ ∀ x ∈ ys, rowOk x) ∧ J (pre ++ xs ++ ys) Ks2 w2 ∧ (∀ k ∈ Ks', k ∈ Ks2) ∧ (∀ k ∈ Ks2, k < w2.heap.size) ∧ Kept Ks W w2)) rfl rfl rfl (V.CallZ.callF (f := 55) (caps := [.pointer (some ⟨cn, 0, none⟩), .pointer (some ⟨cy, 0, none⟩), .pointer (some ⟨cg, 0, none⟩)]) rfl rfl Tryz.call55 (fun w hw => by
                  have hg9 : w.heap[g9]? = some (.cells ((row ++ [k]).flatMap inE ++ rest9).toArray 3 (0, 0)) := by
                    have h8 := hw.own (g9, .cells ((row.flatMap inE ++ inE k) ++ rest9).toArray 3 (0, 0)) (by simp [V.ownG, V.ownS])
                    simpa using h8
                  have hlo9 : w0.heap.size ≤ g9 := (hw.pick (ss := [ownG 3 (row.flatMap inE ++ inE k) (some (g9, rest9, cap9))]) (by repeat (first | exact .nil | apply Pick.cons | exact .here | apply Ext.there))).lo0 (by simp [V.ids, V.ownG, V.ownS])
                  have hk9 := hkp.hp hKlt hw
                  have hJ9 := hO.grow (pre ++ xs) Ks' w0 w [g9] hJ0 hw.below (fun k hk => by obtain rfl : k = g9 := (by simpa using hk); exact ⟨hlo9, V.lt_of_some hg9⟩)
                  have hnm : (extTo n f row (k + 1)).length ≤ (ext n (f + 1) row).length := extTo_le (by omega)
                  have hxl : xs.length = (extTo n f row k).length := by rw [← hx1]; simp
                  rw [extTo_succ, if_neg h23, List.length_append] at hnm
                  refine (goOn_c J l n cn cy cg N hn T hO f (row ++ [k]) (some ⟨g9, 0, none⟩) cap9 (pre ++ xs) (g9 :: Ks') w (by simp; omega) hJ9 ?_ (hk9.sat hS hSK) (fun k hk => List.mem_cons_of_mem _ (hx3 k (hSK k hk))) ?_ ?_ ?_ ?_).mono ?_
                  · intro k hk
                    rcases List.mem_cons.1 hk with rfl | hk
                    · exact V.lt_of_some hg9
                    · exact Nat.lt_of_lt_of_le (hKl0 k hk) hw.size
                  · refine .inr ⟨g9, 0, rfl, V.lt_of_some hg9, fun i x hx => ?_⟩
                    obtain ⟨r, hr⟩ := V.drop_flatMap inE_len (row ++ [k]) i x hx
                    exact V.range_of_block (r := r ++ rest9) hg9 (by rw [Nat.zero_add, List.drop_append_of_le_length (by rw [V.flatMap_len inE_len]; have := (List.getElem?_eq_some_iff.1 hx).1; omega), hr, List.append_assoc])
                  · intro b o hb
                    obtain ⟨rfl, _⟩ : g9 = b ∧ _ := by simpa using hb
                    exact List.mem_cons_self ..
                  · simp only [List.length_append]; omega
                  · exact fun y hy => hT y (by show y ∈ extTo n f row n; unfold extTo; exact List.mem_flatMap.2 ⟨k, List.mem_range.2 (by omega), by rw [if_neg h23]; exact hy⟩)
                  · rintro e w2 ⟨he, ys, Ks2, h1, h2, h3, h4, h5⟩
                    exact ⟨he, ys, Ks2, h1, h2, fun k hk => h3 k (List.mem_cons_of_mem _ hk), h4, fun k hk => (h5 k (List.mem_cons_of_mem _ (hx3 k hk))).trans (hk9 k hk)⟩)) ((fun w ⟨_, _, _, _, _, _, h⟩ => h)) ?_)
          refine V.RZ.v 12 rfl (by kernel_rfl) (by kernel_rfl) (by kernel_rfl) (fun _ _ _ h => h) rfl rfl (fun w hS => Val.not rfl) <| V.RZ.v 13 rfl (by kernel_rfl) (by kernel_rfl) (by kernel_rfl) (fun _ _ _ h => h) rfl rfl (fun w hS => Val.pick_t rfl rfl) <| V.RZ.done (by kernel_rfl) fun a0 w1 ha0 hz1 => ?_
          refine (?_ : V.PQ _ ⟨w1, []⟩ _ .normal _ []) a0 w1 ha0 (V.hp_none w1)
          obtain ⟨ys, Ks2, ⟨hy1, hy2⟩, hy3, hy4, hy5, hy6⟩ := hz1
          refine Ps <| Cf <| Sk <| Bn <| Ps <| Rg <| Lv Ar <| Lv Mv <| Nl ?_
          refine V.PQ.roundZ (k + 1, xs ++ ys, Ks2) ⟨by simp only; omega, ⟨by rw [List.map_append, hx1, hy1, extTo_succ, if_neg h23], fun y hy => by
            rcases List.mem_append.1 hy with h | h
            · exact hx2 y h
            · exact hy2 y h⟩, fun k hk => hy4 k (hx3 k hk)⟩ (by simp only; omega) (by repeat (first | exact trivial | refine ⟨rfl, ?_⟩)) (fun w hw => ⟨by have h9 := hO.grow _ _ w1 w [] hy3 hw.below (by simp); simpa [List.append_assoc] using h9, hy6.hp hKlt hw, fun k hk => Nat.lt_of_lt_of_le (hy5 k hk) hw.size⟩)
      · replace h23 := bF h23
        have h23 : k ∈ row := by simpa using h23
        refine V.RZ.p 5 rfl (by kernel_rfl) (by kernel_rfl) (by kernel_rfl) (fun _ _ _ h => h) rfl rfl <| V.RZ.p 6 rfl (by kernel_rfl) (by kernel_rfl) (by kernel_rfl) (fun _ _ _ h => h) rfl rfl <| V.RZ.p 7 rfl (by kernel_rfl) (by kernel_rfl) (by kernel_rfl) (fun _ _ _ h => h) rfl rfl <| V.RZ.p 8 rfl (by kernel_rfl) (by kernel_rfl) (by kernel_rfl) (fun _ _ _ h => h) rfl rfl <| V.RZ.p 9 rfl (by kernel_rfl) (by kernel_rfl) (by kernel_rfl) (fun _ _ _ h => h) rfl rfl <| V.RZ.p 10 rfl (by kernel_rfl) (by kernel_rfl) (by kernel_rfl) (fun _ _ _ h => h) rfl rfl <| V.RZ.p 11 rfl (by kernel_rfl) (by kernel_rfl) (by kernel_rfl) (fun _ _ _ h => h) rfl rfl <| V.RZ.p 12 rfl (by kernel_rfl) (by kernel_rfl) (by kernel_rfl) (fun _ _ _ h => h) rfl rfl <| V.RZ.v 13 rfl (by kernel_rfl) (by kernel_rfl) (by kernel_rfl) (fun _ _ _ h => h) rfl rfl (fun w hS => Val.pick_f rfl rfl) <| V.RZ.done (by kernel_rfl) fun a0 w1 ha0 hz1 => ?_
        refine (?_ : V.PQ _ ⟨w1, []⟩ _ .normal _ []) a0 w1 ha0 (V.hp_none w1)
        skip
        refine Ps <| Cf <| Sk <| Bn <| Ps <| Rg <| Lv Ar <| Lv Mv <| Nl ?_
        refine V.PQ.roundZ (k + 1, xs, Ks') ⟨by simp only; omega, ⟨by rw [hx1, extTo_succ, if_pos h23]; simp, hx2⟩, hx3⟩ (by simp only; omega) (by repeat (first | exact trivial | refine ⟨rfl, ?_⟩)) (fun w hw => ⟨by have h9 := hO.grow _ _ w0 w [] hJ0 (hz1.below.trans (hw.below.mono hz1.size)) (by simp); simpa using h9, (hkp.hp hKlt hz1).hp hKlt hw, fun k hk => Nat.lt_of_lt_of_le (hKl0 k hk) (Nat.le_trans hz1.size hw.size)⟩)
    · replace h17 := bF h17
      have h17 : (n : Int) ≤ k := h17
      have hkn : k = n := by omega
      refine Xt <| Te <| Te <| Bh <| Ps <| Sq <| Rg <| Lv Av <| Nl <| Ps <| Rt <| Rt1 ?_
      intro w' hw; exact ⟨rfl, xs, Ks', ⟨by rw [hx1, hkn]; rfl, hx2⟩, by have h9 := hO.grow _ _ w0 w' [] hJ0 hw.below (by simp); simpa using h9, hx3, fun k hk => Nat.lt_of_lt_of_le (hKl0 k hk) hw.size, hkp.hp hKlt hw⟩
/-- The iterator. -/
def perms (n : Nat) : List (List Nat) := ext n n []
theorem orders_seq (n cn : Nat) (hn : n ≤ 3) (w : World) (hs : Sat [[(cn, .cells [.int .i64 (n : Nat)].toArray 3 (0, 0))]] w) :
    V.SeqM Tryz.prog 54 [.pointer (some ⟨cn, 0, none⟩)].toArray rowV rowM (fun x => x.1 ∈ perms n ∧ rowOk x) (fun xs => xs.map Prod.fst = perms n ∧ ∀ x ∈ xs, rowOk x) (perms n).length [cn] w := by
  intro L J W hb hgrow hY h0
  have hs0 : Sat [[(cn, .cells [.int .i64 (n : Nat)].toArray 3 (0, 0))]] W := hs.below hb
  have hcn := hs0.own (cn, .cells [.int .i64 (n : Nat)].toArray 3 (0, 0)) (by simp)
  have hcl := V.lt_of_some hcn
  have hO : ∀ cy cg, Orc J L n cn cy cg (perms n).length (perms n) := fun cy cg => ⟨hgrow, hY⟩
  have e0 : (#[Value.func (.yield L) #[] #[]] ++ [Value.pointer (some ⟨cn, 0, none⟩)].toArray : Array Value) = [Value.func (.yield L) #[] #[], Value.pointer (some ⟨cn, 0, none⟩)].toArray := by simp
  rw [e0]
  refine V.calls [] Tryz.func54 rfl Tryz.ntmps54 (Nat.le_of_ble_eq_true rfl) (V.sat_nil _) <| Sq <| Rg <| Le XS fun b2 _ => Nl <| Ps <| Sq <| Rg <| Le AS fun b3 _ => Nl <| Ps <| Sq <| Rg <| Lv Mf <| LeN StS fun _ _ => Nl <| Ps <| Rg <| Lv Ld ?_
  refine V.LW.callS (Z := (fun w2 => ∃ xs Ks, (xs.map Prod.fst = perms n ∧ ∀ x ∈ xs, rowOk x) ∧ J xs Ks w2)) rfl rfl (V.CallZ.callF (f := 55) (caps := [.pointer (some ⟨cn, 0, none⟩), .pointer (some ⟨b2, 0, none⟩), .pointer (some ⟨b3, 0, none⟩)]) rfl rfl Tryz.call55 (fun w hw => by
        have hw2 : Hp ⟨W, []⟩ [[(b2, .cells [.func (.yield L) #[] #[]].toArray 67 (0, 0))], [(b3, .cells [.func (.func 55) #[] [.pointer (some ⟨cn, 0, none⟩), .pointer (some ⟨b2, 0, none⟩), .pointer (some ⟨b3, 0, none⟩)].toArray].toArray 67 (0, 0))]] w := hw.pick (by repeat (first | exact .nil | apply Pick.cons | exact .here | apply Ext.there))
        have hlo2 : W.heap.size ≤ b2 := hw2.lo0 (by simp [V.ids])
        have hlo3 : W.heap.size ≤ b3 := hw2.lo0 (by simp [V.ids])
        have hb2 := hw2.own (b2, .cells [.func (.yield L) #[] #[]].toArray 67 (0, 0)) (by simp)
        have hb3 := hw2.own (b3, .cells [.func (.func 55) #[] [.pointer (some ⟨cn, 0, none⟩), .pointer (some ⟨b2, 0, none⟩), .pointer (some ⟨b3, 0, none⟩)].toArray].toArray 67 (0, 0)) (by simp)
        have hJ := hgrow [] [cn] W w [b2, b3] h0 hw2.below (fun k hk => by
          rcases List.mem_cons.1 hk with rfl | hk
          · exact ⟨hlo2, V.lt_of_some hb2⟩
          · obtain rfl : k = b3 := by simpa using hk
            exact ⟨hlo3, V.lt_of_some hb3⟩)
        have hcw := (hw2.below.block cn hcl).trans hcn
        have hne : b2 ≠ b3 := by
          have := hw2.nd
          simp only [List.flatten_cons, List.flatten_nil, List.append_nil, List.singleton_append, List.map_cons, List.map_nil, List.nodup_cons, List.mem_cons, List.not_mem_nil, or_false] at this
          exact this.1
        refine (goOn_c J L n cn b2 b3 (perms n).length hn (perms n) (hO b2 b3) n [] none 0 [] ([b2, b3] ++ [cn]) w (by simp) hJ ?_ ?_ ?_ (.inl rfl) (by simp) (by simp [perms]) (fun y hy => hy)).mono ?_
        · intro k hk
          simp only [List.cons_append, List.nil_append, List.mem_cons, List.not_mem_nil, or_false] at hk
          rcases hk with rfl | rfl | rfl
          · exact V.lt_of_some hb2
          · exact V.lt_of_some hb3
          · exact V.lt_of_some hcw
        · refine ⟨fun q hq => ?_, ?_⟩
          · simp only [orS, List.flatten_cons, List.flatten_nil, List.append_nil, List.singleton_append, List.mem_cons, List.not_mem_nil, or_false] at hq
            rcases hq with rfl | rfl | rfl
            · exact hcw
            · exact hb2
            · exact hb3
          · simp only [orS, List.flatten_cons, List.flatten_nil, List.append_nil, List.singleton_append, List.map_cons, List.map_nil, List.nodup_cons, List.mem_cons, List.not_mem_nil, or_false, not_or, List.nodup_nil, and_true, not_false_eq_true]
            exact ⟨⟨by omega, by omega⟩, hne⟩
        · intro k hk
          simp only [V.ids, orS, List.flatten_cons, List.flatten_nil, List.append_nil, List.singleton_append, List.map_cons, List.map_nil, List.mem_cons, List.not_mem_nil, or_false] at hk
          simp only [List.cons_append, List.nil_append, List.mem_cons, List.not_mem_nil, or_false]
          rcases hk with rfl | rfl | rfl <;> simp
        · rintro e w2 ⟨he, xs, Ks, h1, h2, _⟩
          exact ⟨he, xs, Ks, h1, h2⟩)) (fun w1 hz1 => ?_)
  refine Nl <| PQ.end0 rfl ?_
  obtain ⟨xs, Ks, hx, hj⟩ := hz1
  intro w' hw; exact ⟨⟨_, rfl⟩, xs, Ks, hx, by have h9 := hgrow _ _ w1 w' [] hj hw.below (by simp); simpa using h9⟩
end I
end Go.Proofs.YtlpbjmbgopfkhaaGreat

/- What calls come to in all orders. -/
namespace Go.Proofs.YtlpbjmbgopfkhaaGreat
open Go Go.RowKit V
set_option linter.unusedVariables false
set_option maxRecDepth 100000
namespace I
open V (str byC ownV ownG ownS ownOk)
theorem places36 : ∀ w, ((Array.mapM (fun (f : Field) => do pure (f.offset, ← sizeOf f.type)) (Tryz.prog.fieldsOf 36) : Sem (Array (Nat × Nat)))).run Tryz.prog w = .ok [(0, 1), (1, 1), (2, 2)].toArray w := by
  intro w; kernel_rfl
theorem orders_c (n : Nat) (w : World) : Calls Tryz.prog 24 [.int .i64 (n : Nat)].toArray w fun e w' => ∃ b : Nat, True ∧ e = .returned (.func (.func 54) #[] #[.pointer (some ⟨b, 0, none⟩)]) ∧ Hp ⟨w, []⟩ [[(b, .cells [.int .i64 (n : Nat)].toArray 3 (0, 0))]] w' := by
  refine V.calls [] Tryz.func24 rfl Tryz.ntmps24 (Nat.le_of_ble_eq_true rfl) (V.sat_nil _) <| Sq <| Rg <| Le XS fun b1 _ => Lv Av <| Nl <| Ps <| Sq <| Rg <| Lv Mf <| Lv Av <| Nl <| Ps <| Rt <| Rt1 ?_
  intro w' hw; exact ⟨b1, trivial, rfl, hw.pick (by repeat (first | exact .nil | apply Pick.cons | exact .here | apply Ext.there))⟩
theorem own_slp (l : List Pr) (y : V.OwnO) (hy : ownOk 2 l.length (l.flatMap prC) y) : ∃ (p : Option Addr) (c : Nat), ownV l.length y = .slice p l.length c ∧ l.length ≤ c ∧ ∀ {B : V.Base} {sg r : V.Sg} {w : World}, Hp B sg w → Pick [ownG 69 (l.flatMap prC) y] sg r → V.slAt w p 2 prC l := by
  rcases y with _ | ⟨gb, rest, cap⟩
  · have hl0 : l.length = 0 := hy.2
    exact ⟨none, 0, by rw [hl0]; rfl, by omega, fun _ _ => .inl (List.length_eq_zero_iff.1 hl0)⟩
  · exact ⟨some ⟨gb, 0, none⟩, cap, rfl, by have h2 : (l.flatMap prC).length + rest.length = cap * 2 := hy.2; rw [prCs_len] at h2; omega, fun hw hp => V.slAt_flat (hw.pick hp) prC_len rfl .here⟩
abbrev AP := AnsA × AnsO
def apC (p : AP) : List Value := p.1.cells p.2
theorem apC_len (p : AP) : (apC p).length = 6 := rfl
theorem apC_one (p : AP) : (apC p).all (·.oneCell') = true := ans_one _ _
def apM (p : AP) : V.Seg := ownG 69 (p.1.ps.flatMap prC) p.2.1 ++ ownG 4 (p.1.hs.flatMap boE) p.2.2
def ap0 : AP := (⟨0, false, [], [], []⟩, (none, none))
theorem ap0_rep (n : Nat) : V.repL (ans0 0) n = (List.replicate n ap0).flatMap apC := by
  induction n with
  | zero => rfl
  | succ n ih => rw [List.replicate_succ, List.flatMap_cons, V.repL, ih]; rfl
theorem ap0_mem (n : Nat) : (List.replicate n ap0).flatMap apM = [] := by
  induction n with
  | zero => rfl
  | succ n ih => rw [List.replicate_succ, List.flatMap_cons, ih]; rfl
/-- How calls went. -/
structure TurnA where
  row : List Nat
  ans : List AnsA
  sh : ShA
/-- .. and where that lies. -/
structure TO where
  row : List Nat
  ro : V.OwnO
  ab : Nat
  aps : List AP
  sh : ShA
  so : ShO
instance : Inhabited TO := ⟨⟨[], none, 0, [], ([], []), (none, none)⟩⟩
def toA (t : TO) : TurnA := ⟨t.row, t.aps.map Prod.fst, t.sh⟩
def toC (t : TO) : List Value := [ownV t.row.length t.ro, .slice (some ⟨t.ab, 0, none⟩) t.aps.length t.aps.length, ownV t.sh.1.length t.so.1, offV t.sh.2.length t.so.2]
theorem toC_len (t : TO) : (toC t).length = 4 := rfl
theorem toC_one (t : TO) : (toC t).all (·.oneCell') = true := by
  simp only [toC, List.all_cons, List.all_nil, V.ownV_one, offV_one, Bool.and_true, Bool.true_and]
  rfl
def toM (t : TO) : V.Seg := ownG 3 (t.row.flatMap inE) t.ro ++ ([(t.ab, .cells (t.aps.flatMap apC).toArray 48 (0, 0))] ++ (t.aps.flatMap apM ++ (ownG 69 (t.sh.1.flatMap prC) t.so.1 ++ offG 9 (t.sh.2.flatMap stE) t.so.2)))
def toOk (t : TO) : Prop := ownOk 1 t.row.length (t.row.flatMap inE) t.ro ∧ (∀ p ∈ t.aps, ansOk p.1 p.2) ∧ shOk t.sh t.so
abbrev Crs := List (Cal × List Cal)
def stepT (C : Crs) (s : ShA × List AnsA) (k : Nat) : ShA × List AnsA := match C[k]? with
  | some c => ((apA s.1 c.1 c.2).1, s.2.set k (apA s.1 c.1 c.2).2)
  | none => s
def runT (C : Crs) (row : List Nat) : ShA × List AnsA := row.foldl (stepT C) (([], []), List.replicate C.length ⟨0, false, [], [], []⟩)
def turnOf (C : Crs) (row : List Nat) : TurnA := ⟨row, (runT C row).2, (runT C row).1⟩
def rowsF (C : Crs) : List TurnA := if C.length = 0 ∨ 3 < C.length then [] else (perms C.length).map (turnOf C)
def CrsR (w : World) (p : Option Addr) (C : Crs) : Prop := V.slAt w p 5 calC (C.map Prod.fst) ∧ ∀ c ∈ C, CalR w c.1 c.2 ∧ c.2.length ≤ 1000
theorem run_take {C : Crs} {row : List Nat} {j k : Nat} {c : Cal × List Cal} (s : ShA × List AnsA) (hj : row[j]? = some k) (hc : C[k]? = some c) : (row.take (j + 1)).foldl (stepT C) s = ((apA ((row.take j).foldl (stepT C) s).1 c.1 c.2).1, ((row.take j).foldl (stepT C) s).2.set k (apA ((row.take j).foldl (stepT C) s).1 c.1 c.2).2) := by
  rw [List.take_add_one, hj, List.foldl_append]
  simp [stepT, hc]
theorem perm_row {n : Nat} (hn : n ≤ 3) : ∀ r ∈ perms n, r.length = n ∧ ∀ k ∈ r, k < n := by
  have h : n = 0 ∨ n = 1 ∨ n = 2 ∨ n = 3 := by omega
  rcases h with rfl | rfl | rfl | rfl <;> decide
theorem perm_len {n : Nat} (hn : n ≤ 3) : (perms n).length ≤ 6 := by
  have h : n = 0 ∨ n = 1 ∨ n = 2 ∨ n = 3 := by omega
  rcases h with rfl | rfl | rfl | rfl <;> decide
theorem ap_mem {B : V.Base} {w : World} {aps : List AP} {k : Nat} {p : AP} {r : V.Sg} (hk : k < aps.length) (h : Hp B (ownG 69 (p.1.ps.flatMap prC) p.2.1 :: ownG 4 (p.1.hs.flatMap boE) p.2.2 :: aps.flatMap apM :: r) w) : Hp B ((aps.set k p).flatMap apM :: r) w := by
  obtain ⟨L1, y, L2, rfl, h1⟩ : ∃ L1 y L2, aps = L1 ++ y :: L2 ∧ L1.length = k := ⟨aps.take k, aps[k], aps.drop (k + 1), by rw [← List.drop_eq_getElem_cons hk, List.take_append_drop], by simp; omega⟩
  subst h1
  have e1 : (L1 ++ y :: L2).set L1.length p = L1 ++ p :: L2 := by simp
  rw [e1]
  have h2 : Hp B (((L1 ++ p :: L2).flatMap apM :: r) ++ [apM y]) w := h.perm (by
    simp only [List.flatten_cons, List.flatten_append, List.flatten_nil, List.append_nil, List.flatMap_append, List.flatMap_cons]
    rw [← List.append_assoc (ownG _ _ _), show ownG 69 (p.1.ps.flatMap prC) p.2.1 ++ ownG 4 (p.1.hs.flatMap boE) p.2.2 = apM p from rfl]
    generalize L1.flatMap apM = a
    generalize L2.flatMap apM = b
    generalize apM p = x
    generalize apM y = z
    generalize r.flatten = q
    classical
    refine (List.perm_iff_count.2 fun i => ?_)
    simp only [List.count_append]
    omega)
  exact h2.left
theorem offG_cells {e : Nat} {xs : List Value} {o : OffO} : V.segCells (offG e xs o) := fun p hp => by
  rcases o with _ | ⟨g, a, r, c⟩
  · simp [offG] at hp
  · obtain rfl : p = _ := by simpa [offG] using hp
    rfl
theorem toM_cells (l : List TO) : V.segCells (l.flatMap toM) := fun p hp => by
  obtain ⟨t, _, ht⟩ := List.mem_flatMap.1 hp
  simp only [toM, List.mem_append, List.mem_singleton] at ht
  rcases ht with ht | rfl | ht | ht | ht
  · exact V.segCells_own p ht
  · rfl
  · obtain ⟨q, _, hq⟩ := List.mem_flatMap.1 ht
    simp only [apM, List.mem_append] at hq
    rcases hq with hq | hq
    · exact V.segCells_own p hq
    · exact V.segCells_own p hq
  · exact V.segCells_own p ht
  · exact offG_cells p ht
theorem rows0_c (pc : Option Addr) (n cc : Nat) (hn : n = 0 ∨ 3 < n) (w : World) : Calls Tryz.prog 9 [.slice pc n cc].toArray w fun e w' => e = .returned (.slice none 0 0) ∧ Below w.heap.size w w' := by
  refine V.calls [] Tryz.func9 rfl Tryz.ntmps9 (Nat.le_of_ble_eq_true rfl) (V.sat_nil _) <| Sq <| Rg <| Le XS fun b1 _ => Lv Av <| Nl <| Ps <| Sq <| Sq <| Rg <| Lv Ld <| Lv Ln <| Lv Cm <| Lv Mv ?_
  refine LW.split (d := 11) rfl (fun h11 => ?_) (fun h11 => ?_)
  · replace h11 := bT h11
    refine Lp <| Lp <| Lp <| Lv Pt <| LW.re 15 (.bool true) rfl (by rcases hn with rfl | hn <;> simp <;> omega) <| Nl <| Ps <| Ct <| Sq <| Rg <| Lv Av <| Nl <| Ps <| Rt <| Tr <| Rt1 ?_
    intro w' hw; exact ⟨rfl, hw.below⟩
  · replace h11 := bF h11
    refine Lv Ld <| Lv Ln <| Lv Cm <| Lv Pf <| LW.re 15 (.bool true) rfl (by rcases hn with rfl | hn <;> simp <;> omega) <| Nl <| Ps <| Ct <| Sq <| Rg <| Lv Av <| Nl <| Ps <| Rt <| Tr <| Rt1 ?_
    intro w' hw; exact ⟨rfl, hw.below⟩
theorem rows1_c (C : Crs) (pc : Option Addr) (n cc : Nat) (hC : C.length = n) (h1 : 0 < n) (h3 : n ≤ 3) (w : World) (hR : CrsR w pc C) : Calls Tryz.prog 9 [.slice pc n cc].toArray w fun e w' => ∃ g : List TO × V.OwnO, (g.1.map toA = (perms n).map (turnOf C) ∧ (∀ t ∈ g.1, toOk t) ∧ ownOk 4 g.1.length (g.1.flatMap toC) g.2) ∧ e = .returned (ownV g.1.length g.2) ∧ Hp ⟨w, []⟩ [ownG 36 (g.1.flatMap toC) g.2, g.1.flatMap toM] w' := by
  obtain ⟨pb0, po0, _, rfl, hpb0, _, _⟩ := V.slAt_at hR.1 (by simp [hC]) h1
  refine V.callsM [] Tryz.func9 rfl Tryz.ntmps9 (Nat.le_of_ble_eq_true rfl) (V.sat_nil _) <| Sq <| Rg <| Le XS fun b1 _ => Lv Av <| Nl <| Ps <| Sq <| Sq <| Rg <| Lv Ld <| Lv Ln <| Lv Cm <| Lv Mv ?_
  refine LW.split (d := 11) rfl (fun h11 => ?_) (fun h11 => ?_)
  · have h9 := bT h11; simp at h9; omega
  · replace h11 := bF h11
    refine Lv Ld <| Lv Ln <| Lv Cm <| Lv Pf <| LW.re 15 (.bool false) rfl (by simp <;> omega) <| Nl <| Ps <| Cf <| Sk <| Ps <| Sq <| Rg <| Le AS fun b3 _ => Nl <| Ps <| Sq <| Sq <| Rg <| Lv Ld <| Lv Ln <| Le (CM [] fun w hw hs => orders_c n w) fun cn _ => Nl <| Ps <| Bk <| V.CW.addOwn 36 ?_
    refine V.CW.pick (ss := [[(cn, .cells [.int .i64 (n : Nat)].toArray 3 (0, 0))], [(b1, .cells [.slice (some ⟨pb0, po0, none⟩) n cc].toArray 22 (0, 0))], [(b3, .cells [ownV ([] : List TO).length none].toArray 25 (0, 0))], ownG 36 (([] : List TO).flatMap toC) none]) ?_ (by repeat (first | exact .nil | apply Pick.cons | exact .here | apply Ext.there))
    refine V.CW.perm (sg' := [[(cn, .cells [.int .i64 (n : Nat)].toArray 3 (0, 0))], [(b1, .cells [.slice (some ⟨pb0, po0, none⟩) n cc].toArray 22 (0, 0))], [(b3, .cells [ownV ([] : List TO).length none].toArray 25 (0, 0))], ownG 36 (([] : List TO).flatMap toC) none, ([] : List TO).flatMap toM]) ?_ (by simp)
    refine V.CW.toI ?_
    refine V.CI.rangeFuncM (α := RowO) (γ := List TO × V.OwnO) rowV rowM (fun x => x.1 ∈ perms n ∧ rowOk x) (fun xs => xs.map Prod.fst = perms n ∧ ∀ x ∈ xs, rowOk x) (perms n).length [cn] (fun xs g => g.1.map toA = (xs.map Prod.fst).map (turnOf C) ∧ (∀ t ∈ g.1, toOk t) ∧ ownOk 4 g.1.length (g.1.flatMap toC) g.2) (fun g => [[(b1, .cells [.slice (some ⟨pb0, po0, none⟩) n cc].toArray 22 (0, 0))], [(b3, .cells [ownV g.1.length g.2].toArray 25 (0, 0))], ownG 36 (g.1.flatMap toC) g.2, (g.1.flatMap toM)]) (fun x => [(1, .pointer (some ⟨b1, 0, none⟩)), (3, .pointer (some ⟨b3, 0, none⟩)), (4, ownV x.1.length x.2)]) ([], none) [] rfl Tryz.call54 (fun _ => rfl) rfl (fun w hw => orders_seq n cn h3 w (hw.sat.pick (by repeat (first | exact .nil | apply Pick.cons | exact .here | apply Ext.there)))) (fun w hw => hw.apart1 (o := .cells [.int .i64 (n : Nat)].toArray 3 (0, 0)) (by repeat (first | exact .nil | apply Pick.cons | exact .here | apply Ext.there))) (by repeat (first | exact .nil | apply Pick.cons | exact .here | apply Ext.there)) (fun _ _ _ => (by repeat (first | exact V.cellsOnly_nil | refine V.cellsOnly_cons (by first | exact V.segCells_one | exact V.segCells_own | exact toM_cells _) ?_))) (fun _ => (by repeat (first | exact V.cellsOnly_nil | refine V.cellsOnly_cons (by first | exact V.segCells_one | exact V.segCells_own | exact toM_cells _) ?_))) ⟨rfl, by simp, ⟨rfl, rfl⟩⟩ ?_ ?_ ?_
    · rintro lp pre ⟨row, ro⟩ g W hP hφ hW
      refine CI.region <| LI.v rfl rfl (Val.assign rfl) <| LI.nil ?_
      refine V.PI.assignedG (by repeat (first | exact trivial | refine ⟨rfl, ?_⟩)) (V.pick_self _)
    · rintro lp pre ⟨row, ro⟩ g W ⟨hrow, hro⟩ hφ hW hlen
      obtain ⟨hrl, hrk⟩ := perm_row h3 row hrow
      rcases ro with _ | ⟨gr, rr, rc⟩
      · exact absurd hro.2 (by simp only; omega)
      have hglob : ∀ {sg : V.Sg} {w' : World}, Hp ⟨W, V.ids (rowM (row, some (gr, rr, rc)) ++ (fun g => [[(b1, .cells [.slice (some ⟨pb0, po0, none⟩) n cc].toArray 22 (0, 0))], [(b3, .cells [ownV g.1.length g.2].toArray 25 (0, 0))], ownG 36 (g.1.flatMap toC) g.2, (g.1.flatMap toM)]) g)⟩ sg w' → Hp ⟨w, []⟩ sg w' := fun {sg w'} h => by
        have h9 := hW.call (V.pick_self _) h
        rwa [List.append_nil] at h9
      obtain ⟨hφ1, hφ2, hφ3⟩ := hφ
      have hgl : g.1.length ≤ 6 := by
        have h8 := congrArg List.length hφ1
        simp only [List.length_map] at h8
        have h9 := perm_len h3
        omega
      refine CI.block <| CI.seq <| CI.region <| LI.v rfl rfl (Val.move rfl) <| LI.v rfl rfl (Val.load rfl Tryz.isAgg22 (by repeat (first | exact .here | exact .inner .here | exact .inner (.inner .here) | refine .there ?_)) (by rfl)) <| LI.v rfl rfl (Val.lenSl rfl Tryz.underlying22) <| LI.e rfl rfl (Eff.makeSlice (by_ := 88) (zl := ans0 0) rfl rfl Tryz.underlying30 (by kernel_rfl) Tryz.sizeOf48 (by exact Tryz.zeroValue48) rfl rfl (by omega) (by omega) (by omega)) fun b23 _ => LI.v rfl rfl (Val.build [.slice (some ⟨gr, 0, none⟩) row.length rc, .slice (some ⟨b23, 0, none⟩) n n, .slice none 0 0, .slice none 0 0] Tryz.zeroValue36 Tryz.underlying36 places36 rfl (by rfl)) <| LI.e rfl rfl (Eff.allocA (by exact Tryz.zeroValue36)) fun b5 _ => ?_
      first | (refine LI.eN rfl (Eff.storeW rfl rfl (by repeat (first | exact .here | exact .inner .here | exact .inner (.inner .here) | apply Upd.there)) (by rfl) Tryz.sizeOf36 (by rfl)) ?_) | (refine LI.eN rfl (Eff.storeA (l' := _) rfl rfl (by repeat (first | exact .here | exact .inner .here | exact .inner (.inner .here) | apply Upd.there)) (by rfl) (by decide) Tryz.sizeOf36 (by rfl)) ?_)
      intro _ _
      refine LI.nil ?_
      first | refine PI.seq ?_ | refine PI.seqW ?_
      refine CI.seq <| CI.seq <| CI.region <| LI.v rfl rfl (Val.move rfl) <| LI.v rfl rfl (Val.lenSl rfl Tryz.underlying29) <| LI.v rfl rfl (Val.move rfl) <| LI.nil ?_
      first | refine PI.seq ?_ | refine PI.seqW ?_
      refine CI.block ?_
      refine V.CI.loop (γ := {x : Nat × ShA × ShO × List AP // x.1 ≤ row.length ∧ (x.2.1, x.2.2.2.map Prod.fst) = (row.take x.1).foldl (stepT C) (([], []), List.replicate C.length ⟨0, false, [], [], []⟩) ∧ x.2.2.2.length = n ∧ shOk x.2.1 x.2.2.1 ∧ (∀ p ∈ x.2.2.2, ansOk p.1 p.2) ∧ x.2.1.1.length ≤ 3 * x.1 ∧ x.2.1.2.length ≤ 3 * x.1}) (fun x => [(1, .pointer (some ⟨b1, 0, none⟩)), (3, .pointer (some ⟨b3, 0, none⟩)), (5, .pointer (some ⟨b5, 0, none⟩)), (25, .slice (some ⟨gr, 0, none⟩) row.length rc), (26, .int .i64 (row.length : Nat)), (27, .int .i64 (x.1.1 : Nat))]) (fun x => Hp ⟨W, V.ids (rowM (row, some (gr, rr, rc)) ++ (fun g => [[(b1, .cells [.slice (some ⟨pb0, po0, none⟩) n cc].toArray 22 (0, 0))], [(b3, .cells [ownV g.1.length g.2].toArray 25 (0, 0))], ownG 36 (g.1.flatMap toC) g.2, (g.1.flatMap toM)]) g)⟩ [(x.1.2.2.2.flatMap apM), [(b5, .cells [.slice (some ⟨gr, 0, none⟩) row.length rc, .slice (some ⟨b23, 0, none⟩) n n, ownV x.1.2.1.1.length x.1.2.2.1.1, offV x.1.2.1.2.length x.1.2.2.1.2].toArray 36 (0, 0))], [(b23, .cells (x.1.2.2.2.flatMap apC).toArray 48 (0, 0))], ownG 69 (x.1.2.1.1.flatMap prC) x.1.2.2.1.1, offG 9 (x.1.2.1.2.flatMap stE) x.1.2.2.1.2, [(gr, .cells (row.flatMap inE ++ rr).toArray 3 (0, 0))], [(b1, .cells [.slice (some ⟨pb0, po0, none⟩) n cc].toArray 22 (0, 0))], [(b3, .cells [ownV g.1.length g.2].toArray 25 (0, 0))], ownG 36 (g.1.flatMap toC) g.2, (g.1.flatMap toM)]) (fun x => row.length - x.1.1) ⟨(0, ([], []), (none, none), List.replicate n ap0), ⟨Nat.zero_le _, by simp [hC, ap0], by simp, ⟨⟨rfl, rfl⟩, rfl⟩, fun p hp => by rw [List.eq_of_mem_replicate hp]; exact ⟨⟨rfl, rfl⟩, ⟨rfl, rfl⟩⟩, by simp, by simp⟩⟩ (by repeat (first | exact trivial | refine ⟨rfl, ?_⟩)) (fun w hw => by
        rw [ap0_rep] at hw
        show Hp _ [(List.replicate n ap0).flatMap apM, _, _, _, _, _, _, _, _, _] w
        rw [ap0_mem]
        exact (hw.pick (ss := [[(b5, .cells [.slice (some ⟨gr, 0, none⟩) row.length rc, .slice (some ⟨b23, 0, none⟩) n n, ownV (([], []) : ShA).1.length ((none, none) : ShO).1, offV (([], []) : ShA).2.length ((none, none) : ShO).2].toArray 36 (0, 0))], [(b23, .cells ((List.replicate n ap0).flatMap apC).toArray 48 (0, 0))], [(gr, .cells (row.flatMap inE ++ rr).toArray 3 (0, 0))], [(b1, .cells [.slice (some ⟨pb0, po0, none⟩) n cc].toArray 22 (0, 0))], [(b3, .cells [ownV g.1.length g.2].toArray 25 (0, 0))], ownG 36 (g.1.flatMap toC) g.2, (g.1.flatMap toM)]) (by repeat (first | exact .nil | apply Pick.cons | exact .here | apply Ext.there))).perm (by simp [V.ownG, V.ownS, offG])) ?_
      rintro ⟨⟨j, A, so, aps⟩, hj1, hj2, hj3, hj4, hj5, hj6, hj7⟩
      simp only at hj1 hj2 hj3 hj4 hj5 hj6 hj7 ⊢
      refine CI.seq <| CI.region <| LI.v rfl rfl (Val.cmp rfl rfl rfl) <| LI.nil ?_
      first | refine PI.seq ?_ | refine PI.seqW ?_
      refine CI.seq ?_
      refine CI.cond rfl (fun h28 => ?_) (fun h28 => ?_)
      · replace h28 := bT h28
        have hj9 : j < row.length := by omega
        obtain ⟨k, hrj⟩ : ∃ k, row[j]? = some k := ⟨row[j]'hj9, by simp⟩
        have hkn := hrk k (List.mem_of_getElem? hrj)
        obtain ⟨c, hck⟩ : ∃ c, C[k]? = some c := ⟨C[k]'(by omega), by simp⟩
        have hslW := hW.slAt hR.1 (by simp [V.ids])
        obtain ⟨bb2, o2, cx2, hpc2, hb1, hx1, hr1⟩ := V.slAt_at hslW (by simp [hC]) hkn
        obtain ⟨rfl, rfl⟩ : pb0 = bb2 ∧ po0 = o2 := by simpa using hpc2
        have hbn : pb0 ∉ V.ids (rowM (row, some (gr, rr, rc)) ++ (fun g => [[(b1, .cells [.slice (some ⟨pb0, po0, none⟩) n cc].toArray 22 (0, 0))], [(b3, .cells [ownV g.1.length g.2].toArray 25 (0, 0))], ownG 36 (g.1.flatMap toC) g.2, (g.1.flatMap toM)]) g) := fun h => by have := hW.lo0 h; omega
        have hcx : cx2 = c.1 := by rw [List.getElem?_map, hck] at hx1; simpa using hx1.symm
        subst hcx
        obtain ⟨p1, c1, hv1, hcp1, hs1⟩ := own_slp A.1 so.1 hj4.1
        obtain ⟨p2, c2, hv2, hcp2, hs2⟩ := off_sl A.2 so.2 hj4.2
        obtain ⟨hRc, hLc⟩ := hR.2 c (List.mem_of_getElem? hck)
        obtain ⟨r2, hr2⟩ := V.drop_flatMap inE_len row j k hrj
        have hlr : (row.flatMap inE ++ rr)[0 + j * 1]? = some (.int .i64 (k : Nat)) := by
          rw [← List.head?_drop, Nat.zero_add, List.drop_append_of_le_length (by rw [V.flatMap_len inE_len]; omega), hr2]
          rfl
        refine CI.skip ?_
        first | refine PI.seq ?_ | refine PI.seqW ?_
        refine CI.seq <| CI.block <| CI.seq <| CI.region <| LI.v rfl rfl (Val.indexAddrN rfl rfl Tryz.underlying29 Tryz.sizeOf3 (by omega)) <| LI.v rfl rfl (Val.load (v := .int .i64 (k : Nat)) rfl Tryz.isAgg3 (by repeat (first | exact .here | exact .inner .here | exact .inner (.inner .here) | refine .there ?_)) hlr) <| LI.v rfl rfl (Val.assign rfl) <| LI.nil ?_
        first | refine PI.seq ?_ | refine PI.seqW ?_
        refine CI.drawn ([[(b1, .cells [.slice (some ⟨pb0, po0, none⟩) n cc].toArray 22 (0, 0))]]) mixed (by rfl) (by repeat (first | exact .nil | apply Pick.cons | exact .here | apply Ext.there)) <| Rv 0 rfl (Fa 1 30) <| Rv 2 rfl Mv <| Rv 3 rfl (Fa 2 34) <| Rv 5 rfl Ld <| Rv 6 rfl Mv <| Rv 7 rfl (Val.indexAddrN rfl rfl Tryz.underlying22 Tryz.sizeOf52 (by omega)) <| Rv 8 rfl (Val.loadOA rfl Tryz.isAgg52 hb1 hbn (hr1 k _ hx1) Tryz.sizeOf52) <| RW.any [1, 4] (by kernel_rfl) (by simp) fun i hi => ?_
        simp only [List.mem_cons, List.not_mem_nil, or_false] at hi
        rcases hi with rfl | rfl
        · refine Ro rfl (Eff.ofVal (Val.load rfl Tryz.isAgg30 (by repeat (first | exact .here | exact .inner .here | exact .inner (.inner .here) | refine .there ?_)) (by rfl))) fun _ _ => Re 4 rfl (Eff.ofVal (Val.loadA [ownV A.1.length so.1, offV A.2.length so.2] rfl Tryz.isAgg34 (by repeat (first | exact .here | exact .inner .here | exact .inner (.inner .here) | refine .there ?_)) (by rfl) Tryz.sizeOf34)) fun _ _ => RW.re 36 (.agg [.slice p1 A.1.length c1, .slice p2 A.2.length c2].toArray) rfl (by rw [hv1, hv2]) <| Re 9 rfl (CM [] fun w hw hs => apply_c ⟨⟨p1, A.1.length, c1⟩, ⟨p2, A.2.length, c2⟩⟩ A c.1 c.2 w ⟨⟨rfl, hs1 hw (by repeat (first | exact .nil | apply Pick.cons | exact .here | apply Ext.there))⟩, ⟨rfl, hs2 hw (by repeat (first | exact .nil | apply Pick.cons | exact .here | apply Ext.there))⟩, hcp1, hcp2⟩ (hRc.hp (hglob hw)) (by omega) hLc) fun r hr => Rv 10 rfl Mv <| Rv 11 rfl Ex <| Rv 12 rfl Ex <| Rv 13 rfl (Fa 2 34) <| ReN 14 rfl (Eff.storeA (cs := shC (apA A c.1 c.2).1 r.1) (l' := [.slice (some ⟨gr, 0, none⟩) row.length rc, .slice (some ⟨b23, 0, none⟩) n n, ownV (apA A c.1 c.2).1.1.length r.1.1, offV (apA A c.1 c.2).1.2.length r.1.2]) rfl rfl (by repeat (first | exact .here | exact .inner .here | exact .inner (.inner .here) | apply Upd.there)) (by rfl) (by show 0 + 2 + 2 ≤ 4; decide) Tryz.sizeOf34 (by simp [shC, V.ownV_one, offV_one])) fun _ _ => Rv 15 rfl (Val.indexAddrN rfl rfl Tryz.underlying30 Tryz.sizeOf48 (by omega)) <| ReN 16 rfl (Eff.storeA (cs := apC ((apA A c.1 c.2).2, r.2)) (l := aps.flatMap apC) (l' := (aps.set k ((apA A c.1 c.2).2, r.2)).flatMap apC) rfl rfl (by repeat (first | exact .here | exact .inner .here | exact .inner (.inner .here) | apply Upd.there)) (by rw [Nat.zero_add]; have h9 := V.splice_flat apC_len aps k ((apA A c.1 c.2).2, r.2) [] (by omega); simpa using h9) (by rw [V.flatMap_len apC_len, apC_len]; omega) Tryz.sizeOf48 (apC_one _)) ?_
          intro _ _
          refine Rd <| PQ.inRound <| PI.in_normal ?_
          first | refine PI.seq ?_ | refine PI.seqW ?_
          refine CI.region <| LI.v rfl rfl (Val.ar rfl rfl rfl (IntWalk.i64_in _ (by omega))) <| LI.v rfl rfl (Val.move rfl) <| LI.nil ?_
          refine V.PI.round ⟨(j + 1, (apA A c.1 c.2).1, r.1, aps.set k ((apA A c.1 c.2).2, r.2)), ⟨by simp only; omega, by simp only; rw [run_take _ hrj hck, ← hj2]; simp only [List.map_set], by simp [hj3], hr.1, fun p hp => by
            rcases List.mem_or_eq_of_mem_set hp with h | h
            · exact hj5 p h
            · subst h; exact hr.2, by have h9 := (ap_len A c.1 c.2).1; simp only; omega, by have h9 := (ap_len A c.1 c.2).2; simp only; omega⟩⟩ (by simp only; omega) (by repeat (first | exact trivial | refine ⟨rfl, ?_⟩)) (fun w hw => ap_mem (by omega) (hw.pick (by repeat (first | exact .nil | apply Pick.cons | exact .here | apply Ext.there))))
        · refine Ro rfl (Eff.ofVal (Val.loadA [ownV A.1.length so.1, offV A.2.length so.2] rfl Tryz.isAgg34 (by repeat (first | exact .here | exact .inner .here | exact .inner (.inner .here) | refine .there ?_)) (by rfl) Tryz.sizeOf34)) fun _ _ => RW.re 36 (.agg [.slice p1 A.1.length c1, .slice p2 A.2.length c2].toArray) rfl (by rw [hv1, hv2]) <| RW.any [1, 9] (by kernel_rfl) (by simp) fun i hi => ?_
          simp only [List.mem_cons, List.not_mem_nil, or_false] at hi
          rcases hi with rfl | rfl
          · refine Ro rfl (Eff.ofVal (Val.load rfl Tryz.isAgg30 (by repeat (first | exact .here | exact .inner .here | exact .inner (.inner .here) | refine .there ?_)) (by rfl))) fun _ _ => Re 9 rfl (CM [] fun w hw hs => apply_c ⟨⟨p1, A.1.length, c1⟩, ⟨p2, A.2.length, c2⟩⟩ A c.1 c.2 w ⟨⟨rfl, hs1 hw (by repeat (first | exact .nil | apply Pick.cons | exact .here | apply Ext.there))⟩, ⟨rfl, hs2 hw (by repeat (first | exact .nil | apply Pick.cons | exact .here | apply Ext.there))⟩, hcp1, hcp2⟩ (hRc.hp (hglob hw)) (by omega) hLc) fun r hr => Rv 10 rfl Mv <| Rv 11 rfl Ex <| Rv 12 rfl Ex <| Rv 13 rfl (Fa 2 34) <| ReN 14 rfl (Eff.storeA (cs := shC (apA A c.1 c.2).1 r.1) (l' := [.slice (some ⟨gr, 0, none⟩) row.length rc, .slice (some ⟨b23, 0, none⟩) n n, ownV (apA A c.1 c.2).1.1.length r.1.1, offV (apA A c.1 c.2).1.2.length r.1.2]) rfl rfl (by repeat (first | exact .here | exact .inner .here | exact .inner (.inner .here) | apply Upd.there)) (by rfl) (by show 0 + 2 + 2 ≤ 4; decide) Tryz.sizeOf34 (by simp [shC, V.ownV_one, offV_one])) fun _ _ => Rv 15 rfl (Val.indexAddrN rfl rfl Tryz.underlying30 Tryz.sizeOf48 (by omega)) <| ReN 16 rfl (Eff.storeA (cs := apC ((apA A c.1 c.2).2, r.2)) (l := aps.flatMap apC) (l' := (aps.set k ((apA A c.1 c.2).2, r.2)).flatMap apC) rfl rfl (by repeat (first | exact .here | exact .inner .here | exact .inner (.inner .here) | apply Upd.there)) (by rw [Nat.zero_add]; have h9 := V.splice_flat apC_len aps k ((apA A c.1 c.2).2, r.2) [] (by omega); simpa using h9) (by rw [V.flatMap_len apC_len, apC_len]; omega) Tryz.sizeOf48 (apC_one _)) fun _ _ => Rd <| PQ.inRound <| PI.in_normal ?_
            first | refine PI.seq ?_ | refine PI.seqW ?_
            refine CI.region <| LI.v rfl rfl (Val.ar rfl rfl rfl (IntWalk.i64_in _ (by omega))) <| LI.v rfl rfl (Val.move rfl) <| LI.nil ?_
            refine V.PI.round ⟨(j + 1, (apA A c.1 c.2).1, r.1, aps.set k ((apA A c.1 c.2).2, r.2)), ⟨by simp only; omega, by simp only; rw [run_take _ hrj hck, ← hj2]; simp only [List.map_set], by simp [hj3], hr.1, fun p hp => by
              rcases List.mem_or_eq_of_mem_set hp with h | h
              · exact hj5 p h
              · subst h; exact hr.2, by have h9 := (ap_len A c.1 c.2).1; simp only; omega, by have h9 := (ap_len A c.1 c.2).2; simp only; omega⟩⟩ (by simp only; omega) (by repeat (first | exact trivial | refine ⟨rfl, ?_⟩)) (fun w hw => ap_mem (by omega) (hw.pick (by repeat (first | exact .nil | apply Pick.cons | exact .here | apply Ext.there))))
          · refine Ro rfl (CM [] fun w hw hs => apply_c ⟨⟨p1, A.1.length, c1⟩, ⟨p2, A.2.length, c2⟩⟩ A c.1 c.2 w ⟨⟨rfl, hs1 hw (by repeat (first | exact .nil | apply Pick.cons | exact .here | apply Ext.there))⟩, ⟨rfl, hs2 hw (by repeat (first | exact .nil | apply Pick.cons | exact .here | apply Ext.there))⟩, hcp1, hcp2⟩ (hRc.hp (hglob hw)) (by omega) hLc) fun r hr => Rv 10 rfl Mv <| Rv 11 rfl Ex <| Rv 12 rfl Ex <| Re 1 rfl (Eff.ofVal (Val.load rfl Tryz.isAgg30 (by repeat (first | exact .here | exact .inner .here | exact .inner (.inner .here) | refine .there ?_)) (by rfl))) fun _ _ => Rv 13 rfl (Fa 2 34) <| ReN 14 rfl (Eff.storeA (cs := shC (apA A c.1 c.2).1 r.1) (l' := [.slice (some ⟨gr, 0, none⟩) row.length rc, .slice (some ⟨b23, 0, none⟩) n n, ownV (apA A c.1 c.2).1.1.length r.1.1, offV (apA A c.1 c.2).1.2.length r.1.2]) rfl rfl (by repeat (first | exact .here | exact .inner .here | exact .inner (.inner .here) | apply Upd.there)) (by rfl) (by show 0 + 2 + 2 ≤ 4; decide) Tryz.sizeOf34 (by simp [shC, V.ownV_one, offV_one])) fun _ _ => Rv 15 rfl (Val.indexAddrN rfl rfl Tryz.underlying30 Tryz.sizeOf48 (by omega)) <| ReN 16 rfl (Eff.storeA (cs := apC ((apA A c.1 c.2).2, r.2)) (l := aps.flatMap apC) (l' := (aps.set k ((apA A c.1 c.2).2, r.2)).flatMap apC) rfl rfl (by repeat (first | exact .here | exact .inner .here | exact .inner (.inner .here) | apply Upd.there)) (by rw [Nat.zero_add]; have h9 := V.splice_flat apC_len aps k ((apA A c.1 c.2).2, r.2) [] (by omega); simpa using h9) (by rw [V.flatMap_len apC_len, apC_len]; omega) Tryz.sizeOf48 (apC_one _)) fun _ _ => Rd <| PQ.inRound <| PI.in_normal ?_
            first | refine PI.seq ?_ | refine PI.seqW ?_
            refine CI.region <| LI.v rfl rfl (Val.ar rfl rfl rfl (IntWalk.i64_in _ (by omega))) <| LI.v rfl rfl (Val.move rfl) <| LI.nil ?_
            refine V.PI.round ⟨(j + 1, (apA A c.1 c.2).1, r.1, aps.set k ((apA A c.1 c.2).2, r.2)), ⟨by simp only; omega, by simp only; rw [run_take _ hrj hck, ← hj2]; simp only [List.map_set], by simp [hj3], hr.1, fun p hp => by
              rcases List.mem_or_eq_of_mem_set hp with h | h
              · exact hj5 p h
              · subst h; exact hr.2, by have h9 := (ap_len A c.1 c.2).1; simp only; omega, by have h9 := (ap_len A c.1 c.2).2; simp only; omega⟩⟩ (by simp only; omega) (by repeat (first | exact trivial | refine ⟨rfl, ?_⟩)) (fun w hw => ap_mem (by omega) (hw.pick (by repeat (first | exact .nil | apply Pick.cons | exact .here | apply Ext.there))))
      · replace h28 := bF h28
        have hj9 : row.length ≤ j := by omega
        rw [List.take_of_length_le hj9] at hj2
        refine CI.exit <| PI.then_exit <| PI.then_exit <| PI.in_here ?_
        first | refine PI.seq ?_ | refine PI.seqW ?_
        refine CI.region <| LI.v rfl rfl (Val.load (v := ownV g.1.length g.2) rfl Tryz.isAgg25 (by repeat (first | exact .here | exact .inner .here | exact .inner (.inner .here) | refine .there ?_)) (by rfl)) <| LI.v rfl rfl (Val.loadW (l := [.slice (some ⟨gr, 0, none⟩) row.length rc, .slice (some ⟨b23, 0, none⟩) n n, ownV A.1.length so.1, offV A.2.length so.2]) rfl Tryz.isAgg36 (by repeat (first | exact .here | exact .inner .here | exact .inner (.inner .here) | refine .there ?_)) (by exact Tryz.sizeOf36)) <| LI.re 48 (.agg (toC (TO.mk row (some (gr, rr, rc)) b23 aps A so)).toArray) rfl (by simp only [toC, hj3]; rfl) <| LI.e rfl rfl (Eff.buildSlice (rfl) [_, _, _, _] Tryz.underlying25 Tryz.sizeOf36 (by exact Tryz.zeroValue36) rfl rfl rfl rfl (by rfl)) fun b49 _ => LI.e rfl rfl (Eff.appendAny (toC (TO.mk row (some (gr, rr, rc)) b23 aps A so)) (sz := 4) (bytes := 96) (z := .agg #[.slice none 0 0, .slice none 0 0, .slice none 0 0, .slice none 0 0]) (xs := g.1.flatMap toC) (m0 := g.1.length) (o := g.2) (m := 1) (pk := [ownG 36 (g.1.flatMap toC) g.2]) rfl rfl Tryz.underlying25 (by kernel_rfl) rfl (by omega) (by repeat (first | exact .nil | apply Pick.cons | exact .here | apply Ext.there)) (by simp) hφ3 (by rfl) (fun hm0 => ⟨b49, 0, rfl, fun w hw => V.range_of_block (o := 0) (cs := toC (TO.mk row (some (gr, rr, rc)) b23 aps A so)) (r := []) (hw.own _ (show InS (b49, .cells (toC (TO.mk row (some (gr, rr, rc)) b23 aps A so)).toArray 36 (0, 0)) _ from (by repeat (first | exact .here | exact .inner .here | exact .inner (.inner .here) | refine .there ?_))).mem) (by simp)⟩) (toC_one _) (by omega) (by omega)) fun o9 ho90 => ?_
        have ho9 : ownOk 4 (g.1 ++ [(TO.mk row (some (gr, rr, rc)) b23 aps A so)]).length ((g.1 ++ [(TO.mk row (some (gr, rr, rc)) b23 aps A so)]).flatMap toC) o9 := by simpa using ho90
        rw [show g.1.flatMap toC ++ toC (TO.mk row (some (gr, rr, rc)) b23 aps A so) = (g.1 ++ [(TO.mk row (some (gr, rr, rc)) b23 aps A so)]).flatMap toC from by simp, show g.1.length + 1 = (g.1 ++ [(TO.mk row (some (gr, rr, rc)) b23 aps A so)]).length from by simp]
        refine LI.eN rfl (Eff.store rfl rfl (V.ownV_one _ _) (by repeat (first | exact .here | exact .inner .here | exact .inner (.inner .here) | apply Upd.there)) (by rfl) (by rfl) Tryz.sizeOf25) fun _ _ => LI.nil <| PI.in_normal ?_
        refine V.PI.mono (H' := Hp ⟨W, V.ids (rowM (row, some (gr, rr, rc)) ++ (fun g => [[(b1, .cells [.slice (some ⟨pb0, po0, none⟩) n cc].toArray 22 (0, 0))], [(b3, .cells [ownV g.1.length g.2].toArray 25 (0, 0))], ownG 36 (g.1.flatMap toC) g.2, (g.1.flatMap toM)]) g)⟩ [[(b1, .cells [.slice (some ⟨pb0, po0, none⟩) n cc].toArray 22 (0, 0))], [(b3, .cells [ownV (g.1 ++ [(TO.mk row (some (gr, rr, rc)) b23 aps A so)]).length o9].toArray 25 (0, 0))], ownG 36 ((g.1 ++ [(TO.mk row (some (gr, rr, rc)) b23 aps A so)]).flatMap toC) o9, ((g.1 ++ [(TO.mk row (some (gr, rr, rc)) b23 aps A so)]).flatMap toM)]) (fun w hw => ?_) (V.PI.rpm ((g.1 ++ [(TO.mk row (some (gr, rr, rc)) b23 aps A so)]), o9) ⟨by rw [List.map_append, hφ1, List.map_append, List.map_append]; congr 1; simp only [List.map_cons, List.map_nil, toA, turnOf, runT, List.cons.injEq, and_true]; rw [← hj2], fun t ht => by
          rcases List.mem_append.1 ht with h | h
          · exact hφ2 t h
          · obtain rfl : t = _ := by simpa using h
            exact ⟨hro, hj5, hj4⟩, ho9⟩ (by repeat (first | exact .nil | apply Pick.cons | exact .here | apply Ext.there)))
        exact (hw.pick (ss := [[(b1, .cells [.slice (some ⟨pb0, po0, none⟩) n cc].toArray 22 (0, 0))], [(b3, .cells [ownV (g.1 ++ [(TO.mk row (some (gr, rr, rc)) b23 aps A so)]).length o9].toArray 25 (0, 0))], ownG 36 ((g.1 ++ [(TO.mk row (some (gr, rr, rc)) b23 aps A so)]).flatMap toC) o9, (g.1.flatMap toM), [(gr, .cells (row.flatMap inE ++ rr).toArray 3 (0, 0))], [(b23, .cells (aps.flatMap apC).toArray 48 (0, 0))], (aps.flatMap apM), ownG 69 (A.1.flatMap prC) so.1, offG 9 (A.2.flatMap stE) so.2]) (by repeat (first | exact .nil | apply Pick.cons | exact .here | apply Ext.there))).perm (by
          simp only [List.flatMap_append, List.flatMap_cons, List.flatMap_nil, List.append_nil, toM, V.ownG, V.ownS, List.flatten_cons, List.flatten_nil]
          classical
          refine List.perm_iff_count.2 fun i => ?_
          simp only [List.count_append] <;> omega)
    · rintro D xs g ⟨hS, _⟩ ⟨hφ1, hφ2, hφ3⟩
      rw [hS] at hφ1
      refine PI.in_normal ?_
      first | refine PI.seq ?_ | refine PI.seqW ?_
      refine CI.seq <| CI.region <| LI.v rfl rfl (Val.load rfl Tryz.isAgg25 (by repeat (first | exact .here | exact .inner .here | exact .inner (.inner .here) | refine .there ?_)) (by rfl)) <| LI.v rfl rfl (Val.assign rfl) <| LI.nil ?_
      first | refine PI.seq ?_ | refine PI.seqW ?_
      refine CI.ret <| V.PI.retM1s (Ds := [D]) (sg' := [ownG 36 (g.1.flatMap toC) g.2, (g.1.flatMap toM)]) rfl rfl (by repeat (first | exact .nil | apply Pick.cons | exact .here | apply Ext.there)) ?_
      intro w' sm hw; exact ⟨g, ⟨hφ1, hφ2, hφ3⟩, rfl, hw.pick (by repeat (first | exact .nil | apply Pick.cons | exact .here | apply Ext.there))⟩
end I
end Go.Proofs.YtlpbjmbgopfkhaaGreat

/- The sign of life. -/
namespace Go.Proofs.YtlpbjmbgopfkhaaGreat
open Go Go.RowKit V
set_option linter.unusedVariables false
set_option maxRecDepth 100000
namespace I
open V (str byC ownV ownG ownS ownOk)
theorem places52 : ∀ w, ((Array.mapM (fun (f : Field) => do pure (f.offset, ← sizeOf f.type)) (Tryz.prog.fieldsOf 52) : Sem (Array (Nat × Nat)))).run Tryz.prog w = .ok [(0, 1), (1, 1), (2, 1), (3, 1), (4, 1)].toArray w := by
  intro w; kernel_rfl
theorem len_two {α : Type} {l : List α} (h : l.length = 2) : ∃ a b, l = [a, b] := by
  match l, h with
  | [a, b], _ => exact ⟨a, b, rfl⟩
def awC : Crs := [((Cal.mk 2 [97] [49] [] none 0 0), []), ((Cal.mk 1 [97] [] [] none 0 0), [])]
theorem aw_rows : ((perms 2).map (turnOf awC)).map (fun t => (t.row, t.ans.map (·.fd), t.sh.1.length)) = [([0, 1], [false, true], 1), ([1, 0], [false, false], 1)] := by decide
theorem aw_two {l : List TO} (h : l.map toA = (perms 2).map (turnOf awC)) : ∃ ro0 ab0 p0 p1 sh0 so0 ro1 ab1 q0 q1 sh1 so1, l = [TO.mk [0, 1] ro0 ab0 [p0, p1] sh0 so0, TO.mk [1, 0] ro1 ab1 [q0, q1] sh1 so1] ∧ p1.1.fd = true ∧ q1.1.fd = false ∧ sh0.1.length = 1 := by
  have h1 := aw_rows
  rw [← h] at h1
  have hl : l.length = 2 := by have := congrArg List.length h1; simpa using this
  obtain ⟨⟨r0, ro0, ab0, a0, sh0, so0⟩, ⟨r1, ro1, ab1, a1, sh1, so1⟩, rfl⟩ := len_two hl
  simp only [List.map_cons, List.map_nil, toA, List.cons.injEq, Prod.mk.injEq, and_true, List.map_map] at h1
  obtain ⟨⟨rfl, h2, h3⟩, rfl, h4, h5⟩ := h1
  have e0 : a0.length = 2 := by have := congrArg List.length h2; simpa using this
  have e1 : a1.length = 2 := by have := congrArg List.length h4; simpa using this
  obtain ⟨p0, p1, rfl⟩ := len_two e0
  obtain ⟨q0, q1, rfl⟩ := len_two e1
  simp only [List.map_cons, List.map_nil, List.cons.injEq, and_true, Function.comp] at h2 h4
  exact ⟨ro0, ab0, p0, p1, sh0, so0, ro1, ab1, q0, q1, sh1, so1, rfl, h2.2, h4.2, h3⟩
theorem awake_c (w : World) : Calls Tryz.prog 8 [].toArray w fun e w' => e = .returned (.bool true) ∧ Below w.heap.size w w' := by
  refine V.calls [] Tryz.func8 rfl Tryz.ntmps8 (Nat.le_of_ble_eq_true rfl) (V.sat_nil _) <| Sq <| Rg <| Lv Av <| Nl <| Ps <| Sq <| Rg <| Lv (Bd [.int .i64 10, .int .i64 1, .int .i64 0]) <| Lv (Val.build (evC 4) Tryz.zeroValue62 Tryz.underlying62 places62 rfl (by rfl)) <| Le (Eff.buildSlice (rfl) [_, _, _, _, _, _, _, _, _] Tryz.underlying63 Tryz.sizeOf62 (by exact Tryz.zeroValue62) rfl rfl rfl rfl (by rfl)) fun b7 _ => Le (CM ([[(b7, .cells (evC 4).toArray 62 (0, 0))]]) fun w hw hs => cuts_c b7 1 (Nat.le_refl 1) w hs) fun ol hol => ?_
  rcases ol with _ | ⟨gl, rl, cl⟩
  · exact absurd hol.2 (by decide)
  refine Lv Mv <| Lv Ex <| LW.re 9 (.slice (some ⟨gl, 0, none⟩) 2 cl) rfl (by rfl) <| Lv Ex <| Lv Av <| Lv Av <| Nl <| Ps <| Sq <| Rg <| Lv (Val.build (calC (Cal.mk 2 [97] [49] [] none 0 0)) Tryz.zeroValue52 Tryz.underlying52 places52 rfl (by rfl)) <| Lv (Val.build (calC (Cal.mk 1 [97] [] [] none 0 0)) Tryz.zeroValue52 Tryz.underlying52 places52 rfl (by rfl)) <| Le (Eff.buildSlice (rfl) [_, _, _, _, _, _, _, _, _, _] Tryz.underlying22 Tryz.sizeOf52 (by exact Tryz.zeroValue52) rfl rfl rfl rfl (by rfl)) fun b13 _ => ?_
  refine LW.e rfl rfl (Eff.callM ([]) .nil rfl Tryz.call9 (fun w hw hs => rows1_c awC _ 2 2 rfl (by decide) (by decide) w ⟨V.slAt_flat (r := []) hw calC_len (by rfl) (show InS (b13, .cells (([(Cal.mk 2 [97] [49] [] none 0 0), (Cal.mk 1 [97] [] [] none 0 0)] : List Cal).flatMap calC ++ []).toArray 52 (0, 0)) _ from (by repeat (first | exact .here | exact .inner .here | exact .inner (.inner .here) | refine .there ?_))), fun c hc => by
          simp only [awC, List.mem_cons, List.not_mem_nil, or_false] at hc
          rcases hc with rfl | rfl <;> exact ⟨⟨⟨rfl, Nat.le_refl 0⟩, .inl rfl⟩, Nat.zero_le _⟩⟩)) ?_
  rintro ⟨TS, ot⟩ ⟨hT1, hT2, hT3⟩
  obtain ⟨ro0, ab0, p0, p1, sh0, so0, ro1, ab1, q0, q1, sh1, so1, rfl, hp1, hq1, hsh⟩ := aw_two hT1
  rcases ot with _ | ⟨gt, rt, ct⟩
  · exact absurd (show (2 : Nat) = 0 from hT3.2) (by decide)
  refine LW.re 14 (.slice (some ⟨gt, 0, none⟩) 2 ct) rfl (by rfl) <| Lv Av <| Nl <| Ps <| Sq <| Sq ?_
  refine V.CW.pick (ss := [[(gl, .cells (leC 0 ++ leC 1 ++ rl).toArray 41 (0, 0))], [(gt, .cells (toC (TO.mk [0, 1] ro0 ab0 [p0, p1] sh0 so0) ++ toC (TO.mk [1, 0] ro1 ab1 [q0, q1] sh1 so1) ++ rt).toArray 36 (0, 0))], [(TO.mk [0, 1] ro0 ab0 [p0, p1] sh0 so0), (TO.mk [1, 0] ro1 ab1 [q0, q1] sh1 so1)].flatMap toM]) ?_ (by repeat (first | exact .nil | apply Pick.cons | exact .here | apply Ext.there))
  refine V.CW.perm (sg' := [[(gl, .cells (leC 0 ++ leC 1 ++ rl).toArray 41 (0, 0))], [(gt, .cells (toC (TO.mk [0, 1] ro0 ab0 [p0, p1] sh0 so0) ++ toC (TO.mk [1, 0] ro1 ab1 [q0, q1] sh1 so1) ++ rt).toArray 36 (0, 0))], ownG 3 (([0, 1] : List Nat).flatMap inE) ro0, [(ab0, .cells (apC p0 ++ apC p1).toArray 48 (0, 0))], (apM p0 ++ (apM p1 ++ (ownG 69 (sh0.1.flatMap prC) so0.1 ++ offG 9 (sh0.2.flatMap stE) so0.2))), ownG 3 (([1, 0] : List Nat).flatMap inE) ro1, [(ab1, .cells (apC q0 ++ apC q1).toArray 48 (0, 0))], (apM q0 ++ (apM q1 ++ (ownG 69 (sh1.1.flatMap prC) so1.1 ++ offG 9 (sh1.2.flatMap stE) so1.2)))]) ?_ (by simp [toM])
  refine Rg <| Lv Mv <| Lv Cm <| LW.re 16 (.bool false) rfl (by rfl) <| Lv Mv <| Lv Mv <| Lv Ln <| Lv Cm <| LW.re 20 (.bool false) rfl (by rfl) <| Lv Pf <| Lv Mv <| Lv Mv <| Lv (Val.indexAddrN (i := 1) rfl rfl Tryz.underlying38 Tryz.sizeOf41 (by decide)) <| Lv (Fa 0 3) <| Lv (Ld (v := .int .i64 1)) <| Lv Cm <| LW.re 27 (.bool false) rfl (by rfl) <| Lv Pf <| Lv Mv <| Lv Mv <| Lv Ln <| Lv Cm <| LW.re 32 (.bool false) rfl (by rfl) <| Lv Pf <| Lv Mv <| Lv Mv <| Lv (Val.indexAddrN (i := 0) rfl rfl Tryz.underlying25 Tryz.sizeOf36 (by decide)) <| Lv (Fa 1 30) <| Lv (Ld (v := .slice (some ⟨ab0, 0, none⟩) 2 2)) <| Lv Ln <| Lv Cm <| LW.re 40 (.bool false) rfl (by rfl) <| Lv Pf <| Lv Mv <| Lv Mv <| Lv (Val.indexAddrN (i := 1) rfl rfl Tryz.underlying25 Tryz.sizeOf36 (by decide)) <| Lv (Fa 1 30) <| Lv (Ld (v := .slice (some ⟨ab1, 0, none⟩) 2 2)) <| Lv Ln <| Lv Cm <| LW.re 48 (.bool false) rfl (by rfl) <| Lv Pf <| Nl <| Ps <| Cf <| Sk <| Ps <| Sq <| Rg <| Lv Mv <| Lv (Val.indexAddrN (i := 0) rfl rfl Tryz.underlying25 Tryz.sizeOf36 (by decide)) <| Lv (Fa 1 30) <| Lv (Ld (v := .slice (some ⟨ab0, 0, none⟩) 2 2)) <| Lv (Val.indexAddrN (i := 1) rfl rfl Tryz.underlying30 Tryz.sizeOf48 (by decide)) <| Lv (Fa 1 4) <| Lv (Ld (v := .bool p1.1.fd)) <| LW.re 56 (.bool true) rfl (by rw [hp1]) <| Lv Mv <| Lv Mv <| Lv (Val.indexAddrN (i := 1) rfl rfl Tryz.underlying25 Tryz.sizeOf36 (by decide)) <| Lv (Fa 1 30) <| Lv (Ld (v := .slice (some ⟨ab1, 0, none⟩) 2 2)) <| Lv (Val.indexAddrN (i := 1) rfl rfl Tryz.underlying30 Tryz.sizeOf48 (by decide)) <| Lv (Fa 1 4) <| Lv (Ld (v := .bool q1.1.fd)) <| LW.re 64 (.bool false) rfl (by rw [hq1]) <| Lv Nt <| Lv Pt <| Lv Mv <| Lv Mv <| Lv (Val.indexAddrN (i := 0) rfl rfl Tryz.underlying25 Tryz.sizeOf36 (by decide)) <| Lv (Fa 2 34) <| Lv (Fa 0 31) <| Lv (Ld (v := ownV sh0.1.length so0.1)) <| Lv (Val.lenOwn rfl Tryz.underlying31 (hT2 (TO.mk [0, 1] ro0 ab0 [p0, p1] sh0 so0) (by simp)).2.2.1) <| Lv Cm <| LW.re 74 (.bool true) rfl (by rw [hsh]; rfl) <| Lv Pt <| Lv Av <| Nl <| Ps <| Rt <| Rt1 ?_
  intro w' hw; exact ⟨by rfl, hw.below⟩
end I
end Go.Proofs.YtlpbjmbgopfkhaaGreat

