import Derived.Test.YtagliemeolngiaaDoorRd1
import Derived.Lib.Hide
import Derived.Test.YtagliemeolngiaaDoorV25
/- The document's event of a line. -/
namespace Go.Proofs.YtagliemeolngiaaDoor
open Go Go.RowKit V
set_option linter.unusedVariables false
set_option maxRecDepth 100000
open V (str byC ownV ownG ownS ownOk)
theorem stC_at {W : List (List UInt8)} {rest : List Value} {i : Nat} {x : List UInt8} (hx : W[i]? = some x) : (stC W ++ rest)[0 + i * 1]? = some (str x) := by
  have := (List.getElem?_eq_some_iff.1 hx).1
  rw [Nat.zero_add, Nat.mul_one, List.getElem?_append_left (by rw [stC_len]; omega)]; simp [stC, hx]
theorem stC_flat (W : List (List UInt8)) : stC W = W.flatMap stE := by
  induction W with
  | nil => rfl
  | cons a r ih => simp only [List.flatMap_cons, ← ih]; rfl
theorem pL_of {u : List UInt8} {W : List (List UInt8)} (hW : W = spl 32 u) : pLine u = match pEvent W with
    | some (v, []) => some v
    | _ => none := by rw [hW]; rfl
theorem pL_oth {u x0 : List UInt8} {W : List (List UInt8)} (hW : W = spl 32 u) (h0 : W[0]? = some x0) (h1 : x0 ≠ [99, 97, 108, 108]) (h2 : x0 ≠ [115, 116, 101, 112]) (h3 : x0 ≠ [107, 101, 101, 112]) (h4 : x0 ≠ [98, 97, 99, 107]) (h5 : x0 ≠ [99, 117, 116]) (h6 : x0 ≠ [114, 101, 118, 105, 118, 101]) : pLine u = none := by
  rw [pL_of hW]
  cases W with
  | nil => rfl
  | cons a r =>
    simp at h0; subst h0
    simp only [pEvent]
    rw [if_neg h1, if_neg h2, if_neg h3, if_neg h4, if_neg h5, if_neg h6]
theorem pL_one {u x0 : List UInt8} {W : List (List UInt8)} (hW : W = spl 32 u) (h0 : W[0]? = some x0) (hl : W.length = 1) (h3 : u ≠ [107, 101, 101, 112]) (h5 : x0 ≠ [99, 117, 116]) (h6 : u ≠ [114, 101, 118, 105, 118, 101]) : pLine u = none := by
  obtain ⟨a, rfl⟩ := List.length_eq_one_iff.1 hl
  have hu : u = a := by have := jn_spl u; rw [← hW, jn_one] at this; exact this.symm
  simp at h0; subst h0
  rw [hu] at h3 h6
  by_cases e1 : a = [99, 97, 108, 108]
  · subst e1; rw [pL_of hW]; rfl
  by_cases e2 : a = [115, 116, 101, 112]
  · subst e2; rw [pL_of hW]; rfl
  by_cases e4 : a = [98, 97, 99, 107]
  · subst e4; rw [pL_of hW]; rfl
  exact pL_oth hW rfl e1 e2 h3 e4 h5 h6
theorem pL_kr {u x0 x1 : List UInt8} {W : List (List UInt8)} (hW : W = spl 32 u) (h0 : W[0]? = some x0) (h1 : W[1]? = some x1) (h : x0 = [107, 101, 101, 112] ∨ x0 = [114, 101, 118, 105, 118, 101]) : pLine u = none := by
  rw [pL_of hW]
  cases W with
  | nil => rfl
  | cons a r =>
    cases r with
    | nil => simp at h1
    | cons c r =>
      simp at h0; subst h0
      rcases h with rfl | rfl
      · rw [pEv3]
      · rw [pEv6]
theorem pL_bad {u x0 x1 : List UInt8} {W : List (List UInt8)} (hW : W = spl 32 u) (h0 : W[0]? = some x0) (h1 : W[1]? = some x1) (h5 : x0 ≠ [99, 117, 116]) (hn : numF x1 = none) : pLine u = none := by
  by_cases e3 : x0 = [107, 101, 101, 112]
  · exact pL_kr hW h0 h1 (.inl e3)
  by_cases e6 : x0 = [114, 101, 118, 105, 118, 101]
  · exact pL_kr hW h0 h1 (.inr e6)
  cases W with
  | nil => simp at h0
  | cons a r =>
    cases r with
    | nil => simp at h1
    | cons c r =>
      simp at h0 h1; subst h0; subst h1
      by_cases e1 : a = [99, 97, 108, 108]
      · subst e1; rw [pL_of hW, pEv1]; simp [pNum, hn]
      by_cases e2 : a = [115, 116, 101, 112]
      · subst e2; rw [pL_of hW, pEv2]; simp [pNum, hn]
      by_cases e4 : a = [98, 97, 99, 107]
      · subst e4; rw [pL_of hW, pEv4]; simp [pNum, hn]
      exact pL_oth hW rfl e1 e2 e3 e4 h5 e6
theorem pL_step {u x0 x1 : List UInt8} {W : List (List UInt8)} {n : Nat} (hW : W = spl 32 u) (h0 : W[0]? = some x0) (h1 : W[1]? = some x1) (hn : numF x1 = some n) (h : x0 = [115, 116, 101, 112]) : pLine u = if W.length = 2 then some (e0 2 (n : Nat) 0 (c0q 0), [], []) else none := by
  rw [pL_of hW]
  cases W with
  | nil => simp at h0
  | cons a r =>
    cases r with
    | nil => simp at h1
    | cons c r =>
      simp at h0 h1; subst h0; subst h1; subst h
      rw [pEv2]
      cases r <;> simp [pNum, hn]
theorem pL_back {u x0 x1 : List UInt8} {W : List (List UInt8)} {n : Nat} (hW : W = spl 32 u) (h0 : W[0]? = some x0) (h1 : W[1]? = some x1) (hn : numF x1 = some n) (h : x0 = [98, 97, 99, 107]) : pLine u = if W.length = 2 then some (e0 4 0 (n : Nat) (c0q 0), [], []) else none := by
  rw [pL_of hW]
  cases W with
  | nil => simp at h0
  | cons a r =>
    cases r with
    | nil => simp at h1
    | cons c r =>
      simp at h0 h1; subst h0; subst h1; subst h
      rw [pEv4]
      cases r <;> simp [pNum, hn]
theorem pL_call {u x0 x1 : List UInt8} {W : List (List UInt8)} {n : Nat} (hW : W = spl 32 u) (h0 : W[0]? = some x0) (h1 : W[1]? = some x1) (hn : numF x1 = some n) (h : x0 = [99, 97, 108, 108]) : pLine u = (pCA (W.drop 2)).map fun v => (e0 1 (n : Nat) 0 v.1, v.2, []) := by
  rw [pL_of hW]
  cases W with
  | nil => simp at h0
  | cons a r =>
    cases r with
    | nil => simp at h1
    | cons c r =>
      simp at h0 h1; subst h0; subst h1; subst h
      rw [pEv1]
      simp only [pNum, hn, Option.map_some, Option.bind_some, List.drop_succ_cons, List.drop_zero, pCA]
      cases pCall r with
      | none => rfl
      | some y =>
        obtain ⟨v, L⟩ := y
        cases L <;> rfl
theorem pL_none {u x0 x1 : List UInt8} {W : List (List UInt8)} {n : Nat} (hW : W = spl 32 u) (h0 : W[0]? = some x0) (h1 : W[1]? = some x1) (h5 : x0 ≠ [99, 117, 116]) (hn : numF x1 = some n) (n1 : ¬ (x0 = [115, 116, 101, 112] ∧ W.length = 2)) (n2 : ¬ (x0 = [98, 97, 99, 107] ∧ W.length = 2)) (n3 : ¬ (x0 = [99, 97, 108, 108] ∧ 3 ≤ W.length)) : pLine u = none := by
  by_cases e3 : x0 = [107, 101, 101, 112]
  · exact pL_kr hW h0 h1 (.inl e3)
  by_cases e6 : x0 = [114, 101, 118, 105, 118, 101]
  · exact pL_kr hW h0 h1 (.inr e6)
  by_cases e1 : x0 = [99, 97, 108, 108]
  · have hl : W.drop 2 = [] := List.drop_eq_nil_iff.2 (by
      have h8 : ¬ 3 ≤ W.length := fun h8 => n3 ⟨e1, h8⟩
      omega)
    rw [pL_call hW h0 h1 hn e1, hl]; rfl
  by_cases e2 : x0 = [115, 116, 101, 112]
  · rw [pL_step hW h0 h1 hn e2, if_neg (fun h8 => n1 ⟨e2, h8⟩)]
  by_cases e4 : x0 = [98, 97, 99, 107]
  · rw [pL_back hW h0 h1 hn e4, if_neg (fun h8 => n2 ⟨e4, h8⟩)]
  exact pL_oth hW h0 e1 e2 e3 e4 h5 e6
theorem pL_cut {u x0 : List UInt8} {W : List (List UInt8)} (hW : W = spl 32 u) (h0 : W[0]? = some x0) (h : x0 = [99, 117, 116]) : pLine u = (pNums (W.drop 1)).map fun kl => (e0 5 0 0 (c0q 0), [], kl) := by
  rw [pL_of hW]
  cases W with
  | nil => simp at h0
  | cons a r =>
    simp at h0; subst h0; subst h
    rw [pEv5]
    simp only [List.drop_succ_cons, List.drop_zero]
    cases pNums r <;> rfl
/-- What the document's event of a line is. -/
abbrev REv := Bool × Evq × List Cq × V.OwnO × List Int × V.OwnO
def ROk (u : List UInt8) (y : REv) : Prop := (y.1 = true → pLine u = some (y.2.1, y.2.2.1, y.2.2.2.2.1)) ∧ (y.1 = false → pLine u = none) ∧ ownOk 5 y.2.2.1.length (y.2.2.1.flatMap Cq.cells) y.2.2.2.1 ∧ ownOk 1 y.2.2.2.2.1.length (y.2.2.2.2.1.flatMap intC) y.2.2.2.2.2 ∧ (y.2.1.call.grp = nilSl ∧ y.2.1.keep = nilSl ∧ y.2.1.call.small) ∧ (∀ x ∈ y.2.2.1, x.grp = nilSl ∧ x.small) ∧ y.2.2.2.2.1.length ≤ 70001
theorem revent_c (u : List UInt8) (hu : u.length ≤ 70000) (w : World) : Calls Tryd.prog 51 [str u].toArray w fun e w' => ∃ y : REv, ROk u y ∧ e = .returned (.tuple #[.agg (y.2.1.re (ownSl y.2.2.1.length y.2.2.2.1) (ownSl y.2.2.2.2.1.length y.2.2.2.2.2)).cells.toArray, .bool y.1]) ∧ Hp ⟨w, []⟩ [ownG 41 (y.2.2.1.flatMap Cq.cells) y.2.2.2.1, ownG 3 (y.2.2.2.2.1.flatMap intC) y.2.2.2.2.2] w' := by
  refine V.calls [] Tryd.func51 rfl Tryd.ntmps51 (Nat.le_of_ble_eq_true rfl) (V.sat_nil _) ?_
  refine CW.seq ?_
  refine CW.region ?_
  refine LW.e rfl rfl (Eff.allocA (by exact Tryd.zeroValue44)) ?_
  intro b2 _
  refine LW.v rfl rfl (Val.assign rfl) ?_
  refine LW.nil ?_
  refine PQ.seq ?_
  refine CW.seq ?_
  refine CW.region ?_
  refine LW.v rfl rfl (Val.move rfl) ?_
  refine LW.e rfl rfl (Eff.callM ([]) .nil rfl Tryd.call50 (fun w hw hs0 => rsplit_c u 32 hu w)) ?_
  intro o ho
  have hWx := fun x (hx : x ∈ spl 32 u) => spl_all 32 u x hx
  have hWn := spl_ne 32 u
  have hWc := spl_len 32 u
  obtain ⟨W, hW⟩ : ∃ W, W = spl 32 u := ⟨_, rfl⟩
  rw [← hW] at ho hWx hWn hWc
  rw [← hW]
  have hWp := List.length_pos_iff.2 hWn
  obtain ⟨⟨g, rest, cap⟩, rfl⟩ := own_some ho hWp
  rw [V.ownG_some]
  obtain ⟨x0, hx0⟩ : ∃ x, W[0]? = some x := ⟨W[0]'hWp, by simp⟩
  have hWr : W.length ≤ cap := by have e := ho.2; simp only at e; rw [stC_len] at e; omega
  refine LW.v rfl rfl (Val.assign rfl) ?_
  refine LW.nil ?_
  refine PQ.seq ?_
  refine CW.seq ?_
  refine CW.seq ?_
  refine CW.region ?_
  refine LW.v rfl rfl (Val.move rfl) ?_
  refine LW.v rfl rfl (Val.eqStr rfl rfl) ?_
  refine LW.nil ?_
  refine PQ.seq ?_
  refine CW.cond rfl (fun h16 => ?_) (fun h16 => ?_)
  · replace h16 := bT h16
    refine CW.seq ?_
    refine CW.region ?_
    refine LW.v rfl rfl (Val.build [_, _, _, _, _, _, _, _, _] Tryd.zeroValue44 Tryd.underlying44 places44 rfl (by rfl)) ?_
    first | (refine LW.eN rfl (Eff.storeW rfl rfl (by repeat (first | exact .here | exact .inner .here | exact .inner (.inner .here) | apply Upd.there)) (by rfl) Tryd.sizeOf44 (by rfl)) ?_) | (refine LW.eN rfl (Eff.storeW rfl rfl (by repeat (first | exact .here | exact .inner .here | exact .inner (.inner .here) | apply Upd.there)) (by rfl) Tryd.sizeOf44 (by simp only [ownSl_v]; rfl)) ?_)
    intro _ _
    refine LW.v rfl rfl (Val.assign rfl) ?_
    refine LW.nil ?_
    refine PQ.seq ?_
    refine CW.ret ?_
    refine PQ.then_ret ?_
    refine PQ.retCT rfl rfl rfl (by repeat (first | exact .here | exact .inner .here | exact .inner (.inner .here) | refine .there ?_)) Tryd.isAgg44 (by exact Tryd.sizeOf44) ?_
    intro w' hw
    have hp : pLine u = some (e0 3 0 0 (c0q 0), [], []) := by subst h16; rfl
    exact ⟨(true, e0 3 0 0 (c0q 0), [], none, [], none), ⟨fun _ => hp, (fun h => by cases h), ⟨rfl, rfl⟩, ⟨rfl, rfl⟩, ⟨rfl, rfl, by unfold e0 Cq.small c0q; simp⟩, by simp, by simp⟩, rfl, (hw.pick (ss := []) .nil).perm (by first | exact .refl _ | (simp [V.ownG, V.ownS]; done))⟩
  · replace h16 := bF h16
    refine CW.skip ?_
    refine PQ.seq ?_
    refine CW.seq ?_
    refine CW.seq ?_
    refine CW.region ?_
    refine LW.v rfl rfl (Val.move rfl) ?_
    refine LW.v rfl rfl (Val.eqStr rfl rfl) ?_
    refine LW.nil ?_
    refine PQ.seq ?_
    refine CW.cond rfl (fun h19 => ?_) (fun h19 => ?_)
    · replace h19 := bT h19
      refine CW.seq ?_
      refine CW.region ?_
      refine LW.v rfl rfl (Val.build [_, _, _, _, _, _, _, _, _] Tryd.zeroValue44 Tryd.underlying44 places44 rfl (by rfl)) ?_
      first | (refine LW.eN rfl (Eff.storeW rfl rfl (by repeat (first | exact .here | exact .inner .here | exact .inner (.inner .here) | apply Upd.there)) (by rfl) Tryd.sizeOf44 (by rfl)) ?_) | (refine LW.eN rfl (Eff.storeW rfl rfl (by repeat (first | exact .here | exact .inner .here | exact .inner (.inner .here) | apply Upd.there)) (by rfl) Tryd.sizeOf44 (by simp only [ownSl_v]; rfl)) ?_)
      intro _ _
      refine LW.v rfl rfl (Val.assign rfl) ?_
      refine LW.nil ?_
      refine PQ.seq ?_
      refine CW.ret ?_
      refine PQ.then_ret ?_
      refine PQ.retCT rfl rfl rfl (by repeat (first | exact .here | exact .inner .here | exact .inner (.inner .here) | refine .there ?_)) Tryd.isAgg44 (by exact Tryd.sizeOf44) ?_
      intro w' hw
      have hp : pLine u = some (e0 6 0 0 (c0q 0), [], []) := by subst h19; rfl
      exact ⟨(true, e0 6 0 0 (c0q 0), [], none, [], none), ⟨fun _ => hp, (fun h => by cases h), ⟨rfl, rfl⟩, ⟨rfl, rfl⟩, ⟨rfl, rfl, by unfold e0 Cq.small c0q; simp⟩, by simp, by simp⟩, rfl, (hw.pick (ss := []) .nil).perm (by first | exact .refl _ | (simp [V.ownG, V.ownS]; done))⟩
    · replace h19 := bF h19
      refine CW.skip ?_
      refine PQ.seq ?_
      refine CW.seq ?_
      refine CW.seq ?_
      refine CW.region ?_
      refine LW.v rfl rfl (Val.move rfl) ?_
      first | (refine LW.v rfl rfl (Val.indexAddrN rfl rfl Tryd.underlying73 Tryd.sizeOf9 (by omega)) ?_) | (refine LW.v rfl rfl (Val.indexAddr rfl rfl Tryd.underlying73 Tryd.sizeOf9 (by omega) (by omega)) ?_)
      refine LW.v rfl rfl (Val.load (T := 9) (v := str x0) rfl Tryd.isAgg9 (by repeat (first | exact .here | exact .inner .here | exact .inner (.inner .here) | refine .there ?_)) (stC_at hx0)) ?_
      refine LW.v rfl rfl (Val.eqStr rfl rfl) ?_
      refine LW.nil ?_
      refine PQ.seq ?_
      refine CW.cond rfl (fun h24 => ?_) (fun h24 => ?_)
      · replace h24 := bT h24
        refine CW.seq ?_
        refine CW.region ?_
        refine LW.v rfl rfl (Val.build [_, _, _, _, _, _, _, _, _] Tryd.zeroValue44 Tryd.underlying44 places44 rfl (by rfl)) ?_
        refine LW.e rfl rfl (Eff.allocA (by exact Tryd.zeroValue44)) ?_
        intro b5 _
        refine LW.eN rfl (Eff.storeW (cs := [.int .i64 5, .int .i64 0, .int .i64 0, .int .i64 0, str [], str [], str [], .slice none 0 0, ownV 0 none]) rfl rfl (by repeat (first | exact .here | exact .inner .here | exact .inner (.inner .here) | apply Upd.there)) (by rfl) Tryd.sizeOf44 (by rfl)) ?_
        intro _ _
        refine LW.nil ?_
        refine PQ.seq ?_
        refine CW.seq ?_
        refine CW.seq ?_
        refine CW.region ?_
        refine LW.v rfl rfl (Val.assign rfl) ?_
        refine LW.nil ?_
        refine PQ.seq ?_
        refine CW.block ?_
        refine V.CW.addOwn 3 ?_
        refine CW.loop (γ := Nat × V.OwnO × List Int) (fun k => [(0, str u), (2, .pointer (some ⟨b2, 0, none⟩)), (3, .bool false), (4, ownV W.length (some (g, rest, cap))), (5, .pointer (some ⟨b5, 0, none⟩)), (6, .int .i64 (k.1 : Nat))]) (fun k => [[(b2, .cells [.int .i64 0, .int .i64 0, .int .i64 0, .int .i64 0, .string ⟨#[]⟩, .string ⟨#[]⟩, .string ⟨#[]⟩, .slice none 0 0, .slice none 0 0].toArray 44 (0, 0))], [(b5, .cells [.int .i64 5, .int .i64 0, .int .i64 0, .int .i64 0, str [], str [], str [], .slice none 0 0, ownV k.2.2.length k.2.1].toArray 44 (0, 0))], ownG 3 (k.2.2.flatMap intC) k.2.1, [(g, .cells (stC W ++ rest).toArray 9 (0, 0))]]) (fun k => 1 ≤ k.1 ∧ k.1 ≤ W.length ∧ ownOk 1 k.2.2.length (k.2.2.flatMap intC) k.2.1 ∧ k.2.2.length + 1 = k.1 ∧ pNums (W.drop 1) = (pNums (W.drop k.1)).map fun l => k.2.2 ++ l) (fun k => W.length - k.1) ((1, none, [])) ⟨Nat.le_refl _, hWp, ⟨rfl, rfl⟩, rfl, by simp⟩ (by repeat (first | exact trivial | refine ⟨rfl, ?_⟩)) (by repeat (first | exact .nil | apply Pick.cons | exact .here | apply Ext.there)) ?_
        intro k
        rintro ⟨hk0, hk1, hk2, hk3, hkp⟩
        refine CW.seq ?_
        refine CW.seq ?_
        refine CW.region ?_
        refine LW.v rfl rfl (Val.move rfl) ?_
        refine LW.v rfl rfl (Val.move rfl) ?_
        refine LW.v rfl rfl (Val.lenSl rfl Tryd.underlying73) ?_
        refine LW.v rfl rfl (Val.cmp rfl rfl rfl) ?_
        refine LW.nil ?_
        refine PQ.seq ?_
        refine CW.cond rfl (fun h29 => ?_) (fun h29 => ?_)
        · replace h29 := bT h29
          obtain ⟨x, hx⟩ : ∃ x, W[k.1]? = some x := ⟨W[k.1]'(by omega), by simp⟩
          have hdr := drop_atL hx
          refine CW.skip ?_
          refine PQ.seq ?_
          refine CW.seq ?_
          refine CW.block ?_
          refine CW.seq ?_
          refine CW.region ?_
          refine LW.v rfl rfl (Val.move rfl) ?_
          refine LW.v rfl rfl (Val.move rfl) ?_
          first | (refine LW.v rfl rfl (Val.indexAddrN rfl rfl Tryd.underlying73 Tryd.sizeOf9 (by omega)) ?_) | (refine LW.v rfl rfl (Val.indexAddr rfl rfl Tryd.underlying73 Tryd.sizeOf9 (by omega) (by omega)) ?_)
          refine LW.v rfl rfl (Val.load (T := 9) (v := str x) rfl Tryd.isAgg9 (by repeat (first | exact .here | exact .inner .here | exact .inner (.inner .here) | refine .there ?_)) (stC_at hx)) ?_
          refine LW.e rfl rfl (Eff.callV rfl Tryd.call62 (fun w hw => rnumber_c x w)) ?_
          intro _ _
          refine LW.v rfl rfl (Val.move rfl) ?_
          refine LW.v rfl rfl (Val.extract rfl rfl) ?_
          refine LW.v rfl rfl (Val.extract rfl rfl) ?_
          refine LW.v rfl rfl (Val.assign rfl) ?_
          refine LW.v rfl rfl (Val.assign rfl) ?_
          refine LW.nil ?_
          refine PQ.seq ?_
          refine CW.seq ?_
          refine CW.seq ?_
          refine CW.region ?_
          refine LW.v rfl rfl (Val.move rfl) ?_
          refine LW.v rfl rfl (Val.not rfl) ?_
          refine LW.nil ?_
          refine PQ.seq ?_
          refine CW.cond rfl (fun h41 => ?_) (fun h41 => ?_)
          · replace h41 := bT h41
            have hn : numF x = none := by cases hq : numF x with | none => rfl | some z => rw [hq] at h41; simp at h41
            refine CW.seq ?_
            refine CW.region ?_
            first | (refine LW.v rfl rfl (Val.loadW rfl Tryd.isAgg44 (by repeat (first | exact .here | exact .inner .here | exact .inner (.inner .here) | refine .there ?_)) (by exact Tryd.sizeOf44)) ?_) | (refine LW.v rfl rfl (Val.loadA [_, _, _, _, _, _, _, _, _] rfl Tryd.isAgg44 (by repeat (first | exact .here | exact .inner .here | exact .inner (.inner .here) | refine .there ?_)) (by rfl) Tryd.sizeOf44) ?_)
            first | (refine LW.eN rfl (Eff.storeW rfl rfl (by repeat (first | exact .here | exact .inner .here | exact .inner (.inner .here) | apply Upd.there)) (by rfl) Tryd.sizeOf44 (by rfl)) ?_) | (refine LW.eN rfl (Eff.storeW rfl rfl (by repeat (first | exact .here | exact .inner .here | exact .inner (.inner .here) | apply Upd.there)) (by rfl) Tryd.sizeOf44 (by simp only [ownSl_v]; rfl)) ?_)
            intro _ _
            refine LW.v rfl rfl (Val.assign rfl) ?_
            refine LW.nil ?_
            refine PQ.seq ?_
            refine CW.ret ?_
            refine PQ.then_ret ?_
            refine PQ.in_ret ?_
            refine PQ.then_ret ?_
            refine PQ.then_ret ?_
            refine PQ.in_ret ?_
            refine PQ.then_ret ?_
            refine PQ.then_ret ?_
            refine PQ.retCT rfl rfl rfl (by repeat (first | exact .here | exact .inner .here | exact .inner (.inner .here) | refine .there ?_)) Tryd.isAgg44 (by exact Tryd.sizeOf44) ?_
            intro w' hw
            have hp : pLine u = none := by rw [pL_cut hW hx0 h24, hkp, hdr]; simp [pNums, hn]
            exact ⟨(false, e0 5 0 0 (c0q 0), [], none, k.2.2, k.2.1), ⟨(fun h => by cases h), fun _ => hp, ⟨rfl, rfl⟩, hk2, ⟨rfl, rfl, by unfold e0 Cq.small c0q; simp⟩, by simp, by simp only; omega⟩, by simp only [ownSl_v]; rfl, (hw.pick (ss := [ownG 3 (k.2.2.flatMap intC) k.2.1]) (by repeat (first | exact .nil | apply Pick.cons | exact .here | apply Ext.there))).perm (by first | exact .refl _ | (simp [V.ownG, V.ownS]; done))⟩
          · replace h41 := bF h41
            obtain ⟨n, hn⟩ : ∃ n, numF x = some n := Option.isSome_iff_exists.1 (by first | exact h41 | simpa using h41)
            rw [hn]
            rw [Option.getD_some]
            refine CW.skip ?_
            refine PQ.seq ?_
            refine CW.region ?_
            refine LW.v rfl rfl (Val.fieldAddr 8 rfl Tryd.underlying44 rfl rfl Tryd.sizeOf42) ?_
            refine LW.e rfl rfl (Eff.ofVal (Val.load (v := ownV k.2.2.length k.2.1) rfl Tryd.isAgg42 (by repeat (first | exact .here | exact .inner .here | exact .inner (.inner .here) | refine .there ?_)) (by rfl))) ?_
            intro _ _
            refine LW.v rfl rfl (Val.move rfl) ?_
            refine LW.e rfl rfl (Eff.buildSlice (rfl) [_] Tryd.underlying42 Tryd.sizeOf3 (by exact Tryd.zeroValue3) rfl rfl rfl rfl (by rfl)) ?_
            intro b46 _
            refine LW.e rfl rfl (Eff.appendAny (intC ((n : Nat) : Int)) (sz := 1) (bytes := 8) (z := .int .i64 0) (xs := k.2.2.flatMap intC) (m0 := k.2.2.length) (o := k.2.1) (m := 1) (pk := [ownG 3 (k.2.2.flatMap intC) k.2.1]) rfl rfl Tryd.underlying42 (by kernel_rfl) rfl (by omega) (by repeat (first | exact .nil | apply Pick.cons | exact .here | apply Ext.there)) (by simp) hk2 rfl (fun hm0 => ⟨b46, 0, rfl, fun w hw => V.range_of_block (o := 0) (cs := intC ((n : Nat) : Int)) (r := []) (hw.own _ (show InS (b46, .cells (intC ((n : Nat) : Int)).toArray 3 (0, 0)) _ from (by repeat (first | exact .here | exact .inner .here | exact .inner (.inner .here) | refine .there ?_))).mem) rfl⟩) rfl (by omega) (by omega)) ?_
            intro o9 ho9
            refine LW.v rfl rfl (Val.fieldAddr 8 rfl Tryd.underlying44 rfl rfl Tryd.sizeOf42) ?_
            refine LW.eN rfl (Eff.store rfl rfl (V.ownV_one _ _) (by repeat (first | exact .here | exact .inner .here | exact .inner (.inner .here) | apply Upd.there)) (by rfl) (by rfl) Tryd.sizeOf42) ?_
            intro _ _
            refine LW.nil ?_
            refine PQ.in_normal ?_
            refine PQ.seq ?_
            refine CW.region ?_
            refine LW.v rfl rfl (Val.move rfl) ?_
            refine LW.v rfl rfl (Val.ar rfl rfl rfl (IntWalk.i64_in _ (by omega))) ?_
            refine LW.v rfl rfl (Val.assign rfl) ?_
            refine LW.nil ?_
            rw [show k.2.2.flatMap intC ++ intC ((n : Nat) : Int) = (k.2.2 ++ [((n : Nat) : Int)]).flatMap intC from by rw [flat_snoc], show k.2.2.length + 1 = (k.2.2 ++ [((n : Nat) : Int)]).length from by simp]
            refine PQ.round ((k.1 + 1, o9, k.2.2 ++ [((n : Nat) : Int)])) ⟨by simp only; omega, by simp only; omega, by simp only [List.length_append, List.length_cons, List.length_nil]; rw [flat_snoc]; exact ho9, by simp only [List.length_append, List.length_cons, List.length_nil]; omega, by rw [hkp, hdr]; simp only [pNums, hn, Option.bind_some]; cases pNums (W.drop (k.1 + 1)) <;> simp⟩ (by simp only; omega) (by repeat (first | exact trivial | refine ⟨rfl, ?_⟩)) (by repeat (first | exact .nil | apply Pick.cons | exact .here | apply Ext.there))
        · replace h29 := bF h29
          refine CW.exit ?_
          refine PQ.then_exit ?_
          refine PQ.then_exit ?_
          refine PQ.in_here ?_
          refine PQ.seq ?_
          refine CW.seq ?_
          refine CW.region ?_
          first | (refine LW.v rfl rfl (Val.loadW rfl Tryd.isAgg44 (by repeat (first | exact .here | exact .inner .here | exact .inner (.inner .here) | refine .there ?_)) (by exact Tryd.sizeOf44)) ?_) | (refine LW.v rfl rfl (Val.loadA [_, _, _, _, _, _, _, _, _] rfl Tryd.isAgg44 (by repeat (first | exact .here | exact .inner .here | exact .inner (.inner .here) | refine .there ?_)) (by rfl) Tryd.sizeOf44) ?_)
          first | (refine LW.eN rfl (Eff.storeW rfl rfl (by repeat (first | exact .here | exact .inner .here | exact .inner (.inner .here) | apply Upd.there)) (by rfl) Tryd.sizeOf44 (by rfl)) ?_) | (refine LW.eN rfl (Eff.storeW rfl rfl (by repeat (first | exact .here | exact .inner .here | exact .inner (.inner .here) | apply Upd.there)) (by rfl) Tryd.sizeOf44 (by simp only [ownSl_v]; rfl)) ?_)
          intro _ _
          refine LW.v rfl rfl (Val.assign rfl) ?_
          refine LW.nil ?_
          refine PQ.seq ?_
          refine CW.ret ?_
          refine PQ.then_ret ?_
          refine PQ.retCT rfl rfl rfl (by repeat (first | exact .here | exact .inner .here | exact .inner (.inner .here) | refine .there ?_)) Tryd.isAgg44 (by exact Tryd.sizeOf44) ?_
          intro w' hw
          have hp : pLine u = some (e0 5 0 0 (c0q 0), [], k.2.2) := by rw [pL_cut hW hx0 h24, hkp, show W.drop k.1 = [] from List.drop_eq_nil_iff.2 (by omega)]; simp [pNums]
          exact ⟨(true, e0 5 0 0 (c0q 0), [], none, k.2.2, k.2.1), ⟨fun _ => hp, (fun h => by cases h), ⟨rfl, rfl⟩, hk2, ⟨rfl, rfl, by unfold e0 Cq.small c0q; simp⟩, by simp, by simp only; omega⟩, by simp only [ownSl_v]; rfl, (hw.pick (ss := [ownG 3 (k.2.2.flatMap intC) k.2.1]) (by repeat (first | exact .nil | apply Pick.cons | exact .here | apply Ext.there))).perm (by first | exact .refl _ | (simp [V.ownG, V.ownS]; done))⟩
      · replace h24 := bF h24
        refine CW.skip ?_
        refine PQ.seq ?_
        refine CW.seq ?_
        refine CW.seq ?_
        refine CW.region ?_
        refine LW.v rfl rfl (Val.move rfl) ?_
        refine LW.v rfl rfl (Val.lenSl rfl Tryd.underlying73) ?_
        refine LW.v rfl rfl (Val.cmp rfl rfl rfl) ?_
        refine LW.nil ?_
        refine PQ.seq ?_
        refine CW.cond rfl (fun h52 => ?_) (fun h52 => ?_)
        · replace h52 := bT h52
          have hl1 : W.length = 1 := by omega
          refine CW.seq ?_
          refine CW.region ?_
          refine LW.v rfl rfl (Val.build [_, _, _, _, _, _, _, _, _] Tryd.zeroValue44 Tryd.underlying44 places44 rfl (by rfl)) ?_
          first | (refine LW.eN rfl (Eff.storeW rfl rfl (by repeat (first | exact .here | exact .inner .here | exact .inner (.inner .here) | apply Upd.there)) (by rfl) Tryd.sizeOf44 (by rfl)) ?_) | (refine LW.eN rfl (Eff.storeW rfl rfl (by repeat (first | exact .here | exact .inner .here | exact .inner (.inner .here) | apply Upd.there)) (by rfl) Tryd.sizeOf44 (by simp only [ownSl_v]; rfl)) ?_)
          intro _ _
          refine LW.v rfl rfl (Val.assign rfl) ?_
          refine LW.nil ?_
          refine PQ.seq ?_
          refine CW.ret ?_
          refine PQ.then_ret ?_
          refine PQ.retCT rfl rfl rfl (by repeat (first | exact .here | exact .inner .here | exact .inner (.inner .here) | refine .there ?_)) Tryd.isAgg44 (by exact Tryd.sizeOf44) ?_
          intro w' hw
          have hp : pLine u = none := pL_one hW hx0 hl1 h16 h24 h19
          exact ⟨(false, e0 0 0 0 (c0q 0), [], none, [], none), ⟨(fun h => by cases h), fun _ => hp, ⟨rfl, rfl⟩, ⟨rfl, rfl⟩, ⟨rfl, rfl, by unfold e0 Cq.small c0q; simp⟩, by simp, by simp⟩, rfl, (hw.pick (ss := []) .nil).perm (by first | exact .refl _ | (simp [V.ownG, V.ownS]; done))⟩
        · replace h52 := bF h52
          obtain ⟨x1, hx1⟩ : ∃ x, W[1]? = some x := ⟨W[1]'(by omega), by simp⟩
          have hxl1 := hWx x1 (List.mem_of_getElem? hx1)
          refine CW.skip ?_
          refine PQ.seq ?_
          refine CW.seq ?_
          refine CW.region ?_
          refine LW.v rfl rfl (Val.move rfl) ?_
          first | (refine LW.v rfl rfl (Val.indexAddrN rfl rfl Tryd.underlying73 Tryd.sizeOf9 (by omega)) ?_) | (refine LW.v rfl rfl (Val.indexAddr rfl rfl Tryd.underlying73 Tryd.sizeOf9 (by omega) (by omega)) ?_)
          refine LW.v rfl rfl (Val.load (T := 9) (v := str x1) rfl Tryd.isAgg9 (by repeat (first | exact .here | exact .inner .here | exact .inner (.inner .here) | refine .there ?_)) (stC_at hx1)) ?_
          refine LW.e rfl rfl (Eff.callV rfl Tryd.call62 (fun w hw => rnumber_c x1 w)) ?_
          intro _ _
          refine LW.v rfl rfl (Val.move rfl) ?_
          refine LW.v rfl rfl (Val.extract rfl rfl) ?_
          refine LW.v rfl rfl (Val.extract rfl rfl) ?_
          refine LW.v rfl rfl (Val.assign rfl) ?_
          refine LW.v rfl rfl (Val.assign rfl) ?_
          refine LW.nil ?_
          refine PQ.seq ?_
          refine CW.seq ?_
          refine CW.seq ?_
          refine CW.region ?_
          refine LW.v rfl rfl (Val.move rfl) ?_
          refine LW.v rfl rfl (Val.not rfl) ?_
          refine LW.nil ?_
          refine PQ.seq ?_
          refine CW.cond rfl (fun h62 => ?_) (fun h62 => ?_)
          · replace h62 := bT h62
            have hn : numF x1 = none := by cases hq : numF x1 with | none => rfl | some z => rw [hq] at h62; simp at h62
            refine CW.seq ?_
            refine CW.region ?_
            refine LW.v rfl rfl (Val.build [_, _, _, _, _, _, _, _, _] Tryd.zeroValue44 Tryd.underlying44 places44 rfl (by rfl)) ?_
            first | (refine LW.eN rfl (Eff.storeW rfl rfl (by repeat (first | exact .here | exact .inner .here | exact .inner (.inner .here) | apply Upd.there)) (by rfl) Tryd.sizeOf44 (by rfl)) ?_) | (refine LW.eN rfl (Eff.storeW rfl rfl (by repeat (first | exact .here | exact .inner .here | exact .inner (.inner .here) | apply Upd.there)) (by rfl) Tryd.sizeOf44 (by simp only [ownSl_v]; rfl)) ?_)
            intro _ _
            refine LW.v rfl rfl (Val.assign rfl) ?_
            refine LW.nil ?_
            refine PQ.seq ?_
            refine CW.ret ?_
            refine PQ.then_ret ?_
            refine PQ.retCT rfl rfl rfl (by repeat (first | exact .here | exact .inner .here | exact .inner (.inner .here) | refine .there ?_)) Tryd.isAgg44 (by exact Tryd.sizeOf44) ?_
            intro w' hw
            have hp : pLine u = none := pL_bad hW hx0 hx1 h24 hn
            exact ⟨(false, e0 0 0 0 (c0q 0), [], none, [], none), ⟨(fun h => by cases h), fun _ => hp, ⟨rfl, rfl⟩, ⟨rfl, rfl⟩, ⟨rfl, rfl, by unfold e0 Cq.small c0q; simp⟩, by simp, by simp⟩, rfl, (hw.pick (ss := []) .nil).perm (by first | exact .refl _ | (simp [V.ownG, V.ownS]; done))⟩
          · replace h62 := bF h62
            obtain ⟨n, hn⟩ : ∃ n, numF x1 = some n := Option.isSome_iff_exists.1 (by first | exact h62 | simpa using h62)
            rw [hn]
            rw [Option.getD_some]
            refine CW.skip ?_
            refine PQ.seq ?_
            refine CW.seq ?_
            refine CW.block ?_
            refine CW.seq ?_
            refine CW.regJoin (fun b : Bool => (b = true → x0 = [115, 116, 101, 112] ∧ W.length = 2) ∧ (b = false → ¬ (x0 = [115, 116, 101, 112] ∧ W.length = 2))) (fun b => [(0, str u), (2, .pointer (some ⟨b2, 0, none⟩)), (3, .bool false), (4, ownV W.length (some (g, rest, cap))), (9, .int .i64 (n : Nat)), (10, .bool true), (64, .bool b)]) (fun _ => [[(b2, .cells [.int .i64 0, .int .i64 0, .int .i64 0, .int .i64 0, .string ⟨#[]⟩, .string ⟨#[]⟩, .string ⟨#[]⟩, .slice none 0 0, .slice none 0 0].toArray 44 (0, 0))], [(g, .cells (stC W ++ rest).toArray 9 (0, 0))]]) ?_ ?_
            · refine CW.region ?_
              refine LW.v rfl rfl (Val.move rfl) ?_
              first | (refine LW.v rfl rfl (Val.indexAddrN rfl rfl Tryd.underlying73 Tryd.sizeOf9 (by omega)) ?_) | (refine LW.v rfl rfl (Val.indexAddr rfl rfl Tryd.underlying73 Tryd.sizeOf9 (by omega) (by omega)) ?_)
              refine LW.v rfl rfl (Val.load (T := 9) (v := str x0) rfl Tryd.isAgg9 (by repeat (first | exact .here | exact .inner .here | exact .inner (.inner .here) | refine .there ?_)) (stC_at hx0)) ?_
              refine LW.v rfl rfl (Val.eqStr rfl rfl) ?_
              refine LW.v rfl rfl (Val.move rfl) ?_
              refine LW.split (d := 69) rfl (fun h69 => ?_) (fun h69 => ?_)
              · replace h69 := bT h69
                refine LW.v rfl rfl (Val.move rfl) ?_
                refine LW.v rfl rfl (Val.lenSl rfl Tryd.underlying73) ?_
                refine LW.v rfl rfl (Val.cmp rfl rfl rfl) ?_
                refine LW.split (d := 72) rfl (fun h72 => ?_) (fun h72 => ?_)
                · replace h72 := bT h72
                  refine LW.v rfl rfl (Val.pick_t rfl rfl) ?_
                  refine LW.v rfl rfl (Val.assign rfl) ?_
                  refine LW.nil ?_
                  refine PQ.joined (true) (⟨fun _ => ⟨h69, by omega⟩, (fun h => by cases h)⟩) (by repeat (first | exact trivial | refine ⟨rfl, ?_⟩)) (by repeat (first | exact .nil | apply Pick.cons | exact .here | apply Ext.there))
                · replace h72 := bF h72
                  refine LW.v rfl rfl (Val.pick_t rfl rfl) ?_
                  refine LW.v rfl rfl (Val.assign rfl) ?_
                  refine LW.nil ?_
                  refine PQ.joined (false) (⟨(fun h => by cases h), fun _ h => absurd h.2 (by omega)⟩) (by repeat (first | exact trivial | refine ⟨rfl, ?_⟩)) (by repeat (first | exact .nil | apply Pick.cons | exact .here | apply Ext.there))
              · replace h69 := bF h69
                refine LW.p rfl rfl ?_
                refine LW.p rfl rfl ?_
                refine LW.p rfl rfl ?_
                refine LW.v rfl rfl (Val.pick_f rfl rfl) ?_
                refine LW.v rfl rfl (Val.assign rfl) ?_
                refine LW.nil ?_
                refine PQ.joined (false) (⟨(fun h => by cases h), fun _ h => h69 h.1⟩) (by repeat (first | exact trivial | refine ⟨rfl, ?_⟩)) (by repeat (first | exact .nil | apply Pick.cons | exact .here | apply Ext.there))
            · intro bb64 hb64
              refine PQ.seq ?_
              refine CW.cond rfl (fun h64 => ?_) (fun h64 => ?_)
              · replace h64 := bT h64
                have e64 := hb64.1 h64
                refine CW.seq ?_
                refine CW.region ?_
                refine LW.v rfl rfl (Val.move rfl) ?_
                refine LW.v rfl rfl (Val.build [_, _, _, _, _, _, _, _, _] Tryd.zeroValue44 Tryd.underlying44 places44 rfl (by rfl)) ?_
                first | (refine LW.eN rfl (Eff.storeW rfl rfl (by repeat (first | exact .here | exact .inner .here | exact .inner (.inner .here) | apply Upd.there)) (by rfl) Tryd.sizeOf44 (by rfl)) ?_) | (refine LW.eN rfl (Eff.storeW rfl rfl (by repeat (first | exact .here | exact .inner .here | exact .inner (.inner .here) | apply Upd.there)) (by rfl) Tryd.sizeOf44 (by simp only [ownSl_v]; rfl)) ?_)
                intro _ _
                refine LW.v rfl rfl (Val.assign rfl) ?_
                refine LW.nil ?_
                refine PQ.seq ?_
                refine CW.ret ?_
                refine PQ.in_ret ?_
                refine PQ.then_ret ?_
                refine PQ.retCT rfl rfl rfl (by repeat (first | exact .here | exact .inner .here | exact .inner (.inner .here) | refine .there ?_)) Tryd.isAgg44 (by exact Tryd.sizeOf44) ?_
                intro w' hw
                have hp : pLine u = some (e0 2 (n : Nat) 0 (c0q 0), [], []) := by rw [pL_step hW hx0 hx1 hn e64.1, if_pos e64.2]
                exact ⟨(true, e0 2 (n : Nat) 0 (c0q 0), [], none, [], none), ⟨fun _ => hp, (fun h => by cases h), ⟨rfl, rfl⟩, ⟨rfl, rfl⟩, ⟨rfl, rfl, by unfold e0 Cq.small c0q; simp⟩, by simp, by simp⟩, rfl, (hw.pick (ss := []) .nil).perm (by first | exact .refl _ | (simp [V.ownG, V.ownS]; done))⟩
              · replace h64 := bF h64
                have n64 := hb64.2 h64
                refine CW.seq ?_
                refine CW.regJoin (fun b : Bool => (b = true → x0 = [98, 97, 99, 107] ∧ W.length = 2) ∧ (b = false → ¬ (x0 = [98, 97, 99, 107] ∧ W.length = 2))) (fun b => [(0, str u), (2, .pointer (some ⟨b2, 0, none⟩)), (3, .bool false), (4, ownV W.length (some (g, rest, cap))), (9, .int .i64 (n : Nat)), (10, .bool true), (76, .bool b)]) (fun _ => [[(b2, .cells [.int .i64 0, .int .i64 0, .int .i64 0, .int .i64 0, .string ⟨#[]⟩, .string ⟨#[]⟩, .string ⟨#[]⟩, .slice none 0 0, .slice none 0 0].toArray 44 (0, 0))], [(g, .cells (stC W ++ rest).toArray 9 (0, 0))]]) ?_ ?_
                · refine CW.region ?_
                  refine LW.v rfl rfl (Val.move rfl) ?_
                  first | (refine LW.v rfl rfl (Val.indexAddrN rfl rfl Tryd.underlying73 Tryd.sizeOf9 (by omega)) ?_) | (refine LW.v rfl rfl (Val.indexAddr rfl rfl Tryd.underlying73 Tryd.sizeOf9 (by omega) (by omega)) ?_)
                  refine LW.v rfl rfl (Val.load (T := 9) (v := str x0) rfl Tryd.isAgg9 (by repeat (first | exact .here | exact .inner .here | exact .inner (.inner .here) | refine .there ?_)) (stC_at hx0)) ?_
                  refine LW.v rfl rfl (Val.eqStr rfl rfl) ?_
                  refine LW.v rfl rfl (Val.move rfl) ?_
                  refine LW.split (d := 81) rfl (fun h81 => ?_) (fun h81 => ?_)
                  · replace h81 := bT h81
                    refine LW.v rfl rfl (Val.move rfl) ?_
                    refine LW.v rfl rfl (Val.lenSl rfl Tryd.underlying73) ?_
                    refine LW.v rfl rfl (Val.cmp rfl rfl rfl) ?_
                    refine LW.split (d := 84) rfl (fun h84 => ?_) (fun h84 => ?_)
                    · replace h84 := bT h84
                      refine LW.v rfl rfl (Val.pick_t rfl rfl) ?_
                      refine LW.v rfl rfl (Val.assign rfl) ?_
                      refine LW.nil ?_
                      refine PQ.joined (true) (⟨fun _ => ⟨h81, by omega⟩, (fun h => by cases h)⟩) (by repeat (first | exact trivial | refine ⟨rfl, ?_⟩)) (by repeat (first | exact .nil | apply Pick.cons | exact .here | apply Ext.there))
                    · replace h84 := bF h84
                      refine LW.v rfl rfl (Val.pick_t rfl rfl) ?_
                      refine LW.v rfl rfl (Val.assign rfl) ?_
                      refine LW.nil ?_
                      refine PQ.joined (false) (⟨(fun h => by cases h), fun _ h => absurd h.2 (by omega)⟩) (by repeat (first | exact trivial | refine ⟨rfl, ?_⟩)) (by repeat (first | exact .nil | apply Pick.cons | exact .here | apply Ext.there))
                  · replace h81 := bF h81
                    refine LW.p rfl rfl ?_
                    refine LW.p rfl rfl ?_
                    refine LW.p rfl rfl ?_
                    refine LW.v rfl rfl (Val.pick_f rfl rfl) ?_
                    refine LW.v rfl rfl (Val.assign rfl) ?_
                    refine LW.nil ?_
                    refine PQ.joined (false) (⟨(fun h => by cases h), fun _ h => h81 h.1⟩) (by repeat (first | exact trivial | refine ⟨rfl, ?_⟩)) (by repeat (first | exact .nil | apply Pick.cons | exact .here | apply Ext.there))
                · intro bb76 hb76
                  refine PQ.seq ?_
                  refine CW.cond rfl (fun h76 => ?_) (fun h76 => ?_)
                  · replace h76 := bT h76
                    have e76 := hb76.1 h76
                    refine CW.seq ?_
                    refine CW.region ?_
                    refine LW.v rfl rfl (Val.move rfl) ?_
                    refine LW.v rfl rfl (Val.build [_, _, _, _, _, _, _, _, _] Tryd.zeroValue44 Tryd.underlying44 places44 rfl (by rfl)) ?_
                    first | (refine LW.eN rfl (Eff.storeW rfl rfl (by repeat (first | exact .here | exact .inner .here | exact .inner (.inner .here) | apply Upd.there)) (by rfl) Tryd.sizeOf44 (by rfl)) ?_) | (refine LW.eN rfl (Eff.storeW rfl rfl (by repeat (first | exact .here | exact .inner .here | exact .inner (.inner .here) | apply Upd.there)) (by rfl) Tryd.sizeOf44 (by simp only [ownSl_v]; rfl)) ?_)
                    intro _ _
                    refine LW.v rfl rfl (Val.assign rfl) ?_
                    refine LW.nil ?_
                    refine PQ.seq ?_
                    refine CW.ret ?_
                    refine PQ.in_ret ?_
                    refine PQ.then_ret ?_
                    refine PQ.retCT rfl rfl rfl (by repeat (first | exact .here | exact .inner .here | exact .inner (.inner .here) | refine .there ?_)) Tryd.isAgg44 (by exact Tryd.sizeOf44) ?_
                    intro w' hw
                    have hp : pLine u = some (e0 4 0 (n : Nat) (c0q 0), [], []) := by rw [pL_back hW hx0 hx1 hn e76.1, if_pos e76.2]
                    exact ⟨(true, e0 4 0 (n : Nat) (c0q 0), [], none, [], none), ⟨fun _ => hp, (fun h => by cases h), ⟨rfl, rfl⟩, ⟨rfl, rfl⟩, ⟨rfl, rfl, by unfold e0 Cq.small c0q; simp⟩, by simp, by simp⟩, rfl, (hw.pick (ss := []) .nil).perm (by first | exact .refl _ | (simp [V.ownG, V.ownS]; done))⟩
                  · replace h76 := bF h76
                    have n76 := hb76.2 h76
                    refine CW.seq ?_
                    refine CW.regJoin (fun b : Bool => (b = true → x0 = [99, 97, 108, 108] ∧ 3 ≤ W.length) ∧ (b = false → ¬ (x0 = [99, 97, 108, 108] ∧ 3 ≤ W.length))) (fun b => [(0, str u), (2, .pointer (some ⟨b2, 0, none⟩)), (3, .bool false), (4, ownV W.length (some (g, rest, cap))), (9, .int .i64 (n : Nat)), (10, .bool true), (88, .bool b)]) (fun _ => [[(b2, .cells [.int .i64 0, .int .i64 0, .int .i64 0, .int .i64 0, .string ⟨#[]⟩, .string ⟨#[]⟩, .string ⟨#[]⟩, .slice none 0 0, .slice none 0 0].toArray 44 (0, 0))], [(g, .cells (stC W ++ rest).toArray 9 (0, 0))]]) ?_ ?_
                    · refine CW.region ?_
                      refine LW.v rfl rfl (Val.move rfl) ?_
                      first | (refine LW.v rfl rfl (Val.indexAddrN rfl rfl Tryd.underlying73 Tryd.sizeOf9 (by omega)) ?_) | (refine LW.v rfl rfl (Val.indexAddr rfl rfl Tryd.underlying73 Tryd.sizeOf9 (by omega) (by omega)) ?_)
                      refine LW.v rfl rfl (Val.load (T := 9) (v := str x0) rfl Tryd.isAgg9 (by repeat (first | exact .here | exact .inner .here | exact .inner (.inner .here) | refine .there ?_)) (stC_at hx0)) ?_
                      refine LW.v rfl rfl (Val.eqStr rfl rfl) ?_
                      refine LW.v rfl rfl (Val.move rfl) ?_
                      refine LW.split (d := 93) rfl (fun h93 => ?_) (fun h93 => ?_)
                      · replace h93 := bT h93
                        refine LW.v rfl rfl (Val.move rfl) ?_
                        refine LW.v rfl rfl (Val.lenSl rfl Tryd.underlying73) ?_
                        refine LW.v rfl rfl (Val.cmp rfl rfl rfl) ?_
                        refine LW.split (d := 96) rfl (fun h96 => ?_) (fun h96 => ?_)
                        · replace h96 := bT h96
                          refine LW.v rfl rfl (Val.pick_t rfl rfl) ?_
                          refine LW.v rfl rfl (Val.assign rfl) ?_
                          refine LW.nil ?_
                          refine PQ.joined (true) (⟨fun _ => ⟨h93, by omega⟩, (fun h => by cases h)⟩) (by repeat (first | exact trivial | refine ⟨rfl, ?_⟩)) (by repeat (first | exact .nil | apply Pick.cons | exact .here | apply Ext.there))
                        · replace h96 := bF h96
                          refine LW.v rfl rfl (Val.pick_t rfl rfl) ?_
                          refine LW.v rfl rfl (Val.assign rfl) ?_
                          refine LW.nil ?_
                          refine PQ.joined (false) (⟨(fun h => by cases h), fun _ h => absurd h.2 (by omega)⟩) (by repeat (first | exact trivial | refine ⟨rfl, ?_⟩)) (by repeat (first | exact .nil | apply Pick.cons | exact .here | apply Ext.there))
                      · replace h93 := bF h93
                        refine LW.p rfl rfl ?_
                        refine LW.p rfl rfl ?_
                        refine LW.p rfl rfl ?_
                        refine LW.v rfl rfl (Val.pick_f rfl rfl) ?_
                        refine LW.v rfl rfl (Val.assign rfl) ?_
                        refine LW.nil ?_
                        refine PQ.joined (false) (⟨(fun h => by cases h), fun _ h => h93 h.1⟩) (by repeat (first | exact trivial | refine ⟨rfl, ?_⟩)) (by repeat (first | exact .nil | apply Pick.cons | exact .here | apply Ext.there))
                    · intro bb88 hb88
                      refine PQ.seq ?_
                      refine CW.cond rfl (fun h88 => ?_) (fun h88 => ?_)
                      · replace h88 := bT h88
                        have e88 := hb88.1 h88
                        refine CW.seq ?_
                        refine CW.region ?_
                        refine LW.v rfl rfl (Val.move rfl) ?_
                        refine LW.v rfl rfl (Val.slice 2 W.length cap rfl Tryd.underlying73 Tryd.sizeOf9 ⟨_, rfl⟩ rfl rfl (fun _ => rfl) (by omega) (by omega) (Nat.le_refl _)) ?_
                        refine LW.re 100 (.slice (some ⟨g, 0 + 2 * 1, none⟩) (W.drop 2).length (cap - 2)) rfl (by rw [if_neg (by omega), List.length_drop]) ?_
                        refine LW.e rfl rfl (Eff.callM ([]) .nil rfl Tryd.call63 (fun w hw hs0 => rcalled_c _ (cap - 2) (W.drop 2) (by intro e; have := List.drop_eq_nil_iff.1 e; omega) (by rw [List.length_drop]; omega) (fun z hz => by have := hWx z (List.mem_of_mem_drop hz); omega) (by rw [List.length_drop]; omega) w (slAt_drop (V.slAt_flat (sz := 1) (enc := stE) (l := W) (r := rest) hw (fun _ => rfl) (by rw [stC_flat]) (show InS (g, .cells (stC W ++ rest).toArray 9 (0, 0)) _ from (by repeat (first | exact .here | exact .inner .here | exact .inner (.inner .here) | refine .there ?_)))) 2))) ?_
                        intro y hy
                        refine LW.v rfl rfl (Val.move rfl) ?_
                        refine LW.v rfl rfl (Val.extract rfl rfl) ?_
                        refine LW.v rfl rfl (Val.extract rfl rfl) ?_
                        refine LW.e rfl rfl (Eff.allocA (by exact Tryd.zeroValue41)) ?_
                        intro b11 _
                        refine LW.eN rfl (Eff.storeW (cs := (y.2.1.re (ownSl y.2.2.1.length y.2.2.2)).cells) rfl rfl (by repeat (first | exact .here | exact .inner .here | exact .inner (.inner .here) | apply Upd.there)) (by rfl) Tryd.sizeOf41 (by rfl)) ?_
                        intro _ _
                        refine LW.v rfl rfl (Val.assign rfl) ?_
                        refine LW.nil ?_
                        refine PQ.seq ?_
                        refine CW.seq ?_
                        refine CW.region ?_
                        refine LW.v rfl rfl (Val.move rfl) ?_
                        first | (refine LW.v rfl rfl (Val.loadW rfl Tryd.isAgg41 (by repeat (first | exact .here | exact .inner .here | exact .inner (.inner .here) | refine .there ?_)) (by exact Tryd.sizeOf41)) ?_) | (refine LW.v rfl rfl (Val.loadA [_, _, _, _, _] rfl Tryd.isAgg41 (by repeat (first | exact .here | exact .inner .here | exact .inner (.inner .here) | refine .there ?_)) (by rfl) Tryd.sizeOf41) ?_)
                        refine LW.v rfl rfl (Val.build [_, _, _, _, _, _, _, _, _] Tryd.zeroValue44 Tryd.underlying44 places44 rfl (by rfl)) ?_
                        refine LW.v rfl rfl (Val.move rfl) ?_
                        first | (refine LW.eN rfl (Eff.storeW rfl rfl (by repeat (first | exact .here | exact .inner .here | exact .inner (.inner .here) | apply Upd.there)) (by rfl) Tryd.sizeOf44 (by rfl)) ?_) | (refine LW.eN rfl (Eff.storeW rfl rfl (by repeat (first | exact .here | exact .inner .here | exact .inner (.inner .here) | apply Upd.there)) (by rfl) Tryd.sizeOf44 (by simp only [ownSl_v]; rfl)) ?_)
                        intro _ _
                        refine LW.v rfl rfl (Val.assign rfl) ?_
                        refine LW.nil ?_
                        refine PQ.seq ?_
                        refine CW.ret ?_
                        refine PQ.in_ret ?_
                        refine PQ.then_ret ?_
                        refine PQ.retCT rfl rfl rfl (by repeat (first | exact .here | exact .inner .here | exact .inner (.inner .here) | refine .there ?_)) Tryd.isAgg44 (by exact Tryd.sizeOf44) ?_
                        intro w' hw
                        have hp := pL_call hW hx0 hx1 hn e88.1
                        exact ⟨(y.1, e0 1 (n : Nat) 0 y.2.1, y.2.2.1, y.2.2.2, [], none), ⟨fun h8 => by rw [hp, hy.1 h8]; rfl, fun h8 => by rw [hp, hy.2.1 h8]; rfl, hy.2.2.1, ⟨rfl, rfl⟩, ⟨hy.2.2.2.1.1, rfl, hy.2.2.2.1.2⟩, hy.2.2.2.2, by simp⟩, rfl, (hw.pick (ss := [ownG 41 (y.2.2.1.flatMap Cq.cells) y.2.2.2]) (by repeat (first | exact .nil | apply Pick.cons | exact .here | apply Ext.there))).perm (by first | exact .refl _ | (simp [V.ownG, V.ownS]; done))⟩
                      · replace h88 := bF h88
                        have n88 := hb88.2 h88
                        refine CW.skip ?_
                        refine PQ.in_normal ?_
                        refine PQ.seq ?_
                        refine CW.seq ?_
                        refine CW.region ?_
                        refine LW.v rfl rfl (Val.build [_, _, _, _, _, _, _, _, _] Tryd.zeroValue44 Tryd.underlying44 places44 rfl (by rfl)) ?_
                        first | (refine LW.eN rfl (Eff.storeW rfl rfl (by repeat (first | exact .here | exact .inner .here | exact .inner (.inner .here) | apply Upd.there)) (by rfl) Tryd.sizeOf44 (by rfl)) ?_) | (refine LW.eN rfl (Eff.storeW rfl rfl (by repeat (first | exact .here | exact .inner .here | exact .inner (.inner .here) | apply Upd.there)) (by rfl) Tryd.sizeOf44 (by simp only [ownSl_v]; rfl)) ?_)
                        intro _ _
                        refine LW.v rfl rfl (Val.assign rfl) ?_
                        refine LW.nil ?_
                        refine PQ.seq ?_
                        refine CW.ret ?_
                        refine PQ.retCT rfl rfl rfl (by repeat (first | exact .here | exact .inner .here | exact .inner (.inner .here) | refine .there ?_)) Tryd.isAgg44 (by exact Tryd.sizeOf44) ?_
                        intro w' hw
                        have hp : pLine u = none := pL_none hW hx0 hx1 h24 hn n64 n76 n88
                        exact ⟨(false, e0 0 0 0 (c0q 0), [], none, [], none), ⟨(fun h => by cases h), fun _ => hp, ⟨rfl, rfl⟩, ⟨rfl, rfl⟩, ⟨rfl, rfl, by unfold e0 Cq.small c0q; simp⟩, by simp, by simp⟩, rfl, (hw.pick (ss := []) .nil).perm (by first | exact .refl _ | (simp [V.ownG, V.ownS]; done))⟩
end Go.Proofs.YtagliemeolngiaaDoor

/- The document's reading of a text. -/
namespace Go.Proofs.YtagliemeolngiaaDoor
open Go Go.RowKit V
set_option linter.unusedVariables false
set_option maxRecDepth 100000
open V (str byC ownV ownG ownS ownOk)
theorem lns_spl : ∀ (n : Nat) (s : List UInt8), s.length ≤ n → ∃ init x, spl 10 s = init ++ [x] ∧ (x = [] → lns s = init) ∧ (x ≠ [] → lns s = init ++ [x])
  | 0, s, h => by
    obtain rfl : s = [] := List.length_eq_zero_iff.1 (by omega)
    exact ⟨[], [], rfl, fun _ => rfl, fun h => absurd rfl h⟩
  | n + 1, s, h => by
    by_cases hs : s = []
    · subst hs; exact ⟨[], [], rfl, fun _ => rfl, fun h => absurd rfl h⟩
    · have h1 := cutF_lt 10 s hs
      have h2 := cutF_parts 10 s
      rw [lns_cons hs, spl_cut]
      cases hc : (cutF 10 s).2.2 with
      | true =>
        obtain ⟨init, x, h3, h4, h5⟩ := lns_spl n (cutF 10 s).2.1 (by omega)
        refine ⟨(cutF 10 s).1 :: init, x, by rw [if_pos rfl, h3]; rfl, fun hx => by rw [h4 hx], fun hx => by rw [h5 hx]; rfl⟩
      | false =>
        rw [hc] at h2
        have h3 : (cutF 10 s).1 = s := by simpa using h2.1
        have h4 : (cutF 10 s).2.1 = [] := h2.2 rfl
        rw [h3, h4, lns_nil]
        exact ⟨[], s, by simp, fun hx => absurd hx hs, fun _ => rfl⟩
theorem rparse_c (s0 : List UInt8) (hl : s0.length ≤ 66000) (w : World) : Calls Tryd.prog 25 [str s0].toArray w fun e w' => ∃ y : V.OwnO × List Evq × V.Seg, (ownOk 9 y.2.1.length (y.2.1.flatMap Evq.cells) y.1 ∧ (∀ w, Sat [y.2.2] w → PsL w (parseF s0).1 y.2.1) ∧ y.2.1.length = (parseF s0).1.length ∧ (parseF s0).1.length ≤ 65536 ∧ ∀ d ∈ (parseF s0).1, AOk d) ∧ e = .returned (.tuple #[ownV y.2.1.length y.1, .int .i64 (parseF s0).2.1, .int .i64 (parseF s0).2.2]) ∧ Hp ⟨w, []⟩ [ownG 44 (y.2.1.flatMap Evq.cells) y.1, y.2.2] w' := by
  refine V.calls [] Tryd.func25 rfl Tryd.ntmps25 (Nat.le_of_ble_eq_true rfl) (V.sat_nil _) ?_
  refine CW.seq ?_
  refine CW.region ?_
  refine LW.v rfl rfl (Val.assign rfl) ?_
  refine LW.v rfl rfl (Val.assign rfl) ?_
  refine LW.v rfl rfl (Val.assign rfl) ?_
  refine LW.nil ?_
  refine PQ.seq ?_
  refine CW.seq ?_
  refine CW.seq ?_
  refine CW.region ?_
  refine LW.v rfl rfl (Val.move rfl) ?_
  refine LW.v rfl rfl (Val.lenStr rfl Tryd.underlying9) ?_
  refine LW.v rfl rfl (Val.cmp rfl rfl rfl) ?_
  refine LW.nil ?_
  refine PQ.seq ?_
  refine CW.cond rfl (fun h12 => ?_) (fun h12 => ?_)
  · replace h12 := bT h12
    refine CW.seq ?_
    refine CW.region ?_
    refine LW.v rfl rfl (Val.assign rfl) ?_
    refine LW.v rfl rfl (Val.assign rfl) ?_
    refine LW.v rfl rfl (Val.assign rfl) ?_
    refine LW.nil ?_
    refine PQ.seq ?_
    refine CW.ret ?_
    refine PQ.then_ret ?_
    refine PQ.ret3 rfl rfl rfl rfl ?_
    intro w' hw
    have hp : parseF s0 = ([], 0, 5) := by unfold parseF; rw [if_pos (by omega)]
    rw [hp]
    exact ⟨(none, [], []), ⟨⟨rfl, rfl⟩, fun w _ => ⟨rfl, by simp⟩, rfl, by simp, by simp⟩, rfl, (hw.pick (ss := []) .nil).perm (.refl _)⟩
  · replace h12 := bF h12
    have hlen : s0.length ≤ 65536 := by omega
    refine CW.skip ?_
    refine PQ.seq ?_
    refine CW.seq ?_
    refine CW.region ?_
    refine LW.v rfl rfl (Val.move rfl) ?_
    refine LW.e rfl rfl (Eff.callM ([]) .nil rfl Tryd.call50 (fun w hw hs0 => rsplit_c s0 10 (by omega) w)) ?_
    intro o ho
    have hWx := fun x (hx : x ∈ spl 10 s0) => spl_all 10 s0 x hx
    have hWn := spl_ne 10 s0
    have hWc := spl_len 10 s0
    obtain ⟨init, xl, hW0, hl1, hl2⟩ := lns_spl _ s0 (Nat.le_refl _)
    obtain ⟨W, hW⟩ : ∃ W, W = spl 10 s0 := ⟨_, rfl⟩
    rw [← hW] at ho hWx hWn hWc hW0
    rw [← hW]
    have hWp := List.length_pos_iff.2 hWn
    obtain ⟨⟨g, rest, cap⟩, rfl⟩ := own_some ho hWp
    rw [V.ownG_some]
    have hWr : W.length ≤ cap := by have e := ho.2; simp only at e; rw [stC_len] at e; omega
    have hWi : W.length = init.length + 1 := by rw [hW0]; simp
    have hxl : W[W.length - 1]? = some xl := by rw [hWi, hW0]; simp
    refine LW.v rfl rfl (Val.assign rfl) ?_
    refine LW.nil ?_
    refine PQ.seq ?_
    refine CW.seq ?_
    refine CW.join (fun _ : Unit => (∀ (i : Nat) (x : List UInt8), (lns s0)[i]? = some x → W[i]? = some x) ∧ (lns s0).length ≤ W.length) (fun _ => [(0, str s0), (5, .slice (some ⟨g, 0, none⟩) (lns s0).length cap)]) (fun _ => [[(g, .cells (stC W ++ rest).toArray 9 (0, 0))]]) ?_ ?_
    · refine CW.seq ?_
      refine CW.region ?_
      refine LW.v rfl rfl (Val.move rfl) ?_
      refine LW.v rfl rfl (Val.move rfl) ?_
      refine LW.v rfl rfl (Val.lenSl rfl Tryd.underlying73) ?_
      refine LW.v rfl rfl (Val.ar rfl rfl rfl (IntWalk.i64_in _ (by omega))) ?_
      refine LW.re 18 (.int .i64 ((W.length - 1 : Nat) : Int)) rfl (by congr 1 <;> omega) ?_
      first | (refine LW.v rfl rfl (Val.indexAddrN rfl rfl Tryd.underlying73 Tryd.sizeOf9 (by omega)) ?_) | (refine LW.v rfl rfl (Val.indexAddr rfl rfl Tryd.underlying73 Tryd.sizeOf9 (by omega) (by omega)) ?_)
      refine LW.v rfl rfl (Val.load (T := 9) (v := str xl) rfl Tryd.isAgg9 (by repeat (first | exact .here | exact .inner .here | exact .inner (.inner .here) | refine .there ?_)) (stC_at hxl)) ?_
      refine LW.v rfl rfl (Val.eqStr rfl rfl) ?_
      refine LW.nil ?_
      refine PQ.seq ?_
      refine CW.cond rfl (fun h21 => ?_) (fun h21 => ?_)
      · replace h21 := bT h21
        have hls := hl1 h21
        refine CW.region ?_
        refine LW.v rfl rfl (Val.move rfl) ?_
        refine LW.v rfl rfl (Val.move rfl) ?_
        refine LW.v rfl rfl (Val.lenSl rfl Tryd.underlying73) ?_
        refine LW.v rfl rfl (Val.ar rfl rfl rfl (IntWalk.i64_in _ (by omega))) ?_
        refine LW.re 25 (.int .i64 ((W.length - 1 : Nat) : Int)) rfl (by congr 1 <;> omega) ?_
        refine LW.v rfl rfl (Val.slice 0 (W.length - 1) cap rfl Tryd.underlying73 Tryd.sizeOf9 rfl ⟨_, rfl⟩ rfl (fun h => by cases h) (by omega) (by omega) (Nat.le_refl _)) ?_
        refine LW.re 26 (.slice (some ⟨g, 0, none⟩) (lns s0).length cap) rfl (by rw [if_neg (by omega), hls, show init.length = W.length - 1 by omega]; rfl) ?_
        refine LW.v rfl rfl (Val.assign rfl) ?_
        refine LW.nil ?_
        refine PQ.joinedC (()) (⟨fun i x h8 => by
          first
          | (rw [hls] at h8; rw [hW0, List.getElem?_append_left (List.getElem?_eq_some_iff.1 h8).1]; exact h8)
          | (rw [hls] at h8; rw [hW0]; exact h8), by rw [hls, hWi]; first | omega | (simp; done)⟩) (by repeat (first | exact trivial | refine ⟨rfl, ?_⟩)) (by repeat (first | exact .nil | apply Pick.cons | exact .here | apply Ext.there))
      · replace h21 := bF h21
        have hls := hl2 h21
        have hlw : (lns s0).length = W.length := by rw [hls, hW0]
        refine CW.re 5 (.slice (some ⟨g, 0, none⟩) (lns s0).length cap) rfl (by rw [hlw]; rfl) ?_
        refine CW.skip ?_
        refine PQ.joinedC (()) (⟨fun i x h8 => by
          first
          | (rw [hls] at h8; rw [hW0, List.getElem?_append_left (List.getElem?_eq_some_iff.1 h8).1]; exact h8)
          | (rw [hls] at h8; rw [hW0]; exact h8), by rw [hls, hWi]; first | omega | (simp; done)⟩) (by repeat (first | exact trivial | refine ⟨rfl, ?_⟩)) (by repeat (first | exact .nil | apply Pick.cons | exact .here | apply Ext.there))
    · rintro _ ⟨hpre, hlle⟩
      refine PQ.seq ?_
      refine CW.seq ?_
      refine CW.region ?_
      refine LW.v rfl rfl (Val.assign rfl) ?_
      refine LW.nil ?_
      refine PQ.seq ?_
      refine CW.seq ?_
      refine CW.seq ?_
      refine CW.region ?_
      refine LW.v rfl rfl (Val.assign rfl) ?_
      refine LW.nil ?_
      refine PQ.seq ?_
      refine CW.block ?_
      refine V.CW.perm (sg' := [ownG 44 (([] : List Evq).flatMap Evq.cells) none, [], [(g, .cells (stC W ++ rest).toArray 9 (0, 0))]]) ?_ (.refl _)
      refine CW.loop (γ := Nat × V.OwnO × List Evq × V.Seg × List AEv) (fun k => [(0, str s0), (5, .slice (some ⟨g, 0, none⟩) (lns s0).length cap), (6, ownV k.2.2.1.length k.2.1), (7, .int .i64 (k.1 : Nat))]) (fun k => [ownG 44 (k.2.2.1.flatMap Evq.cells) k.2.1, k.2.2.2.1, [(g, .cells (stC W ++ rest).toArray 9 (0, 0))]]) (fun k => k.1 ≤ (lns s0).length ∧ ownOk 9 k.2.2.1.length (k.2.2.1.flatMap Evq.cells) k.2.1 ∧ (k.2.2.1.length = k.2.2.2.2.length ∧ k.2.2.2.2.length = k.1) ∧ (∀ w, Sat [k.2.2.2.1] w → PsL w k.2.2.2.2 k.2.2.1) ∧ (∀ d ∈ k.2.2.2.2, AOk d) ∧ pAll (lns s0) 1 = pThen k.2.2.2.2 (pAll ((lns s0).drop k.1) (k.1 + 1))) (fun k => (lns s0).length - k.1) ((0, none, [], [], [])) ⟨Nat.zero_le _, ⟨rfl, rfl⟩, ⟨rfl, rfl⟩, fun w _ => ⟨rfl, by simp⟩, by simp, by simp only [List.drop_zero]; cases pAll (lns s0) 1 <;> simp [pThen]⟩ (by repeat (first | exact trivial | refine ⟨rfl, ?_⟩)) (by repeat (first | exact .nil | apply Pick.cons | exact .here | apply Ext.there)) ?_
      intro k
      rintro ⟨hk1, hk2, ⟨hkD, hkN⟩, hk4, hkA, hks⟩
      have hlc := lns_len _ s0 (Nat.le_refl _)
      refine CW.seq ?_
      refine CW.seq ?_
      refine CW.region ?_
      refine LW.v rfl rfl (Val.move rfl) ?_
      refine LW.v rfl rfl (Val.move rfl) ?_
      refine LW.v rfl rfl (Val.lenSl rfl Tryd.underlying73) ?_
      refine LW.v rfl rfl (Val.cmp rfl rfl rfl) ?_
      refine LW.nil ?_
      refine PQ.seq ?_
      refine CW.cond rfl (fun h30 => ?_) (fun h30 => ?_)
      · replace h30 := bT h30
        obtain ⟨x, hx⟩ : ∃ x, (lns s0)[k.1]? = some x := ⟨(lns s0)[k.1]'(by omega), by simp⟩
        have hdr := drop_atL hx
        refine CW.skip ?_
        refine PQ.seq ?_
        refine CW.seq ?_
        refine CW.block ?_
        refine CW.seq ?_
        refine CW.region ?_
        refine LW.v rfl rfl (Val.move rfl) ?_
        refine LW.v rfl rfl (Val.move rfl) ?_
        first | (refine LW.v rfl rfl (Val.indexAddrN rfl rfl Tryd.underlying73 Tryd.sizeOf9 (by omega)) ?_) | (refine LW.v rfl rfl (Val.indexAddr rfl rfl Tryd.underlying73 Tryd.sizeOf9 (by omega) (by omega)) ?_)
        refine LW.v rfl rfl (Val.load (T := 9) (v := str x) rfl Tryd.isAgg9 (by repeat (first | exact .here | exact .inner .here | exact .inner (.inner .here) | refine .there ?_)) (stC_at (hpre k.1 x hx))) ?_
        refine LW.e rfl rfl (Eff.callM ([]) .nil rfl Tryd.call51 (fun w hw hs0 => revent_c x (by have := hWx x (List.mem_of_getElem? (hpre k.1 x hx)); omega) w)) ?_
        intro z hz
        refine LW.v rfl rfl (Val.move rfl) ?_
        refine LW.v rfl rfl (Val.extract rfl rfl) ?_
        refine LW.v rfl rfl (Val.extract rfl rfl) ?_
        refine LW.e rfl rfl (Eff.allocA (by exact Tryd.zeroValue44)) ?_
        intro b8 _
        refine LW.eN rfl (Eff.storeW (cs := (z.2.1.re (ownSl z.2.2.1.length z.2.2.2.1) (ownSl z.2.2.2.2.1.length z.2.2.2.2.2)).cells) rfl rfl (by repeat (first | exact .here | exact .inner .here | exact .inner (.inner .here) | apply Upd.there)) (by rfl) Tryd.sizeOf44 (by rfl)) ?_
        intro _ _
        refine LW.v rfl rfl (Val.assign rfl) ?_
        refine LW.nil ?_
        refine PQ.seq ?_
        refine CW.seq ?_
        refine CW.seq ?_
        refine CW.region ?_
        refine LW.v rfl rfl (Val.move rfl) ?_
        refine LW.v rfl rfl (Val.not rfl) ?_
        refine LW.nil ?_
        refine PQ.seq ?_
        refine CW.cond rfl (fun h42 => ?_) (fun h42 => ?_)
        · replace h42 := bT h42
          refine CW.seq ?_
          refine CW.region ?_
          refine LW.v rfl rfl (Val.move rfl) ?_
          refine LW.v rfl rfl (Val.ar rfl rfl rfl (IntWalk.i64_in _ (by omega))) ?_
          refine LW.v rfl rfl (Val.assign rfl) ?_
          refine LW.v rfl rfl (Val.assign rfl) ?_
          refine LW.v rfl rfl (Val.assign rfl) ?_
          refine LW.nil ?_
          refine PQ.seq ?_
          refine CW.ret ?_
          refine PQ.then_ret ?_
          refine PQ.in_ret ?_
          refine PQ.then_ret ?_
          refine PQ.then_ret ?_
          refine PQ.in_ret ?_
          refine PQ.then_ret ?_
          refine PQ.ret3 rfl rfl rfl rfl ?_
          intro w' hw
          have hpl : pLine x = none := hz.2.1 h42
          have hp : parseF s0 = ([], ((k.1 + 1 : Nat) : Int), 3) := by
            unfold parseF
            rw [if_neg (by omega), hks, hdr]
            simp only [pAll, hpl, pThen]
          rw [hp]
          exact ⟨(none, [], []), ⟨⟨rfl, rfl⟩, fun w _ => ⟨rfl, by simp⟩, rfl, by simp, by simp⟩, rfl, (hw.pick (ss := []) .nil).perm (.refl _)⟩
        · replace h42 := bF h42
          have hpl : pLine x = some (z.2.1, z.2.2.1, z.2.2.2.2.1) := hz.1 (by first | exact h42 | simpa using h42)
          refine CW.skip ?_
          refine PQ.seq ?_
          refine CW.region ?_
          refine LW.v rfl rfl (Val.move rfl) ?_
          refine LW.v rfl rfl (Val.loadW (l := (z.2.1.re (ownSl z.2.2.1.length z.2.2.2.1) (ownSl z.2.2.2.2.1.length z.2.2.2.2.2)).cells) rfl Tryd.isAgg44 (by repeat (first | exact .here | exact .inner .here | exact .inner (.inner .here) | refine .there ?_)) (by exact Tryd.sizeOf44)) ?_
          refine LW.e rfl rfl (Eff.buildSlice (rfl) [_, _, _, _, _, _, _, _, _] Tryd.underlying28 Tryd.sizeOf44 (by exact Tryd.zeroValue44) rfl rfl rfl rfl (by rfl)) ?_
          intro b47 _
          refine LW.e rfl rfl (Eff.appendAny ((z.2.1.re (ownSl z.2.2.1.length z.2.2.2.1) (ownSl z.2.2.2.2.1.length z.2.2.2.2.2)).cells) (sz := 9) (bytes := 128) (z := .agg #[.int .i64 0, .int .i64 0, .int .i64 0, .int .i64 0, .string ⟨#[]⟩, .string ⟨#[]⟩, .string ⟨#[]⟩, .slice none 0 0, .slice none 0 0]) (xs := k.2.2.1.flatMap Evq.cells) (m0 := k.2.2.1.length) (o := k.2.1) (m := 1) (pk := [ownG 44 (k.2.2.1.flatMap Evq.cells) k.2.1]) rfl rfl Tryd.underlying28 (by kernel_rfl) rfl (by omega) (by repeat (first | exact .nil | apply Pick.cons | exact .here | apply Ext.there)) (by simp) hk2 (by rfl) (fun hm0 => ⟨b47, 0, rfl, fun w hw => V.range_of_block (o := 0) (cs := (z.2.1.re (ownSl z.2.2.1.length z.2.2.2.1) (ownSl z.2.2.2.2.1.length z.2.2.2.2.2)).cells) (r := []) (hw.own _ (show InS (b47, .cells ((z.2.1.re (ownSl z.2.2.1.length z.2.2.2.1) (ownSl z.2.2.2.2.1.length z.2.2.2.2.2)).cells).toArray 44 (0, 0)) _ from (by repeat (first | exact .here | exact .inner .here | exact .inner (.inner .here) | refine .there ?_))).mem) rfl⟩) (by rfl) (by omega) (by omega)) ?_
          intro o9 ho9
          refine LW.v rfl rfl (Val.assign rfl) ?_
          refine LW.nil ?_
          refine PQ.in_normal ?_
          refine PQ.seq ?_
          refine CW.region ?_
          refine LW.v rfl rfl (Val.move rfl) ?_
          refine LW.v rfl rfl (Val.ar rfl rfl rfl (IntWalk.i64_in _ (by omega))) ?_
          refine LW.v rfl rfl (Val.assign rfl) ?_
          refine LW.nil ?_
          have hpa : pAll (lns s0) 1 = pThen (k.2.2.2.2 ++ [(z.2.1, z.2.2.1, z.2.2.2.2.1)]) (pAll ((lns s0).drop (k.1 + 1)) (k.1 + 1 + 1)) := by
            rw [hks, hdr, pThen_one]
            simp only [pAll, hpl]
          refine PQ.segs (ss := [ownG 44 (k.2.2.1.flatMap Evq.cells ++ (z.2.1.re (ownSl z.2.2.1.length z.2.2.2.1) (ownSl z.2.2.2.2.1.length z.2.2.2.2.2)).cells) o9, k.2.2.2.1, ownG 41 (z.2.2.1.flatMap Cq.cells) z.2.2.2.1, ownG 3 (z.2.2.2.2.1.flatMap intC) z.2.2.2.2.2, [(g, .cells (stC W ++ rest).toArray 9 (0, 0))]]) ?_ (by repeat (first | exact .nil | apply Pick.cons | exact .here | apply Ext.there))
          refine PQ.perm (sg' := [ownG 44 (k.2.2.1.flatMap Evq.cells ++ (z.2.1.re (ownSl z.2.2.1.length z.2.2.2.1) (ownSl z.2.2.2.2.1.length z.2.2.2.2.2)).cells) o9, k.2.2.2.1 ++ (ownG 41 (z.2.2.1.flatMap Cq.cells) z.2.2.2.1 ++ ownG 3 (z.2.2.2.2.1.flatMap intC) z.2.2.2.2.2), [(g, .cells (stC W ++ rest).toArray 9 (0, 0))]]) ?_ (by simp)
          rw [← flat_snoc]
          refine PQ.round ((k.1 + 1, o9, k.2.2.1 ++ [(z.2.1.re (ownSl z.2.2.1.length z.2.2.2.1) (ownSl z.2.2.2.2.1.length z.2.2.2.2.2))], k.2.2.2.1 ++ (ownG 41 (z.2.2.1.flatMap Cq.cells) z.2.2.2.1 ++ ownG 3 (z.2.2.2.2.1.flatMap intC) z.2.2.2.2.2), k.2.2.2.2 ++ [(z.2.1, z.2.2.1, z.2.2.2.2.1)])) ⟨by simp only; omega, by have := ho9; simp only [flat_snoc, List.length_append]; exact this, ⟨by simp only [List.length_append, List.length_cons, List.length_nil]; omega, by simp only [List.length_append, List.length_cons, List.length_nil]; omega⟩, fun w hw => (hk4 w (sat_l hw)).snoc ⟨⟨_, _, rfl⟩, ⟨ownSl_n hz.2.2.1, ownSl_at cq_len hz.2.2.1 (sat_l (sat_r hw)), (ownSl_n hz.2.2.2.1).symm, ownSl_at int_len hz.2.2.2.1 (sat_r (sat_r hw))⟩⟩, fun d hd => by
            rcases List.mem_append.1 hd with h8 | h8
            · exact hkA d h8
            · simp at h8; subst h8; exact ⟨hz.2.2.2.2.1.1, hz.2.2.2.2.1.2.1, hz.2.2.2.2.1.2.2, hz.2.2.2.2.2.1, hz.2.2.2.2.2.2⟩, hpa⟩ (by simp only; omega) (by exact ⟨rfl, rfl, by simp only [List.length_append]; rfl, rfl, trivial⟩) (by repeat (first | exact .nil | apply Pick.cons | exact .here | apply Ext.there))
      · replace h30 := bF h30
        refine CW.exit ?_
        refine PQ.then_exit ?_
        refine PQ.then_exit ?_
        refine PQ.in_here ?_
        refine PQ.seq ?_
        refine CW.seq ?_
        refine CW.region ?_
        refine LW.v rfl rfl (Val.move rfl) ?_
        refine LW.v rfl rfl (Val.assign rfl) ?_
        refine LW.v rfl rfl (Val.assign rfl) ?_
        refine LW.v rfl rfl (Val.assign rfl) ?_
        refine LW.nil ?_
        refine PQ.seq ?_
        refine CW.ret ?_
        refine PQ.ret3 rfl rfl rfl rfl ?_
        intro w' hw
        have hp : parseF s0 = (k.2.2.2.2, 0, 0) := by
          unfold parseF
          rw [if_neg (by omega), hks, show (lns s0).drop k.1 = [] from List.drop_eq_nil_iff.2 (by omega)]
          simp [pAll, pThen]
        rw [hp]
        exact ⟨(k.2.1, k.2.2.1, k.2.2.2.1), ⟨hk2, hk4, hkD, by simp only; omega, hkA⟩, rfl, hw.pick (ss := [ownG 44 (k.2.2.1.flatMap Evq.cells) k.2.1, k.2.2.2.1]) (by repeat (first | exact .nil | apply Pick.cons | exact .here | apply Ext.there))⟩
end Go.Proofs.YtagliemeolngiaaDoor

/- The walk of ScriptReads. -/
namespace Go.Proofs.YtagliemeolngiaaDoor
open Go Go.RowKit V
set_option linter.unusedVariables false
set_option maxRecDepth 100000
open V (str byC ownV ownG ownS ownOk)
/-- An event read, with where its calls and lines lie. -/
abbrev PE := AEv × V.OwnO × V.OwnO
def peE (z : PE) : Evq := z.1.1.re (ownSl z.1.2.1.length z.2.1) (ownSl z.1.2.2.length z.2.2)
def peS (z : PE) : V.Seg := ownG 41 (z.1.2.1.flatMap Cq.cells) z.2.1 ++ ownG 3 (z.1.2.2.flatMap intC) z.2.2
def peOk (z : PE) : Prop := ownOk 5 z.1.2.1.length (z.1.2.1.flatMap Cq.cells) z.2.1 ∧ ownOk 1 z.1.2.2.length (z.1.2.2.flatMap intC) z.2.2
theorem pe_sat : ∀ {E : List PE} {z : PE} {w : World}, z ∈ E → Sat [E.flatMap peS] w → Sat [peS z] w
  | [], z, w, h, _ => by simp at h
  | a :: E, z, w, h, hs => by
    rw [List.flatMap_cons] at hs
    rcases List.mem_cons.1 h with rfl | h
    · exact sat_l hs
    · exact pe_sat h (sat_r hs)
theorem pe_psl {E : List PE} (h : ∀ z ∈ E, peOk z) {w : World} (hs : Sat [E.flatMap peS] w) : PsL w (E.map (·.1)) (E.map peE) := ⟨by simp, fun i d e hd he => by
  rw [List.getElem?_map] at hd he
  cases hz : E[i]? with
  | none => rw [hz] at hd; cases hd
  | some z =>
    rw [hz] at hd he
    simp only [Option.map_some, Option.some.injEq] at hd he
    subst hd; subst he
    have hm := List.mem_of_getElem? hz
    obtain ⟨h1, h2⟩ := h z hm
    have h3 := pe_sat hm hs
    exact ⟨⟨_, _, rfl⟩, ⟨ownSl_n h1, ownSl_at cq_len h1 (sat_l h3), (ownSl_n h2).symm, ownSl_at int_len h2 (sat_r h3)⟩⟩⟩
theorem parse2_c {W : World} (hN : NumLib W) (s0 : List UInt8) (hl : s0.length ≤ 1000000) (w : World) (hO : Ov W w) : Calls Tryd.prog 24 [str s0].toArray w fun e w' => ∃ y : V.OwnO × List PE, (ownOk 9 y.2.length ((y.2.map peE).flatMap Evq.cells) y.1 ∧ (∀ z ∈ y.2, peOk z) ∧ y.2.map (·.1) = (parseF s0).1 ∧ (parseF s0).1.length ≤ 65536 ∧ ∀ d ∈ (parseF s0).1, AOk d) ∧ e = .returned (.tuple #[ownV y.2.length y.1, .int .i64 (parseF s0).2.1, .int .i64 (parseF s0).2.2]) ∧ Hp ⟨w, []⟩ [ownG 44 ((y.2.map peE).flatMap Evq.cells) y.1, y.2.flatMap peS] w' := by
  refine V.calls [] Tryd.func24 rfl Tryd.ntmps24 (Nat.le_of_ble_eq_true rfl) (V.sat_nil _) ?_
  refine CW.seq ?_
  refine CW.region ?_
  refine LW.v rfl rfl (Val.assign rfl) ?_
  refine LW.v rfl rfl (Val.assign rfl) ?_
  refine LW.v rfl rfl (Val.assign rfl) ?_
  refine LW.nil ?_
  refine PQ.seq ?_
  refine CW.seq ?_
  refine CW.seq ?_
  refine CW.region ?_
  refine LW.v rfl rfl (Val.move rfl) ?_
  refine LW.v rfl rfl (Val.lenStr rfl Tryd.underlying9) ?_
  refine LW.v rfl rfl (Val.cmp rfl rfl rfl) ?_
  refine LW.nil ?_
  refine PQ.seq ?_
  refine CW.cond rfl (fun h12 => ?_) (fun h12 => ?_)
  · replace h12 := bT h12
    refine CW.seq ?_
    refine CW.region ?_
    refine LW.v rfl rfl (Val.assign rfl) ?_
    refine LW.v rfl rfl (Val.assign rfl) ?_
    refine LW.v rfl rfl (Val.assign rfl) ?_
    refine LW.nil ?_
    refine PQ.seq ?_
    refine CW.ret ?_
    refine PQ.then_ret ?_
    refine PQ.ret3 rfl rfl rfl rfl ?_
    intro w' hw
    have hp : parseF s0 = ([], 0, 5) := by unfold parseF; rw [if_pos (by omega)]
    rw [hp]
    exact ⟨(none, []), ⟨⟨rfl, rfl⟩, by simp, rfl, by simp, by simp⟩, rfl, (hw.pick (ss := []) .nil).perm (.refl _)⟩
  · replace h12 := bF h12
    have hlen : s0.length ≤ 65536 := by omega
    refine CW.skip ?_
    refine PQ.seq ?_
    refine CW.seq ?_
    refine CW.region ?_
    refine LW.v rfl rfl (Val.assign rfl) ?_
    refine LW.nil ?_
    refine PQ.seq ?_
    refine CW.seq ?_
    refine CW.seq ?_
    refine CW.region ?_
    refine LW.v rfl rfl (Val.assign rfl) ?_
    refine LW.nil ?_
    refine PQ.seq ?_
    refine CW.block ?_
    refine V.CW.perm (sg' := [ownG 44 ((([] : List PE).map peE).flatMap Evq.cells) none, ([] : List PE).flatMap peS]) ?_ (.refl _)
    refine CW.loop (γ := Nat × V.OwnO × List PE × List UInt8) (fun k => [(0, str k.2.2.2), (5, ownV k.2.2.1.length k.2.1), (6, .int .i64 (k.1 : Nat))]) (fun k => [ownG 44 ((k.2.2.1.map peE).flatMap Evq.cells) k.2.1, k.2.2.1.flatMap peS]) (fun k => k.1 + k.2.2.2.length ≤ 65537 ∧ ownOk 9 k.2.2.1.length ((k.2.2.1.map peE).flatMap Evq.cells) k.2.1 ∧ k.2.2.1.length + 1 = k.1 ∧ (∀ z ∈ k.2.2.1, peOk z) ∧ (∀ d ∈ (k.2.2.1.map (·.1)), AOk d) ∧ pAll (lns s0) 1 = pThen (k.2.2.1.map (·.1)) (pAll (lns k.2.2.2) k.1)) (fun k => k.2.2.2.length) ((1, none, [], s0)) ⟨by simp only; omega, ⟨rfl, rfl⟩, rfl, by simp, by simp, by simp only [List.map_nil]; cases pAll (lns s0) 1 <;> simp [pThen]⟩ (by repeat (first | exact trivial | refine ⟨rfl, ?_⟩)) (by repeat (first | exact .nil | apply Pick.cons | exact .here | apply Ext.there)) ?_
    intro k
    rintro ⟨hk1, hk2, hkN, hk4, hkA, hks⟩
    refine CW.seq ?_
    refine CW.seq ?_
    refine CW.region ?_
    refine LW.v rfl rfl (Val.move rfl) ?_
    refine LW.v rfl rfl (Val.neStr rfl rfl) ?_
    refine LW.nil ?_
    refine PQ.seq ?_
    refine CW.cond rfl (fun h14 => ?_) (fun h14 => ?_)
    · replace h14 := bT h14
      have h14n : k.2.2.2 ≠ [] := by simpa using h14
      have hcl := cutF_len 10 k.2.2.2
      have hlt := cutF_lt 10 k.2.2.2 h14n
      have hqq : QOk (true, (cutF 10 k.2.2.2).1) := by unfold QOk; simp only; omega
      have hwlq : wl (true, (cutF 10 k.2.2.2).1) = spl 32 (cutF 10 k.2.2.2).1 := rfl
      refine CW.skip ?_
      refine PQ.seq ?_
      refine CW.seq ?_
      refine CW.block ?_
      refine CW.seq ?_
      refine CW.region ?_
      refine LW.v rfl rfl (Val.assign rfl) ?_
      refine LW.nil ?_
      refine PQ.seq ?_
      refine CW.seq ?_
      refine CW.region ?_
      refine LW.v rfl rfl (Val.move rfl) ?_
      refine LW.e rfl rfl (Eff.callV rfl Tryd.call46 (fun w hw => cut_c k.2.2.2 10 (by omega) w)) ?_
      intro _ _
      refine LW.v rfl rfl (Val.move rfl) ?_
      refine LW.v rfl rfl (Val.extract rfl rfl) ?_
      refine LW.v rfl rfl (Val.extract rfl rfl) ?_
      refine LW.v rfl rfl (Val.extract rfl rfl) ?_
      refine LW.v rfl rfl (Val.assign rfl) ?_
      refine LW.v rfl rfl (Val.assign rfl) ?_
      refine LW.nil ?_
      refine PQ.seq ?_
      refine CW.seq ?_
      refine CW.region ?_
      refine LW.v rfl rfl (Val.move rfl) ?_
      refine LW.e rfl rfl (Eff.callM ([]) .nil rfl Tryd.call47 (fun w hw hs0 => teller_c (cutF 10 k.2.2.2).1 w)) ?_
      rintro ⟨m, s⟩ _
      simp only
      refine LW.re 24 (.func (.func 58) #[] #[.pointer (some ⟨m, 0, none⟩), .pointer (some ⟨s, 0, none⟩)]) rfl rfl ?_
      refine LW.v rfl rfl (Val.build [_, _] Tryd.zeroValue87 Tryd.underlying87 places87 rfl (by rfl)) ?_
      refine LW.e rfl rfl (Eff.boxA rfl) ?_
      intro b26 _
      refine V.LW.perm (sg' := rdS b26 m s (true, (cutF 10 k.2.2.2).1) false :: [ownG 44 ((k.2.2.1.map peE).flatMap Evq.cells) k.2.1, k.2.2.1.flatMap peS]) ?_ (by first | exact .refl _ | (simp [rdS]; done))
      refine LW.v rfl rfl (Val.assign rfl) ?_
      refine LW.nil ?_
      refine PQ.seq ?_
      refine CW.seq ?_
      refine CW.region ?_
      refine LW.v rfl rfl (Val.move rfl) ?_
      refine LW.e rfl rfl (Eff.callM ([rdS b26 m s (true, (cutF 10 k.2.2.2).1) false]) (by repeat (first | exact .nil | apply Pick.cons | exact .here | apply Ext.there)) rfl Tryd.call48 (fun w hw hs0 => rdevent_c hN b26 m s (true, (cutF 10 k.2.2.2).1) false hqq w (hO.hp (by simp [ids]) hw) (fun b hb => by
        obtain ⟨p, hp, rfl⟩ := List.mem_map.1 hb
        rcases (hw.pick (ss := [rdS b26 m s (true, (cutF 10 k.2.2.2).1) false]) (by repeat (first | exact .nil | apply Pick.cons | exact .here | apply Ext.there))).lo p hp with h8 | h8
        · exact Nat.le_trans hO.1 h8
        · simp [ids] at h8) hs0)) ?_
      intro z hz
      refine LW.e rfl rfl (Eff.allocA (by exact Tryd.zeroValue44)) ?_
      intro b9 _
      refine LW.eN rfl (Eff.storeW (cs := (z.1.1.re (ownSl z.1.2.1.length z.1.2.2.1) (ownSl z.1.2.2.2.1.length z.1.2.2.2.2)).cells) rfl rfl (by repeat (first | exact .here | exact .inner .here | exact .inner (.inner .here) | apply Upd.there)) (by rfl) Tryd.sizeOf44 (by rfl)) ?_
      intro _ _
      refine LW.nil ?_
      refine PQ.seq ?_
      refine CW.seq ?_
      refine CW.seq ?_
      refine CW.region ?_
      refine LW.v rfl rfl (Val.move rfl) ?_
      refine LW.e rfl rfl (Eff.callM ([rdS b26 m s z.2.1 z.2.2]) (by repeat (first | exact .nil | apply Pick.cons | exact .here | apply Ext.there)) rfl Tryd.call49 (fun w hw hs0 => rest_c b26 m s z.2.1 z.2.2 hz.2.1 w hs0)) ?_
      intro y9 hy9
      refine LW.v rfl rfl (Val.lenOwn rfl Tryd.underlying73 hy9.1) ?_
      refine LW.v rfl rfl (Val.cmp rfl rfl rfl) ?_
      refine LW.v rfl rfl (Val.move rfl) ?_
      refine LW.split (d := 33) rfl (fun h33 => ?_) (fun h33 => ?_)
      · replace h33 := bT h33
        refine LW.p rfl rfl ?_
        refine LW.p rfl rfl ?_
        refine LW.p rfl rfl ?_
        refine LW.p rfl rfl ?_
        refine LW.v rfl rfl (Val.pick_t rfl rfl) ?_
        refine LW.nil ?_
        refine PQ.seq ?_
        refine CW.cond_t rfl ?_
        refine CW.seq ?_
        refine CW.region ?_
        refine LW.v rfl rfl (Val.move rfl) ?_
        refine LW.v rfl rfl (Val.assign rfl) ?_
        refine LW.v rfl rfl (Val.assign rfl) ?_
        refine LW.v rfl rfl (Val.assign rfl) ?_
        refine LW.nil ?_
        refine PQ.seq ?_
        refine CW.ret ?_
        refine PQ.then_ret ?_
        refine PQ.in_ret ?_
        refine PQ.then_ret ?_
        refine PQ.then_ret ?_
        refine PQ.in_ret ?_
        refine PQ.then_ret ?_
        refine PQ.ret3 rfl rfl rfl rfl ?_
        intro w' hw
        have hpl : pLine (cutF 10 k.2.2.2).1 = none := by
          unfold pLine
          rw [← hwlq]
          have h8 := hz.1.2 rfl
          cases h9 : z.2.2 with
          | true => rw [h8.2 h9]
          | false =>
            rw [h8.1 h9]
            cases h10 : wl z.2.1 with
            | nil => exfalso; first | (have h11 := h33; rw [h10] at h11; simp at h11; done) | (rw [h9] at h38; cases h38)
            | cons a b => rfl
        have hp : parseF s0 = ([], ((k.1 : Nat) : Int), 3) := by
          unfold parseF
          rw [if_neg (by omega), hks, lns_cons h14n]
          simp only [pAll, hpl, pThen]
        rw [hp]
        exact ⟨(none, []), ⟨⟨rfl, rfl⟩, by simp, rfl, by simp, by simp⟩, rfl, (hw.pick (ss := []) .nil).perm (.refl _)⟩
      · replace h33 := bF h33
        refine LW.v rfl rfl (Val.move rfl) ?_
        refine LW.v rfl rfl (Val.nilCheck rfl) ?_
        refine LW.v rfl rfl (Val.fieldAddr 1 rfl Tryd.underlying87 rfl rfl Tryd.sizeOf4) ?_
        refine LW.v rfl rfl (Val.load rfl Tryd.isAgg4 (by repeat (first | exact .here | exact .inner .here | exact .inner (.inner .here) | refine .there ?_)) (by rfl)) ?_
        refine LW.v rfl rfl (Val.pick_f rfl rfl) ?_
        refine LW.nil ?_
        refine PQ.seq ?_
        refine CW.cond rfl (fun h38 => ?_) (fun h38 => ?_)
        · replace h38 := bT h38
          refine CW.seq ?_
          refine CW.region ?_
          refine LW.v rfl rfl (Val.move rfl) ?_
          refine LW.v rfl rfl (Val.assign rfl) ?_
          refine LW.v rfl rfl (Val.assign rfl) ?_
          refine LW.v rfl rfl (Val.assign rfl) ?_
          refine LW.nil ?_
          refine PQ.seq ?_
          refine CW.ret ?_
          refine PQ.then_ret ?_
          refine PQ.in_ret ?_
          refine PQ.then_ret ?_
          refine PQ.then_ret ?_
          refine PQ.in_ret ?_
          refine PQ.then_ret ?_
          refine PQ.ret3 rfl rfl rfl rfl ?_
          intro w' hw
          have hpl : pLine (cutF 10 k.2.2.2).1 = none := by
            unfold pLine
            rw [← hwlq]
            have h8 := hz.1.2 rfl
            cases h9 : z.2.2 with
            | true => rw [h8.2 h9]
            | false =>
              rw [h8.1 h9]
              cases h10 : wl z.2.1 with
              | nil => exfalso; first | (have h11 := h33; rw [h10] at h11; simp at h11; done) | (rw [h9] at h38; cases h38)
              | cons a b => rfl
          have hp : parseF s0 = ([], ((k.1 : Nat) : Int), 3) := by
            unfold parseF
            rw [if_neg (by omega), hks, lns_cons h14n]
            simp only [pAll, hpl, pThen]
          rw [hp]
          exact ⟨(none, []), ⟨⟨rfl, rfl⟩, by simp, rfl, by simp, by simp⟩, rfl, (hw.pick (ss := []) .nil).perm (.refl _)⟩
        · replace h38 := bF h38
          refine CW.skip ?_
          refine PQ.seq ?_
          refine CW.region ?_
          refine LW.v rfl rfl (Val.move rfl) ?_
          refine LW.v rfl rfl (Val.loadW (l := (z.1.1.re (ownSl z.1.2.1.length z.1.2.2.1) (ownSl z.1.2.2.2.1.length z.1.2.2.2.2)).cells) rfl Tryd.isAgg44 (by repeat (first | exact .here | exact .inner .here | exact .inner (.inner .here) | refine .there ?_)) (by exact Tryd.sizeOf44)) ?_
          refine LW.e rfl rfl (Eff.buildSlice (rfl) [_, _, _, _, _, _, _, _, _] Tryd.underlying28 Tryd.sizeOf44 (by exact Tryd.zeroValue44) rfl rfl rfl rfl (by rfl)) ?_
          intro b42 _
          refine LW.e rfl rfl (Eff.appendAny ((z.1.1.re (ownSl z.1.2.1.length z.1.2.2.1) (ownSl z.1.2.2.2.1.length z.1.2.2.2.2)).cells) (sz := 9) (bytes := 128) (z := .agg #[.int .i64 0, .int .i64 0, .int .i64 0, .int .i64 0, .string ⟨#[]⟩, .string ⟨#[]⟩, .string ⟨#[]⟩, .slice none 0 0, .slice none 0 0]) (xs := (k.2.2.1.map peE).flatMap Evq.cells) (m0 := k.2.2.1.length) (o := k.2.1) (m := 1) (pk := [ownG 44 ((k.2.2.1.map peE).flatMap Evq.cells) k.2.1]) rfl rfl Tryd.underlying28 (by kernel_rfl) rfl (by omega) (by repeat (first | exact .nil | apply Pick.cons | exact .here | apply Ext.there)) (by simp) hk2 (by rfl) (fun hm0 => ⟨b42, 0, rfl, fun w hw => V.range_of_block (o := 0) (cs := (z.1.1.re (ownSl z.1.2.1.length z.1.2.2.1) (ownSl z.1.2.2.2.1.length z.1.2.2.2.2)).cells) (r := []) (hw.own _ (show InS (b42, .cells ((z.1.1.re (ownSl z.1.2.1.length z.1.2.2.1) (ownSl z.1.2.2.2.1.length z.1.2.2.2.2)).cells).toArray 44 (0, 0)) _ from (by repeat (first | exact .here | exact .inner .here | exact .inner (.inner .here) | refine .there ?_))).mem) rfl⟩) (by rfl) (by omega) (by omega)) ?_
          intro o9 ho9
          refine LW.v rfl rfl (Val.assign rfl) ?_
          refine LW.nil ?_
          refine PQ.in_normal ?_
          refine PQ.seq ?_
          refine CW.region ?_
          refine LW.v rfl rfl (Val.move rfl) ?_
          refine LW.v rfl rfl (Val.ar rfl rfl rfl (IntWalk.i64_in _ (by omega))) ?_
          refine LW.v rfl rfl (Val.assign rfl) ?_
          refine LW.nil ?_
          have hz2 : z.2.2 = false := by first | exact h37 | (simpa using h38) | exact h38
          have hz3 : wl z.2.1 = [] := by
            cases h10 : wl z.2.1 with
            | nil => rfl
            | cons a b => exfalso; have h11 := h33; rw [h10] at h11; simp at h11; omega
          have hpl : pLine (cutF 10 k.2.2.2).1 = some (z.1.1, z.1.2.1, z.1.2.2.2.1) := by
            unfold pLine
            rw [← hwlq, (hz.1.2 rfl).1 hz2, hz3]
          have hpa : pAll (lns s0) 1 = pThen ((k.2.2.1.map (·.1)) ++ [(z.1.1, z.1.2.1, z.1.2.2.2.1)]) (pAll (lns (cutF 10 k.2.2.2).2.1) (k.1 + 1)) := by
            rw [hks, lns_cons h14n, pThen_one]
            simp only [pAll, hpl]
          refine PQ.segs (ss := [ownG 44 ((k.2.2.1.map peE).flatMap Evq.cells ++ (z.1.1.re (ownSl z.1.2.1.length z.1.2.2.1) (ownSl z.1.2.2.2.1.length z.1.2.2.2.2)).cells) o9, k.2.2.1.flatMap peS, ownG 41 (z.1.2.1.flatMap Cq.cells) z.1.2.2.1, ownG 3 (z.1.2.2.2.1.flatMap intC) z.1.2.2.2.2]) ?_ (by repeat (first | exact .nil | apply Pick.cons | exact .here | apply Ext.there))
          refine PQ.perm (sg' := [ownG 44 ((k.2.2.1 ++ [((z.1.1, z.1.2.1, z.1.2.2.2.1), z.1.2.2.1, z.1.2.2.2.2)]).map peE |>.flatMap Evq.cells) o9, (k.2.2.1 ++ [((z.1.1, z.1.2.1, z.1.2.2.2.1), z.1.2.2.1, z.1.2.2.2.2)]).flatMap peS]) ?_ (by simp [peS, peE])
          refine PQ.round ((k.1 + 1, o9, k.2.2.1 ++ [((z.1.1, z.1.2.1, z.1.2.2.2.1), z.1.2.2.1, z.1.2.2.2.2)], (cutF 10 k.2.2.2).2.1)) ⟨by simp only; omega, by have := ho9; simp only [List.map_append, List.map_cons, List.map_nil, flat_snoc, List.length_append]; exact this, by simp only [List.length_append, List.length_cons, List.length_nil]; omega, fun d hd => by
            rcases List.mem_append.1 hd with h8 | h8
            · exact hk4 d h8
            · simp at h8; subst h8; exact ⟨hz.2.2.1, hz.2.2.2.1⟩, fun d hd => by
            simp only [List.map_append, List.map_cons, List.map_nil] at hd
            rcases List.mem_append.1 hd with h8 | h8
            · exact hkA d h8
            · simp at h8; subst h8; exact ⟨hz.2.2.2.2.1.1, hz.2.2.2.2.1.2.1, hz.2.2.2.2.1.2.2, hz.2.2.2.2.2.1, hz.2.2.2.2.2.2⟩, by simp only [List.map_append, List.map_cons, List.map_nil]; exact hpa⟩ (by simp only; omega) (by exact ⟨rfl, by simp only [List.length_append]; rfl, rfl, trivial⟩) (by repeat (first | exact .nil | apply Pick.cons | exact .here | apply Ext.there))
    · replace h14 := bF h14
      refine CW.exit ?_
      refine PQ.then_exit ?_
      refine PQ.then_exit ?_
      refine PQ.in_here ?_
      refine PQ.seq ?_
      refine CW.seq ?_
      refine CW.region ?_
      refine LW.v rfl rfl (Val.move rfl) ?_
      refine LW.v rfl rfl (Val.assign rfl) ?_
      refine LW.v rfl rfl (Val.assign rfl) ?_
      refine LW.v rfl rfl (Val.assign rfl) ?_
      refine LW.nil ?_
      refine PQ.seq ?_
      refine CW.ret ?_
      refine PQ.ret3 rfl rfl rfl rfl ?_
      intro w' hw
      have hs0 : k.2.2.2 = [] := by simpa using h14
      have hp : parseF s0 = ((k.2.2.1.map (·.1)), 0, 0) := by
        unfold parseF
        rw [if_neg (by omega), hks, hs0]
        simp [lns_nil, pAll, pThen]
      rw [hp]
      exact ⟨(k.2.1, k.2.2.1), ⟨hk2, hk4, rfl, by simp only [List.length_map]; omega, hkA⟩, rfl, hw⟩
theorem overInts_c (y : V.OwnO) (m : Nat) (xs : List Value) (hk : ownOk 1 m xs y) (hl : m ≤ 100000) (w : World) (hs : Sat [ownG 3 xs y] w) : Calls Tryd.prog 26 [ownV m y].toArray w fun e w' => ∃ _u : Unit, True ∧ e = .returned (.tuple #[]) ∧ Hp ⟨w, ids [ownG 3 xs y]⟩ [] w' := by
  rcases y with _ | ⟨g, rest, cap⟩
  · obtain ⟨hx, h0⟩ := hk
    simp only at h0
    subst h0
    obtain rfl : xs = [] := List.length_eq_zero_iff.1 (by omega)
    refine V.calls [[]] Tryd.func26 rfl Tryd.ntmps26 (Nat.le_of_ble_eq_true rfl) hs ?_
    refine CW.seq ?_
    refine CW.seq ?_
    refine CW.region ?_
    refine LW.v rfl rfl (Val.assign rfl) ?_
    refine LW.nil ?_
    refine PQ.seq ?_
    refine CW.block ?_
    refine CW.loop (γ := Nat) (fun k => [(0, .slice none 0 0), (2, .int .i64 (k : Nat))]) (fun _ => []) (fun k => k = 0) (fun k => 0) (0) rfl (by repeat (first | exact trivial | refine ⟨rfl, ?_⟩)) (by repeat (first | exact .nil | apply Pick.cons | exact .here | apply Ext.there)) ?_
    intro k
    intro hJ
    refine CW.seq ?_
    refine CW.seq ?_
    refine CW.region ?_
    refine LW.v rfl rfl (Val.move rfl) ?_
    refine LW.v rfl rfl (Val.move rfl) ?_
    refine LW.v rfl rfl (Val.lenSl rfl Tryd.underlying42) ?_
    refine LW.v rfl rfl (Val.cmp rfl rfl rfl) ?_
    refine LW.nil ?_
    refine PQ.seq ?_
    refine CW.cond rfl (fun h6 => ?_) (fun h6 => ?_)
    · exact absurd (bT h6) (by omega)
    · replace h6 := bF h6
      refine CW.exit ?_
      refine PQ.then_exit ?_
      refine PQ.then_exit ?_
      refine PQ.in_here ?_
      refine PQ.seq ?_
      refine CW.region ?_
      refine LW.v rfl rfl (Val.move rfl) ?_
      refine LW.e rfl rfl (Eff.buildSlice (rfl) [_] Tryd.underlying42 Tryd.sizeOf3 (by exact Tryd.zeroValue3) rfl rfl rfl rfl (by rfl)) ?_
      intro b13 _
      refine LW.e rfl rfl (Eff.appendAny ([.int .i64 (-998)]) (sz := 1) (bytes := 8) (z := .int .i64 0) (xs := []) (m0 := 0) (o := none) (m := 1) (pk := []) rfl rfl Tryd.underlying42 (by kernel_rfl) rfl (by omega) .nil rfl ⟨rfl, rfl⟩ rfl (fun hm0 => ⟨b13, 0, rfl, fun w hw => V.range_of_block (o := 0) (cs := [.int .i64 (-998)]) (r := []) (hw.own _ (show InS (b13, .cells ([.int .i64 (-998)]).toArray 3 (0, 0)) _ from (by repeat (first | exact .here | exact .inner .here | exact .inner (.inner .here) | refine .there ?_))).mem) rfl⟩) rfl (by omega) (by omega)) ?_
      intro _ _
      refine LW.nil ?_
      refine PQ.end0 rfl ?_
      intro w' hw; exact ⟨(), trivial, rfl, hw.pick (ss := []) .nil⟩
  · obtain ⟨hx, hcap⟩ := hk
    simp only at hcap
    obtain ⟨cs, hcs⟩ : ∃ cs, cs = xs ++ rest := ⟨_, rfl⟩
    have hlen : cs.length = cap := by rw [hcs, List.length_append]; omega
    have hmc : m ≤ cap := by omega
    refine V.calls [[(g, .cells cs.toArray 3 (0, 0))]] Tryd.func26 rfl Tryd.ntmps26 (Nat.le_of_ble_eq_true rfl) (by rw [hcs]; exact hs) ?_
    refine CW.seq ?_
    refine CW.seq ?_
    refine CW.region ?_
    refine LW.v rfl rfl (Val.assign rfl) ?_
    refine LW.nil ?_
    refine PQ.seq ?_
    refine CW.block ?_
    refine CW.loop (γ := Nat × List Value) (fun k => [(0, .slice (some ⟨g, 0, none⟩) m cap), (2, .int .i64 (k.1 : Nat))]) (fun k => [[(g, .cells k.2.toArray 3 (0, 0))]]) (fun k => k.1 ≤ m ∧ k.2.length = cap) (fun k => m - k.1) ((0, cs)) ⟨Nat.zero_le _, hlen⟩ (by repeat (first | exact trivial | refine ⟨rfl, ?_⟩)) (by repeat (first | exact .nil | apply Pick.cons | exact .here | apply Ext.there)) ?_
    intro k
    rintro ⟨hj1, hj2⟩
    refine CW.seq ?_
    refine CW.seq ?_
    refine CW.region ?_
    refine LW.v rfl rfl (Val.move rfl) ?_
    refine LW.v rfl rfl (Val.move rfl) ?_
    refine LW.v rfl rfl (Val.lenSl rfl Tryd.underlying42) ?_
    refine LW.v rfl rfl (Val.cmp rfl rfl rfl) ?_
    refine LW.nil ?_
    refine PQ.seq ?_
    refine CW.cond rfl (fun h6 => ?_) (fun h6 => ?_)
    · replace h6 := bT h6
      refine CW.skip ?_
      refine PQ.seq ?_
      refine CW.seq ?_
      refine CW.block ?_
      refine CW.region ?_
      refine LW.v rfl rfl (Val.move rfl) ?_
      refine LW.v rfl rfl (Val.move rfl) ?_
      first | (refine LW.v rfl rfl (Val.indexAddrN rfl rfl Tryd.underlying42 Tryd.sizeOf3 (by omega)) ?_) | (refine LW.v rfl rfl (Val.indexAddr rfl rfl Tryd.underlying42 Tryd.sizeOf3 (by omega) (by omega)) ?_)
      refine LW.eN rfl (Eff.storeX (l' := k.2.set (0 + k.1 * 1) (.int .i64 (-999))) rfl rfl rfl (by repeat (first | exact .here | exact .inner .here | exact .inner (.inner .here) | apply Upd.there)) rfl (by omega) Tryd.sizeOf3) ?_
      intro _ _
      refine LW.nil ?_
      refine PQ.in_normal ?_
      refine PQ.seq ?_
      refine CW.region ?_
      refine LW.v rfl rfl (Val.move rfl) ?_
      refine LW.v rfl rfl (Val.ar rfl rfl rfl (IntWalk.i64_in _ (by omega))) ?_
      refine LW.v rfl rfl (Val.assign rfl) ?_
      refine LW.nil ?_
      refine PQ.round ((k.1 + 1, k.2.set (0 + k.1 * 1) (.int .i64 (-999)))) ⟨by simp only; omega, by rw [List.length_set]; exact hj2⟩ (by simp only; omega) (by repeat (first | exact trivial | refine ⟨rfl, ?_⟩)) (by repeat (first | exact .nil | apply Pick.cons | exact .here | apply Ext.there))
    · replace h6 := bF h6
      refine CW.exit ?_
      refine PQ.then_exit ?_
      refine PQ.then_exit ?_
      refine PQ.in_here ?_
      refine PQ.seq ?_
      refine CW.region ?_
      refine LW.v rfl rfl (Val.move rfl) ?_
      refine LW.e rfl rfl (Eff.buildSlice (rfl) [_] Tryd.underlying42 Tryd.sizeOf3 (by exact Tryd.zeroValue3) rfl rfl rfl rfl (by rfl)) ?_
      intro b13 _
      refine LW.e rfl rfl (Eff.appendAny ([.int .i64 (-998)]) (sz := 1) (bytes := 8) (z := .int .i64 0) (xs := k.2.take m) (m0 := m) (o := (some (g, k.2.drop m, cap))) (m := 1) (pk := [[(g, .cells k.2.toArray 3 (0, 0))]]) rfl rfl Tryd.underlying42 (by kernel_rfl) rfl (by omega) (by repeat (first | exact .nil | apply Pick.cons | exact .here | apply Ext.there)) (by simp [V.ownG_some, List.take_append_drop]) ⟨by rw [List.length_take]; omega, by show (k.2.take m).length + (k.2.drop m).length = cap * 1; rw [← List.length_append, List.take_append_drop]; omega⟩ rfl (fun hm0 => ⟨b13, 0, rfl, fun w hw => V.range_of_block (o := 0) (cs := [.int .i64 (-998)]) (r := []) (hw.own _ (show InS (b13, .cells ([.int .i64 (-998)]).toArray 3 (0, 0)) _ from (by repeat (first | exact .here | exact .inner .here | exact .inner (.inner .here) | refine .there ?_))).mem) rfl⟩) rfl (by omega) (by omega)) ?_
      intro _ _
      refine LW.nil ?_
      refine PQ.end0 rfl ?_
      intro w' hw; refine ⟨(), trivial, rfl, ?_⟩
      have h6 := hw.pick (ss := []) .nil
      rw [hcs] at h6
      exact h6
end Go.Proofs.YtagliemeolngiaaDoor

/- ScriptReads. -/
namespace Go.Proofs.YtagliemeolngiaaDoor
open Go Go.RowKit V
set_option linter.unusedVariables false
set_option maxRecDepth 100000
open V (str byC ownV ownG ownS ownOk)
theorem ownSl_at2 {α : Type} {enc : α → List Value} {sz e n : Nat} (hk : ∀ x, (enc x).length = sz) {l : List α} {o : V.OwnO} (hn : l.length = n) (h : ownOk sz n (l.flatMap enc) o) {w : World} (hs : Sat [ownG e (l.flatMap enc) o] w) : V.slAt w (ownSl n o).a sz enc l := by
  subst hn; exact ownSl_at hk h hs
theorem parse_cnt {s : List UInt8} : ∀ d ∈ (parseF s).1, d.2.1.length ≤ 70001 := by
  by_cases hs : s.length ≤ 65536
  · rcases parse_cases hs with ⟨D, h1, h2⟩ | ⟨n, _, h1, h2⟩
    · rw [h2]; exact parse_count hs h1
    · rw [h2]; simp
  · unfold parseF; rw [if_pos (by omega)]; simp
theorem psl_cm {w : World} {D : List AEv} {L1 L2 : List Evq} (h1 : PsL w D L1) (h2 : PsL w D L2) (hA : ∀ d ∈ D, AOk d) (hc : ∀ d ∈ D, d.2.1.length ≤ 70001) (i : Nat) (s1 s2 : Evq) (hs1 : L1[i]? = some s1) (hs2 : L2[i]? = some s2) : Cm w s1 s2 := by
  obtain ⟨d, hd⟩ : ∃ d, D[i]? = some d := ⟨D[i]'(by have := (List.getElem?_eq_some_iff.1 hs1).1; have := h1.1; omega), by simp⟩
  obtain ⟨⟨g1, k1, hre1⟩, hr1⟩ := h1.2 i d s1 hd hs1
  obtain ⟨⟨g2, k2, hre2⟩, hr2⟩ := h2.2 i d s2 hd hs2
  have hAd := hA d (List.mem_of_getElem? hd)
  refine ⟨d.2.1, d.2.2, by rw [hre1, hre2]; rfl, hr1, hr2, fun x hx => by rw [(hAd.2.2.2.1 x hx).1]; rfl, ?_, ?_⟩
  · have := hc d (List.mem_of_getElem? hd); omega
  · have := hAd.2.2.2.2; omega
theorem drop_atP {l : List PE} {k : Nat} {c : PE} (h : l[k]? = some c) : l.drop k = c :: l.drop (k + 1) := by
  have hlt := (List.getElem?_eq_some_iff.1 h).1
  rw [List.drop_eq_getElem_cons hlt]
  have := List.getElem?_eq_getElem hlt
  rw [h] at this
  rw [(Option.some.inj this)]
theorem keep_at : ∀ {E : List PE} {j : Nat} {z : PE}, E[j]? = some z → ((E.map peE).flatMap Evq.cells)[j * 9 + 8]? = some (ownV z.1.2.2.length z.2.2) := fun {E j z} h => by
  have h1 : (E.map peE)[j]? = some (peE z) := by rw [List.getElem?_map, h]; rfl
  have h2 := cell_flat (i := j) (j := 8) (v := ownV z.1.2.2.length z.2.2) ev_len [] h1 (by rw [ownSl_v]; rfl)
  simpa using h2
theorem scriptReads_c {W0 : World} (hN : NumLib W0) (s : List UInt8) : Calls Tryd.prog 6 [str s].toArray W0
    fun e w' => e = .returned (.bool true) ∧ Below W0.heap.size W0 w' := by
  refine V.calls [] Tryd.func6 rfl Tryd.ntmps6 (Nat.le_of_ble_eq_true rfl) (V.sat_nil _) ?_
  refine CW.seq ?_
  refine CW.region ?_
  refine LW.v rfl rfl (Val.assign rfl) ?_
  refine LW.nil ?_
  refine PQ.seq ?_
  refine CW.seq ?_
  refine CW.seq ?_
  refine CW.region ?_
  refine LW.v rfl rfl (Val.move rfl) ?_
  refine LW.v rfl rfl (Val.lenStr rfl Tryd.underlying9) ?_
  refine LW.v rfl rfl (Val.cmp rfl rfl rfl) ?_
  refine LW.nil ?_
  refine PQ.seq ?_
  refine CW.cond rfl (fun h12 => ?_) (fun h12 => ?_)
  · replace h12 := bT h12
    refine CW.seq ?_
    refine CW.region ?_
    refine LW.e rfl rfl (Eff.callV rfl Tryd.call11 (fun w hw => awake28_c w)) ?_
    intro _ _
    refine LW.v rfl rfl (Val.assign rfl) ?_
    refine LW.nil ?_
    refine PQ.seq ?_
    refine CW.ret ?_
    refine PQ.then_ret ?_
    refine PQ.ret1 rfl rfl ?_
    intro w' hw; exact ⟨rfl, hw.below⟩
  · replace h12 := bF h12
    refine CW.skip ?_
    refine PQ.seq ?_
    refine CW.seq ?_
    refine CW.region ?_
    refine LW.v rfl rfl (Val.move rfl) ?_
    refine LW.e rfl rfl (Eff.callM ([]) .nil rfl Tryd.call24 (fun w hw hs0 => parse2_c hN s (by omega) w (Ov.of hw))) ?_
    rintro ⟨oa, E⟩ ⟨hka, hpe, hD, hDl, hA⟩
    simp only at hka hpe hD hDl hA ⊢
    have hcn := parse_cnt (s := s)
    have hEl : E.length = (parseF s).1.length := by rw [← hD]; simp
    refine LW.v rfl rfl (Val.move rfl) ?_
    refine LW.v rfl rfl (Val.extract rfl rfl) ?_
    refine LW.v rfl rfl (Val.extract rfl rfl) ?_
    refine LW.v rfl rfl (Val.extract rfl rfl) ?_
    refine LW.v rfl rfl (Val.assign rfl) ?_
    refine LW.v rfl rfl (Val.assign rfl) ?_
    refine LW.v rfl rfl (Val.assign rfl) ?_
    refine LW.nil ?_
    refine PQ.seq ?_
    refine CW.seq ?_
    refine CW.region ?_
    refine LW.v rfl rfl (Val.move rfl) ?_
    refine LW.e rfl rfl (Eff.callM ([]) .nil rfl Tryd.call25 (fun w hw hs0 => rparse_c s (by omega) w)) ?_
    rintro ⟨ob, Lb, Gb⟩ ⟨hkb, hpb, hlb, _, _⟩
    simp only at hkb hpb hlb ⊢
    rw [← hEl] at hlb
    rw [hlb] at hkb ⊢
    refine LW.v rfl rfl (Val.move rfl) ?_
    refine LW.v rfl rfl (Val.extract rfl rfl) ?_
    refine LW.v rfl rfl (Val.extract rfl rfl) ?_
    refine LW.v rfl rfl (Val.extract rfl rfl) ?_
    refine LW.v rfl rfl (Val.assign rfl) ?_
    refine LW.v rfl rfl (Val.assign rfl) ?_
    refine LW.v rfl rfl (Val.assign rfl) ?_
    refine LW.nil ?_
    refine PQ.seq ?_
    refine CW.seq ?_
    refine CW.seq ?_
    refine CW.region ?_
    refine LW.v rfl rfl (Val.move rfl) ?_
    refine LW.re 26 (.slice (ownSl E.length oa).a E.length (ownSl E.length oa).c) rfl (ownSl_v2 hka) ?_
    refine LW.v rfl rfl (Val.move rfl) ?_
    refine LW.re 27 (.slice (ownSl E.length ob).a E.length (ownSl E.length ob).c) rfl (ownSl_v2 hkb) ?_
    refine LW.e rfl rfl (Eff.callV rfl Tryd.call21 (fun w hw => same_c (E.map peE) Lb _ _ E.length _ _ (by simp) hlb (by omega) w (ownSl_at2 ev_len (by simp) hka (hw.sat.pick (ss := [ownG 44 ((E.map peE).flatMap Evq.cells) oa]) (by repeat (first | exact .nil | apply Pick.cons | exact .here | apply Ext.there)))) (ownSl_at2 ev_len hlb hkb (hw.sat.pick (ss := [ownG 44 (Lb.flatMap Evq.cells) ob]) (by repeat (first | exact .nil | apply Pick.cons | exact .here | apply Ext.there)))) (psl_cm (by have h8 := pe_psl hpe (hw.sat.pick (ss := [E.flatMap peS]) (by repeat (first | exact .nil | apply Pick.cons | exact .here | apply Ext.there))); rw [hD] at h8; exact h8) (hpb w (hw.sat.pick (ss := [Gb]) (by repeat (first | exact .nil | apply Pick.cons | exact .here | apply Ext.there)))) hA hcn))) ?_
    intro _ _
    refine LW.v rfl rfl (Val.not rfl) ?_
    refine LW.v rfl rfl (Val.move rfl) ?_
    refine LW.v rfl rfl (Val.move rfl) ?_
    refine LW.v rfl rfl (Val.move rfl) ?_
    refine LW.v rfl rfl (Val.cmp rfl rfl rfl) ?_
    refine LW.re 33 (.bool false) rfl (by simp) ?_
    refine LW.v rfl rfl (Val.pick_f rfl rfl) ?_
    refine LW.v rfl rfl (Val.move rfl) ?_
    refine LW.v rfl rfl (Val.move rfl) ?_
    refine LW.e rfl rfl (Eff.callV rfl Tryd.call20 (fun w hw => num_c _ w)) ?_
    intro _ _
    refine LW.v rfl rfl (Val.move rfl) ?_
    refine LW.v rfl rfl (Val.cmp rfl rfl rfl) ?_
    refine LW.re 39 (.bool false) rfl (by simp) ?_
    refine LW.v rfl rfl (Val.pick_f rfl rfl) ?_
    refine LW.nil ?_
    refine PQ.seq ?_
    refine CW.cond_f rfl ?_
    refine CW.skip ?_
    refine PQ.seq ?_
    refine CW.seq ?_
    refine CW.seq ?_
    refine CW.region ?_
    refine LW.v rfl rfl (Val.assign rfl) ?_
    refine LW.nil ?_
    refine PQ.seq ?_
    refine CW.block ?_
    refine V.CW.perm (sg' := [ownG 44 (Lb.flatMap Evq.cells) ob, Gb, ownG 44 ((E.map peE).flatMap Evq.cells) oa, (E.drop 0).flatMap peS]) ?_ (.refl _)
    refine CW.loop (γ := Nat × List Value) (fun k => [(0, str s), (3, ownV E.length oa), (6, ownV E.length ob), (9, .int .i64 (k.1 : Nat))]) (fun k => [ownG 44 k.2 oa, (E.drop k.1).flatMap peS, ownG 44 (Lb.flatMap Evq.cells) ob, Gb]) (fun k => k.1 ≤ E.length ∧ ownOk 9 E.length k.2 oa ∧ ∀ j z, k.1 ≤ j → E[j]? = some z → k.2[j * 9 + 8]? = some (ownV z.1.2.2.length z.2.2)) (fun k => E.length - k.1) ((0, (E.map peE).flatMap Evq.cells)) ⟨Nat.zero_le _, hka, fun j z _ h => keep_at h⟩ (by repeat (first | exact trivial | refine ⟨rfl, ?_⟩)) (by repeat (first | exact .nil | apply Pick.cons | exact .here | apply Ext.there)) ?_
    intro k
    rintro ⟨hj1, hj2, hj3⟩
    refine CW.seq ?_
    refine CW.seq ?_
    refine CW.region ?_
    refine LW.v rfl rfl (Val.move rfl) ?_
    refine LW.v rfl rfl (Val.move rfl) ?_
    refine LW.v rfl rfl (Val.lenOwn rfl Tryd.underlying28 hj2) ?_
    refine LW.v rfl rfl (Val.cmp rfl rfl rfl) ?_
    refine LW.nil ?_
    refine PQ.seq ?_
    refine CW.cond rfl (fun h44 => ?_) (fun h44 => ?_)
    · replace h44 := bT h44
      obtain ⟨z, hz⟩ : ∃ z, E[k.1]? = some z := ⟨E[k.1]'(by omega), by simp⟩
      obtain ⟨⟨g, rest, cap⟩, rfl⟩ := own_some hj2 (by omega)
      have hxl : k.2.length = E.length * 9 := hj2.1
      rw [V.ownG_some]
      have hdrE := drop_atP hz
      have hAz : AOk z.1 := hA z.1 (by rw [← hD]; exact List.mem_map.2 ⟨z, List.mem_of_getElem? hz, rfl⟩)
      have hkz := hAz.2.2.2.2
      have hcapz : E.length ≤ cap := by have e := hka.2; simp only at e; rw [V.flatMap_len ev_len, List.length_map] at e; exact Nat.le_of_mul_le_mul_right (by omega : E.length * 9 ≤ cap * 9) (by omega)
      refine CW.skip ?_
      refine PQ.seq ?_
      refine CW.seq ?_
      refine CW.block ?_
      refine CW.seq ?_
      refine CW.region ?_
      refine LW.v rfl rfl (Val.move rfl) ?_
      refine LW.v rfl rfl (Val.move rfl) ?_
      first | (refine LW.v rfl rfl (Val.indexAddrN rfl rfl Tryd.underlying28 Tryd.sizeOf44 (by omega)) ?_) | (refine LW.v rfl rfl (Val.indexAddr rfl rfl Tryd.underlying28 Tryd.sizeOf44 (by omega) (by omega)) ?_)
      refine LW.v rfl rfl (Val.fieldAddr 8 rfl Tryd.underlying44 rfl rfl Tryd.sizeOf42) ?_
      refine LW.v rfl rfl (Val.load (T := 44) (v := ownV z.1.2.2.length z.2.2) rfl Tryd.isAgg42 (by repeat (first | exact .here | exact .inner .here | exact .inner (.inner .here) | refine .there ?_)) (by rw [Nat.zero_add, List.getElem?_append_left (by omega)]; exact hj3 k.1 z (Nat.le_refl _) hz)) ?_
      refine V.LW.perm (sg' := [[(g, .cells (k.2 ++ rest).toArray 44 (0, 0))], ownG 41 (z.1.2.1.flatMap Cq.cells) z.2.1, ownG 3 (z.1.2.2.flatMap intC) z.2.2, (E.drop (k.1 + 1)).flatMap peS, ownG 44 (Lb.flatMap Evq.cells) ob, Gb]) ?_ (by rw [hdrE]; simp [peS])
      refine LW.e rfl rfl (Eff.callM ([ownG 3 (z.1.2.2.flatMap intC) z.2.2]) (by repeat (first | exact .nil | apply Pick.cons | exact .here | apply Ext.there)) rfl Tryd.call26 (fun w hw hs0 => overInts_c z.2.2 z.1.2.2.length (z.1.2.2.flatMap intC) (hpe z (List.mem_of_getElem? hz)).2 (by omega) w hs0)) ?_
      intro _ _
      refine LW.nil ?_
      refine PQ.seq ?_
      refine CW.region ?_
      refine LW.v rfl rfl (Val.move rfl) ?_
      refine LW.v rfl rfl (Val.move rfl) ?_
      first | (refine LW.v rfl rfl (Val.indexAddrN rfl rfl Tryd.underlying28 Tryd.sizeOf44 (by omega)) ?_) | (refine LW.v rfl rfl (Val.indexAddr rfl rfl Tryd.underlying28 Tryd.sizeOf44 (by omega) (by omega)) ?_)
      refine LW.v rfl rfl (Val.fieldAddr 1 rfl Tryd.underlying44 rfl rfl Tryd.sizeOf3) ?_
      refine LW.eN rfl (Eff.storeX (l' := k.2.set (k.1 * 9 + 1) (.int .i64 (-9)) ++ rest) rfl rfl rfl (by repeat (first | exact .here | exact .inner .here | exact .inner (.inner .here) | apply Upd.there)) (by rw [Nat.zero_add]; exact List.set_append_left _ _ (by omega)) (by rw [List.length_append]; omega) Tryd.sizeOf3) ?_
      intro _ _
      refine LW.nil ?_
      refine PQ.in_normal ?_
      refine PQ.seq ?_
      refine CW.region ?_
      refine LW.v rfl rfl (Val.move rfl) ?_
      refine LW.v rfl rfl (Val.ar rfl rfl rfl (IntWalk.i64_in _ (by omega))) ?_
      refine LW.v rfl rfl (Val.assign rfl) ?_
      refine LW.nil ?_
      refine PQ.round ((k.1 + 1, k.2.set (k.1 * 9 + 1) (.int .i64 (-9)))) ⟨by simp only; omega, ⟨by simp only [List.length_set]; exact hj2.1, by have e := hj2.2; simp only [List.length_set] at e ⊢; exact e⟩, fun j z h8 h9 => by simp only at h8 ⊢; rw [List.getElem?_set_ne (by omega)]; exact hj3 j z (by omega) h9⟩ (by simp only; omega) (by repeat (first | exact trivial | refine ⟨rfl, ?_⟩)) (by repeat (first | exact .nil | apply Pick.cons | exact .here | apply Ext.there))
    · replace h44 := bF h44
      refine CW.exit ?_
      refine PQ.then_exit ?_
      refine PQ.then_exit ?_
      refine PQ.in_here ?_
      refine PQ.seq ?_
      refine CW.seq ?_
      refine CW.region ?_
      refine LW.v rfl rfl (Val.move rfl) ?_
      refine LW.e rfl rfl (Eff.callM ([]) .nil rfl Tryd.call24 (fun w hw hs0 => parse_c hN s (by omega) w (Ov.of hw))) ?_
      rintro ⟨o2, L2, G2⟩ ⟨hk2, hp2, hl2, _, _⟩
      simp only at hk2 hp2 hl2 ⊢
      rw [← hEl] at hl2
      rw [hl2] at hk2 ⊢
      refine LW.v rfl rfl (Val.move rfl) ?_
      refine LW.v rfl rfl (Val.extract rfl rfl) ?_
      refine LW.v rfl rfl (Val.extract rfl rfl) ?_
      refine LW.v rfl rfl (Val.extract rfl rfl) ?_
      refine LW.v rfl rfl (Val.assign rfl) ?_
      refine LW.nil ?_
      refine PQ.seq ?_
      refine CW.seq ?_
      refine CW.region ?_
      refine LW.v rfl rfl (Val.move rfl) ?_
      refine LW.re 63 (.slice (ownSl E.length o2).a E.length (ownSl E.length o2).c) rfl (ownSl_v2 hk2) ?_
      refine LW.v rfl rfl (Val.move rfl) ?_
      refine LW.re 64 (.slice (ownSl E.length ob).a E.length (ownSl E.length ob).c) rfl (ownSl_v2 hkb) ?_
      refine LW.e rfl rfl (Eff.callV rfl Tryd.call21 (fun w hw => same_c L2 Lb _ _ E.length _ _ hl2 hlb (by omega) w (ownSl_at2 ev_len hl2 hk2 (hw.sat.pick (ss := [ownG 44 (L2.flatMap Evq.cells) o2]) (by repeat (first | exact .nil | apply Pick.cons | exact .here | apply Ext.there)))) (ownSl_at2 ev_len hlb hkb (hw.sat.pick (ss := [ownG 44 (Lb.flatMap Evq.cells) ob]) (by repeat (first | exact .nil | apply Pick.cons | exact .here | apply Ext.there)))) (psl_cm (hp2 w (hw.sat.pick (ss := [G2]) (by repeat (first | exact .nil | apply Pick.cons | exact .here | apply Ext.there)))) (hpb w (hw.sat.pick (ss := [Gb]) (by repeat (first | exact .nil | apply Pick.cons | exact .here | apply Ext.there)))) hA hcn))) ?_
      intro _ _
      refine LW.v rfl rfl (Val.move rfl) ?_
      refine LW.e rfl rfl (Eff.callV rfl Tryd.call11 (fun w hw => awake28_c w)) ?_
      intro _ _
      refine LW.v rfl rfl (Val.pick_t rfl rfl) ?_
      refine LW.v rfl rfl (Val.assign rfl) ?_
      refine LW.nil ?_
      refine PQ.seq ?_
      refine CW.ret ?_
      refine PQ.ret1 rfl rfl ?_
      intro w' hw; exact ⟨rfl, hw.below⟩
end Go.Proofs.YtagliemeolngiaaDoor
