/- Printed and read again, in plain words. -/
import Derived.Test.YtagliemeolngiaaDoorScU
import Derived.Lib.Hide
namespace Go.Proofs.YtagliemeolngiaaDoor
open Go Go.RowKit V
set_option linter.unusedVariables false
set_option maxRecDepth 100000
open V (str byC)
/-! ### Read, then printed -/
theorem offs_cases (k : Int) : offs k = [] ∨ offs k = [1] ∨ offs k = [2] ∨ offs k = [1, 2] ∨ offs k = [1, 3] := by
  unfold offs
  (repeat' split) <;> simp
theorem pTexts_strict {k : Int} {c c' : Cq} {L L' : List (List UInt8)} (h : pTexts (offs k) c L = some (c', L')) : c'.ck = c.ck ∧ L = ((offs k).map fun o => wordF (c'.fld o)) ++ L' := by
  rcases offs_cases k with e | e | e | e | e <;> rw [e] at h ⊢
  · simp only [pTexts, Option.some.injEq, Prod.mk.injEq] at h
    obtain ⟨rfl, rfl⟩ := h
    exact ⟨rfl, rfl⟩
  all_goals
    cases L with
    | nil => simp [pTexts] at h
    | cons w r =>
      simp only [pTexts] at h
      cases hw : textF w with
      | none => rw [hw] at h; cases h
      | some x =>
        rw [hw] at h
        have hx := textF_word hw
        first
          | (simp only [Option.some.injEq, Prod.mk.injEq] at h
             obtain ⟨rfl, rfl⟩ := h
             exact ⟨rfl, by simp [Cq.set, Cq.fld, hx]⟩)
          | (cases r with
             | nil => simp [pTexts] at h
             | cons w2 r2 =>
               simp only [pTexts] at h
               cases hw2 : textF w2 with
               | none => rw [hw2] at h; cases h
               | some x2 =>
                 rw [hw2] at h
                 have hx2 := textF_word hw2
                 simp only [Option.some.injEq, Prod.mk.injEq] at h
                 obtain ⟨rfl, rfl⟩ := h
                 exact ⟨rfl, by simp [Cq.set, Cq.fld, hx, hx2]⟩)
theorem name_kind {nm : List UInt8} (h : kindF nm ≠ 0) : nameF (kindF nm) = some nm := by
  unfold kindF at h ⊢
  repeat' split
  all_goals first | (subst_vars; rfl) | (exfalso; simp_all; done)
theorem kind_name {k : Int} {nm : List UInt8} (h : nameF k = some nm) : kindF nm = k := by
  unfold nameF at h
  repeat' split at h
  all_goals first | (cases h; subst_vars; rfl) | cases h
theorem pSingle_strict {nm : List UInt8} {L L' : List (List UInt8)} {c : Cq} (h : pSingle nm L = some (c, L')) : ∃ ws, singleF c = some ws ∧ nm :: L = ws ++ L' ∧ c.ck ≠ 7 := by
  unfold pSingle at h
  split at h
  · cases h
  · rename_i hk
    have h0 : kindF nm ≠ 0 := fun e => hk (.inl e)
    have h7 : kindF nm ≠ 7 := fun e => hk (.inr e)
    obtain ⟨h1, h2⟩ := pTexts_strict h
    have h3 : c.ck = kindF nm := h1
    refine ⟨nm :: ((offs (kindF nm)).map fun o => wordF (c.fld o)), ?_, by rw [h2]; rfl, by rw [h3]; exact h7⟩
    unfold singleF
    rw [h3, if_neg h7, name_kind h0]; rfl
theorem pGroup_strict : ∀ (n : Nat) (L : List (List UInt8)) (gl : List Cq) (L' : List (List UInt8)), pGroup n L = some (gl, L') → gl ≠ [] ∧ (∀ x ∈ gl, (singleF x).isSome = true) ∧ L' = [] ∧ L = gw gl
  | 0, _, _, _, h => by cases h
  | n + 1, [], _, _, h => by cases h
  | n + 1, w :: r, gl, L', h => by
    simp only [pGroup] at h
    cases hp : pSingle w r with
    | none => rw [hp] at h; cases h
    | some y =>
      obtain ⟨c, r2⟩ := y
      rw [hp] at h
      obtain ⟨ws, h1, h2, _⟩ := pSingle_strict hp
      have hsw : sw c = ws := by unfold sw; rw [h1]; rfl
      cases r2 with
      | nil =>
        simp only [Option.some.injEq, Prod.mk.injEq] at h
        obtain ⟨rfl, rfl⟩ := h
        refine ⟨by simp, fun x hx => by simp at hx; subst hx; rw [h1]; rfl, rfl, ?_⟩
        rw [h2]; simp [gw, gwords, hsw]
      | cons x r3 =>
        simp only at h
        split at h
        · rename_i hx
          simp only [Option.map_eq_some_iff] at h
          obtain ⟨⟨gl2, L2⟩, h3, h4⟩ := h
          simp only [Prod.mk.injEq] at h4
          obtain ⟨rfl, rfl⟩ := h4
          obtain ⟨h5, h6, h7, h8⟩ := pGroup_strict n r3 gl2 L2 h3
          refine ⟨by simp, fun y hy => ?_, h7, ?_⟩
          · rcases List.mem_cons.1 hy with rfl | hy
            · rw [h1]; rfl
            · exact h6 y hy
          · rw [h2, hx, h8]
            cases gl2 with
            | nil => exact absurd rfl h5
            | cons a b => simp [gw, gwords, hsw]
        · cases h
theorem pCall_strict {L : List (List UInt8)} {c : Cq} {gl : List Cq} (h : pCall L = some ((c, gl), [])) : callF c gl = some L := by
  cases L with
  | nil => cases h
  | cons w r =>
    simp only [pCall] at h
    split at h
    · rename_i hw
      simp only [Option.map_eq_some_iff] at h
      obtain ⟨⟨gl2, L2⟩, h3, h4⟩ := h
      simp only [Prod.mk.injEq] at h4
      obtain ⟨⟨rfl, rfl⟩, rfl⟩ := h4
      obtain ⟨h5, h6, _, h8⟩ := pGroup_strict _ _ _ _ h3
      unfold callF
      rw [if_pos (show (c0q 7).ck = 7 from rfl), if_pos ⟨h5, h6⟩, hw, h8]
    · simp only [Option.map_eq_some_iff] at h
      obtain ⟨⟨c2, L2⟩, h3, h4⟩ := h
      simp only [Prod.mk.injEq] at h4
      obtain ⟨⟨rfl, rfl⟩, rfl⟩ := h4
      obtain ⟨ws, h5, h6, h7⟩ := pSingle_strict h3
      unfold callF
      rw [if_neg h7, h5, h6, List.append_nil]
theorem pNums_strict : ∀ {L : List (List UInt8)} {kl : List Int}, pNums L = some kl → L = numL kl ∧ fitsB kl = true
  | [], kl, h => by simp only [pNums, Option.some.injEq] at h; subst h; exact ⟨rfl, rfl⟩
  | w :: r, kl, h => by
    simp only [pNums, Option.bind_eq_some_iff, Option.map_eq_some_iff] at h
    obtain ⟨n, hn, l, hl, rfl⟩ := h
    obtain ⟨h1, h2⟩ := pNums_strict hl
    obtain ⟨h3, h4⟩ := numF_some hn
    refine ⟨by rw [h1, h3]; simp [numL], ?_⟩
    unfold fitsB at h2 ⊢
    rw [List.all_cons, h2]; simp; omega
theorem fits_nat {n : Nat} (h : n ≤ 999999999) : fitsB [(n : Int)] = true := by unfold fitsB; simp; omega
theorem pNum_some {L L' : List (List UInt8)} {z : Int} (h : pNum L = some (z, L')) : ∃ n : Nat, z = (n : Int) ∧ n ≤ 999999999 ∧ L = decN n :: L' := by
  cases L with
  | nil => cases h
  | cons w r =>
    simp only [pNum, Option.map_eq_some_iff] at h
    obtain ⟨n, hn, h2⟩ := h
    simp only [Prod.mk.injEq] at h2
    obtain ⟨h3, h4⟩ := numF_some hn
    exact ⟨n, h2.1.symm, h4, by rw [h3, h2.2]⟩
theorem lineR_ok {e : Evq} {gl : List Cq} {kl : List Int} {nm : List UInt8} {l : List Int} {mo : List (List UInt8)} (h : lineP e gl kl = some (nm, l, mo)) (hf : fitsB l = true) : lineF e gl kl = (jn (nm :: (numL l ++ mo)), 0) := by
  unfold lineF; rw [h]; simp only [lineR]; rw [if_pos hf]
theorem pEvent_strict {L : List (List UInt8)} {d : AEv} (h : pEvent L = some (d, [])) : lineF d.1 d.2.1 d.2.2 = (jn L, 0) := by
  cases L with
  | nil => cases h
  | cons w r =>
    simp only [pEvent] at h
    split at h
    · rename_i hw
      simp only [Option.bind_eq_some_iff, Option.map_eq_some_iff] at h
      obtain ⟨⟨z, r2⟩, h1, ⟨⟨c, gl⟩, r3⟩, h2, h3⟩ := h
      simp only [Prod.mk.injEq] at h3
      obtain ⟨rfl, rfl⟩ := h3
      obtain ⟨n, rfl, hn, hr⟩ := pNum_some h1
      have hc := pCall_strict h2
      have hP : lineP (e0 1 (n : Int) 0 c) gl [] = some ([99, 97, 108, 108], [(n : Int)], r2) := by
        unfold lineP; rw [if_pos (show (e0 1 (n : Int) 0 c).kind = 1 from rfl)]
        show (callF c gl).map _ = _
        rw [hc]; rfl
      rw [lineR_ok hP (fits_nat hn), hw, hr]
      simp [numL]
    · split at h
      · rename_i hw
        simp only [Option.map_eq_some_iff] at h
        obtain ⟨⟨z, r2⟩, h1, h3⟩ := h
        simp only [Prod.mk.injEq] at h3
        obtain ⟨rfl, rfl⟩ := h3
        obtain ⟨n, rfl, hn, hr⟩ := pNum_some h1
        have hP : lineP (e0 2 (n : Int) 0 (c0q 0)) [] [] = some ([115, 116, 101, 112], [(n : Int)], []) := rfl
        rw [lineR_ok hP (fits_nat hn), hw, hr]
        simp [numL]
      · split at h
        · rename_i hw
          simp only [Option.some.injEq, Prod.mk.injEq] at h
          obtain ⟨rfl, rfl⟩ := h
          have hP : lineP (e0 3 0 0 (c0q 0)) [] [] = some ([107, 101, 101, 112], [], []) := rfl
          rw [lineR_ok hP rfl, hw]; rfl
        · split at h
          · rename_i hw
            simp only [Option.map_eq_some_iff] at h
            obtain ⟨⟨z, r2⟩, h1, h3⟩ := h
            simp only [Prod.mk.injEq] at h3
            obtain ⟨rfl, rfl⟩ := h3
            obtain ⟨n, rfl, hn, hr⟩ := pNum_some h1
            have hP : lineP (e0 4 0 (n : Int) (c0q 0)) [] [] = some ([98, 97, 99, 107], [(n : Int)], []) := rfl
            rw [lineR_ok hP (fits_nat hn), hw, hr]
            simp [numL]
          · split at h
            · rename_i hw
              simp only [Option.map_eq_some_iff] at h
              obtain ⟨kl, h1, h3⟩ := h
              simp only [Prod.mk.injEq] at h3
              obtain ⟨rfl, _⟩ := h3
              obtain ⟨h4, h5⟩ := pNums_strict h1
              have hP : lineP (e0 5 0 0 (c0q 0)) [] kl = some ([99, 117, 116], kl, []) := rfl
              rw [lineR_ok hP h5, hw, h4, List.append_nil]
            · split at h
              · rename_i hw
                simp only [Option.some.injEq, Prod.mk.injEq] at h
                obtain ⟨rfl, rfl⟩ := h
                have hP : lineP (e0 6 0 0 (c0q 0)) [] [] = some ([114, 101, 118, 105, 118, 101], [], []) := rfl
                rw [lineR_ok hP rfl, hw]; rfl
              · cases h
theorem jn_spl : ∀ l : List UInt8, jn (spl 32 l) = l
  | [] => rfl
  | x :: r => by
    have ih := jn_spl r
    have hne := spl_ne 32 r
    simp only [spl]
    split
    · rename_i hx
      cases hs : spl 32 r with
      | nil => exact absurd hs hne
      | cons a b =>
        rw [hs] at ih
        rw [jn_two, ih, hx]; rfl
    · cases hs : spl 32 r with
      | nil => exact absurd hs hne
      | cons a b =>
        rw [hs] at ih
        simp only
        rw [jn_cons] at ih ⊢
        rw [← ih]; rfl
theorem pLine_strict {l : List UInt8} {d : AEv} (h : pLine l = some d) : lineF d.1 d.2.1 d.2.2 = (l, 0) := by
  unfold pLine at h
  split at h
  · rename_i v hv
    cases h
    have := pEvent_strict hv
    rw [this, jn_spl]
  · cases h
theorem pAll_strict : ∀ {ls : List (List UInt8)} {n : Nat} {D : List AEv}, pAll ls n = .inl D → D.map (fun d => lineF d.1 d.2.1 d.2.2) = ls.map fun l => (l, 0)
  | [], n, D, h => by cases h; rfl
  | l :: r, n, D, h => by
    simp only [pAll] at h
    cases hp : pLine l with
    | none => rw [hp] at h; cases h
    | some v =>
      rw [hp] at h
      simp only at h
      cases hr : pAll r (n + 1) with
      | inr k => rw [hr] at h; cases h
      | inl d =>
        rw [hr] at h
        cases h
        rw [List.map_cons, List.map_cons, pLine_strict hp, pAll_strict hr]
/-! ### Printed, then read -/
theorem fld_set (c : Cq) (o : Nat) (x : List UInt8) (h : o = 1 ∨ o = 2 ∨ o = 3) : (c.set o x).fld o = x := by rcases h with rfl | rfl | rfl <;> rfl
theorem pTexts_back (k : Int) (c0 c : Cq) (L' : List (List UInt8)) : ∃ c', pTexts (offs k) c0 (((offs k).map fun o => wordF (c.fld o)) ++ L') = some (c', L') ∧ c'.ck = c0.ck ∧ ∀ o ∈ offs k, c'.fld o = c.fld o := by
  rcases offs_cases k with e | e | e | e | e <;> rw [e] <;> simp only [List.map_cons, List.map_nil, List.cons_append, List.nil_append, pTexts, text_word]
  · exact ⟨_, rfl, rfl, by simp⟩
  · exact ⟨_, rfl, rfl, by simp [Cq.set, Cq.fld]⟩
  · exact ⟨_, rfl, rfl, by simp [Cq.set, Cq.fld]⟩
  · exact ⟨_, rfl, rfl, by simp [Cq.set, Cq.fld]⟩
  · exact ⟨_, rfl, rfl, by simp [Cq.set, Cq.fld]⟩
theorem single_cons {c : Cq} {ws : List (List UInt8)} (h : singleF c = some ws) : ∃ nm, c.ck ≠ 7 ∧ nameF c.ck = some nm ∧ ws = nm :: (offs c.ck).map fun o => wordF (c.fld o) := by
  unfold singleF at h
  split at h
  · cases h
  · simp only [Option.map_eq_some_iff] at h
    obtain ⟨nm, h1, h2⟩ := h
    exact ⟨nm, by assumption, h1, h2.symm⟩
theorem name_zero {k : Int} {nm : List UInt8} (h : nameF k = some nm) : k ≠ 0 := by rintro rfl; cases h
theorem pSingle_back {c : Cq} {ws : List (List UInt8)} (h : singleF c = some ws) (L' : List (List UInt8)) : ∃ nm r c', ws = nm :: r ∧ pSingle nm (r ++ L') = some (c', L') ∧ nm ≠ [103, 114, 111, 117, 112] := by
  obtain ⟨nm, h7, h1, h2⟩ := single_cons h
  have hk := kind_name h1
  obtain ⟨c', h3, _, _⟩ := pTexts_back c.ck (c0q c.ck) c L'
  refine ⟨nm, _, c', h2, ?_, ?_⟩
  · unfold pSingle
    rw [hk, if_neg (by intro e; rcases e with e | e; exact name_zero h1 e; exact h7 e)]
    exact h3
  · rintro rfl
    exact h7 (by rw [← hk]; rfl)
theorem pGr_back : ∀ {gl : List Cq}, gl ≠ [] → (∀ x ∈ gl, (singleF x).isSome = true) → ∃ gl', pGr (gw gl) = some (gl', [])
  | [], h, _ => absurd rfl h
  | [c], _, ha => by
    obtain ⟨ws, hws⟩ := Option.isSome_iff_exists.1 (ha c (by simp))
    obtain ⟨nm, r, c', h1, h2, _⟩ := pSingle_back hws []
    have hg : gw [c] = nm :: r := by simp [gw, gwords, sw, hws, h1]
    rw [hg, pGr_cons]
    rw [List.append_nil] at h2
    rw [h2]
    exact ⟨_, rfl⟩
  | c :: c2 :: cs, _, ha => by
    obtain ⟨gl', hg'⟩ := pGr_back (gl := c2 :: cs) (by simp) (fun x hx => ha x (by simp [hx]))
    obtain ⟨ws, hws⟩ := Option.isSome_iff_exists.1 (ha c (by simp))
    obtain ⟨nm, r, c', h1, h2, _⟩ := pSingle_back hws ([59] :: gw (c2 :: cs))
    have hg : gw (c :: c2 :: cs) = nm :: (r ++ [59] :: gw (c2 :: cs)) := by simp [gw, gwords, sw, hws, h1]
    rw [hg, pGr_cons, h2]
    simp only
    rw [if_pos trivial, hg']
    exact ⟨_, rfl⟩
theorem pCall_back {c : Cq} {gl : List Cq} {ws : List (List UInt8)} (h : callF c gl = some ws) : ∃ y, pCall ws = some (y, []) := by
  unfold callF at h
  split at h
  · split at h
    · rename_i hg
      cases h
      obtain ⟨gl', h1⟩ := pGr_back hg.1 hg.2
      exact ⟨(c0q 7, gl'), by simp only [pCall]; rw [if_pos trivial, h1]; rfl⟩
    · cases h
  · obtain ⟨nm, r, c', h1, h2, h3⟩ := pSingle_back h []
    rw [List.append_nil] at h2
    subst h1
    exact ⟨(c', []), by simp only [pCall]; rw [if_neg h3, h2]; rfl⟩
theorem pNums_back : ∀ {kl : List Int}, fitsB kl = true → pNums (numL kl) = some kl
  | [], _ => rfl
  | x :: r, h => by
    have hx := fitsB_mem h (x := x) (by simp)
    have hr : fitsB r = true := List.all_eq_true.2 fun y hy => List.all_eq_true.1 h y (by simp [hy])
    have ih := pNums_back hr
    simp only [numL, List.map_cons, pNums] at ih ⊢
    rw [numF_decN (by omega), ih]
    simp; omega
theorem pNum_back {x : Int} (h : fitsB [x] = true) (L : List (List UInt8)) : pNum (numL [x] ++ L) = some (x, L) := by
  have hx := fitsB_mem h (x := x) (by simp)
  simp only [numL, List.map_cons, List.map_nil, List.cons_append, List.nil_append, pNum]
  rw [numF_decN (by omega)]
  simp; omega
theorem pEvent_back {e : Evq} {gl : List Cq} {kl : List Int} {nm : List UInt8} {l : List Int} {mo : List (List UInt8)} (h : lineP e gl kl = some (nm, l, mo)) (hf : fitsB l = true) : ∃ d : AEv, pEvent (nm :: (numL l ++ mo)) = some (d, []) ∧ d.1.kind = e.kind := by
  unfold lineP at h
  split at h
  · rename_i hk
    simp only [Option.map_eq_some_iff] at h
    obtain ⟨ws, h1, h2⟩ := h
    simp only [Prod.mk.injEq] at h2
    obtain ⟨rfl, rfl, rfl⟩ := h2
    obtain ⟨y, h3⟩ := pCall_back h1
    exact ⟨(e0 1 e.th 0 y.1, y.2, []), by rw [pEv1, pNum_back hf, Option.bind_some, h3]; rfl, hk.symm⟩
  · split at h
    · rename_i hk
      cases h
      exact ⟨(e0 2 e.th 0 (c0q 0), [], []), by rw [pEv2, pNum_back hf]; rfl, hk.symm⟩
    · split at h
      · rename_i hk
        cases h
        exact ⟨(e0 3 0 0 (c0q 0), [], []), by rw [pEv3]; rfl, hk.symm⟩
      · split at h
        · rename_i hk
          cases h
          exact ⟨(e0 4 0 e.ln (c0q 0), [], []), by rw [pEv4, pNum_back hf]; rfl, hk.symm⟩
        · split at h
          · rename_i hk
            cases h
            exact ⟨(e0 5 0 0 (c0q 0), [], kl), by rw [pEv5, List.append_nil, pNums_back hf]; rfl, hk.symm⟩
          · split at h
            · rename_i hk
              cases h
              exact ⟨(e0 6 0 0 (c0q 0), [], []), by rw [pEv6]; rfl, hk.symm⟩
            · cases h
/-- A word without a blank or a line's end. -/
def gW (w : List UInt8) : Prop := ∀ x ∈ w, x ≠ 32 ∧ x ≠ 10
theorem spl_gw : ∀ (w : List UInt8), gW w → spl 32 w = [w] ∧ ∀ s, spl 32 (w ++ 32 :: s) = w :: spl 32 s
  | [], _ => ⟨rfl, fun s => by simp [spl]⟩
  | x :: r, h => by
    obtain ⟨h1, h2⟩ := spl_gw r fun y hy => h y (by simp [hy])
    have hx := (h x (by simp)).1
    refine ⟨by simp [spl, hx, h1], fun s => ?_⟩
    simp only [List.cons_append, spl]
    rw [if_neg hx, h2 s]
theorem spl_jn : ∀ (ws : List (List UInt8)), ws ≠ [] → (∀ w ∈ ws, gW w) → spl 32 (jn ws) = ws
  | [], h, _ => absurd rfl h
  | [w], _, h => by rw [jn_one]; exact (spl_gw w (h w (by simp))).1
  | w :: v :: r, _, h => by
    rw [jn_two, (spl_gw w (h w (by simp))).2, spl_jn (v :: r) (by simp) fun x hx => h x (by simp [hx])]
theorem jn_no10 : ∀ (ws : List (List UInt8)), (∀ w ∈ ws, gW w) → ∀ x ∈ jn ws, x ≠ 10
  | [], _, x, hx => by simp [jn, Go.Lib.join, List.intercalate] at hx
  | [w], h, x, hx => by rw [jn_one] at hx; exact (h w (by simp) x hx).2
  | w :: v :: r, h, x, hx => by
    rw [jn_two] at hx
    rcases List.mem_append.1 hx with hx | hx
    · exact (h w (by simp) x hx).2
    · rcases List.mem_cons.1 hx with rfl | hx
      · decide
      · exact jn_no10 (v :: r) (fun y hy => h y (by simp [hy])) x hx
theorem gW_dec (n : Nat) : gW (decN n) := by
  induction n using Nat.strongRecOn with
  | ind n ih =>
    have hd : ∀ d : Fin 10, UInt8.ofNat (48 + d.val) ≠ 32 ∧ UInt8.ofNat (48 + d.val) ≠ 10 := by decide
    by_cases h : n < 10
    · rw [decN_lt h]
      intro x hx
      rw [List.mem_singleton] at hx; subst hx
      exact hd ⟨n, h⟩
    · rw [decN_ge h, decN_lt (n := n % 10) (by omega)]
      intro x hx
      rcases List.mem_append.1 hx with hx | hx
      · exact ih (n / 10) (by omega) x hx
      · rw [List.mem_singleton] at hx; subst hx
        exact hd ⟨n % 10, by omega⟩
theorem gW_word (s : List UInt8) : gW (wordF s) := fun x hx => by
  have := word_good s x hx
  unfold goodB at this
  constructor
  · rintro rfl; have h := this.1; revert h; decide
  · rintro rfl; have h := this.1; revert h; decide
theorem gW_name {k : Int} {nm : List UInt8} (h : nameF k = some nm) : gW nm := by
  have : ∀ nm ∈ ([[103, 101, 116], [112, 117, 116], [100, 101, 108], [101, 110, 113], [100, 101, 113], [115, 99, 97, 110], [103, 114, 111, 117, 112], [115, 121, 110, 99]] : List (List UInt8)), ∀ x ∈ nm, x ≠ 32 ∧ x ≠ 10 := by decide
  refine this nm ?_
  unfold nameF at h
  repeat' split at h
  all_goals first | (cases h; simp; done) | cases h
theorem gW_single {c : Cq} {ws : List (List UInt8)} (h : singleF c = some ws) : ∀ w ∈ ws, gW w := by
  obtain ⟨nm, _, h1, rfl⟩ := single_cons h
  intro w hw
  rcases List.mem_cons.1 hw with rfl | hw
  · exact gW_name h1
  · obtain ⟨o, _, rfl⟩ := List.mem_map.1 hw
    exact gW_word _
theorem gW_sw (x : Cq) : ∀ w ∈ sw x, gW w := by
  unfold sw
  cases h : singleF x with
  | none => simp
  | some ws => exact gW_single h
theorem gW_gw (l : List Cq) : ∀ w ∈ gw l, gW w := by
  cases l with
  | nil => simp [gw, gwords]
  | cons a r =>
    intro w hw
    simp only [gw, List.map_cons, gwords, List.mem_append, List.mem_flatMap, List.mem_map, List.mem_cons] at hw
    rcases hw with hw | ⟨y, ⟨c, _, rfl⟩, hw⟩
    · exact gW_sw a w hw
    · rcases hw with rfl | hw
      · unfold gW; decide
      · exact gW_sw c w hw
theorem gW_line {e : Evq} {gl : List Cq} {kl : List Int} {nm : List UInt8} {l : List Int} {mo : List (List UInt8)} (h : lineP e gl kl = some (nm, l, mo)) : ∀ w ∈ nm :: (numL l ++ mo), gW w := by
  have hn : gW nm ∧ ∀ w ∈ mo, gW w := by
    unfold lineP at h
    repeat' split at h
    · simp only [Option.map_eq_some_iff] at h
      obtain ⟨ws, h1, h2⟩ := h
      cases h2
      refine ⟨by unfold gW; decide, ?_⟩
      unfold callF at h1
      split at h1
      · split at h1
        · cases h1
          intro w hw
          rcases List.mem_cons.1 hw with rfl | hw
          · unfold gW; decide
          · exact gW_gw gl w hw
        · cases h1
      · exact gW_single h1
    all_goals first | (cases h; exact ⟨by unfold gW; decide, by simp⟩) | cases h
  intro w hw
  rcases List.mem_cons.1 hw with rfl | hw
  · exact hn.1
  · rcases List.mem_append.1 hw with hw | hw
    · unfold numL at hw
      obtain ⟨x, _, rfl⟩ := List.mem_map.1 hw
      exact gW_dec _
    · exact hn.2 w hw
/-- An event's line is read as an event of its kind that has its line. -/
theorem line_back {e : Evq} {gl : List Cq} {kl : List Int} (h : (lineF e gl kl).2 = 0) : (∃ d : AEv, pLine (lineF e gl kl).1 = some d ∧ d.1.kind = e.kind ∧ lineF d.1 d.2.1 d.2.2 = lineF e gl kl) ∧ ∀ x ∈ (lineF e gl kl).1, x ≠ 10 := by
  cases hP : lineP e gl kl with
  | none => unfold lineF at h; rw [hP] at h; cases h
  | some q =>
    obtain ⟨nm, l, mo⟩ := q
    by_cases hf : fitsB l = true
    · have hl := lineR_ok hP hf
      obtain ⟨d, h1, h2⟩ := pEvent_back hP hf
      rw [hl]
      have hs := spl_jn (nm :: (numL l ++ mo)) (by simp) (gW_line hP)
      refine ⟨⟨d, ?_, h2, ?_⟩, jn_no10 _ (gW_line hP)⟩
      · unfold pLine; rw [hs, h1]
      · exact pEvent_strict h1
    · unfold lineF at h; rw [hP] at h; simp only [lineR] at h; rw [if_neg hf] at h; cases h
theorem cutF_app {c : UInt8} : ∀ (l s : List UInt8), (∀ x ∈ l, x ≠ c) → cutF c (l ++ c :: s) = (l, s, true)
  | [], s, _ => by simp [cutF]
  | x :: r, s, h => by
    have hx := h x (by simp)
    have ih := cutF_app r s fun y hy => h y (by simp [hy])
    simp only [List.cons_append, cutF]
    rw [if_neg hx, ih]
theorem lns_app : ∀ (ls : List (List UInt8)) (s : List UInt8), (∀ l ∈ ls, ∀ x ∈ l, x ≠ 10) → lns ((ls.flatMap fun l => l ++ [10]) ++ s) = ls ++ lns s
  | [], s, _ => rfl
  | l :: r, s, h => by
    have ih := lns_app r s fun y hy => h y (by simp [hy])
    have hc := cutF_app l ((r.flatMap fun l => l ++ [10]) ++ s) (h l (by simp))
    have e : ((l :: r).flatMap fun l => l ++ [10]) ++ s = l ++ 10 :: ((r.flatMap fun l => l ++ [10]) ++ s) := by simp
    rw [e, lns_cons (by simp), hc, ih]; rfl
theorem cutF_parts (c : UInt8) : ∀ s, (if (cutF c s).2.2 = true then (cutF c s).1 ++ c :: (cutF c s).2.1 else (cutF c s).1) = s ∧ ((cutF c s).2.2 = false → (cutF c s).2.1 = [])
  | [] => by simp [cutF]
  | x :: r => by
    obtain ⟨h1, h2⟩ := cutF_parts c r
    by_cases hx : x = c
    · simp [cutF, hx]
    · simp only [cutF, if_neg hx]
      refine ⟨?_, h2⟩
      cases hb : (cutF c r).2.2 with
      | true => rw [hb] at h1; simp only [if_true] at h1 ⊢; rw [List.cons_append, h1]
      | false => rw [hb] at h1; simp only [Bool.false_eq_true, if_false] at h1 ⊢; rw [h1]
theorem lns_txt : ∀ (n : Nat) (s : List UInt8), s.length ≤ n → ((lns s).flatMap fun l => l ++ [10]) = s ∨ ((lns s).flatMap fun l => l ++ [10]) = s ++ [10]
  | n, [], _ => .inl rfl
  | 0, x :: r, h => by simp at h
  | n + 1, x :: r, h => by
    have hne : x :: r ≠ [] := by simp
    obtain ⟨h1, h2⟩ := cutF_parts 10 (x :: r)
    have hlt := cutF_lt 10 (x :: r) hne
    rw [lns_cons hne]
    generalize cutF 10 (x :: r) = q at h1 h2 hlt
    obtain ⟨a, s, b⟩ := q
    simp only at h1 h2 hlt
    cases hb : b with
    | true =>
      rw [hb] at h1
      simp only [if_true] at h1
      rw [List.flatMap_cons, ← h1]
      rcases lns_txt n s (by omega) with h3 | h3
      · left; rw [h3]; simp
      · right; rw [h3]; simp
    | false =>
      rw [hb] at h1
      simp only [Bool.false_eq_true, if_false] at h1
      rw [h2 hb, h1]
      right; simp [lns_nil]
/-- Lines that are events' lines are read as such events. -/
theorem pAll_back : ∀ (es : List (Evq × List Cq × List Int)) (n : Nat), (∀ e ∈ es, (lineF e.1 e.2.1 e.2.2).2 = 0) → ∃ D : List AEv, pAll (es.map fun e => (lineF e.1 e.2.1 e.2.2).1) n = .inl D ∧ D.length = es.length ∧ ∀ (i : Nat) (e : Evq × List Cq × List Int) (d : AEv), es[i]? = some e → D[i]? = some d → d.1.kind = e.1.kind ∧ lineF d.1 d.2.1 d.2.2 = lineF e.1 e.2.1 e.2.2
  | [], n, _ => ⟨[], rfl, rfl, by simp⟩
  | e :: r, n, h => by
    obtain ⟨D, h1, h2, h3⟩ := pAll_back r (n + 1) fun y hy => h y (by simp [hy])
    obtain ⟨⟨d, h4, h5, h6⟩, _⟩ := line_back (h e (by simp))
    refine ⟨d :: D, by simp only [List.map_cons, pAll, h4, h1], by simp [h2], fun i a b ha hb => ?_⟩
    cases i with
    | zero => simp at ha hb; subst ha; subst hb; exact ⟨h5, h6⟩
    | succ j => exact h3 j a b (by simpa using ha) (by simpa using hb)
theorem pAll_app : ∀ (a b : List (List UInt8)) (n : Nat) (D : List AEv), pAll a n = .inl D → pAll (a ++ b) n = pThen D (pAll b (n + a.length))
  | [], b, n, D, h => by
    cases h
    simp only [List.nil_append, List.length_nil, Nat.add_zero]
    cases pAll b n <;> simp [pThen]
  | l :: r, b, n, D, h => by
    simp only [pAll, List.cons_append] at h ⊢
    cases hp : pLine l with
    | none => rw [hp] at h; cases h
    | some v =>
      rw [hp] at h
      simp only at h ⊢
      cases hr : pAll r (n + 1) with
      | inr k => rw [hr] at h; cases h
      | inl d =>
        rw [hr] at h
        cases h
        rw [pAll_app r b (n + 1) d hr]
        rw [show n + 1 + r.length = n + (l :: r).length from by simp; omega]
        cases pAll b (n + (l :: r).length) <;> simp [pThen]
theorem pAll_shift : ∀ (b : List (List UInt8)) (n m : Nat), pAll b (n + m) = match pAll b n with | .inl D => .inl D | .inr k => .inr (k + m)
  | [], n, m => rfl
  | l :: r, n, m => by
    simp only [pAll]
    cases hp : pLine l with
    | none => rfl
    | some v =>
      simp only
      rw [show n + m + 1 = n + 1 + m from by omega, pAll_shift r (n + 1) m]
      cases pAll r (n + 1) <;> rfl
theorem pAll_pos : ∀ (b : List (List UInt8)) (n k : Nat), pAll b n = .inr k → n ≤ k
  | [], n, k, h => by cases h
  | l :: r, n, k, h => by
    simp only [pAll] at h
    cases hp : pLine l with
    | none => rw [hp] at h; cases h; exact Nat.le_refl _
    | some v =>
      rw [hp] at h
      simp only at h
      cases hr : pAll r (n + 1) with
      | inl d => rw [hr] at h; cases h
      | inr j => rw [hr] at h; cases h; have := pAll_pos r (n + 1) k hr; omega
end Go.Proofs.YtagliemeolngiaaDoor
