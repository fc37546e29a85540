/- The walk of StoryTells. -/
import Derived.Test.YtaihimbjdgmjgaaSeI
import Derived.Lib.Hide
namespace Go.Proofs.Ytaihimbjdgmjgaa
open Go Go.RowKit V
set_option linter.unusedVariables false
set_option maxRecDepth 100000
open V (ownV ownG ownS ownOk)
theorem ownSl_v2 {sz n : Nat} {xs : List Value} {o : V.OwnO} (h : ownOk sz n xs o) : ownV n o = .slice (ownSl n o).a n (ownSl n o).c := by
  rcases o with _ | ⟨g, rest, cap⟩
  · have : n = 0 := h.2
    subst this; rfl
  · rfl
theorem sta_exists {α : Type} (key : α → Int) (l : List α) : ∃ l', Sta key l l' ∧ Up key l' := by
  have hp : (l.mergeSort fun a b => decide (key a ≤ key b)).Perm l := List.mergeSort_perm _ _
  have tr : ∀ a b c : α, decide (key a ≤ key b) = true → decide (key b ≤ key c) = true → decide (key a ≤ key c) = true := fun a b c h1 h2 => by
    simp only [decide_eq_true_eq] at *; omega
  have tot : ∀ a b : α, (decide (key a ≤ key b) || decide (key b ≤ key a)) = true := fun a b => by
    simp only [Bool.or_eq_true, decide_eq_true_eq]; omega
  refine ⟨l.mergeSort fun a b => decide (key a ≤ key b), ⟨hp.length_eq, fun k => ?_⟩, (List.pairwise_mergeSort tr tot l).imp fun h => of_decide_eq_true h⟩
  have hs : (l.filter (fun x => key x == k)).Sublist (l.mergeSort fun a b => decide (key a ≤ key b)) := by
    refine List.sublist_mergeSort tr tot ?_ List.filter_sublist
    refine List.pairwise_of_forall_mem_list fun a ha b hb => ?_
    have h1 := (List.mem_filter.1 ha).2
    have h2 := (List.mem_filter.1 hb).2
    simp only [beq_iff_eq] at h1 h2
    simp only [decide_eq_true_eq]; omega
  have h2 := hs.filter (fun x => key x == k)
  rw [List.filter_filter] at h2
  simp only [Bool.and_self] at h2
  exact (h2.eq_of_length (hp.filter _).length_eq.symm).symm
theorem sta_to {α : Type} {key : α → Int} {a b c : List α} (h : Sta key a b) (h' : Sta key a c) : Sta key c b := ⟨h.1.trans h'.1.symm, fun k => (h.2 k).trans (h'.2 k).symm⟩
theorem sta_zip {α β : Type} {ka : α → Int} {kb : β → Int} {X X' : List α} {Y Y' : List β} (hl : Y.length = X.length) (hk : Y.map kb = X.map ka) (hX : Sta ka X X') (uX : Up ka X') (hY : Sta kb Y Y') (uY : Up kb Y') {R : α → β → Prop} (hR : ∀ (i : Nat) a b, X[i]? = some a → Y[i]? = some b → R a b) : Y'.length = X'.length ∧ ∀ (i : Nat) a b, X'[i]? = some a → Y'[i]? = some b → R a b := by
  obtain ⟨Z, hZ, uZ⟩ := sta_exists (fun z : α × β => ka z.1) (X.zip Y)
  have e1 : (X.zip Y).map Prod.fst = X := List.map_fst_zip (by omega)
  have e2 : (X.zip Y).map Prod.snd = Y := List.map_snd_zip (by omega)
  have hk2 : ∀ z ∈ X.zip Y, kb z.2 = ka z.1 := fun z hz => by
    obtain ⟨i, hi⟩ := List.getElem?_of_mem hz
    have h1 : X[i]? = some z.1 := by rw [← e1, List.getElem?_map, hi]; rfl
    have h2 : Y[i]? = some z.2 := by rw [← e2, List.getElem?_map, hi]; rfl
    have h3 := congrArg (·[i]?) hk
    simp only [List.getElem?_map, h1, h2, Option.map_some, Option.some.injEq] at h3
    exact h3
  have hmem : ∀ z, z ∈ Z ↔ z ∈ X.zip Y := fun z => hZ.mem z
  have s1 : Sta ka X (Z.map Prod.fst) := ⟨by rw [List.length_map, hZ.1, ← List.length_map (f := Prod.fst), e1], fun k => by
    rw [List.filter_map, ← e1, List.filter_map]
    have := hZ.2 k
    exact congrArg (List.map Prod.fst) this⟩
  have s2 : Sta kb Y (Z.map Prod.snd) := ⟨by rw [List.length_map, hZ.1, ← List.length_map (f := Prod.snd), e2], fun k => by
    rw [List.filter_map, ← e2, List.filter_map]
    have := hZ.2 k
    have c1 : Z.filter ((fun x => kb x == k) ∘ Prod.snd) = Z.filter (fun z => ka z.1 == k) := List.filter_congr fun z hz => by simp only [Function.comp]; rw [hk2 z ((hmem z).1 hz)]
    have c2 : (X.zip Y).filter ((fun x => kb x == k) ∘ Prod.snd) = (X.zip Y).filter (fun z => ka z.1 == k) := List.filter_congr fun z hz => by simp only [Function.comp]; rw [hk2 z hz]
    rw [c1, c2]
    exact congrArg (List.map Prod.snd) this⟩
  have u1 : Up ka (Z.map Prod.fst) := List.Pairwise.map _ (fun a b h => h) uZ
  have u2 : Up kb (Z.map Prod.snd) := by
    refine List.Pairwise.map _ (fun a b h => h) (R := fun a b : α × β => kb a.2 ≤ kb b.2) ?_
    refine uZ.imp_of_mem fun {a b} ha hb h => ?_
    have h' : ka a.1 ≤ ka b.1 := h
    rw [hk2 a ((hmem a).1 ha), hk2 b ((hmem b).1 hb)]; exact h'
  have x1 : X' = Z.map Prod.fst := sta_uniq (sta_to s1 hX) uX u1
  have x2 : Y' = Z.map Prod.snd := sta_uniq (sta_to s2 hY) uY u2
  subst x1; subst x2
  refine ⟨by simp, fun i a b ha hb => ?_⟩
  rw [List.getElem?_map] at ha hb
  cases hq : Z[i]? with
  | none => rw [hq] at ha; cases ha
  | some z =>
    rw [hq] at ha hb
    cases ha; cases hb
    have hz := (hmem z).1 (List.mem_of_getElem? hq)
    obtain ⟨j, hj⟩ := List.getElem?_of_mem hz
    exact hR j z.1 z.2 (by rw [← e1, List.getElem?_map, hj]; rfl) (by rw [← e2, List.getElem?_map, hj]; rfl)
theorem GOk.hp {w0 w : World} {sg : Sg} {l : List Sto} {gr : Sto → List Cl} (h : GOk w0 l gr) (hw : Hp ⟨w0, []⟩ sg w) : GOk w l gr := fun s hs => by
  obtain ⟨a, b, c⟩ := h s hs
  exact ⟨a, hw.slAt b (by simp [ids]), c⟩
theorem gOk_of {W : World} {l : List Sto} (h : ∀ s ∈ l, ∃ gl pl hl, RdS W s gl pl hl ∧ Small s gl) : ∃ gr, GOk W l gr := by
  have h1 : ∀ s, ∃ gl : List Cl, s ∈ l → ∃ pl hl, RdS W s gl pl hl ∧ Small s gl := fun s => by
    by_cases hs : s ∈ l
    · obtain ⟨gl, h2⟩ := h s hs
      exact ⟨gl, fun _ => h2⟩
    · exact ⟨[], fun h2 => absurd h2 hs⟩
  obtain ⟨gr, hgr⟩ := Classical.skolem.1 h1
  refine ⟨gr, fun s hs => ?_⟩
  obtain ⟨pl, hl, hr, hsm⟩ := hgr s hs
  exact ⟨hr.1, hr.2.1, hsm.1.1, by have := hsm.1.2.1; unfold maxLen; omega, fun x hx => by have := hsm.1.2.2 x hx; unfold maxLen; omega⟩
theorem CpW.cm {W0 w : World} {sg : Sg} {s s' : Sto} (h : CpW (RdS W0) w s s') (hw : Hp ⟨W0, []⟩ sg w) : Cm w s' s := by
  obtain ⟨h1, gl, pl, hl, gl', h2, h3, h4, h5, h6⟩ := h
  exact ⟨h1, gl', gl, pl, hl, h4, h2.hp hw, h5, h6, h3.2.1, h3.1.1, by have := h2.2.2.1; have := h3.2.2.1; omega, by have := h2.2.2.2.2.1; have := h3.2.2.2; omega⟩
theorem cm_self {W0 w : World} {sg : Sg} {s : Sto} (h : ∃ gl pl hl, RdS W0 s gl pl hl ∧ Small s gl) (hw : Hp ⟨W0, []⟩ sg w) : Cm w s s := by
  obtain ⟨gl, pl, hl, h2, h3⟩ := h
  exact ⟨rfl, gl, gl, pl, hl, h2.hp hw, h2.hp hw, rfl, h3.2.1, h3.2.1, h3.1.1, by have := h2.2.2.1; have := h3.2.2.1; omega, by have := h2.2.2.2.2.1; have := h3.2.2.2; omega⟩
theorem overSG_c (y : V.OwnO) (m : Nat) (xs : List Value) (hk : V.ownOk 14 m xs y) (hl : m ≤ 1000) (w : World) (hs : Sat [ownG 36 xs y] w) : Calls Try.prog 29 [V.ownV m y].toArray w fun e w' => ∃ _u : Unit, True ∧ e = .returned (.tuple #[]) ∧ Hp ⟨w, ids [ownG 36 xs y]⟩ [] w' := by
  have e : ids [ownG 36 xs y] = ids (ownS 36 xs y) := by rcases y with _ | ⟨g, rest, cap⟩ <;> rfl
  rw [e]
  refine overS_c y m xs hk hl w ?_
  rcases y with _ | ⟨g, rest, cap⟩
  · exact ⟨by simp [ownS], by simp [ownS]⟩
  · exact hs
theorem storyTells_c (p : Option Addr) (n cap : Nat) (l : List Sto) (W0 : World) (hn : l.length = n) (h : V.slAt W0 p 14 Sto.cells l) (ho : ∀ s ∈ l, StoOk W0 s) : Calls Try.prog 6 [.slice p n cap].toArray W0
    fun e w' => e = .returned (.bool true) ∧ Below W0.heap.size W0 w' := by
  refine V.calls [] Try.func6 rfl Try.ntmps6 (Nat.le_of_ble_eq_true rfl) (V.sat_nil _) ?_
  refine CW.seq ?_
  refine CW.region ?_
  refine LW.v rfl rfl (Val.assign rfl) ?_
  refine LW.nil ?_
  refine PQ.seq ?_
  refine CW.seq ?_
  refine CW.seq ?_
  refine CW.region ?_
  refine LW.v rfl rfl (Val.move rfl) ?_
  refine LW.e rfl rfl (Eff.callR rfl Try.call9 (fun w hw => large_c (RdS W0) p n cap l w hn (hw.slAt h (by simp [ids])) (fun s hs => by obtain ⟨gl, pl, hl, hr⟩ := ho s hs; exact ⟨gl, pl, hl, hr, hr.hp hw⟩))) ?_
  intro x hx
  refine LW.nil ?_
  refine PQ.seq ?_
  refine CW.cond rfl (fun h8 => ?_) (fun h8 => ?_)
  · replace h8 := bT h8
    refine CW.seq ?_
    refine CW.region ?_
    refine LW.e rfl rfl (Eff.callV rfl Try.call10 (fun w hw => awake24_c w)) ?_
    intro _ _
    refine LW.v rfl rfl (Val.assign rfl) ?_
    refine LW.nil ?_
    refine PQ.seq ?_
    refine CW.ret ?_
    refine PQ.then_ret ?_
    refine PQ.ret1 rfl rfl ?_
    intro w' hw; exact ⟨rfl, hw.below⟩
  · replace h8 := bF h8
    obtain ⟨hx1, hx2⟩ := hx h8
    have hrr : ∀ s ∈ l, ∃ gl pl hl, RdS W0 s gl pl hl ∧ Small s gl := fun s hs => by
      obtain ⟨i, hi⟩ := List.getElem?_of_mem hs
      exact hx2 i (by have := (List.getElem?_eq_some_iff.1 hi).1; omega) s hi
    obtain ⟨gr, hgr⟩ := gOk_of hrr
    refine CW.skip ?_
    refine PQ.seq ?_
    refine CW.seq ?_
    refine CW.region ?_
    refine LW.v rfl rfl (Val.move rfl) ?_
    refine LW.e rfl rfl (Eff.callM ([]) .nil rfl Try.call11 (fun w hw hs0 => ended_c (RdS W0) p n cap l w hn (hw.slAt h (by simp [ids])) (by omega) (fun i hi s hs => by obtain ⟨gl, pl, hl, hr, hsm⟩ := hx2 i hi s hs; exact ⟨gl, pl, hl, hr, hr.hp hw, hsm⟩))) ?_
    rintro ⟨o, L, G⟩ ⟨ho1, hl1, L1, hL1, hc1, hS1, hU1⟩
    simp only at ho1 hl1 hL1 hc1 hS1 hU1
    refine LW.v rfl rfl (Val.move rfl) ?_
    refine LW.e rfl rfl (Eff.callM ([]) .nil rfl Try.call20 (fun w hw hs0 => points_c (RdS W0) p n cap l w hn (hw.slAt h (by simp [ids])) (by omega) (fun i hi s hs => by obtain ⟨gl, pl, hl, hr, hsm⟩ := hx2 i hi s hs; exact ⟨gl, pl, hl, hr, hr.hp hw, hsm⟩))) ?_
    rintro ⟨op, Lp, Gp⟩ ⟨hop, hlp, hcp⟩
    simp only at hop hlp hcp
    refine LW.v rfl rfl (Val.move rfl) ?_
    refine LW.e rfl rfl (Eff.callM ([]) .nil rfl Try.call21 (fun w hw hs0 => skeys_c p n cap l gr w hn (hw.slAt h (by simp [ids])) (by omega) (hgr.hp hw))) ?_
    rintro ⟨ok, K⟩ ⟨⟨hK1, hK2⟩, hok⟩
    simp only at hK1 hK2 hok
    have hKl : K.length ≤ 100000 := by
      have h1 := V.len_le_of_nodup (D := K) (hK1.imp fun {a b} hab e => by subst e; exact List.lt_irrefl _ hab) (fun q hq => (hK2 q).1 hq)
      have h2 := keysAll_len hgr
      omega
    refine LW.v rfl rfl (Val.assign rfl) ?_
    refine LW.v rfl rfl (Val.assign rfl) ?_
    refine LW.v rfl rfl (Val.assign rfl) ?_
    refine LW.nil ?_
    refine PQ.seq ?_
    refine CW.seq ?_
    refine CW.seq ?_
    refine CW.region ?_
    refine LW.v rfl rfl (Val.move rfl) ?_
    refine LW.e rfl rfl (Eff.callR rfl Try.call22 (fun w hw => may_c p n cap l w hn (hw.slAt h (by simp [ids])) (by omega))) ?_
    intro x1 hx1m
    refine LW.v rfl rfl (Val.move rfl) ?_
    refine LW.e rfl rfl (Eff.callR rfl Try.call23 (fun w hw => rmay_c p n cap l w hn (hw.slAt h (by simp [ids])) (by omega))) ?_
    intro x2 hx2m
    refine LW.v rfl rfl (Val.neB rfl rfl Try.underlying4) ?_
    refine LW.re 20 (.bool false) rfl (by rw [show x1 = x2 from by rw [Bool.eq_iff_iff]; exact hx1m.trans hx2m.symm]; simp) ?_
    refine LW.v rfl rfl (Val.move rfl) ?_
    refine LW.v rfl rfl (Val.move rfl) ?_
    refine LW.v rfl rfl (Val.move rfl) ?_
    refine LW.e rfl rfl (Eff.callM ([]) .nil rfl Try.call25 (fun w hw hs0 => rended_c p n cap l w hn (hw.slAt h (by simp [ids])) (by omega))) ?_
    rintro ⟨o2, L2⟩ ⟨ho2, hl2, hS2, hU2⟩
    simp only at ho2 hl2 hS2 hU2
    have hlen2 : L.length = L2.length := by have e1 := hS1.1; have e2 := hS2.1; omega
    have hcm : ∀ w, Sat [G] w → ∀ (i : Nat) a b, L2[i]? = some a → L[i]? = some b → CpW (RdS W0) w a b := fun w hG => (sta_zip hL1.2 ((hc1 w hG).en) hS2 hU2 hS1 hU1 (hc1 w hG).2).2
    refine LW.re 22 (.slice (ownSl L.length o).a L2.length (ownSl L.length o).c) rfl ((ownSl_v2 ho1).trans (congrArg (fun z => Value.slice _ z _) hlen2)) ?_
    refine LW.re 24 (.slice (ownSl L2.length o2).a L2.length (ownSl L2.length o2).c) rfl (ownSl_v2 ho2) ?_
    refine LW.e rfl rfl (Eff.callV rfl Try.call24 (fun w hw => sameS_c L L2 _ _ L2.length _ _ hlen2 rfl (by omega) w (ownSl_at sto_len ho1 (hw.sat.pick (ss := [ownG 36 (L.flatMap Sto.cells) o]) (by repeat (first | exact .nil | apply Pick.cons | exact .here | apply Ext.there)))) (ownSl_at sto_len ho2 (hw.sat.pick (ss := [ownG 36 (L2.flatMap Sto.cells) o2]) (by repeat (first | exact .nil | apply Pick.cons | exact .here | apply Ext.there)))) (fun i s1 s2 hs1 hs2 => (hcm w (hw.sat.pick (ss := [G]) (by repeat (first | exact .nil | apply Pick.cons | exact .here | apply Ext.there))) i s2 s1 hs2 hs1).cm hw))) ?_
    intro _ _
    refine LW.v rfl rfl (Val.not rfl) ?_
    refine LW.v rfl rfl (Val.pick_f rfl rfl) ?_
    refine LW.v rfl rfl (Val.move rfl) ?_
    refine LW.v rfl rfl (Val.move rfl) ?_
    refine LW.v rfl rfl (Val.move rfl) ?_
    refine LW.e rfl rfl (Eff.callM ([]) .nil rfl Try.call26 (fun w hw hs0 => rpoints_c p n cap l w hn (hw.slAt h (by simp [ids])) (by omega))) ?_
    intro o3 ho3
    refine LW.re 29 (.slice (ownSl Lp.length op).a (l.filter qP).length (ownSl Lp.length op).c) rfl ((ownSl_v2 hop).trans (congrArg (fun z => Value.slice _ z _) hlp.2)) ?_
    refine LW.re 31 (.slice (ownSl (l.filter qP).length o3).a (l.filter qP).length (ownSl (l.filter qP).length o3).c) rfl (ownSl_v2 ho3) ?_
    refine LW.e rfl rfl (Eff.callV rfl Try.call24 (fun w hw => sameS_c Lp (l.filter qP) _ _ (l.filter qP).length _ _ hlp.2 rfl (by omega) w (ownSl_at sto_len hop (hw.sat.pick (ss := [ownG 36 (Lp.flatMap Sto.cells) op]) (by repeat (first | exact .nil | apply Pick.cons | exact .here | apply Ext.there)))) (ownSl_at sto_len ho3 (hw.sat.pick (ss := [ownG 36 ((l.filter qP).flatMap Sto.cells) o3]) (by repeat (first | exact .nil | apply Pick.cons | exact .here | apply Ext.there)))) (fun i s1 s2 hs1 hs2 => ((hcp w (hw.sat.pick (ss := [Gp]) (by repeat (first | exact .nil | apply Pick.cons | exact .here | apply Ext.there)))).2 i s2 s1 hs2 hs1).cm hw))) ?_
    intro _ _
    refine LW.v rfl rfl (Val.not rfl) ?_
    refine LW.v rfl rfl (Val.pick_f rfl rfl) ?_
    refine LW.v rfl rfl (Val.move rfl) ?_
    refine LW.v rfl rfl (Val.move rfl) ?_
    refine LW.v rfl rfl (Val.move rfl) ?_
    refine LW.e rfl rfl (Eff.callM ([]) .nil rfl Try.call28 (fun w hw hs0 => rkeys_c p n cap l gr w hn (hw.slAt h (by simp [ids])) (by omega) (hgr.hp hw))) ?_
    rintro ⟨ok2, K2⟩ ⟨⟨hK3, hK4⟩, hok2⟩
    simp only at hK3 hK4 hok2
    obtain rfl : K = K2 := upK_uniq hK1 hK3 (fun q => (hK2 q).trans (hK4 q).symm)
    refine LW.re 36 (.slice (ownSl K.length ok).a K.length (ownSl K.length ok).c) rfl (ownSl_v2 hok) ?_
    refine LW.re 38 (.slice (ownSl K.length ok2).a K.length (ownSl K.length ok2).c) rfl (ownSl_v2 hok2) ?_
    refine LW.e rfl rfl (Eff.callV rfl Try.call27 (fun w hw => sameT_c K _ _ K.length K.length _ _ rfl rfl (by omega) w (ownSl_at st_len hok (hw.sat.pick (ss := [ownG 9 (K.flatMap strC) ok]) (by repeat (first | exact .nil | apply Pick.cons | exact .here | apply Ext.there)))) (ownSl_at st_len hok2 (hw.sat.pick (ss := [ownG 9 (K.flatMap strC) ok2]) (by repeat (first | exact .nil | apply Pick.cons | exact .here | apply Ext.there)))))) ?_
    intro _ _
    refine LW.v rfl rfl (Val.not rfl) ?_
    refine LW.v rfl rfl (Val.pick_f rfl rfl) ?_
    refine LW.nil ?_
    refine PQ.seq ?_
    refine CW.cond_f rfl ?_
    refine CW.skip ?_
    refine PQ.seq ?_
    refine CW.seq ?_
    refine CW.region ?_
    refine LW.v rfl rfl (Val.move rfl) ?_
    refine LW.e rfl rfl (Eff.callM ([]) .nil rfl Try.call26 (fun w hw hs0 => rpoints_c p n cap l w hn (hw.slAt h (by simp [ids])) (by omega))) ?_
    intro o5 ho5
    refine LW.v rfl rfl (Val.assign rfl) ?_
    refine LW.nil ?_
    refine PQ.seq ?_
    refine CW.seq ?_
    refine CW.region ?_
    refine LW.v rfl rfl (Val.move rfl) ?_
    refine LW.e rfl rfl (Eff.callM ([ownG 36 (L.flatMap Sto.cells) o]) (by repeat (first | exact .nil | apply Pick.cons | exact .here | apply Ext.there)) rfl Try.call29 (fun w hw hs0 => overSG_c o L.length (L.flatMap Sto.cells) ho1 (by omega) w hs0)) ?_
    intro _ _
    refine LW.nil ?_
    refine PQ.seq ?_
    refine CW.seq ?_
    refine CW.region ?_
    refine LW.v rfl rfl (Val.move rfl) ?_
    refine LW.e rfl rfl (Eff.callM ([ownG 36 (Lp.flatMap Sto.cells) op]) (by repeat (first | exact .nil | apply Pick.cons | exact .here | apply Ext.there)) rfl Try.call29 (fun w hw hs0 => overSG_c op Lp.length (Lp.flatMap Sto.cells) hop (by omega) w hs0)) ?_
    intro _ _
    refine LW.nil ?_
    refine PQ.seq ?_
    refine CW.seq ?_
    refine CW.region ?_
    refine LW.v rfl rfl (Val.move rfl) ?_
    refine LW.e rfl rfl (Eff.callM ([]) .nil rfl Try.call26 (fun w hw hs0 => rpoints_c p n cap l w hn (hw.slAt h (by simp [ids])) (by omega))) ?_
    intro o6 ho6
    refine LW.v rfl rfl (Val.move rfl) ?_
    refine LW.re 49 (.slice (ownSl (l.filter qP).length o6).a (l.filter qP).length (ownSl (l.filter qP).length o6).c) rfl (ownSl_v2 ho6) ?_
    refine LW.re 50 (.slice (ownSl (l.filter qP).length o5).a (l.filter qP).length (ownSl (l.filter qP).length o5).c) rfl (ownSl_v2 ho5) ?_
    refine LW.e rfl rfl (Eff.callV rfl Try.call24 (fun w hw => sameS_c (l.filter qP) (l.filter qP) _ _ (l.filter qP).length _ _ rfl rfl (by omega) w (ownSl_at sto_len ho6 (hw.sat.pick (ss := [ownG 36 ((l.filter qP).flatMap Sto.cells) o6]) (by repeat (first | exact .nil | apply Pick.cons | exact .here | apply Ext.there)))) (ownSl_at sto_len ho5 (hw.sat.pick (ss := [ownG 36 ((l.filter qP).flatMap Sto.cells) o5]) (by repeat (first | exact .nil | apply Pick.cons | exact .here | apply Ext.there)))) (fun i s1 s2 hs1 hs2 => by rw [hs1] at hs2; cases hs2; exact cm_self (hrr s1 (List.mem_filter.1 (List.mem_of_getElem? hs1)).1) hw))) ?_
    intro _ _
    refine LW.v rfl rfl (Val.move rfl) ?_
    refine LW.v rfl rfl (Val.move rfl) ?_
    refine LW.e rfl rfl (Eff.callM ([]) .nil rfl Try.call20 (fun w hw hs0 => points_c (RdS W0) p n cap l w hn (hw.slAt h (by simp [ids])) (by omega) (fun i hi s hs => by obtain ⟨gl, pl, hl, hr, hsm⟩ := hx2 i hi s hs; exact ⟨gl, pl, hl, hr, hr.hp hw, hsm⟩))) ?_
    rintro ⟨o7, L7, G7⟩ ⟨ho7, hl7, hc7⟩
    simp only at ho7 hl7 hc7
    refine LW.v rfl rfl (Val.move rfl) ?_
    refine LW.re 54 (.slice (ownSl L7.length o7).a (l.filter qP).length (ownSl L7.length o7).c) rfl ((ownSl_v2 ho7).trans (congrArg (fun z => Value.slice _ z _) hl7.2)) ?_
    refine LW.re 55 (.slice (ownSl (l.filter qP).length o5).a (l.filter qP).length (ownSl (l.filter qP).length o5).c) rfl (ownSl_v2 ho5) ?_
    refine LW.e rfl rfl (Eff.callV rfl Try.call24 (fun w hw => sameS_c L7 (l.filter qP) _ _ (l.filter qP).length _ _ hl7.2 rfl (by omega) w (ownSl_at sto_len ho7 (hw.sat.pick (ss := [ownG 36 (L7.flatMap Sto.cells) o7]) (by repeat (first | exact .nil | apply Pick.cons | exact .here | apply Ext.there)))) (ownSl_at sto_len ho5 (hw.sat.pick (ss := [ownG 36 ((l.filter qP).flatMap Sto.cells) o5]) (by repeat (first | exact .nil | apply Pick.cons | exact .here | apply Ext.there)))) (fun i s1 s2 hs1 hs2 => ((hc7 w (hw.sat.pick (ss := [G7]) (by repeat (first | exact .nil | apply Pick.cons | exact .here | apply Ext.there)))).2 i s2 s1 hs2 hs1).cm hw))) ?_
    intro _ _
    refine LW.v rfl rfl (Val.pick_t rfl rfl) ?_
    refine LW.v rfl rfl (Val.move rfl) ?_
    refine LW.e rfl rfl (Eff.callV rfl Try.call10 (fun w hw => awake24_c w)) ?_
    intro _ _
    refine LW.v rfl rfl (Val.pick_t rfl rfl) ?_
    refine LW.v rfl rfl (Val.assign rfl) ?_
    refine LW.nil ?_
    refine PQ.seq ?_
    refine CW.ret ?_
    refine PQ.ret1 rfl rfl ?_
    intro w' hw; exact ⟨rfl, hw.below⟩
end Go.Proofs.Ytaihimbjdgmjgaa
