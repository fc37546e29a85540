/- The walks of ScriptBack, ScriptStrict, ScriptParts. -/
import Derived.Test.YtagliemeolngiaaDoorScV
import Derived.Test.YtagliemeolngiaaDoorV25
import Derived.Lib.Hide
namespace Go.Proofs.YtagliemeolngiaaDoor
open Go Go.RowKit V
set_option linter.unusedVariables false
set_option maxRecDepth 100000
open V (str byC ownV ownG ownS ownOk)
theorem Ov.of {W w : World} {sg : Sg} (hw : Hp ⟨W, []⟩ sg w) : Ov W w := ⟨hw.size, fun b hb => hw.old b hb (by simp)⟩
theorem NumLib.all {W : World} (h : NumLib W) : ItoaAll W := fun x h0 h1 w' hb => (h.itoa w' (fun b hb' => hb.block b hb') x (by omega) (by omega)).mono fun e w2 ⟨h2, h3⟩ => ⟨by rw [h2]; unfold Go.Lib.itoa decN; rw [if_neg (by omega)], h3⟩
theorem pGroup_count : ∀ (n : Nat) (L : List (List UInt8)) (gl : List Cq) (L' : List (List UInt8)), pGroup n L = some (gl, L') → gl.length ≤ L.length
  | 0, _, _, _, h => by cases h
  | n + 1, [], _, _, h => by cases h
  | n + 1, w :: r, gl, L', h => by
    simp only [pGroup] at h
    cases hp : pSingle w r with
    | none => rw [hp] at h; cases h
    | some y =>
      obtain ⟨c, r2⟩ := y
      rw [hp] at h
      have hl := pSingle_len hp
      cases r2 with
      | nil => simp only [Option.some.injEq, Prod.mk.injEq] at h; rw [← h.1]; simp
      | cons x r3 =>
        simp only at h
        split at h
        · simp only [Option.map_eq_some_iff] at h
          obtain ⟨⟨gl2, L2⟩, h3, h4⟩ := h
          simp only [Prod.mk.injEq] at h4
          have := pGroup_count n r3 gl2 L2 h3
          rw [← h4.1]; simp at hl ⊢; omega
        · cases h
theorem pEvent_count {L L' : List (List UInt8)} {d : AEv} (h : pEvent L = some (d, L')) : d.2.1.length ≤ L.length := by
  cases L with
  | nil => cases h
  | cons w r =>
    simp only [pEvent] at h
    repeat' split at h
    · simp only [Option.bind_eq_some_iff, Option.map_eq_some_iff] at h
      obtain ⟨⟨z, r2⟩, h1, ⟨⟨c, gl⟩, r3⟩, h2, h3⟩ := h
      obtain ⟨n, _, _, hr⟩ := pNum_some h1
      simp only [Prod.mk.injEq] at h3
      rw [← h3.1]
      cases r2 with
      | nil => cases h2
      | cons w2 r4 =>
        simp only [pCall] at h2
        split at h2
        · simp only [Option.map_eq_some_iff] at h2
          obtain ⟨⟨gl2, L2⟩, h5, h6⟩ := h2
          simp only [Prod.mk.injEq] at h6
          have := pGroup_count _ _ _ _ h5
          rw [← h6.1.2, hr]; simp; omega
        · simp only [Option.map_eq_some_iff] at h2
          obtain ⟨⟨c2, L2⟩, h5, h6⟩ := h2
          simp only [Prod.mk.injEq] at h6
          rw [← h6.1.2]; simp
    all_goals
      (try simp only [Option.map_eq_some_iff, Option.some.injEq, Prod.mk.injEq] at h)
      first
        | (obtain ⟨_, _, h3, _⟩ := h; rw [← h3]; simp; done)
        | (obtain ⟨h3, _⟩ := h; rw [← h3]; simp; done)
        | cases h
theorem pLine_count {l : List UInt8} {d : AEv} (h : pLine l = some d) : d.2.1.length ≤ l.length + 1 := by
  unfold pLine at h
  split at h
  · rename_i v hv
    cases h
    have := pEvent_count hv
    have := spl_len 32 l
    omega
  · cases h
theorem pAll_mem : ∀ {ls : List (List UInt8)} {n : Nat} {D : List AEv}, pAll ls n = .inl D → ∀ d ∈ D, ∃ l ∈ ls, pLine l = some d
  | [], n, D, h, d, hd => by cases h; simp at hd
  | l :: r, n, D, h, d, hd => by
    simp only [pAll] at h
    cases hp : pLine l with
    | none => rw [hp] at h; cases h
    | some v =>
      rw [hp] at h
      simp only at h
      cases hr : pAll r (n + 1) with
      | inr k => rw [hr] at h; cases h
      | inl D2 =>
        rw [hr] at h
        cases h
        rcases List.mem_cons.1 hd with rfl | hd
        · exact ⟨l, by simp, hp⟩
        · obtain ⟨l2, h1, h2⟩ := pAll_mem hr d hd
          exact ⟨l2, by simp [h1], h2⟩
theorem lns_mem : ∀ (n : Nat) (s l : List UInt8), s.length ≤ n → l ∈ lns s → l.length ≤ s.length
  | n, [], l, _, h => by cases h
  | 0, x :: r, l, h, _ => by simp at h
  | n + 1, x :: r, l, h, hl => by
    rw [lns_cons (by simp)] at hl
    have hlt := cutF_lt 10 (x :: r) (by simp)
    rcases List.mem_cons.1 hl with rfl | hl
    · exact (cutF_len 10 (x :: r)).1
    · have := lns_mem n _ l (by omega) hl
      omega
/-- How a text that is not too long is read. -/
theorem parse_cases {s : List UInt8} (hs : s.length ≤ 65536) : (∃ D, pAll (lns s) 1 = .inl D ∧ parseF s = (D, 0, 0)) ∨ (∃ n : Nat, 1 ≤ n ∧ pAll (lns s) 1 = .inr n ∧ parseF s = ([], (n : Int), 3)) := by
  unfold parseF
  rw [if_neg (by omega)]
  cases h : pAll (lns s) 1 with
  | inl D => exact .inl ⟨D, rfl, rfl⟩
  | inr n => exact .inr ⟨n, pAll_pos _ _ _ h, rfl, rfl⟩
theorem parse_count {s : List UInt8} {D : List AEv} (hs : s.length ≤ 65536) (h : pAll (lns s) 1 = .inl D) : ∀ d ∈ D, d.2.1.length ≤ 70001 := fun d hd => by
  obtain ⟨l, h1, h2⟩ := pAll_mem h d hd
  have := pLine_count h2
  have := lns_mem _ s l (Nat.le_refl _) h1
  omega
def dLn (d : AEv) : List UInt8 × Int := lineF d.1 d.2.1 d.2.2
def PsS (D : List AEv) (L : List Evq) : Prop := ∀ (i : Nat) (d : AEv) (e : Evq), D[i]? = some d → L[i]? = some e → ∃ g k, e = d.1.re g k
theorem PsL.shape {w : World} {D : List AEv} {L : List Evq} (h : PsL w D L) : PsS D L := fun i d e hd he => (h.2 i d e hd he).1
theorem psL_ok {w : World} {d : AEv} {e : Evq} (h : (∃ g k, e = d.1.re g k) ∧ EvR w e d.2.1 d.2.2) (hA : AOk d) (hc : d.2.1.length ≤ 70001) : EvOk w e d.2.1 d.2.2 := by
  obtain ⟨⟨g, k, hre⟩, hr⟩ := h
  refine ⟨hr.gn, hr.gs, hr.kn, hr.ks, hc, by have := hr.kn; have := hA.2.2.2.2; omega, ?_, fun x hx => (hA.2.2.2.1 x hx).2⟩
  rw [hre]; exact hA.2.2.1
theorem psL_lns {w : World} {D : List AEv} {L : List Evq} (h : PsL w D L) (hA : ∀ d ∈ D, AOk d) (hc : ∀ d ∈ D, d.2.1.length ≤ 70001) : LnsOk w L (D.map dLn) := ⟨by rw [List.length_map]; exact h.1.symm, fun i e he => by
  have hi := (List.getElem?_eq_some_iff.1 he).1
  obtain ⟨d, hd⟩ : ∃ d, D[i]? = some d := ⟨D[i]'(by have := h.1; omega), by simp⟩
  have hm := List.mem_of_getElem? hd
  have h1 := h.2 i d e hd he
  refine ⟨d.2.1, d.2.2, psL_ok h1 (hA d hm) (hc d hm), ?_⟩
  obtain ⟨⟨g, k, hre⟩, _⟩ := h1
  rw [List.getElem?_map, hd, hre]; rfl⟩
theorem pErr_zero : ∀ {ls : List (List UInt8 × Int)}, pErr ls = 0 → ∀ x ∈ ls, x.2 = 0
  | [], _, x, hx => by simp at hx
  | a :: r, h, x, hx => by
    simp only [pErr] at h
    split at h
    · rename_i h1
      rcases List.mem_cons.1 hx with rfl | hx
      · exact h1
      · exact pErr_zero h x hx
    · rename_i h1; exact absurd h h1
theorem printF_ok {ls : List (List UInt8 × Int)} (h : (printF ls).2 = 0) : (∀ x ∈ ls, x.2 = 0) ∧ (pTxt ls).length ≤ 65536 ∧ (printF ls).1 = pTxt ls := by
  unfold printF at h ⊢
  split at h
  · rename_i h1
    rw [if_pos h1]
    split at h
    · rename_i h2; rw [if_pos h2]; exact ⟨pErr_zero h1, h2, rfl⟩
    · cases h
  · rename_i h1; exact absurd h h1
theorem printF_no {ls : List (List UInt8 × Int)} (h : (printF ls).2 ≠ 0) : (printF ls).1 = [] := by
  unfold printF at h ⊢
  split
  · split
    · rename_i h1 h2; rw [if_pos h1, if_pos h2] at h; exact absurd rfl h
    · rfl
  · rfl
theorem printF_len (ls : List (List UInt8 × Int)) : (printF ls).1.length ≤ 65536 := by
  unfold printF
  split
  · split
    · assumption
    · simp
  · simp
theorem pTxt_map (ls : List (List UInt8 × Int)) : pTxt ls = (ls.map Prod.fst).flatMap fun l => l ++ [10] := by
  unfold pTxt; rw [List.flatMap_map]
/-- What was printed is read as such events. -/
theorem print_parse {es : List AEv} (h : (printF (es.map dLn)).2 = 0) (s : List UInt8) : ∃ D, pAll ((es.map dLn).map Prod.fst) 1 = .inl D ∧ D.length = es.length ∧ (∀ (i : Nat) (e d : AEv), es[i]? = some e → D[i]? = some d → d.1.kind = e.1.kind ∧ dLn d = dLn e) ∧ lns ((printF (es.map dLn)).1 ++ s) = (es.map dLn).map Prod.fst ++ lns s := by
  obtain ⟨h1, h2, h3⟩ := printF_ok h
  have h4 : ∀ e ∈ es, (lineF e.1 e.2.1 e.2.2).2 = 0 := fun e he => h1 (dLn e) (List.mem_map_of_mem he)
  obtain ⟨D, h5, h6, h7⟩ := pAll_back es 1 h4
  refine ⟨D, by rw [List.map_map]; exact h5, h6, h7, ?_⟩
  rw [h3, pTxt_map]
  refine lns_app _ s fun l hl => ?_
  simp only [List.mem_map] at hl
  obtain ⟨x, ⟨e, he, rfl⟩, rfl⟩ := hl
  exact (line_back (h4 e he)).2
theorem lines_eq {D es : List AEv} (hl : D.length = es.length) (h : ∀ (i : Nat) (e d : AEv), es[i]? = some e → D[i]? = some d → d.1.kind = e.1.kind ∧ dLn d = dLn e) : D.map dLn = es.map dLn := by
  refine List.ext_getElem? fun i => ?_
  rw [List.getElem?_map, List.getElem?_map]
  by_cases hi : i < D.length
  · have h1 : D[i]? = some D[i] := List.getElem?_eq_getElem hi
    have h2 : es[i]? = some (es[i]'(by omega)) := List.getElem?_eq_getElem _
    rw [h1, h2, Option.map_some, Option.map_some, (h i _ _ h2 h1).2]
  · rw [List.getElem?_eq_none (by omega), List.getElem?_eq_none (by omega)]
theorem cell_flat {α : Type} {enc : α → List Value} {sz : Nat} (hk : ∀ x, (enc x).length = sz) {l : List α} {i j : Nat} {x : α} {v : Value} (rest : List Value) (hx : l[i]? = some x) (hv : (enc x)[j]? = some v) : (l.flatMap enc ++ rest)[0 + i * sz + j]? = some v := by
  obtain ⟨r, hr⟩ := V.drop_flatMap hk l i x hx
  have hi : i < l.length := (List.getElem?_eq_some_iff.1 hx).1
  have : i * sz ≤ (l.flatMap enc).length := by rw [V.flatMap_len hk]; exact Nat.mul_le_mul_right _ (by omega)
  have h1 : ((l.flatMap enc ++ rest).drop (i * sz))[j]? = some v := by rw [List.drop_append_of_le_length this, hr, List.append_assoc, List.getElem?_append_left (List.getElem?_eq_some_iff.1 hv).1]; exact hv
  rw [List.getElem?_drop] at h1
  rw [Nat.zero_add]; exact h1
theorem lns_of {W : World} {l : List Evq} {gr : Evq → List Cq} {kr : Evq → List Int} (hx2 : ∀ e ∈ l, EvS e (gr e)) (ho : ∀ e ∈ l, EvR W e (gr e) (kr e)) : LnsOk W l ((l.map fun e => ((e, gr e, kr e) : AEv)).map dLn) := ⟨by simp, fun i e he => ⟨gr e, kr e, (hx2 e (List.mem_of_getElem? he)).ok (ho e (List.mem_of_getElem? he)), by rw [List.getElem?_map, List.getElem?_map, he]; rfl⟩⟩
theorem scriptBack_c {W0 : World} (hN : NumLib W0) (gr : Evq → List Cq) (kr : Evq → List Int) (p : Option Addr) (n cap : Nat) (l : List Evq) (hn : l.length = n) (h : V.slAt W0 p 9 Evq.cells l) (ho : ∀ e ∈ l, EvR W0 e (gr e) (kr e)) : Calls Tryd.prog 8 [.slice p n cap].toArray W0
    fun e w' => e = .returned (.bool true) ∧ Below W0.heap.size W0 w' := by
  refine V.calls [] Tryd.func8 rfl Tryd.ntmps8 (Nat.le_of_ble_eq_true rfl) (V.sat_nil _) ?_
  refine CW.seq ?_
  refine CW.region ?_
  refine LW.v rfl rfl (Val.assign rfl) ?_
  refine LW.nil ?_
  refine PQ.seq ?_
  refine CW.seq ?_
  refine CW.seq ?_
  refine CW.region ?_
  refine LW.v rfl rfl (Val.move rfl) ?_
  refine LW.e rfl rfl (Eff.callR rfl Tryd.call16 (fun w hw => heavy_c gr kr p n cap l w hn (hw.slAt h (by simp [ids])) (fun e he => (ho e he).hp hw))) ?_
  intro x hx
  refine LW.nil ?_
  refine PQ.seq ?_
  refine CW.cond rfl (fun h16 => ?_) (fun h16 => ?_)
  · replace h16 := bT h16
    refine CW.seq ?_
    refine CW.region ?_
    refine LW.e rfl rfl (Eff.callV rfl Tryd.call11 (fun w hw => awake28_c w)) ?_
    intro _ _
    refine LW.v rfl rfl (Val.assign rfl) ?_
    refine LW.nil ?_
    refine PQ.seq ?_
    refine CW.ret ?_
    refine PQ.then_ret ?_
    refine PQ.ret1 rfl rfl ?_
    intro w' hw; exact ⟨rfl, hw.below⟩
  · replace h16 := bF h16
    obtain ⟨hx1, hx2⟩ := hx h16
    have hlns := lns_of hx2 ho
    refine CW.skip ?_
    refine PQ.seq ?_
    refine CW.seq ?_
    refine CW.region ?_
    refine LW.v rfl rfl (Val.move rfl) ?_
    refine LW.e rfl rfl (Eff.callV rfl Tryd.call18 (fun w hw => print_c ((l.map fun e => ((e, gr e, kr e) : AEv)).map dLn) p n cap l w hn (hw.slAt h (by simp [ids])) (by omega) (hlns.hp hw) (hN.all.mono hw.below))) ?_
    intro _ _
    refine LW.v rfl rfl (Val.move rfl) ?_
    refine LW.v rfl rfl (Val.extract rfl rfl) ?_
    refine LW.v rfl rfl (Val.extract rfl rfl) ?_
    refine LW.v rfl rfl (Val.assign rfl) ?_
    refine LW.v rfl rfl (Val.assign rfl) ?_
    refine LW.nil ?_
    refine PQ.seq ?_
    refine CW.seq ?_
    refine CW.seq ?_
    refine CW.region ?_
    refine LW.v rfl rfl (Val.move rfl) ?_
    refine LW.v rfl rfl (Val.cmp rfl rfl rfl) ?_
    refine LW.nil ?_
    refine PQ.seq ?_
    refine CW.cond rfl (fun h24 => ?_) (fun h24 => ?_)
    · replace h24 := bT h24
      have hz := printF_no (ls := ((l.map fun e => ((e, gr e, kr e) : AEv)).map dLn)) (by simpa using h24)
      refine CW.seq ?_
      refine CW.region ?_
      refine LW.v rfl rfl (Val.move rfl) ?_
      refine LW.v rfl rfl (Val.eqStr rfl rfl) ?_
      refine LW.re 26 (.bool true) rfl (by rw [hz]; rfl) ?_
      refine LW.v rfl rfl (Val.move rfl) ?_
      refine LW.e rfl rfl (Eff.callV rfl Tryd.call11 (fun w hw => awake28_c w)) ?_
      intro _ _
      refine LW.v rfl rfl (Val.pick_t rfl rfl) ?_
      refine LW.v rfl rfl (Val.assign rfl) ?_
      refine LW.nil ?_
      refine PQ.seq ?_
      refine CW.ret ?_
      refine PQ.then_ret ?_
      refine PQ.ret1 rfl rfl ?_
      intro w' hw; exact ⟨rfl, hw.below⟩
    · replace h24 := bF h24
      have hz : (printF ((l.map fun e => ((e, gr e, kr e) : AEv)).map dLn)).2 = 0 := by simpa using h24
      obtain ⟨D, hD1, hD2, hD3, hD4⟩ := print_parse hz []
      have hpl := printF_len ((l.map fun e => ((e, gr e, kr e) : AEv)).map dLn)
      have hD5 : pAll (lns (printF ((l.map fun e => ((e, gr e, kr e) : AEv)).map dLn)).1) 1 = .inl D := by
        rw [List.append_nil, lns_nil, List.append_nil] at hD4
        rw [hD4]; exact hD1
      have hpf : parseF (printF ((l.map fun e => ((e, gr e, kr e) : AEv)).map dLn)).1 = (D, 0, 0) := by unfold parseF; rw [if_neg (by omega), hD5]
      have hcnt := parse_count hpl hD5
      have hDl : D.length = l.length := by rw [hD2, List.length_map]
      have hDe := lines_eq hD2 hD3
      refine CW.skip ?_
      refine PQ.seq ?_
      refine CW.seq ?_
      refine CW.region ?_
      refine LW.v rfl rfl (Val.move rfl) ?_
      refine LW.e rfl rfl (Eff.callM ([]) .nil rfl Tryd.call24 (fun w hw hs => parse_c hN (printF ((l.map fun e => ((e, gr e, kr e) : AEv)).map dLn)).1 (by have := printF_len ((l.map fun e => ((e, gr e, kr e) : AEv)).map dLn); omega) w (Ov.of hw))) ?_
      rintro ⟨o, L, G⟩ ⟨hyo, hps, hLl, hL6, hA⟩
      simp only at hyo hps hLl hL6 hA
      rw [hpf] at hps hLl hL6 hA
      rw [hpf]
      simp only at hps hLl hL6 hA ⊢
      have hLn : L.length = n := by omega
      refine V.LW.know (PsS D L) (fun w hw => (hps w (hw.sat.pick (ss := [G]) (by repeat (first | exact .nil | apply Pick.cons | exact .here | apply Ext.there)))).shape) fun hsh => ?_
      refine LW.v rfl rfl (Val.move rfl) ?_
      refine LW.v rfl rfl (Val.extract rfl rfl) ?_
      refine LW.v rfl rfl (Val.extract rfl rfl) ?_
      refine LW.v rfl rfl (Val.extract rfl rfl) ?_
      refine LW.v rfl rfl (Val.assign rfl) ?_
      refine LW.v rfl rfl (Val.assign rfl) ?_
      refine LW.v rfl rfl (Val.assign rfl) ?_
      refine LW.nil ?_
      refine PQ.seq ?_
      refine CW.seq ?_
      refine CW.seq ?_
      refine CW.region ?_
      refine LW.v rfl rfl (Val.move rfl) ?_
      refine LW.v rfl rfl (Val.cmp rfl rfl rfl) ?_
      refine LW.re 37 (.bool false) rfl (by rfl) ?_
      refine LW.v rfl rfl (Val.move rfl) ?_
      refine LW.v rfl rfl (Val.move rfl) ?_
      refine LW.v rfl rfl (Val.cmp rfl rfl rfl) ?_
      refine LW.re 40 (.bool false) rfl (by rfl) ?_
      refine LW.v rfl rfl (Val.pick_f rfl rfl) ?_
      refine LW.v rfl rfl (Val.move rfl) ?_
      refine LW.v rfl rfl (Val.move rfl) ?_
      refine LW.v rfl rfl (Val.lenOwn rfl Tryd.underlying28 hyo) ?_
      refine LW.v rfl rfl (Val.move rfl) ?_
      refine LW.v rfl rfl (Val.lenSl rfl Tryd.underlying28) ?_
      refine LW.v rfl rfl (Val.cmp rfl rfl rfl) ?_
      refine LW.re 47 (.bool false) rfl (by simp; omega) ?_
      refine LW.v rfl rfl (Val.pick_f rfl rfl) ?_
      refine LW.nil ?_
      refine PQ.seq ?_
      refine CW.cond_f rfl ?_
      refine CW.skip ?_
      refine PQ.seq ?_
      refine CW.seq ?_
      refine CW.seq ?_
      refine CW.region ?_
      refine LW.v rfl rfl (Val.assign rfl) ?_
      refine LW.nil ?_
      refine PQ.seq ?_
      refine CW.block ?_
      refine CW.loop (γ := Nat) (fun k => [(0, .slice p n cap), (3, str (printF ((l.map fun e => ((e, gr e, kr e) : AEv)).map dLn)).1), (5, ownV L.length o), (8, .int .i64 (k : Nat))]) (fun _ => [ownG 44 (L.flatMap Evq.cells) o, G]) (fun k => k ≤ n) (fun k => n - k) (0) (Nat.zero_le _) (by repeat (first | exact trivial | refine ⟨rfl, ?_⟩)) (by repeat (first | exact .nil | apply Pick.cons | exact .here | apply Ext.there)) ?_
      intro k
      intro hJ
      refine CW.seq ?_
      refine CW.seq ?_
      refine CW.region ?_
      refine LW.v rfl rfl (Val.move rfl) ?_
      refine LW.v rfl rfl (Val.move rfl) ?_
      refine LW.v rfl rfl (Val.lenSl rfl Tryd.underlying28) ?_
      refine LW.v rfl rfl (Val.cmp rfl rfl rfl) ?_
      refine LW.nil ?_
      refine PQ.seq ?_
      refine CW.cond rfl (fun h52 => ?_) (fun h52 => ?_)
      · replace h52 := bT h52
        obtain ⟨b, o', e, rfl, hb, he, hr⟩ := V.slAt_at h hn (k := k) (by omega)
        obtain ⟨⟨g, rest, cap2⟩, rfl⟩ := own_some hyo (by omega)
        obtain ⟨e1, he1⟩ : ∃ x, L[k]? = some x := ⟨L[k]'(by omega), by simp⟩
        obtain ⟨d, hd⟩ : ∃ x, D[k]? = some x := ⟨D[k]'(by omega), by simp⟩
        have hro := ho e (List.mem_of_getElem? he)
        have hSe := hx2 e (List.mem_of_getElem? he)
        obtain ⟨g1, k1, hre⟩ := hsh k d e1 hd he1
        obtain ⟨hkd, hln⟩ := hD3 k (e, gr e, kr e) d (by rw [List.getElem?_map, he]; rfl) hd
        have hln2 : lineF e1 d.2.1 d.2.2 = lineF e (gr e) (kr e) := by rw [hre]; exact hln
        have hl0 : (lineF e (gr e) (kr e)).2 = 0 := (printF_ok hz).1 (dLn (e, gr e, kr e)) (List.mem_map_of_mem (List.mem_map_of_mem (List.mem_of_getElem? he)))
        have hk9 : e1.kind = e.kind := by rw [hre]; exact hkd
        rw [V.ownG_some]
        refine CW.skip ?_
        refine PQ.seq ?_
        refine CW.seq ?_
        refine CW.block ?_
        refine CW.seq ?_
        refine CW.region ?_
        refine LW.v rfl rfl (Val.move rfl) ?_
        refine LW.v rfl rfl (Val.move rfl) ?_
        first | (refine LW.v rfl rfl (Val.indexAddrN rfl rfl Tryd.underlying28 Tryd.sizeOf44 (by omega)) ?_) | (refine LW.v rfl rfl (Val.indexAddr rfl rfl Tryd.underlying28 Tryd.sizeOf44 (by omega) (by omega)) ?_)
        refine LW.v rfl rfl (Val.loadOA rfl Tryd.isAgg44 hb (by simp [ids]) (hr k e he) Tryd.sizeOf44) ?_
        refine LW.e rfl rfl (Eff.callV rfl Tryd.call22 (fun w hw => line_c e (gr e) (kr e) w ((hSe.ok hro).hp hw) (hN.all.mono hw.below) (fun nm l mo hP hf => by have := lineP_len ((hSe.ok hro).hp hw) nm l mo hP hf; omega))) ?_
        intro _ _
        refine LW.v rfl rfl (Val.move rfl) ?_
        refine LW.v rfl rfl (Val.extract rfl rfl) ?_
        refine LW.v rfl rfl (Val.extract rfl rfl) ?_
        refine LW.v rfl rfl (Val.assign rfl) ?_
        refine LW.v rfl rfl (Val.assign rfl) ?_
        refine LW.nil ?_
        refine PQ.seq ?_
        refine CW.seq ?_
        refine CW.region ?_
        refine LW.v rfl rfl (Val.move rfl) ?_
        refine LW.v rfl rfl (Val.move rfl) ?_
        first | (refine LW.v rfl rfl (Val.indexAddrN rfl rfl Tryd.underlying28 Tryd.sizeOf44 (by omega)) ?_) | (refine LW.v rfl rfl (Val.indexAddr rfl rfl Tryd.underlying28 Tryd.sizeOf44 (by omega) (by omega)) ?_)
        refine LW.v rfl rfl (Val.loadFl (enc := Evq.cells) rfl Tryd.isAgg44 (by repeat (first | exact .here | refine .there ?_)) ev_len he1 Tryd.sizeOf44) ?_
        refine LW.e rfl rfl (Eff.callV rfl Tryd.call22 (fun w hw => by
          have hok1 : EvOk w e1 d.2.1 d.2.2 := psL_ok ((hps w (hw.sat.pick (ss := [G]) (by repeat (first | exact .nil | apply Pick.cons | exact .here | apply Ext.there)))).2 k d e1 hd he1) (hA d (List.mem_of_getElem? hd)) (hcnt d (List.mem_of_getElem? hd))
          exact line_c e1 d.2.1 d.2.2 w hok1 (hN.all.mono hw.below) (fun nm l mo hP hf => by have := lineP_len hok1 nm l mo hP hf; omega))) ?_
        intro _ _
        refine LW.v rfl rfl (Val.move rfl) ?_
        refine LW.v rfl rfl (Val.extract rfl rfl) ?_
        refine LW.v rfl rfl (Val.extract rfl rfl) ?_
        refine LW.v rfl rfl (Val.assign rfl) ?_
        refine LW.v rfl rfl (Val.assign rfl) ?_
        refine LW.nil ?_
        refine PQ.seq ?_
        refine CW.seq ?_
        refine CW.quiet mixed (by kernel_rfl) ?_
        refine QW.v rfl rfl (Val.move rfl) ?_
        refine QW.v rfl rfl (Val.move rfl) ?_
        refine QW.v rfl rfl (Val.neStr rfl rfl) ?_
        refine QW.re 73 (.bool false) rfl (by rw [hln2]; simp) ?_
        refine QW.v rfl rfl (Val.move rfl) ?_
        refine QW.v rfl rfl (Val.move rfl) ?_
        refine QW.v rfl rfl (Val.cmp rfl rfl rfl) ?_
        refine QW.re 76 (.bool false) rfl (by rw [hl0]; rfl) ?_
        refine QW.v rfl rfl (Val.pick_f rfl rfl) ?_
        refine QW.v rfl rfl (Val.move rfl) ?_
        refine QW.v rfl rfl (Val.move rfl) ?_
        refine QW.v rfl rfl (Val.cmp rfl rfl rfl) ?_
        refine QW.re 80 (.bool false) rfl (by rw [hln2, hl0]; rfl) ?_
        refine QW.v rfl rfl (Val.pick_f rfl rfl) ?_
        refine QW.v rfl rfl (Val.move rfl) ?_
        refine QW.v rfl rfl (Val.move rfl) ?_
        refine QW.v rfl rfl (Val.move rfl) ?_
        first | (refine QW.v rfl rfl (Val.indexAddrN rfl rfl Tryd.underlying28 Tryd.sizeOf44 (by omega)) ?_) | (refine QW.v rfl rfl (Val.indexAddr rfl rfl Tryd.underlying28 Tryd.sizeOf44 (by omega) (by omega)) ?_)
        refine QW.v rfl rfl (Val.fieldAddr 0 rfl Tryd.underlying44 rfl rfl Tryd.sizeOf3) ?_
        refine QW.v rfl rfl (Val.load (T := 44) (v := .int .i64 e1.kind) rfl Tryd.isAgg3 (by repeat (first | exact .here | refine .there ?_)) (cell_flat (j := 0) ev_len rest he1 rfl)) ?_
        refine QW.v rfl rfl (Val.move rfl) ?_
        refine QW.v rfl rfl (Val.move rfl) ?_
        first | (refine QW.v rfl rfl (Val.indexAddrN rfl rfl Tryd.underlying28 Tryd.sizeOf44 (by omega)) ?_) | (refine QW.v rfl rfl (Val.indexAddr rfl rfl Tryd.underlying28 Tryd.sizeOf44 (by omega) (by omega)) ?_)
        refine QW.v rfl rfl (Val.fieldAddr 0 rfl Tryd.underlying44 rfl rfl Tryd.sizeOf3) ?_
        refine QW.v rfl rfl (Val.loadO rfl Tryd.isAgg3 hb (by simp [ids]) (hr k e he 0 _ rfl)) ?_
        refine QW.v rfl rfl (Val.cmp rfl rfl rfl) ?_
        refine QW.re 93 (.bool false) rfl (by rw [hk9]; simp) ?_
        refine QW.v rfl rfl (Val.pick_f rfl rfl) ?_
        refine QW.nil ?_
        refine PQ.seq ?_
        refine CW.cond_f rfl ?_
        refine CW.skip ?_
        refine PQ.in_normal ?_
        refine PQ.seq ?_
        refine CW.region ?_
        refine LW.v rfl rfl (Val.move rfl) ?_
        refine LW.v rfl rfl (Val.ar rfl rfl rfl (IntWalk.i64_in _ (by omega))) ?_
        refine LW.v rfl rfl (Val.assign rfl) ?_
        refine LW.nil ?_
        refine PQ.round (k + 1) (by omega) (by omega) (by repeat (first | exact trivial | refine ⟨rfl, ?_⟩)) (by repeat (first | exact .nil | apply Pick.cons | exact .here | apply Ext.there))
      · replace h52 := bF h52
        refine CW.exit ?_
        refine PQ.then_exit ?_
        refine PQ.then_exit ?_
        refine PQ.in_here ?_
        refine PQ.seq ?_
        refine CW.seq ?_
        refine CW.region ?_
        refine LW.v rfl rfl (Val.move rfl) ?_
        refine LW.re 96 (.slice (ownSl L.length o).a L.length (ownSl L.length o).c) rfl (ownSl_v2 hyo) ?_
        refine LW.e rfl rfl (Eff.callV rfl Tryd.call18 (fun w hw => print_c (D.map dLn) (ownSl L.length o).a L.length (ownSl L.length o).c L w rfl (ownSl_at ev_len hyo (hw.sat.pick (ss := [ownG 44 (L.flatMap Evq.cells) o]) (by repeat (first | exact .nil | apply Pick.cons | exact .here | apply Ext.there)))) (by omega) (psL_lns (hps w (hw.sat.pick (ss := [G]) (by repeat (first | exact .nil | apply Pick.cons | exact .here | apply Ext.there)))) hA hcnt) (hN.all.mono hw.below))) ?_
        intro _ _
        refine LW.re 97 (.tuple [str (printF ((l.map fun e => ((e, gr e, kr e) : AEv)).map dLn)).1, .int .i64 (printF ((l.map fun e => ((e, gr e, kr e) : AEv)).map dLn)).2].toArray) rfl (by rw [hDe]) ?_
        refine LW.v rfl rfl (Val.move rfl) ?_
        refine LW.v rfl rfl (Val.extract rfl rfl) ?_
        refine LW.v rfl rfl (Val.extract rfl rfl) ?_
        refine LW.v rfl rfl (Val.assign rfl) ?_
        refine LW.v rfl rfl (Val.assign rfl) ?_
        refine LW.nil ?_
        refine PQ.seq ?_
        refine CW.seq ?_
        refine CW.region ?_
        refine LW.v rfl rfl (Val.move rfl) ?_
        refine LW.v rfl rfl (Val.move rfl) ?_
        refine LW.v rfl rfl (Val.eqStr rfl rfl) ?_
        refine LW.re 102 (.bool true) rfl (by simp) ?_
        refine LW.v rfl rfl (Val.move rfl) ?_
        refine LW.v rfl rfl (Val.move rfl) ?_
        refine LW.v rfl rfl (Val.cmp rfl rfl rfl) ?_
        refine LW.re 105 (.bool true) rfl (by rw [hz]; rfl) ?_
        refine LW.v rfl rfl (Val.pick_t rfl rfl) ?_
        refine LW.v rfl rfl (Val.move rfl) ?_
        refine LW.e rfl rfl (Eff.callV rfl Tryd.call11 (fun w hw => awake28_c w)) ?_
        intro _ _
        refine LW.v rfl rfl (Val.pick_t rfl rfl) ?_
        refine LW.v rfl rfl (Val.assign rfl) ?_
        refine LW.nil ?_
        refine PQ.seq ?_
        refine CW.ret ?_
        refine PQ.ret1 rfl rfl ?_
        intro w' hw; exact ⟨rfl, hw.below⟩
theorem printF_lines {ls : List (List UInt8)} (h : (ls.flatMap fun l => l ++ [10]).length ≤ 65536) : printF (ls.map fun l => (l, (0 : Int))) = (ls.flatMap fun l => l ++ [10], 0) := by
  have h1 : pErr (ls.map fun l => (l, (0 : Int))) = 0 := pErr_none fun x hx => by
    obtain ⟨l, _, rfl⟩ := List.mem_map.1 hx; rfl
  have h2 : pTxt (ls.map fun l => (l, (0 : Int))) = ls.flatMap fun l => l ++ [10] := by rw [pTxt_map, List.map_map]; simp [Function.comp_def]
  unfold printF
  rw [if_pos h1, h2, if_pos h]
theorem scriptStrict_c {W0 : World} (hN : NumLib W0) (s : List UInt8) : Calls Tryd.prog 9 [str s].toArray W0
    fun e w' => e = .returned (.bool true) ∧ Below W0.heap.size W0 w' := by
  refine V.calls [] Tryd.func9 rfl Tryd.ntmps9 (Nat.le_of_ble_eq_true rfl) (V.sat_nil _) ?_
  refine CW.seq ?_
  refine CW.region ?_
  refine LW.v rfl rfl (Val.assign rfl) ?_
  refine LW.nil ?_
  refine PQ.seq ?_
  refine CW.seq ?_
  refine CW.seq ?_
  refine CW.region ?_
  refine LW.v rfl rfl (Val.move rfl) ?_
  refine LW.v rfl rfl (Val.lenStr rfl Tryd.underlying9) ?_
  refine LW.v rfl rfl (Val.cmp rfl rfl rfl) ?_
  refine LW.nil ?_
  refine PQ.seq ?_
  refine CW.cond rfl (fun h10 => ?_) (fun h10 => ?_)
  · replace h10 := bT h10
    refine CW.seq ?_
    refine CW.region ?_
    refine LW.e rfl rfl (Eff.callV rfl Tryd.call11 (fun w hw => awake28_c w)) ?_
    intro _ _
    refine LW.v rfl rfl (Val.assign rfl) ?_
    refine LW.nil ?_
    refine PQ.seq ?_
    refine CW.ret ?_
    refine PQ.then_ret ?_
    refine PQ.ret1 rfl rfl ?_
    intro w' hw; exact ⟨rfl, hw.below⟩
  · replace h10 := bF h10
    refine CW.skip ?_
    refine PQ.seq ?_
    refine CW.seq ?_
    refine CW.region ?_
    refine LW.v rfl rfl (Val.move rfl) ?_
    refine LW.e rfl rfl (Eff.callM ([]) .nil rfl Tryd.call24 (fun w hw hs => parse_c hN s (by omega) w (Ov.of hw))) ?_
    rintro ⟨o, L, G⟩ ⟨hyo, hps, hLl, hL6, hA⟩
    simp only at hyo hps hLl hL6 hA
    rcases parse_cases (s := s) (by omega) with ⟨D, hD5, hpf⟩ | ⟨m, hm1, hD5, hpf⟩
    · rw [hpf] at hps hLl hL6 hA
      rw [hpf]
      simp only at hps hLl hL6 hA ⊢
      have hcnt := parse_count (s := s) (by omega) hD5
      have hst := pAll_strict hD5
      refine LW.v rfl rfl (Val.move rfl) ?_
      refine LW.v rfl rfl (Val.extract rfl rfl) ?_
      refine LW.v rfl rfl (Val.extract rfl rfl) ?_
      refine LW.v rfl rfl (Val.extract rfl rfl) ?_
      refine LW.v rfl rfl (Val.assign rfl) ?_
      refine LW.v rfl rfl (Val.assign rfl) ?_
      refine LW.v rfl rfl (Val.assign rfl) ?_
      refine LW.nil ?_
      refine PQ.seq ?_
      refine CW.seq ?_
      refine CW.seq ?_
      refine CW.region ?_
      refine LW.v rfl rfl (Val.move rfl) ?_
      refine LW.v rfl rfl (Val.cmp rfl rfl rfl) ?_
      refine LW.re 19 (.bool false) rfl (by rfl) ?_
      refine LW.nil ?_
      refine PQ.seq ?_
      refine CW.cond_f rfl ?_
      refine CW.skip ?_
      refine PQ.seq ?_
      refine CW.seq ?_
      refine CW.region ?_
      refine LW.v rfl rfl (Val.move rfl) ?_
      refine LW.re 35 (.slice (ownSl L.length o).a L.length (ownSl L.length o).c) rfl (ownSl_v2 hyo) ?_
      refine LW.e rfl rfl (Eff.callV rfl Tryd.call18 (fun w hw => print_c (D.map dLn) (ownSl L.length o).a L.length (ownSl L.length o).c L w rfl (ownSl_at ev_len hyo (hw.sat.pick (ss := [ownG 44 (L.flatMap Evq.cells) o]) (by repeat (first | exact .nil | apply Pick.cons | exact .here | apply Ext.there)))) (by omega) (psL_lns (hps w (hw.sat.pick (ss := [G]) (by repeat (first | exact .nil | apply Pick.cons | exact .here | apply Ext.there)))) hA hcnt) (hN.all.mono hw.below))) ?_
      intro _ _
      have htx : (D.map dLn) = (lns s).map fun l => (l, (0 : Int)) := hst
      rcases lns_txt s.length s (Nat.le_refl _) with ht | ht
      · have hpr : printF (D.map dLn) = (s, 0) := by rw [htx, printF_lines (by rw [ht]; omega), ht]
        rw [hpr]
        refine LW.v rfl rfl (Val.move rfl) ?_
        refine LW.v rfl rfl (Val.extract rfl rfl) ?_
        refine LW.v rfl rfl (Val.extract rfl rfl) ?_
        refine LW.v rfl rfl (Val.assign rfl) ?_
        refine LW.v rfl rfl (Val.assign rfl) ?_
        refine LW.nil ?_
        refine PQ.seq ?_
        refine CW.seq ?_
        refine CW.region ?_
        refine LW.v rfl rfl (Val.move rfl) ?_
        refine LW.v rfl rfl (Val.cmp rfl rfl rfl) ?_
        refine LW.re 40 (.bool true) rfl (by rfl) ?_
        refine LW.v rfl rfl (Val.move rfl) ?_
        refine LW.v rfl rfl (Val.move rfl) ?_
        refine LW.v rfl rfl (Val.cmp rfl rfl rfl) ?_
        refine LW.re 43 (.bool true) rfl (by rfl) ?_
        refine LW.v rfl rfl (Val.pick_t rfl rfl) ?_
        refine LW.v rfl rfl (Val.move rfl) ?_
        refine LW.v rfl rfl (Val.move rfl) ?_
        refine LW.v rfl rfl (Val.move rfl) ?_
        refine LW.v rfl rfl (Val.eqStr rfl rfl) ?_
        refine LW.re 48 (.bool true) rfl (by simp) ?_
        refine LW.v rfl rfl (Val.move rfl) ?_
        refine LW.p rfl rfl ?_
        refine LW.p rfl rfl ?_
        refine LW.p rfl rfl ?_
        refine LW.p rfl rfl ?_
        refine LW.v rfl rfl (Val.pick_t rfl rfl) ?_
        refine LW.v rfl rfl (Val.pick_t rfl rfl) ?_
        refine LW.v rfl rfl (Val.move rfl) ?_
        refine LW.e rfl rfl (Eff.callV rfl Tryd.call11 (fun w hw => awake28_c w)) ?_
        intro _ _
        refine LW.v rfl rfl (Val.pick_t rfl rfl) ?_
        refine LW.v rfl rfl (Val.assign rfl) ?_
        refine LW.nil ?_
        refine PQ.seq ?_
        refine CW.ret ?_
        refine PQ.ret1 rfl rfl ?_
        intro w' hw; exact ⟨rfl, hw.below⟩
      · have hpr : printF (D.map dLn) = (s ++ [10], 0) := by rw [htx, printF_lines (by rw [ht]; simp; omega), ht]
        rw [hpr]
        refine LW.v rfl rfl (Val.move rfl) ?_
        refine LW.v rfl rfl (Val.extract rfl rfl) ?_
        refine LW.v rfl rfl (Val.extract rfl rfl) ?_
        refine LW.v rfl rfl (Val.assign rfl) ?_
        refine LW.v rfl rfl (Val.assign rfl) ?_
        refine LW.nil ?_
        refine PQ.seq ?_
        refine CW.seq ?_
        refine CW.region ?_
        refine LW.v rfl rfl (Val.move rfl) ?_
        refine LW.v rfl rfl (Val.cmp rfl rfl rfl) ?_
        refine LW.re 40 (.bool true) rfl (by rfl) ?_
        refine LW.v rfl rfl (Val.move rfl) ?_
        refine LW.v rfl rfl (Val.move rfl) ?_
        refine LW.v rfl rfl (Val.cmp rfl rfl rfl) ?_
        refine LW.re 43 (.bool true) rfl (by rfl) ?_
        refine LW.v rfl rfl (Val.pick_t rfl rfl) ?_
        refine LW.v rfl rfl (Val.move rfl) ?_
        refine LW.v rfl rfl (Val.move rfl) ?_
        refine LW.v rfl rfl (Val.move rfl) ?_
        refine LW.v rfl rfl (Val.eqStr rfl rfl) ?_
        refine LW.re 48 (.bool false) rfl (by simp) ?_
        refine LW.v rfl rfl (Val.move rfl) ?_
        refine LW.v rfl rfl (Val.move rfl) ?_
        refine LW.v rfl rfl (Val.move rfl) ?_
        refine LW.v rfl rfl (Val.catStr rfl rfl (by first | omega | (simp only [List.length_append, List.length_cons, List.length_nil]; omega))) ?_
        refine LW.v rfl rfl (Val.eqStr rfl rfl) ?_
        refine LW.re 53 (.bool true) rfl (by simp) ?_
        refine LW.v rfl rfl (Val.pick_f rfl rfl) ?_
        refine LW.v rfl rfl (Val.pick_t rfl rfl) ?_
        refine LW.v rfl rfl (Val.move rfl) ?_
        refine LW.e rfl rfl (Eff.callV rfl Tryd.call11 (fun w hw => awake28_c w)) ?_
        intro _ _
        refine LW.v rfl rfl (Val.pick_t rfl rfl) ?_
        refine LW.v rfl rfl (Val.assign rfl) ?_
        refine LW.nil ?_
        refine PQ.seq ?_
        refine CW.ret ?_
        refine PQ.ret1 rfl rfl ?_
        intro w' hw; exact ⟨rfl, hw.below⟩
    · rw [hpf] at hps hLl hL6 hA
      rw [hpf]
      simp only at hps hLl hL6 hA ⊢
      have hL0 : L.length = 0 := by simpa using hLl
      refine LW.v rfl rfl (Val.move rfl) ?_
      refine LW.v rfl rfl (Val.extract rfl rfl) ?_
      refine LW.v rfl rfl (Val.extract rfl rfl) ?_
      refine LW.v rfl rfl (Val.extract rfl rfl) ?_
      refine LW.v rfl rfl (Val.assign rfl) ?_
      refine LW.v rfl rfl (Val.assign rfl) ?_
      refine LW.v rfl rfl (Val.assign rfl) ?_
      refine LW.nil ?_
      refine PQ.seq ?_
      refine CW.seq ?_
      refine CW.seq ?_
      refine CW.region ?_
      refine LW.v rfl rfl (Val.move rfl) ?_
      refine LW.v rfl rfl (Val.cmp rfl rfl rfl) ?_
      refine LW.re 19 (.bool true) rfl (by rfl) ?_
      refine LW.nil ?_
      refine PQ.seq ?_
      refine CW.cond_t rfl ?_
      refine CW.seq ?_
      refine CW.region ?_
      refine LW.v rfl rfl (Val.move rfl) ?_
      refine LW.v rfl rfl (Val.lenOwn rfl Tryd.underlying28 hyo) ?_
      refine LW.v rfl rfl (Val.cmp rfl rfl rfl) ?_
      refine LW.re 22 (.bool true) rfl (by rw [hL0]; rfl) ?_
      refine LW.v rfl rfl (Val.move rfl) ?_
      refine LW.v rfl rfl (Val.move rfl) ?_
      refine LW.v rfl rfl (Val.cmp rfl rfl rfl) ?_
      refine LW.re 25 (.bool true) rfl (by simp; omega) ?_
      refine LW.v rfl rfl (Val.pick_t rfl rfl) ?_
      refine LW.v rfl rfl (Val.move rfl) ?_
      refine LW.v rfl rfl (Val.move rfl) ?_
      refine LW.v rfl rfl (Val.cmp rfl rfl rfl) ?_
      refine LW.re 29 (.bool true) rfl (by rfl) ?_
      refine LW.v rfl rfl (Val.pick_t rfl rfl) ?_
      refine LW.v rfl rfl (Val.move rfl) ?_
      refine LW.e rfl rfl (Eff.callV rfl Tryd.call11 (fun w hw => awake28_c w)) ?_
      intro _ _
      refine LW.v rfl rfl (Val.pick_t rfl rfl) ?_
      refine LW.v rfl rfl (Val.assign rfl) ?_
      refine LW.nil ?_
      refine PQ.seq ?_
      refine CW.ret ?_
      refine PQ.then_ret ?_
      refine PQ.ret1 rfl rfl ?_
      intro w' hw; exact ⟨rfl, hw.below⟩
end Go.Proofs.YtagliemeolngiaaDoor
