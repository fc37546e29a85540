/- The walk of ScriptParts. -/
import Derived.Test.YtagliemeolngiaaDoorScW
import Derived.Lib.Hide
namespace Go.Proofs.YtagliemeolngiaaDoor
open Go Go.RowKit V
set_option linter.unusedVariables false
set_option maxRecDepth 100000
open V (str byC ownV ownG ownS ownOk)
theorem pThen_inl {A : List AEv} {x : List AEv ⊕ Nat} {D : List AEv} (h : x = .inl D) : pThen A x = .inl (A ++ D) := by rw [h]; rfl
theorem pThen_inr {A : List AEv} {x : List AEv ⊕ Nat} {n : Nat} (h : x = .inr n) : pThen A x = .inr n := by rw [h]; rfl
theorem pAll_le : ∀ (b : List (List UInt8)) (n k : Nat), pAll b n = .inr k → k < n + b.length
  | [], n, k, h => by cases h
  | l :: r, n, k, h => by
    simp only [pAll] at h
    rw [List.length_cons]
    cases hp : pLine l with
    | none => rw [hp] at h; cases h; omega
    | some v =>
      rw [hp] at h
      simp only at h
      cases hr : pAll r (n + 1) with
      | inl d => rw [hr] at h; cases h
      | inr j => rw [hr] at h; cases h; have := pAll_le r (n + 1) k hr; omega
theorem lns_len : ∀ (n : Nat) (s : List UInt8), s.length ≤ n → (lns s).length ≤ s.length
  | 0, s, h => by
    obtain rfl : s = [] := List.length_eq_zero_iff.1 (by omega)
    simp [lns_nil]
  | n + 1, s, h => by
    by_cases hs : s = []
    · subst hs; simp [lns_nil]
    · have h1 := cutF_lt 10 s hs
      have h2 := lns_len n (cutF 10 s).2.1 (by omega)
      rw [lns_cons hs, List.length_cons]; omega
theorem parse_le {s : List UInt8} {n : Nat} (hs : s.length ≤ 65536) (h : parseF s = ([], (n : Int), 3)) : n ≤ s.length := by
  rcases parse_cases hs with ⟨D, _, h2⟩ | ⟨m, _, h1, h2⟩
  · rw [h2] at h
    have := congrArg (fun x => x.2.2) h
    simp at this
  · rw [h2] at h
    have e := congrArg (fun x => x.2.1) h
    simp only at e
    have := pAll_le _ _ _ h1
    have := lns_len _ s (Nat.le_refl _)
    omega
/-- What was printed, and whole lines behind it. -/
theorem parts_of {es : List AEv} (h : (printF (es.map dLn)).2 = 0) (s : List UInt8) (hs : (printF (es.map dLn)).1.length + s.length ≤ 65536) : ∃ D, D.length = es.length ∧
    ((∃ Da, parseF s = (Da, 0, 0) ∧ parseF ((printF (es.map dLn)).1 ++ s) = (D ++ Da, 0, 0)) ∨ (∃ n : Nat, 1 ≤ n ∧ parseF s = ([], (n : Int), 3) ∧ parseF ((printF (es.map dLn)).1 ++ s) = ([], ((n + es.length : Nat) : Int), 3))) := by
  obtain ⟨D, h1, h2, _, h4⟩ := print_parse h s
  have hlen : ((es.map dLn).map Prod.fst).length = es.length := by simp
  have happ := pAll_app ((es.map dLn).map Prod.fst) (lns s) 1 D h1
  rw [hlen, pAll_shift (lns s) 1 es.length] at happ
  refine ⟨D, h2, ?_⟩
  rcases parse_cases (s := s) (by omega) with ⟨Da, h5, h6⟩ | ⟨n, h7, h5, h6⟩
  · left
    refine ⟨Da, h6, ?_⟩
    rw [h5] at happ
    unfold parseF
    rw [if_neg (by rw [List.length_append]; omega), h4, happ]; rfl
  · right
    refine ⟨n, h7, h6, ?_⟩
    rw [h5] at happ
    unfold parseF
    rw [if_neg (by rw [List.length_append]; omega), h4, happ]; rfl
theorem slAt_drop {α : Type} {w : World} {b o sz : Nat} {enc : α → List Value} {l : List α} (h : V.slAt w (some ⟨b, o, none⟩) sz enc l) (n : Nat) : V.slAt w (some ⟨b, o + n * sz, none⟩) sz enc (l.drop n) := by
  rcases h with h | ⟨b2, o2, hp, hb, hr⟩
  · left; rw [h]; simp
  · simp only [Option.some.injEq, Addr.mk.injEq] at hp
    obtain ⟨rfl, rfl, _⟩ := hp
    refine .inr ⟨b, o + n * sz, rfl, hb, fun i x hx => ?_⟩
    rw [List.getElem?_drop] at hx
    have := hr (n + i) x hx
    rw [show o + n * sz + i * sz = o + (n + i) * sz by rw [Nat.add_mul]; omega]
    exact this
theorem parse_count2 {s : List UInt8} {D : List AEv} (hs : s.length ≤ 65536) (h : parseF s = (D, 0, 0)) : ∀ d ∈ D, d.2.1.length ≤ 70001 := by
  rcases parse_cases hs with ⟨D2, h1, h2⟩ | ⟨n, _, h1, h2⟩
  · rw [h2] at h; cases h; exact parse_count hs h1
  · rw [h2] at h; cases h
theorem scriptParts_c {W0 : World} (hN : NumLib W0) (gr : Evq → List Cq) (kr : Evq → List Int) (p : Option Addr) (n cap : Nat) (l : List Evq) (s : List UInt8) (hn : l.length = n) (h : V.slAt W0 p 9 Evq.cells l) (ho : ∀ e ∈ l, EvR W0 e (gr e) (kr e)) : Calls Tryd.prog 10 [.slice p n cap, str s].toArray W0
    fun e w' => e = .returned (.bool true) ∧ Below W0.heap.size W0 w' := by
  refine V.calls [] Tryd.func10 rfl Tryd.ntmps10 (Nat.le_of_ble_eq_true rfl) (V.sat_nil _) ?_
  refine CW.seq ?_
  refine CW.region ?_
  refine LW.v rfl rfl (Val.assign rfl) ?_
  refine LW.nil ?_
  refine PQ.seq ?_
  refine CW.seq ?_
  refine CW.seq ?_
  refine CW.region ?_
  refine LW.v rfl rfl (Val.move rfl) ?_
  refine LW.e rfl rfl (Eff.callR rfl Tryd.call16 (fun w hw => heavy_c gr kr p n cap l w hn (hw.slAt h (by simp [ids])) (fun e he => (ho e he).hp hw))) ?_
  intro x hx
  refine LW.v rfl rfl (Val.move rfl) ?_
  refine LW.split (d := 15) rfl (fun h15 => ?_) (fun h15 => ?_)
  · replace h15 := bT h15
    refine LW.p rfl rfl ?_
    refine LW.p rfl rfl ?_
    refine LW.p rfl rfl ?_
    refine LW.v rfl rfl (Val.pick_t rfl rfl) ?_
    refine LW.nil ?_
    refine PQ.seq ?_
    refine CW.cond_t rfl ?_
    refine CW.seq ?_
    refine CW.region ?_
    refine LW.e rfl rfl (Eff.callV rfl Tryd.call11 (fun w hw => awake28_c w)) ?_
    intro _ _
    refine LW.v rfl rfl (Val.assign rfl) ?_
    refine LW.nil ?_
    refine PQ.seq ?_
    refine CW.ret ?_
    refine PQ.then_ret ?_
    refine PQ.ret1 rfl rfl ?_
    intro w' hw; exact ⟨rfl, hw.below⟩
  · replace h15 := bF h15
    obtain ⟨hx1, hx2⟩ := hx h15
    have hlns := lns_of hx2 ho
    refine LW.v rfl rfl (Val.move rfl) ?_
    refine LW.v rfl rfl (Val.lenStr rfl Tryd.underlying9) ?_
    refine LW.v rfl rfl (Val.cmp rfl rfl rfl) ?_
    refine LW.v rfl rfl (Val.pick_f rfl rfl) ?_
    refine LW.nil ?_
    refine PQ.seq ?_
    refine CW.cond rfl (fun h19 => ?_) (fun h19 => ?_)
    · replace h19 := bT h19
      skip
      refine CW.seq ?_
      refine CW.region ?_
      refine LW.e rfl rfl (Eff.callV rfl Tryd.call11 (fun w hw => awake28_c w)) ?_
      intro _ _
      refine LW.v rfl rfl (Val.assign rfl) ?_
      refine LW.nil ?_
      refine PQ.seq ?_
      refine CW.ret ?_
      refine PQ.then_ret ?_
      refine PQ.ret1 rfl rfl ?_
      intro w' hw; exact ⟨rfl, hw.below⟩
    · replace h19 := bF h19
      skip
      refine CW.skip ?_
      refine PQ.seq ?_
      refine CW.seq ?_
      refine CW.region ?_
      refine LW.v rfl rfl (Val.move rfl) ?_
      refine LW.e rfl rfl (Eff.callV rfl Tryd.call18 (fun w hw => print_c ((l.map fun e => ((e, gr e, kr e) : AEv)).map dLn) p n cap l w hn (hw.slAt h (by simp [ids])) (by omega) (hlns.hp hw) (hN.all.mono hw.below))) ?_
      intro _ _
      refine LW.v rfl rfl (Val.move rfl) ?_
      refine LW.v rfl rfl (Val.extract rfl rfl) ?_
      refine LW.v rfl rfl (Val.extract rfl rfl) ?_
      refine LW.v rfl rfl (Val.assign rfl) ?_
      refine LW.v rfl rfl (Val.assign rfl) ?_
      refine LW.nil ?_
      refine PQ.seq ?_
      refine CW.seq ?_
      refine CW.seq ?_
      refine CW.region ?_
      refine LW.v rfl rfl (Val.move rfl) ?_
      refine LW.v rfl rfl (Val.cmp rfl rfl rfl) ?_
      refine LW.v rfl rfl (Val.move rfl) ?_
      refine LW.split (d := 28) rfl (fun h28 => ?_) (fun h28 => ?_)
      · replace h28 := bT h28
        refine LW.p rfl rfl ?_
        refine LW.p rfl rfl ?_
        refine LW.p rfl rfl ?_
        refine LW.v rfl rfl (Val.pick_t rfl rfl) ?_
        refine LW.nil ?_
        refine PQ.seq ?_
        refine CW.cond_t rfl ?_
        refine CW.seq ?_
        refine CW.region ?_
        refine LW.e rfl rfl (Eff.callV rfl Tryd.call11 (fun w hw => awake28_c w)) ?_
        intro _ _
        refine LW.v rfl rfl (Val.assign rfl) ?_
        refine LW.nil ?_
        refine PQ.seq ?_
        refine CW.ret ?_
        refine PQ.then_ret ?_
        refine PQ.ret1 rfl rfl ?_
        intro w' hw; exact ⟨rfl, hw.below⟩
      · replace h28 := bF h28
        have hz : (printF ((l.map fun e => ((e, gr e, kr e) : AEv)).map dLn)).2 = 0 := by simpa using h28
        refine LW.v rfl rfl (Val.move rfl) ?_
        refine LW.v rfl rfl (Val.lenStr rfl Tryd.underlying9) ?_
        refine LW.v rfl rfl (Val.cmp rfl rfl rfl) ?_
        refine LW.v rfl rfl (Val.pick_f rfl rfl) ?_
        refine LW.nil ?_
        refine PQ.seq ?_
        refine CW.cond rfl (fun h32 => ?_) (fun h32 => ?_)
        · replace h32 := bT h32
          refine CW.seq ?_
          refine CW.region ?_
          refine LW.e rfl rfl (Eff.callV rfl Tryd.call11 (fun w hw => awake28_c w)) ?_
          intro _ _
          refine LW.v rfl rfl (Val.assign rfl) ?_
          refine LW.nil ?_
          refine PQ.seq ?_
          refine CW.ret ?_
          refine PQ.then_ret ?_
          refine PQ.ret1 rfl rfl ?_
          intro w' hw; exact ⟨rfl, hw.below⟩
        · replace h32 := bF h32
          have hpl := printF_len ((l.map fun e => ((e, gr e, kr e) : AEv)).map dLn)
          refine CW.skip ?_
          refine PQ.seq ?_
          refine CW.seq ?_
          refine CW.region ?_
          refine LW.v rfl rfl (Val.move rfl) ?_
          refine LW.e rfl rfl (Eff.callM ([]) .nil rfl Tryd.call24 (fun w hw hs => parse_c hN s (by omega) w (Ov.of hw))) ?_
          rintro ⟨oa, La, Ga⟩ ⟨hya, hpsa, hLla, hL6a, hAa⟩
          simp only at hya hpsa hLla hL6a hAa
          refine LW.v rfl rfl (Val.move rfl) ?_
          refine LW.v rfl rfl (Val.extract rfl rfl) ?_
          refine LW.v rfl rfl (Val.extract rfl rfl) ?_
          refine LW.v rfl rfl (Val.extract rfl rfl) ?_
          refine LW.v rfl rfl (Val.assign rfl) ?_
          refine LW.v rfl rfl (Val.assign rfl) ?_
          refine LW.v rfl rfl (Val.assign rfl) ?_
          refine LW.nil ?_
          refine PQ.seq ?_
          refine CW.seq ?_
          refine CW.region ?_
          refine LW.v rfl rfl (Val.move rfl) ?_
          refine LW.v rfl rfl (Val.move rfl) ?_
          refine LW.v rfl rfl (Val.catStr rfl rfl (by first | omega | (simp only [List.length_append, List.length_cons, List.length_nil]; omega))) ?_
          refine LW.e rfl rfl (Eff.callM ([]) .nil rfl Tryd.call24 (fun w hw hs => parse_c hN ((printF ((l.map fun e => ((e, gr e, kr e) : AEv)).map dLn)).1 ++ s) (by rw [List.length_append]; omega) w (Ov.of hw))) ?_
          rintro ⟨o, L, G⟩ ⟨hyo, hps, hLl, hL6, hA⟩
          simp only at hyo hps hLl hL6 hA
          obtain ⟨D, hDl, hD⟩ := parts_of hz s (by omega)
          rw [List.length_map] at hDl
          rcases hD with ⟨Da, hpf, hpg⟩ | ⟨m, hm1, hpf, hpg⟩
          rcases o with _ | ⟨g, rest, cap⟩
          · rw [hpf] at hpsa hLla hL6a hAa
            rw [hpg] at hps hLl hL6 hA
            rw [hpf, hpg]
            simp only at hpsa hLla hL6a hAa hps hLl hL6 hA ⊢
            rw [List.length_append] at hLl
            have hcnta := parse_count2 (s := s) (by omega) hpf
            have hL0 : L.length = 0 := hyo.2
            have hn0 : n = 0 := by omega
            obtain ⟨P1, hP1⟩ : ∃ P1 : Option Addr, P1 = none := ⟨_, rfl⟩
            obtain ⟨C1, hC1⟩ : ∃ C1 : Nat, C1 = 0 := ⟨_, rfl⟩
            have hdr : ∀ w, Sat [ownG 44 (L.flatMap Evq.cells) none] w → V.slAt w P1 9 Evq.cells (L.drop n) := fun w _ => .inl (List.drop_eq_nil_iff.2 (by omega))
            refine LW.v rfl rfl (Val.move rfl) ?_
            refine LW.v rfl rfl (Val.extract rfl rfl) ?_
            refine LW.v rfl rfl (Val.extract rfl rfl) ?_
            refine LW.v rfl rfl (Val.extract rfl rfl) ?_
            refine LW.v rfl rfl (Val.assign rfl) ?_
            refine LW.v rfl rfl (Val.assign rfl) ?_
            refine LW.v rfl rfl (Val.assign rfl) ?_
            refine LW.nil ?_
            refine PQ.seq ?_
            refine CW.seq ?_
            refine CW.seq ?_
            refine CW.region ?_
            refine LW.v rfl rfl (Val.move rfl) ?_
            refine LW.v rfl rfl (Val.move rfl) ?_
            refine LW.v rfl rfl (Val.cmp rfl rfl rfl) ?_
            refine LW.re 50 (.bool false) rfl (by rfl) ?_
            refine LW.nil ?_
            refine PQ.seq ?_
            refine CW.cond_f rfl ?_
            refine CW.skip ?_
            refine PQ.seq ?_
            refine CW.seq ?_
            refine CW.seq ?_
            refine CW.region ?_
            refine LW.v rfl rfl (Val.move rfl) ?_
            refine LW.v rfl rfl (Val.cmp rfl rfl rfl) ?_
            refine LW.re 52 (.bool false) rfl (by rfl) ?_
            refine LW.nil ?_
            refine PQ.seq ?_
            refine CW.cond_f rfl ?_
            refine CW.skip ?_
            refine PQ.seq ?_
            refine CW.seq ?_
            refine CW.region ?_
            refine LW.v rfl rfl (Val.move rfl) ?_
            refine LW.v rfl rfl (Val.lenOwn rfl Tryd.underlying28 hyo) ?_
            refine LW.v rfl rfl (Val.move rfl) ?_
            refine LW.v rfl rfl (Val.lenSl rfl Tryd.underlying28) ?_
            refine LW.v rfl rfl (Val.move rfl) ?_
            refine LW.v rfl rfl (Val.lenOwn rfl Tryd.underlying28 hya) ?_
            refine LW.v rfl rfl (Val.ar rfl rfl rfl (IntWalk.i64_in _ (by omega))) ?_
            refine LW.v rfl rfl (Val.cmp rfl rfl rfl) ?_
            refine LW.re 74 (.bool true) rfl (by simp; omega) ?_
            refine LW.v rfl rfl (Val.move rfl) ?_
            refine LW.v rfl rfl (Val.move rfl) ?_
            refine LW.v rfl rfl (Val.move rfl) ?_
            refine LW.v rfl rfl (Val.lenSl rfl Tryd.underlying28) ?_
            refine LW.e rfl rfl (Eff.ofVal (Val.sliceNil rfl Tryd.underlying28 Tryd.sizeOf44 ⟨.i64, by rw [show (0 : Nat) = n by omega]; rfl⟩ rfl)) ?_
            intro _ _
            refine LW.re 79 (.slice P1 La.length C1) rfl (by rw [hP1, hC1, show La.length = 0 by omega]) ?_
            refine LW.v rfl rfl (Val.move rfl) ?_
            refine LW.re 80 (.slice (ownSl La.length oa).a La.length (ownSl La.length oa).c) rfl (ownSl_v2 hya) ?_
            refine LW.e rfl rfl (Eff.callV rfl Tryd.call21 (fun w hw => same_c (L.drop n) La P1 _ La.length C1 _ (by rw [List.length_drop]; omega) rfl (by omega) w (hdr w (hw.sat.pick (by repeat (first | exact .nil | apply Pick.cons | exact .here | apply Ext.there)))) (ownSl_at ev_len hya (hw.sat.pick (ss := [ownG 44 (La.flatMap Evq.cells) oa]) (by repeat (first | exact .nil | apply Pick.cons | exact .here | apply Ext.there)))) (fun i s1 s2 hs1 hs2 => by
              have hs3 : L[n + i]? = some s1 := by rw [← List.getElem?_drop]; exact hs1
              obtain ⟨d, hd⟩ : ∃ d, Da[i]? = some d := ⟨Da[i]'(by have := (List.getElem?_eq_some_iff.1 hs2).1; omega), by simp⟩
              have hd2 : (D ++ Da)[n + i]? = some d := by rw [List.getElem?_append_right (by omega), show n + i - D.length = i by omega]; exact hd
              obtain ⟨⟨g1, k1, hre1⟩, hr1⟩ := (hps w (hw.sat.pick (ss := [G]) (by repeat (first | exact .nil | apply Pick.cons | exact .here | apply Ext.there)))).2 (n + i) d s1 hd2 hs3
              obtain ⟨⟨g2, k2, hre2⟩, hr2⟩ := (hpsa w (hw.sat.pick (ss := [Ga]) (by repeat (first | exact .nil | apply Pick.cons | exact .here | apply Ext.there)))).2 i d s2 hd hs2
              have hAd := hAa d (List.mem_of_getElem? hd)
              refine ⟨d.2.1, d.2.2, by rw [hre1, hre2]; rfl, hr1, hr2, fun x hx => by rw [(hAd.2.2.2.1 x hx).1]; rfl, ?_, ?_⟩
              · have := hcnta d (List.mem_of_getElem? hd); omega
              · have := hAd.2.2.2.2; omega))) ?_
            intro _ _
            refine LW.v rfl rfl (Val.pick_t rfl rfl) ?_
            refine LW.v rfl rfl (Val.move rfl) ?_
            refine LW.e rfl rfl (Eff.callV rfl Tryd.call11 (fun w hw => awake28_c w)) ?_
            intro _ _
            refine LW.v rfl rfl (Val.pick_t rfl rfl) ?_
            refine LW.v rfl rfl (Val.assign rfl) ?_
            refine LW.nil ?_
            refine PQ.seq ?_
            refine CW.ret ?_
            refine PQ.ret1 rfl rfl ?_
            intro w' hw; exact ⟨rfl, hw.below⟩
          · rw [hpf] at hpsa hLla hL6a hAa
            rw [hpg] at hps hLl hL6 hA
            rw [hpf, hpg]
            simp only at hpsa hLla hL6a hAa hps hLl hL6 hA ⊢
            rw [List.length_append] at hLl
            have hcnta := parse_count2 (s := s) (by omega) hpf
            obtain ⟨P1, hP1⟩ : ∃ P1 : Option Addr, P1 = some ⟨g, if cap = n then 0 else 0 + n * 9, none⟩ := ⟨_, rfl⟩
            obtain ⟨C1, hC1⟩ : ∃ C1 : Nat, C1 = cap - n := ⟨_, rfl⟩
            have hcap : L.length ≤ cap := by
              have e := hyo.2
              simp only at e
              rw [V.flatMap_len ev_len] at e
              exact Nat.le_of_mul_le_mul_right (by omega : L.length * 9 ≤ cap * 9) (by omega)
            have hdr : ∀ w, Sat [ownG 44 (L.flatMap Evq.cells) (some (g, rest, cap))] w → V.slAt w P1 9 Evq.cells (L.drop n) := fun w hs8 => by
              rw [hP1]
              by_cases hc8 : cap = n
              · exact .inl (List.drop_eq_nil_iff.2 (by omega))
              · rw [if_neg hc8]
                exact slAt_drop (ownSl_at ev_len hyo hs8) n
            refine LW.v rfl rfl (Val.move rfl) ?_
            refine LW.v rfl rfl (Val.extract rfl rfl) ?_
            refine LW.v rfl rfl (Val.extract rfl rfl) ?_
            refine LW.v rfl rfl (Val.extract rfl rfl) ?_
            refine LW.v rfl rfl (Val.assign rfl) ?_
            refine LW.v rfl rfl (Val.assign rfl) ?_
            refine LW.v rfl rfl (Val.assign rfl) ?_
            refine LW.nil ?_
            refine PQ.seq ?_
            refine CW.seq ?_
            refine CW.seq ?_
            refine CW.region ?_
            refine LW.v rfl rfl (Val.move rfl) ?_
            refine LW.v rfl rfl (Val.move rfl) ?_
            refine LW.v rfl rfl (Val.cmp rfl rfl rfl) ?_
            refine LW.re 50 (.bool false) rfl (by rfl) ?_
            refine LW.nil ?_
            refine PQ.seq ?_
            refine CW.cond_f rfl ?_
            refine CW.skip ?_
            refine PQ.seq ?_
            refine CW.seq ?_
            refine CW.seq ?_
            refine CW.region ?_
            refine LW.v rfl rfl (Val.move rfl) ?_
            refine LW.v rfl rfl (Val.cmp rfl rfl rfl) ?_
            refine LW.re 52 (.bool false) rfl (by rfl) ?_
            refine LW.nil ?_
            refine PQ.seq ?_
            refine CW.cond_f rfl ?_
            refine CW.skip ?_
            refine PQ.seq ?_
            refine CW.seq ?_
            refine CW.region ?_
            refine LW.v rfl rfl (Val.move rfl) ?_
            refine LW.v rfl rfl (Val.lenOwn rfl Tryd.underlying28 hyo) ?_
            refine LW.v rfl rfl (Val.move rfl) ?_
            refine LW.v rfl rfl (Val.lenSl rfl Tryd.underlying28) ?_
            refine LW.v rfl rfl (Val.move rfl) ?_
            refine LW.v rfl rfl (Val.lenOwn rfl Tryd.underlying28 hya) ?_
            refine LW.v rfl rfl (Val.ar rfl rfl rfl (IntWalk.i64_in _ (by omega))) ?_
            refine LW.v rfl rfl (Val.cmp rfl rfl rfl) ?_
            refine LW.re 74 (.bool true) rfl (by simp; omega) ?_
            refine LW.v rfl rfl (Val.move rfl) ?_
            refine LW.v rfl rfl (Val.move rfl) ?_
            refine LW.v rfl rfl (Val.move rfl) ?_
            refine LW.v rfl rfl (Val.lenSl rfl Tryd.underlying28) ?_
            refine LW.e rfl rfl (Eff.ofVal (Val.slice n L.length cap rfl Tryd.underlying28 Tryd.sizeOf44 ⟨_, rfl⟩ rfl rfl (fun _ => rfl) (by omega) hcap (by omega))) ?_
            intro _ _
            refine LW.re 79 (.slice P1 La.length C1) rfl (by rw [hP1, hC1, show L.length - n = La.length by omega]) ?_
            refine LW.v rfl rfl (Val.move rfl) ?_
            refine LW.re 80 (.slice (ownSl La.length oa).a La.length (ownSl La.length oa).c) rfl (ownSl_v2 hya) ?_
            refine LW.e rfl rfl (Eff.callV rfl Tryd.call21 (fun w hw => same_c (L.drop n) La P1 _ La.length C1 _ (by rw [List.length_drop]; omega) rfl (by omega) w (hdr w (hw.sat.pick (by repeat (first | exact .nil | apply Pick.cons | exact .here | apply Ext.there)))) (ownSl_at ev_len hya (hw.sat.pick (ss := [ownG 44 (La.flatMap Evq.cells) oa]) (by repeat (first | exact .nil | apply Pick.cons | exact .here | apply Ext.there)))) (fun i s1 s2 hs1 hs2 => by
              have hs3 : L[n + i]? = some s1 := by rw [← List.getElem?_drop]; exact hs1
              obtain ⟨d, hd⟩ : ∃ d, Da[i]? = some d := ⟨Da[i]'(by have := (List.getElem?_eq_some_iff.1 hs2).1; omega), by simp⟩
              have hd2 : (D ++ Da)[n + i]? = some d := by rw [List.getElem?_append_right (by omega), show n + i - D.length = i by omega]; exact hd
              obtain ⟨⟨g1, k1, hre1⟩, hr1⟩ := (hps w (hw.sat.pick (ss := [G]) (by repeat (first | exact .nil | apply Pick.cons | exact .here | apply Ext.there)))).2 (n + i) d s1 hd2 hs3
              obtain ⟨⟨g2, k2, hre2⟩, hr2⟩ := (hpsa w (hw.sat.pick (ss := [Ga]) (by repeat (first | exact .nil | apply Pick.cons | exact .here | apply Ext.there)))).2 i d s2 hd hs2
              have hAd := hAa d (List.mem_of_getElem? hd)
              refine ⟨d.2.1, d.2.2, by rw [hre1, hre2]; rfl, hr1, hr2, fun x hx => by rw [(hAd.2.2.2.1 x hx).1]; rfl, ?_, ?_⟩
              · have := hcnta d (List.mem_of_getElem? hd); omega
              · have := hAd.2.2.2.2; omega))) ?_
            intro _ _
            refine LW.v rfl rfl (Val.pick_t rfl rfl) ?_
            refine LW.v rfl rfl (Val.move rfl) ?_
            refine LW.e rfl rfl (Eff.callV rfl Tryd.call11 (fun w hw => awake28_c w)) ?_
            intro _ _
            refine LW.v rfl rfl (Val.pick_t rfl rfl) ?_
            refine LW.v rfl rfl (Val.assign rfl) ?_
            refine LW.nil ?_
            refine PQ.seq ?_
            refine CW.ret ?_
            refine PQ.ret1 rfl rfl ?_
            intro w' hw; exact ⟨rfl, hw.below⟩
          · rw [hpf] at hpsa hLla hL6a hAa
            rw [hpg] at hps hLl hL6 hA
            rw [hpf, hpg]
            simp only [List.length_map] at hpsa hLla hL6a hAa hps hLl hL6 hA ⊢
            have hL0 : L.length = 0 := by simpa using hLl
            have hmle := parse_le (by omega) hpf
            refine LW.v rfl rfl (Val.move rfl) ?_
            refine LW.v rfl rfl (Val.extract rfl rfl) ?_
            refine LW.v rfl rfl (Val.extract rfl rfl) ?_
            refine LW.v rfl rfl (Val.extract rfl rfl) ?_
            refine LW.v rfl rfl (Val.assign rfl) ?_
            refine LW.v rfl rfl (Val.assign rfl) ?_
            refine LW.v rfl rfl (Val.assign rfl) ?_
            refine LW.nil ?_
            refine PQ.seq ?_
            refine CW.seq ?_
            refine CW.seq ?_
            refine CW.region ?_
            refine LW.v rfl rfl (Val.move rfl) ?_
            refine LW.v rfl rfl (Val.move rfl) ?_
            refine LW.v rfl rfl (Val.cmp rfl rfl rfl) ?_
            refine LW.re 50 (.bool false) rfl (by rfl) ?_
            refine LW.nil ?_
            refine PQ.seq ?_
            refine CW.cond_f rfl ?_
            refine CW.skip ?_
            refine PQ.seq ?_
            refine CW.seq ?_
            refine CW.seq ?_
            refine CW.region ?_
            refine LW.v rfl rfl (Val.move rfl) ?_
            refine LW.v rfl rfl (Val.cmp rfl rfl rfl) ?_
            refine LW.re 52 (.bool true) rfl (by rfl) ?_
            refine LW.nil ?_
            refine PQ.seq ?_
            refine CW.cond_t rfl ?_
            refine CW.seq ?_
            refine CW.region ?_
            refine LW.v rfl rfl (Val.move rfl) ?_
            refine LW.v rfl rfl (Val.move rfl) ?_
            refine LW.v rfl rfl (Val.move rfl) ?_
            refine LW.v rfl rfl (Val.lenSl rfl Tryd.underlying28) ?_
            refine LW.v rfl rfl (Val.ar rfl rfl rfl (IntWalk.i64_in _ (by omega))) ?_
            refine LW.v rfl rfl (Val.cmp rfl rfl rfl) ?_
            refine LW.re 58 (.bool true) rfl (by simp; omega) ?_
            refine LW.v rfl rfl (Val.move rfl) ?_
            refine LW.v rfl rfl (Val.move rfl) ?_
            refine LW.v rfl rfl (Val.lenOwn rfl Tryd.underlying28 hyo) ?_
            refine LW.v rfl rfl (Val.cmp rfl rfl rfl) ?_
            refine LW.re 62 (.bool true) rfl (by simp only [hL0]; rfl) ?_
            refine LW.v rfl rfl (Val.pick_t rfl rfl) ?_
            refine LW.v rfl rfl (Val.move rfl) ?_
            refine LW.e rfl rfl (Eff.callV rfl Tryd.call11 (fun w hw => awake28_c w)) ?_
            intro _ _
            refine LW.v rfl rfl (Val.pick_t rfl rfl) ?_
            refine LW.v rfl rfl (Val.assign rfl) ?_
            refine LW.nil ?_
            refine PQ.seq ?_
            refine CW.ret ?_
            refine PQ.then_ret ?_
            refine PQ.ret1 rfl rfl ?_
            intro w' hw; exact ⟨rfl, hw.below⟩
end Go.Proofs.YtagliemeolngiaaDoor
