/- A text read, line by line. -/
import Derived.Test.YtagliemeolngiaaDoorScT
import Derived.Test.YtagliemeolngiaaDoorV22
import Derived.Lib.Hide
namespace Go.Proofs.YtagliemeolngiaaDoor
open Go Go.RowKit V
set_option linter.unusedVariables false
set_option maxRecDepth 100000
open V (str byC ownV ownG ownS ownOk)
theorem places87 : ∀ w, ((Array.mapM (fun (f : Field) => do pure (f.offset, ← sizeOf f.type)) (Tryd.prog.fieldsOf 87) : Sem (Array (Nat × Nat)))).run Tryd.prog w = .ok [(0, 1), (1, 1)].toArray w := by
  intro w; kernel_rfl
/-- A text's lines; a line's end at its end begins none. -/
def lnsN : Nat → List UInt8 → List (List UInt8)
  | 0, _ => []
  | n + 1, s => if s = [] then [] else (cutF 10 s).1 :: lnsN n (cutF 10 s).2.1
theorem lnsN_irr : ∀ (n k : Nat) (s : List UInt8), s.length ≤ n → s.length ≤ k → lnsN n s = lnsN k s
  | 0, 0, _, _, _ => rfl
  | 0, k + 1, s, h, _ => by
    obtain rfl : s = [] := List.length_eq_zero_iff.1 (by omega)
    rfl
  | n + 1, 0, s, _, h => by
    obtain rfl : s = [] := List.length_eq_zero_iff.1 (by omega)
    rfl
  | n + 1, k + 1, s, h1, h2 => by
    simp only [lnsN]
    by_cases hs : s = []
    · rw [if_pos hs, if_pos hs]
    · rw [if_neg hs, if_neg hs]
      have := cutF_lt 10 s hs
      rw [lnsN_irr n k _ (by omega) (by omega)]
def lns (s : List UInt8) : List (List UInt8) := lnsN s.length s
theorem lns_nil : lns [] = [] := rfl
theorem lns_cons {s : List UInt8} (h : s ≠ []) : lns s = (cutF 10 s).1 :: lns (cutF 10 s).2.1 := by
  have h1 := cutF_lt 10 s h
  unfold lns
  cases hl : s.length with
  | zero => omega
  | succ n =>
    simp only [lnsN]
    rw [if_neg h, lnsN_irr n _ _ (by omega) (Nat.le_refl _)]
/-- A line's event. -/
def pLine (l : List UInt8) : Option AEv := match pEvent (spl 32 l) with
  | some (v, []) => some v
  | _ => none
def pAll : List (List UInt8) → Nat → List AEv ⊕ Nat
  | [], _ => .inl []
  | l :: r, n => match pLine l with
    | none => .inr n
    | some v => match pAll r (n + 1) with
      | .inl d => .inl (v :: d)
      | .inr k => .inr k
def parseF (s : List UInt8) : List AEv × Int × Int := if 65536 < s.length then ([], 0, 5) else match pAll (lns s) 1 with
  | .inl d => (d, 0, 0)
  | .inr n => ([], (n : Nat), 3)
/-- What is read behind so many events. -/
def pThen (D : List AEv) : List AEv ⊕ Nat → List AEv ⊕ Nat
  | .inl d => .inl (D ++ d)
  | .inr n => .inr n
theorem pThen_one (D : List AEv) (v : AEv) (x : List AEv ⊕ Nat) : pThen (D ++ [v]) x = pThen D (match x with | .inl d => .inl (v :: d) | .inr k => .inr k) := by
  cases x <;> simp [pThen]
/-- Events in memory, and what they are. -/
def PsL (w : World) (D : List AEv) (L : List Evq) : Prop := L.length = D.length ∧ ∀ (i : Nat) (d : AEv) (e : Evq), D[i]? = some d → L[i]? = some e → (∃ g k, e = d.1.re g k) ∧ EvR w e d.2.1 d.2.2
theorem PsL.snoc {w : World} {D : List AEv} {L : List Evq} {d : AEv} {e : Evq} (h : PsL w D L) (h' : (∃ g k, e = d.1.re g k) ∧ EvR w e d.2.1 d.2.2) : PsL w (D ++ [d]) (L ++ [e]) := ⟨by simp [h.1], fun i a b ha hb => by
  by_cases hi : i < D.length
  · rw [List.getElem?_append_left hi] at ha
    rw [List.getElem?_append_left (by have := h.1; omega)] at hb
    exact h.2 i a b ha hb
  · rw [List.getElem?_append_right (by omega)] at ha
    rw [List.getElem?_append_right (by have := h.1; omega), h.1] at hb
    cases hq : i - D.length with
    | zero => rw [hq] at ha hb; simp at ha hb; subst ha; subst hb; exact h'
    | succ m => rw [hq] at ha; simp at ha⟩
/-- Events as a text makes them: no group within a group, no text too long. -/
def AOk (d : AEv) : Prop := d.1.call.grp = nilSl ∧ d.1.keep = nilSl ∧ d.1.call.small ∧ (∀ x ∈ d.2.1, x.grp = nilSl ∧ x.small) ∧ d.2.2.length ≤ 70001
theorem teller_c (l : List UInt8) (w : World) : Calls Tryd.prog 47 [str l].toArray w fun e w' => ∃ y : Nat × Nat, True ∧ e = .returned (.func (.func 58) #[] #[.pointer (some ⟨y.1, 0, none⟩), .pointer (some ⟨y.2, 0, none⟩)]) ∧ Hp ⟨w, []⟩ [[(y.1, .cells [.bool true].toArray 4 (0, 0)), (y.2, .cells [str l].toArray 9 (0, 0))]] w' := by
  refine V.calls [] Tryd.func47 rfl Tryd.ntmps47 (Nat.le_of_ble_eq_true rfl) (V.sat_nil _) ?_
  refine CW.seq ?_
  refine CW.region ?_
  refine LW.v rfl rfl (Val.assign rfl) ?_
  refine LW.nil ?_
  refine PQ.seq ?_
  refine CW.seq ?_
  refine CW.region ?_
  refine LW.v rfl rfl (Val.move rfl) ?_
  refine LW.e rfl rfl (Eff.allocS (v := .string ⟨#[]⟩) rfl (by exact Tryd.zeroValue9)) ?_
  intro b3 _
  refine LW.e rfl rfl (Eff.allocS (v := .bool false) rfl (by exact Tryd.zeroValue4)) ?_
  intro b4 _
  refine LW.eN rfl (Eff.store rfl rfl rfl (by repeat (first | exact .here | exact .inner .here | exact .inner (.inner .here) | apply Upd.there)) (by rfl) (by rfl) Tryd.sizeOf9) ?_
  intro _ _
  refine LW.eN rfl (Eff.store rfl rfl rfl (by repeat (first | exact .here | exact .inner .here | exact .inner (.inner .here) | apply Upd.there)) (by rfl) (by rfl) Tryd.sizeOf4) ?_
  intro _ _
  refine LW.nil ?_
  refine PQ.seq ?_
  refine CW.seq ?_
  refine CW.region ?_
  refine LW.v rfl rfl (Val.makeFunc rfl rfl) ?_
  refine LW.v rfl rfl (Val.assign rfl) ?_
  refine LW.nil ?_
  refine PQ.seq ?_
  refine CW.ret ?_
  refine PQ.ret1 rfl rfl ?_
  intro w' hw; exact ⟨(b4, b3), trivial, rfl, hw.perm (by first | exact .refl _ | (simp; done) | (simp only [List.flatten_cons, List.flatten_nil, List.append_nil, List.cons_append, List.nil_append]; exact List.Perm.swap _ _ _))⟩
theorem parse_c {W : World} (hN : NumLib W) (s0 : List UInt8) (hl : s0.length ≤ 1000000) (w : World) (hO : Ov W w) : Calls Tryd.prog 24 [str s0].toArray w fun e w' => ∃ y : V.OwnO × List Evq × V.Seg, (ownOk 9 y.2.1.length (y.2.1.flatMap Evq.cells) y.1 ∧ (∀ w, Sat [y.2.2] w → PsL w (parseF s0).1 y.2.1) ∧ y.2.1.length = (parseF s0).1.length ∧ (parseF s0).1.length ≤ 65536 ∧ ∀ d ∈ (parseF s0).1, AOk d) ∧ e = .returned (.tuple #[ownV y.2.1.length y.1, .int .i64 (parseF s0).2.1, .int .i64 (parseF s0).2.2]) ∧ Hp ⟨w, []⟩ [ownG 44 (y.2.1.flatMap Evq.cells) y.1, y.2.2] w' := by
  refine V.calls [] Tryd.func24 rfl Tryd.ntmps24 (Nat.le_of_ble_eq_true rfl) (V.sat_nil _) ?_
  refine CW.seq ?_
  refine CW.region ?_
  refine LW.v rfl rfl (Val.assign rfl) ?_
  refine LW.v rfl rfl (Val.assign rfl) ?_
  refine LW.v rfl rfl (Val.assign rfl) ?_
  refine LW.nil ?_
  refine PQ.seq ?_
  refine CW.seq ?_
  refine CW.seq ?_
  refine CW.region ?_
  refine LW.v rfl rfl (Val.move rfl) ?_
  refine LW.v rfl rfl (Val.lenStr rfl Tryd.underlying9) ?_
  refine LW.v rfl rfl (Val.cmp rfl rfl rfl) ?_
  refine LW.nil ?_
  refine PQ.seq ?_
  refine CW.cond rfl (fun h12 => ?_) (fun h12 => ?_)
  · replace h12 := bT h12
    refine CW.seq ?_
    refine CW.region ?_
    refine LW.v rfl rfl (Val.assign rfl) ?_
    refine LW.v rfl rfl (Val.assign rfl) ?_
    refine LW.v rfl rfl (Val.assign rfl) ?_
    refine LW.nil ?_
    refine PQ.seq ?_
    refine CW.ret ?_
    refine PQ.then_ret ?_
    refine PQ.ret3 rfl rfl rfl rfl ?_
    intro w' hw
    have hp : parseF s0 = ([], 0, 5) := by unfold parseF; rw [if_pos (by omega)]
    rw [hp]
    exact ⟨(none, [], []), ⟨⟨rfl, rfl⟩, fun w _ => ⟨rfl, by simp⟩, rfl, by simp, by simp⟩, rfl, (hw.pick (ss := []) .nil).perm (.refl _)⟩
  · replace h12 := bF h12
    have hlen : s0.length ≤ 65536 := by omega
    refine CW.skip ?_
    refine PQ.seq ?_
    refine CW.seq ?_
    refine CW.region ?_
    refine LW.v rfl rfl (Val.assign rfl) ?_
    refine LW.nil ?_
    refine PQ.seq ?_
    refine CW.seq ?_
    refine CW.seq ?_
    refine CW.region ?_
    refine LW.v rfl rfl (Val.assign rfl) ?_
    refine LW.nil ?_
    refine PQ.seq ?_
    refine CW.block ?_
    refine V.CW.perm (sg' := [ownG 44 (([] : List Evq).flatMap Evq.cells) none, []]) ?_ (.refl _)
    refine CW.loop (γ := Nat × V.OwnO × List Evq × V.Seg × List AEv × List UInt8) (fun k => [(0, str k.2.2.2.2.2), (5, ownV k.2.2.1.length k.2.1), (6, .int .i64 (k.1 : Nat))]) (fun k => [ownG 44 (k.2.2.1.flatMap Evq.cells) k.2.1, k.2.2.2.1]) (fun k => k.1 + k.2.2.2.2.2.length ≤ 65537 ∧ ownOk 9 k.2.2.1.length (k.2.2.1.flatMap Evq.cells) k.2.1 ∧ (k.2.2.1.length = k.2.2.2.2.1.length ∧ k.2.2.2.2.1.length + 1 = k.1) ∧ (∀ w, Sat [k.2.2.2.1] w → PsL w k.2.2.2.2.1 k.2.2.1) ∧ (∀ d ∈ k.2.2.2.2.1, AOk d) ∧ pAll (lns s0) 1 = pThen k.2.2.2.2.1 (pAll (lns k.2.2.2.2.2) k.1)) (fun k => k.2.2.2.2.2.length) ((1, none, [], [], [], s0)) ⟨by simp only; omega, ⟨rfl, rfl⟩, ⟨rfl, rfl⟩, fun w _ => ⟨rfl, by simp⟩, by simp, by cases pAll (lns s0) 1 <;> simp [pThen]⟩ (by repeat (first | exact trivial | refine ⟨rfl, ?_⟩)) (by repeat (first | exact .nil | apply Pick.cons | exact .here | apply Ext.there)) ?_
    intro k
    rintro ⟨hk1, hk2, ⟨hkD, hkN⟩, hk4, hkA, hks⟩
    refine CW.seq ?_
    refine CW.seq ?_
    refine CW.region ?_
    refine LW.v rfl rfl (Val.move rfl) ?_
    refine LW.v rfl rfl (Val.neStr rfl rfl) ?_
    refine LW.nil ?_
    refine PQ.seq ?_
    refine CW.cond rfl (fun h14 => ?_) (fun h14 => ?_)
    · replace h14 := bT h14
      have h14n : k.2.2.2.2.2 ≠ [] := by simpa using h14
      have hcl := cutF_len 10 k.2.2.2.2.2
      have hlt := cutF_lt 10 k.2.2.2.2.2 h14n
      have hqq : QOk (true, (cutF 10 k.2.2.2.2.2).1) := by unfold QOk; simp only; omega
      have hwlq : wl (true, (cutF 10 k.2.2.2.2.2).1) = spl 32 (cutF 10 k.2.2.2.2.2).1 := rfl
      refine CW.skip ?_
      refine PQ.seq ?_
      refine CW.seq ?_
      refine CW.block ?_
      refine CW.seq ?_
      refine CW.region ?_
      refine LW.v rfl rfl (Val.assign rfl) ?_
      refine LW.nil ?_
      refine PQ.seq ?_
      refine CW.seq ?_
      refine CW.region ?_
      refine LW.v rfl rfl (Val.move rfl) ?_
      refine LW.e rfl rfl (Eff.callV rfl Tryd.call46 (fun w hw => cut_c k.2.2.2.2.2 10 (by omega) w)) ?_
      intro _ _
      refine LW.v rfl rfl (Val.move rfl) ?_
      refine LW.v rfl rfl (Val.extract rfl rfl) ?_
      refine LW.v rfl rfl (Val.extract rfl rfl) ?_
      refine LW.v rfl rfl (Val.extract rfl rfl) ?_
      refine LW.v rfl rfl (Val.assign rfl) ?_
      refine LW.v rfl rfl (Val.assign rfl) ?_
      refine LW.nil ?_
      refine PQ.seq ?_
      refine CW.seq ?_
      refine CW.region ?_
      refine LW.v rfl rfl (Val.move rfl) ?_
      refine LW.e rfl rfl (Eff.callM ([]) .nil rfl Tryd.call47 (fun w hw hs0 => teller_c (cutF 10 k.2.2.2.2.2).1 w)) ?_
      rintro ⟨m, s⟩ _
      simp only
      refine LW.re 24 (.func (.func 58) #[] #[.pointer (some ⟨m, 0, none⟩), .pointer (some ⟨s, 0, none⟩)]) rfl rfl ?_
      refine LW.v rfl rfl (Val.build [_, _] Tryd.zeroValue87 Tryd.underlying87 places87 rfl (by rfl)) ?_
      refine LW.e rfl rfl (Eff.boxA rfl) ?_
      intro b26 _
      refine V.LW.perm (sg' := rdS b26 m s (true, (cutF 10 k.2.2.2.2.2).1) false :: [ownG 44 (k.2.2.1.flatMap Evq.cells) k.2.1, k.2.2.2.1]) ?_ (by first | exact .refl _ | (simp [rdS]; done))
      refine LW.v rfl rfl (Val.assign rfl) ?_
      refine LW.nil ?_
      refine PQ.seq ?_
      refine CW.seq ?_
      refine CW.region ?_
      refine LW.v rfl rfl (Val.move rfl) ?_
      refine LW.e rfl rfl (Eff.callM ([rdS b26 m s (true, (cutF 10 k.2.2.2.2.2).1) false]) (by repeat (first | exact .nil | apply Pick.cons | exact .here | apply Ext.there)) rfl Tryd.call48 (fun w hw hs0 => rdevent_c hN b26 m s (true, (cutF 10 k.2.2.2.2.2).1) false hqq w (hO.hp (by simp [ids]) hw) (fun b hb => by
        obtain ⟨p, hp, rfl⟩ := List.mem_map.1 hb
        rcases (hw.pick (ss := [rdS b26 m s (true, (cutF 10 k.2.2.2.2.2).1) false]) (by repeat (first | exact .nil | apply Pick.cons | exact .here | apply Ext.there))).lo p hp with h8 | h8
        · exact Nat.le_trans hO.1 h8
        · simp [ids] at h8) hs0)) ?_
      intro z hz
      refine LW.e rfl rfl (Eff.allocA (by exact Tryd.zeroValue44)) ?_
      intro b9 _
      refine LW.eN rfl (Eff.storeW (cs := (z.1.1.re (ownSl z.1.2.1.length z.1.2.2.1) (ownSl z.1.2.2.2.1.length z.1.2.2.2.2)).cells) rfl rfl (by repeat (first | exact .here | exact .inner .here | exact .inner (.inner .here) | apply Upd.there)) (by rfl) Tryd.sizeOf44 (by rfl)) ?_
      intro _ _
      refine LW.nil ?_
      refine PQ.seq ?_
      refine CW.seq ?_
      refine CW.seq ?_
      refine CW.region ?_
      refine LW.v rfl rfl (Val.move rfl) ?_
      refine LW.e rfl rfl (Eff.callM ([rdS b26 m s z.2.1 z.2.2]) (by repeat (first | exact .nil | apply Pick.cons | exact .here | apply Ext.there)) rfl Tryd.call49 (fun w hw hs0 => rest_c b26 m s z.2.1 z.2.2 hz.2.1 w hs0)) ?_
      intro y9 hy9
      refine LW.v rfl rfl (Val.lenOwn rfl Tryd.underlying73 hy9.1) ?_
      refine LW.v rfl rfl (Val.cmp rfl rfl rfl) ?_
      refine LW.v rfl rfl (Val.move rfl) ?_
      refine LW.split (d := 33) rfl (fun h33 => ?_) (fun h33 => ?_)
      · replace h33 := bT h33
        refine LW.p rfl rfl ?_
        refine LW.p rfl rfl ?_
        refine LW.p rfl rfl ?_
        refine LW.p rfl rfl ?_
        refine LW.v rfl rfl (Val.pick_t rfl rfl) ?_
        refine LW.nil ?_
        refine PQ.seq ?_
        refine CW.cond_t rfl ?_
        refine CW.seq ?_
        refine CW.region ?_
        refine LW.v rfl rfl (Val.move rfl) ?_
        refine LW.v rfl rfl (Val.assign rfl) ?_
        refine LW.v rfl rfl (Val.assign rfl) ?_
        refine LW.v rfl rfl (Val.assign rfl) ?_
        refine LW.nil ?_
        refine PQ.seq ?_
        refine CW.ret ?_
        refine PQ.then_ret ?_
        refine PQ.in_ret ?_
        refine PQ.then_ret ?_
        refine PQ.then_ret ?_
        refine PQ.in_ret ?_
        refine PQ.then_ret ?_
        refine PQ.ret3 rfl rfl rfl rfl ?_
        intro w' hw
        have hpl : pLine (cutF 10 k.2.2.2.2.2).1 = none := by
          unfold pLine
          rw [← hwlq]
          have h8 := hz.1.2 rfl
          cases h9 : z.2.2 with
          | true => rw [h8.2 h9]
          | false =>
            rw [h8.1 h9]
            cases h10 : wl z.2.1 with
            | nil => exfalso; first | (have h11 := h33; rw [h10] at h11; simp at h11; done) | (rw [h9] at h38; cases h38)
            | cons a b => rfl
        have hp : parseF s0 = ([], ((k.1 : Nat) : Int), 3) := by
          unfold parseF
          rw [if_neg (by omega), hks, lns_cons h14n]
          simp only [pAll, hpl, pThen]
        rw [hp]
        exact ⟨(none, [], []), ⟨⟨rfl, rfl⟩, fun w _ => ⟨rfl, by simp⟩, rfl, by simp, by simp⟩, rfl, (hw.pick (ss := []) .nil).perm (.refl _)⟩
      · replace h33 := bF h33
        refine LW.v rfl rfl (Val.move rfl) ?_
        refine LW.v rfl rfl (Val.nilCheck rfl) ?_
        refine LW.v rfl rfl (Val.fieldAddr 1 rfl Tryd.underlying87 rfl rfl Tryd.sizeOf4) ?_
        refine LW.v rfl rfl (Val.load rfl Tryd.isAgg4 (by repeat (first | exact .here | exact .inner .here | exact .inner (.inner .here) | refine .there ?_)) (by rfl)) ?_
        refine LW.v rfl rfl (Val.pick_f rfl rfl) ?_
        refine LW.nil ?_
        refine PQ.seq ?_
        refine CW.cond rfl (fun h38 => ?_) (fun h38 => ?_)
        · replace h38 := bT h38
          refine CW.seq ?_
          refine CW.region ?_
          refine LW.v rfl rfl (Val.move rfl) ?_
          refine LW.v rfl rfl (Val.assign rfl) ?_
          refine LW.v rfl rfl (Val.assign rfl) ?_
          refine LW.v rfl rfl (Val.assign rfl) ?_
          refine LW.nil ?_
          refine PQ.seq ?_
          refine CW.ret ?_
          refine PQ.then_ret ?_
          refine PQ.in_ret ?_
          refine PQ.then_ret ?_
          refine PQ.then_ret ?_
          refine PQ.in_ret ?_
          refine PQ.then_ret ?_
          refine PQ.ret3 rfl rfl rfl rfl ?_
          intro w' hw
          have hpl : pLine (cutF 10 k.2.2.2.2.2).1 = none := by
            unfold pLine
            rw [← hwlq]
            have h8 := hz.1.2 rfl
            cases h9 : z.2.2 with
            | true => rw [h8.2 h9]
            | false =>
              rw [h8.1 h9]
              cases h10 : wl z.2.1 with
              | nil => exfalso; first | (have h11 := h33; rw [h10] at h11; simp at h11; done) | (rw [h9] at h38; cases h38)
              | cons a b => rfl
          have hp : parseF s0 = ([], ((k.1 : Nat) : Int), 3) := by
            unfold parseF
            rw [if_neg (by omega), hks, lns_cons h14n]
            simp only [pAll, hpl, pThen]
          rw [hp]
          exact ⟨(none, [], []), ⟨⟨rfl, rfl⟩, fun w _ => ⟨rfl, by simp⟩, rfl, by simp, by simp⟩, rfl, (hw.pick (ss := []) .nil).perm (.refl _)⟩
        · replace h38 := bF h38
          refine CW.skip ?_
          refine PQ.seq ?_
          refine CW.region ?_
          refine LW.v rfl rfl (Val.move rfl) ?_
          refine LW.v rfl rfl (Val.loadW (l := (z.1.1.re (ownSl z.1.2.1.length z.1.2.2.1) (ownSl z.1.2.2.2.1.length z.1.2.2.2.2)).cells) rfl Tryd.isAgg44 (by repeat (first | exact .here | exact .inner .here | exact .inner (.inner .here) | refine .there ?_)) (by exact Tryd.sizeOf44)) ?_
          refine LW.e rfl rfl (Eff.buildSlice (rfl) [_, _, _, _, _, _, _, _, _] Tryd.underlying28 Tryd.sizeOf44 (by exact Tryd.zeroValue44) rfl rfl rfl rfl (by rfl)) ?_
          intro b42 _
          refine LW.e rfl rfl (Eff.appendAny ((z.1.1.re (ownSl z.1.2.1.length z.1.2.2.1) (ownSl z.1.2.2.2.1.length z.1.2.2.2.2)).cells) (sz := 9) (bytes := 128) (z := .agg #[.int .i64 0, .int .i64 0, .int .i64 0, .int .i64 0, .string ⟨#[]⟩, .string ⟨#[]⟩, .string ⟨#[]⟩, .slice none 0 0, .slice none 0 0]) (xs := k.2.2.1.flatMap Evq.cells) (m0 := k.2.2.1.length) (o := k.2.1) (m := 1) (pk := [ownG 44 (k.2.2.1.flatMap Evq.cells) k.2.1]) rfl rfl Tryd.underlying28 (by kernel_rfl) rfl (by omega) (by repeat (first | exact .nil | apply Pick.cons | exact .here | apply Ext.there)) (by simp) hk2 (by rfl) (fun hm0 => ⟨b42, 0, rfl, fun w hw => V.range_of_block (o := 0) (cs := (z.1.1.re (ownSl z.1.2.1.length z.1.2.2.1) (ownSl z.1.2.2.2.1.length z.1.2.2.2.2)).cells) (r := []) (hw.own _ (show InS (b42, .cells ((z.1.1.re (ownSl z.1.2.1.length z.1.2.2.1) (ownSl z.1.2.2.2.1.length z.1.2.2.2.2)).cells).toArray 44 (0, 0)) _ from (by repeat (first | exact .here | exact .inner .here | exact .inner (.inner .here) | refine .there ?_))).mem) rfl⟩) (by rfl) (by omega) (by omega)) ?_
          intro o9 ho9
          refine LW.v rfl rfl (Val.assign rfl) ?_
          refine LW.nil ?_
          refine PQ.in_normal ?_
          refine PQ.seq ?_
          refine CW.region ?_
          refine LW.v rfl rfl (Val.move rfl) ?_
          refine LW.v rfl rfl (Val.ar rfl rfl rfl (IntWalk.i64_in _ (by omega))) ?_
          refine LW.v rfl rfl (Val.assign rfl) ?_
          refine LW.nil ?_
          have hz2 : z.2.2 = false := by first | exact h37 | (simpa using h38) | exact h38
          have hz3 : wl z.2.1 = [] := by
            cases h10 : wl z.2.1 with
            | nil => rfl
            | cons a b => exfalso; have h11 := h33; rw [h10] at h11; simp at h11; omega
          have hpl : pLine (cutF 10 k.2.2.2.2.2).1 = some (z.1.1, z.1.2.1, z.1.2.2.2.1) := by
            unfold pLine
            rw [← hwlq, (hz.1.2 rfl).1 hz2, hz3]
          have hpa : pAll (lns s0) 1 = pThen (k.2.2.2.2.1 ++ [(z.1.1, z.1.2.1, z.1.2.2.2.1)]) (pAll (lns (cutF 10 k.2.2.2.2.2).2.1) (k.1 + 1)) := by
            rw [hks, lns_cons h14n, pThen_one]
            simp only [pAll, hpl]
          refine PQ.segs (ss := [ownG 44 (k.2.2.1.flatMap Evq.cells ++ (z.1.1.re (ownSl z.1.2.1.length z.1.2.2.1) (ownSl z.1.2.2.2.1.length z.1.2.2.2.2)).cells) o9, k.2.2.2.1, ownG 41 (z.1.2.1.flatMap Cq.cells) z.1.2.2.1, ownG 3 (z.1.2.2.2.1.flatMap intC) z.1.2.2.2.2]) ?_ (by repeat (first | exact .nil | apply Pick.cons | exact .here | apply Ext.there))
          refine PQ.perm (sg' := [ownG 44 (k.2.2.1.flatMap Evq.cells ++ (z.1.1.re (ownSl z.1.2.1.length z.1.2.2.1) (ownSl z.1.2.2.2.1.length z.1.2.2.2.2)).cells) o9, k.2.2.2.1 ++ (ownG 41 (z.1.2.1.flatMap Cq.cells) z.1.2.2.1 ++ ownG 3 (z.1.2.2.2.1.flatMap intC) z.1.2.2.2.2)]) ?_ (by simp)
          rw [← flat_snoc]
          refine PQ.round ((k.1 + 1, o9, k.2.2.1 ++ [(z.1.1.re (ownSl z.1.2.1.length z.1.2.2.1) (ownSl z.1.2.2.2.1.length z.1.2.2.2.2))], k.2.2.2.1 ++ (ownG 41 (z.1.2.1.flatMap Cq.cells) z.1.2.2.1 ++ ownG 3 (z.1.2.2.2.1.flatMap intC) z.1.2.2.2.2), k.2.2.2.2.1 ++ [(z.1.1, z.1.2.1, z.1.2.2.2.1)], (cutF 10 k.2.2.2.2.2).2.1)) ⟨by simp only; omega, by have := ho9; simp only [flat_snoc, List.length_append]; exact this, ⟨by simp only [List.length_append, List.length_cons, List.length_nil]; omega, by simp only [List.length_append, List.length_cons, List.length_nil]; omega⟩, fun w hw => (hk4 w (sat_l hw)).snoc ⟨⟨_, _, rfl⟩, ⟨ownSl_n hz.2.2.1, ownSl_at cq_len hz.2.2.1 (sat_l (sat_r hw)), (ownSl_n hz.2.2.2.1).symm, ownSl_at int_len hz.2.2.2.1 (sat_r (sat_r hw))⟩⟩, fun d hd => by
            rcases List.mem_append.1 hd with h8 | h8
            · exact hkA d h8
            · simp at h8; subst h8; exact ⟨hz.2.2.2.2.1.1, hz.2.2.2.2.1.2.1, hz.2.2.2.2.1.2.2, hz.2.2.2.2.2.1, hz.2.2.2.2.2.2⟩, hpa⟩ (by simp only; omega) (by exact ⟨rfl, by simp only [List.length_append]; rfl, rfl, trivial⟩) (by repeat (first | exact .nil | apply Pick.cons | exact .here | apply Ext.there))
    · replace h14 := bF h14
      refine CW.exit ?_
      refine PQ.then_exit ?_
      refine PQ.then_exit ?_
      refine PQ.in_here ?_
      refine PQ.seq ?_
      refine CW.seq ?_
      refine CW.region ?_
      refine LW.v rfl rfl (Val.move rfl) ?_
      refine LW.v rfl rfl (Val.assign rfl) ?_
      refine LW.v rfl rfl (Val.assign rfl) ?_
      refine LW.v rfl rfl (Val.assign rfl) ?_
      refine LW.nil ?_
      refine PQ.seq ?_
      refine CW.ret ?_
      refine PQ.ret3 rfl rfl rfl rfl ?_
      intro w' hw
      have hs0 : k.2.2.2.2.2 = [] := by simpa using h14
      have hp : parseF s0 = (k.2.2.2.2.1, 0, 0) := by
        unfold parseF
        rw [if_neg (by omega), hks, hs0]
        simp [lns_nil, pAll, pThen]
      rw [hp]
      exact ⟨(k.2.1, k.2.2.1, k.2.2.2.1), ⟨hk2, hk4, hkD, by simp only; omega, hkA⟩, rfl, hw⟩
end Go.Proofs.YtagliemeolngiaaDoor
