/- Stores that may be, and that are not great. -/
import Derived.Test.YtipnpnkniihdjaaTwA
import Derived.Lib.Hide
namespace Go.Proofs.Ytipnpnkniihdjaa
open Go Go.RowKit V
set_option linter.unusedVariables false
set_option maxRecDepth 100000
open V (str byC ownV ownG ownS ownOk)
def mayB : List Pr → Bool
  | [] => true
  | [_] => true
  | x :: y :: r => decide (x.key < y.key) && mayB (y :: r)
theorem may_of : ∀ {l : List Pr}, (∀ (i : Nat) (x y : Pr), l[i]? = some x → l[i + 1]? = some y → x.key < y.key) → mayB l = true
  | [], _ => rfl
  | [_], _ => rfl
  | x :: y :: r, h => by
    simp only [mayB, Bool.and_eq_true, decide_eq_true_eq]
    exact ⟨h 0 x y rfl rfl, may_of fun i a c h1 h2 => h (i + 1) a c (by simpa using h1) (by simpa using h2)⟩
theorem may_at : ∀ {l : List Pr}, mayB l = true → ∀ (i : Nat) (x y : Pr), l[i]? = some x → l[i + 1]? = some y → x.key < y.key
  | [], _, i, x, y, h, _ => by simp at h
  | [_], _, i, x, y, _, h => by simp at h
  | a :: c :: r, hm, 0, x, y, h1, h2 => by
    simp only [mayB, Bool.and_eq_true, decide_eq_true_eq] at hm
    simp at h1 h2; subst h1; subst h2; exact hm.1
  | a :: c :: r, hm, i + 1, x, y, h1, h2 => by
    simp only [mayB, Bool.and_eq_true, decide_eq_true_eq] at hm
    exact may_at hm.2 i x y (by simpa using h1) (by simpa using h2)
def MB (l : List Pr) (k : Nat) : Prop := ∀ (i : Nat) (x y : Pr), i + 1 < k → l[i]? = some x → l[i + 1]? = some y → x.key < y.key
theorem MB.end {l : List Pr} {k : Nat} (h : MB l k) (hk : l.length ≤ k) : mayB l = true := may_of fun i x y h1 h2 => h i x y (by have := (List.getElem?_eq_some_iff.1 h2).1; omega) h1 h2
theorem MB.no {l : List Pr} {k : Nat} {x y : Pr} (hk : 1 ≤ k) (h1 : l[k - 1]? = some x) (h2 : l[k]? = some y) (hn : ¬ x.key < y.key) : mayB l = false := by
  cases hm : mayB l with
  | false => rfl
  | true => exact absurd (may_at hm (k - 1) x y h1 (by rw [show k - 1 + 1 = k by omega]; exact h2)) hn
theorem MB.step {l : List Pr} {k : Nat} (h : MB l k) (hs : ∀ x y, 1 ≤ k → l[k - 1]? = some x → l[k]? = some y → x.key < y.key) : MB l (k + 1) := fun i x y hi h1 h2 => by
  by_cases e : i + 1 = k
  · exact hs x y (by omega) (by rw [show k - 1 = i by omega]; exact h1) (by rw [← e]; exact h2)
  · exact h i x y (by omega) h1 h2
theorem may_c (s : Sf) (A : ShA) (w : World) (hA : SfR w s A) (hl : A.1.length ≤ 100000) : Calls Try.prog 18 [.agg s.cells.toArray].toArray w fun e w' => e = .returned (.bool (mayB A.1)) ∧ Below w.heap.size w w' := by
  obtain ⟨⟨pa, pn, pc⟩, ⟨qa, qn, qc⟩⟩ := s
  obtain ⟨l, q⟩ := A
  obtain ⟨⟨hn1, h1⟩, ⟨hn2, h2⟩, hcp, hcq⟩ := hA
  simp only at hn1 h1 hn2 h2 hcp hcq hl
  subst hn1; subst hn2
  refine V.calls [] Try.func18 rfl Try.ntmps18 (Nat.le_of_ble_eq_true rfl) (V.sat_nil _) ?_
  refine CW.seq ?_
  refine CW.region ?_
  refine LW.e rfl rfl (Eff.boxA rfl) ?_
  intro b1 _
  refine LW.v rfl rfl (Val.assign rfl) ?_
  refine LW.nil ?_
  refine PQ.seq ?_
  refine CW.seq ?_
  refine CW.seq ?_
  refine CW.region ?_
  refine LW.v rfl rfl (Val.fieldAddr 0 rfl Try.underlying25 rfl rfl Try.sizeOf22) ?_
  refine LW.v rfl rfl (Val.load rfl Try.isAgg22 (by repeat (first | exact .here | exact .inner .here | exact .inner (.inner .here) | refine .there ?_)) (by rfl)) ?_
  refine LW.v rfl rfl (Val.lenSl rfl Try.underlying22) ?_
  refine LW.v rfl rfl (Val.move rfl) ?_
  refine LW.nil ?_
  refine PQ.seq ?_
  refine CW.block ?_
  refine CW.loop (γ := Nat) (fun k => [(1, .pointer (some ⟨b1, 0, none⟩)), (6, .slice pa l.length pc), (7, .int .i64 (l.length : Nat)), (8, .int .i64 (k : Nat))]) (fun _ => [[(b1, .cells [.slice pa l.length pc, .slice qa q.length qc].toArray 25 (0, 0))]]) (fun k => k ≤ l.length ∧ MB l k) (fun k => l.length - k) (0) ⟨Nat.zero_le _, fun i x y h => absurd h (Nat.not_lt_zero _)⟩ (by repeat (first | exact trivial | refine ⟨rfl, ?_⟩)) (by repeat (first | exact .nil | apply Pick.cons | exact .here | apply Ext.there)) ?_
  intro k
  rintro ⟨hk1, hk2⟩
  refine CW.seq ?_
  refine CW.region ?_
  refine LW.v rfl rfl (Val.cmp rfl rfl rfl) ?_
  refine LW.nil ?_
  refine PQ.seq ?_
  refine CW.seq ?_
  refine CW.cond rfl (fun h9 => ?_) (fun h9 => ?_)
  · replace h9 := bT h9
    obtain ⟨bb1, o1, x, rfl, hb1, hx1, hr1⟩ := V.slAt_at h1 rfl (k := k) (by omega)
    refine CW.skip ?_
    refine PQ.seq ?_
    refine CW.seq ?_
    refine CW.block ?_
    refine CW.seq ?_
    refine CW.region ?_
    refine LW.v rfl rfl (Val.move rfl) ?_
    first | (refine LW.v rfl rfl (Val.indexAddrN rfl rfl Try.underlying22 Try.sizeOf45 (by omega)) ?_) | (refine LW.v rfl rfl (Val.indexAddr rfl rfl Try.underlying22 Try.sizeOf45 (by omega) (by omega)) ?_)
    refine LW.v rfl rfl (Val.loadOA rfl Try.isAgg45 hb1 (by simp [ids]) (hr1 k x hx1) Try.sizeOf45) ?_
    refine LW.e rfl rfl (Eff.allocA (by exact Try.zeroValue45)) ?_
    intro b4 _
    refine LW.v rfl rfl (Val.assign rfl) ?_
    first | (refine LW.eN rfl (Eff.storeW rfl rfl (by repeat (first | exact .here | exact .inner .here | exact .inner (.inner .here) | apply Upd.there)) (by rfl) Try.sizeOf45 (by rfl)) ?_) | (refine LW.eN rfl (Eff.storeA (l' := _) rfl rfl (by repeat (first | exact .here | exact .inner .here | exact .inner (.inner .here) | apply Upd.there)) (by rfl) (by decide) Try.sizeOf45 (by rfl)) ?_)
    intro _ _
    refine LW.nil ?_
    refine PQ.seq ?_
    refine CW.seq ?_
    refine CW.quiet mixed (by kernel_rfl) ?_
    refine QW.v rfl rfl (Val.move rfl) ?_
    refine QW.v rfl rfl (Val.cmp rfl rfl rfl) ?_
    refine QW.v rfl rfl (Val.move rfl) ?_
    refine QW.split (d := 15) rfl (fun h15 => ?_) (fun h15 => ?_)
    · replace h15 := bT h15
      obtain ⟨x1, hx2⟩ : ∃ x, l[k - 1]? = some x := ⟨l[k - 1]'(by omega), by simp⟩
      refine QW.v rfl rfl (Val.fieldAddr 0 rfl Try.underlying25 rfl rfl Try.sizeOf22) ?_
      refine QW.v rfl rfl (Val.load rfl Try.isAgg22 (by repeat (first | exact .here | exact .inner .here | exact .inner (.inner .here) | refine .there ?_)) (by rfl)) ?_
      refine QW.v rfl rfl (Val.move rfl) ?_
      refine QW.v rfl rfl (Val.ar rfl rfl rfl (IntWalk.i64_in _ (by omega))) ?_
      refine QW.re 19 (.int .i64 ((k - 1 : Nat) : Int)) rfl (by congr 1 <;> omega) ?_
      first | (refine QW.v rfl rfl (Val.indexAddrN rfl rfl Try.underlying22 Try.sizeOf45 (by omega)) ?_) | (refine QW.v rfl rfl (Val.indexAddr rfl rfl Try.underlying22 Try.sizeOf45 (by omega) (by omega)) ?_)
      refine QW.v rfl rfl (Val.fieldAddr 0 rfl Try.underlying45 rfl rfl Try.sizeOf9) ?_
      refine QW.v rfl rfl (Val.loadO rfl Try.isAgg9 hb1 (by simp [ids]) (hr1 (k - 1) x1 hx2 0 _ rfl)) ?_
      refine QW.v rfl rfl (Val.fieldAddr 0 rfl Try.underlying45 rfl rfl Try.sizeOf9) ?_
      refine QW.v rfl rfl (Val.load rfl Try.isAgg9 (by repeat (first | exact .here | exact .inner .here | exact .inner (.inner .here) | refine .there ?_)) (by rfl)) ?_
      refine QW.v rfl rfl (Val.geStr rfl rfl) ?_
      refine QW.v rfl rfl (Val.pick_t rfl rfl) ?_
      refine QW.nil ?_
      refine PQ.seq ?_
      refine CW.cond rfl (fun h26 => ?_) (fun h26 => ?_)
      · replace h26 := bT h26
        have h26 : ¬ x1.key < x.key := by simpa using h26
        refine CW.seq ?_
        refine CW.region ?_
        refine LW.v rfl rfl (Val.assign rfl) ?_
        refine LW.nil ?_
        refine PQ.seq ?_
        refine CW.ret ?_
        refine PQ.in_ret ?_
        refine PQ.then_ret ?_
        refine PQ.then_ret ?_
        refine PQ.in_ret ?_
        refine PQ.then_ret ?_
        refine PQ.ret1 rfl rfl ?_
        intro w' hw; exact ⟨by rw [MB.no (by omega) hx2 hx1 h26], hw.below⟩
      · replace h26 := bF h26
        refine CW.skip ?_
        refine PQ.in_normal ?_
        refine PQ.seq ?_
        refine CW.region ?_
        refine LW.v rfl rfl (Val.ar rfl rfl rfl (IntWalk.i64_in _ (by omega))) ?_
        refine LW.v rfl rfl (Val.move rfl) ?_
        refine LW.nil ?_
        refine PQ.round (k + 1) ⟨by omega, hk2.step fun a c h8 h9 h10 => by rw [hx2] at h9; rw [hx1] at h10; cases h9; cases h10; simpa using h26⟩ (by omega) (by repeat (first | exact trivial | refine ⟨rfl, ?_⟩)) (by repeat (first | exact .nil | apply Pick.cons | exact .here | apply Ext.there))
    · replace h15 := bF h15
      refine QW.p rfl rfl ?_
      refine QW.p rfl rfl ?_
      refine QW.p rfl rfl ?_
      refine QW.p rfl rfl ?_
      refine QW.p rfl rfl ?_
      refine QW.p rfl rfl ?_
      refine QW.p rfl rfl ?_
      refine QW.p rfl rfl ?_
      refine QW.p rfl rfl ?_
      refine QW.p rfl rfl ?_
      refine QW.v rfl rfl (Val.pick_f rfl rfl) ?_
      refine QW.nil ?_
      refine PQ.seq ?_
      refine CW.cond_f rfl ?_
      refine CW.skip ?_
      refine PQ.in_normal ?_
      refine PQ.seq ?_
      refine CW.region ?_
      refine LW.v rfl rfl (Val.ar rfl rfl rfl (IntWalk.i64_in _ (by omega))) ?_
      refine LW.v rfl rfl (Val.move rfl) ?_
      refine LW.nil ?_
      refine PQ.round (k + 1) ⟨by omega, hk2.step fun a c h8 h9 h10 => by omega⟩ (by omega) (by repeat (first | exact trivial | refine ⟨rfl, ?_⟩)) (by repeat (first | exact .nil | apply Pick.cons | exact .here | apply Ext.there))
  · replace h9 := bF h9
    refine CW.exit ?_
    refine PQ.then_exit ?_
    refine PQ.then_exit ?_
    refine PQ.in_here ?_
    refine PQ.seq ?_
    refine CW.seq ?_
    refine CW.region ?_
    refine LW.v rfl rfl (Val.assign rfl) ?_
    refine LW.nil ?_
    refine PQ.seq ?_
    refine CW.ret ?_
    refine PQ.ret1 rfl rfl ?_
    intro w' hw; exact ⟨by rw [hk2.end (by omega)], hw.below⟩
theorem rmay_c (s : Sf) (A : ShA) (w : World) (hA : SfR w s A) (hl : A.1.length ≤ 100000) : Calls Try.prog 26 [.agg s.cells.toArray].toArray w fun e w' => e = .returned (.bool (mayB A.1)) ∧ Below w.heap.size w w' := by
  obtain ⟨⟨pa, pn, pc⟩, ⟨qa, qn, qc⟩⟩ := s
  obtain ⟨l, q⟩ := A
  obtain ⟨⟨hn1, h1⟩, ⟨hn2, h2⟩, hcp, hcq⟩ := hA
  simp only at hn1 h1 hn2 h2 hcp hcq hl
  subst hn1; subst hn2
  refine V.calls [] Try.func26 rfl Try.ntmps26 (Nat.le_of_ble_eq_true rfl) (V.sat_nil _) ?_
  refine CW.seq ?_
  refine CW.region ?_
  refine LW.e rfl rfl (Eff.boxA rfl) ?_
  intro b1 _
  refine LW.v rfl rfl (Val.assign rfl) ?_
  refine LW.nil ?_
  refine PQ.seq ?_
  refine CW.seq ?_
  refine CW.seq ?_
  refine CW.region ?_
  refine LW.v rfl rfl (Val.assign rfl) ?_
  refine LW.nil ?_
  refine PQ.seq ?_
  refine CW.block ?_
  refine CW.loop (γ := Nat) (fun k => [(1, .pointer (some ⟨b1, 0, none⟩)), (3, .int .i64 (k : Nat))]) (fun _ => [[(b1, .cells [.slice pa l.length pc, .slice qa q.length qc].toArray 25 (0, 0))]]) (fun k => 1 ≤ k ∧ k ≤ l.length + 1 ∧ MB l k) (fun k => l.length + 1 - k) (1) ⟨Nat.le_refl _, by omega, fun i x y h => absurd h (by omega)⟩ (by repeat (first | exact trivial | refine ⟨rfl, ?_⟩)) (by repeat (first | exact .nil | apply Pick.cons | exact .here | apply Ext.there)) ?_
  intro k
  rintro ⟨hk0, hk1, hk2⟩
  refine CW.seq ?_
  refine CW.seq ?_
  refine CW.region ?_
  refine LW.v rfl rfl (Val.move rfl) ?_
  refine LW.v rfl rfl (Val.fieldAddr 0 rfl Try.underlying25 rfl rfl Try.sizeOf22) ?_
  refine LW.v rfl rfl (Val.load rfl Try.isAgg22 (by repeat (first | exact .here | exact .inner .here | exact .inner (.inner .here) | refine .there ?_)) (by rfl)) ?_
  refine LW.v rfl rfl (Val.lenSl rfl Try.underlying22) ?_
  refine LW.v rfl rfl (Val.cmp rfl rfl rfl) ?_
  refine LW.nil ?_
  refine PQ.seq ?_
  refine CW.cond rfl (fun h8 => ?_) (fun h8 => ?_)
  · replace h8 := bT h8
    obtain ⟨bb1, o1, x, rfl, hb1, hx1, hr1⟩ := V.slAt_at h1 rfl (k := k) (by omega)
    obtain ⟨x1, hx2⟩ : ∃ x, l[k - 1]? = some x := ⟨l[k - 1]'(by omega), by simp⟩
    refine CW.skip ?_
    refine PQ.seq ?_
    refine CW.seq ?_
    refine CW.block ?_
    refine CW.seq ?_
    refine CW.quiet mixed (by kernel_rfl) ?_
    refine QW.v rfl rfl (Val.fieldAddr 0 rfl Try.underlying25 rfl rfl Try.sizeOf22) ?_
    refine QW.v rfl rfl (Val.load rfl Try.isAgg22 (by repeat (first | exact .here | exact .inner .here | exact .inner (.inner .here) | refine .there ?_)) (by rfl)) ?_
    refine QW.v rfl rfl (Val.move rfl) ?_
    refine QW.v rfl rfl (Val.ar rfl rfl rfl (IntWalk.i64_in _ (by omega))) ?_
    refine QW.re 14 (.int .i64 ((k - 1 : Nat) : Int)) rfl (by congr 1 <;> omega) ?_
    first | (refine QW.v rfl rfl (Val.indexAddrN rfl rfl Try.underlying22 Try.sizeOf45 (by omega)) ?_) | (refine QW.v rfl rfl (Val.indexAddr rfl rfl Try.underlying22 Try.sizeOf45 (by omega) (by omega)) ?_)
    refine QW.v rfl rfl (Val.fieldAddr 0 rfl Try.underlying45 rfl rfl Try.sizeOf9) ?_
    refine QW.v rfl rfl (Val.loadO rfl Try.isAgg9 hb1 (by simp [ids]) (hr1 (k - 1) x1 hx2 0 _ rfl)) ?_
    refine QW.v rfl rfl (Val.fieldAddr 0 rfl Try.underlying25 rfl rfl Try.sizeOf22) ?_
    refine QW.v rfl rfl (Val.load rfl Try.isAgg22 (by repeat (first | exact .here | exact .inner .here | exact .inner (.inner .here) | refine .there ?_)) (by rfl)) ?_
    refine QW.v rfl rfl (Val.move rfl) ?_
    first | (refine QW.v rfl rfl (Val.indexAddrN rfl rfl Try.underlying22 Try.sizeOf45 (by omega)) ?_) | (refine QW.v rfl rfl (Val.indexAddr rfl rfl Try.underlying22 Try.sizeOf45 (by omega) (by omega)) ?_)
    refine QW.v rfl rfl (Val.fieldAddr 0 rfl Try.underlying45 rfl rfl Try.sizeOf9) ?_
    refine QW.v rfl rfl (Val.loadO rfl Try.isAgg9 hb1 (by simp [ids]) (hr1 k x hx1 0 _ rfl)) ?_
    refine QW.v rfl rfl (Val.geStr rfl rfl) ?_
    refine QW.nil ?_
    refine PQ.seq ?_
    refine CW.cond rfl (fun h24 => ?_) (fun h24 => ?_)
    · replace h24 := bT h24
      have h24 : ¬ x1.key < x.key := by simpa using h24
      refine CW.seq ?_
      refine CW.region ?_
      refine LW.v rfl rfl (Val.assign rfl) ?_
      refine LW.nil ?_
      refine PQ.seq ?_
      refine CW.ret ?_
      refine PQ.in_ret ?_
      refine PQ.then_ret ?_
      refine PQ.then_ret ?_
      refine PQ.in_ret ?_
      refine PQ.then_ret ?_
      refine PQ.ret1 rfl rfl ?_
      intro w' hw; exact ⟨by rw [MB.no (by omega) hx2 hx1 h24], hw.below⟩
    · replace h24 := bF h24
      refine CW.skip ?_
      refine PQ.in_normal ?_
      refine PQ.seq ?_
      refine CW.region ?_
      refine LW.v rfl rfl (Val.move rfl) ?_
      refine LW.v rfl rfl (Val.ar rfl rfl rfl (IntWalk.i64_in _ (by omega))) ?_
      refine LW.v rfl rfl (Val.assign rfl) ?_
      refine LW.nil ?_
      refine PQ.round (k + 1) ⟨by omega, by omega, hk2.step fun a c h8 h9 h10 => by rw [hx2] at h9; rw [hx1] at h10; cases h9; cases h10; simpa using h24⟩ (by omega) (by repeat (first | exact trivial | refine ⟨rfl, ?_⟩)) (by repeat (first | exact .nil | apply Pick.cons | exact .here | apply Ext.there))
  · replace h8 := bF h8
    refine CW.exit ?_
    refine PQ.then_exit ?_
    refine PQ.then_exit ?_
    refine PQ.in_here ?_
    refine PQ.seq ?_
    refine CW.seq ?_
    refine CW.region ?_
    refine LW.v rfl rfl (Val.assign rfl) ?_
    refine LW.nil ?_
    refine PQ.seq ?_
    refine CW.ret ?_
    refine PQ.ret1 rfl rfl ?_
    intro w' hw; exact ⟨by rw [hk2.end (by omega)], hw.below⟩
/-- A store that is not great. -/
def GrOk (A : ShA) : Prop := (A.1.length ≤ 40 ∧ A.2.length ≤ 40) ∧ (∀ x ∈ A.1, x.key.length ≤ 600 ∧ x.val.length ≤ 600) ∧ ∀ x ∈ A.2, x.length ≤ 600
theorem great_c (s : Sf) (A : ShA) (w : World) (hA : SfR w s A) (hl : A.1.length ≤ 9223372036854775807 ∧ A.2.length ≤ 9223372036854775807) : Calls Try.prog 6 [.agg s.cells.toArray].toArray w fun e w' => ∃ z : Bool, (z = false → GrOk A) ∧ e = .returned (.bool z) ∧ Below w.heap.size w w' := by
  obtain ⟨⟨pa, pn, pc⟩, ⟨qa, qn, qc⟩⟩ := s
  obtain ⟨l, q⟩ := A
  obtain ⟨⟨hn1, h1⟩, ⟨hn2, h2⟩, hcp, hcq⟩ := hA
  simp only at hn1 h1 hn2 h2 hcp hcq hl
  subst hn1; subst hn2
  refine V.calls [] Try.func6 rfl Try.ntmps6 (Nat.le_of_ble_eq_true rfl) (V.sat_nil _) ?_
  refine CW.seq ?_
  refine CW.region ?_
  refine LW.e rfl rfl (Eff.boxA rfl) ?_
  intro b1 _
  refine LW.v rfl rfl (Val.assign rfl) ?_
  refine LW.nil ?_
  refine PQ.seq ?_
  refine CW.seq ?_
  refine CW.seq ?_
  refine CW.region ?_
  refine LW.v rfl rfl (Val.fieldAddr 0 rfl Try.underlying25 rfl rfl Try.sizeOf22) ?_
  refine LW.v rfl rfl (Val.load rfl Try.isAgg22 (by repeat (first | exact .here | exact .inner .here | exact .inner (.inner .here) | refine .there ?_)) (by rfl)) ?_
  refine LW.v rfl rfl (Val.lenSl rfl Try.underlying22) ?_
  refine LW.v rfl rfl (Val.cmp rfl rfl rfl) ?_
  refine LW.v rfl rfl (Val.move rfl) ?_
  refine LW.split (d := 9) rfl (fun h9 => ?_) (fun h9 => ?_)
  · replace h9 := bT h9
    refine LW.p rfl rfl ?_
    refine LW.p rfl rfl ?_
    refine LW.p rfl rfl ?_
    refine LW.p rfl rfl ?_
    refine LW.v rfl rfl (Val.pick_t rfl rfl) ?_
    refine LW.nil ?_
    refine PQ.seq ?_
    refine CW.cond_t rfl ?_
    refine CW.seq ?_
    refine CW.region ?_
    refine LW.v rfl rfl (Val.assign rfl) ?_
    refine LW.nil ?_
    refine PQ.seq ?_
    refine CW.ret ?_
    refine PQ.then_ret ?_
    refine PQ.ret1 rfl rfl ?_
    intro w' hw; exact ⟨true, (fun h => by cases h), rfl, hw.below⟩
  · replace h9 := bF h9
    have h9 : (l.length : Int) ≤ 40 := h9
    refine LW.v rfl rfl (Val.fieldAddr 1 rfl Try.underlying25 rfl rfl Try.sizeOf23) ?_
    refine LW.v rfl rfl (Val.load rfl Try.isAgg23 (by repeat (first | exact .here | exact .inner .here | exact .inner (.inner .here) | refine .there ?_)) (by rfl)) ?_
    refine LW.v rfl rfl (Val.lenSl rfl Try.underlying23) ?_
    refine LW.v rfl rfl (Val.cmp rfl rfl rfl) ?_
    refine LW.v rfl rfl (Val.pick_f rfl rfl) ?_
    refine LW.nil ?_
    refine PQ.seq ?_
    refine CW.cond rfl (fun h14 => ?_) (fun h14 => ?_)
    · replace h14 := bT h14
      refine CW.seq ?_
      refine CW.region ?_
      refine LW.v rfl rfl (Val.assign rfl) ?_
      refine LW.nil ?_
      refine PQ.seq ?_
      refine CW.ret ?_
      refine PQ.then_ret ?_
      refine PQ.ret1 rfl rfl ?_
      intro w' hw; exact ⟨true, (fun h => by cases h), rfl, hw.below⟩
    · replace h14 := bF h14
      have h14 : (q.length : Int) ≤ 40 := h14
      refine CW.skip ?_
      refine PQ.seq ?_
      refine CW.seq ?_
      refine CW.seq ?_
      refine CW.region ?_
      refine LW.v rfl rfl (Val.assign rfl) ?_
      refine LW.nil ?_
      refine PQ.seq ?_
      refine CW.block ?_
      refine CW.loop (γ := Nat) (fun k => [(1, .pointer (some ⟨b1, 0, none⟩)), (3, .int .i64 (k : Nat))]) (fun _ => [[(b1, .cells [.slice pa l.length pc, .slice qa q.length qc].toArray 25 (0, 0))]]) (fun k => k ≤ l.length ∧ ∀ (i : Nat) (x : Pr), i < k → l[i]? = some x → x.key.length ≤ 600 ∧ x.val.length ≤ 600) (fun k => l.length - k) (0) ⟨Nat.zero_le _, fun i x h => absurd h (Nat.not_lt_zero _)⟩ (by repeat (first | exact trivial | refine ⟨rfl, ?_⟩)) (by repeat (first | exact .nil | apply Pick.cons | exact .here | apply Ext.there)) ?_
      intro k
      rintro ⟨hk1, hk2⟩
      refine CW.seq ?_
      refine CW.seq ?_
      refine CW.region ?_
      refine LW.v rfl rfl (Val.move rfl) ?_
      refine LW.v rfl rfl (Val.fieldAddr 0 rfl Try.underlying25 rfl rfl Try.sizeOf22) ?_
      refine LW.v rfl rfl (Val.load rfl Try.isAgg22 (by repeat (first | exact .here | exact .inner .here | exact .inner (.inner .here) | refine .there ?_)) (by rfl)) ?_
      refine LW.v rfl rfl (Val.lenSl rfl Try.underlying22) ?_
      refine LW.v rfl rfl (Val.cmp rfl rfl rfl) ?_
      refine LW.nil ?_
      refine PQ.seq ?_
      refine CW.cond rfl (fun h19 => ?_) (fun h19 => ?_)
      · replace h19 := bT h19
        obtain ⟨bb1, o1, x, rfl, hb1, hx1, hr1⟩ := V.slAt_at h1 rfl (k := k) (by omega)
        refine CW.skip ?_
        refine PQ.seq ?_
        refine CW.seq ?_
        refine CW.block ?_
        refine CW.seq ?_
        refine CW.region ?_
        refine LW.v rfl rfl (Val.fieldAddr 0 rfl Try.underlying25 rfl rfl Try.sizeOf22) ?_
        refine LW.v rfl rfl (Val.load rfl Try.isAgg22 (by repeat (first | exact .here | exact .inner .here | exact .inner (.inner .here) | refine .there ?_)) (by rfl)) ?_
        refine LW.v rfl rfl (Val.move rfl) ?_
        first | (refine LW.v rfl rfl (Val.indexAddrN rfl rfl Try.underlying22 Try.sizeOf45 (by omega)) ?_) | (refine LW.v rfl rfl (Val.indexAddr rfl rfl Try.underlying22 Try.sizeOf45 (by omega) (by omega)) ?_)
        refine LW.v rfl rfl (Val.fieldAddr 0 rfl Try.underlying45 rfl rfl Try.sizeOf9) ?_
        refine LW.v rfl rfl (Val.loadO rfl Try.isAgg9 hb1 (by simp [ids]) (hr1 k x hx1 0 _ rfl)) ?_
        refine LW.v rfl rfl (Val.lenStr rfl Try.underlying9) ?_
        refine LW.v rfl rfl (Val.cmp rfl rfl rfl) ?_
        refine LW.v rfl rfl (Val.move rfl) ?_
        refine LW.split (d := 30) rfl (fun h30 => ?_) (fun h30 => ?_)
        · replace h30 := bT h30
          refine LW.p rfl rfl ?_
          refine LW.p rfl rfl ?_
          refine LW.p rfl rfl ?_
          refine LW.p rfl rfl ?_
          refine LW.p rfl rfl ?_
          refine LW.p rfl rfl ?_
          refine LW.p rfl rfl ?_
          refine LW.p rfl rfl ?_
          refine LW.v rfl rfl (Val.pick_t rfl rfl) ?_
          refine LW.nil ?_
          refine PQ.seq ?_
          refine CW.cond_t rfl ?_
          refine CW.seq ?_
          refine CW.region ?_
          refine LW.v rfl rfl (Val.assign rfl) ?_
          refine LW.nil ?_
          refine PQ.seq ?_
          refine CW.ret ?_
          refine PQ.in_ret ?_
          refine PQ.then_ret ?_
          refine PQ.then_ret ?_
          refine PQ.in_ret ?_
          refine PQ.then_ret ?_
          refine PQ.ret1 rfl rfl ?_
          intro w' hw; exact ⟨true, (fun h => by cases h), rfl, hw.below⟩
        · replace h30 := bF h30
          refine LW.v rfl rfl (Val.fieldAddr 0 rfl Try.underlying25 rfl rfl Try.sizeOf22) ?_
          refine LW.v rfl rfl (Val.load rfl Try.isAgg22 (by repeat (first | exact .here | exact .inner .here | exact .inner (.inner .here) | refine .there ?_)) (by rfl)) ?_
          refine LW.v rfl rfl (Val.move rfl) ?_
          first | (refine LW.v rfl rfl (Val.indexAddrN rfl rfl Try.underlying22 Try.sizeOf45 (by omega)) ?_) | (refine LW.v rfl rfl (Val.indexAddr rfl rfl Try.underlying22 Try.sizeOf45 (by omega) (by omega)) ?_)
          refine LW.v rfl rfl (Val.fieldAddr 1 rfl Try.underlying45 rfl rfl Try.sizeOf9) ?_
          refine LW.v rfl rfl (Val.loadO rfl Try.isAgg9 hb1 (by simp [ids]) (hr1 k x hx1 1 _ rfl)) ?_
          refine LW.v rfl rfl (Val.lenStr rfl Try.underlying9) ?_
          refine LW.v rfl rfl (Val.cmp rfl rfl rfl) ?_
          refine LW.v rfl rfl (Val.pick_f rfl rfl) ?_
          refine LW.nil ?_
          refine PQ.seq ?_
          refine CW.cond rfl (fun h39 => ?_) (fun h39 => ?_)
          · replace h39 := bT h39
            refine CW.seq ?_
            refine CW.region ?_
            refine LW.v rfl rfl (Val.assign rfl) ?_
            refine LW.nil ?_
            refine PQ.seq ?_
            refine CW.ret ?_
            refine PQ.in_ret ?_
            refine PQ.then_ret ?_
            refine PQ.then_ret ?_
            refine PQ.in_ret ?_
            refine PQ.then_ret ?_
            refine PQ.ret1 rfl rfl ?_
            intro w' hw; exact ⟨true, (fun h => by cases h), rfl, hw.below⟩
          · replace h39 := bF h39
            refine CW.skip ?_
            refine PQ.in_normal ?_
            refine PQ.seq ?_
            refine CW.region ?_
            refine LW.v rfl rfl (Val.move rfl) ?_
            refine LW.v rfl rfl (Val.ar rfl rfl rfl (IntWalk.i64_in _ (by omega))) ?_
            refine LW.v rfl rfl (Val.assign rfl) ?_
            refine LW.nil ?_
            refine PQ.round (k + 1) ⟨by omega, fun i a h8 h9 => by
              by_cases e : i = k
              · subst e; rw [hx1] at h9; cases h9; omega
              · exact hk2 i a (by omega) h9⟩ (by omega) (by repeat (first | exact trivial | refine ⟨rfl, ?_⟩)) (by repeat (first | exact .nil | apply Pick.cons | exact .here | apply Ext.there))
      · replace h19 := bF h19
        have h19 : (l.length : Int) ≤ (k : Int) := h19
        refine CW.exit ?_
        refine PQ.then_exit ?_
        refine PQ.then_exit ?_
        refine PQ.in_here ?_
        refine PQ.seq ?_
        refine CW.seq ?_
        refine CW.seq ?_
        refine CW.region ?_
        refine LW.v rfl rfl (Val.assign rfl) ?_
        refine LW.nil ?_
        refine PQ.seq ?_
        refine CW.block ?_
        have hke := hk1
        refine CW.loop (γ := Nat) (fun k => [(1, .pointer (some ⟨b1, 0, none⟩)), (4, .int .i64 (k : Nat))]) (fun _ => [[(b1, .cells [.slice pa l.length pc, .slice qa q.length qc].toArray 25 (0, 0))]]) (fun k => k ≤ q.length ∧ ∀ (i : Nat) (x : List UInt8), i < k → q[i]? = some x → x.length ≤ 600) (fun k => q.length - k) (0) ⟨Nat.zero_le _, fun i x h => absurd h (Nat.not_lt_zero _)⟩ (by repeat (first | exact trivial | refine ⟨rfl, ?_⟩)) (by repeat (first | exact .nil | apply Pick.cons | exact .here | apply Ext.there)) ?_
        intro k
        rintro ⟨hj1, hj2⟩
        refine CW.seq ?_
        refine CW.seq ?_
        refine CW.region ?_
        refine LW.v rfl rfl (Val.move rfl) ?_
        refine LW.v rfl rfl (Val.fieldAddr 1 rfl Try.underlying25 rfl rfl Try.sizeOf23) ?_
        refine LW.v rfl rfl (Val.load rfl Try.isAgg23 (by repeat (first | exact .here | exact .inner .here | exact .inner (.inner .here) | refine .there ?_)) (by rfl)) ?_
        refine LW.v rfl rfl (Val.lenSl rfl Try.underlying23) ?_
        refine LW.v rfl rfl (Val.cmp rfl rfl rfl) ?_
        refine LW.nil ?_
        refine PQ.seq ?_
        refine CW.cond rfl (fun h44 => ?_) (fun h44 => ?_)
        · replace h44 := bT h44
          obtain ⟨bb1, o1, x, rfl, hb1, hx1, hr1⟩ := V.slAt_at h2 rfl (k := k) (by omega)
          refine CW.skip ?_
          refine PQ.seq ?_
          refine CW.seq ?_
          refine CW.block ?_
          refine CW.seq ?_
          refine CW.region ?_
          refine LW.v rfl rfl (Val.fieldAddr 1 rfl Try.underlying25 rfl rfl Try.sizeOf23) ?_
          refine LW.v rfl rfl (Val.load rfl Try.isAgg23 (by repeat (first | exact .here | exact .inner .here | exact .inner (.inner .here) | refine .there ?_)) (by rfl)) ?_
          refine LW.v rfl rfl (Val.move rfl) ?_
          first | (refine LW.v rfl rfl (Val.indexAddrN rfl rfl Try.underlying23 Try.sizeOf9 (by omega)) ?_) | (refine LW.v rfl rfl (Val.indexAddr rfl rfl Try.underlying23 Try.sizeOf9 (by omega) (by omega)) ?_)
          refine LW.v rfl rfl (Val.loadO rfl Try.isAgg9 hb1 (by simp [ids]) (hr1 k x hx1 0 _ rfl)) ?_
          refine LW.v rfl rfl (Val.lenStr rfl Try.underlying9) ?_
          refine LW.v rfl rfl (Val.cmp rfl rfl rfl) ?_
          refine LW.nil ?_
          refine PQ.seq ?_
          refine CW.cond rfl (fun h53 => ?_) (fun h53 => ?_)
          · replace h53 := bT h53
            refine CW.seq ?_
            refine CW.region ?_
            refine LW.v rfl rfl (Val.assign rfl) ?_
            refine LW.nil ?_
            refine PQ.seq ?_
            refine CW.ret ?_
            refine PQ.in_ret ?_
            refine PQ.then_ret ?_
            refine PQ.then_ret ?_
            refine PQ.in_ret ?_
            refine PQ.then_ret ?_
            refine PQ.ret1 rfl rfl ?_
            intro w' hw; exact ⟨true, (fun h => by cases h), rfl, hw.below⟩
          · replace h53 := bF h53
            refine CW.skip ?_
            refine PQ.in_normal ?_
            refine PQ.seq ?_
            refine CW.region ?_
            refine LW.v rfl rfl (Val.move rfl) ?_
            refine LW.v rfl rfl (Val.ar rfl rfl rfl (IntWalk.i64_in _ (by omega))) ?_
            refine LW.v rfl rfl (Val.assign rfl) ?_
            refine LW.nil ?_
            refine PQ.round (k + 1) ⟨by omega, fun i a h8 h9 => by
              by_cases e : i = k
              · subst e; rw [hx1] at h9; cases h9; omega
              · exact hj2 i a (by omega) h9⟩ (by omega) (by repeat (first | exact trivial | refine ⟨rfl, ?_⟩)) (by repeat (first | exact .nil | apply Pick.cons | exact .here | apply Ext.there))
        · replace h44 := bF h44
          have h44 : (q.length : Int) ≤ (k : Int) := h44
          refine CW.exit ?_
          refine PQ.then_exit ?_
          refine PQ.then_exit ?_
          refine PQ.in_here ?_
          refine PQ.seq ?_
          refine CW.seq ?_
          refine CW.region ?_
          refine LW.v rfl rfl (Val.assign rfl) ?_
          refine LW.nil ?_
          refine PQ.seq ?_
          refine CW.ret ?_
          refine PQ.ret1 rfl rfl ?_
          intro w' hw; exact ⟨false, fun _ => ⟨⟨by show l.length ≤ 40; omega, by show q.length ≤ 40; omega⟩, fun x hx => by obtain ⟨i, hi⟩ := List.mem_iff_getElem?.1 hx; exact hk2 i x (by have := (List.getElem?_eq_some_iff.1 hi).1; simp only at this; omega) hi, fun x hx => by obtain ⟨i, hi⟩ := List.mem_iff_getElem?.1 hx; exact hj2 i x (by have := (List.getElem?_eq_some_iff.1 hi).1; simp only at this; omega) hi⟩, rfl, hw.below⟩
end Go.Proofs.Ytipnpnkniihdjaa
