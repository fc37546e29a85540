/- The document's store: a key's value, a key taken away. -/
import Derived.Test.YtipnpnkniihdjaaTwJ
import Derived.Lib.Hide
namespace Go.Proofs.Ytipnpnkniihdjaa
open Go Go.RowKit V
set_option linter.unusedVariables false
set_option maxRecDepth 100000
open V (str byC ownV ownG ownS ownOk)
def getF : List Pr → List UInt8 → Option (List UInt8)
  | [], _ => none
  | x :: r, k => if x.key = k then some x.val else getF r k
theorem getF_yes {l : List Pr} {j : Nat} {x : Pr} {k : List UInt8} (hx : l[j]? = some x) (h : x.key = k) : getF (l.drop j) k = some x.val := by rw [drop_at hx, getF, if_pos h]
theorem getF_no {l : List Pr} {j : Nat} {x : Pr} {k : List UInt8} (hx : l[j]? = some x) (h : x.key ≠ k) : getF (l.drop j) k = getF (l.drop (j + 1)) k := by rw [drop_at hx, getF, if_neg h]
theorem rget_c (s : Sf) (A : ShA) (k : List UInt8) (w : World) (hA : SfR w s A) (hl : A.1.length ≤ 1000 ∧ A.2.length ≤ 1000) : Calls Try.prog 47 [.agg s.cells.toArray, str k].toArray w fun e w' => e = .returned (.tuple #[str ((getF A.1 k).getD []), .bool (getF A.1 k).isSome]) ∧ Below w.heap.size w w' := by
  obtain ⟨⟨pa, pn, pc⟩, ⟨qa, qn, qc⟩⟩ := s
  obtain ⟨l, q⟩ := A
  obtain ⟨⟨hn1, h1⟩, ⟨hn2, h2⟩, hcp, hcq⟩ := hA
  simp only at hn1 h1 hn2 h2 hcp hcq hl ⊢
  subst hn1; subst hn2
  refine V.calls [] Try.func47 rfl Try.ntmps47 (Nat.le_of_ble_eq_true rfl) (V.sat_nil _) ?_
  refine CW.seq ?_
  refine CW.region ?_
  refine LW.e rfl rfl (Eff.boxA rfl) ?_
  intro b2 _
  refine LW.v rfl rfl (Val.assign rfl) ?_
  refine LW.v rfl rfl (Val.assign rfl) ?_
  refine LW.nil ?_
  refine PQ.seq ?_
  refine CW.seq ?_
  refine CW.seq ?_
  refine CW.region ?_
  refine LW.v rfl rfl (Val.assign rfl) ?_
  refine LW.nil ?_
  refine PQ.seq ?_
  refine CW.block ?_
  refine CW.loop (γ := Nat) (fun j => [(1, str k), (2, .pointer (some ⟨b2, 0, none⟩)), (6, .int .i64 (j : Nat))]) (fun _ => [[(b2, .cells [.slice pa l.length pc, .slice qa q.length qc].toArray 25 (0, 0))]]) (fun j => j ≤ l.length ∧ getF l k = getF (l.drop j) k) (fun j => l.length - j) (0) ⟨Nat.zero_le _, by simp⟩ (by repeat (first | exact trivial | refine ⟨rfl, ?_⟩)) (by repeat (first | exact .nil | apply Pick.cons | exact .here | apply Ext.there)) ?_
  intro j
  rintro ⟨hj1, hj2⟩
  refine CW.seq ?_
  refine CW.seq ?_
  refine CW.region ?_
  refine LW.v rfl rfl (Val.move rfl) ?_
  refine LW.v rfl rfl (Val.fieldAddr 0 rfl Try.underlying25 rfl rfl Try.sizeOf22) ?_
  refine LW.v rfl rfl (Val.load rfl Try.isAgg22 (by repeat (first | exact .here | exact .inner .here | exact .inner (.inner .here) | refine .there ?_)) (by rfl)) ?_
  refine LW.v rfl rfl (Val.lenSl rfl Try.underlying22) ?_
  refine LW.v rfl rfl (Val.cmp rfl rfl rfl) ?_
  refine LW.nil ?_
  refine PQ.seq ?_
  refine CW.cond rfl (fun h11 => ?_) (fun h11 => ?_)
  · replace h11 := bT h11
    obtain ⟨bb1, o1, x, rfl, hb1, hx1, hr1⟩ := V.slAt_at h1 rfl (k := j) (by omega)
    refine CW.skip ?_
    refine PQ.seq ?_
    refine CW.seq ?_
    refine CW.block ?_
    refine CW.seq ?_
    refine CW.region ?_
    refine LW.v rfl rfl (Val.fieldAddr 0 rfl Try.underlying25 rfl rfl Try.sizeOf22) ?_
    refine LW.v rfl rfl (Val.load rfl Try.isAgg22 (by repeat (first | exact .here | exact .inner .here | exact .inner (.inner .here) | refine .there ?_)) (by rfl)) ?_
    refine LW.v rfl rfl (Val.move rfl) ?_
    first | (refine LW.v rfl rfl (Val.indexAddrN rfl rfl Try.underlying22 Try.sizeOf45 (by omega)) ?_) | (refine LW.v rfl rfl (Val.indexAddr rfl rfl Try.underlying22 Try.sizeOf45 (by omega) (by omega)) ?_)
    refine LW.v rfl rfl (Val.fieldAddr 0 rfl Try.underlying45 rfl rfl Try.sizeOf9) ?_
    refine LW.v rfl rfl (Val.loadO rfl Try.isAgg9 hb1 (by simp [ids]) (hr1 j x hx1 0 _ rfl)) ?_
    refine LW.v rfl rfl (Val.move rfl) ?_
    refine LW.v rfl rfl (Val.eqStr rfl rfl) ?_
    refine LW.nil ?_
    refine PQ.seq ?_
    refine CW.cond rfl (fun h21 => ?_) (fun h21 => ?_)
    · replace h21 := bT h21
      have h21 : x.key = k := h21
      refine CW.seq ?_
      refine CW.region ?_
      refine LW.v rfl rfl (Val.fieldAddr 0 rfl Try.underlying25 rfl rfl Try.sizeOf22) ?_
      refine LW.v rfl rfl (Val.load rfl Try.isAgg22 (by repeat (first | exact .here | exact .inner .here | exact .inner (.inner .here) | refine .there ?_)) (by rfl)) ?_
      refine LW.v rfl rfl (Val.move rfl) ?_
      first | (refine LW.v rfl rfl (Val.indexAddrN rfl rfl Try.underlying22 Try.sizeOf45 (by omega)) ?_) | (refine LW.v rfl rfl (Val.indexAddr rfl rfl Try.underlying22 Try.sizeOf45 (by omega) (by omega)) ?_)
      refine LW.v rfl rfl (Val.fieldAddr 1 rfl Try.underlying45 rfl rfl Try.sizeOf9) ?_
      refine LW.v rfl rfl (Val.loadO rfl Try.isAgg9 hb1 (by simp [ids]) (hr1 j x hx1 1 _ rfl)) ?_
      refine LW.v rfl rfl (Val.assign rfl) ?_
      refine LW.v rfl rfl (Val.assign rfl) ?_
      refine LW.nil ?_
      refine PQ.seq ?_
      refine CW.ret ?_
      refine PQ.in_ret ?_
      refine PQ.then_ret ?_
      refine PQ.then_ret ?_
      refine PQ.in_ret ?_
      refine PQ.then_ret ?_
      refine PQ.ret2 rfl rfl rfl ?_
      intro w' hw; exact ⟨by rw [hj2, getF_yes hx1 h21]; rfl, hw.below⟩
    · replace h21 := bF h21
      have h21 : x.key ≠ k := h21
      refine CW.skip ?_
      refine PQ.in_normal ?_
      refine PQ.seq ?_
      refine CW.region ?_
      refine LW.v rfl rfl (Val.move rfl) ?_
      refine LW.v rfl rfl (Val.ar rfl rfl rfl (IntWalk.i64_in _ (by omega))) ?_
      refine LW.v rfl rfl (Val.assign rfl) ?_
      refine LW.nil ?_
      refine PQ.round (j + 1) ⟨by omega, by rw [hj2, getF_no hx1 h21]⟩ (by omega) (by repeat (first | exact trivial | refine ⟨rfl, ?_⟩)) (by repeat (first | exact .nil | apply Pick.cons | exact .here | apply Ext.there))
  · replace h11 := bF h11
    refine CW.exit ?_
    refine PQ.then_exit ?_
    refine PQ.then_exit ?_
    refine PQ.in_here ?_
    refine PQ.seq ?_
    refine CW.seq ?_
    refine CW.region ?_
    refine LW.v rfl rfl (Val.assign rfl) ?_
    refine LW.v rfl rfl (Val.assign rfl) ?_
    refine LW.nil ?_
    refine PQ.seq ?_
    refine CW.ret ?_
    refine PQ.ret2 rfl rfl rfl ?_
    intro w' hw; exact ⟨by rw [hj2, show l.drop j = [] from List.drop_eq_nil_iff.2 (by omega)]; rfl, hw.below⟩
end Go.Proofs.Ytipnpnkniihdjaa
