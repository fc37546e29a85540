/- Copies of stores. -/
import Derived.Test.YtipnpnkniihdjaaTwG
import Derived.Lib.Hide
namespace Go.Proofs.Ytipnpnkniihdjaa
open Go Go.RowKit V
set_option linter.unusedVariables false
set_option maxRecDepth 100000
open V (str byC ownV ownG ownS ownOk)
/-- A store in blocks of its own. -/
def OwSh (A : ShA) (y : V.OwnO × V.OwnO) : Prop := ownOk 2 A.1.length (A.1.flatMap prC) y.1 ∧ ownOk 1 A.2.length (A.2.flatMap stE) y.2
def owC (A : ShA) (y : V.OwnO × V.OwnO) : List Value := [ownV A.1.length y.1, ownV A.2.length y.2]
theorem copied_c (s : Sf) (A : ShA) (w : World) (hA : SfR w s A) (hl : A.1.length ≤ 1000 ∧ A.2.length ≤ 1000) : Calls Try.prog 21 [.agg s.cells.toArray].toArray w fun e w' => ∃ y : V.OwnO × V.OwnO, OwSh A y ∧ e = .returned (.agg (owC A y).toArray) ∧ Hp ⟨w, []⟩ [ownG 45 (A.1.flatMap prC) y.1, ownG 9 (A.2.flatMap stE) y.2] w' := by
  obtain ⟨⟨pa, pn, pc⟩, ⟨qa, qn, qc⟩⟩ := s
  obtain ⟨l, q⟩ := A
  obtain ⟨⟨hn1, h1⟩, ⟨hn2, h2⟩, hcp, hcq⟩ := hA
  simp only at hn1 h1 hn2 h2 hcp hcq hl
  subst hn1; subst hn2
  refine V.calls [] Try.func21 rfl Try.ntmps21 (Nat.le_of_ble_eq_true rfl) (V.sat_nil _) ?_
  refine CW.seq ?_
  refine CW.region ?_
  refine LW.e rfl rfl (Eff.boxA rfl) ?_
  intro b1 _
  refine LW.e rfl rfl (Eff.allocA (by exact Try.zeroValue25)) ?_
  intro b2 _
  refine LW.nil ?_
  refine PQ.seq ?_
  refine CW.seq ?_
  refine CW.regJoin (fun y : V.OwnO × V.OwnO => OwSh (l, q) y) (fun _ => [(1, .pointer (some ⟨b1, 0, none⟩)), (2, .pointer (some ⟨b2, 0, none⟩))]) (fun y => [[(b1, .cells [.slice pa l.length pc, .slice qa q.length qc].toArray 25 (0, 0))], [(b2, .cells (owC (l, q) y).toArray 25 (0, 0))], ownG 45 (l.flatMap prC) y.1, ownG 9 (q.flatMap stE) y.2]) ?_ ?_
  · refine CW.drawn ([[(b1, .cells [.slice pa l.length pc, .slice qa q.length qc].toArray 25 (0, 0))]]) mixed (by repeat (first | exact .nil | apply Pick.cons | exact .here | apply Ext.there)) ?_
    refine RW.v 0 rfl (by kernel_rfl) (by kernel_rfl) (by kernel_rfl) (fun _ _ _ h => h) rfl rfl (Val.fieldAddr 0 rfl Try.underlying25 rfl rfl Try.sizeOf22) ?_
    refine RW.v 1 rfl (by kernel_rfl) (by kernel_rfl) (by kernel_rfl) (fun _ _ _ h => h) rfl rfl (Val.load rfl Try.isAgg22 (by repeat (first | exact .here | exact .inner .here | exact .inner (.inner .here) | refine .there ?_)) (by rfl)) ?_
    refine RW.v 3 rfl (by kernel_rfl) (by kernel_rfl) (by kernel_rfl) (fun _ _ _ h => h) rfl rfl (Val.fieldAddr 1 rfl Try.underlying25 rfl rfl Try.sizeOf23) ?_
    refine RW.v 4 rfl (by kernel_rfl) (by kernel_rfl) (by kernel_rfl) (fun _ _ _ h => h) rfl rfl (Val.load rfl Try.isAgg23 (by repeat (first | exact .here | exact .inner .here | exact .inner (.inner .here) | refine .there ?_)) (by rfl)) ?_
    refine RW.e 2 rfl (by kernel_rfl) rfl rfl (Eff.callM ([]) .nil rfl Try.call28 (fun w hw hs0 => cloneP_c l _ _ _ rfl hl.1 w (hw.slAt h1 (by simp [ids])))) (fun x => ⟨_, (by repeat (first | exact .nil | apply Pick.cons | exact .here | apply Ext.there))⟩) ?_
    intro yp hyp
    refine RW.e 5 rfl (by kernel_rfl) rfl rfl (Eff.callM ([]) .nil rfl Try.call29 (fun w hw hs0 => cloneS_c q _ _ _ rfl hl.2 w (hw.slAt h2 (by simp [ids])))) (fun x => ⟨_, (by repeat (first | exact .nil | apply Pick.cons | exact .here | apply Ext.there))⟩) ?_
    intro yq hyq
    refine RW.v 6 rfl (by kernel_rfl) (by kernel_rfl) (by kernel_rfl) (fun _ _ _ h => h) rfl rfl (Val.build [ownV l.length yp, ownV q.length yq] Try.zeroValue25 Try.underlying25 places25 rfl (by rcases yp with _ | ⟨_, _, _⟩ <;> rcases yq with _ | ⟨_, _, _⟩ <;> rfl)) ?_
    refine RW.eN 7 rfl (by kernel_rfl) rfl (Eff.storeW (cs := owC (l, q) (yp, yq)) rfl rfl (by repeat (first | exact .here | exact .inner .here | exact .inner (.inner .here) | apply Upd.there)) (by rfl) Try.sizeOf25 (by simp [owC, V.ownV_one])) (fun x => ⟨_, (by repeat (first | exact .nil | apply Pick.cons | exact .here | apply Ext.there))⟩) ?_
    intro _ _
    refine RW.done (by kernel_rfl) ?_
    refine PQ.joined ((yp, yq)) (⟨hyp, hyq⟩) (by repeat (first | exact trivial | refine ⟨rfl, ?_⟩)) (by repeat (first | exact .nil | apply Pick.cons | exact .here | apply Ext.there))
  · rintro ⟨yp, yq⟩ ⟨hyp, hyq⟩
    refine PQ.seq ?_
    refine CW.ret ?_
    refine V.PQ.retC rfl rfl (by repeat (first | exact .here | exact .inner .here | exact .inner (.inner .here) | refine .there ?_)) Try.isAgg25 (by exact Try.sizeOf25) ?_
    intro w' hw; exact ⟨(yp, yq), ⟨hyp, hyq⟩, rfl, hw.pick (by repeat (first | exact .nil | apply Pick.cons | exact .here | apply Ext.there))⟩
theorem copyShelf_c (s : Sf) (A : ShA) (w : World) (hA : SfR w s A) (hl : A.1.length ≤ 1000 ∧ A.2.length ≤ 1000) : Calls Try.prog 12 [.agg s.cells.toArray].toArray w fun e w' => ∃ y : V.OwnO × V.OwnO, OwSh A y ∧ e = .returned (.agg (owC A y).toArray) ∧ Hp ⟨w, []⟩ [ownG 45 (A.1.flatMap prC) y.1, ownG 9 (A.2.flatMap stE) y.2] w' := by
  obtain ⟨⟨pa, pn, pc⟩, ⟨qa, qn, qc⟩⟩ := s
  obtain ⟨l, q⟩ := A
  obtain ⟨⟨hn1, h1⟩, ⟨hn2, h2⟩, hcp, hcq⟩ := hA
  simp only at hn1 h1 hn2 h2 hcp hcq hl
  subst hn1; subst hn2
  refine V.calls [] Try.func12 rfl Try.ntmps12 (Nat.le_of_ble_eq_true rfl) (V.sat_nil _) ?_
  refine CW.seq ?_
  refine CW.region ?_
  refine LW.e rfl rfl (Eff.boxA rfl) ?_
  intro b1 _
  refine LW.e rfl rfl (Eff.allocA (by exact Try.zeroValue25)) ?_
  intro b2 _
  refine LW.nil ?_
  refine PQ.seq ?_
  refine CW.seq ?_
  refine CW.regJoin (fun y : V.OwnO × V.OwnO => OwSh (l, q) y) (fun _ => [(1, .pointer (some ⟨b1, 0, none⟩)), (2, .pointer (some ⟨b2, 0, none⟩))]) (fun y => [[(b1, .cells [.slice pa l.length pc, .slice qa q.length qc].toArray 25 (0, 0))], [(b2, .cells (owC (l, q) y).toArray 25 (0, 0))], ownG 45 (l.flatMap prC) y.1, ownG 9 (q.flatMap stE) y.2]) ?_ ?_
  · refine CW.drawn ([[(b1, .cells [.slice pa l.length pc, .slice qa q.length qc].toArray 25 (0, 0))]]) mixed (by repeat (first | exact .nil | apply Pick.cons | exact .here | apply Ext.there)) ?_
    refine RW.v 0 rfl (by kernel_rfl) (by kernel_rfl) (by kernel_rfl) (fun _ _ _ h => h) rfl rfl (Val.fieldAddr 0 rfl Try.underlying25 rfl rfl Try.sizeOf22) ?_
    refine RW.v 1 rfl (by kernel_rfl) (by kernel_rfl) (by kernel_rfl) (fun _ _ _ h => h) rfl rfl (Val.load rfl Try.isAgg22 (by repeat (first | exact .here | exact .inner .here | exact .inner (.inner .here) | refine .there ?_)) (by rfl)) ?_
    refine RW.v 3 rfl (by kernel_rfl) (by kernel_rfl) (by kernel_rfl) (fun _ _ _ h => h) rfl rfl (Val.fieldAddr 1 rfl Try.underlying25 rfl rfl Try.sizeOf23) ?_
    refine RW.v 4 rfl (by kernel_rfl) (by kernel_rfl) (by kernel_rfl) (fun _ _ _ h => h) rfl rfl (Val.load rfl Try.isAgg23 (by repeat (first | exact .here | exact .inner .here | exact .inner (.inner .here) | refine .there ?_)) (by rfl)) ?_
    refine RW.e 2 rfl (by kernel_rfl) rfl rfl (Eff.appendAny (l.flatMap prC) (sz := 2) (bytes := 32) (z := .agg #[.string ⟨#[]⟩, .string ⟨#[]⟩]) (xs := []) (m0 := 0) (o := none) (m := l.length) (pk := []) rfl rfl Try.underlying22 (by kernel_rfl) rfl (by omega) .nil rfl ⟨rfl, rfl⟩ (V.flatMap_len prC_len _) (fun hm0 => by obtain ⟨b8, o8, h8, h9⟩ := sl_range prC_len h1 hm0; exact ⟨b8, o8, h8, fun w hw => h9 w hw⟩) (all_one prC_one _) (by omega) (by omega)) (fun x => ⟨_, (by repeat (first | exact .nil | apply Pick.cons | exact .here | apply Ext.there))⟩) ?_
    intro yp hyp0
    have hyp : ownOk 2 l.length (l.flatMap prC) yp := by simpa using hyp0
    rw [List.nil_append, Nat.zero_add]
    refine RW.e 5 rfl (by kernel_rfl) rfl rfl (Eff.appendAny (q.flatMap stE) (sz := 1) (bytes := 16) (z := .string ⟨#[]⟩) (xs := []) (m0 := 0) (o := none) (m := q.length) (pk := []) rfl rfl Try.underlying23 (by kernel_rfl) rfl (by omega) .nil rfl ⟨rfl, rfl⟩ (V.flatMap_len stE_len _) (fun hm0 => by obtain ⟨b8, o8, h8, h9⟩ := sl_range stE_len h2 hm0; exact ⟨b8, o8, h8, fun w hw => h9 w hw⟩) (all_one stE_one _) (by omega) (by omega)) (fun x => ⟨_, (by repeat (first | exact .nil | apply Pick.cons | exact .here | apply Ext.there))⟩) ?_
    intro yq hyq0
    have hyq : ownOk 1 q.length (q.flatMap stE) yq := by simpa using hyq0
    rw [List.nil_append, Nat.zero_add]
    refine RW.v 6 rfl (by kernel_rfl) (by kernel_rfl) (by kernel_rfl) (fun _ _ _ h => h) rfl rfl (Val.build [ownV l.length yp, ownV q.length yq] Try.zeroValue25 Try.underlying25 places25 rfl (by rcases yp with _ | ⟨_, _, _⟩ <;> rcases yq with _ | ⟨_, _, _⟩ <;> rfl)) ?_
    refine RW.eN 7 rfl (by kernel_rfl) rfl (Eff.storeW (cs := owC (l, q) (yp, yq)) rfl rfl (by repeat (first | exact .here | exact .inner .here | exact .inner (.inner .here) | apply Upd.there)) (by rfl) Try.sizeOf25 (by simp [owC, V.ownV_one])) (fun x => ⟨_, (by repeat (first | exact .nil | apply Pick.cons | exact .here | apply Ext.there))⟩) ?_
    intro _ _
    refine RW.done (by kernel_rfl) ?_
    refine PQ.joined ((yp, yq)) (⟨hyp, hyq⟩) (by repeat (first | exact trivial | refine ⟨rfl, ?_⟩)) (by repeat (first | exact .nil | apply Pick.cons | exact .here | apply Ext.there))
  · rintro ⟨yp, yq⟩ ⟨hyp, hyq⟩
    refine PQ.seq ?_
    refine CW.ret ?_
    refine V.PQ.retC rfl rfl (by repeat (first | exact .here | exact .inner .here | exact .inner (.inner .here) | refine .there ?_)) Try.isAgg25 (by exact Try.sizeOf25) ?_
    intro w' hw; exact ⟨(yp, yq), ⟨hyp, hyq⟩, rfl, hw.pick (by repeat (first | exact .nil | apply Pick.cons | exact .here | apply Ext.there))⟩
end Go.Proofs.Ytipnpnkniihdjaa
