/- slices.Delete, Pop: what they do to a symbolic state. -/
import Derived.Test.YtgeblajdjdcghaaLbE
import Derived.Test.YtgeblajdjdcghaaV10
import Derived.Lib.Hide
namespace Go.Proofs.Ytgeblajdjdcghaa
open Go Go.RowKit V
set_option linter.unusedVariables false
set_option maxRecDepth 100000
theorem splice_mid : ∀ (cs p l r : List Value), l.length = cs.length → V.splice (p ++ (l ++ r)) p.length cs = p ++ (cs ++ r)
  | [], p, l, r, h => by
    have : l = [] := List.length_eq_zero_iff.1 h
    subst this; simp [V.splice]
  | c :: cs, p, l, r, h => by
    cases l with
    | nil => simp at h
    | cons x l =>
      simp only [V.splice, List.cons_append, List.set_append_right _ _ (Nat.le_refl _), Nat.sub_self, List.set_cons_zero]
      have := splice_mid cs (p ++ [c]) l r (by simpa using h)
      simpa using this
def zs5 : List Value := enC en0
/-- What a delete leaves of the cells. -/
theorem del_cells {fa fx fc rest : List Value} {a c : Nat} (ha : fa.length = a * 5) (hx : fx.length = 5) (hc : fc.length = c * 5) :
    V.splice ((fa ++ (fx ++ (fc ++ rest))).take (a * 5) ++ fc ++ (fa ++ (fx ++ (fc ++ rest))).drop (a * 5 + fc.length)) ((a + c) * 5) zs5 = fa ++ (fc ++ (zs5 ++ rest)) := by
  have h1 : (fa ++ (fx ++ (fc ++ rest))).take (a * 5) = fa := by rw [← ha]; simp
  have h2 : (fa ++ (fx ++ (fc ++ rest))).drop (a * 5 + fc.length) = (fx ++ (fc ++ rest)).drop fc.length := by
    rw [← ha, ← List.drop_drop]; simp
  have h3 : (fx ++ (fc ++ rest)).drop fc.length = ((fx ++ (fc ++ rest)).drop fc.length).take 5 ++ rest := by
    have h4 : ((fx ++ (fc ++ rest)).drop fc.length).drop 5 = rest := by
      rw [List.drop_drop]
      have : fc.length + 5 = (fx ++ fc).length := by simp [hx]; omega
      rw [this, ← List.append_assoc]; simp
    have h5 := (List.take_append_drop 5 ((fx ++ (fc ++ rest)).drop fc.length)).symm
    rw [h4] at h5
    exact h5
  rw [h1, h2, h3]
  have h6 := splice_mid zs5 (fa ++ fc) (((fx ++ (fc ++ rest)).drop fc.length).take 5) rest (by simp [zs5, enC, hx]; omega)
  have h7 : (fa ++ fc).length = (a + c) * 5 := by simp [ha, hc, Nat.add_mul]
  rw [h7] at h6
  simpa using h6
theorem delete_c (g cap a c : Nat) (fa fx fc rest : List Value) (ha : fa.length = a * 5) (hx : fx.length = 5) (hc : fc.length = c * 5) (h1 : fc.all (·.oneCell') = true) (hcap : (a + 1 + c) * 5 + rest.length = cap * 5) (hsz : a + 1 + c ≤ 100000) (w : World)
    (hs : Sat [[(g, .cells (fa ++ (fx ++ (fc ++ rest))).toArray 80 (0, 0))]] w) : Calls Try.prog 68 [.slice (some ⟨g, 0, none⟩) (a + 1 + c) cap, .int .i64 (a : Nat), .int .i64 ((a + 1 : Nat) : Int)].toArray w fun e w' =>
      ∃ _u : Unit, True ∧ e = .returned (.slice (some ⟨g, 0, none⟩) (a + c) cap) ∧ Hp ⟨w, ids [[(g, .cells (fa ++ (fx ++ (fc ++ rest))).toArray 80 (0, 0))]]⟩ [[(g, .cells (fa ++ (fc ++ (zs5 ++ rest))).toArray 80 (0, 0))]] w' := by
  have hle : a + 1 + c ≤ cap := by omega
  refine V.calls [[(g, .cells (fa ++ (fx ++ (fc ++ rest))).toArray 80 (0, 0))]] Try.func68 rfl Try.ntmps68 (Nat.le_of_ble_eq_true rfl) hs ?_
  refine CW.seq ?_
  refine CW.region ?_
  refine LW.v rfl rfl (Val.assign rfl) ?_
  refine LW.nil ?_
  refine PQ.seq ?_
  refine CW.seq ?_
  refine CW.region ?_
  refine LW.v rfl rfl (Val.move rfl) ?_
  refine LW.v rfl rfl (Val.move rfl) ?_
  refine LW.v rfl rfl (Val.move rfl) ?_
  refine LW.v rfl rfl (Val.move rfl) ?_
  refine LW.v rfl rfl (Val.lenSl rfl Try.underlying86) ?_
  refine LW.v rfl rfl (Val.slice a (a + 1) (a + 1 + c) rfl Try.underlying86 Try.sizeOf80 ⟨_, rfl⟩ ⟨_, rfl⟩ ⟨_, rfl⟩ (by intro h; first | rfl | cases h) (by omega) (by omega) (by omega)) ?_
  refine LW.nil ?_
  refine PQ.seq ?_
  refine CW.seq ?_
  refine CW.seq ?_
  refine CW.region ?_
  refine LW.v rfl rfl (Val.move rfl) ?_
  refine LW.v rfl rfl (Val.move rfl) ?_
  refine LW.v rfl rfl (Val.cmp rfl rfl rfl) ?_
  refine LW.nil ?_
  refine PQ.seq ?_
  refine CW.cond rfl (fun h16 => ?_) (fun h16 => ?_)
  · exact absurd (bT h16) (by omega)
  · replace h16 := bF h16
    refine CW.skip ?_
    refine PQ.seq ?_
    refine CW.seq ?_
    refine CW.region ?_
    refine LW.v rfl rfl (Val.move rfl) ?_
    refine LW.v rfl rfl (Val.lenSl rfl Try.underlying86) ?_
    refine LW.v rfl rfl (Val.assign rfl) ?_
    refine LW.nil ?_
    refine PQ.seq ?_
    refine CW.seq ?_
    refine CW.drawn ([]) mixed (by repeat (first | exact .nil | apply Pick.cons | exact .here | apply Ext.there)) ?_
    refine RW.v 0 rfl (by kernel_rfl) (by kernel_rfl) (by kernel_rfl) (fun _ _ _ h => h) rfl rfl (Val.move rfl) ?_
    refine RW.v 1 rfl (by kernel_rfl) (by kernel_rfl) (by kernel_rfl) (fun _ _ _ h => h) rfl rfl (Val.move rfl) ?_
    refine RW.v 2 rfl (by kernel_rfl) (by kernel_rfl) (by kernel_rfl) (fun _ _ _ h => h) rfl rfl (Val.slice 0 a cap rfl Try.underlying86 Try.sizeOf80 rfl ⟨_, rfl⟩ rfl (by intro h; first | rfl | cases h) (by omega) (by omega) (by omega)) ?_
    refine RW.re 22 (.slice (some ⟨g, 0, none⟩) a cap) rfl (by simp) ?_
    refine RW.v 3 rfl (by kernel_rfl) (by kernel_rfl) (by kernel_rfl) (fun _ _ _ h => h) rfl rfl (Val.move rfl) ?_
    refine RW.v 4 rfl (by kernel_rfl) (by kernel_rfl) (by kernel_rfl) (fun _ _ _ h => h) rfl rfl (Val.move rfl) ?_
    refine RW.v 5 rfl (by kernel_rfl) (by kernel_rfl) (by kernel_rfl) (fun _ _ _ h => h) rfl rfl (Val.slice (a + 1) (a + 1 + c) cap rfl Try.underlying86 Try.sizeOf80 ⟨_, rfl⟩ rfl rfl (by intro h; first | rfl | cases h) (by omega) (by omega) (by omega)) ?_
    refine RW.re 25 (.slice (some ⟨g, if cap = a + 1 then 0 else (a + 1) * 5, none⟩) c (cap - (a + 1))) rfl (by congr 1 <;> first | omega | simp) ?_
    refine RW.e 6 rfl (by kernel_rfl) rfl rfl (Eff.appendIn (sz := 5) (bytes := 40) (z := .agg #[.int .i64 0, .int .i64 0, .int .u64 0, .int .u64 0, .int .i64 0]) (cur := (fa ++ (fx ++ (fc ++ rest)))) (news := fc) (r' := rest) (i := a) (m := c) rfl rfl Try.underlying86 (by kernel_rfl) (by repeat (first | exact .here | apply Upd.there)) rfl hc (by by_cases hz : cap = a + 1; (left; omega); right; rw [if_neg hz, show (a + 1) * 5 = (fa ++ fx).length by simp [ha, hx]; omega, ← List.append_assoc]; simp) h1 (by omega) (by simp [ha, hx, hc]; omega)) (fun x => ⟨_, (by repeat (first | exact .nil | apply Pick.cons | exact .here | apply Ext.there))⟩) ?_
    intro _ _
    refine RW.v 7 rfl (by kernel_rfl) (by kernel_rfl) (by kernel_rfl) (fun _ _ _ h => h) rfl rfl (Val.assign rfl) ?_
    refine RW.done (by kernel_rfl) ?_
    refine PQ.seq ?_
    refine CW.seq ?_
    refine CW.region ?_
    refine LW.v rfl rfl (Val.move rfl) ?_
    refine LW.v rfl rfl (Val.move rfl) ?_
    refine LW.v rfl rfl (Val.lenSl rfl Try.underlying86) ?_
    refine LW.v rfl rfl (Val.move rfl) ?_
    refine LW.v rfl rfl (Val.slice (a + c) (a + 1 + c) cap rfl Try.underlying86 Try.sizeOf80 ⟨_, rfl⟩ ⟨_, rfl⟩ rfl (by intro h; first | rfl | cases h) (by omega) (by omega) (by omega)) ?_
    refine LW.re 31 (.slice (some ⟨g, (a + c) * 5, none⟩) (0 + 1) (cap - (a + c))) rfl (by rw [if_neg (by omega)]; congr 1 <;> first | omega | simp) ?_
    refine LW.eN rfl (Eff.clear (m := 0) (zl := zs5) (cells' := fa ++ (fc ++ (zs5 ++ rest))) rfl Try.underlying86 (by exact Try.zeroValue80) rfl (by repeat (first | exact .here | apply Upd.there)) (by rw [show V.repL zs5 (0 + 1) = zs5 by simp [V.repL]]; exact del_cells ha hx hc) (by simp [V.repL, zs5, enC, ha, hx, hc]; omega) rfl) ?_
    intro _ _
    refine LW.nil ?_
    refine PQ.seq ?_
    refine CW.seq ?_
    refine CW.region ?_
    refine LW.v rfl rfl (Val.move rfl) ?_
    refine LW.v rfl rfl (Val.assign rfl) ?_
    refine LW.nil ?_
    refine PQ.seq ?_
    refine CW.ret ?_
    refine PQ.ret1 rfl rfl ?_
    intro w' hw; exact ⟨(), trivial, rfl, hw⟩
end Go.Proofs.Ytgeblajdjdcghaa
