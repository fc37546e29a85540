/- Pop: what it does to a symbolic state. -/
import Derived.Test.YtgeblajdjdcghaaLbG
import Derived.Lib.Hide
namespace Go.Proofs.Ytgeblajdjdcghaa
open Go Go.RowKit V
set_option linter.unusedVariables false
set_option maxRecDepth 100000
def PopR (rl : List Int) (du : Int) (l : List En) (r : Option En) (l' : List En) : Prop :=
  (r = none ∧ l' = l ∧ ∀ x ∈ l, rdy rl du x = false) ∨ ∃ A x C, l = A ++ x :: C ∧ r = some x ∧ l' = A ++ C ∧ rdy rl du x = true ∧ ∀ y ∈ A, rdy rl du y = false
theorem split_at {l : List En} {k : Nat} {x : En} (h : l[k]? = some x) : l = l.take k ++ x :: l.drop (k + 1) := by
  have hlt := (List.getElem?_eq_some_iff.1 h).1
  have h2 : l.drop k = x :: l.drop (k + 1) := by
    rw [List.drop_eq_getElem_cons hlt]
    congr 1
    have := List.getElem?_eq_getElem hlt
    rw [h] at this
    exact (Option.some.inj this).symm
  rw [← h2, List.take_append_drop]
theorem pop_c (b : Nat) (o : Option (Nat × List Value × Nat)) (l : List En) (rb ra : Nat) (now : Int) (rl : List Int) (hk : bgOk o l) (hl : l.length ≤ 1000) (h0 : ∀ x ∈ rl, 0 ≤ x) (hm : rl.length ≤ 1000) (du : Int) (w : World) (hs : Sat (bgG 124 b o l ++ rdG rb ra now rl) w) : Calls Try.prog 47 [.pointer (some ⟨b, 0, none⟩), .pointer (some ⟨rb, 0, none⟩), .int .u64 du].toArray w fun e w' => ∃ y : Option En × Option (Nat × List Value × Nat) × List En, (PopR rl du l y.1 y.2.2 ∧ bgOk y.2.1 y.2.2) ∧ e = .returned (.tuple #[enV (y.1.getD en0), .bool y.1.isSome]) ∧ Hp ⟨w, ids (bgG 124 b o l ++ rdG rb ra now rl)⟩ (bgG 124 b y.2.1 y.2.2 ++ rdG rb ra now rl) w' := by
  rcases o with _ | ⟨g, rest, cap⟩
  · obtain rfl : l = [] := hk
    have hk : bgOk none [] := rfl
    have hall : ∀ x ∈ ([] : List En), rdy rl du x = false := by simp
    refine V.calls (bgG 124 b none [] ++ rdG rb ra now rl) Try.func47 rfl Try.ntmps47 (Nat.le_of_ble_eq_true rfl) hs ?_
    refine CW.seq ?_
    refine CW.region ?_
    refine LW.e rfl rfl (Eff.allocA (by exact Try.zeroValue80)) ?_
    intro b6 _
    refine LW.v rfl rfl (Val.assign rfl) ?_
    refine LW.nil ?_
    refine PQ.seq ?_
    refine CW.seq ?_
    refine CW.region ?_
    refine LW.v rfl rfl (Val.move rfl) ?_
    refine LW.v rfl rfl (Val.move rfl) ?_
    refine LW.v rfl rfl (Val.move rfl) ?_
    refine LW.e rfl rfl (Eff.callV rfl Try.call67 (fun w hw => find_c b none [] rb ra now rl hk hl h0 hm du w (hw.sat.pick (ss := bgG 124 b none []) (by repeat (first | exact .nil | apply Pick.cons | exact .here | apply Ext.there))) (hw.sat.pick (ss := rdG rb ra now rl) (by repeat (first | exact .nil | apply Pick.cons | exact .here | apply Ext.there))))) ?_
    intro _ _
    refine LW.re 13 (.int .i64 (-1)) rfl (by rw [show findF rl du [] = -1 from rfl]) ?_
    refine LW.v rfl rfl (Val.assign rfl) ?_
    refine LW.nil ?_
    refine PQ.seq ?_
    refine CW.seq ?_
    refine CW.seq ?_
    refine CW.region ?_
    refine LW.v rfl rfl (Val.move rfl) ?_
    refine LW.v rfl rfl (Val.cmp rfl rfl rfl) ?_
    refine LW.nil ?_
    refine PQ.seq ?_
    refine CW.cond_t rfl ?_
    refine CW.seq ?_
    refine CW.region ?_
    refine LW.v rfl rfl (Val.build [_, _, _, _, _] Try.zeroValue80 Try.underlying80 places80 rfl (by rfl)) ?_
    first | (refine LW.eN rfl (Eff.storeW rfl rfl (by repeat (first | exact .here | apply Upd.there)) (by rfl) Try.sizeOf80 (by rfl)) ?_) | (refine LW.eN rfl (Eff.storeA (l' := _) rfl rfl (by repeat (first | exact .here | apply Upd.there)) (by rfl) (by decide) Try.sizeOf80 (by rfl)) ?_)
    intro _ _
    refine LW.v rfl rfl (Val.assign rfl) ?_
    refine LW.nil ?_
    refine PQ.seq ?_
    refine CW.ret ?_
    refine PQ.then_ret ?_
    refine PQ.retCT rfl rfl rfl (by repeat (first | exact .here | refine .there ?_)) Try.isAgg80 (by exact Try.sizeOf80) ?_
    intro w' hw; exact ⟨(none, none, []), ⟨.inl ⟨rfl, rfl, hall⟩, hk⟩, rfl, hw.pick (by repeat (first | exact .nil | apply Pick.cons | exact .here | apply Ext.there))⟩
  rcases findI_spec (rdy rl du) l 0 with ⟨hf, hall⟩ | ⟨k, x, hf, hx, hp, hbe⟩
  · refine V.calls (bgG 124 b (some (g, rest, cap)) l ++ rdG rb ra now rl) Try.func47 rfl Try.ntmps47 (Nat.le_of_ble_eq_true rfl) hs ?_
    refine CW.seq ?_
    refine CW.region ?_
    refine LW.e rfl rfl (Eff.allocA (by exact Try.zeroValue80)) ?_
    intro b6 _
    refine LW.v rfl rfl (Val.assign rfl) ?_
    refine LW.nil ?_
    refine PQ.seq ?_
    refine CW.seq ?_
    refine CW.region ?_
    refine LW.v rfl rfl (Val.move rfl) ?_
    refine LW.v rfl rfl (Val.move rfl) ?_
    refine LW.v rfl rfl (Val.move rfl) ?_
    refine LW.e rfl rfl (Eff.callV rfl Try.call67 (fun w hw => find_c b (some (g, rest, cap)) l rb ra now rl hk hl h0 hm du w (hw.sat.pick (ss := bgG 124 b (some (g, rest, cap)) l) (by repeat (first | exact .nil | apply Pick.cons | exact .here | apply Ext.there))) (hw.sat.pick (ss := rdG rb ra now rl) (by repeat (first | exact .nil | apply Pick.cons | exact .here | apply Ext.there))))) ?_
    intro _ _
    refine LW.re 13 (.int .i64 (-1)) rfl (by rw [show findF rl du l = -1 from hf]) ?_
    refine LW.v rfl rfl (Val.assign rfl) ?_
    refine LW.nil ?_
    refine PQ.seq ?_
    refine CW.seq ?_
    refine CW.seq ?_
    refine CW.region ?_
    refine LW.v rfl rfl (Val.move rfl) ?_
    refine LW.v rfl rfl (Val.cmp rfl rfl rfl) ?_
    refine LW.nil ?_
    refine PQ.seq ?_
    refine CW.cond_t rfl ?_
    refine CW.seq ?_
    refine CW.region ?_
    refine LW.v rfl rfl (Val.build [_, _, _, _, _] Try.zeroValue80 Try.underlying80 places80 rfl (by rfl)) ?_
    first | (refine LW.eN rfl (Eff.storeW rfl rfl (by repeat (first | exact .here | apply Upd.there)) (by rfl) Try.sizeOf80 (by rfl)) ?_) | (refine LW.eN rfl (Eff.storeA (l' := _) rfl rfl (by repeat (first | exact .here | apply Upd.there)) (by rfl) (by decide) Try.sizeOf80 (by rfl)) ?_)
    intro _ _
    refine LW.v rfl rfl (Val.assign rfl) ?_
    refine LW.nil ?_
    refine PQ.seq ?_
    refine CW.ret ?_
    refine PQ.then_ret ?_
    refine PQ.retCT rfl rfl rfl (by repeat (first | exact .here | refine .there ?_)) Try.isAgg80 (by exact Try.sizeOf80) ?_
    intro w' hw; exact ⟨(none, (some (g, rest, cap)), l), ⟨.inl ⟨rfl, rfl, hall⟩, hk⟩, rfl, hw.pick (by repeat (first | exact .nil | apply Pick.cons | exact .here | apply Ext.there))⟩
  · have hlt := (List.getElem?_eq_some_iff.1 hx).1
    obtain ⟨r, hr⟩ := ent_drop rest hx
    have hsp := split_at hx
    obtain ⟨A, hA⟩ : ∃ A, A = l.take k := ⟨_, rfl⟩
    obtain ⟨C, hC⟩ : ∃ C, C = l.drop (k + 1) := ⟨_, rfl⟩
    rw [← hA, ← hC] at hsp
    have hAl : A.length = k := by rw [hA, List.length_take]; omega
    have hll : l.length = k + 1 + C.length := by rw [hsp]; simp [hAl]; omega
    have hcap : l.length * 5 + rest.length = cap * 5 := hk
    have hcells : enCs l rest = A.flatMap enC ++ (enC x ++ (C.flatMap enC ++ rest)) := by unfold enCs; rw [hsp]; simp
    have hone : ∀ l : List En, (l.flatMap enC).all (·.oneCell') = true := by
      intro l; induction l with
      | nil => rfl
      | cons y t ih => simp only [List.flatMap_cons, List.all_append, ih, Bool.and_true]; rfl
    refine V.calls (bgG 124 b (some (g, rest, cap)) l ++ rdG rb ra now rl) Try.func47 rfl Try.ntmps47 (Nat.le_of_ble_eq_true rfl) hs ?_
    refine CW.seq ?_
    refine CW.region ?_
    refine LW.e rfl rfl (Eff.allocA (by exact Try.zeroValue80)) ?_
    intro b6 _
    refine LW.v rfl rfl (Val.assign rfl) ?_
    refine LW.nil ?_
    refine PQ.seq ?_
    refine CW.seq ?_
    refine CW.region ?_
    refine LW.v rfl rfl (Val.move rfl) ?_
    refine LW.v rfl rfl (Val.move rfl) ?_
    refine LW.v rfl rfl (Val.move rfl) ?_
    refine LW.e rfl rfl (Eff.callV rfl Try.call67 (fun w hw => find_c b (some (g, rest, cap)) l rb ra now rl hk hl h0 hm du w (hw.sat.pick (ss := bgG 124 b (some (g, rest, cap)) l) (by repeat (first | exact .nil | apply Pick.cons | exact .here | apply Ext.there))) (hw.sat.pick (ss := rdG rb ra now rl) (by repeat (first | exact .nil | apply Pick.cons | exact .here | apply Ext.there))))) ?_
    intro _ _
    refine LW.re 13 (.int .i64 (k : Nat)) rfl (by rw [show findF rl du l = _ from hf, Nat.zero_add]) ?_
    refine LW.v rfl rfl (Val.assign rfl) ?_
    refine LW.nil ?_
    refine PQ.seq ?_
    refine CW.seq ?_
    refine CW.seq ?_
    refine CW.region ?_
    refine LW.v rfl rfl (Val.move rfl) ?_
    refine LW.v rfl rfl (Val.cmp rfl rfl rfl) ?_
    refine LW.nil ?_
    refine PQ.seq ?_
    refine CW.cond rfl (fun h15 => ?_) (fun h15 => ?_)
    · exact absurd (bT h15) (by first | (simp; done) | omega)
    · replace h15 := bF h15
      refine CW.skip ?_
      refine PQ.seq ?_
      refine CW.seq ?_
      refine CW.region ?_
      refine LW.v rfl rfl (Val.move rfl) ?_
      refine LW.v rfl rfl (Val.nilCheck rfl) ?_
      refine LW.v rfl rfl (Val.fieldAddr 0 rfl Try.underlying124 rfl rfl Try.sizeOf86) ?_
      refine LW.v rfl rfl (Val.load rfl Try.isAgg86 (by repeat (first | exact .here | refine .there ?_)) (by rfl)) ?_
      refine LW.v rfl rfl (Val.move rfl) ?_
      first | (refine LW.v rfl rfl (Val.indexAddrN rfl rfl Try.underlying86 Try.sizeOf80 (by omega)) ?_) | (refine LW.v rfl rfl (Val.indexAddr rfl rfl Try.underlying86 Try.sizeOf80 (by omega) (by omega)) ?_)
      refine LW.v rfl rfl (Val.loadA (cs := enC x) rfl Try.isAgg80 (by repeat (first | exact .here | refine .there ?_)) hr (by exact Try.sizeOf80)) ?_
      refine LW.e rfl rfl (Eff.allocA (by exact Try.zeroValue80)) ?_
      intro b9 _
      first | (refine LW.eN rfl (Eff.storeW rfl rfl (by repeat (first | exact .here | apply Upd.there)) (by rfl) Try.sizeOf80 (by rfl)) ?_) | (refine LW.eN rfl (Eff.storeA (l' := _) rfl rfl (by repeat (first | exact .here | apply Upd.there)) (by rfl) (by decide) Try.sizeOf80 (by rfl)) ?_)
      intro _ _
      refine LW.nil ?_
      refine PQ.seq ?_
      refine CW.seq ?_
      refine CW.region ?_
      refine LW.v rfl rfl (Val.move rfl) ?_
      refine LW.v rfl rfl (Val.move rfl) ?_
      refine LW.v rfl rfl (Val.nilCheck rfl) ?_
      refine LW.v rfl rfl (Val.fieldAddr 0 rfl Try.underlying124 rfl rfl Try.sizeOf86) ?_
      refine LW.v rfl rfl (Val.load rfl Try.isAgg86 (by repeat (first | exact .here | refine .there ?_)) (by rfl)) ?_
      refine LW.re 28 (.slice (some ⟨g, 0, none⟩) (k + 1 + C.length) cap) rfl (by rw [← hll]; rfl) ?_
      refine LW.v rfl rfl (Val.move rfl) ?_
      refine LW.v rfl rfl (Val.move rfl) ?_
      refine LW.v rfl rfl (Val.ar rfl rfl rfl (IntWalk.i64_in _ (by omega))) ?_
      refine LW.re 31 (.int .i64 ((k + 1 : Nat) : Int)) rfl (by simp) ?_
      refine LW.e rfl rfl (Eff.callM ([[(g, .cells (A.flatMap enC ++ (enC x ++ (C.flatMap enC ++ rest))).toArray 80 (0, 0))]]) (by rw [← hcells]; repeat (first | exact .nil | apply Pick.cons | exact .here | apply Ext.there)) rfl Try.call68 (fun w hw hs => delete_c g cap k C.length (A.flatMap enC) (enC x) (C.flatMap enC) rest (by rw [flat_length, hAl]) rfl (flat_length C) (hone C) (by omega) (by omega) w hs)) ?_
      intro _ _
      refine LW.v rfl rfl (Val.nilCheck rfl) ?_
      refine LW.v rfl rfl (Val.fieldAddr 0 rfl Try.underlying124 rfl rfl Try.sizeOf86) ?_
      refine LW.eN rfl (Eff.store rfl rfl rfl (by repeat (first | exact .here | apply Upd.there)) (by rfl) (by rfl) Try.sizeOf86) ?_
      intro _ _
      refine LW.nil ?_
      refine PQ.seq ?_
      refine CW.seq ?_
      refine CW.region ?_
      first | (refine LW.v rfl rfl (Val.loadW rfl Try.isAgg80 (by repeat (first | exact .here | refine .there ?_)) (by exact Try.sizeOf80)) ?_) | (refine LW.v rfl rfl (Val.loadA [_, _, _, _, _] rfl Try.isAgg80 (by repeat (first | exact .here | refine .there ?_)) (by rfl) Try.sizeOf80) ?_)
      first | (refine LW.eN rfl (Eff.storeW rfl rfl (by repeat (first | exact .here | apply Upd.there)) (by rfl) Try.sizeOf80 (by rfl)) ?_) | (refine LW.eN rfl (Eff.storeA (l' := _) rfl rfl (by repeat (first | exact .here | apply Upd.there)) (by rfl) (by decide) Try.sizeOf80 (by rfl)) ?_)
      intro _ _
      refine LW.v rfl rfl (Val.assign rfl) ?_
      refine LW.nil ?_
      refine PQ.seq ?_
      refine CW.ret ?_
      refine PQ.retCT rfl rfl rfl (by repeat (first | exact .here | refine .there ?_)) Try.isAgg80 (by exact Try.sizeOf80) ?_
      intro w' hw
      have hk2 : bgOk (some (g, zs5 ++ rest, cap)) (A ++ C) := by
        show (A ++ C).length * 5 + (zs5 ++ rest).length = cap * 5
        simp only [List.length_append, hAl]
        show (k + C.length) * 5 + (5 + rest.length) = cap * 5
        omega
      refine ⟨(some x, some (g, zs5 ++ rest, cap), A ++ C), ⟨.inr ⟨A, x, C, hsp, rfl, rfl, hp, by rw [hA]; exact hbe⟩, hk2⟩, rfl, ?_⟩
      have h1 : (A ++ C).length = k + C.length := by simp [hAl]
      have e2 : bgG 124 b (some (g, zs5 ++ rest, cap)) (A ++ C) = [(b, .cells [.slice (some ⟨g, 0, none⟩) (k + C.length) cap].toArray 124 (0, 0))] :: [[(g, .cells (A.flatMap enC ++ (C.flatMap enC ++ (zs5 ++ rest))).toArray 80 (0, 0))]] := by
        have h2 : enCs (A ++ C) (zs5 ++ rest) = A.flatMap enC ++ (C.flatMap enC ++ (zs5 ++ rest)) := by unfold enCs; rw [List.flatMap_append, List.append_assoc]
        rw [← h2, ← h1]; rfl
      show Hp _ (bgG 124 b (some (g, zs5 ++ rest, cap)) (A ++ C) ++ rdG rb ra now rl) w'
      rw [e2]
      exact hw.pick (by repeat (first | exact .nil | apply Pick.cons | exact .here | apply Ext.there))
theorem bgP_satR {T b : Nat} {o : Option (Nat × List Value × Nat)} {l : List En} {R : Sg} {w : World} (h : Sat (bgP T b o l ++ R) w) : Sat (bgG T b o l ++ R) w := by
  have e : (bgP T b o l ++ R).flatten = (bgG T b o l ++ R).flatten := by rw [List.flatten_append, List.flatten_append, bgP_flat]
  exact ⟨fun p hp => h.own p (by rw [e]; exact hp), by have := h.nd; rwa [e] at this⟩
theorem popP_c (b : Nat) (o : Option (Nat × List Value × Nat)) (l : List En) (rb ra : Nat) (now : Int) (rl : List Int) (hk : bgOk o l) (hl : l.length ≤ 1000) (h0 : ∀ x ∈ rl, 0 ≤ x) (hm : rl.length ≤ 1000) (du : Int) (w : World) (hs : Sat (bgP 124 b o l ++ rdG rb ra now rl) w) : Calls Try.prog 47 [.pointer (some ⟨b, 0, none⟩), .pointer (some ⟨rb, 0, none⟩), .int .u64 du].toArray w fun e w' => ∃ y : Option En × Option (Nat × List Value × Nat) × List En, (PopR rl du l y.1 y.2.2 ∧ bgOk y.2.1 y.2.2) ∧ e = .returned (.tuple #[enV (y.1.getD en0), .bool y.1.isSome]) ∧ Hp ⟨w, ids (bgP 124 b o l ++ rdG rb ra now rl)⟩ (bgP 124 b y.2.1 y.2.2 ++ rdG rb ra now rl) w' :=
  (pop_c b o l rb ra now rl hk hl h0 hm du w (bgP_satR hs)).mono fun e w' ⟨y, h1, h2, h3⟩ => ⟨y, h1, h2, by
    have e1 : ids (bgP 124 b o l ++ rdG rb ra now rl) = ids (bgG 124 b o l ++ rdG rb ra now rl) := by unfold ids; rw [List.flatten_append, List.flatten_append, bgP_flat]
    rw [e1]
    exact h3.perm (by rw [List.flatten_append, List.flatten_append, bgP_flat])⟩
end Go.Proofs.Ytgeblajdjdcghaa
