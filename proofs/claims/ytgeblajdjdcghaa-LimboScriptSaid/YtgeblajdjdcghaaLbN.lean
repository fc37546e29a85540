/- The reference's Pop; OverEntries. -/
import Derived.Test.YtgeblajdjdcghaaLbM
import Derived.Test.YtgeblajdjdcghaaV13
import Derived.Lib.Hide
namespace Go.Proofs.Ytgeblajdjdcghaa
open Go Go.RowKit V
set_option linter.unusedVariables false
set_option maxRecDepth 100000
theorem rpop_c (b : Nat) (o : Option (Nat × List Value × Nat)) (l : List En) (rb ra : Nat) (now : Int) (rl : List Int) (hk : bgOk o l) (hl : l.length ≤ 1000) (h0 : ∀ x ∈ rl, 0 ≤ x) (hm : rl.length ≤ 1000) (du : Int) (w : World) (hs : Sat (bgG 95 b o l ++ rfG rb ra now rl) w) : Calls Try.prog 71 [.pointer (some ⟨b, 0, none⟩), .pointer (some ⟨rb, 0, none⟩), .int .u64 du].toArray w fun e w' => ∃ y : Option En × Option (Nat × List Value × Nat) × List En, (PopR rl du l y.1 y.2.2 ∧ bgOk y.2.1 y.2.2) ∧ e = .returned (.tuple #[enV (y.1.getD en0), .bool y.1.isSome]) ∧ Hp ⟨w, ids (bgG 95 b o l ++ rfG rb ra now rl)⟩ (bgG 95 b y.2.1 y.2.2 ++ rfG rb ra now rl) w' := by
  rcases o with _ | ⟨g, rest, cap⟩
  · obtain rfl : l = [] := hk
    have hk : bgOk none [] := rfl
    have hall : ∀ x ∈ ([] : List En), rdy rl du x = false := by simp
    refine V.calls (bgG 95 b none [] ++ rfG rb ra now rl) Try.func71 rfl Try.ntmps71 (Nat.le_of_ble_eq_true rfl) hs ?_
    refine CW.seq ?_
    refine CW.region ?_
    refine LW.e rfl rfl (Eff.allocA (by exact Try.zeroValue80)) ?_
    intro b6 _
    refine LW.v rfl rfl (Val.assign rfl) ?_
    refine LW.nil ?_
    refine PQ.seq ?_
    refine CW.seq ?_
    refine CW.region ?_
    refine LW.v rfl rfl (Val.move rfl) ?_
    refine LW.v rfl rfl (Val.move rfl) ?_
    refine LW.v rfl rfl (Val.move rfl) ?_
    refine LW.e rfl rfl (Eff.callV rfl Try.call81 (fun w hw => rfirst_c b none [] rb ra now rl hk hl h0 hm du w (hw.sat.pick (ss := bgG 95 b none []) (by repeat (first | exact .nil | apply Pick.cons | exact .here | apply Ext.there))) (hw.sat.pick (ss := rfG rb ra now rl) (by repeat (first | exact .nil | apply Pick.cons | exact .here | apply Ext.there))))) ?_
    intro _ _
    refine LW.re 13 (.int .i64 (-1)) rfl (by rw [show findF rl du [] = -1 from rfl]) ?_
    refine LW.v rfl rfl (Val.assign rfl) ?_
    refine LW.nil ?_
    refine PQ.seq ?_
    refine CW.seq ?_
    refine CW.seq ?_
    refine CW.region ?_
    refine LW.v rfl rfl (Val.move rfl) ?_
    refine LW.v rfl rfl (Val.cmp rfl rfl rfl) ?_
    refine LW.nil ?_
    refine PQ.seq ?_
    refine CW.cond_t rfl ?_
    refine CW.seq ?_
    refine CW.region ?_
    refine LW.v rfl rfl (Val.build [_, _, _, _, _] Try.zeroValue80 Try.underlying80 places80 rfl (by rfl)) ?_
    first | (refine LW.eN rfl (Eff.storeW rfl rfl (by repeat (first | exact .here | apply Upd.there)) (by rfl) Try.sizeOf80 (by rfl)) ?_) | (refine LW.eN rfl (Eff.storeA (l' := _) rfl rfl (by repeat (first | exact .here | apply Upd.there)) (by rfl) (by decide) Try.sizeOf80 (by rfl)) ?_)
    intro _ _
    refine LW.v rfl rfl (Val.assign rfl) ?_
    refine LW.nil ?_
    refine PQ.seq ?_
    refine CW.ret ?_
    refine PQ.then_ret ?_
    refine PQ.retCT rfl rfl rfl (by repeat (first | exact .here | refine .there ?_)) Try.isAgg80 (by exact Try.sizeOf80) ?_
    intro w' hw; exact ⟨(none, none, []), ⟨.inl ⟨rfl, rfl, hall⟩, hk⟩, rfl, hw.pick (by repeat (first | exact .nil | apply Pick.cons | exact .here | apply Ext.there))⟩
  rcases findI_spec (rdy rl du) l 0 with ⟨hf, hall⟩ | ⟨k, x, hf, hx, hp, hbe⟩
  · refine V.calls (bgG 95 b (some (g, rest, cap)) l ++ rfG rb ra now rl) Try.func71 rfl Try.ntmps71 (Nat.le_of_ble_eq_true rfl) hs ?_
    refine CW.seq ?_
    refine CW.region ?_
    refine LW.e rfl rfl (Eff.allocA (by exact Try.zeroValue80)) ?_
    intro b6 _
    refine LW.v rfl rfl (Val.assign rfl) ?_
    refine LW.nil ?_
    refine PQ.seq ?_
    refine CW.seq ?_
    refine CW.region ?_
    refine LW.v rfl rfl (Val.move rfl) ?_
    refine LW.v rfl rfl (Val.move rfl) ?_
    refine LW.v rfl rfl (Val.move rfl) ?_
    refine LW.e rfl rfl (Eff.callV rfl Try.call81 (fun w hw => rfirst_c b (some (g, rest, cap)) l rb ra now rl hk hl h0 hm du w (hw.sat.pick (ss := bgG 95 b (some (g, rest, cap)) l) (by repeat (first | exact .nil | apply Pick.cons | exact .here | apply Ext.there))) (hw.sat.pick (ss := rfG rb ra now rl) (by repeat (first | exact .nil | apply Pick.cons | exact .here | apply Ext.there))))) ?_
    intro _ _
    refine LW.re 13 (.int .i64 (-1)) rfl (by rw [show findF rl du l = -1 from hf]) ?_
    refine LW.v rfl rfl (Val.assign rfl) ?_
    refine LW.nil ?_
    refine PQ.seq ?_
    refine CW.seq ?_
    refine CW.seq ?_
    refine CW.region ?_
    refine LW.v rfl rfl (Val.move rfl) ?_
    refine LW.v rfl rfl (Val.cmp rfl rfl rfl) ?_
    refine LW.nil ?_
    refine PQ.seq ?_
    refine CW.cond_t rfl ?_
    refine CW.seq ?_
    refine CW.region ?_
    refine LW.v rfl rfl (Val.build [_, _, _, _, _] Try.zeroValue80 Try.underlying80 places80 rfl (by rfl)) ?_
    first | (refine LW.eN rfl (Eff.storeW rfl rfl (by repeat (first | exact .here | apply Upd.there)) (by rfl) Try.sizeOf80 (by rfl)) ?_) | (refine LW.eN rfl (Eff.storeA (l' := _) rfl rfl (by repeat (first | exact .here | apply Upd.there)) (by rfl) (by decide) Try.sizeOf80 (by rfl)) ?_)
    intro _ _
    refine LW.v rfl rfl (Val.assign rfl) ?_
    refine LW.nil ?_
    refine PQ.seq ?_
    refine CW.ret ?_
    refine PQ.then_ret ?_
    refine PQ.retCT rfl rfl rfl (by repeat (first | exact .here | refine .there ?_)) Try.isAgg80 (by exact Try.sizeOf80) ?_
    intro w' hw; exact ⟨(none, (some (g, rest, cap)), l), ⟨.inl ⟨rfl, rfl, hall⟩, hk⟩, rfl, hw.pick (by repeat (first | exact .nil | apply Pick.cons | exact .here | apply Ext.there))⟩
  · have hlt := (List.getElem?_eq_some_iff.1 hx).1
    obtain ⟨r, hr⟩ := ent_drop rest hx
    have hsp := split_at hx
    obtain ⟨A, hA⟩ : ∃ A, A = l.take k := ⟨_, rfl⟩
    obtain ⟨C, hC⟩ : ∃ C, C = l.drop (k + 1) := ⟨_, rfl⟩
    rw [← hA, ← hC] at hsp
    have hAl : A.length = k := by rw [hA, List.length_take]; omega
    have hll : l.length = k + 1 + C.length := by rw [hsp]; simp [hAl]; omega
    have hcap : l.length * 5 + rest.length = cap * 5 := hk
    have hcells : enCs l rest = A.flatMap enC ++ (enC x ++ (C.flatMap enC ++ rest)) := by unfold enCs; rw [hsp]; simp
    have hd0 : (enCs l rest).drop 0 = A.flatMap enC ++ (enC x ++ (C.flatMap enC ++ rest)) := hcells
    have hd1 : (enCs l rest).drop ((k + 1) * 5) = C.flatMap enC ++ rest := by
      have h9 : (A.flatMap enC ++ enC x).length = (k + 1) * 5 := by rw [List.length_append, flat_length, hAl]; show k * 5 + 5 = _; omega
      rw [hcells, ← List.append_assoc, ← h9]; exact List.drop_left
    refine V.calls (bgG 95 b (some (g, rest, cap)) l ++ rfG rb ra now rl) Try.func71 rfl Try.ntmps71 (Nat.le_of_ble_eq_true rfl) hs ?_
    refine CW.seq ?_
    refine CW.region ?_
    refine LW.e rfl rfl (Eff.allocA (by exact Try.zeroValue80)) ?_
    intro b6 _
    refine LW.v rfl rfl (Val.assign rfl) ?_
    refine LW.nil ?_
    refine PQ.seq ?_
    refine CW.seq ?_
    refine CW.region ?_
    refine LW.v rfl rfl (Val.move rfl) ?_
    refine LW.v rfl rfl (Val.move rfl) ?_
    refine LW.v rfl rfl (Val.move rfl) ?_
    refine LW.e rfl rfl (Eff.callV rfl Try.call81 (fun w hw => rfirst_c b (some (g, rest, cap)) l rb ra now rl hk hl h0 hm du w (hw.sat.pick (ss := bgG 95 b (some (g, rest, cap)) l) (by repeat (first | exact .nil | apply Pick.cons | exact .here | apply Ext.there))) (hw.sat.pick (ss := rfG rb ra now rl) (by repeat (first | exact .nil | apply Pick.cons | exact .here | apply Ext.there))))) ?_
    intro _ _
    refine LW.re 13 (.int .i64 (k : Nat)) rfl (by rw [show findF rl du l = _ from hf, Nat.zero_add]) ?_
    refine LW.v rfl rfl (Val.assign rfl) ?_
    refine LW.nil ?_
    refine PQ.seq ?_
    refine CW.seq ?_
    refine CW.seq ?_
    refine CW.region ?_
    refine LW.v rfl rfl (Val.move rfl) ?_
    refine LW.v rfl rfl (Val.cmp rfl rfl rfl) ?_
    refine LW.nil ?_
    refine PQ.seq ?_
    refine CW.cond rfl (fun h15 => ?_) (fun h15 => ?_)
    · exact absurd (bT h15) (by first | (simp; done) | omega)
    · replace h15 := bF h15
      refine CW.skip ?_
      refine PQ.seq ?_
      refine CW.seq ?_
      refine CW.region ?_
      refine LW.v rfl rfl (Val.move rfl) ?_
      refine LW.v rfl rfl (Val.nilCheck rfl) ?_
      refine LW.v rfl rfl (Val.fieldAddr 0 rfl Try.underlying95 rfl rfl Try.sizeOf86) ?_
      refine LW.v rfl rfl (Val.load rfl Try.isAgg86 (by repeat (first | exact .here | refine .there ?_)) (by rfl)) ?_
      refine LW.v rfl rfl (Val.move rfl) ?_
      first | (refine LW.v rfl rfl (Val.indexAddrN rfl rfl Try.underlying86 Try.sizeOf80 (by omega)) ?_) | (refine LW.v rfl rfl (Val.indexAddr rfl rfl Try.underlying86 Try.sizeOf80 (by omega) (by omega)) ?_)
      refine LW.v rfl rfl (Val.loadA (cs := enC x) rfl Try.isAgg80 (by repeat (first | exact .here | refine .there ?_)) hr (by exact Try.sizeOf80)) ?_
      refine LW.e rfl rfl (Eff.allocA (by exact Try.zeroValue80)) ?_
      intro b9 _
      first | (refine LW.eN rfl (Eff.storeW rfl rfl (by repeat (first | exact .here | apply Upd.there)) (by rfl) Try.sizeOf80 (by rfl)) ?_) | (refine LW.eN rfl (Eff.storeA (l' := _) rfl rfl (by repeat (first | exact .here | apply Upd.there)) (by rfl) (by decide) Try.sizeOf80 (by rfl)) ?_)
      intro _ _
      refine LW.nil ?_
      refine PQ.seq ?_
      refine CW.seq ?_
      refine CW.drawn ([]) mixed (by repeat (first | exact .nil | apply Pick.cons | exact .here | apply Ext.there)) ?_
      refine RW.v 0 rfl (by kernel_rfl) (by kernel_rfl) (by kernel_rfl) (fun _ _ _ h => h) rfl rfl (Val.move rfl) ?_
      refine RW.v 1 rfl (by kernel_rfl) (by kernel_rfl) (by kernel_rfl) (fun _ _ _ h => h) rfl rfl (Val.move rfl) ?_
      refine RW.v 2 rfl (by kernel_rfl) (by kernel_rfl) (by kernel_rfl) (fun _ _ _ h => h) rfl rfl (Val.nilCheck rfl) ?_
      refine RW.v 3 rfl (by kernel_rfl) (by kernel_rfl) (by kernel_rfl) (fun _ _ _ h => h) rfl rfl (Val.fieldAddr 0 rfl Try.underlying95 rfl rfl Try.sizeOf86) ?_
      refine RW.v 5 rfl (by kernel_rfl) (by kernel_rfl) (by kernel_rfl) (fun _ _ _ h => h) rfl rfl (Val.move rfl) ?_
      refine RW.v 8 rfl (by kernel_rfl) (by kernel_rfl) (by kernel_rfl) (fun _ _ _ h => h) rfl rfl (Val.move rfl) ?_
      refine RW.v 9 rfl (by kernel_rfl) (by kernel_rfl) (by kernel_rfl) (fun _ _ _ h => h) rfl rfl (Val.nilCheck rfl) ?_
      refine RW.v 10 rfl (by kernel_rfl) (by kernel_rfl) (by kernel_rfl) (fun _ _ _ h => h) rfl rfl (Val.fieldAddr 0 rfl Try.underlying95 rfl rfl Try.sizeOf86) ?_
      refine RW.v 12 rfl (by kernel_rfl) (by kernel_rfl) (by kernel_rfl) (fun _ _ _ h => h) rfl rfl (Val.move rfl) ?_
      refine RW.v 13 rfl (by kernel_rfl) (by kernel_rfl) (by kernel_rfl) (fun _ _ _ h => h) rfl rfl (Val.ar rfl rfl rfl (IntWalk.i64_in _ (by omega))) ?_
      refine RW.re 37 (.int .i64 ((k + 1 : Nat) : Int)) rfl (by simp) ?_
      refine RW.any [4, 11] (by kernel_rfl) (by simp) ?_
      intro i hi
      simp only [List.mem_cons, List.not_mem_nil, or_false] at hi
      rcases hi with rfl | rfl
      · refine RO.e rfl rfl rfl (Eff.ofVal (Val.load rfl Try.isAgg86 (by repeat (first | exact .here | refine .there ?_)) (by rfl))) (fun x => ⟨_, (by repeat (first | exact .nil | apply Pick.cons | exact .here | apply Ext.there))⟩) ?_
        intro _ _
        refine RW.v 6 rfl (by kernel_rfl) (by kernel_rfl) (by kernel_rfl) (fun _ _ _ h => h) rfl rfl (Val.slice 0 k cap rfl Try.underlying86 Try.sizeOf80 rfl ⟨_, rfl⟩ rfl (by intro h; first | rfl | cases h) (by omega) (by omega) (by omega)) ?_
        refine RW.re 30 (.slice (some ⟨g, 0, none⟩) k cap) rfl (by simp) ?_
        refine RW.any [7, 11] (by kernel_rfl) (by simp) ?_
        intro i hi
        simp only [List.mem_cons, List.not_mem_nil, or_false] at hi
        rcases hi with rfl | rfl
        · refine RO.e rfl rfl rfl (Eff.appendAny (A.flatMap enC) (sz := 5) (bytes := 40) (z := .agg #[.int .i64 0, .int .i64 0, .int .u64 0, .int .u64 0, .int .i64 0]) (xs := []) (m0 := 0) (o := none) (m := k) (pk := []) rfl rfl Try.underlying86 (by kernel_rfl) rfl (by omega) .nil (by first | rfl | simp) ⟨rfl, rfl⟩ (by rw [flat_length, hAl]) (fun hm0 => ⟨g, 0, rfl, fun w hw => V.range_of_block (o := 0) (cs := A.flatMap enC) (r := enC x ++ (C.flatMap enC ++ rest)) (hw.own _ (show InS (g, .cells (enCs l rest).toArray 80 (0, 0)) _ from (by repeat (first | exact .here | refine .there ?_))).mem) hd0⟩) (hone _) (by omega) (by omega)) (fun x => ⟨_, (by repeat (first | exact .nil | apply Pick.cons | exact .here | apply Ext.there))⟩) ?_
          intro o2 ho2
          refine RW.e 11 rfl (by kernel_rfl) rfl rfl (Eff.ofVal (Val.load rfl Try.isAgg86 (by repeat (first | exact .here | refine .there ?_)) (by rfl))) (fun x => ⟨_, (by repeat (first | exact .nil | apply Pick.cons | exact .here | apply Ext.there))⟩) ?_
          intro _ _
          refine RW.v 14 rfl (by kernel_rfl) (by kernel_rfl) (by kernel_rfl) (fun _ _ _ h => h) rfl rfl (Val.slice (k + 1) l.length cap rfl Try.underlying86 Try.sizeOf80 ⟨_, rfl⟩ rfl rfl (by intro h; first | rfl | cases h) (by omega) (by omega) (by omega)) ?_
          refine RW.re 38 (.slice (some ⟨g, if cap = k + 1 then 0 else (k + 1) * 5, none⟩) C.length (cap - (k + 1))) rfl (by congr 1 <;> first | omega | simp) ?_
          refine RW.e 15 rfl (by kernel_rfl) rfl rfl (Eff.appendAny (C.flatMap enC) (sz := 5) (bytes := 40) (z := .agg #[.int .i64 0, .int .i64 0, .int .u64 0, .int .u64 0, .int .i64 0]) (xs := [] ++ A.flatMap enC) (m0 := 0 + k) (o := o2) (m := C.length) (pk := [V.ownG 80 ([] ++ A.flatMap enC) o2]) rfl rfl Try.underlying86 (by kernel_rfl) rfl (by omega) (by repeat (first | exact .nil | apply Pick.cons | exact .here | apply Ext.there)) (by first | rfl | simp) ho2 (flat_length C) (fun hm0 => ⟨g, ((k + 1) * 5), (by rw [if_neg (by omega)]), fun w hw => V.range_of_block (o := ((k + 1) * 5)) (cs := C.flatMap enC) (r := rest) (hw.own _ (show InS (g, .cells (enCs l rest).toArray 80 (0, 0)) _ from (by repeat (first | exact .here | refine .there ?_))).mem) hd1⟩) (hone _) (by omega) (by omega)) (fun x => ⟨_, (by repeat (first | exact .nil | apply Pick.cons | exact .here | apply Ext.there))⟩) ?_
          intro o3 ho3
          refine RW.v 16 rfl (by kernel_rfl) (by kernel_rfl) (by kernel_rfl) (fun _ _ _ h => h) rfl rfl (Val.nilCheck rfl) ?_
          refine RW.v 17 rfl (by kernel_rfl) (by kernel_rfl) (by kernel_rfl) (fun _ _ _ h => h) rfl rfl (Val.fieldAddr 0 rfl Try.underlying95 rfl rfl Try.sizeOf86) ?_
          refine RW.eN 18 rfl (by kernel_rfl) rfl (Eff.store rfl rfl (V.ownV_one _ _) (by repeat (first | exact .here | apply Upd.there)) rfl rfl Try.sizeOf86) (fun x => ⟨_, (by repeat (first | exact .nil | apply Pick.cons | exact .here | apply Ext.there))⟩) ?_
          intro _ _
          refine RW.done (by kernel_rfl) ?_
          refine PQ.seq ?_
          refine CW.seq ?_
          refine CW.region ?_
          first | (refine LW.v rfl rfl (Val.loadW rfl Try.isAgg80 (by repeat (first | exact .here | refine .there ?_)) (by exact Try.sizeOf80)) ?_) | (refine LW.v rfl rfl (Val.loadA [_, _, _, _, _] rfl Try.isAgg80 (by repeat (first | exact .here | refine .there ?_)) (by rfl) Try.sizeOf80) ?_)
          first | (refine LW.eN rfl (Eff.storeW rfl rfl (by repeat (first | exact .here | apply Upd.there)) (by rfl) Try.sizeOf80 (by rfl)) ?_) | (refine LW.eN rfl (Eff.storeA (l' := _) rfl rfl (by repeat (first | exact .here | apply Upd.there)) (by rfl) (by decide) Try.sizeOf80 (by rfl)) ?_)
          intro _ _
          refine LW.v rfl rfl (Val.assign rfl) ?_
          refine LW.nil ?_
          refine PQ.seq ?_
          refine CW.ret ?_
          refine PQ.retCT rfl rfl rfl (by repeat (first | exact .here | refine .there ?_)) Try.isAgg80 (by exact Try.sizeOf80) ?_
          intro w' hw
          have h4 : V.ownOk 5 (A ++ C).length ((A ++ C).flatMap enC) o3 := by have := ho3; rw [List.flatMap_append, List.length_append, hAl]; simpa using this
          refine ⟨(some x, o3, A ++ C), ⟨.inr ⟨A, x, C, hsp, rfl, rfl, hp, by rw [hA]; exact hbe⟩, bg_of_own h4⟩, rfl, ?_⟩
          have e2 : bgG 95 b o3 (A ++ C) = [(b, .cells [V.ownV (0 + k + C.length) o3].toArray 95 (0, 0))] :: V.ownS 80 ([] ++ A.flatMap enC ++ C.flatMap enC) o3 := by
            unfold bgG
            have h1 : (A ++ C).length = 0 + k + C.length := by simp [hAl]
            rcases o3 with _ | ⟨g3, rest3, cap3⟩
            · rfl
            · simp only [bgV, bgA, V.ownV, V.ownS, enCs, h1, List.flatMap_append, List.nil_append]
          show Hp _ (bgG 95 b o3 (A ++ C) ++ rfG rb ra now rl) w'
          rw [e2]
          have h6 := hw.pick (ss := [(b, .cells [V.ownV (0 + k + C.length) o3].toArray 95 (0, 0))] :: V.ownG 80 ([] ++ A.flatMap enC ++ C.flatMap enC) o3 :: rfG rb ra now rl) (by repeat (first | exact .nil | apply Pick.cons | exact .here | apply Ext.there))
          exact h6.perm (by simp [V.ownG])
        · refine RO.e rfl rfl rfl (Eff.ofVal (Val.load rfl Try.isAgg86 (by repeat (first | exact .here | refine .there ?_)) (by rfl))) (fun x => ⟨_, (by repeat (first | exact .nil | apply Pick.cons | exact .here | apply Ext.there))⟩) ?_
          intro _ _
          refine RW.v 14 rfl (by kernel_rfl) (by kernel_rfl) (by kernel_rfl) (fun _ _ _ h => h) rfl rfl (Val.slice (k + 1) l.length cap rfl Try.underlying86 Try.sizeOf80 ⟨_, rfl⟩ rfl rfl (by intro h; first | rfl | cases h) (by omega) (by omega) (by omega)) ?_
          refine RW.re 38 (.slice (some ⟨g, if cap = k + 1 then 0 else (k + 1) * 5, none⟩) C.length (cap - (k + 1))) rfl (by congr 1 <;> first | omega | simp) ?_
          refine RW.e 7 rfl (by kernel_rfl) rfl rfl (Eff.appendAny (A.flatMap enC) (sz := 5) (bytes := 40) (z := .agg #[.int .i64 0, .int .i64 0, .int .u64 0, .int .u64 0, .int .i64 0]) (xs := []) (m0 := 0) (o := none) (m := k) (pk := []) rfl rfl Try.underlying86 (by kernel_rfl) rfl (by omega) .nil (by first | rfl | simp) ⟨rfl, rfl⟩ (by rw [flat_length, hAl]) (fun hm0 => ⟨g, 0, rfl, fun w hw => V.range_of_block (o := 0) (cs := A.flatMap enC) (r := enC x ++ (C.flatMap enC ++ rest)) (hw.own _ (show InS (g, .cells (enCs l rest).toArray 80 (0, 0)) _ from (by repeat (first | exact .here | refine .there ?_))).mem) hd0⟩) (hone _) (by omega) (by omega)) (fun x => ⟨_, (by repeat (first | exact .nil | apply Pick.cons | exact .here | apply Ext.there))⟩) ?_
          intro o2 ho2
          refine RW.e 15 rfl (by kernel_rfl) rfl rfl (Eff.appendAny (C.flatMap enC) (sz := 5) (bytes := 40) (z := .agg #[.int .i64 0, .int .i64 0, .int .u64 0, .int .u64 0, .int .i64 0]) (xs := [] ++ A.flatMap enC) (m0 := 0 + k) (o := o2) (m := C.length) (pk := [V.ownG 80 ([] ++ A.flatMap enC) o2]) rfl rfl Try.underlying86 (by kernel_rfl) rfl (by omega) (by repeat (first | exact .nil | apply Pick.cons | exact .here | apply Ext.there)) (by first | rfl | simp) ho2 (flat_length C) (fun hm0 => ⟨g, ((k + 1) * 5), (by rw [if_neg (by omega)]), fun w hw => V.range_of_block (o := ((k + 1) * 5)) (cs := C.flatMap enC) (r := rest) (hw.own _ (show InS (g, .cells (enCs l rest).toArray 80 (0, 0)) _ from (by repeat (first | exact .here | refine .there ?_))).mem) hd1⟩) (hone _) (by omega) (by omega)) (fun x => ⟨_, (by repeat (first | exact .nil | apply Pick.cons | exact .here | apply Ext.there))⟩) ?_
          intro o3 ho3
          refine RW.v 16 rfl (by kernel_rfl) (by kernel_rfl) (by kernel_rfl) (fun _ _ _ h => h) rfl rfl (Val.nilCheck rfl) ?_
          refine RW.v 17 rfl (by kernel_rfl) (by kernel_rfl) (by kernel_rfl) (fun _ _ _ h => h) rfl rfl (Val.fieldAddr 0 rfl Try.underlying95 rfl rfl Try.sizeOf86) ?_
          refine RW.eN 18 rfl (by kernel_rfl) rfl (Eff.store rfl rfl (V.ownV_one _ _) (by repeat (first | exact .here | apply Upd.there)) rfl rfl Try.sizeOf86) (fun x => ⟨_, (by repeat (first | exact .nil | apply Pick.cons | exact .here | apply Ext.there))⟩) ?_
          intro _ _
          refine RW.done (by kernel_rfl) ?_
          refine PQ.seq ?_
          refine CW.seq ?_
          refine CW.region ?_
          first | (refine LW.v rfl rfl (Val.loadW rfl Try.isAgg80 (by repeat (first | exact .here | refine .there ?_)) (by exact Try.sizeOf80)) ?_) | (refine LW.v rfl rfl (Val.loadA [_, _, _, _, _] rfl Try.isAgg80 (by repeat (first | exact .here | refine .there ?_)) (by rfl) Try.sizeOf80) ?_)
          first | (refine LW.eN rfl (Eff.storeW rfl rfl (by repeat (first | exact .here | apply Upd.there)) (by rfl) Try.sizeOf80 (by rfl)) ?_) | (refine LW.eN rfl (Eff.storeA (l' := _) rfl rfl (by repeat (first | exact .here | apply Upd.there)) (by rfl) (by decide) Try.sizeOf80 (by rfl)) ?_)
          intro _ _
          refine LW.v rfl rfl (Val.assign rfl) ?_
          refine LW.nil ?_
          refine PQ.seq ?_
          refine CW.ret ?_
          refine PQ.retCT rfl rfl rfl (by repeat (first | exact .here | refine .there ?_)) Try.isAgg80 (by exact Try.sizeOf80) ?_
          intro w' hw
          have h4 : V.ownOk 5 (A ++ C).length ((A ++ C).flatMap enC) o3 := by have := ho3; rw [List.flatMap_append, List.length_append, hAl]; simpa using this
          refine ⟨(some x, o3, A ++ C), ⟨.inr ⟨A, x, C, hsp, rfl, rfl, hp, by rw [hA]; exact hbe⟩, bg_of_own h4⟩, rfl, ?_⟩
          have e2 : bgG 95 b o3 (A ++ C) = [(b, .cells [V.ownV (0 + k + C.length) o3].toArray 95 (0, 0))] :: V.ownS 80 ([] ++ A.flatMap enC ++ C.flatMap enC) o3 := by
            unfold bgG
            have h1 : (A ++ C).length = 0 + k + C.length := by simp [hAl]
            rcases o3 with _ | ⟨g3, rest3, cap3⟩
            · rfl
            · simp only [bgV, bgA, V.ownV, V.ownS, enCs, h1, List.flatMap_append, List.nil_append]
          show Hp _ (bgG 95 b o3 (A ++ C) ++ rfG rb ra now rl) w'
          rw [e2]
          have h6 := hw.pick (ss := [(b, .cells [V.ownV (0 + k + C.length) o3].toArray 95 (0, 0))] :: V.ownG 80 ([] ++ A.flatMap enC ++ C.flatMap enC) o3 :: rfG rb ra now rl) (by repeat (first | exact .nil | apply Pick.cons | exact .here | apply Ext.there))
          exact h6.perm (by simp [V.ownG])
      · refine RO.e rfl rfl rfl (Eff.ofVal (Val.load rfl Try.isAgg86 (by repeat (first | exact .here | refine .there ?_)) (by rfl))) (fun x => ⟨_, (by repeat (first | exact .nil | apply Pick.cons | exact .here | apply Ext.there))⟩) ?_
        intro _ _
        refine RW.v 14 rfl (by kernel_rfl) (by kernel_rfl) (by kernel_rfl) (fun _ _ _ h => h) rfl rfl (Val.slice (k + 1) l.length cap rfl Try.underlying86 Try.sizeOf80 ⟨_, rfl⟩ rfl rfl (by intro h; first | rfl | cases h) (by omega) (by omega) (by omega)) ?_
        refine RW.re 38 (.slice (some ⟨g, if cap = k + 1 then 0 else (k + 1) * 5, none⟩) C.length (cap - (k + 1))) rfl (by congr 1 <;> first | omega | simp) ?_
        refine RW.e 4 rfl (by kernel_rfl) rfl rfl (Eff.ofVal (Val.load rfl Try.isAgg86 (by repeat (first | exact .here | refine .there ?_)) (by rfl))) (fun x => ⟨_, (by repeat (first | exact .nil | apply Pick.cons | exact .here | apply Ext.there))⟩) ?_
        intro _ _
        refine RW.v 6 rfl (by kernel_rfl) (by kernel_rfl) (by kernel_rfl) (fun _ _ _ h => h) rfl rfl (Val.slice 0 k cap rfl Try.underlying86 Try.sizeOf80 rfl ⟨_, rfl⟩ rfl (by intro h; first | rfl | cases h) (by omega) (by omega) (by omega)) ?_
        refine RW.re 30 (.slice (some ⟨g, 0, none⟩) k cap) rfl (by simp) ?_
        refine RW.e 7 rfl (by kernel_rfl) rfl rfl (Eff.appendAny (A.flatMap enC) (sz := 5) (bytes := 40) (z := .agg #[.int .i64 0, .int .i64 0, .int .u64 0, .int .u64 0, .int .i64 0]) (xs := []) (m0 := 0) (o := none) (m := k) (pk := []) rfl rfl Try.underlying86 (by kernel_rfl) rfl (by omega) .nil (by first | rfl | simp) ⟨rfl, rfl⟩ (by rw [flat_length, hAl]) (fun hm0 => ⟨g, 0, rfl, fun w hw => V.range_of_block (o := 0) (cs := A.flatMap enC) (r := enC x ++ (C.flatMap enC ++ rest)) (hw.own _ (show InS (g, .cells (enCs l rest).toArray 80 (0, 0)) _ from (by repeat (first | exact .here | refine .there ?_))).mem) hd0⟩) (hone _) (by omega) (by omega)) (fun x => ⟨_, (by repeat (first | exact .nil | apply Pick.cons | exact .here | apply Ext.there))⟩) ?_
        intro o2 ho2
        refine RW.e 15 rfl (by kernel_rfl) rfl rfl (Eff.appendAny (C.flatMap enC) (sz := 5) (bytes := 40) (z := .agg #[.int .i64 0, .int .i64 0, .int .u64 0, .int .u64 0, .int .i64 0]) (xs := [] ++ A.flatMap enC) (m0 := 0 + k) (o := o2) (m := C.length) (pk := [V.ownG 80 ([] ++ A.flatMap enC) o2]) rfl rfl Try.underlying86 (by kernel_rfl) rfl (by omega) (by repeat (first | exact .nil | apply Pick.cons | exact .here | apply Ext.there)) (by first | rfl | simp) ho2 (flat_length C) (fun hm0 => ⟨g, ((k + 1) * 5), (by rw [if_neg (by omega)]), fun w hw => V.range_of_block (o := ((k + 1) * 5)) (cs := C.flatMap enC) (r := rest) (hw.own _ (show InS (g, .cells (enCs l rest).toArray 80 (0, 0)) _ from (by repeat (first | exact .here | refine .there ?_))).mem) hd1⟩) (hone _) (by omega) (by omega)) (fun x => ⟨_, (by repeat (first | exact .nil | apply Pick.cons | exact .here | apply Ext.there))⟩) ?_
        intro o3 ho3
        refine RW.v 16 rfl (by kernel_rfl) (by kernel_rfl) (by kernel_rfl) (fun _ _ _ h => h) rfl rfl (Val.nilCheck rfl) ?_
        refine RW.v 17 rfl (by kernel_rfl) (by kernel_rfl) (by kernel_rfl) (fun _ _ _ h => h) rfl rfl (Val.fieldAddr 0 rfl Try.underlying95 rfl rfl Try.sizeOf86) ?_
        refine RW.eN 18 rfl (by kernel_rfl) rfl (Eff.store rfl rfl (V.ownV_one _ _) (by repeat (first | exact .here | apply Upd.there)) rfl rfl Try.sizeOf86) (fun x => ⟨_, (by repeat (first | exact .nil | apply Pick.cons | exact .here | apply Ext.there))⟩) ?_
        intro _ _
        refine RW.done (by kernel_rfl) ?_
        refine PQ.seq ?_
        refine CW.seq ?_
        refine CW.region ?_
        first | (refine LW.v rfl rfl (Val.loadW rfl Try.isAgg80 (by repeat (first | exact .here | refine .there ?_)) (by exact Try.sizeOf80)) ?_) | (refine LW.v rfl rfl (Val.loadA [_, _, _, _, _] rfl Try.isAgg80 (by repeat (first | exact .here | refine .there ?_)) (by rfl) Try.sizeOf80) ?_)
        first | (refine LW.eN rfl (Eff.storeW rfl rfl (by repeat (first | exact .here | apply Upd.there)) (by rfl) Try.sizeOf80 (by rfl)) ?_) | (refine LW.eN rfl (Eff.storeA (l' := _) rfl rfl (by repeat (first | exact .here | apply Upd.there)) (by rfl) (by decide) Try.sizeOf80 (by rfl)) ?_)
        intro _ _
        refine LW.v rfl rfl (Val.assign rfl) ?_
        refine LW.nil ?_
        refine PQ.seq ?_
        refine CW.ret ?_
        refine PQ.retCT rfl rfl rfl (by repeat (first | exact .here | refine .there ?_)) Try.isAgg80 (by exact Try.sizeOf80) ?_
        intro w' hw
        have h4 : V.ownOk 5 (A ++ C).length ((A ++ C).flatMap enC) o3 := by have := ho3; rw [List.flatMap_append, List.length_append, hAl]; simpa using this
        refine ⟨(some x, o3, A ++ C), ⟨.inr ⟨A, x, C, hsp, rfl, rfl, hp, by rw [hA]; exact hbe⟩, bg_of_own h4⟩, rfl, ?_⟩
        have e2 : bgG 95 b o3 (A ++ C) = [(b, .cells [V.ownV (0 + k + C.length) o3].toArray 95 (0, 0))] :: V.ownS 80 ([] ++ A.flatMap enC ++ C.flatMap enC) o3 := by
          unfold bgG
          have h1 : (A ++ C).length = 0 + k + C.length := by simp [hAl]
          rcases o3 with _ | ⟨g3, rest3, cap3⟩
          · rfl
          · simp only [bgV, bgA, V.ownV, V.ownS, enCs, h1, List.flatMap_append, List.nil_append]
        show Hp _ (bgG 95 b o3 (A ++ C) ++ rfG rb ra now rl) w'
        rw [e2]
        have h6 := hw.pick (ss := [(b, .cells [V.ownV (0 + k + C.length) o3].toArray 95 (0, 0))] :: V.ownG 80 ([] ++ A.flatMap enC ++ C.flatMap enC) o3 :: rfG rb ra now rl) (by repeat (first | exact .nil | apply Pick.cons | exact .here | apply Ext.there))
        exact h6.perm (by simp [V.ownG])
end Go.Proofs.Ytgeblajdjdcghaa
