/- The reference's Put. -/
import Derived.Test.YtgeblajdjdcghaaLbL
import Derived.Test.YtgeblajdjdcghaaV12
import Derived.Lib.Hide
namespace Go.Proofs.Ytgeblajdjdcghaa
open Go Go.RowKit V
set_option linter.unusedVariables false
set_option maxRecDepth 100000
theorem rput_c (b : Nat) (o : Option (Nat × List Value × Nat)) (l : List En) (hk : bgOk o l) (hl : l.length ≤ 1000) (x : En) (w : World) (hs : Sat (bgG 95 b o l) w) : Calls Try.prog 70 [.pointer (some ⟨b, 0, none⟩), enV x].toArray w fun e w' => ∃ o' : Option (Nat × List Value × Nat), bgOk o' (putF x l).1 ∧ e = .returned (.int .i64 (putF x l).2) ∧ Hp ⟨w, ids (bgG 95 b o l)⟩ (bgG 95 b o' (putF x l).1) w' := by
  rcases o with _ | ⟨g, rest, cap⟩
  · obtain rfl : l = [] := hk
    have hk : bgOk none [] := rfl
    refine V.calls (bgG 95 b none []) Try.func70 rfl Try.ntmps70 (Nat.le_of_ble_eq_true rfl) hs ?_
    refine CW.seq ?_
    refine CW.region ?_
    refine LW.e rfl rfl (Eff.boxA rfl) ?_
    intro b3 _
    refine LW.v rfl rfl (Val.assign rfl) ?_
    refine LW.nil ?_
    refine PQ.seq ?_
    refine CW.seq ?_
    refine CW.seq ?_
    refine CW.region ?_
    refine LW.v rfl rfl (Val.fieldAddr 0 rfl Try.underlying80 rfl rfl Try.sizeOf3) ?_
    refine LW.v rfl rfl (Val.load rfl Try.isAgg3 (by repeat (first | exact .here | refine .there ?_)) (by rfl)) ?_
    refine LW.v rfl rfl (Val.cmp rfl rfl rfl) ?_
    refine LW.v rfl rfl (Val.move rfl) ?_
    refine LW.split (d := 8) rfl (fun h8 => ?_) (fun h8 => ?_)
    · replace h8 := bT h8
      refine LW.p rfl rfl ?_
      refine LW.p rfl rfl ?_
      refine LW.p rfl rfl ?_
      refine LW.v rfl rfl (Val.pick_t rfl rfl) ?_
      refine LW.v rfl rfl (Val.move rfl) ?_
      refine LW.p rfl rfl ?_
      refine LW.p rfl rfl ?_
      refine LW.p rfl rfl ?_
      refine LW.v rfl rfl (Val.pick_t rfl rfl) ?_
      refine LW.v rfl rfl (Val.move rfl) ?_
      refine LW.p rfl rfl ?_
      refine LW.p rfl rfl ?_
      refine LW.p rfl rfl ?_
      refine LW.v rfl rfl (Val.pick_t rfl rfl) ?_
      refine LW.v rfl rfl (Val.move rfl) ?_
      refine LW.p rfl rfl ?_
      refine LW.p rfl rfl ?_
      refine LW.p rfl rfl ?_
      refine LW.v rfl rfl (Val.pick_t rfl rfl) ?_
      refine LW.v rfl rfl (Val.move rfl) ?_
      refine LW.p rfl rfl ?_
      refine LW.p rfl rfl ?_
      refine LW.p rfl rfl ?_
      refine LW.v rfl rfl (Val.pick_t rfl rfl) ?_
      refine LW.nil ?_
      refine PQ.seq ?_
      refine CW.cond_t rfl ?_
      refine CW.seq ?_
      refine CW.region ?_
      refine LW.v rfl rfl (Val.assign rfl) ?_
      refine LW.nil ?_
      refine PQ.seq ?_
      refine CW.ret ?_
      refine PQ.then_ret ?_
      refine PQ.ret1 rfl rfl ?_
      intro w' hw
      rw [show putF x [] = ([], 1) from if_neg (by unfold May; omega)]
      exact ⟨none, hk, rfl, hw.pick (by repeat (first | exact .nil | apply Pick.cons | exact .here | apply Ext.there))⟩
    · replace h8 := bF h8
      refine LW.v rfl rfl (Val.fieldAddr 0 rfl Try.underlying80 rfl rfl Try.sizeOf3) ?_
      refine LW.v rfl rfl (Val.load rfl Try.isAgg3 (by repeat (first | exact .here | refine .there ?_)) (by rfl)) ?_
      refine LW.v rfl rfl (Val.cmp rfl rfl rfl) ?_
      refine LW.v rfl rfl (Val.pick_f rfl rfl) ?_
      refine LW.v rfl rfl (Val.move rfl) ?_
      refine LW.split (d := 13) rfl (fun h13 => ?_) (fun h13 => ?_)
      · replace h13 := bT h13
        refine LW.p rfl rfl ?_
        refine LW.p rfl rfl ?_
        refine LW.p rfl rfl ?_
        refine LW.v rfl rfl (Val.pick_t rfl rfl) ?_
        refine LW.v rfl rfl (Val.move rfl) ?_
        refine LW.p rfl rfl ?_
        refine LW.p rfl rfl ?_
        refine LW.p rfl rfl ?_
        refine LW.v rfl rfl (Val.pick_t rfl rfl) ?_
        refine LW.v rfl rfl (Val.move rfl) ?_
        refine LW.p rfl rfl ?_
        refine LW.p rfl rfl ?_
        refine LW.p rfl rfl ?_
        refine LW.v rfl rfl (Val.pick_t rfl rfl) ?_
        refine LW.v rfl rfl (Val.move rfl) ?_
        refine LW.p rfl rfl ?_
        refine LW.p rfl rfl ?_
        refine LW.p rfl rfl ?_
        refine LW.v rfl rfl (Val.pick_t rfl rfl) ?_
        refine LW.nil ?_
        refine PQ.seq ?_
        refine CW.cond_t rfl ?_
        refine CW.seq ?_
        refine CW.region ?_
        refine LW.v rfl rfl (Val.assign rfl) ?_
        refine LW.nil ?_
        refine PQ.seq ?_
        refine CW.ret ?_
        refine PQ.then_ret ?_
        refine PQ.ret1 rfl rfl ?_
        intro w' hw
        rw [show putF x [] = ([], 1) from if_neg (by unfold May; omega)]
        exact ⟨none, hk, rfl, hw.pick (by repeat (first | exact .nil | apply Pick.cons | exact .here | apply Ext.there))⟩
      · replace h13 := bF h13
        refine LW.v rfl rfl (Val.fieldAddr 1 rfl Try.underlying80 rfl rfl Try.sizeOf3) ?_
        refine LW.v rfl rfl (Val.load rfl Try.isAgg3 (by repeat (first | exact .here | refine .there ?_)) (by rfl)) ?_
        refine LW.v rfl rfl (Val.cmp rfl rfl rfl) ?_
        refine LW.v rfl rfl (Val.pick_f rfl rfl) ?_
        refine LW.v rfl rfl (Val.move rfl) ?_
        refine LW.split (d := 18) rfl (fun h18 => ?_) (fun h18 => ?_)
        · replace h18 := bT h18
          refine LW.p rfl rfl ?_
          refine LW.p rfl rfl ?_
          refine LW.p rfl rfl ?_
          refine LW.v rfl rfl (Val.pick_t rfl rfl) ?_
          refine LW.v rfl rfl (Val.move rfl) ?_
          refine LW.p rfl rfl ?_
          refine LW.p rfl rfl ?_
          refine LW.p rfl rfl ?_
          refine LW.v rfl rfl (Val.pick_t rfl rfl) ?_
          refine LW.v rfl rfl (Val.move rfl) ?_
          refine LW.p rfl rfl ?_
          refine LW.p rfl rfl ?_
          refine LW.p rfl rfl ?_
          refine LW.v rfl rfl (Val.pick_t rfl rfl) ?_
          refine LW.nil ?_
          refine PQ.seq ?_
          refine CW.cond_t rfl ?_
          refine CW.seq ?_
          refine CW.region ?_
          refine LW.v rfl rfl (Val.assign rfl) ?_
          refine LW.nil ?_
          refine PQ.seq ?_
          refine CW.ret ?_
          refine PQ.then_ret ?_
          refine PQ.ret1 rfl rfl ?_
          intro w' hw
          rw [show putF x [] = ([], 1) from if_neg (by unfold May; omega)]
          exact ⟨none, hk, rfl, hw.pick (by repeat (first | exact .nil | apply Pick.cons | exact .here | apply Ext.there))⟩
        · replace h18 := bF h18
          refine LW.v rfl rfl (Val.fieldAddr 1 rfl Try.underlying80 rfl rfl Try.sizeOf3) ?_
          refine LW.v rfl rfl (Val.load rfl Try.isAgg3 (by repeat (first | exact .here | refine .there ?_)) (by rfl)) ?_
          refine LW.v rfl rfl (Val.cmp rfl rfl rfl) ?_
          refine LW.v rfl rfl (Val.pick_f rfl rfl) ?_
          refine LW.v rfl rfl (Val.move rfl) ?_
          refine LW.split (d := 23) rfl (fun h23 => ?_) (fun h23 => ?_)
          · replace h23 := bT h23
            refine LW.p rfl rfl ?_
            refine LW.p rfl rfl ?_
            refine LW.p rfl rfl ?_
            refine LW.v rfl rfl (Val.pick_t rfl rfl) ?_
            refine LW.v rfl rfl (Val.move rfl) ?_
            refine LW.p rfl rfl ?_
            refine LW.p rfl rfl ?_
            refine LW.p rfl rfl ?_
            refine LW.v rfl rfl (Val.pick_t rfl rfl) ?_
            refine LW.nil ?_
            refine PQ.seq ?_
            refine CW.cond_t rfl ?_
            refine CW.seq ?_
            refine CW.region ?_
            refine LW.v rfl rfl (Val.assign rfl) ?_
            refine LW.nil ?_
            refine PQ.seq ?_
            refine CW.ret ?_
            refine PQ.then_ret ?_
            refine PQ.ret1 rfl rfl ?_
            intro w' hw
            rw [show putF x [] = ([], 1) from if_neg (by unfold May; omega)]
            exact ⟨none, hk, rfl, hw.pick (by repeat (first | exact .nil | apply Pick.cons | exact .here | apply Ext.there))⟩
          · replace h23 := bF h23
            refine LW.v rfl rfl (Val.fieldAddr 4 rfl Try.underlying80 rfl rfl Try.sizeOf3) ?_
            refine LW.v rfl rfl (Val.load rfl Try.isAgg3 (by repeat (first | exact .here | refine .there ?_)) (by rfl)) ?_
            refine LW.v rfl rfl (Val.cmp rfl rfl rfl) ?_
            refine LW.v rfl rfl (Val.pick_f rfl rfl) ?_
            refine LW.v rfl rfl (Val.move rfl) ?_
            refine LW.split (d := 28) rfl (fun h28 => ?_) (fun h28 => ?_)
            · replace h28 := bT h28
              refine LW.p rfl rfl ?_
              refine LW.p rfl rfl ?_
              refine LW.p rfl rfl ?_
              refine LW.v rfl rfl (Val.pick_t rfl rfl) ?_
              refine LW.nil ?_
              refine PQ.seq ?_
              refine CW.cond_t rfl ?_
              refine CW.seq ?_
              refine CW.region ?_
              refine LW.v rfl rfl (Val.assign rfl) ?_
              refine LW.nil ?_
              refine PQ.seq ?_
              refine CW.ret ?_
              refine PQ.then_ret ?_
              refine PQ.ret1 rfl rfl ?_
              intro w' hw
              rw [show putF x [] = ([], 1) from if_neg (by unfold May; omega)]
              exact ⟨none, hk, rfl, hw.pick (by repeat (first | exact .nil | apply Pick.cons | exact .here | apply Ext.there))⟩
            · replace h28 := bF h28
              refine LW.v rfl rfl (Val.fieldAddr 4 rfl Try.underlying80 rfl rfl Try.sizeOf3) ?_
              refine LW.v rfl rfl (Val.load rfl Try.isAgg3 (by repeat (first | exact .here | refine .there ?_)) (by rfl)) ?_
              refine LW.v rfl rfl (Val.cmp rfl rfl rfl) ?_
              refine LW.v rfl rfl (Val.pick_f rfl rfl) ?_
              refine LW.nil ?_
              refine PQ.seq ?_
              refine CW.cond rfl (fun h32 => ?_) (fun h32 => ?_)
              · replace h32 := bT h32
                refine CW.seq ?_
                refine CW.region ?_
                refine LW.v rfl rfl (Val.assign rfl) ?_
                refine LW.nil ?_
                refine PQ.seq ?_
                refine CW.ret ?_
                refine PQ.then_ret ?_
                refine PQ.ret1 rfl rfl ?_
                intro w' hw
                rw [show putF x [] = ([], 1) from if_neg (by unfold May; omega)]
                exact ⟨none, hk, rfl, hw.pick (by repeat (first | exact .nil | apply Pick.cons | exact .here | apply Ext.there))⟩
              · replace h32 := bF h32
                refine CW.skip ?_
                refine PQ.seq ?_
                refine CW.seq ?_
                refine CW.seq ?_
                refine CW.region ?_
                refine LW.v rfl rfl (Val.move rfl) ?_
                refine LW.v rfl rfl (Val.nilCheck rfl) ?_
                refine LW.v rfl rfl (Val.fieldAddr 0 rfl Try.underlying95 rfl rfl Try.sizeOf86) ?_
                refine LW.v rfl rfl (Val.load rfl Try.isAgg86 (by repeat (first | exact .here | refine .there ?_)) (by rfl)) ?_
                refine LW.v rfl rfl (Val.lenSl rfl Try.underlying86) ?_
                refine LW.v rfl rfl (Val.cmp rfl rfl rfl) ?_
                refine LW.nil ?_
                refine PQ.seq ?_
                refine CW.cond rfl (fun h38 => ?_) (fun h38 => ?_)
                · exact absurd (bT h38) (by decide)
                · replace h38 := bF h38
                  refine CW.skip ?_
                  refine PQ.seq ?_
                  refine CW.seq ?_
                  refine CW.drawn ([[(b3, .cells (enC x).toArray 80 (0, 0))]]) mixed (by repeat (first | exact .nil | apply Pick.cons | exact .here | apply Ext.there)) ?_
                  refine RW.v 0 rfl (by kernel_rfl) (by kernel_rfl) (by kernel_rfl) (fun _ _ _ h => h) rfl rfl (Val.move rfl) ?_
                  refine RW.v 1 rfl (by kernel_rfl) (by kernel_rfl) (by kernel_rfl) (fun _ _ _ h => h) rfl rfl (Val.move rfl) ?_
                  refine RW.v 2 rfl (by kernel_rfl) (by kernel_rfl) (by kernel_rfl) (fun _ _ _ h => h) rfl rfl (Val.nilCheck rfl) ?_
                  refine RW.v 3 rfl (by kernel_rfl) (by kernel_rfl) (by kernel_rfl) (fun _ _ _ h => h) rfl rfl (Val.fieldAddr 0 rfl Try.underlying95 rfl rfl Try.sizeOf86) ?_
                  first | (refine RW.v 6 rfl (by kernel_rfl) (by kernel_rfl) (by kernel_rfl) (fun _ _ _ h => h) rfl rfl (Val.loadW rfl Try.isAgg80 (by repeat (first | exact .here | refine .there ?_)) (by exact Try.sizeOf80)) ?_) | (refine RW.v 6 rfl (by kernel_rfl) (by kernel_rfl) (by kernel_rfl) (fun _ _ _ h => h) rfl rfl (Val.loadA [_, _, _, _, _] rfl Try.isAgg80 (by repeat (first | exact .here | refine .there ?_)) (by rfl) Try.sizeOf80) ?_)
                  refine RW.any [4, 7] (by kernel_rfl) (by simp) ?_
                  intro i hi
                  simp only [List.mem_cons, List.not_mem_nil, or_false] at hi
                  rcases hi with rfl | rfl
                  · refine RO.e rfl rfl rfl (Eff.ofVal (Val.load rfl Try.isAgg86 (by repeat (first | exact .here | refine .there ?_)) (by rfl))) (fun x => ⟨_, (by repeat (first | exact .nil | apply Pick.cons | exact .here | apply Ext.there))⟩) ?_
                    intro _ _
                    refine RW.v 5 rfl (by kernel_rfl) (by kernel_rfl) (by kernel_rfl) (fun _ _ _ h => h) rfl rfl (Val.appendNil0 (sz := 5) (bytes := 40) (z := .agg #[.int .i64 0, .int .i64 0, .int .u64 0, .int .u64 0, .int .i64 0]) rfl rfl Try.underlying86 (by kernel_rfl)) ?_
                    refine RW.e 7 rfl (by kernel_rfl) rfl rfl (Eff.buildSlice (rfl) [_, _, _, _, _] Try.underlying86 Try.sizeOf80 (by exact Try.zeroValue80) rfl rfl rfl rfl (by rfl)) (fun x => ⟨_, (by repeat (first | exact .nil | apply Pick.cons | exact .here | apply Ext.there))⟩) ?_
                    intro b46 _
                    refine RW.e 8 rfl (by kernel_rfl) rfl rfl (Eff.append (enC x) (sz := 5) (bytes := 40) (z := .agg #[.int .i64 0, .int .i64 0, .int .u64 0, .int .u64 0, .int .i64 0]) (xs := [] ++ [].flatMap enC) (m0 := 0 + [].length) (o := none) (m := 1) rfl rfl Try.underlying86 (by kernel_rfl) rfl (by omega) .nil ⟨rfl, rfl⟩ (by omega) rfl (fun w hw => V.range_of_block (o := 0) (cs := enC x) (r := []) (hw.own _ (show InS (b46, .cells (enC x).toArray 80 (0, 0)) _ from (by repeat (first | exact .here | refine .there ?_))).mem) rfl) rfl (by first | omega | (simp only [List.length_nil]; omega)) (by first | omega | (simp only [List.length_nil]; omega))) (fun x => ⟨_, (by repeat (first | exact .nil | apply Pick.cons | exact .here | apply Ext.there))⟩) ?_
                    rintro o3 ⟨ho3, hs3⟩
                    obtain ⟨⟨g3, rest3, cap3⟩, rfl⟩ := Option.isSome_iff_exists.1 hs3
                    refine RW.v 9 rfl (by kernel_rfl) (by kernel_rfl) (by kernel_rfl) (fun _ _ _ h => h) rfl rfl (Val.nilCheck rfl) ?_
                    refine RW.v 10 rfl (by kernel_rfl) (by kernel_rfl) (by kernel_rfl) (fun _ _ _ h => h) rfl rfl (Val.fieldAddr 0 rfl Try.underlying95 rfl rfl Try.sizeOf86) ?_
                    refine RW.eN 11 rfl (by kernel_rfl) rfl (Eff.store rfl rfl rfl (by repeat (first | exact .here | apply Upd.there)) rfl rfl Try.sizeOf86) (fun x => ⟨_, (by repeat (first | exact .nil | apply Pick.cons | exact .here | apply Ext.there))⟩) ?_
                    intro _ _
                    refine RW.done (by kernel_rfl) ?_
                    refine PQ.seq ?_
                    refine CW.seq ?_
                    refine CW.region ?_
                    refine LW.v rfl rfl (Val.assign rfl) ?_
                    refine LW.nil ?_
                    refine PQ.seq ?_
                    refine CW.ret ?_
                    refine PQ.ret1 rfl rfl ?_
                    intro w' hw
                    rw [show putF x [] = ([] ++ [x], 0) from (if_pos (by unfold May; omega)).trans (if_pos (by first | omega | (simp only [List.length_nil]; omega)))]
                    have ho4 : V.ownOk 5 ([] ++ [x]).length (([] ++ [x]).flatMap enC) (some (g3, rest3, cap3)) := by have := ho3; rw [flat_snoc, List.length_append]; simpa using this
                    refine ⟨some (g3, rest3, cap3), bg_of_own ho4, rfl, ?_⟩
                    unfold bgG bgA bgV enCs
                    rw [flat_snoc, List.length_append]
                    simp only [Nat.zero_add, List.nil_append] at hw
                    exact hw.pick (by repeat (first | exact .nil | apply Pick.cons | exact .here | apply Ext.there))
                  · refine RO.e rfl rfl rfl (Eff.buildSlice (rfl) [_, _, _, _, _] Try.underlying86 Try.sizeOf80 (by exact Try.zeroValue80) rfl rfl rfl rfl (by rfl)) (fun x => ⟨_, (by repeat (first | exact .nil | apply Pick.cons | exact .here | apply Ext.there))⟩) ?_
                    intro b46 _
                    refine RW.e 4 rfl (by kernel_rfl) rfl rfl (Eff.ofVal (Val.load rfl Try.isAgg86 (by repeat (first | exact .here | refine .there ?_)) (by rfl))) (fun x => ⟨_, (by repeat (first | exact .nil | apply Pick.cons | exact .here | apply Ext.there))⟩) ?_
                    intro _ _
                    refine RW.v 5 rfl (by kernel_rfl) (by kernel_rfl) (by kernel_rfl) (fun _ _ _ h => h) rfl rfl (Val.appendNil0 (sz := 5) (bytes := 40) (z := .agg #[.int .i64 0, .int .i64 0, .int .u64 0, .int .u64 0, .int .i64 0]) rfl rfl Try.underlying86 (by kernel_rfl)) ?_
                    refine RW.e 8 rfl (by kernel_rfl) rfl rfl (Eff.append (enC x) (sz := 5) (bytes := 40) (z := .agg #[.int .i64 0, .int .i64 0, .int .u64 0, .int .u64 0, .int .i64 0]) (xs := [] ++ [].flatMap enC) (m0 := 0 + [].length) (o := none) (m := 1) rfl rfl Try.underlying86 (by kernel_rfl) rfl (by omega) .nil ⟨rfl, rfl⟩ (by omega) rfl (fun w hw => V.range_of_block (o := 0) (cs := enC x) (r := []) (hw.own _ (show InS (b46, .cells (enC x).toArray 80 (0, 0)) _ from (by repeat (first | exact .here | refine .there ?_))).mem) rfl) rfl (by first | omega | (simp only [List.length_nil]; omega)) (by first | omega | (simp only [List.length_nil]; omega))) (fun x => ⟨_, (by repeat (first | exact .nil | apply Pick.cons | exact .here | apply Ext.there))⟩) ?_
                    rintro o3 ⟨ho3, hs3⟩
                    obtain ⟨⟨g3, rest3, cap3⟩, rfl⟩ := Option.isSome_iff_exists.1 hs3
                    refine RW.v 9 rfl (by kernel_rfl) (by kernel_rfl) (by kernel_rfl) (fun _ _ _ h => h) rfl rfl (Val.nilCheck rfl) ?_
                    refine RW.v 10 rfl (by kernel_rfl) (by kernel_rfl) (by kernel_rfl) (fun _ _ _ h => h) rfl rfl (Val.fieldAddr 0 rfl Try.underlying95 rfl rfl Try.sizeOf86) ?_
                    refine RW.eN 11 rfl (by kernel_rfl) rfl (Eff.store rfl rfl rfl (by repeat (first | exact .here | apply Upd.there)) rfl rfl Try.sizeOf86) (fun x => ⟨_, (by repeat (first | exact .nil | apply Pick.cons | exact .here | apply Ext.there))⟩) ?_
                    intro _ _
                    refine RW.done (by kernel_rfl) ?_
                    refine PQ.seq ?_
                    refine CW.seq ?_
                    refine CW.region ?_
                    refine LW.v rfl rfl (Val.assign rfl) ?_
                    refine LW.nil ?_
                    refine PQ.seq ?_
                    refine CW.ret ?_
                    refine PQ.ret1 rfl rfl ?_
                    intro w' hw
                    rw [show putF x [] = ([] ++ [x], 0) from (if_pos (by unfold May; omega)).trans (if_pos (by first | omega | (simp only [List.length_nil]; omega)))]
                    have ho4 : V.ownOk 5 ([] ++ [x]).length (([] ++ [x]).flatMap enC) (some (g3, rest3, cap3)) := by have := ho3; rw [flat_snoc, List.length_append]; simpa using this
                    refine ⟨some (g3, rest3, cap3), bg_of_own ho4, rfl, ?_⟩
                    unfold bgG bgA bgV enCs
                    rw [flat_snoc, List.length_append]
                    simp only [Nat.zero_add, List.nil_append] at hw
                    exact hw.pick (by repeat (first | exact .nil | apply Pick.cons | exact .here | apply Ext.there))
  by_cases h0 : l.length = 0
  · obtain rfl : l = [] := List.length_eq_zero_iff.1 h0
    refine V.calls (bgG 95 b (some (g, rest, cap)) []) Try.func70 rfl Try.ntmps70 (Nat.le_of_ble_eq_true rfl) hs ?_
    refine CW.seq ?_
    refine CW.region ?_
    refine LW.e rfl rfl (Eff.boxA rfl) ?_
    intro b3 _
    refine LW.v rfl rfl (Val.assign rfl) ?_
    refine LW.nil ?_
    refine PQ.seq ?_
    refine CW.seq ?_
    refine CW.seq ?_
    refine CW.region ?_
    refine LW.v rfl rfl (Val.fieldAddr 0 rfl Try.underlying80 rfl rfl Try.sizeOf3) ?_
    refine LW.v rfl rfl (Val.load rfl Try.isAgg3 (by repeat (first | exact .here | refine .there ?_)) (by rfl)) ?_
    refine LW.v rfl rfl (Val.cmp rfl rfl rfl) ?_
    refine LW.v rfl rfl (Val.move rfl) ?_
    refine LW.split (d := 8) rfl (fun h8 => ?_) (fun h8 => ?_)
    · replace h8 := bT h8
      refine LW.p rfl rfl ?_
      refine LW.p rfl rfl ?_
      refine LW.p rfl rfl ?_
      refine LW.v rfl rfl (Val.pick_t rfl rfl) ?_
      refine LW.v rfl rfl (Val.move rfl) ?_
      refine LW.p rfl rfl ?_
      refine LW.p rfl rfl ?_
      refine LW.p rfl rfl ?_
      refine LW.v rfl rfl (Val.pick_t rfl rfl) ?_
      refine LW.v rfl rfl (Val.move rfl) ?_
      refine LW.p rfl rfl ?_
      refine LW.p rfl rfl ?_
      refine LW.p rfl rfl ?_
      refine LW.v rfl rfl (Val.pick_t rfl rfl) ?_
      refine LW.v rfl rfl (Val.move rfl) ?_
      refine LW.p rfl rfl ?_
      refine LW.p rfl rfl ?_
      refine LW.p rfl rfl ?_
      refine LW.v rfl rfl (Val.pick_t rfl rfl) ?_
      refine LW.v rfl rfl (Val.move rfl) ?_
      refine LW.p rfl rfl ?_
      refine LW.p rfl rfl ?_
      refine LW.p rfl rfl ?_
      refine LW.v rfl rfl (Val.pick_t rfl rfl) ?_
      refine LW.nil ?_
      refine PQ.seq ?_
      refine CW.cond_t rfl ?_
      refine CW.seq ?_
      refine CW.region ?_
      refine LW.v rfl rfl (Val.assign rfl) ?_
      refine LW.nil ?_
      refine PQ.seq ?_
      refine CW.ret ?_
      refine PQ.then_ret ?_
      refine PQ.ret1 rfl rfl ?_
      intro w' hw
      rw [show putF x [] = ([], 1) from if_neg (by unfold May; omega)]
      exact ⟨(some (g, rest, cap)), hk, rfl, hw.pick (by repeat (first | exact .nil | apply Pick.cons | exact .here | apply Ext.there))⟩
    · replace h8 := bF h8
      refine LW.v rfl rfl (Val.fieldAddr 0 rfl Try.underlying80 rfl rfl Try.sizeOf3) ?_
      refine LW.v rfl rfl (Val.load rfl Try.isAgg3 (by repeat (first | exact .here | refine .there ?_)) (by rfl)) ?_
      refine LW.v rfl rfl (Val.cmp rfl rfl rfl) ?_
      refine LW.v rfl rfl (Val.pick_f rfl rfl) ?_
      refine LW.v rfl rfl (Val.move rfl) ?_
      refine LW.split (d := 13) rfl (fun h13 => ?_) (fun h13 => ?_)
      · replace h13 := bT h13
        refine LW.p rfl rfl ?_
        refine LW.p rfl rfl ?_
        refine LW.p rfl rfl ?_
        refine LW.v rfl rfl (Val.pick_t rfl rfl) ?_
        refine LW.v rfl rfl (Val.move rfl) ?_
        refine LW.p rfl rfl ?_
        refine LW.p rfl rfl ?_
        refine LW.p rfl rfl ?_
        refine LW.v rfl rfl (Val.pick_t rfl rfl) ?_
        refine LW.v rfl rfl (Val.move rfl) ?_
        refine LW.p rfl rfl ?_
        refine LW.p rfl rfl ?_
        refine LW.p rfl rfl ?_
        refine LW.v rfl rfl (Val.pick_t rfl rfl) ?_
        refine LW.v rfl rfl (Val.move rfl) ?_
        refine LW.p rfl rfl ?_
        refine LW.p rfl rfl ?_
        refine LW.p rfl rfl ?_
        refine LW.v rfl rfl (Val.pick_t rfl rfl) ?_
        refine LW.nil ?_
        refine PQ.seq ?_
        refine CW.cond_t rfl ?_
        refine CW.seq ?_
        refine CW.region ?_
        refine LW.v rfl rfl (Val.assign rfl) ?_
        refine LW.nil ?_
        refine PQ.seq ?_
        refine CW.ret ?_
        refine PQ.then_ret ?_
        refine PQ.ret1 rfl rfl ?_
        intro w' hw
        rw [show putF x [] = ([], 1) from if_neg (by unfold May; omega)]
        exact ⟨(some (g, rest, cap)), hk, rfl, hw.pick (by repeat (first | exact .nil | apply Pick.cons | exact .here | apply Ext.there))⟩
      · replace h13 := bF h13
        refine LW.v rfl rfl (Val.fieldAddr 1 rfl Try.underlying80 rfl rfl Try.sizeOf3) ?_
        refine LW.v rfl rfl (Val.load rfl Try.isAgg3 (by repeat (first | exact .here | refine .there ?_)) (by rfl)) ?_
        refine LW.v rfl rfl (Val.cmp rfl rfl rfl) ?_
        refine LW.v rfl rfl (Val.pick_f rfl rfl) ?_
        refine LW.v rfl rfl (Val.move rfl) ?_
        refine LW.split (d := 18) rfl (fun h18 => ?_) (fun h18 => ?_)
        · replace h18 := bT h18
          refine LW.p rfl rfl ?_
          refine LW.p rfl rfl ?_
          refine LW.p rfl rfl ?_
          refine LW.v rfl rfl (Val.pick_t rfl rfl) ?_
          refine LW.v rfl rfl (Val.move rfl) ?_
          refine LW.p rfl rfl ?_
          refine LW.p rfl rfl ?_
          refine LW.p rfl rfl ?_
          refine LW.v rfl rfl (Val.pick_t rfl rfl) ?_
          refine LW.v rfl rfl (Val.move rfl) ?_
          refine LW.p rfl rfl ?_
          refine LW.p rfl rfl ?_
          refine LW.p rfl rfl ?_
          refine LW.v rfl rfl (Val.pick_t rfl rfl) ?_
          refine LW.nil ?_
          refine PQ.seq ?_
          refine CW.cond_t rfl ?_
          refine CW.seq ?_
          refine CW.region ?_
          refine LW.v rfl rfl (Val.assign rfl) ?_
          refine LW.nil ?_
          refine PQ.seq ?_
          refine CW.ret ?_
          refine PQ.then_ret ?_
          refine PQ.ret1 rfl rfl ?_
          intro w' hw
          rw [show putF x [] = ([], 1) from if_neg (by unfold May; omega)]
          exact ⟨(some (g, rest, cap)), hk, rfl, hw.pick (by repeat (first | exact .nil | apply Pick.cons | exact .here | apply Ext.there))⟩
        · replace h18 := bF h18
          refine LW.v rfl rfl (Val.fieldAddr 1 rfl Try.underlying80 rfl rfl Try.sizeOf3) ?_
          refine LW.v rfl rfl (Val.load rfl Try.isAgg3 (by repeat (first | exact .here | refine .there ?_)) (by rfl)) ?_
          refine LW.v rfl rfl (Val.cmp rfl rfl rfl) ?_
          refine LW.v rfl rfl (Val.pick_f rfl rfl) ?_
          refine LW.v rfl rfl (Val.move rfl) ?_
          refine LW.split (d := 23) rfl (fun h23 => ?_) (fun h23 => ?_)
          · replace h23 := bT h23
            refine LW.p rfl rfl ?_
            refine LW.p rfl rfl ?_
            refine LW.p rfl rfl ?_
            refine LW.v rfl rfl (Val.pick_t rfl rfl) ?_
            refine LW.v rfl rfl (Val.move rfl) ?_
            refine LW.p rfl rfl ?_
            refine LW.p rfl rfl ?_
            refine LW.p rfl rfl ?_
            refine LW.v rfl rfl (Val.pick_t rfl rfl) ?_
            refine LW.nil ?_
            refine PQ.seq ?_
            refine CW.cond_t rfl ?_
            refine CW.seq ?_
            refine CW.region ?_
            refine LW.v rfl rfl (Val.assign rfl) ?_
            refine LW.nil ?_
            refine PQ.seq ?_
            refine CW.ret ?_
            refine PQ.then_ret ?_
            refine PQ.ret1 rfl rfl ?_
            intro w' hw
            rw [show putF x [] = ([], 1) from if_neg (by unfold May; omega)]
            exact ⟨(some (g, rest, cap)), hk, rfl, hw.pick (by repeat (first | exact .nil | apply Pick.cons | exact .here | apply Ext.there))⟩
          · replace h23 := bF h23
            refine LW.v rfl rfl (Val.fieldAddr 4 rfl Try.underlying80 rfl rfl Try.sizeOf3) ?_
            refine LW.v rfl rfl (Val.load rfl Try.isAgg3 (by repeat (first | exact .here | refine .there ?_)) (by rfl)) ?_
            refine LW.v rfl rfl (Val.cmp rfl rfl rfl) ?_
            refine LW.v rfl rfl (Val.pick_f rfl rfl) ?_
            refine LW.v rfl rfl (Val.move rfl) ?_
            refine LW.split (d := 28) rfl (fun h28 => ?_) (fun h28 => ?_)
            · replace h28 := bT h28
              refine LW.p rfl rfl ?_
              refine LW.p rfl rfl ?_
              refine LW.p rfl rfl ?_
              refine LW.v rfl rfl (Val.pick_t rfl rfl) ?_
              refine LW.nil ?_
              refine PQ.seq ?_
              refine CW.cond_t rfl ?_
              refine CW.seq ?_
              refine CW.region ?_
              refine LW.v rfl rfl (Val.assign rfl) ?_
              refine LW.nil ?_
              refine PQ.seq ?_
              refine CW.ret ?_
              refine PQ.then_ret ?_
              refine PQ.ret1 rfl rfl ?_
              intro w' hw
              rw [show putF x [] = ([], 1) from if_neg (by unfold May; omega)]
              exact ⟨(some (g, rest, cap)), hk, rfl, hw.pick (by repeat (first | exact .nil | apply Pick.cons | exact .here | apply Ext.there))⟩
            · replace h28 := bF h28
              refine LW.v rfl rfl (Val.fieldAddr 4 rfl Try.underlying80 rfl rfl Try.sizeOf3) ?_
              refine LW.v rfl rfl (Val.load rfl Try.isAgg3 (by repeat (first | exact .here | refine .there ?_)) (by rfl)) ?_
              refine LW.v rfl rfl (Val.cmp rfl rfl rfl) ?_
              refine LW.v rfl rfl (Val.pick_f rfl rfl) ?_
              refine LW.nil ?_
              refine PQ.seq ?_
              refine CW.cond rfl (fun h32 => ?_) (fun h32 => ?_)
              · replace h32 := bT h32
                refine CW.seq ?_
                refine CW.region ?_
                refine LW.v rfl rfl (Val.assign rfl) ?_
                refine LW.nil ?_
                refine PQ.seq ?_
                refine CW.ret ?_
                refine PQ.then_ret ?_
                refine PQ.ret1 rfl rfl ?_
                intro w' hw
                rw [show putF x [] = ([], 1) from if_neg (by unfold May; omega)]
                exact ⟨(some (g, rest, cap)), hk, rfl, hw.pick (by repeat (first | exact .nil | apply Pick.cons | exact .here | apply Ext.there))⟩
              · replace h32 := bF h32
                refine CW.skip ?_
                refine PQ.seq ?_
                refine CW.seq ?_
                refine CW.seq ?_
                refine CW.region ?_
                refine LW.v rfl rfl (Val.move rfl) ?_
                refine LW.v rfl rfl (Val.nilCheck rfl) ?_
                refine LW.v rfl rfl (Val.fieldAddr 0 rfl Try.underlying95 rfl rfl Try.sizeOf86) ?_
                refine LW.v rfl rfl (Val.load rfl Try.isAgg86 (by repeat (first | exact .here | refine .there ?_)) (by rfl)) ?_
                refine LW.v rfl rfl (Val.lenSl rfl Try.underlying86) ?_
                refine LW.v rfl rfl (Val.cmp rfl rfl rfl) ?_
                refine LW.nil ?_
                refine PQ.seq ?_
                refine CW.cond rfl (fun h38 => ?_) (fun h38 => ?_)
                · exact absurd (bT h38) (by decide)
                · replace h38 := bF h38
                  refine CW.skip ?_
                  refine PQ.seq ?_
                  refine CW.seq ?_
                  refine CW.drawn ([[(b3, .cells (enC x).toArray 80 (0, 0))]]) mixed (by repeat (first | exact .nil | apply Pick.cons | exact .here | apply Ext.there)) ?_
                  refine RW.v 0 rfl (by kernel_rfl) (by kernel_rfl) (by kernel_rfl) (fun _ _ _ h => h) rfl rfl (Val.move rfl) ?_
                  refine RW.v 1 rfl (by kernel_rfl) (by kernel_rfl) (by kernel_rfl) (fun _ _ _ h => h) rfl rfl (Val.move rfl) ?_
                  refine RW.v 2 rfl (by kernel_rfl) (by kernel_rfl) (by kernel_rfl) (fun _ _ _ h => h) rfl rfl (Val.nilCheck rfl) ?_
                  refine RW.v 3 rfl (by kernel_rfl) (by kernel_rfl) (by kernel_rfl) (fun _ _ _ h => h) rfl rfl (Val.fieldAddr 0 rfl Try.underlying95 rfl rfl Try.sizeOf86) ?_
                  first | (refine RW.v 6 rfl (by kernel_rfl) (by kernel_rfl) (by kernel_rfl) (fun _ _ _ h => h) rfl rfl (Val.loadW rfl Try.isAgg80 (by repeat (first | exact .here | refine .there ?_)) (by exact Try.sizeOf80)) ?_) | (refine RW.v 6 rfl (by kernel_rfl) (by kernel_rfl) (by kernel_rfl) (fun _ _ _ h => h) rfl rfl (Val.loadA [_, _, _, _, _] rfl Try.isAgg80 (by repeat (first | exact .here | refine .there ?_)) (by rfl) Try.sizeOf80) ?_)
                  refine RW.any [4, 7] (by kernel_rfl) (by simp) ?_
                  intro i hi
                  simp only [List.mem_cons, List.not_mem_nil, or_false] at hi
                  rcases hi with rfl | rfl
                  · refine RO.e rfl rfl rfl (Eff.ofVal (Val.load rfl Try.isAgg86 (by repeat (first | exact .here | refine .there ?_)) (by rfl))) (fun x => ⟨_, (by repeat (first | exact .nil | apply Pick.cons | exact .here | apply Ext.there))⟩) ?_
                    intro _ _
                    refine RW.v 5 rfl (by kernel_rfl) (by kernel_rfl) (by kernel_rfl) (fun _ _ _ h => h) rfl rfl (Val.appendNil0 (sz := 5) (bytes := 40) (z := .agg #[.int .i64 0, .int .i64 0, .int .u64 0, .int .u64 0, .int .i64 0]) rfl rfl Try.underlying86 (by kernel_rfl)) ?_
                    refine RW.e 7 rfl (by kernel_rfl) rfl rfl (Eff.buildSlice (rfl) [_, _, _, _, _] Try.underlying86 Try.sizeOf80 (by exact Try.zeroValue80) rfl rfl rfl rfl (by rfl)) (fun x => ⟨_, (by repeat (first | exact .nil | apply Pick.cons | exact .here | apply Ext.there))⟩) ?_
                    intro b46 _
                    refine RW.e 8 rfl (by kernel_rfl) rfl rfl (Eff.append (enC x) (sz := 5) (bytes := 40) (z := .agg #[.int .i64 0, .int .i64 0, .int .u64 0, .int .u64 0, .int .i64 0]) (xs := [] ++ [].flatMap enC) (m0 := 0 + [].length) (o := none) (m := 1) rfl rfl Try.underlying86 (by kernel_rfl) rfl (by omega) .nil ⟨rfl, rfl⟩ (by omega) rfl (fun w hw => V.range_of_block (o := 0) (cs := enC x) (r := []) (hw.own _ (show InS (b46, .cells (enC x).toArray 80 (0, 0)) _ from (by repeat (first | exact .here | refine .there ?_))).mem) rfl) rfl (by first | omega | (simp only [List.length_nil]; omega)) (by first | omega | (simp only [List.length_nil]; omega))) (fun x => ⟨_, (by repeat (first | exact .nil | apply Pick.cons | exact .here | apply Ext.there))⟩) ?_
                    rintro o3 ⟨ho3, hs3⟩
                    obtain ⟨⟨g3, rest3, cap3⟩, rfl⟩ := Option.isSome_iff_exists.1 hs3
                    refine RW.v 9 rfl (by kernel_rfl) (by kernel_rfl) (by kernel_rfl) (fun _ _ _ h => h) rfl rfl (Val.nilCheck rfl) ?_
                    refine RW.v 10 rfl (by kernel_rfl) (by kernel_rfl) (by kernel_rfl) (fun _ _ _ h => h) rfl rfl (Val.fieldAddr 0 rfl Try.underlying95 rfl rfl Try.sizeOf86) ?_
                    refine RW.eN 11 rfl (by kernel_rfl) rfl (Eff.store rfl rfl rfl (by repeat (first | exact .here | apply Upd.there)) rfl rfl Try.sizeOf86) (fun x => ⟨_, (by repeat (first | exact .nil | apply Pick.cons | exact .here | apply Ext.there))⟩) ?_
                    intro _ _
                    refine RW.done (by kernel_rfl) ?_
                    refine PQ.seq ?_
                    refine CW.seq ?_
                    refine CW.region ?_
                    refine LW.v rfl rfl (Val.assign rfl) ?_
                    refine LW.nil ?_
                    refine PQ.seq ?_
                    refine CW.ret ?_
                    refine PQ.ret1 rfl rfl ?_
                    intro w' hw
                    rw [show putF x [] = ([] ++ [x], 0) from (if_pos (by unfold May; omega)).trans (if_pos (by first | omega | (simp only [List.length_nil]; omega)))]
                    have ho4 : V.ownOk 5 ([] ++ [x]).length (([] ++ [x]).flatMap enC) (some (g3, rest3, cap3)) := by have := ho3; rw [flat_snoc, List.length_append]; simpa using this
                    refine ⟨some (g3, rest3, cap3), bg_of_own ho4, rfl, ?_⟩
                    unfold bgG bgA bgV enCs
                    rw [flat_snoc, List.length_append]
                    simp only [Nat.zero_add, List.nil_append] at hw
                    exact hw.pick (by repeat (first | exact .nil | apply Pick.cons | exact .here | apply Ext.there))
                  · refine RO.e rfl rfl rfl (Eff.buildSlice (rfl) [_, _, _, _, _] Try.underlying86 Try.sizeOf80 (by exact Try.zeroValue80) rfl rfl rfl rfl (by rfl)) (fun x => ⟨_, (by repeat (first | exact .nil | apply Pick.cons | exact .here | apply Ext.there))⟩) ?_
                    intro b46 _
                    refine RW.e 4 rfl (by kernel_rfl) rfl rfl (Eff.ofVal (Val.load rfl Try.isAgg86 (by repeat (first | exact .here | refine .there ?_)) (by rfl))) (fun x => ⟨_, (by repeat (first | exact .nil | apply Pick.cons | exact .here | apply Ext.there))⟩) ?_
                    intro _ _
                    refine RW.v 5 rfl (by kernel_rfl) (by kernel_rfl) (by kernel_rfl) (fun _ _ _ h => h) rfl rfl (Val.appendNil0 (sz := 5) (bytes := 40) (z := .agg #[.int .i64 0, .int .i64 0, .int .u64 0, .int .u64 0, .int .i64 0]) rfl rfl Try.underlying86 (by kernel_rfl)) ?_
                    refine RW.e 8 rfl (by kernel_rfl) rfl rfl (Eff.append (enC x) (sz := 5) (bytes := 40) (z := .agg #[.int .i64 0, .int .i64 0, .int .u64 0, .int .u64 0, .int .i64 0]) (xs := [] ++ [].flatMap enC) (m0 := 0 + [].length) (o := none) (m := 1) rfl rfl Try.underlying86 (by kernel_rfl) rfl (by omega) .nil ⟨rfl, rfl⟩ (by omega) rfl (fun w hw => V.range_of_block (o := 0) (cs := enC x) (r := []) (hw.own _ (show InS (b46, .cells (enC x).toArray 80 (0, 0)) _ from (by repeat (first | exact .here | refine .there ?_))).mem) rfl) rfl (by first | omega | (simp only [List.length_nil]; omega)) (by first | omega | (simp only [List.length_nil]; omega))) (fun x => ⟨_, (by repeat (first | exact .nil | apply Pick.cons | exact .here | apply Ext.there))⟩) ?_
                    rintro o3 ⟨ho3, hs3⟩
                    obtain ⟨⟨g3, rest3, cap3⟩, rfl⟩ := Option.isSome_iff_exists.1 hs3
                    refine RW.v 9 rfl (by kernel_rfl) (by kernel_rfl) (by kernel_rfl) (fun _ _ _ h => h) rfl rfl (Val.nilCheck rfl) ?_
                    refine RW.v 10 rfl (by kernel_rfl) (by kernel_rfl) (by kernel_rfl) (fun _ _ _ h => h) rfl rfl (Val.fieldAddr 0 rfl Try.underlying95 rfl rfl Try.sizeOf86) ?_
                    refine RW.eN 11 rfl (by kernel_rfl) rfl (Eff.store rfl rfl rfl (by repeat (first | exact .here | apply Upd.there)) rfl rfl Try.sizeOf86) (fun x => ⟨_, (by repeat (first | exact .nil | apply Pick.cons | exact .here | apply Ext.there))⟩) ?_
                    intro _ _
                    refine RW.done (by kernel_rfl) ?_
                    refine PQ.seq ?_
                    refine CW.seq ?_
                    refine CW.region ?_
                    refine LW.v rfl rfl (Val.assign rfl) ?_
                    refine LW.nil ?_
                    refine PQ.seq ?_
                    refine CW.ret ?_
                    refine PQ.ret1 rfl rfl ?_
                    intro w' hw
                    rw [show putF x [] = ([] ++ [x], 0) from (if_pos (by unfold May; omega)).trans (if_pos (by first | omega | (simp only [List.length_nil]; omega)))]
                    have ho4 : V.ownOk 5 ([] ++ [x]).length (([] ++ [x]).flatMap enC) (some (g3, rest3, cap3)) := by have := ho3; rw [flat_snoc, List.length_append]; simpa using this
                    refine ⟨some (g3, rest3, cap3), bg_of_own ho4, rfl, ?_⟩
                    unfold bgG bgA bgV enCs
                    rw [flat_snoc, List.length_append]
                    simp only [Nat.zero_add, List.nil_append] at hw
                    exact hw.pick (by repeat (first | exact .nil | apply Pick.cons | exact .here | apply Ext.there))
  · refine V.calls (bgG 95 b (some (g, rest, cap)) l) Try.func70 rfl Try.ntmps70 (Nat.le_of_ble_eq_true rfl) hs ?_
    refine CW.seq ?_
    refine CW.region ?_
    refine LW.e rfl rfl (Eff.boxA rfl) ?_
    intro b3 _
    refine LW.v rfl rfl (Val.assign rfl) ?_
    refine LW.nil ?_
    refine PQ.seq ?_
    refine CW.seq ?_
    refine CW.seq ?_
    refine CW.region ?_
    refine LW.v rfl rfl (Val.fieldAddr 0 rfl Try.underlying80 rfl rfl Try.sizeOf3) ?_
    refine LW.v rfl rfl (Val.load rfl Try.isAgg3 (by repeat (first | exact .here | refine .there ?_)) (by rfl)) ?_
    refine LW.v rfl rfl (Val.cmp rfl rfl rfl) ?_
    refine LW.v rfl rfl (Val.move rfl) ?_
    refine LW.split (d := 8) rfl (fun h8 => ?_) (fun h8 => ?_)
    · replace h8 := bT h8
      refine LW.p rfl rfl ?_
      refine LW.p rfl rfl ?_
      refine LW.p rfl rfl ?_
      refine LW.v rfl rfl (Val.pick_t rfl rfl) ?_
      refine LW.v rfl rfl (Val.move rfl) ?_
      refine LW.p rfl rfl ?_
      refine LW.p rfl rfl ?_
      refine LW.p rfl rfl ?_
      refine LW.v rfl rfl (Val.pick_t rfl rfl) ?_
      refine LW.v rfl rfl (Val.move rfl) ?_
      refine LW.p rfl rfl ?_
      refine LW.p rfl rfl ?_
      refine LW.p rfl rfl ?_
      refine LW.v rfl rfl (Val.pick_t rfl rfl) ?_
      refine LW.v rfl rfl (Val.move rfl) ?_
      refine LW.p rfl rfl ?_
      refine LW.p rfl rfl ?_
      refine LW.p rfl rfl ?_
      refine LW.v rfl rfl (Val.pick_t rfl rfl) ?_
      refine LW.v rfl rfl (Val.move rfl) ?_
      refine LW.p rfl rfl ?_
      refine LW.p rfl rfl ?_
      refine LW.p rfl rfl ?_
      refine LW.v rfl rfl (Val.pick_t rfl rfl) ?_
      refine LW.nil ?_
      refine PQ.seq ?_
      refine CW.cond_t rfl ?_
      refine CW.seq ?_
      refine CW.region ?_
      refine LW.v rfl rfl (Val.assign rfl) ?_
      refine LW.nil ?_
      refine PQ.seq ?_
      refine CW.ret ?_
      refine PQ.then_ret ?_
      refine PQ.ret1 rfl rfl ?_
      intro w' hw
      rw [show putF x l = (l, 1) from if_neg (by unfold May; omega)]
      exact ⟨(some (g, rest, cap)), hk, rfl, hw.pick (by repeat (first | exact .nil | apply Pick.cons | exact .here | apply Ext.there))⟩
    · replace h8 := bF h8
      refine LW.v rfl rfl (Val.fieldAddr 0 rfl Try.underlying80 rfl rfl Try.sizeOf3) ?_
      refine LW.v rfl rfl (Val.load rfl Try.isAgg3 (by repeat (first | exact .here | refine .there ?_)) (by rfl)) ?_
      refine LW.v rfl rfl (Val.cmp rfl rfl rfl) ?_
      refine LW.v rfl rfl (Val.pick_f rfl rfl) ?_
      refine LW.v rfl rfl (Val.move rfl) ?_
      refine LW.split (d := 13) rfl (fun h13 => ?_) (fun h13 => ?_)
      · replace h13 := bT h13
        refine LW.p rfl rfl ?_
        refine LW.p rfl rfl ?_
        refine LW.p rfl rfl ?_
        refine LW.v rfl rfl (Val.pick_t rfl rfl) ?_
        refine LW.v rfl rfl (Val.move rfl) ?_
        refine LW.p rfl rfl ?_
        refine LW.p rfl rfl ?_
        refine LW.p rfl rfl ?_
        refine LW.v rfl rfl (Val.pick_t rfl rfl) ?_
        refine LW.v rfl rfl (Val.move rfl) ?_
        refine LW.p rfl rfl ?_
        refine LW.p rfl rfl ?_
        refine LW.p rfl rfl ?_
        refine LW.v rfl rfl (Val.pick_t rfl rfl) ?_
        refine LW.v rfl rfl (Val.move rfl) ?_
        refine LW.p rfl rfl ?_
        refine LW.p rfl rfl ?_
        refine LW.p rfl rfl ?_
        refine LW.v rfl rfl (Val.pick_t rfl rfl) ?_
        refine LW.nil ?_
        refine PQ.seq ?_
        refine CW.cond_t rfl ?_
        refine CW.seq ?_
        refine CW.region ?_
        refine LW.v rfl rfl (Val.assign rfl) ?_
        refine LW.nil ?_
        refine PQ.seq ?_
        refine CW.ret ?_
        refine PQ.then_ret ?_
        refine PQ.ret1 rfl rfl ?_
        intro w' hw
        rw [show putF x l = (l, 1) from if_neg (by unfold May; omega)]
        exact ⟨(some (g, rest, cap)), hk, rfl, hw.pick (by repeat (first | exact .nil | apply Pick.cons | exact .here | apply Ext.there))⟩
      · replace h13 := bF h13
        refine LW.v rfl rfl (Val.fieldAddr 1 rfl Try.underlying80 rfl rfl Try.sizeOf3) ?_
        refine LW.v rfl rfl (Val.load rfl Try.isAgg3 (by repeat (first | exact .here | refine .there ?_)) (by rfl)) ?_
        refine LW.v rfl rfl (Val.cmp rfl rfl rfl) ?_
        refine LW.v rfl rfl (Val.pick_f rfl rfl) ?_
        refine LW.v rfl rfl (Val.move rfl) ?_
        refine LW.split (d := 18) rfl (fun h18 => ?_) (fun h18 => ?_)
        · replace h18 := bT h18
          refine LW.p rfl rfl ?_
          refine LW.p rfl rfl ?_
          refine LW.p rfl rfl ?_
          refine LW.v rfl rfl (Val.pick_t rfl rfl) ?_
          refine LW.v rfl rfl (Val.move rfl) ?_
          refine LW.p rfl rfl ?_
          refine LW.p rfl rfl ?_
          refine LW.p rfl rfl ?_
          refine LW.v rfl rfl (Val.pick_t rfl rfl) ?_
          refine LW.v rfl rfl (Val.move rfl) ?_
          refine LW.p rfl rfl ?_
          refine LW.p rfl rfl ?_
          refine LW.p rfl rfl ?_
          refine LW.v rfl rfl (Val.pick_t rfl rfl) ?_
          refine LW.nil ?_
          refine PQ.seq ?_
          refine CW.cond_t rfl ?_
          refine CW.seq ?_
          refine CW.region ?_
          refine LW.v rfl rfl (Val.assign rfl) ?_
          refine LW.nil ?_
          refine PQ.seq ?_
          refine CW.ret ?_
          refine PQ.then_ret ?_
          refine PQ.ret1 rfl rfl ?_
          intro w' hw
          rw [show putF x l = (l, 1) from if_neg (by unfold May; omega)]
          exact ⟨(some (g, rest, cap)), hk, rfl, hw.pick (by repeat (first | exact .nil | apply Pick.cons | exact .here | apply Ext.there))⟩
        · replace h18 := bF h18
          refine LW.v rfl rfl (Val.fieldAddr 1 rfl Try.underlying80 rfl rfl Try.sizeOf3) ?_
          refine LW.v rfl rfl (Val.load rfl Try.isAgg3 (by repeat (first | exact .here | refine .there ?_)) (by rfl)) ?_
          refine LW.v rfl rfl (Val.cmp rfl rfl rfl) ?_
          refine LW.v rfl rfl (Val.pick_f rfl rfl) ?_
          refine LW.v rfl rfl (Val.move rfl) ?_
          refine LW.split (d := 23) rfl (fun h23 => ?_) (fun h23 => ?_)
          · replace h23 := bT h23
            refine LW.p rfl rfl ?_
            refine LW.p rfl rfl ?_
            refine LW.p rfl rfl ?_
            refine LW.v rfl rfl (Val.pick_t rfl rfl) ?_
            refine LW.v rfl rfl (Val.move rfl) ?_
            refine LW.p rfl rfl ?_
            refine LW.p rfl rfl ?_
            refine LW.p rfl rfl ?_
            refine LW.v rfl rfl (Val.pick_t rfl rfl) ?_
            refine LW.nil ?_
            refine PQ.seq ?_
            refine CW.cond_t rfl ?_
            refine CW.seq ?_
            refine CW.region ?_
            refine LW.v rfl rfl (Val.assign rfl) ?_
            refine LW.nil ?_
            refine PQ.seq ?_
            refine CW.ret ?_
            refine PQ.then_ret ?_
            refine PQ.ret1 rfl rfl ?_
            intro w' hw
            rw [show putF x l = (l, 1) from if_neg (by unfold May; omega)]
            exact ⟨(some (g, rest, cap)), hk, rfl, hw.pick (by repeat (first | exact .nil | apply Pick.cons | exact .here | apply Ext.there))⟩
          · replace h23 := bF h23
            refine LW.v rfl rfl (Val.fieldAddr 4 rfl Try.underlying80 rfl rfl Try.sizeOf3) ?_
            refine LW.v rfl rfl (Val.load rfl Try.isAgg3 (by repeat (first | exact .here | refine .there ?_)) (by rfl)) ?_
            refine LW.v rfl rfl (Val.cmp rfl rfl rfl) ?_
            refine LW.v rfl rfl (Val.pick_f rfl rfl) ?_
            refine LW.v rfl rfl (Val.move rfl) ?_
            refine LW.split (d := 28) rfl (fun h28 => ?_) (fun h28 => ?_)
            · replace h28 := bT h28
              refine LW.p rfl rfl ?_
              refine LW.p rfl rfl ?_
              refine LW.p rfl rfl ?_
              refine LW.v rfl rfl (Val.pick_t rfl rfl) ?_
              refine LW.nil ?_
              refine PQ.seq ?_
              refine CW.cond_t rfl ?_
              refine CW.seq ?_
              refine CW.region ?_
              refine LW.v rfl rfl (Val.assign rfl) ?_
              refine LW.nil ?_
              refine PQ.seq ?_
              refine CW.ret ?_
              refine PQ.then_ret ?_
              refine PQ.ret1 rfl rfl ?_
              intro w' hw
              rw [show putF x l = (l, 1) from if_neg (by unfold May; omega)]
              exact ⟨(some (g, rest, cap)), hk, rfl, hw.pick (by repeat (first | exact .nil | apply Pick.cons | exact .here | apply Ext.there))⟩
            · replace h28 := bF h28
              refine LW.v rfl rfl (Val.fieldAddr 4 rfl Try.underlying80 rfl rfl Try.sizeOf3) ?_
              refine LW.v rfl rfl (Val.load rfl Try.isAgg3 (by repeat (first | exact .here | refine .there ?_)) (by rfl)) ?_
              refine LW.v rfl rfl (Val.cmp rfl rfl rfl) ?_
              refine LW.v rfl rfl (Val.pick_f rfl rfl) ?_
              refine LW.nil ?_
              refine PQ.seq ?_
              refine CW.cond rfl (fun h32 => ?_) (fun h32 => ?_)
              · replace h32 := bT h32
                refine CW.seq ?_
                refine CW.region ?_
                refine LW.v rfl rfl (Val.assign rfl) ?_
                refine LW.nil ?_
                refine PQ.seq ?_
                refine CW.ret ?_
                refine PQ.then_ret ?_
                refine PQ.ret1 rfl rfl ?_
                intro w' hw
                rw [show putF x l = (l, 1) from if_neg (by unfold May; omega)]
                exact ⟨(some (g, rest, cap)), hk, rfl, hw.pick (by repeat (first | exact .nil | apply Pick.cons | exact .here | apply Ext.there))⟩
              · replace h32 := bF h32
                refine CW.skip ?_
                refine PQ.seq ?_
                refine CW.seq ?_
                refine CW.seq ?_
                refine CW.region ?_
                refine LW.v rfl rfl (Val.move rfl) ?_
                refine LW.v rfl rfl (Val.nilCheck rfl) ?_
                refine LW.v rfl rfl (Val.fieldAddr 0 rfl Try.underlying95 rfl rfl Try.sizeOf86) ?_
                refine LW.v rfl rfl (Val.load rfl Try.isAgg86 (by repeat (first | exact .here | refine .there ?_)) (by rfl)) ?_
                refine LW.v rfl rfl (Val.lenSl rfl Try.underlying86) ?_
                refine LW.v rfl rfl (Val.cmp rfl rfl rfl) ?_
                refine LW.nil ?_
                refine PQ.seq ?_
                refine CW.cond rfl (fun h38 => ?_) (fun h38 => ?_)
                · replace h38 := bT h38
                  refine CW.seq ?_
                  refine CW.region ?_
                  refine LW.v rfl rfl (Val.assign rfl) ?_
                  refine LW.nil ?_
                  refine PQ.seq ?_
                  refine CW.ret ?_
                  refine PQ.then_ret ?_
                  refine PQ.ret1 rfl rfl ?_
                  intro w' hw
                  rw [show putF x l = (l, 11) from (if_pos (by unfold May; omega)).trans (if_neg (by omega))]
                  exact ⟨(some (g, rest, cap)), hk, rfl, hw.pick (by repeat (first | exact .nil | apply Pick.cons | exact .here | apply Ext.there))⟩
                · replace h38 := bF h38
                  refine CW.skip ?_
                  refine PQ.seq ?_
                  refine CW.seq ?_
                  refine CW.drawn ([[(b3, .cells (enC x).toArray 80 (0, 0))]]) mixed (by repeat (first | exact .nil | apply Pick.cons | exact .here | apply Ext.there)) ?_
                  refine RW.v 0 rfl (by kernel_rfl) (by kernel_rfl) (by kernel_rfl) (fun _ _ _ h => h) rfl rfl (Val.move rfl) ?_
                  refine RW.v 1 rfl (by kernel_rfl) (by kernel_rfl) (by kernel_rfl) (fun _ _ _ h => h) rfl rfl (Val.move rfl) ?_
                  refine RW.v 2 rfl (by kernel_rfl) (by kernel_rfl) (by kernel_rfl) (fun _ _ _ h => h) rfl rfl (Val.nilCheck rfl) ?_
                  refine RW.v 3 rfl (by kernel_rfl) (by kernel_rfl) (by kernel_rfl) (fun _ _ _ h => h) rfl rfl (Val.fieldAddr 0 rfl Try.underlying95 rfl rfl Try.sizeOf86) ?_
                  first | (refine RW.v 6 rfl (by kernel_rfl) (by kernel_rfl) (by kernel_rfl) (fun _ _ _ h => h) rfl rfl (Val.loadW rfl Try.isAgg80 (by repeat (first | exact .here | refine .there ?_)) (by exact Try.sizeOf80)) ?_) | (refine RW.v 6 rfl (by kernel_rfl) (by kernel_rfl) (by kernel_rfl) (fun _ _ _ h => h) rfl rfl (Val.loadA [_, _, _, _, _] rfl Try.isAgg80 (by repeat (first | exact .here | refine .there ?_)) (by rfl) Try.sizeOf80) ?_)
                  refine RW.any [4, 7] (by kernel_rfl) (by simp) ?_
                  intro i hi
                  simp only [List.mem_cons, List.not_mem_nil, or_false] at hi
                  rcases hi with rfl | rfl
                  · refine RO.e rfl rfl rfl (Eff.ofVal (Val.load rfl Try.isAgg86 (by repeat (first | exact .here | refine .there ?_)) (by rfl))) (fun x => ⟨_, (by repeat (first | exact .nil | apply Pick.cons | exact .here | apply Ext.there))⟩) ?_
                    intro _ _
                    refine RW.any [5, 7] (by kernel_rfl) (by simp) ?_
                    intro i hi
                    simp only [List.mem_cons, List.not_mem_nil, or_false] at hi
                    rcases hi with rfl | rfl
                    · refine RO.e rfl rfl rfl (Eff.append (l.flatMap enC) (sz := 5) (bytes := 40) (z := .agg #[.int .i64 0, .int .i64 0, .int .u64 0, .int .u64 0, .int .i64 0]) (xs := []) (m0 := 0) (o := none) (m := l.length) rfl rfl Try.underlying86 (by kernel_rfl) rfl (by omega) .nil ⟨rfl, rfl⟩ (by omega) (flat_length l) (fun w hw => V.range_of_block (o := 0) (cs := l.flatMap enC) (r := rest) (hw.own _ (show InS (g, .cells (enCs l rest).toArray 80 (0, 0)) _ from (by repeat (first | exact .here | refine .there ?_))).mem) rfl) (hone l) (by omega) (by omega)) (fun x => ⟨_, (by repeat (first | exact .nil | apply Pick.cons | exact .here | apply Ext.there))⟩) ?_
                      rintro o2 ⟨ho2, hs2⟩
                      obtain ⟨⟨g2, rest2, cap2⟩, rfl⟩ := Option.isSome_iff_exists.1 hs2
                      refine RW.e 7 rfl (by kernel_rfl) rfl rfl (Eff.buildSlice (rfl) [_, _, _, _, _] Try.underlying86 Try.sizeOf80 (by exact Try.zeroValue80) rfl rfl rfl rfl (by rfl)) (fun x => ⟨_, (by repeat (first | exact .nil | apply Pick.cons | exact .here | apply Ext.there))⟩) ?_
                      intro b46 _
                      refine RW.e 8 rfl (by kernel_rfl) rfl rfl (Eff.append (enC x) (sz := 5) (bytes := 40) (z := .agg #[.int .i64 0, .int .i64 0, .int .u64 0, .int .u64 0, .int .i64 0]) (xs := [] ++ l.flatMap enC) (m0 := 0 + l.length) (o := some (g2, rest2, cap2)) (m := 1) rfl rfl Try.underlying86 (by kernel_rfl) rfl (by omega) (by repeat (first | exact .nil | apply Pick.cons | exact .here | apply Ext.there)) ho2 (by omega) rfl (fun w hw => V.range_of_block (o := 0) (cs := enC x) (r := []) (hw.own _ (show InS (b46, .cells (enC x).toArray 80 (0, 0)) _ from (by repeat (first | exact .here | refine .there ?_))).mem) rfl) rfl (by first | omega | (simp only [List.length_nil]; omega)) (by first | omega | (simp only [List.length_nil]; omega))) (fun x => ⟨_, (by repeat (first | exact .nil | apply Pick.cons | exact .here | apply Ext.there))⟩) ?_
                      rintro o3 ⟨ho3, hs3⟩
                      obtain ⟨⟨g3, rest3, cap3⟩, rfl⟩ := Option.isSome_iff_exists.1 hs3
                      refine RW.v 9 rfl (by kernel_rfl) (by kernel_rfl) (by kernel_rfl) (fun _ _ _ h => h) rfl rfl (Val.nilCheck rfl) ?_
                      refine RW.v 10 rfl (by kernel_rfl) (by kernel_rfl) (by kernel_rfl) (fun _ _ _ h => h) rfl rfl (Val.fieldAddr 0 rfl Try.underlying95 rfl rfl Try.sizeOf86) ?_
                      refine RW.eN 11 rfl (by kernel_rfl) rfl (Eff.store rfl rfl rfl (by repeat (first | exact .here | apply Upd.there)) rfl rfl Try.sizeOf86) (fun x => ⟨_, (by repeat (first | exact .nil | apply Pick.cons | exact .here | apply Ext.there))⟩) ?_
                      intro _ _
                      refine RW.done (by kernel_rfl) ?_
                      refine PQ.seq ?_
                      refine CW.seq ?_
                      refine CW.region ?_
                      refine LW.v rfl rfl (Val.assign rfl) ?_
                      refine LW.nil ?_
                      refine PQ.seq ?_
                      refine CW.ret ?_
                      refine PQ.ret1 rfl rfl ?_
                      intro w' hw
                      rw [show putF x l = (l ++ [x], 0) from (if_pos (by unfold May; omega)).trans (if_pos (by first | omega | (simp only [List.length_nil]; omega)))]
                      have ho4 : V.ownOk 5 (l ++ [x]).length ((l ++ [x]).flatMap enC) (some (g3, rest3, cap3)) := by have := ho3; rw [flat_snoc, List.length_append]; simpa using this
                      refine ⟨some (g3, rest3, cap3), bg_of_own ho4, rfl, ?_⟩
                      unfold bgG bgA bgV enCs
                      rw [flat_snoc, List.length_append]
                      simp only [Nat.zero_add, List.nil_append] at hw
                      exact hw.pick (by repeat (first | exact .nil | apply Pick.cons | exact .here | apply Ext.there))
                    · refine RO.e rfl rfl rfl (Eff.buildSlice (rfl) [_, _, _, _, _] Try.underlying86 Try.sizeOf80 (by exact Try.zeroValue80) rfl rfl rfl rfl (by rfl)) (fun x => ⟨_, (by repeat (first | exact .nil | apply Pick.cons | exact .here | apply Ext.there))⟩) ?_
                      intro b46 _
                      refine RW.e 5 rfl (by kernel_rfl) rfl rfl (Eff.append (l.flatMap enC) (sz := 5) (bytes := 40) (z := .agg #[.int .i64 0, .int .i64 0, .int .u64 0, .int .u64 0, .int .i64 0]) (xs := []) (m0 := 0) (o := none) (m := l.length) rfl rfl Try.underlying86 (by kernel_rfl) rfl (by omega) .nil ⟨rfl, rfl⟩ (by omega) (flat_length l) (fun w hw => V.range_of_block (o := 0) (cs := l.flatMap enC) (r := rest) (hw.own _ (show InS (g, .cells (enCs l rest).toArray 80 (0, 0)) _ from (by repeat (first | exact .here | refine .there ?_))).mem) rfl) (hone l) (by omega) (by omega)) (fun x => ⟨_, (by repeat (first | exact .nil | apply Pick.cons | exact .here | apply Ext.there))⟩) ?_
                      rintro o2 ⟨ho2, hs2⟩
                      obtain ⟨⟨g2, rest2, cap2⟩, rfl⟩ := Option.isSome_iff_exists.1 hs2
                      refine RW.e 8 rfl (by kernel_rfl) rfl rfl (Eff.append (enC x) (sz := 5) (bytes := 40) (z := .agg #[.int .i64 0, .int .i64 0, .int .u64 0, .int .u64 0, .int .i64 0]) (xs := [] ++ l.flatMap enC) (m0 := 0 + l.length) (o := some (g2, rest2, cap2)) (m := 1) rfl rfl Try.underlying86 (by kernel_rfl) rfl (by omega) (by repeat (first | exact .nil | apply Pick.cons | exact .here | apply Ext.there)) ho2 (by omega) rfl (fun w hw => V.range_of_block (o := 0) (cs := enC x) (r := []) (hw.own _ (show InS (b46, .cells (enC x).toArray 80 (0, 0)) _ from (by repeat (first | exact .here | refine .there ?_))).mem) rfl) rfl (by first | omega | (simp only [List.length_nil]; omega)) (by first | omega | (simp only [List.length_nil]; omega))) (fun x => ⟨_, (by repeat (first | exact .nil | apply Pick.cons | exact .here | apply Ext.there))⟩) ?_
                      rintro o3 ⟨ho3, hs3⟩
                      obtain ⟨⟨g3, rest3, cap3⟩, rfl⟩ := Option.isSome_iff_exists.1 hs3
                      refine RW.v 9 rfl (by kernel_rfl) (by kernel_rfl) (by kernel_rfl) (fun _ _ _ h => h) rfl rfl (Val.nilCheck rfl) ?_
                      refine RW.v 10 rfl (by kernel_rfl) (by kernel_rfl) (by kernel_rfl) (fun _ _ _ h => h) rfl rfl (Val.fieldAddr 0 rfl Try.underlying95 rfl rfl Try.sizeOf86) ?_
                      refine RW.eN 11 rfl (by kernel_rfl) rfl (Eff.store rfl rfl rfl (by repeat (first | exact .here | apply Upd.there)) rfl rfl Try.sizeOf86) (fun x => ⟨_, (by repeat (first | exact .nil | apply Pick.cons | exact .here | apply Ext.there))⟩) ?_
                      intro _ _
                      refine RW.done (by kernel_rfl) ?_
                      refine PQ.seq ?_
                      refine CW.seq ?_
                      refine CW.region ?_
                      refine LW.v rfl rfl (Val.assign rfl) ?_
                      refine LW.nil ?_
                      refine PQ.seq ?_
                      refine CW.ret ?_
                      refine PQ.ret1 rfl rfl ?_
                      intro w' hw
                      rw [show putF x l = (l ++ [x], 0) from (if_pos (by unfold May; omega)).trans (if_pos (by first | omega | (simp only [List.length_nil]; omega)))]
                      have ho4 : V.ownOk 5 (l ++ [x]).length ((l ++ [x]).flatMap enC) (some (g3, rest3, cap3)) := by have := ho3; rw [flat_snoc, List.length_append]; simpa using this
                      refine ⟨some (g3, rest3, cap3), bg_of_own ho4, rfl, ?_⟩
                      unfold bgG bgA bgV enCs
                      rw [flat_snoc, List.length_append]
                      simp only [Nat.zero_add, List.nil_append] at hw
                      exact hw.pick (by repeat (first | exact .nil | apply Pick.cons | exact .here | apply Ext.there))
                  · refine RO.e rfl rfl rfl (Eff.buildSlice (rfl) [_, _, _, _, _] Try.underlying86 Try.sizeOf80 (by exact Try.zeroValue80) rfl rfl rfl rfl (by rfl)) (fun x => ⟨_, (by repeat (first | exact .nil | apply Pick.cons | exact .here | apply Ext.there))⟩) ?_
                    intro b46 _
                    refine RW.e 4 rfl (by kernel_rfl) rfl rfl (Eff.ofVal (Val.load rfl Try.isAgg86 (by repeat (first | exact .here | refine .there ?_)) (by rfl))) (fun x => ⟨_, (by repeat (first | exact .nil | apply Pick.cons | exact .here | apply Ext.there))⟩) ?_
                    intro _ _
                    refine RW.e 5 rfl (by kernel_rfl) rfl rfl (Eff.append (l.flatMap enC) (sz := 5) (bytes := 40) (z := .agg #[.int .i64 0, .int .i64 0, .int .u64 0, .int .u64 0, .int .i64 0]) (xs := []) (m0 := 0) (o := none) (m := l.length) rfl rfl Try.underlying86 (by kernel_rfl) rfl (by omega) .nil ⟨rfl, rfl⟩ (by omega) (flat_length l) (fun w hw => V.range_of_block (o := 0) (cs := l.flatMap enC) (r := rest) (hw.own _ (show InS (g, .cells (enCs l rest).toArray 80 (0, 0)) _ from (by repeat (first | exact .here | refine .there ?_))).mem) rfl) (hone l) (by omega) (by omega)) (fun x => ⟨_, (by repeat (first | exact .nil | apply Pick.cons | exact .here | apply Ext.there))⟩) ?_
                    rintro o2 ⟨ho2, hs2⟩
                    obtain ⟨⟨g2, rest2, cap2⟩, rfl⟩ := Option.isSome_iff_exists.1 hs2
                    refine RW.e 8 rfl (by kernel_rfl) rfl rfl (Eff.append (enC x) (sz := 5) (bytes := 40) (z := .agg #[.int .i64 0, .int .i64 0, .int .u64 0, .int .u64 0, .int .i64 0]) (xs := [] ++ l.flatMap enC) (m0 := 0 + l.length) (o := some (g2, rest2, cap2)) (m := 1) rfl rfl Try.underlying86 (by kernel_rfl) rfl (by omega) (by repeat (first | exact .nil | apply Pick.cons | exact .here | apply Ext.there)) ho2 (by omega) rfl (fun w hw => V.range_of_block (o := 0) (cs := enC x) (r := []) (hw.own _ (show InS (b46, .cells (enC x).toArray 80 (0, 0)) _ from (by repeat (first | exact .here | refine .there ?_))).mem) rfl) rfl (by first | omega | (simp only [List.length_nil]; omega)) (by first | omega | (simp only [List.length_nil]; omega))) (fun x => ⟨_, (by repeat (first | exact .nil | apply Pick.cons | exact .here | apply Ext.there))⟩) ?_
                    rintro o3 ⟨ho3, hs3⟩
                    obtain ⟨⟨g3, rest3, cap3⟩, rfl⟩ := Option.isSome_iff_exists.1 hs3
                    refine RW.v 9 rfl (by kernel_rfl) (by kernel_rfl) (by kernel_rfl) (fun _ _ _ h => h) rfl rfl (Val.nilCheck rfl) ?_
                    refine RW.v 10 rfl (by kernel_rfl) (by kernel_rfl) (by kernel_rfl) (fun _ _ _ h => h) rfl rfl (Val.fieldAddr 0 rfl Try.underlying95 rfl rfl Try.sizeOf86) ?_
                    refine RW.eN 11 rfl (by kernel_rfl) rfl (Eff.store rfl rfl rfl (by repeat (first | exact .here | apply Upd.there)) rfl rfl Try.sizeOf86) (fun x => ⟨_, (by repeat (first | exact .nil | apply Pick.cons | exact .here | apply Ext.there))⟩) ?_
                    intro _ _
                    refine RW.done (by kernel_rfl) ?_
                    refine PQ.seq ?_
                    refine CW.seq ?_
                    refine CW.region ?_
                    refine LW.v rfl rfl (Val.assign rfl) ?_
                    refine LW.nil ?_
                    refine PQ.seq ?_
                    refine CW.ret ?_
                    refine PQ.ret1 rfl rfl ?_
                    intro w' hw
                    rw [show putF x l = (l ++ [x], 0) from (if_pos (by unfold May; omega)).trans (if_pos (by first | omega | (simp only [List.length_nil]; omega)))]
                    have ho4 : V.ownOk 5 (l ++ [x]).length ((l ++ [x]).flatMap enC) (some (g3, rest3, cap3)) := by have := ho3; rw [flat_snoc, List.length_append]; simpa using this
                    refine ⟨some (g3, rest3, cap3), bg_of_own ho4, rfl, ?_⟩
                    unfold bgG bgA bgV enCs
                    rw [flat_snoc, List.length_append]
                    simp only [Nat.zero_add, List.nil_append] at hw
                    exact hw.pick (by repeat (first | exact .nil | apply Pick.cons | exact .here | apply Ext.there))
end Go.Proofs.Ytgeblajdjdcghaa
