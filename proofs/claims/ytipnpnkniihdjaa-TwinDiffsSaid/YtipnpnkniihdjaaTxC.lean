/- Two rows more, walked. -/
import Derived.Test.YtipnpnkniihdjaaTxB
import Derived.Lib.Hide
namespace Go.Proofs.Ytipnpnkniihdjaa
open Go Go.RowKit V
set_option linter.unusedVariables false
set_option maxRecDepth 100000
open V (str byC ownV ownG ownS ownOk)
theorem back_c (s1 s2 : Sf) (A B : ShA) (w : World) (hA : SfR w s1 A) (hB : SfR w s2 B) (hl : (A.1.length ≤ 9223372036854775807 ∧ A.2.length ≤ 9223372036854775807) ∧ B.1.length ≤ 9223372036854775807 ∧ B.2.length ≤ 9223372036854775807) : Calls Try.prog 5 [.agg s1.cells.toArray, .agg s2.cells.toArray].toArray w fun e w' => e = .returned (.bool true) ∧ Below w.heap.size w w' := by
  refine V.calls [] Try.func5 rfl Try.ntmps5 (Nat.le_of_ble_eq_true rfl) (V.sat_nil _) ?_
  refine CW.seq ?_
  refine CW.region ?_
  refine LW.e rfl rfl (Eff.boxA rfl) ?_
  intro b2 _
  refine LW.e rfl rfl (Eff.boxA rfl) ?_
  intro b3 _
  refine LW.v rfl rfl (Val.assign rfl) ?_
  refine LW.nil ?_
  refine PQ.seq ?_
  refine CW.seq ?_
  refine CW.seq ?_
  refine CW.region ?_
  first | (refine LW.v rfl rfl (Val.loadW rfl Try.isAgg25 (by repeat (first | exact .here | exact .inner .here | exact .inner (.inner .here) | refine .there ?_)) (by exact Try.sizeOf25)) ?_) | (refine LW.v rfl rfl (Val.loadA [_, _] rfl Try.isAgg25 (by repeat (first | exact .here | exact .inner .here | exact .inner (.inner .here) | refine .there ?_)) (by rfl) Try.sizeOf25) ?_)
  refine LW.e rfl rfl (Eff.callR rfl Try.call6 (fun w hw => great_c s1 A w (hA.hp hw (by simp [ids])) hl.1)) ?_
  intro z1 hz1
  refine LW.v rfl rfl (Val.move rfl) ?_
  refine LW.split (d := 7) rfl (fun h7 => ?_) (fun h7 => ?_)
  · replace h7 := bT h7
    refine LW.p rfl rfl ?_
    refine LW.p rfl rfl ?_
    refine LW.v rfl rfl (Val.pick_t rfl rfl) ?_
    refine LW.v rfl rfl (Val.move rfl) ?_
    refine LW.p rfl rfl ?_
    refine LW.p rfl rfl ?_
    refine LW.p rfl rfl ?_
    refine LW.v rfl rfl (Val.pick_t rfl rfl) ?_
    refine LW.v rfl rfl (Val.move rfl) ?_
    refine LW.p rfl rfl ?_
    refine LW.p rfl rfl ?_
    refine LW.p rfl rfl ?_
    refine LW.v rfl rfl (Val.pick_t rfl rfl) ?_
    refine LW.nil ?_
    refine PQ.seq ?_
    refine CW.cond_t rfl ?_
    refine CW.seq ?_
    refine CW.region ?_
    refine LW.e rfl rfl (Eff.callV rfl Try.call8 (fun w hw => awake_c w)) ?_
    intro _ _
    refine LW.v rfl rfl (Val.assign rfl) ?_
    refine LW.nil ?_
    refine PQ.seq ?_
    refine CW.ret ?_
    refine PQ.then_ret ?_
    refine PQ.ret1 rfl rfl ?_
    intro w' hw; exact ⟨by rfl, hw.below⟩
  · replace h7 := bF h7
    have hgA := hz1 h7
    first | (refine LW.v rfl rfl (Val.loadW rfl Try.isAgg25 (by repeat (first | exact .here | exact .inner .here | exact .inner (.inner .here) | refine .there ?_)) (by exact Try.sizeOf25)) ?_) | (refine LW.v rfl rfl (Val.loadA [_, _] rfl Try.isAgg25 (by repeat (first | exact .here | exact .inner .here | exact .inner (.inner .here) | refine .there ?_)) (by rfl) Try.sizeOf25) ?_)
    refine LW.e rfl rfl (Eff.callR rfl Try.call6 (fun w hw => great_c s2 B w (hB.hp hw (by simp [ids])) hl.2)) ?_
    intro z2 hz2
    refine LW.v rfl rfl (Val.pick_f rfl rfl) ?_
    refine LW.v rfl rfl (Val.move rfl) ?_
    refine LW.split (d := 11) rfl (fun h11 => ?_) (fun h11 => ?_)
    · replace h11 := bT h11
      refine LW.p rfl rfl ?_
      refine LW.p rfl rfl ?_
      refine LW.p rfl rfl ?_
      refine LW.v rfl rfl (Val.pick_t rfl rfl) ?_
      refine LW.v rfl rfl (Val.move rfl) ?_
      refine LW.p rfl rfl ?_
      refine LW.p rfl rfl ?_
      refine LW.p rfl rfl ?_
      refine LW.v rfl rfl (Val.pick_t rfl rfl) ?_
      refine LW.nil ?_
      refine PQ.seq ?_
      refine CW.cond_t rfl ?_
      refine CW.seq ?_
      refine CW.region ?_
      refine LW.e rfl rfl (Eff.callV rfl Try.call8 (fun w hw => awake_c w)) ?_
      intro _ _
      refine LW.v rfl rfl (Val.assign rfl) ?_
      refine LW.nil ?_
      refine PQ.seq ?_
      refine CW.ret ?_
      refine PQ.then_ret ?_
      refine PQ.ret1 rfl rfl ?_
      intro w' hw; exact ⟨by rfl, hw.below⟩
    · replace h11 := bF h11
      have hgB := hz2 h11
      first | (refine LW.v rfl rfl (Val.loadW rfl Try.isAgg25 (by repeat (first | exact .here | exact .inner .here | exact .inner (.inner .here) | refine .there ?_)) (by exact Try.sizeOf25)) ?_) | (refine LW.v rfl rfl (Val.loadA [_, _] rfl Try.isAgg25 (by repeat (first | exact .here | exact .inner .here | exact .inner (.inner .here) | refine .there ?_)) (by rfl) Try.sizeOf25) ?_)
      refine LW.e rfl rfl (Eff.callV rfl Try.call7 (fun w hw => fair_c s1 A w (hA.hp hw (by simp [ids])) (by obtain ⟨⟨h8, h9⟩, _⟩ := hgA; omega))) ?_
      intro _ _
      refine LW.v rfl rfl (Val.not rfl) ?_
      refine LW.v rfl rfl (Val.pick_f rfl rfl) ?_
      refine LW.v rfl rfl (Val.move rfl) ?_
      refine LW.split (d := 16) rfl (fun h16 => ?_) (fun h16 => ?_)
      · replace h16 := bT h16
        refine LW.p rfl rfl ?_
        refine LW.p rfl rfl ?_
        refine LW.p rfl rfl ?_
        refine LW.v rfl rfl (Val.pick_t rfl rfl) ?_
        refine LW.nil ?_
        refine PQ.seq ?_
        refine CW.cond_t rfl ?_
        refine CW.seq ?_
        refine CW.region ?_
        refine LW.e rfl rfl (Eff.callV rfl Try.call8 (fun w hw => awake_c w)) ?_
        intro _ _
        refine LW.v rfl rfl (Val.assign rfl) ?_
        refine LW.nil ?_
        refine PQ.seq ?_
        refine CW.ret ?_
        refine PQ.then_ret ?_
        refine PQ.ret1 rfl rfl ?_
        intro w' hw; exact ⟨by rfl, hw.below⟩
      · replace h16 := bF h16
        have hfA : fairB A = true := by simpa using h16
        first | (refine LW.v rfl rfl (Val.loadW rfl Try.isAgg25 (by repeat (first | exact .here | exact .inner .here | exact .inner (.inner .here) | refine .there ?_)) (by exact Try.sizeOf25)) ?_) | (refine LW.v rfl rfl (Val.loadA [_, _] rfl Try.isAgg25 (by repeat (first | exact .here | exact .inner .here | exact .inner (.inner .here) | refine .there ?_)) (by rfl) Try.sizeOf25) ?_)
        refine LW.e rfl rfl (Eff.callV rfl Try.call7 (fun w hw => fair_c s2 B w (hB.hp hw (by simp [ids])) (by obtain ⟨⟨h8, h9⟩, _⟩ := hgB; omega))) ?_
        intro _ _
        refine LW.v rfl rfl (Val.not rfl) ?_
        refine LW.v rfl rfl (Val.pick_f rfl rfl) ?_
        refine LW.nil ?_
        refine PQ.seq ?_
        refine CW.cond rfl (fun h20 => ?_) (fun h20 => ?_)
        · replace h20 := bT h20
          refine CW.seq ?_
          refine CW.region ?_
          refine LW.e rfl rfl (Eff.callV rfl Try.call8 (fun w hw => awake_c w)) ?_
          intro _ _
          refine LW.v rfl rfl (Val.assign rfl) ?_
          refine LW.nil ?_
          refine PQ.seq ?_
          refine CW.ret ?_
          refine PQ.then_ret ?_
          refine PQ.ret1 rfl rfl ?_
          intro w' hw; exact ⟨by rfl, hw.below⟩
        · replace h20 := bF h20
          have hfB : fairB B = true := by simpa using h20
          refine CW.skip ?_
          refine PQ.seq ?_
          refine CW.seq ?_
          obtain ⟨⟨g1, g2⟩, g3, g4⟩ := hgA
          obtain ⟨⟨g5, g6⟩, g7, g8⟩ := hgB
          have hdl := diff_len A B
          have hpl := pat_len A (diffF A B)
          have hdl2 := diff_len B A
          have hpl2 := pat_len B (diffF B A)
          have hst := diff_steps hfA hfB
          have hst2 := diff_steps hfB hfA
          refine CW.drawn ([[(b2, .cells s1.cells.toArray 25 (0, 0))], [(b3, .cells s2.cells.toArray 25 (0, 0))]]) mixed (by repeat (first | exact .nil | apply Pick.cons | exact .here | apply Ext.there)) ?_
          first | (refine RW.v 0 rfl (by kernel_rfl) (by kernel_rfl) (by kernel_rfl) (fun _ _ _ h => h) rfl rfl (Val.loadW rfl Try.isAgg25 (by repeat (first | exact .here | exact .inner .here | exact .inner (.inner .here) | refine .there ?_)) (by exact Try.sizeOf25)) ?_) | (refine RW.v 0 rfl (by kernel_rfl) (by kernel_rfl) (by kernel_rfl) (fun _ _ _ h => h) rfl rfl (Val.loadA [_, _] rfl Try.isAgg25 (by repeat (first | exact .here | exact .inner .here | exact .inner (.inner .here) | refine .there ?_)) (by rfl) Try.sizeOf25) ?_)
          first | (refine RW.v 1 rfl (by kernel_rfl) (by kernel_rfl) (by kernel_rfl) (fun _ _ _ h => h) rfl rfl (Val.loadW rfl Try.isAgg25 (by repeat (first | exact .here | exact .inner .here | exact .inner (.inner .here) | refine .there ?_)) (by exact Try.sizeOf25)) ?_) | (refine RW.v 1 rfl (by kernel_rfl) (by kernel_rfl) (by kernel_rfl) (fun _ _ _ h => h) rfl rfl (Val.loadA [_, _] rfl Try.isAgg25 (by repeat (first | exact .here | exact .inner .here | exact .inner (.inner .here) | refine .there ?_)) (by rfl) Try.sizeOf25) ?_)
          first | (refine RW.v 2 rfl (by kernel_rfl) (by kernel_rfl) (by kernel_rfl) (fun _ _ _ h => h) rfl rfl (Val.loadW rfl Try.isAgg25 (by repeat (first | exact .here | exact .inner .here | exact .inner (.inner .here) | refine .there ?_)) (by exact Try.sizeOf25)) ?_) | (refine RW.v 2 rfl (by kernel_rfl) (by kernel_rfl) (by kernel_rfl) (fun _ _ _ h => h) rfl rfl (Val.loadA [_, _] rfl Try.isAgg25 (by repeat (first | exact .here | exact .inner .here | exact .inner (.inner .here) | refine .there ?_)) (by rfl) Try.sizeOf25) ?_)
          first | (refine RW.v 5 rfl (by kernel_rfl) (by kernel_rfl) (by kernel_rfl) (fun _ _ _ h => h) rfl rfl (Val.loadW rfl Try.isAgg25 (by repeat (first | exact .here | exact .inner .here | exact .inner (.inner .here) | refine .there ?_)) (by exact Try.sizeOf25)) ?_) | (refine RW.v 5 rfl (by kernel_rfl) (by kernel_rfl) (by kernel_rfl) (fun _ _ _ h => h) rfl rfl (Val.loadA [_, _] rfl Try.isAgg25 (by repeat (first | exact .here | exact .inner .here | exact .inner (.inner .here) | refine .there ?_)) (by rfl) Try.sizeOf25) ?_)
          refine RW.e 3 rfl (by kernel_rfl) rfl rfl (Eff.callM ([]) .nil rfl Try.call9 (fun w hw hs => diff_c s1 s2 A B w (hA.hp hw (by simp [ids])) (hB.hp hw (by simp [ids])) (by exact ⟨⟨g1, g2⟩, g5, g6⟩))) (fun x => ⟨_, (by repeat (first | exact .nil | apply Pick.cons | exact .here | apply Ext.there))⟩) ?_
          intro o ho
          obtain ⟨pd, cd, hvd, hsd⟩ := own_slg (e := 38) clC_len (diffF A B) o ho
          refine RW.re 25 (.slice pd (diffF A B).length cd) rfl hvd ?_
          refine RW.e 4 rfl (by kernel_rfl) rfl rfl (Eff.callM ([]) .nil rfl Try.call15 (fun w hw hs => patch_c s1 A (diffF A B) pd cd w (hA.hp hw (by simp [ids])) (hsd hw (by repeat (first | exact .nil | apply Pick.cons | exact .here | apply Ext.there))) (diff_k4 A B) (by omega))) (fun x => ⟨_, (by repeat (first | exact .nil | apply Pick.cons | exact .here | apply Ext.there))⟩) ?_
          intro r hr
          obtain ⟨s8, hv8, hs8⟩ := off_cur (patF A (diffF A B)) r hr
          refine RW.re 26 (.agg s8.cells.toArray) rfl (by rw [hv8]) ?_
          refine RW.e 6 rfl (by kernel_rfl) rfl rfl (Eff.callV rfl Try.call11 (fun w hw => sameShelf_c s8 s2 (patF A (diffF A B)) B w (hs8 hw (by repeat (first | exact .nil | apply Pick.cons | exact .here | apply Ext.there))) (hB.hp hw (by simp [ids])) (by omega))) (fun x => ⟨_, (by repeat (first | exact .nil | apply Pick.cons | exact .here | apply Ext.there))⟩) ?_
          intro _ _
          refine RW.re 28 (.bool true) rfl (by rw [hst.pat]; simp) ?_
          refine RW.v 7 rfl (by kernel_rfl) (by kernel_rfl) (by kernel_rfl) (fun _ _ _ h => h) rfl rfl (Val.move rfl) ?_
          first | (refine RW.v 8 rfl (by kernel_rfl) (by kernel_rfl) (by kernel_rfl) (fun _ _ _ h => h) rfl rfl (Val.loadW rfl Try.isAgg25 (by repeat (first | exact .here | exact .inner .here | exact .inner (.inner .here) | refine .there ?_)) (by exact Try.sizeOf25)) ?_) | (refine RW.v 8 rfl (by kernel_rfl) (by kernel_rfl) (by kernel_rfl) (fun _ _ _ h => h) rfl rfl (Val.loadA [_, _] rfl Try.isAgg25 (by repeat (first | exact .here | exact .inner .here | exact .inner (.inner .here) | refine .there ?_)) (by rfl) Try.sizeOf25) ?_)
          first | (refine RW.v 9 rfl (by kernel_rfl) (by kernel_rfl) (by kernel_rfl) (fun _ _ _ h => h) rfl rfl (Val.loadW rfl Try.isAgg25 (by repeat (first | exact .here | exact .inner .here | exact .inner (.inner .here) | refine .there ?_)) (by exact Try.sizeOf25)) ?_) | (refine RW.v 9 rfl (by kernel_rfl) (by kernel_rfl) (by kernel_rfl) (fun _ _ _ h => h) rfl rfl (Val.loadA [_, _] rfl Try.isAgg25 (by repeat (first | exact .here | exact .inner .here | exact .inner (.inner .here) | refine .there ?_)) (by rfl) Try.sizeOf25) ?_)
          first | (refine RW.v 10 rfl (by kernel_rfl) (by kernel_rfl) (by kernel_rfl) (fun _ _ _ h => h) rfl rfl (Val.loadW rfl Try.isAgg25 (by repeat (first | exact .here | exact .inner .here | exact .inner (.inner .here) | refine .there ?_)) (by exact Try.sizeOf25)) ?_) | (refine RW.v 10 rfl (by kernel_rfl) (by kernel_rfl) (by kernel_rfl) (fun _ _ _ h => h) rfl rfl (Val.loadA [_, _] rfl Try.isAgg25 (by repeat (first | exact .here | exact .inner .here | exact .inner (.inner .here) | refine .there ?_)) (by rfl) Try.sizeOf25) ?_)
          first | (refine RW.v 13 rfl (by kernel_rfl) (by kernel_rfl) (by kernel_rfl) (fun _ _ _ h => h) rfl rfl (Val.loadW rfl Try.isAgg25 (by repeat (first | exact .here | exact .inner .here | exact .inner (.inner .here) | refine .there ?_)) (by exact Try.sizeOf25)) ?_) | (refine RW.v 13 rfl (by kernel_rfl) (by kernel_rfl) (by kernel_rfl) (fun _ _ _ h => h) rfl rfl (Val.loadA [_, _] rfl Try.isAgg25 (by repeat (first | exact .here | exact .inner .here | exact .inner (.inner .here) | refine .there ?_)) (by rfl) Try.sizeOf25) ?_)
          refine RW.e 11 rfl (by kernel_rfl) rfl rfl (Eff.callM ([]) .nil rfl Try.call9 (fun w hw hs => diff_c s2 s1 B A w (hB.hp hw (by simp [ids])) (hA.hp hw (by simp [ids])) (by exact ⟨⟨g5, g6⟩, g1, g2⟩))) (fun x => ⟨_, (by repeat (first | exact .nil | apply Pick.cons | exact .here | apply Ext.there))⟩) ?_
          intro o2 ho2
          obtain ⟨pe, ce, hve, hse⟩ := own_slg (e := 38) clC_len (diffF B A) o2 ho2
          refine RW.re 33 (.slice pe (diffF B A).length ce) rfl hve ?_
          refine RW.e 12 rfl (by kernel_rfl) rfl rfl (Eff.callM ([]) .nil rfl Try.call15 (fun w hw hs => patch_c s2 B (diffF B A) pe ce w (hB.hp hw (by simp [ids])) (hse hw (by repeat (first | exact .nil | apply Pick.cons | exact .here | apply Ext.there))) (diff_k4 B A) (by omega))) (fun x => ⟨_, (by repeat (first | exact .nil | apply Pick.cons | exact .here | apply Ext.there))⟩) ?_
          intro r2 hr2
          obtain ⟨s9, hv9, hs9⟩ := off_cur (patF B (diffF B A)) r2 hr2
          refine RW.re 34 (.agg s9.cells.toArray) rfl (by rw [hv9]) ?_
          refine RW.e 14 rfl (by kernel_rfl) rfl rfl (Eff.callV rfl Try.call11 (fun w hw => sameShelf_c s9 s1 (patF B (diffF B A)) A w (hs9 hw (by repeat (first | exact .nil | apply Pick.cons | exact .here | apply Ext.there))) (hA.hp hw (by simp [ids])) (by omega))) (fun x => ⟨_, (by repeat (first | exact .nil | apply Pick.cons | exact .here | apply Ext.there))⟩) ?_
          intro _ _
          refine RW.re 36 (.bool true) rfl (by rw [hst2.pat]; simp) ?_
          refine RW.v 15 rfl (by kernel_rfl) (by kernel_rfl) (by kernel_rfl) (fun _ _ _ h => h) rfl rfl (Val.pick_t rfl rfl) ?_
          refine RW.v 16 rfl (by kernel_rfl) (by kernel_rfl) (by kernel_rfl) (fun _ _ _ h => h) rfl rfl (Val.move rfl) ?_
          refine RW.e 17 rfl (by kernel_rfl) rfl rfl (Eff.callV rfl Try.call8 (fun w hw => awake_c w)) (fun x => ⟨_, (by repeat (first | exact .nil | apply Pick.cons | exact .here | apply Ext.there))⟩) ?_
          intro _ _
          refine RW.v 18 rfl (by kernel_rfl) (by kernel_rfl) (by kernel_rfl) (fun _ _ _ h => h) rfl rfl (Val.pick_t rfl rfl) ?_
          refine RW.v 19 rfl (by kernel_rfl) (by kernel_rfl) (by kernel_rfl) (fun _ _ _ h => h) rfl rfl (Val.assign rfl) ?_
          refine RW.done (by kernel_rfl) ?_
          refine PQ.seq ?_
          refine CW.ret ?_
          refine PQ.ret1 rfl rfl ?_
          intro w' hw; exact ⟨by rfl, hw.below⟩
def curV (s : Sf) (A : ShA) : Option (V.OwnO × OffO) → List Value
  | none => s.cells
  | some r => [ownV A.1.length r.1, offV A.2.length r.2]
def curP (A : ShA) : Option (V.OwnO × OffO) → V.Seg
  | none => []
  | some r => ownG 45 (A.1.flatMap prC) r.1
def curQ (A : ShA) : Option (V.OwnO × OffO) → V.Seg
  | none => []
  | some r => offG 9 (A.2.flatMap stE) r.2
def curOk (A0 A : ShA) : Option (V.OwnO × OffO) → Prop
  | none => A = A0
  | some r => ownOk 2 A.1.length (A.1.flatMap prC) r.1 ∧ offOk A.2.length r.2
theorem cur_one (s : Sf) (A : ShA) (r : Option (V.OwnO × OffO)) : (curV s A r).all (·.oneCell') = true := by
  rcases r with _ | y
  · rfl
  · simp [curV, V.ownV_one, offV_one]
theorem cur_len (s : Sf) (A : ShA) (r : Option (V.OwnO × OffO)) : (curV s A r).length = 2 := by rcases r with _ | y <;> rfl
theorem cur_size (s : Sf) (A : ShA) (r : Option (V.OwnO × OffO)) : ∀ w, (sizeOf 25).run Try.prog w = .ok (curV s A r).length w := by rw [cur_len]; exact Try.sizeOf25
theorem cur_sf (s : Sf) (A0 A : ShA) (r : Option (V.OwnO × OffO)) (w0 : World) (h0 : SfR w0 s A0) (h : curOk A0 A r) : ∃ s' : Sf, curV s A r = s'.cells ∧ ∀ {sg r2 : V.Sg} {w : World}, Hp ⟨w0, []⟩ sg w → Pick [curP A r, curQ A r] sg r2 → SfR w s' A := by
  rcases r with _ | y
  · obtain rfl : A = A0 := h
    exact ⟨s, rfl, fun hw _ => h0.hp hw (by simp)⟩
  · obtain ⟨s', hv, hs⟩ := off_cur A y h
    exact ⟨s', hv, fun hw hp => hs hw hp⟩
theorem few_c (s1 s2 : Sf) (A B : ShA) (w : World) (hA : SfR w s1 A) (hB : SfR w s2 B) (hl : (A.1.length ≤ 9223372036854775807 ∧ A.2.length ≤ 9223372036854775807) ∧ B.1.length ≤ 9223372036854775807 ∧ B.2.length ≤ 9223372036854775807) : Calls Try.prog 3 [.agg s1.cells.toArray, .agg s2.cells.toArray].toArray w fun e w' => e = .returned (.bool true) ∧ Below w.heap.size w w' := by
  refine V.calls [] Try.func3 rfl Try.ntmps3 (Nat.le_of_ble_eq_true rfl) (V.sat_nil _) ?_
  refine CW.seq ?_
  refine CW.region ?_
  refine LW.e rfl rfl (Eff.boxA rfl) ?_
  intro b2 _
  refine LW.e rfl rfl (Eff.boxA rfl) ?_
  intro b3 _
  refine LW.v rfl rfl (Val.assign rfl) ?_
  refine LW.nil ?_
  refine PQ.seq ?_
  refine CW.seq ?_
  refine CW.seq ?_
  refine CW.region ?_
  first | (refine LW.v rfl rfl (Val.loadW rfl Try.isAgg25 (by repeat (first | exact .here | exact .inner .here | exact .inner (.inner .here) | refine .there ?_)) (by exact Try.sizeOf25)) ?_) | (refine LW.v rfl rfl (Val.loadA [_, _] rfl Try.isAgg25 (by repeat (first | exact .here | exact .inner .here | exact .inner (.inner .here) | refine .there ?_)) (by rfl) Try.sizeOf25) ?_)
  refine LW.e rfl rfl (Eff.callR rfl Try.call6 (fun w hw => great_c s1 A w (hA.hp hw (by simp [ids])) hl.1)) ?_
  intro z1 hz1
  refine LW.v rfl rfl (Val.move rfl) ?_
  refine LW.split (d := 12) rfl (fun h12 => ?_) (fun h12 => ?_)
  · replace h12 := bT h12
    refine LW.p rfl rfl ?_
    refine LW.p rfl rfl ?_
    refine LW.v rfl rfl (Val.pick_t rfl rfl) ?_
    refine LW.v rfl rfl (Val.move rfl) ?_
    refine LW.p rfl rfl ?_
    refine LW.p rfl rfl ?_
    refine LW.p rfl rfl ?_
    refine LW.v rfl rfl (Val.pick_t rfl rfl) ?_
    refine LW.v rfl rfl (Val.move rfl) ?_
    refine LW.p rfl rfl ?_
    refine LW.p rfl rfl ?_
    refine LW.p rfl rfl ?_
    refine LW.v rfl rfl (Val.pick_t rfl rfl) ?_
    refine LW.nil ?_
    refine PQ.seq ?_
    refine CW.cond_t rfl ?_
    refine CW.seq ?_
    refine CW.region ?_
    refine LW.e rfl rfl (Eff.callV rfl Try.call8 (fun w hw => awake_c w)) ?_
    intro _ _
    refine LW.v rfl rfl (Val.assign rfl) ?_
    refine LW.nil ?_
    refine PQ.seq ?_
    refine CW.ret ?_
    refine PQ.then_ret ?_
    refine PQ.ret1 rfl rfl ?_
    intro w' hw; exact ⟨by rfl, hw.below⟩
  · replace h12 := bF h12
    have hgA := hz1 h12
    first | (refine LW.v rfl rfl (Val.loadW rfl Try.isAgg25 (by repeat (first | exact .here | exact .inner .here | exact .inner (.inner .here) | refine .there ?_)) (by exact Try.sizeOf25)) ?_) | (refine LW.v rfl rfl (Val.loadA [_, _] rfl Try.isAgg25 (by repeat (first | exact .here | exact .inner .here | exact .inner (.inner .here) | refine .there ?_)) (by rfl) Try.sizeOf25) ?_)
    refine LW.e rfl rfl (Eff.callR rfl Try.call6 (fun w hw => great_c s2 B w (hB.hp hw (by simp [ids])) hl.2)) ?_
    intro z2 hz2
    refine LW.v rfl rfl (Val.pick_f rfl rfl) ?_
    refine LW.v rfl rfl (Val.move rfl) ?_
    refine LW.split (d := 16) rfl (fun h16 => ?_) (fun h16 => ?_)
    · replace h16 := bT h16
      refine LW.p rfl rfl ?_
      refine LW.p rfl rfl ?_
      refine LW.p rfl rfl ?_
      refine LW.v rfl rfl (Val.pick_t rfl rfl) ?_
      refine LW.v rfl rfl (Val.move rfl) ?_
      refine LW.p rfl rfl ?_
      refine LW.p rfl rfl ?_
      refine LW.p rfl rfl ?_
      refine LW.v rfl rfl (Val.pick_t rfl rfl) ?_
      refine LW.nil ?_
      refine PQ.seq ?_
      refine CW.cond_t rfl ?_
      refine CW.seq ?_
      refine CW.region ?_
      refine LW.e rfl rfl (Eff.callV rfl Try.call8 (fun w hw => awake_c w)) ?_
      intro _ _
      refine LW.v rfl rfl (Val.assign rfl) ?_
      refine LW.nil ?_
      refine PQ.seq ?_
      refine CW.ret ?_
      refine PQ.then_ret ?_
      refine PQ.ret1 rfl rfl ?_
      intro w' hw; exact ⟨by rfl, hw.below⟩
    · replace h16 := bF h16
      have hgB := hz2 h16
      first | (refine LW.v rfl rfl (Val.loadW rfl Try.isAgg25 (by repeat (first | exact .here | exact .inner .here | exact .inner (.inner .here) | refine .there ?_)) (by exact Try.sizeOf25)) ?_) | (refine LW.v rfl rfl (Val.loadA [_, _] rfl Try.isAgg25 (by repeat (first | exact .here | exact .inner .here | exact .inner (.inner .here) | refine .there ?_)) (by rfl) Try.sizeOf25) ?_)
      refine LW.e rfl rfl (Eff.callV rfl Try.call7 (fun w hw => fair_c s1 A w (hA.hp hw (by simp [ids])) (by obtain ⟨⟨h8, h9⟩, _⟩ := hgA; omega))) ?_
      intro _ _
      refine LW.v rfl rfl (Val.not rfl) ?_
      refine LW.v rfl rfl (Val.pick_f rfl rfl) ?_
      refine LW.v rfl rfl (Val.move rfl) ?_
      refine LW.split (d := 21) rfl (fun h21 => ?_) (fun h21 => ?_)
      · replace h21 := bT h21
        refine LW.p rfl rfl ?_
        refine LW.p rfl rfl ?_
        refine LW.p rfl rfl ?_
        refine LW.v rfl rfl (Val.pick_t rfl rfl) ?_
        refine LW.nil ?_
        refine PQ.seq ?_
        refine CW.cond_t rfl ?_
        refine CW.seq ?_
        refine CW.region ?_
        refine LW.e rfl rfl (Eff.callV rfl Try.call8 (fun w hw => awake_c w)) ?_
        intro _ _
        refine LW.v rfl rfl (Val.assign rfl) ?_
        refine LW.nil ?_
        refine PQ.seq ?_
        refine CW.ret ?_
        refine PQ.then_ret ?_
        refine PQ.ret1 rfl rfl ?_
        intro w' hw; exact ⟨by rfl, hw.below⟩
      · replace h21 := bF h21
        have hfA : fairB A = true := by simpa using h21
        first | (refine LW.v rfl rfl (Val.loadW rfl Try.isAgg25 (by repeat (first | exact .here | exact .inner .here | exact .inner (.inner .here) | refine .there ?_)) (by exact Try.sizeOf25)) ?_) | (refine LW.v rfl rfl (Val.loadA [_, _] rfl Try.isAgg25 (by repeat (first | exact .here | exact .inner .here | exact .inner (.inner .here) | refine .there ?_)) (by rfl) Try.sizeOf25) ?_)
        refine LW.e rfl rfl (Eff.callV rfl Try.call7 (fun w hw => fair_c s2 B w (hB.hp hw (by simp [ids])) (by obtain ⟨⟨h8, h9⟩, _⟩ := hgB; omega))) ?_
        intro _ _
        refine LW.v rfl rfl (Val.not rfl) ?_
        refine LW.v rfl rfl (Val.pick_f rfl rfl) ?_
        refine LW.nil ?_
        refine PQ.seq ?_
        refine CW.cond rfl (fun h25 => ?_) (fun h25 => ?_)
        · replace h25 := bT h25
          refine CW.seq ?_
          refine CW.region ?_
          refine LW.e rfl rfl (Eff.callV rfl Try.call8 (fun w hw => awake_c w)) ?_
          intro _ _
          refine LW.v rfl rfl (Val.assign rfl) ?_
          refine LW.nil ?_
          refine PQ.seq ?_
          refine CW.ret ?_
          refine PQ.then_ret ?_
          refine PQ.ret1 rfl rfl ?_
          intro w' hw; exact ⟨by rfl, hw.below⟩
        · replace h25 := bF h25
          have hfB : fairB B = true := by simpa using h25
          refine CW.skip ?_
          refine PQ.seq ?_
          refine CW.seq ?_
          obtain ⟨⟨g1, g2⟩, g3, g4⟩ := hgA
          obtain ⟨⟨g5, g6⟩, g7, g8⟩ := hgB
          have hdl := diff_len A B
          have hpl := pat_len A (diffF A B)
          have hst := diff_steps hfA hfB
          refine CW.region ?_
          first | (refine LW.v rfl rfl (Val.loadW rfl Try.isAgg25 (by repeat (first | exact .here | exact .inner .here | exact .inner (.inner .here) | refine .there ?_)) (by exact Try.sizeOf25)) ?_) | (refine LW.v rfl rfl (Val.loadA [_, _] rfl Try.isAgg25 (by repeat (first | exact .here | exact .inner .here | exact .inner (.inner .here) | refine .there ?_)) (by rfl) Try.sizeOf25) ?_)
          first | (refine LW.v rfl rfl (Val.loadW rfl Try.isAgg25 (by repeat (first | exact .here | exact .inner .here | exact .inner (.inner .here) | refine .there ?_)) (by exact Try.sizeOf25)) ?_) | (refine LW.v rfl rfl (Val.loadA [_, _] rfl Try.isAgg25 (by repeat (first | exact .here | exact .inner .here | exact .inner (.inner .here) | refine .there ?_)) (by rfl) Try.sizeOf25) ?_)
          refine LW.e rfl rfl (Eff.callM ([]) .nil rfl Try.call9 (fun w hw hs => diff_c s1 s2 A B w (hA.hp hw (by simp [ids])) (hB.hp hw (by simp [ids])) (by exact ⟨⟨g1, g2⟩, g5, g6⟩))) ?_
          intro o ho
          refine LW.v rfl rfl (Val.assign rfl) ?_
          refine LW.nil ?_
          refine PQ.seq ?_
          refine CW.seq ?_
          refine CW.region ?_
          first | (refine LW.v rfl rfl (Val.loadW rfl Try.isAgg25 (by repeat (first | exact .here | exact .inner .here | exact .inner (.inner .here) | refine .there ?_)) (by exact Try.sizeOf25)) ?_) | (refine LW.v rfl rfl (Val.loadA [_, _] rfl Try.isAgg25 (by repeat (first | exact .here | exact .inner .here | exact .inner (.inner .here) | refine .there ?_)) (by rfl) Try.sizeOf25) ?_)
          refine LW.e rfl rfl (Eff.allocA (by exact Try.zeroValue25)) ?_
          intro b6 _
          first | (refine LW.eN rfl (Eff.storeW (cs := curV s1 A none) rfl rfl (by repeat (first | exact .here | exact .inner .here | exact .inner (.inner .here) | apply Upd.there)) (by rfl) Try.sizeOf25 (by rfl)) ?_) | (refine LW.eN rfl (Eff.storeW (cs := apV (apF k.2.1 c) x) rfl rfl (by repeat (first | exact .here | exact .inner .here | exact .inner (.inner .here) | apply Upd.there)) (by rw [cur_len]; rfl) Try.sizeOf25 (by simp [apV, V.ownV_one, offV_one])) ?_)
          intro _ _
          refine LW.nil ?_
          refine PQ.seq ?_
          refine CW.seq ?_
          refine CW.seq ?_
          refine CW.region ?_
          refine LW.v rfl rfl (Val.assign rfl) ?_
          refine LW.nil ?_
          refine PQ.seq ?_
          refine CW.block ?_
          refine V.CW.addOwn 45 ?_
          refine V.CW.addOwn 9 ?_
          refine CW.loop (γ := Nat × ShA × Option (V.OwnO × OffO)) (fun k => [(2, .pointer (some ⟨b2, 0, none⟩)), (3, .pointer (some ⟨b3, 0, none⟩)), (5, ownV (diffF A B).length o), (6, .pointer (some ⟨b6, 0, none⟩)), (7, .int .i64 (k.1 : Nat))]) (fun k => [[(b2, .cells s1.cells.toArray 25 (0, 0))], [(b3, .cells s2.cells.toArray 25 (0, 0))], [(b6, .cells (curV s1 k.2.1 k.2.2).toArray 25 (0, 0))], ownG 38 ((diffF A B).flatMap clC) o, curP k.2.1 k.2.2, curQ k.2.1 k.2.2]) (fun k => k.1 ≤ (diffF A B).length ∧ k.2.1 = patF A ((diffF A B).take k.1) ∧ curOk A k.2.1 k.2.2) (fun k => (diffF A B).length - k.1) ((0, A, none)) ⟨Nat.zero_le _, rfl, rfl⟩ (by repeat (first | exact trivial | refine ⟨rfl, ?_⟩)) (by repeat (first | exact .nil | apply Pick.cons | exact .here | apply Ext.there)) ?_
          intro k
          rintro ⟨hk1, hk2, hk3⟩
          refine CW.seq ?_
          refine CW.seq ?_
          refine CW.region ?_
          refine LW.v rfl rfl (Val.move rfl) ?_
          refine LW.v rfl rfl (Val.move rfl) ?_
          refine LW.v rfl rfl (Val.lenOwn rfl Try.underlying28 ho) ?_
          refine LW.v rfl rfl (Val.cmp rfl rfl rfl) ?_
          refine LW.nil ?_
          refine PQ.seq ?_
          refine CW.cond rfl (fun h34 => ?_) (fun h34 => ?_)
          · replace h34 := bT h34
            have h34 : (k.1 : Int) < ((diffF A B).length : Int) := h34
            obtain ⟨⟨gd, rd, cd⟩, rfl⟩ := own_some ho (by omega)
            obtain ⟨c, hc⟩ : ∃ c, (diffF A B)[k.1]? = some c := ⟨_, List.getElem?_eq_getElem (by omega)⟩
            obtain ⟨s6, hv6, hs6⟩ := cur_sf s1 A k.2.1 k.2.2 w hA hk3
            obtain ⟨hgd, hnx⟩ := hst.at k.1 c hc
            rw [← hk2] at hnx
            have hpk := pat_len A ((diffF A B).take k.1)
            rw [← hk2, List.length_take] at hpk
            refine CW.skip ?_
            refine PQ.seq ?_
            refine CW.seq ?_
            refine CW.block ?_
            refine CW.seq ?_
            refine CW.regJoin (fun x : (V.OwnO × OffO × Bool × List UInt8) × Nat × Nat => apOk (apF k.2.1 c) x.1) (fun x => [(2, .pointer (some ⟨b2, 0, none⟩)), (3, .pointer (some ⟨b3, 0, none⟩)), (5, ownV (diffF A B).length (some (gd, rd, cd))), (6, .pointer (some ⟨b6, 0, none⟩)), (7, .int .i64 (k.1 : Nat)), (8, .pointer (some ⟨x.2.1, 0, none⟩)), (9, .pointer (some ⟨x.2.2, 0, none⟩))]) (fun x => [[(b2, .cells s1.cells.toArray 25 (0, 0))], [(b3, .cells s2.cells.toArray 25 (0, 0))], [(b6, .cells (curV s1 k.2.1 k.2.2).toArray 25 (0, 0))], ownG 38 ((diffF A B).flatMap clC) (some (gd, rd, cd)), curP k.2.1 k.2.2, curQ k.2.1 k.2.2, [(x.2.1, .cells (apV (apF k.2.1 c) x.1).toArray 25 (0, 0))], [(x.2.2, .cells (ansC (gdF c) x.1.2.2.1 x.1.2.2.2).toArray 34 (0, 0))], ownG 45 ((apF k.2.1 c).1.flatMap prC) x.1.1, offG 9 ((apF k.2.1 c).2.flatMap stE) x.1.2.1]) ?_ ?_
            · refine CW.drawn ([[(b6, .cells (curV s1 k.2.1 k.2.2).toArray 25 (0, 0))], [(gd, .cells ((diffF A B).flatMap clC ++ rd).toArray 38 (0, 0))]]) mixed (by repeat (first | exact .nil | apply Pick.cons | exact .here | apply Ext.there)) ?_
              refine RW.v 0 rfl (by kernel_rfl) (by kernel_rfl) (by kernel_rfl) (fun _ _ _ h => h) rfl rfl (Val.loadW (l := curV s1 k.2.1 k.2.2) rfl Try.isAgg25 (by repeat (first | exact .here | exact .inner .here | exact .inner (.inner .here) | refine .there ?_)) (cur_size _ _ _)) ?_
              refine RW.re 38 (.agg s6.cells.toArray) rfl (by rw [hv6]) ?_
              refine RW.v 1 rfl (by kernel_rfl) (by kernel_rfl) (by kernel_rfl) (fun _ _ _ h => h) rfl rfl (Val.move rfl) ?_
              refine RW.v 2 rfl (by kernel_rfl) (by kernel_rfl) (by kernel_rfl) (fun _ _ _ h => h) rfl rfl (Val.move rfl) ?_
              first | (refine RW.v 3 rfl (by kernel_rfl) (by kernel_rfl) (by kernel_rfl) (fun _ _ _ h => h) rfl rfl (Val.indexAddrN rfl rfl Try.underlying28 Try.sizeOf38 (by omega)) ?_) | (refine RW.v 3 rfl (by kernel_rfl) (by kernel_rfl) (by kernel_rfl) (fun _ _ _ h => h) rfl rfl (Val.indexAddr rfl rfl Try.underlying28 Try.sizeOf38 (by omega) (by omega)) ?_)
              refine RW.v 4 rfl (by kernel_rfl) (by kernel_rfl) (by kernel_rfl) (fun _ _ _ h => h) rfl rfl (Val.loadFl (enc := clC) (sz := 5) (l := (diffF A B)) (rest := rd) rfl Try.isAgg38 (by repeat (first | exact .here | exact .inner .here | exact .inner (.inner .here) | refine .there ?_)) clC_len hc Try.sizeOf38) ?_
              refine RW.any [5, 9, 10] (by kernel_rfl) (by simp) ?_
              intro i hi
              simp only [List.mem_cons, List.not_mem_nil, or_false] at hi
              rcases hi with rfl | rfl | rfl
              · refine RO.e rfl rfl rfl (Eff.callM ([]) .nil rfl Try.call10 (fun w hw hs => apply_c s6 k.2.1 c (diff_k4 A B c (List.mem_of_getElem? hc)) w (hs6 hw (by repeat (first | exact .nil | apply Pick.cons | exact .here | apply Ext.there))) (by omega))) (fun x => ⟨_, (by repeat (first | exact .nil | apply Pick.cons | exact .here | apply Ext.there))⟩) ?_
                intro x hx
                refine RW.v 6 rfl (by kernel_rfl) (by kernel_rfl) (by kernel_rfl) (fun _ _ _ h => h) rfl rfl (Val.move rfl) ?_
                refine RW.v 7 rfl (by kernel_rfl) (by kernel_rfl) (by kernel_rfl) (fun _ _ _ h => h) rfl rfl (Val.extract rfl rfl) ?_
                refine RW.v 8 rfl (by kernel_rfl) (by kernel_rfl) (by kernel_rfl) (fun _ _ _ h => h) rfl rfl (Val.extract rfl rfl) ?_
                refine RW.any [9, 10] (by kernel_rfl) (by simp) ?_
                intro i hi
                simp only [List.mem_cons, List.not_mem_nil, or_false] at hi
                rcases hi with rfl | rfl
                · refine RO.e rfl rfl rfl (Eff.allocA (by exact Try.zeroValue25)) (fun x => ⟨_, (by repeat (first | exact .nil | apply Pick.cons | exact .here | apply Ext.there))⟩) ?_
                  intro b8 _
                  refine RW.e 10 rfl (by kernel_rfl) rfl rfl (Eff.allocA (by exact Try.zeroValue34)) (fun x => ⟨_, (by repeat (first | exact .nil | apply Pick.cons | exact .here | apply Ext.there))⟩) ?_
                  intro b9 _
                  refine RW.eN 11 rfl (by kernel_rfl) rfl (Eff.storeW (cs := apV (apF k.2.1 c) x) rfl rfl (by repeat (first | exact .here | exact .inner .here | exact .inner (.inner .here) | apply Upd.there)) (by rfl) Try.sizeOf25 (by simp [apV, V.ownV_one, offV_one])) (fun x => ⟨_, (by repeat (first | exact .nil | apply Pick.cons | exact .here | apply Ext.there))⟩) ?_
                  intro _ _
                  refine RW.eN 12 rfl (by kernel_rfl) rfl (Eff.storeW (cs := ansC (gdF c) x.2.2.1 x.2.2.2) rfl rfl (by repeat (first | exact .here | exact .inner .here | exact .inner (.inner .here) | apply Upd.there)) (by rfl) Try.sizeOf34 (by rfl)) (fun x => ⟨_, (by repeat (first | exact .nil | apply Pick.cons | exact .here | apply Ext.there))⟩) ?_
                  intro _ _
                  refine RW.done (by kernel_rfl) ?_
                  refine PQ.joined ((x, b8, b9)) (hx) (by repeat (first | exact trivial | refine ⟨rfl, ?_⟩)) (by repeat (first | exact .nil | apply Pick.cons | exact .here | apply Ext.there))
                · refine RO.e rfl rfl rfl (Eff.allocA (by exact Try.zeroValue34)) (fun x => ⟨_, (by repeat (first | exact .nil | apply Pick.cons | exact .here | apply Ext.there))⟩) ?_
                  intro b9 _
                  refine RW.e 9 rfl (by kernel_rfl) rfl rfl (Eff.allocA (by exact Try.zeroValue25)) (fun x => ⟨_, (by repeat (first | exact .nil | apply Pick.cons | exact .here | apply Ext.there))⟩) ?_
                  intro b8 _
                  refine RW.eN 11 rfl (by kernel_rfl) rfl (Eff.storeW (cs := apV (apF k.2.1 c) x) rfl rfl (by repeat (first | exact .here | exact .inner .here | exact .inner (.inner .here) | apply Upd.there)) (by rfl) Try.sizeOf25 (by simp [apV, V.ownV_one, offV_one])) (fun x => ⟨_, (by repeat (first | exact .nil | apply Pick.cons | exact .here | apply Ext.there))⟩) ?_
                  intro _ _
                  refine RW.eN 12 rfl (by kernel_rfl) rfl (Eff.storeW (cs := ansC (gdF c) x.2.2.1 x.2.2.2) rfl rfl (by repeat (first | exact .here | exact .inner .here | exact .inner (.inner .here) | apply Upd.there)) (by rfl) Try.sizeOf34 (by rfl)) (fun x => ⟨_, (by repeat (first | exact .nil | apply Pick.cons | exact .here | apply Ext.there))⟩) ?_
                  intro _ _
                  refine RW.done (by kernel_rfl) ?_
                  refine PQ.joined ((x, b8, b9)) (hx) (by repeat (first | exact trivial | refine ⟨rfl, ?_⟩)) (by repeat (first | exact .nil | apply Pick.cons | exact .here | apply Ext.there))
              · refine RO.e rfl rfl rfl (Eff.allocA (by exact Try.zeroValue25)) (fun x => ⟨_, (by repeat (first | exact .nil | apply Pick.cons | exact .here | apply Ext.there))⟩) ?_
                intro b8 _
                refine RW.any [5, 10] (by kernel_rfl) (by simp) ?_
                intro i hi
                simp only [List.mem_cons, List.not_mem_nil, or_false] at hi
                rcases hi with rfl | rfl
                · refine RO.e rfl rfl rfl (Eff.callM ([]) .nil rfl Try.call10 (fun w hw hs => apply_c s6 k.2.1 c (diff_k4 A B c (List.mem_of_getElem? hc)) w (hs6 hw (by repeat (first | exact .nil | apply Pick.cons | exact .here | apply Ext.there))) (by omega))) (fun x => ⟨_, (by repeat (first | exact .nil | apply Pick.cons | exact .here | apply Ext.there))⟩) ?_
                  intro x hx
                  refine RW.v 6 rfl (by kernel_rfl) (by kernel_rfl) (by kernel_rfl) (fun _ _ _ h => h) rfl rfl (Val.move rfl) ?_
                  refine RW.v 7 rfl (by kernel_rfl) (by kernel_rfl) (by kernel_rfl) (fun _ _ _ h => h) rfl rfl (Val.extract rfl rfl) ?_
                  refine RW.v 8 rfl (by kernel_rfl) (by kernel_rfl) (by kernel_rfl) (fun _ _ _ h => h) rfl rfl (Val.extract rfl rfl) ?_
                  refine RW.e 10 rfl (by kernel_rfl) rfl rfl (Eff.allocA (by exact Try.zeroValue34)) (fun x => ⟨_, (by repeat (first | exact .nil | apply Pick.cons | exact .here | apply Ext.there))⟩) ?_
                  intro b9 _
                  refine RW.eN 11 rfl (by kernel_rfl) rfl (Eff.storeW (cs := apV (apF k.2.1 c) x) rfl rfl (by repeat (first | exact .here | exact .inner .here | exact .inner (.inner .here) | apply Upd.there)) (by rfl) Try.sizeOf25 (by simp [apV, V.ownV_one, offV_one])) (fun x => ⟨_, (by repeat (first | exact .nil | apply Pick.cons | exact .here | apply Ext.there))⟩) ?_
                  intro _ _
                  refine RW.eN 12 rfl (by kernel_rfl) rfl (Eff.storeW (cs := ansC (gdF c) x.2.2.1 x.2.2.2) rfl rfl (by repeat (first | exact .here | exact .inner .here | exact .inner (.inner .here) | apply Upd.there)) (by rfl) Try.sizeOf34 (by rfl)) (fun x => ⟨_, (by repeat (first | exact .nil | apply Pick.cons | exact .here | apply Ext.there))⟩) ?_
                  intro _ _
                  refine RW.done (by kernel_rfl) ?_
                  refine PQ.joined ((x, b8, b9)) (hx) (by repeat (first | exact trivial | refine ⟨rfl, ?_⟩)) (by repeat (first | exact .nil | apply Pick.cons | exact .here | apply Ext.there))
                · refine RO.e rfl rfl rfl (Eff.allocA (by exact Try.zeroValue34)) (fun x => ⟨_, (by repeat (first | exact .nil | apply Pick.cons | exact .here | apply Ext.there))⟩) ?_
                  intro b9 _
                  refine RW.e 5 rfl (by kernel_rfl) rfl rfl (Eff.callM ([]) .nil rfl Try.call10 (fun w hw hs => apply_c s6 k.2.1 c (diff_k4 A B c (List.mem_of_getElem? hc)) w (hs6 hw (by repeat (first | exact .nil | apply Pick.cons | exact .here | apply Ext.there))) (by omega))) (fun x => ⟨_, (by repeat (first | exact .nil | apply Pick.cons | exact .here | apply Ext.there))⟩) ?_
                  intro x hx
                  refine RW.v 6 rfl (by kernel_rfl) (by kernel_rfl) (by kernel_rfl) (fun _ _ _ h => h) rfl rfl (Val.move rfl) ?_
                  refine RW.v 7 rfl (by kernel_rfl) (by kernel_rfl) (by kernel_rfl) (fun _ _ _ h => h) rfl rfl (Val.extract rfl rfl) ?_
                  refine RW.v 8 rfl (by kernel_rfl) (by kernel_rfl) (by kernel_rfl) (fun _ _ _ h => h) rfl rfl (Val.extract rfl rfl) ?_
                  refine RW.eN 11 rfl (by kernel_rfl) rfl (Eff.storeW (cs := apV (apF k.2.1 c) x) rfl rfl (by repeat (first | exact .here | exact .inner .here | exact .inner (.inner .here) | apply Upd.there)) (by rfl) Try.sizeOf25 (by simp [apV, V.ownV_one, offV_one])) (fun x => ⟨_, (by repeat (first | exact .nil | apply Pick.cons | exact .here | apply Ext.there))⟩) ?_
                  intro _ _
                  refine RW.eN 12 rfl (by kernel_rfl) rfl (Eff.storeW (cs := ansC (gdF c) x.2.2.1 x.2.2.2) rfl rfl (by repeat (first | exact .here | exact .inner .here | exact .inner (.inner .here) | apply Upd.there)) (by rfl) Try.sizeOf34 (by rfl)) (fun x => ⟨_, (by repeat (first | exact .nil | apply Pick.cons | exact .here | apply Ext.there))⟩) ?_
                  intro _ _
                  refine RW.done (by kernel_rfl) ?_
                  refine PQ.joined ((x, b8, b9)) (hx) (by repeat (first | exact trivial | refine ⟨rfl, ?_⟩)) (by repeat (first | exact .nil | apply Pick.cons | exact .here | apply Ext.there))
              · refine RO.e rfl rfl rfl (Eff.allocA (by exact Try.zeroValue34)) (fun x => ⟨_, (by repeat (first | exact .nil | apply Pick.cons | exact .here | apply Ext.there))⟩) ?_
                intro b9 _
                refine RW.any [5, 9] (by kernel_rfl) (by simp) ?_
                intro i hi
                simp only [List.mem_cons, List.not_mem_nil, or_false] at hi
                rcases hi with rfl | rfl
                · refine RO.e rfl rfl rfl (Eff.callM ([]) .nil rfl Try.call10 (fun w hw hs => apply_c s6 k.2.1 c (diff_k4 A B c (List.mem_of_getElem? hc)) w (hs6 hw (by repeat (first | exact .nil | apply Pick.cons | exact .here | apply Ext.there))) (by omega))) (fun x => ⟨_, (by repeat (first | exact .nil | apply Pick.cons | exact .here | apply Ext.there))⟩) ?_
                  intro x hx
                  refine RW.v 6 rfl (by kernel_rfl) (by kernel_rfl) (by kernel_rfl) (fun _ _ _ h => h) rfl rfl (Val.move rfl) ?_
                  refine RW.v 7 rfl (by kernel_rfl) (by kernel_rfl) (by kernel_rfl) (fun _ _ _ h => h) rfl rfl (Val.extract rfl rfl) ?_
                  refine RW.v 8 rfl (by kernel_rfl) (by kernel_rfl) (by kernel_rfl) (fun _ _ _ h => h) rfl rfl (Val.extract rfl rfl) ?_
                  refine RW.e 9 rfl (by kernel_rfl) rfl rfl (Eff.allocA (by exact Try.zeroValue25)) (fun x => ⟨_, (by repeat (first | exact .nil | apply Pick.cons | exact .here | apply Ext.there))⟩) ?_
                  intro b8 _
                  refine RW.eN 11 rfl (by kernel_rfl) rfl (Eff.storeW (cs := apV (apF k.2.1 c) x) rfl rfl (by repeat (first | exact .here | exact .inner .here | exact .inner (.inner .here) | apply Upd.there)) (by rfl) Try.sizeOf25 (by simp [apV, V.ownV_one, offV_one])) (fun x => ⟨_, (by repeat (first | exact .nil | apply Pick.cons | exact .here | apply Ext.there))⟩) ?_
                  intro _ _
                  refine RW.eN 12 rfl (by kernel_rfl) rfl (Eff.storeW (cs := ansC (gdF c) x.2.2.1 x.2.2.2) rfl rfl (by repeat (first | exact .here | exact .inner .here | exact .inner (.inner .here) | apply Upd.there)) (by rfl) Try.sizeOf34 (by rfl)) (fun x => ⟨_, (by repeat (first | exact .nil | apply Pick.cons | exact .here | apply Ext.there))⟩) ?_
                  intro _ _
                  refine RW.done (by kernel_rfl) ?_
                  refine PQ.joined ((x, b8, b9)) (hx) (by repeat (first | exact trivial | refine ⟨rfl, ?_⟩)) (by repeat (first | exact .nil | apply Pick.cons | exact .here | apply Ext.there))
                · refine RO.e rfl rfl rfl (Eff.allocA (by exact Try.zeroValue25)) (fun x => ⟨_, (by repeat (first | exact .nil | apply Pick.cons | exact .here | apply Ext.there))⟩) ?_
                  intro b8 _
                  refine RW.e 5 rfl (by kernel_rfl) rfl rfl (Eff.callM ([]) .nil rfl Try.call10 (fun w hw hs => apply_c s6 k.2.1 c (diff_k4 A B c (List.mem_of_getElem? hc)) w (hs6 hw (by repeat (first | exact .nil | apply Pick.cons | exact .here | apply Ext.there))) (by omega))) (fun x => ⟨_, (by repeat (first | exact .nil | apply Pick.cons | exact .here | apply Ext.there))⟩) ?_
                  intro x hx
                  refine RW.v 6 rfl (by kernel_rfl) (by kernel_rfl) (by kernel_rfl) (fun _ _ _ h => h) rfl rfl (Val.move rfl) ?_
                  refine RW.v 7 rfl (by kernel_rfl) (by kernel_rfl) (by kernel_rfl) (fun _ _ _ h => h) rfl rfl (Val.extract rfl rfl) ?_
                  refine RW.v 8 rfl (by kernel_rfl) (by kernel_rfl) (by kernel_rfl) (fun _ _ _ h => h) rfl rfl (Val.extract rfl rfl) ?_
                  refine RW.eN 11 rfl (by kernel_rfl) rfl (Eff.storeW (cs := apV (apF k.2.1 c) x) rfl rfl (by repeat (first | exact .here | exact .inner .here | exact .inner (.inner .here) | apply Upd.there)) (by rfl) Try.sizeOf25 (by simp [apV, V.ownV_one, offV_one])) (fun x => ⟨_, (by repeat (first | exact .nil | apply Pick.cons | exact .here | apply Ext.there))⟩) ?_
                  intro _ _
                  refine RW.eN 12 rfl (by kernel_rfl) rfl (Eff.storeW (cs := ansC (gdF c) x.2.2.1 x.2.2.2) rfl rfl (by repeat (first | exact .here | exact .inner .here | exact .inner (.inner .here) | apply Upd.there)) (by rfl) Try.sizeOf34 (by rfl)) (fun x => ⟨_, (by repeat (first | exact .nil | apply Pick.cons | exact .here | apply Ext.there))⟩) ?_
                  intro _ _
                  refine RW.done (by kernel_rfl) ?_
                  refine PQ.joined ((x, b8, b9)) (hx) (by repeat (first | exact trivial | refine ⟨rfl, ?_⟩)) (by repeat (first | exact .nil | apply Pick.cons | exact .here | apply Ext.there))
            · rintro ⟨x, b8, b9⟩ hx
              obtain ⟨s8, hv8, hs8⟩ := off_cur (apF k.2.1 c) (x.1, x.2.1) hx
              refine PQ.seq ?_
              refine CW.seq ?_
              refine CW.seq ?_
              refine CW.region ?_
              refine LW.v rfl rfl (Val.fieldAddr 0 rfl Try.underlying34 rfl rfl Try.sizeOf30) ?_
              refine LW.v rfl rfl (Val.load rfl Try.isAgg30 (by repeat (first | exact .here | exact .inner .here | exact .inner (.inner .here) | refine .there ?_)) (by rfl)) ?_
              refine LW.v rfl rfl (Val.cmp rfl rfl rfl) ?_
              refine LW.re 48 (.bool false) rfl (by rw [hgd]; rfl) ?_
              refine LW.v rfl rfl (Val.move rfl) ?_
              refine LW.v rfl rfl (Val.loadW (l := curV s1 k.2.1 k.2.2) rfl Try.isAgg25 (by repeat (first | exact .here | exact .inner .here | exact .inner (.inner .here) | refine .there ?_)) (cur_size _ _ _)) ?_
              refine LW.re 50 (.agg s6.cells.toArray) rfl (by rw [hv6]) ?_
              refine LW.v rfl rfl (Val.loadW (l := apV (apF k.2.1 c) x) rfl Try.isAgg25 (by repeat (first | exact .here | exact .inner .here | exact .inner (.inner .here) | refine .there ?_)) (by exact Try.sizeOf25)) ?_
              refine LW.re 51 (.agg s8.cells.toArray) rfl (by rw [show apV (apF k.2.1 c) x = s8.cells from hv8]) ?_
              refine LW.e rfl rfl (Eff.callV rfl Try.call11 (fun w hw => sameShelf_c s6 s8 k.2.1 (apF k.2.1 c) w (hs6 hw (by repeat (first | exact .nil | apply Pick.cons | exact .here | apply Ext.there))) (hs8 hw (by repeat (first | exact .nil | apply Pick.cons | exact .here | apply Ext.there))) (by omega))) ?_
              intro _ _
              refine LW.re 52 (.bool false) rfl (by rw [decide_eq_false]; exact fun e8 => hnx e8.symm) ?_
              refine LW.v rfl rfl (Val.pick_f rfl rfl) ?_
              refine LW.nil ?_
              refine PQ.seq ?_
              refine CW.cond_f rfl ?_
              refine CW.skip ?_
              refine PQ.seq ?_
              refine CW.region ?_
              refine LW.v rfl rfl (Val.loadW (l := apV (apF k.2.1 c) x) rfl Try.isAgg25 (by repeat (first | exact .here | exact .inner .here | exact .inner (.inner .here) | refine .there ?_)) (by exact Try.sizeOf25)) ?_
              first | (refine LW.eN rfl (Eff.storeW (cs := curV s1 A none) rfl rfl (by repeat (first | exact .here | exact .inner .here | exact .inner (.inner .here) | apply Upd.there)) (by rfl) Try.sizeOf25 (by rfl)) ?_) | (refine LW.eN rfl (Eff.storeW (cs := apV (apF k.2.1 c) x) rfl rfl (by repeat (first | exact .here | exact .inner .here | exact .inner (.inner .here) | apply Upd.there)) (by rw [cur_len]; rfl) Try.sizeOf25 (by simp [apV, V.ownV_one, offV_one])) ?_)
              intro _ _
              refine LW.nil ?_
              refine PQ.in_normal ?_
              refine PQ.seq ?_
              refine CW.region ?_
              refine LW.v rfl rfl (Val.move rfl) ?_
              refine LW.v rfl rfl (Val.ar rfl rfl rfl (IntWalk.i64_in _ (by omega))) ?_
              refine LW.v rfl rfl (Val.assign rfl) ?_
              refine LW.nil ?_
              refine PQ.round ((k.1 + 1, (apF k.2.1 c), some (x.1, x.2.1))) ⟨by simp only; omega, by simp only; rw [pat_take hc, hk2], hx⟩ (by simp only; omega) (by repeat (first | exact trivial | refine ⟨rfl, ?_⟩)) (by repeat (first | exact .nil | apply Pick.cons | exact .here | apply Ext.there))
          · replace h34 := bF h34
            refine CW.exit ?_
            refine PQ.then_exit ?_
            refine PQ.then_exit ?_
            refine PQ.in_here ?_
            refine PQ.seq ?_
            refine CW.seq ?_
            refine CW.region ?_
            first | (refine LW.v rfl rfl (Val.loadW rfl Try.isAgg25 (by repeat (first | exact .here | exact .inner .here | exact .inner (.inner .here) | refine .there ?_)) (by exact Try.sizeOf25)) ?_) | (refine LW.v rfl rfl (Val.loadA [_, _] rfl Try.isAgg25 (by repeat (first | exact .here | exact .inner .here | exact .inner (.inner .here) | refine .there ?_)) (by rfl) Try.sizeOf25) ?_)
            first | (refine LW.v rfl rfl (Val.loadW rfl Try.isAgg25 (by repeat (first | exact .here | exact .inner .here | exact .inner (.inner .here) | refine .there ?_)) (by exact Try.sizeOf25)) ?_) | (refine LW.v rfl rfl (Val.loadA [_, _] rfl Try.isAgg25 (by repeat (first | exact .here | exact .inner .here | exact .inner (.inner .here) | refine .there ?_)) (by rfl) Try.sizeOf25) ?_)
            refine LW.e rfl rfl (Eff.callM ([]) .nil rfl Try.call9 (fun w hw hs => diff_c s1 s1 A A w (hA.hp hw (by simp [ids])) (hA.hp hw (by simp [ids])) (by exact ⟨⟨g1, g2⟩, g1, g2⟩))) ?_
            intro o5 ho5
            refine LW.v rfl rfl (Val.lenOwn rfl Try.underlying28 ho5) ?_
            refine LW.v rfl rfl (Val.cmp rfl rfl rfl) ?_
            refine LW.re 59 (.bool true) rfl (by rw [diff_self]; rfl) ?_
            refine LW.v rfl rfl (Val.move rfl) ?_
            first | (refine LW.v rfl rfl (Val.loadW rfl Try.isAgg25 (by repeat (first | exact .here | exact .inner .here | exact .inner (.inner .here) | refine .there ?_)) (by exact Try.sizeOf25)) ?_) | (refine LW.v rfl rfl (Val.loadA [_, _] rfl Try.isAgg25 (by repeat (first | exact .here | exact .inner .here | exact .inner (.inner .here) | refine .there ?_)) (by rfl) Try.sizeOf25) ?_)
            first | (refine LW.v rfl rfl (Val.loadW rfl Try.isAgg25 (by repeat (first | exact .here | exact .inner .here | exact .inner (.inner .here) | refine .there ?_)) (by exact Try.sizeOf25)) ?_) | (refine LW.v rfl rfl (Val.loadA [_, _] rfl Try.isAgg25 (by repeat (first | exact .here | exact .inner .here | exact .inner (.inner .here) | refine .there ?_)) (by rfl) Try.sizeOf25) ?_)
            refine LW.e rfl rfl (Eff.callM ([]) .nil rfl Try.call9 (fun w hw hs => diff_c s2 s2 B B w (hB.hp hw (by simp [ids])) (hB.hp hw (by simp [ids])) (by exact ⟨⟨g5, g6⟩, g5, g6⟩))) ?_
            intro o6 ho6
            refine LW.v rfl rfl (Val.lenOwn rfl Try.underlying28 ho6) ?_
            refine LW.v rfl rfl (Val.cmp rfl rfl rfl) ?_
            refine LW.re 65 (.bool true) rfl (by rw [diff_self]; rfl) ?_
            refine LW.v rfl rfl (Val.pick_t rfl rfl) ?_
            refine LW.v rfl rfl (Val.move rfl) ?_
            refine LW.v rfl rfl (Val.move rfl) ?_
            refine LW.v rfl rfl (Val.lenOwn rfl Try.underlying28 ho) ?_
            refine LW.v rfl rfl (Val.cmp rfl rfl rfl) ?_
            first | (refine LW.v rfl rfl (Val.loadW rfl Try.isAgg25 (by repeat (first | exact .here | exact .inner .here | exact .inner (.inner .here) | refine .there ?_)) (by exact Try.sizeOf25)) ?_) | (refine LW.v rfl rfl (Val.loadA [_, _] rfl Try.isAgg25 (by repeat (first | exact .here | exact .inner .here | exact .inner (.inner .here) | refine .there ?_)) (by rfl) Try.sizeOf25) ?_)
            first | (refine LW.v rfl rfl (Val.loadW rfl Try.isAgg25 (by repeat (first | exact .here | exact .inner .here | exact .inner (.inner .here) | refine .there ?_)) (by exact Try.sizeOf25)) ?_) | (refine LW.v rfl rfl (Val.loadA [_, _] rfl Try.isAgg25 (by repeat (first | exact .here | exact .inner .here | exact .inner (.inner .here) | refine .there ?_)) (by rfl) Try.sizeOf25) ?_)
            refine LW.e rfl rfl (Eff.callV rfl Try.call11 (fun w hw => sameShelf_c s1 s2 A B w (hA.hp hw (by simp [ids])) (hB.hp hw (by simp [ids])) (by omega))) ?_
            intro _ _
            refine LW.v rfl rfl (Val.eqB rfl rfl Try.underlying4) ?_
            refine LW.re 74 (.bool true) rfl (by congr 1; have h8 := diff_nil hfA hfB; by_cases h9 : A = B <;> simp_all) ?_
            refine LW.v rfl rfl (Val.pick_t rfl rfl) ?_
            refine LW.v rfl rfl (Val.move rfl) ?_
            refine LW.e rfl rfl (Eff.callV rfl Try.call8 (fun w hw => awake_c w)) ?_
            intro _ _
            refine LW.v rfl rfl (Val.pick_t rfl rfl) ?_
            refine LW.v rfl rfl (Val.assign rfl) ?_
            refine LW.nil ?_
            refine PQ.seq ?_
            refine CW.ret ?_
            refine PQ.ret1 rfl rfl ?_
            intro w' hw; exact ⟨by rfl, hw.below⟩
end Go.Proofs.Ytipnpnkniihdjaa
