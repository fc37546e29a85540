/- The line of an event, as the document has it. -/
import Derived.Test.YtagliemeolngiaaDoorScI
import Derived.Lib.Hide
namespace Go.Proofs.YtagliemeolngiaaDoor
open Go Go.RowKit V
set_option linter.unusedVariables false
set_option maxRecDepth 100000
open V (str byC ownV ownG ownS ownOk)
theorem dig_at {n : Nat} (h : n < 10) : ((([48, 49, 50, 51, 52, 53, 54, 55, 56, 57] : List UInt8).drop n).take (n + 1 - n)) = decN n := by
  rw [decN_lt h]
  have : ∀ n : Fin 10, ((([48, 49, 50, 51, 52, 53, 54, 55, 56, 57] : List UInt8).drop n.val).take (n.val + 1 - n.val)) = [UInt8.ofNat (48 + n.val)] := by decide
  exact this ⟨n, h⟩
theorem decimal_c : ∀ n : Nat, n ≤ 999999999 → ∀ w, Calls Tryd.prog 45 [.int .i64 (n : Nat)].toArray w fun e w' => e = .returned (str (decN n)) ∧ Below w.heap.size w w' := by
  intro n
  induction n using Nat.strongRecOn with
  | ind n ih =>
    intro hn w
    have hl9 : (decN (n / 10)).length ≤ 9 := decN_len 8 _ (by omega)
    have hl9' : (decN (n % 10)).length ≤ 9 := decN_len 8 _ (by omega)
    refine V.calls [] Tryd.func45 rfl Tryd.ntmps45 (Nat.le_of_ble_eq_true rfl) (V.sat_nil _) ?_
    refine CW.seq ?_
    refine CW.region ?_
    refine LW.v rfl rfl (Val.assign rfl) ?_
    refine LW.nil ?_
    refine PQ.seq ?_
    refine CW.seq ?_
    refine CW.seq ?_
    refine CW.region ?_
    refine LW.v rfl rfl (Val.move rfl) ?_
    refine LW.v rfl rfl (Val.cmp rfl rfl rfl) ?_
    refine LW.nil ?_
    refine PQ.seq ?_
    refine CW.cond rfl (fun h4 => ?_) (fun h4 => ?_)
    · replace h4 := bT h4
      refine CW.seq ?_
      refine CW.region ?_
      refine LW.v rfl rfl (Val.move rfl) ?_
      refine LW.v rfl rfl (Val.move rfl) ?_
      refine LW.v rfl rfl (Val.ar rfl rfl rfl (IntWalk.i64_in _ (by omega))) ?_
      refine LW.re 7 (.int .i64 ((n + 1 : Nat) : Int)) rfl (by simp) ?_
      refine LW.v rfl rfl (Val.sliceStr (l := [48, 49, 50, 51, 52, 53, 54, 55, 56, 57]) n (n + 1) rfl Tryd.underlying9 ⟨_, rfl⟩ ⟨_, rfl⟩ (by omega) (by show _ ≤ 10; omega)) ?_
      refine LW.re 8 (str (decN n)) rfl (by rw [dig_at (by omega)]) ?_
      refine LW.v rfl rfl (Val.assign rfl) ?_
      refine LW.nil ?_
      refine PQ.seq ?_
      refine CW.ret ?_
      refine PQ.then_ret ?_
      refine PQ.ret1 rfl rfl ?_
      intro w' hw; exact ⟨rfl, hw.below⟩
    · replace h4 := bF h4
      refine CW.skip ?_
      refine PQ.seq ?_
      refine CW.seq ?_
      refine CW.region ?_
      refine LW.v rfl rfl (Val.move rfl) ?_
      refine LW.v rfl rfl (Val.quo rfl rfl (by omega)) ?_
      refine LW.re 10 (.int .i64 ((n / 10 : Nat) : Int)) rfl (by rw [Int.tdiv_eq_ediv_of_nonneg (by omega), IntWalk.i64_in _ (by omega)]; rfl) ?_
      refine LW.e rfl rfl (Eff.callV rfl Tryd.call45 (fun w hw => ih (n / 10) (by omega) (by omega) w)) ?_
      intro _ _
      refine LW.v rfl rfl (Val.move rfl) ?_
      refine LW.v rfl rfl (Val.rem rfl rfl (by omega)) ?_
      refine LW.re 13 (.int .i64 ((n % 10 : Nat) : Int)) rfl (by rw [Int.tmod_eq_emod_of_nonneg (by omega)]; rfl) ?_
      refine LW.e rfl rfl (Eff.callV rfl Tryd.call45 (fun w hw => ih (n % 10) (by omega) (by omega) w)) ?_
      intro _ _
      refine LW.v rfl rfl (Val.catStr rfl rfl (by first | omega | (simp only [List.length_append, List.length_cons, List.length_nil]; omega))) ?_
      refine LW.v rfl rfl (Val.assign rfl) ?_
      refine LW.nil ?_
      refine PQ.seq ?_
      refine CW.ret ?_
      refine PQ.ret1 rfl rfl ?_
      intro w' hw; exact ⟨by rw [decN_ge (n := n) (by omega)], hw.below⟩
theorem fits_c (x : Int) (w : World) : Calls Tryd.prog 44 [.int .i64 x].toArray w fun e w' => e = .returned (.bool (fitsB [x])) ∧ Below w.heap.size w w' := by
  refine V.calls [] Tryd.func44 rfl Tryd.ntmps44 (Nat.le_of_ble_eq_true rfl) (V.sat_nil _) ?_
  refine CW.seq ?_
  refine CW.region ?_
  refine LW.v rfl rfl (Val.assign rfl) ?_
  refine LW.nil ?_
  refine PQ.seq ?_
  refine CW.seq ?_
  refine CW.region ?_
  refine LW.v rfl rfl (Val.move rfl) ?_
  refine LW.v rfl rfl (Val.cmp rfl rfl rfl) ?_
  refine LW.v rfl rfl (Val.move rfl) ?_
  refine LW.split (d := 5) rfl (fun h5 => ?_) (fun h5 => ?_)
  · replace h5 := bT h5
    refine LW.v rfl rfl (Val.move rfl) ?_
    refine LW.v rfl rfl (Val.cmp rfl rfl rfl) ?_
    refine LW.v rfl rfl (Val.pick_t rfl rfl) ?_
    refine LW.v rfl rfl (Val.assign rfl) ?_
    refine LW.nil ?_
    refine PQ.seq ?_
    refine CW.ret ?_
    refine PQ.ret1 rfl rfl ?_
    intro w' hw; exact ⟨by congr 2; first | (symm; simp [fitsB]; omega) | (rw [Bool.eq_iff_iff]; simp [fitsB]; omega), hw.below⟩
  · replace h5 := bF h5
    refine LW.p rfl rfl ?_
    refine LW.p rfl rfl ?_
    refine LW.v rfl rfl (Val.pick_f rfl rfl) ?_
    refine LW.v rfl rfl (Val.assign rfl) ?_
    refine LW.nil ?_
    refine PQ.seq ?_
    refine CW.ret ?_
    refine PQ.ret1 rfl rfl ?_
    intro w' hw; exact ⟨by congr 2; first | (symm; simp [fitsB]; omega) | (rw [Bool.eq_iff_iff]; simp [fitsB]; omega), hw.below⟩
theorem sf {c : Cq} {k : Int} {nm : List UInt8} (hk : c.ck = k) (h7 : k ≠ 7) (hn : nameF k = some nm) : singleF c = some (nm :: (offs k).map fun o => wordF (c.fld o)) := by
  unfold singleF; rw [hk, if_neg h7, hn]; rfl
theorem sf_no {c : Cq} (h : c.ck ≠ 1 ∧ c.ck ≠ 2 ∧ c.ck ≠ 3 ∧ c.ck ≠ 4 ∧ c.ck ≠ 5 ∧ c.ck ≠ 6 ∧ c.ck ≠ 8) : singleF c = none := by
  unfold singleF
  split
  · rfl
  · have : nameF c.ck = none := by
      unfold nameF
      rw [if_neg h.1, if_neg h.2.1, if_neg h.2.2.1, if_neg h.2.2.2.1, if_neg h.2.2.2.2.1, if_neg h.2.2.2.2.2.1, if_neg (by assumption), if_neg h.2.2.2.2.2.2]
    rw [this]; rfl
def txtF (r : Option (List (List UInt8))) : List UInt8 := (r.map jn).getD []
theorem rcall1_c (c : Cq) (hc : c.small) (w : World) : Calls Tryd.prog 43 [.agg c.cells.toArray, .bool true].toArray w fun e w' => e = .returned (.tuple #[str (txtF (singleF c)), .bool (singleF c).isSome]) ∧ Below w.heap.size w w' := by
  refine V.calls [] Tryd.func43 rfl Tryd.ntmps43 (Nat.le_of_ble_eq_true rfl) (V.sat_nil _) ?_
  have hw1 := word_len c.key
  have hw2 := word_len c.val
  have hw3 := word_len c.to
  have hc1 := hc.1
  have hc2 := hc.2.1
  have hc3 := hc.2.2
  refine CW.seq ?_
  refine CW.region ?_
  refine LW.e rfl rfl (Eff.boxA rfl) ?_
  intro b2 _
  refine LW.v rfl rfl (Val.assign rfl) ?_
  refine LW.v rfl rfl (Val.assign rfl) ?_
  refine LW.nil ?_
  refine PQ.seq ?_
  refine CW.seq ?_
  refine CW.seq ?_
  refine CW.region ?_
  refine LW.v rfl rfl (Val.fieldAddr 0 rfl Tryd.underlying41 rfl rfl Tryd.sizeOf3) ?_
  refine LW.v rfl rfl (Val.load rfl Tryd.isAgg3 (by repeat (first | exact .here | refine .there ?_)) (by rfl)) ?_
  refine LW.nil ?_
  refine PQ.seq ?_
  refine CW.block ?_
  refine CW.seq ?_
  refine CW.region ?_
  refine LW.v rfl rfl (Val.cmp rfl rfl rfl) ?_
  refine LW.v rfl rfl (Val.assign rfl) ?_
  refine LW.nil ?_
  refine PQ.seq ?_
  refine CW.cond rfl (fun h12 => ?_) (fun h12 => ?_)
  · replace h12 := bT h12
    refine CW.seq ?_
    refine CW.region ?_
    refine LW.v rfl rfl (Val.fieldAddr 1 rfl Tryd.underlying41 rfl rfl Tryd.sizeOf9) ?_
    refine LW.v rfl rfl (Val.load rfl Tryd.isAgg9 (by repeat (first | exact .here | refine .there ?_)) (by rfl)) ?_
    refine LW.e rfl rfl (Eff.callV rfl Tryd.call15 (fun w hw => rword_c c.key hc.1 w)) ?_
    intro _ _
    refine LW.v rfl rfl (Val.catStr rfl rfl (by first | omega | (simp only [List.length_append, List.length_cons, List.length_nil]; omega))) ?_
    refine LW.v rfl rfl (Val.assign rfl) ?_
    refine LW.v rfl rfl (Val.assign rfl) ?_
    refine LW.nil ?_
    refine PQ.seq ?_
    refine CW.ret ?_
    refine PQ.in_ret ?_
    refine PQ.then_ret ?_
    refine PQ.ret2 rfl rfl rfl ?_
    intro w' hw
    have hS := sf (c := c) (k := 1) (nm := [103, 101, 116]) h12 (by decide) rfl
    exact ⟨by rw [hS]; simp only [txtF, Option.map_some, Option.getD_some, Option.isSome_some]; simp [offs, Cq.fld, jn_two, jn_one, str], hw.below⟩
  · replace h12 := bF h12
    refine CW.seq ?_
    refine CW.region ?_
    refine LW.v rfl rfl (Val.cmp rfl rfl rfl) ?_
    refine LW.v rfl rfl (Val.assign rfl) ?_
    refine LW.nil ?_
    refine PQ.seq ?_
    refine CW.cond rfl (fun h18 => ?_) (fun h18 => ?_)
    · replace h18 := bT h18
      refine CW.seq ?_
      refine CW.region ?_
      refine LW.v rfl rfl (Val.fieldAddr 1 rfl Tryd.underlying41 rfl rfl Tryd.sizeOf9) ?_
      refine LW.v rfl rfl (Val.load rfl Tryd.isAgg9 (by repeat (first | exact .here | refine .there ?_)) (by rfl)) ?_
      refine LW.e rfl rfl (Eff.callV rfl Tryd.call15 (fun w hw => rword_c c.key hc.1 w)) ?_
      intro _ _
      refine LW.v rfl rfl (Val.catStr rfl rfl (by first | omega | (simp only [List.length_append, List.length_cons, List.length_nil]; omega))) ?_
      refine LW.v rfl rfl (Val.assign rfl) ?_
      refine LW.v rfl rfl (Val.assign rfl) ?_
      refine LW.nil ?_
      refine PQ.seq ?_
      refine CW.ret ?_
      refine PQ.in_ret ?_
      refine PQ.then_ret ?_
      refine PQ.ret2 rfl rfl rfl ?_
      intro w' hw
      have hS := sf (c := c) (k := 3) (nm := [100, 101, 108]) h18 (by decide) rfl
      exact ⟨by rw [hS]; simp only [txtF, Option.map_some, Option.getD_some, Option.isSome_some]; simp [offs, Cq.fld, jn_two, jn_one, str], hw.below⟩
    · replace h18 := bF h18
      refine CW.seq ?_
      refine CW.region ?_
      refine LW.v rfl rfl (Val.cmp rfl rfl rfl) ?_
      refine LW.v rfl rfl (Val.assign rfl) ?_
      refine LW.nil ?_
      refine PQ.seq ?_
      refine CW.cond rfl (fun h24 => ?_) (fun h24 => ?_)
      · replace h24 := bT h24
        refine CW.seq ?_
        refine CW.quiet mixed (by kernel_rfl) ?_
        refine QW.v rfl rfl (Val.fieldAddr 1 rfl Tryd.underlying41 rfl rfl Tryd.sizeOf9) ?_
        refine QW.v rfl rfl (Val.load rfl Tryd.isAgg9 (by repeat (first | exact .here | refine .there ?_)) (by rfl)) ?_
        refine QW.c rfl rfl (Qcall.of rfl Tryd.call15 (fun w hw => rword_c c.key hc.1 w)) ?_
        refine QW.v rfl rfl (Val.catStr rfl rfl (by first | omega | (simp only [List.length_append, List.length_cons, List.length_nil]; omega))) ?_
        refine QW.v rfl rfl (Val.catStr rfl rfl (by first | omega | (simp only [List.length_append, List.length_cons, List.length_nil]; omega))) ?_
        refine QW.v rfl rfl (Val.fieldAddr 2 rfl Tryd.underlying41 rfl rfl Tryd.sizeOf9) ?_
        refine QW.v rfl rfl (Val.load rfl Tryd.isAgg9 (by repeat (first | exact .here | refine .there ?_)) (by rfl)) ?_
        refine QW.c rfl rfl (Qcall.of rfl Tryd.call15 (fun w hw => rword_c c.val hc.2.1 w)) ?_
        refine QW.v rfl rfl (Val.catStr rfl rfl (by first | omega | (simp only [List.length_append, List.length_cons, List.length_nil]; omega))) ?_
        refine QW.v rfl rfl (Val.assign rfl) ?_
        refine QW.v rfl rfl (Val.assign rfl) ?_
        refine QW.nil ?_
        refine PQ.seq ?_
        refine CW.ret ?_
        refine PQ.in_ret ?_
        refine PQ.then_ret ?_
        refine PQ.ret2 rfl rfl rfl ?_
        intro w' hw
        have hS := sf (c := c) (k := 2) (nm := [112, 117, 116]) h24 (by decide) rfl
        exact ⟨by rw [hS]; simp only [txtF, Option.map_some, Option.getD_some, Option.isSome_some]; simp [offs, Cq.fld, jn_two, jn_one, str], hw.below⟩
      · replace h24 := bF h24
        refine CW.seq ?_
        refine CW.region ?_
        refine LW.v rfl rfl (Val.cmp rfl rfl rfl) ?_
        refine LW.v rfl rfl (Val.assign rfl) ?_
        refine LW.nil ?_
        refine PQ.seq ?_
        refine CW.cond rfl (fun h35 => ?_) (fun h35 => ?_)
        · replace h35 := bT h35
          refine CW.seq ?_
          refine CW.region ?_
          refine LW.v rfl rfl (Val.fieldAddr 2 rfl Tryd.underlying41 rfl rfl Tryd.sizeOf9) ?_
          refine LW.v rfl rfl (Val.load rfl Tryd.isAgg9 (by repeat (first | exact .here | refine .there ?_)) (by rfl)) ?_
          refine LW.e rfl rfl (Eff.callV rfl Tryd.call15 (fun w hw => rword_c c.val hc.2.1 w)) ?_
          intro _ _
          refine LW.v rfl rfl (Val.catStr rfl rfl (by first | omega | (simp only [List.length_append, List.length_cons, List.length_nil]; omega))) ?_
          refine LW.v rfl rfl (Val.assign rfl) ?_
          refine LW.v rfl rfl (Val.assign rfl) ?_
          refine LW.nil ?_
          refine PQ.seq ?_
          refine CW.ret ?_
          refine PQ.in_ret ?_
          refine PQ.then_ret ?_
          refine PQ.ret2 rfl rfl rfl ?_
          intro w' hw
          have hS := sf (c := c) (k := 4) (nm := [101, 110, 113]) h35 (by decide) rfl
          exact ⟨by rw [hS]; simp only [txtF, Option.map_some, Option.getD_some, Option.isSome_some]; simp [offs, Cq.fld, jn_two, jn_one, str], hw.below⟩
        · replace h35 := bF h35
          refine CW.seq ?_
          refine CW.region ?_
          refine LW.v rfl rfl (Val.cmp rfl rfl rfl) ?_
          refine LW.v rfl rfl (Val.assign rfl) ?_
          refine LW.nil ?_
          refine PQ.seq ?_
          refine CW.cond rfl (fun h41 => ?_) (fun h41 => ?_)
          · replace h41 := bT h41
            refine CW.seq ?_
            refine CW.region ?_
            refine LW.v rfl rfl (Val.assign rfl) ?_
            refine LW.v rfl rfl (Val.assign rfl) ?_
            refine LW.nil ?_
            refine PQ.seq ?_
            refine CW.ret ?_
            refine PQ.in_ret ?_
            refine PQ.then_ret ?_
            refine PQ.ret2 rfl rfl rfl ?_
            intro w' hw
            have hS := sf (c := c) (k := 5) (nm := [100, 101, 113]) h41 (by decide) rfl
            exact ⟨by rw [hS]; simp only [txtF, Option.map_some, Option.getD_some, Option.isSome_some]; simp [offs, Cq.fld, jn_two, jn_one, str], hw.below⟩
          · replace h41 := bF h41
            refine CW.seq ?_
            refine CW.region ?_
            refine LW.v rfl rfl (Val.cmp rfl rfl rfl) ?_
            refine LW.v rfl rfl (Val.assign rfl) ?_
            refine LW.nil ?_
            refine PQ.seq ?_
            refine CW.cond rfl (fun h43 => ?_) (fun h43 => ?_)
            · replace h43 := bT h43
              refine CW.seq ?_
              refine CW.region ?_
              refine LW.v rfl rfl (Val.assign rfl) ?_
              refine LW.v rfl rfl (Val.assign rfl) ?_
              refine LW.nil ?_
              refine PQ.seq ?_
              refine CW.ret ?_
              refine PQ.in_ret ?_
              refine PQ.then_ret ?_
              refine PQ.ret2 rfl rfl rfl ?_
              intro w' hw
              have hS := sf (c := c) (k := 8) (nm := [115, 121, 110, 99]) h43 (by decide) rfl
              exact ⟨by rw [hS]; simp only [txtF, Option.map_some, Option.getD_some, Option.isSome_some]; simp [offs, Cq.fld, jn_two, jn_one, str], hw.below⟩
            · replace h43 := bF h43
              refine CW.seq ?_
              refine CW.region ?_
              refine LW.v rfl rfl (Val.cmp rfl rfl rfl) ?_
              refine LW.v rfl rfl (Val.assign rfl) ?_
              refine LW.nil ?_
              refine PQ.seq ?_
              refine CW.cond rfl (fun h45 => ?_) (fun h45 => ?_)
              · replace h45 := bT h45
                refine CW.seq ?_
                refine CW.quiet mixed (by kernel_rfl) ?_
                refine QW.v rfl rfl (Val.fieldAddr 1 rfl Tryd.underlying41 rfl rfl Tryd.sizeOf9) ?_
                refine QW.v rfl rfl (Val.load rfl Tryd.isAgg9 (by repeat (first | exact .here | refine .there ?_)) (by rfl)) ?_
                refine QW.c rfl rfl (Qcall.of rfl Tryd.call15 (fun w hw => rword_c c.key hc.1 w)) ?_
                refine QW.v rfl rfl (Val.catStr rfl rfl (by first | omega | (simp only [List.length_append, List.length_cons, List.length_nil]; omega))) ?_
                refine QW.v rfl rfl (Val.catStr rfl rfl (by first | omega | (simp only [List.length_append, List.length_cons, List.length_nil]; omega))) ?_
                refine QW.v rfl rfl (Val.fieldAddr 3 rfl Tryd.underlying41 rfl rfl Tryd.sizeOf9) ?_
                refine QW.v rfl rfl (Val.load rfl Tryd.isAgg9 (by repeat (first | exact .here | refine .there ?_)) (by rfl)) ?_
                refine QW.c rfl rfl (Qcall.of rfl Tryd.call15 (fun w hw => rword_c c.to hc.2.2 w)) ?_
                refine QW.v rfl rfl (Val.catStr rfl rfl (by first | omega | (simp only [List.length_append, List.length_cons, List.length_nil]; omega))) ?_
                refine QW.v rfl rfl (Val.assign rfl) ?_
                refine QW.v rfl rfl (Val.assign rfl) ?_
                refine QW.nil ?_
                refine PQ.seq ?_
                refine CW.ret ?_
                refine PQ.in_ret ?_
                refine PQ.then_ret ?_
                refine PQ.ret2 rfl rfl rfl ?_
                intro w' hw
                have hS := sf (c := c) (k := 6) (nm := [115, 99, 97, 110]) h45 (by decide) rfl
                exact ⟨by rw [hS]; simp only [txtF, Option.map_some, Option.getD_some, Option.isSome_some]; simp [offs, Cq.fld, jn_two, jn_one, str], hw.below⟩
              · replace h45 := bF h45
                refine CW.seq ?_
                refine CW.region ?_
                refine LW.v rfl rfl (Val.cmp rfl rfl rfl) ?_
                refine LW.v rfl rfl (Val.assign rfl) ?_
                refine LW.nil ?_
                refine PQ.seq ?_
                refine CW.cond rfl (fun h56 => ?_) (fun h56 => ?_)
                · replace h56 := bT h56
                  refine CW.seq ?_
                  refine CW.seq ?_
                  refine CW.region ?_
                  refine LW.v rfl rfl (Val.move rfl) ?_
                  refine LW.v rfl rfl (Val.move rfl) ?_
                  refine LW.p rfl rfl ?_
                  refine LW.p rfl rfl ?_
                  refine LW.p rfl rfl ?_
                  refine LW.p rfl rfl ?_
                  refine LW.v rfl rfl (Val.pick_t rfl rfl) ?_
                  refine LW.nil ?_
                  refine PQ.seq ?_
                  refine CW.cond_t rfl ?_
                  refine CW.seq ?_
                  refine CW.region ?_
                  refine LW.v rfl rfl (Val.assign rfl) ?_
                  refine LW.v rfl rfl (Val.assign rfl) ?_
                  refine LW.nil ?_
                  refine PQ.seq ?_
                  refine CW.ret ?_
                  refine PQ.then_ret ?_
                  refine PQ.in_ret ?_
                  refine PQ.then_ret ?_
                  refine PQ.ret2 rfl rfl rfl ?_
                  intro w' hw
                  have hS : singleF c = none := by first | (unfold singleF; rw [if_pos (by omega)]; done) | exact sf_no (by refine ⟨?_, ?_, ?_, ?_, ?_, ?_, ?_⟩ <;> omega)
                  exact ⟨by rw [hS]; rfl, hw.below⟩
                · replace h56 := bF h56
                  refine CW.skip ?_
                  refine PQ.in_normal ?_
                  refine PQ.seq ?_
                  refine CW.seq ?_
                  refine CW.region ?_
                  refine LW.v rfl rfl (Val.assign rfl) ?_
                  refine LW.v rfl rfl (Val.assign rfl) ?_
                  refine LW.nil ?_
                  refine PQ.seq ?_
                  refine CW.ret ?_
                  refine PQ.ret2 rfl rfl rfl ?_
                  intro w' hw
                  have hS : singleF c = none := by first | (unfold singleF; rw [if_pos (by omega)]; done) | exact sf_no (by refine ⟨?_, ?_, ?_, ?_, ?_, ?_, ?_⟩ <;> omega)
                  exact ⟨by rw [hS]; rfl, hw.below⟩
theorem rcall_c (c : Cq) (gl : List Cq) (hc : c.small) (hgs : ∀ x ∈ gl, x.small) (hgl : gl.length ≤ 70001) (w : World) (hn : c.grp.n = gl.length) (h : V.slAt w c.grp.a 5 Cq.cells gl) : Calls Tryd.prog 43 [.agg c.cells.toArray, .bool false].toArray w fun e w' => e = .returned (.tuple #[str (txtF (callF c gl)), .bool (callF c gl).isSome]) ∧ Below w.heap.size w w' := by
  refine V.calls [] Tryd.func43 rfl Tryd.ntmps43 (Nat.le_of_ble_eq_true rfl) (V.sat_nil _) ?_
  have hw1 := word_len c.key
  have hw2 := word_len c.val
  have hw3 := word_len c.to
  have hc1 := hc.1
  have hc2 := hc.2.1
  have hc3 := hc.2.2
  refine CW.seq ?_
  refine CW.region ?_
  refine LW.e rfl rfl (Eff.boxA rfl) ?_
  intro b2 _
  refine LW.v rfl rfl (Val.assign rfl) ?_
  refine LW.v rfl rfl (Val.assign rfl) ?_
  refine LW.nil ?_
  refine PQ.seq ?_
  refine CW.seq ?_
  refine CW.seq ?_
  refine CW.region ?_
  refine LW.v rfl rfl (Val.fieldAddr 0 rfl Tryd.underlying41 rfl rfl Tryd.sizeOf3) ?_
  refine LW.v rfl rfl (Val.load rfl Tryd.isAgg3 (by repeat (first | exact .here | refine .there ?_)) (by rfl)) ?_
  refine LW.nil ?_
  refine PQ.seq ?_
  refine CW.block ?_
  refine CW.seq ?_
  refine CW.region ?_
  refine LW.v rfl rfl (Val.cmp rfl rfl rfl) ?_
  refine LW.v rfl rfl (Val.assign rfl) ?_
  refine LW.nil ?_
  refine PQ.seq ?_
  refine CW.cond rfl (fun h12 => ?_) (fun h12 => ?_)
  · replace h12 := bT h12
    refine CW.seq ?_
    refine CW.region ?_
    refine LW.v rfl rfl (Val.fieldAddr 1 rfl Tryd.underlying41 rfl rfl Tryd.sizeOf9) ?_
    refine LW.v rfl rfl (Val.load rfl Tryd.isAgg9 (by repeat (first | exact .here | refine .there ?_)) (by rfl)) ?_
    refine LW.e rfl rfl (Eff.callV rfl Tryd.call15 (fun w hw => rword_c c.key hc.1 w)) ?_
    intro _ _
    refine LW.v rfl rfl (Val.catStr rfl rfl (by first | omega | (simp only [List.length_append, List.length_cons, List.length_nil]; omega))) ?_
    refine LW.v rfl rfl (Val.assign rfl) ?_
    refine LW.v rfl rfl (Val.assign rfl) ?_
    refine LW.nil ?_
    refine PQ.seq ?_
    refine CW.ret ?_
    refine PQ.in_ret ?_
    refine PQ.then_ret ?_
    refine PQ.ret2 rfl rfl rfl ?_
    intro w' hw
    have hS := sf (c := c) (k := 1) (nm := [103, 101, 116]) h12 (by decide) rfl
    rw [show callF c gl = singleF c from by unfold callF; rw [if_neg (by omega)]]
    exact ⟨by rw [hS]; simp only [txtF, Option.map_some, Option.getD_some, Option.isSome_some]; simp [offs, Cq.fld, jn_two, jn_one, str], hw.below⟩
  · replace h12 := bF h12
    refine CW.seq ?_
    refine CW.region ?_
    refine LW.v rfl rfl (Val.cmp rfl rfl rfl) ?_
    refine LW.v rfl rfl (Val.assign rfl) ?_
    refine LW.nil ?_
    refine PQ.seq ?_
    refine CW.cond rfl (fun h18 => ?_) (fun h18 => ?_)
    · replace h18 := bT h18
      refine CW.seq ?_
      refine CW.region ?_
      refine LW.v rfl rfl (Val.fieldAddr 1 rfl Tryd.underlying41 rfl rfl Tryd.sizeOf9) ?_
      refine LW.v rfl rfl (Val.load rfl Tryd.isAgg9 (by repeat (first | exact .here | refine .there ?_)) (by rfl)) ?_
      refine LW.e rfl rfl (Eff.callV rfl Tryd.call15 (fun w hw => rword_c c.key hc.1 w)) ?_
      intro _ _
      refine LW.v rfl rfl (Val.catStr rfl rfl (by first | omega | (simp only [List.length_append, List.length_cons, List.length_nil]; omega))) ?_
      refine LW.v rfl rfl (Val.assign rfl) ?_
      refine LW.v rfl rfl (Val.assign rfl) ?_
      refine LW.nil ?_
      refine PQ.seq ?_
      refine CW.ret ?_
      refine PQ.in_ret ?_
      refine PQ.then_ret ?_
      refine PQ.ret2 rfl rfl rfl ?_
      intro w' hw
      have hS := sf (c := c) (k := 3) (nm := [100, 101, 108]) h18 (by decide) rfl
      rw [show callF c gl = singleF c from by unfold callF; rw [if_neg (by omega)]]
      exact ⟨by rw [hS]; simp only [txtF, Option.map_some, Option.getD_some, Option.isSome_some]; simp [offs, Cq.fld, jn_two, jn_one, str], hw.below⟩
    · replace h18 := bF h18
      refine CW.seq ?_
      refine CW.region ?_
      refine LW.v rfl rfl (Val.cmp rfl rfl rfl) ?_
      refine LW.v rfl rfl (Val.assign rfl) ?_
      refine LW.nil ?_
      refine PQ.seq ?_
      refine CW.cond rfl (fun h24 => ?_) (fun h24 => ?_)
      · replace h24 := bT h24
        refine CW.seq ?_
        refine CW.quiet mixed (by kernel_rfl) ?_
        refine QW.v rfl rfl (Val.fieldAddr 1 rfl Tryd.underlying41 rfl rfl Tryd.sizeOf9) ?_
        refine QW.v rfl rfl (Val.load rfl Tryd.isAgg9 (by repeat (first | exact .here | refine .there ?_)) (by rfl)) ?_
        refine QW.c rfl rfl (Qcall.of rfl Tryd.call15 (fun w hw => rword_c c.key hc.1 w)) ?_
        refine QW.v rfl rfl (Val.catStr rfl rfl (by first | omega | (simp only [List.length_append, List.length_cons, List.length_nil]; omega))) ?_
        refine QW.v rfl rfl (Val.catStr rfl rfl (by first | omega | (simp only [List.length_append, List.length_cons, List.length_nil]; omega))) ?_
        refine QW.v rfl rfl (Val.fieldAddr 2 rfl Tryd.underlying41 rfl rfl Tryd.sizeOf9) ?_
        refine QW.v rfl rfl (Val.load rfl Tryd.isAgg9 (by repeat (first | exact .here | refine .there ?_)) (by rfl)) ?_
        refine QW.c rfl rfl (Qcall.of rfl Tryd.call15 (fun w hw => rword_c c.val hc.2.1 w)) ?_
        refine QW.v rfl rfl (Val.catStr rfl rfl (by first | omega | (simp only [List.length_append, List.length_cons, List.length_nil]; omega))) ?_
        refine QW.v rfl rfl (Val.assign rfl) ?_
        refine QW.v rfl rfl (Val.assign rfl) ?_
        refine QW.nil ?_
        refine PQ.seq ?_
        refine CW.ret ?_
        refine PQ.in_ret ?_
        refine PQ.then_ret ?_
        refine PQ.ret2 rfl rfl rfl ?_
        intro w' hw
        have hS := sf (c := c) (k := 2) (nm := [112, 117, 116]) h24 (by decide) rfl
        rw [show callF c gl = singleF c from by unfold callF; rw [if_neg (by omega)]]
        exact ⟨by rw [hS]; simp only [txtF, Option.map_some, Option.getD_some, Option.isSome_some]; simp [offs, Cq.fld, jn_two, jn_one, str], hw.below⟩
      · replace h24 := bF h24
        refine CW.seq ?_
        refine CW.region ?_
        refine LW.v rfl rfl (Val.cmp rfl rfl rfl) ?_
        refine LW.v rfl rfl (Val.assign rfl) ?_
        refine LW.nil ?_
        refine PQ.seq ?_
        refine CW.cond rfl (fun h35 => ?_) (fun h35 => ?_)
        · replace h35 := bT h35
          refine CW.seq ?_
          refine CW.region ?_
          refine LW.v rfl rfl (Val.fieldAddr 2 rfl Tryd.underlying41 rfl rfl Tryd.sizeOf9) ?_
          refine LW.v rfl rfl (Val.load rfl Tryd.isAgg9 (by repeat (first | exact .here | refine .there ?_)) (by rfl)) ?_
          refine LW.e rfl rfl (Eff.callV rfl Tryd.call15 (fun w hw => rword_c c.val hc.2.1 w)) ?_
          intro _ _
          refine LW.v rfl rfl (Val.catStr rfl rfl (by first | omega | (simp only [List.length_append, List.length_cons, List.length_nil]; omega))) ?_
          refine LW.v rfl rfl (Val.assign rfl) ?_
          refine LW.v rfl rfl (Val.assign rfl) ?_
          refine LW.nil ?_
          refine PQ.seq ?_
          refine CW.ret ?_
          refine PQ.in_ret ?_
          refine PQ.then_ret ?_
          refine PQ.ret2 rfl rfl rfl ?_
          intro w' hw
          have hS := sf (c := c) (k := 4) (nm := [101, 110, 113]) h35 (by decide) rfl
          rw [show callF c gl = singleF c from by unfold callF; rw [if_neg (by omega)]]
          exact ⟨by rw [hS]; simp only [txtF, Option.map_some, Option.getD_some, Option.isSome_some]; simp [offs, Cq.fld, jn_two, jn_one, str], hw.below⟩
        · replace h35 := bF h35
          refine CW.seq ?_
          refine CW.region ?_
          refine LW.v rfl rfl (Val.cmp rfl rfl rfl) ?_
          refine LW.v rfl rfl (Val.assign rfl) ?_
          refine LW.nil ?_
          refine PQ.seq ?_
          refine CW.cond rfl (fun h41 => ?_) (fun h41 => ?_)
          · replace h41 := bT h41
            refine CW.seq ?_
            refine CW.region ?_
            refine LW.v rfl rfl (Val.assign rfl) ?_
            refine LW.v rfl rfl (Val.assign rfl) ?_
            refine LW.nil ?_
            refine PQ.seq ?_
            refine CW.ret ?_
            refine PQ.in_ret ?_
            refine PQ.then_ret ?_
            refine PQ.ret2 rfl rfl rfl ?_
            intro w' hw
            have hS := sf (c := c) (k := 5) (nm := [100, 101, 113]) h41 (by decide) rfl
            rw [show callF c gl = singleF c from by unfold callF; rw [if_neg (by omega)]]
            exact ⟨by rw [hS]; simp only [txtF, Option.map_some, Option.getD_some, Option.isSome_some]; simp [offs, Cq.fld, jn_two, jn_one, str], hw.below⟩
          · replace h41 := bF h41
            refine CW.seq ?_
            refine CW.region ?_
            refine LW.v rfl rfl (Val.cmp rfl rfl rfl) ?_
            refine LW.v rfl rfl (Val.assign rfl) ?_
            refine LW.nil ?_
            refine PQ.seq ?_
            refine CW.cond rfl (fun h43 => ?_) (fun h43 => ?_)
            · replace h43 := bT h43
              refine CW.seq ?_
              refine CW.region ?_
              refine LW.v rfl rfl (Val.assign rfl) ?_
              refine LW.v rfl rfl (Val.assign rfl) ?_
              refine LW.nil ?_
              refine PQ.seq ?_
              refine CW.ret ?_
              refine PQ.in_ret ?_
              refine PQ.then_ret ?_
              refine PQ.ret2 rfl rfl rfl ?_
              intro w' hw
              have hS := sf (c := c) (k := 8) (nm := [115, 121, 110, 99]) h43 (by decide) rfl
              rw [show callF c gl = singleF c from by unfold callF; rw [if_neg (by omega)]]
              exact ⟨by rw [hS]; simp only [txtF, Option.map_some, Option.getD_some, Option.isSome_some]; simp [offs, Cq.fld, jn_two, jn_one, str], hw.below⟩
            · replace h43 := bF h43
              refine CW.seq ?_
              refine CW.region ?_
              refine LW.v rfl rfl (Val.cmp rfl rfl rfl) ?_
              refine LW.v rfl rfl (Val.assign rfl) ?_
              refine LW.nil ?_
              refine PQ.seq ?_
              refine CW.cond rfl (fun h45 => ?_) (fun h45 => ?_)
              · replace h45 := bT h45
                refine CW.seq ?_
                refine CW.quiet mixed (by kernel_rfl) ?_
                refine QW.v rfl rfl (Val.fieldAddr 1 rfl Tryd.underlying41 rfl rfl Tryd.sizeOf9) ?_
                refine QW.v rfl rfl (Val.load rfl Tryd.isAgg9 (by repeat (first | exact .here | refine .there ?_)) (by rfl)) ?_
                refine QW.c rfl rfl (Qcall.of rfl Tryd.call15 (fun w hw => rword_c c.key hc.1 w)) ?_
                refine QW.v rfl rfl (Val.catStr rfl rfl (by first | omega | (simp only [List.length_append, List.length_cons, List.length_nil]; omega))) ?_
                refine QW.v rfl rfl (Val.catStr rfl rfl (by first | omega | (simp only [List.length_append, List.length_cons, List.length_nil]; omega))) ?_
                refine QW.v rfl rfl (Val.fieldAddr 3 rfl Tryd.underlying41 rfl rfl Tryd.sizeOf9) ?_
                refine QW.v rfl rfl (Val.load rfl Tryd.isAgg9 (by repeat (first | exact .here | refine .there ?_)) (by rfl)) ?_
                refine QW.c rfl rfl (Qcall.of rfl Tryd.call15 (fun w hw => rword_c c.to hc.2.2 w)) ?_
                refine QW.v rfl rfl (Val.catStr rfl rfl (by first | omega | (simp only [List.length_append, List.length_cons, List.length_nil]; omega))) ?_
                refine QW.v rfl rfl (Val.assign rfl) ?_
                refine QW.v rfl rfl (Val.assign rfl) ?_
                refine QW.nil ?_
                refine PQ.seq ?_
                refine CW.ret ?_
                refine PQ.in_ret ?_
                refine PQ.then_ret ?_
                refine PQ.ret2 rfl rfl rfl ?_
                intro w' hw
                have hS := sf (c := c) (k := 6) (nm := [115, 99, 97, 110]) h45 (by decide) rfl
                rw [show callF c gl = singleF c from by unfold callF; rw [if_neg (by omega)]]
                exact ⟨by rw [hS]; simp only [txtF, Option.map_some, Option.getD_some, Option.isSome_some]; simp [offs, Cq.fld, jn_two, jn_one, str], hw.below⟩
              · replace h45 := bF h45
                refine CW.seq ?_
                refine CW.region ?_
                refine LW.v rfl rfl (Val.cmp rfl rfl rfl) ?_
                refine LW.v rfl rfl (Val.assign rfl) ?_
                refine LW.nil ?_
                refine PQ.seq ?_
                refine CW.cond rfl (fun h56 => ?_) (fun h56 => ?_)
                · replace h56 := bT h56
                  refine CW.seq ?_
                  refine CW.seq ?_
                  refine CW.region ?_
                  refine LW.v rfl rfl (Val.move rfl) ?_
                  refine LW.v rfl rfl (Val.move rfl) ?_
                  refine LW.v rfl rfl (Val.fieldAddr 4 rfl Tryd.underlying41 rfl rfl Tryd.sizeOf39) ?_
                  refine LW.v rfl rfl (Val.load (v := .slice c.grp.a gl.length c.grp.c) rfl Tryd.isAgg39 (by repeat (first | exact .here | refine .there ?_)) (by rw [← hn]; rfl)) ?_
                  refine LW.v rfl rfl (Val.lenSl rfl Tryd.underlying39) ?_
                  refine LW.v rfl rfl (Val.cmp rfl rfl rfl) ?_
                  refine LW.v rfl rfl (Val.pick_f rfl rfl) ?_
                  refine LW.nil ?_
                  refine PQ.seq ?_
                  refine CW.cond rfl (fun h64 => ?_) (fun h64 => ?_)
                  · replace h64 := bT h64
                    refine CW.seq ?_
                    refine CW.region ?_
                    refine LW.v rfl rfl (Val.assign rfl) ?_
                    refine LW.v rfl rfl (Val.assign rfl) ?_
                    refine LW.nil ?_
                    refine PQ.seq ?_
                    refine CW.ret ?_
                    refine PQ.then_ret ?_
                    refine PQ.in_ret ?_
                    refine PQ.then_ret ?_
                    refine PQ.ret2 rfl rfl rfl ?_
                    intro w' hw
                    have hS : callF c gl = none := by
                      unfold callF
                      rw [if_pos h56, if_neg]
                      rintro ⟨hne, _⟩
                      exact hne (by have h8 := h64; first | exact List.length_eq_zero_iff.1 (by omega) | (simp at h8; exact h8))
                    exact ⟨by rw [hS]; rfl, hw.below⟩
                  · replace h64 := bF h64
                    have hgl0 : gl.length ≠ 0 := by omega
                    refine CW.skip ?_
                    refine PQ.seq ?_
                    refine CW.seq ?_
                    refine CW.region ?_
                    refine LW.v rfl rfl (Val.assign rfl) ?_
                    refine LW.nil ?_
                    refine PQ.seq ?_
                    refine CW.seq ?_
                    refine CW.seq ?_
                    refine CW.region ?_
                    refine LW.v rfl rfl (Val.assign rfl) ?_
                    refine LW.nil ?_
                    refine PQ.seq ?_
                    refine CW.block ?_
                    refine CW.loop (γ := Nat) (fun k => [(2, .pointer (some ⟨b2, 0, none⟩)), (6, str ([103, 114, 111, 117, 112] ++ jt (gw (gl.take k)))), (7, .int .i64 (k : Nat))]) (fun k => [[(b2, .cells c.cells.toArray 41 (0, 0))]]) (fun k => k ≤ gl.length ∧ ∀ z ∈ gl.take k, (singleF z).isSome = true) (fun k => gl.length - k) (0) ⟨Nat.zero_le _, by simp⟩ (by exact ⟨rfl, by simp [gw, gwords, jt]; rfl, rfl, trivial⟩) (by repeat (first | exact .nil | apply Pick.cons | exact .here | apply Ext.there)) ?_
                    intro k
                    rintro ⟨hk1, hk2⟩
                    refine CW.seq ?_
                    refine CW.seq ?_
                    refine CW.region ?_
                    refine LW.v rfl rfl (Val.move rfl) ?_
                    refine LW.v rfl rfl (Val.fieldAddr 4 rfl Tryd.underlying41 rfl rfl Tryd.sizeOf39) ?_
                    refine LW.v rfl rfl (Val.load (v := .slice c.grp.a gl.length c.grp.c) rfl Tryd.isAgg39 (by repeat (first | exact .here | refine .there ?_)) (by rw [← hn]; rfl)) ?_
                    refine LW.v rfl rfl (Val.lenSl rfl Tryd.underlying39) ?_
                    refine LW.v rfl rfl (Val.cmp rfl rfl rfl) ?_
                    refine LW.nil ?_
                    refine PQ.seq ?_
                    refine CW.cond rfl (fun h69 => ?_) (fun h69 => ?_)
                    · replace h69 := bT h69
                      obtain ⟨bg, og, x, hpa, hbg, hx, hrg⟩ := V.slAt_at h rfl (k := k) (by omega)
                      have hxs := hgs x (List.mem_of_getElem? hx)
                      refine CW.skip ?_
                      refine PQ.seq ?_
                      refine CW.seq ?_
                      refine CW.block ?_
                      refine CW.seq ?_
                      refine CW.region ?_
                      refine LW.v rfl rfl (Val.fieldAddr 4 rfl Tryd.underlying41 rfl rfl Tryd.sizeOf39) ?_
                      refine LW.v rfl rfl (Val.load (v := .slice c.grp.a gl.length c.grp.c) rfl Tryd.isAgg39 (by repeat (first | exact .here | refine .there ?_)) (by rw [← hn]; rfl)) ?_
                      refine LW.re 74 (.slice (some ⟨bg, og, none⟩) gl.length c.grp.c) rfl (by rw [hpa]) ?_
                      refine LW.v rfl rfl (Val.move rfl) ?_
                      first | (refine LW.v rfl rfl (Val.indexAddrN rfl rfl Tryd.underlying39 Tryd.sizeOf41 (by omega)) ?_) | (refine LW.v rfl rfl (Val.indexAddr rfl rfl Tryd.underlying39 Tryd.sizeOf41 (by omega) (by omega)) ?_)
                      refine LW.v rfl rfl (Val.loadOA rfl Tryd.isAgg41 hbg (by simp [ids]) (hrg _ _ hx) Tryd.sizeOf41) ?_
                      refine LW.e rfl rfl (Eff.callV rfl Tryd.call43 (fun w hw => rcall1_c x hxs w)) ?_
                      intro _ _
                      refine LW.v rfl rfl (Val.move rfl) ?_
                      refine LW.v rfl rfl (Val.extract rfl rfl) ?_
                      refine LW.v rfl rfl (Val.extract rfl rfl) ?_
                      refine LW.v rfl rfl (Val.assign rfl) ?_
                      refine LW.v rfl rfl (Val.assign rfl) ?_
                      refine LW.nil ?_
                      refine PQ.seq ?_
                      refine CW.seq ?_
                      refine CW.seq ?_
                      refine CW.region ?_
                      refine LW.v rfl rfl (Val.move rfl) ?_
                      refine LW.v rfl rfl (Val.not rfl) ?_
                      refine LW.nil ?_
                      refine PQ.seq ?_
                      refine CW.cond rfl (fun h82 => ?_) (fun h82 => ?_)
                      · replace h82 := bT h82
                        have h82n : singleF x = none := by rw [← Option.isNone_iff_eq_none, ← Option.isSome_eq_false_iff]; simpa using h82
                        refine CW.seq ?_
                        refine CW.region ?_
                        refine LW.v rfl rfl (Val.assign rfl) ?_
                        refine LW.v rfl rfl (Val.assign rfl) ?_
                        refine LW.nil ?_
                        refine PQ.seq ?_
                        refine CW.ret ?_
                        refine PQ.then_ret ?_
                        refine PQ.in_ret ?_
                        refine PQ.then_ret ?_
                        refine PQ.then_ret ?_
                        refine PQ.in_ret ?_
                        refine PQ.then_ret ?_
                        refine PQ.in_ret ?_
                        refine PQ.then_ret ?_
                        refine PQ.ret2 rfl rfl rfl ?_
                        intro w' hw
                        have hS : callF c gl = none := by
                          unfold callF
                          rw [if_pos h56, if_neg]
                          rintro ⟨_, ha⟩
                          have := ha x (List.mem_of_getElem? hx)
                          rw [h82n] at this
                          cases this
                        exact ⟨by rw [hS]; rfl, hw.below⟩
                      · replace h82 := bF h82
                        obtain ⟨ws, hws⟩ : ∃ ws, singleF x = some ws := Option.isSome_iff_exists.1 (by simpa using h82)
                        have htx : txtF (singleF x) = jn ws := by rw [hws]; rfl
                        have hjl : (jn ws).length ≤ 2000000 := by
                          have h8 := jt_sw hxs
                          unfold sw at h8
                          rw [hws, Option.getD_some, jt_ne (single_ne hws)] at h8
                          simp only [List.length_cons] at h8; omega
                        have hgl8 := jt_gw hgs hk1
                        refine CW.re 8 (str (jn ws)) rfl (by rw [htx]) ?_
                        refine CW.skip ?_
                        refine PQ.seq ?_
                        refine CW.seq ?_
                        refine CW.seq ?_
                        refine CW.region ?_
                        refine LW.v rfl rfl (Val.move rfl) ?_
                        refine LW.v rfl rfl (Val.cmp rfl rfl rfl) ?_
                        refine LW.nil ?_
                        refine PQ.seq ?_
                        refine CW.cond rfl (fun h84 => ?_) (fun h84 => ?_)
                        · replace h84 := bT h84
                          refine CW.region ?_
                          refine LW.v rfl rfl (Val.move rfl) ?_
                          refine LW.v rfl rfl (Val.catStr rfl rfl (by first | omega | (simp only [List.length_append, List.length_cons, List.length_nil]; omega))) ?_
                          refine LW.v rfl rfl (Val.assign rfl) ?_
                          refine LW.nil ?_
                          refine PQ.seq ?_
                          refine CW.region ?_
                          refine LW.v rfl rfl (Val.move rfl) ?_
                          refine LW.v rfl rfl (Val.catStr rfl rfl (by first | omega | (simp only [List.length_append, List.length_cons, List.length_nil]; omega))) ?_
                          refine LW.v rfl rfl (Val.move rfl) ?_
                          refine LW.v rfl rfl (Val.catStr rfl rfl (by first | omega | (simp only [List.length_append, List.length_cons, List.length_nil]; omega))) ?_
                          refine LW.v rfl rfl (Val.assign rfl) ?_
                          refine LW.nil ?_
                          refine PQ.in_normal ?_
                          refine PQ.seq ?_
                          refine CW.region ?_
                          refine LW.v rfl rfl (Val.move rfl) ?_
                          refine LW.v rfl rfl (Val.ar rfl rfl rfl (IntWalk.i64_in _ (by omega))) ?_
                          refine LW.v rfl rfl (Val.assign rfl) ?_
                          refine LW.nil ?_
                          have hsw : sw x = ws := by unfold sw; rw [hws]; rfl
                          have hW : [103, 114, 111, 117, 112] ++ jt (gw (gl.take (k + 1))) = ([103, 114, 111, 117, 112] ++ jt (gw (gl.take k))) ++ [32, 59] ++ [32] ++ jn ws := by
                            rw [gw_snoc hx, if_neg (by omega), jt_append, hsw, show jt ([59] :: ws) = [32, 59] ++ jt ws from by simp [jt], jt_ne (single_ne hws)]
                            simp [jt]
                          have hall : ∀ z ∈ gl.take (k + 1), (singleF z).isSome = true := by
                            intro z hz
                            rw [List.take_add_one, hx] at hz
                            rcases List.mem_append.1 hz with hz | hz
                            · exact hk2 z hz
                            · simp at hz; subst hz; rw [hws]; rfl
                          refine PQ.round (k + 1) ⟨by omega, hall⟩ (by omega) (by exact ⟨rfl, by rw [hW]; rfl, rfl, trivial⟩) (by repeat (first | exact .nil | apply Pick.cons | exact .here | apply Ext.there))
                        · replace h84 := bF h84
                          refine CW.skip ?_
                          refine PQ.seq ?_
                          refine CW.region ?_
                          refine LW.v rfl rfl (Val.move rfl) ?_
                          refine LW.v rfl rfl (Val.catStr rfl rfl (by first | omega | (simp only [List.length_append, List.length_cons, List.length_nil]; omega))) ?_
                          refine LW.v rfl rfl (Val.move rfl) ?_
                          refine LW.v rfl rfl (Val.catStr rfl rfl (by first | omega | (simp only [List.length_append, List.length_cons, List.length_nil]; omega))) ?_
                          refine LW.v rfl rfl (Val.assign rfl) ?_
                          refine LW.nil ?_
                          refine PQ.in_normal ?_
                          refine PQ.seq ?_
                          refine CW.region ?_
                          refine LW.v rfl rfl (Val.move rfl) ?_
                          refine LW.v rfl rfl (Val.ar rfl rfl rfl (IntWalk.i64_in _ (by omega))) ?_
                          refine LW.v rfl rfl (Val.assign rfl) ?_
                          refine LW.nil ?_
                          have hsw : sw x = ws := by unfold sw; rw [hws]; rfl
                          have hW : [103, 114, 111, 117, 112] ++ jt (gw (gl.take (k + 1))) = ([103, 114, 111, 117, 112] ++ jt (gw (gl.take k))) ++ [32] ++ jn ws := by
                            rw [gw_snoc hx, if_pos (by omega), jt_append, hsw, jt_ne (single_ne hws)]
                            simp [jt]
                          have hall : ∀ z ∈ gl.take (k + 1), (singleF z).isSome = true := by
                            intro z hz
                            rw [List.take_add_one, hx] at hz
                            rcases List.mem_append.1 hz with hz | hz
                            · exact hk2 z hz
                            · simp at hz; subst hz; rw [hws]; rfl
                          refine PQ.round (k + 1) ⟨by omega, hall⟩ (by omega) (by exact ⟨rfl, by rw [hW]; rfl, rfl, trivial⟩) (by repeat (first | exact .nil | apply Pick.cons | exact .here | apply Ext.there))
                    · replace h69 := bF h69
                      refine CW.exit ?_
                      refine PQ.then_exit ?_
                      refine PQ.then_exit ?_
                      refine PQ.in_here ?_
                      refine PQ.seq ?_
                      refine CW.seq ?_
                      refine CW.region ?_
                      refine LW.v rfl rfl (Val.move rfl) ?_
                      refine LW.v rfl rfl (Val.assign rfl) ?_
                      refine LW.v rfl rfl (Val.assign rfl) ?_
                      refine LW.nil ?_
                      refine PQ.seq ?_
                      refine CW.ret ?_
                      refine PQ.in_ret ?_
                      refine PQ.then_ret ?_
                      refine PQ.ret2 rfl rfl rfl ?_
                      intro w' hw
                      have e1 : gl.take k = gl := List.take_of_length_le (by omega)
                      rw [e1] at hk2
                      have hS : callF c gl = some ([103, 114, 111, 117, 112] :: gw gl) := by
                        unfold callF
                        rw [if_pos h56, if_pos ⟨by intro e; apply hgl0; rw [e]; rfl, hk2⟩]
                      exact ⟨by rw [hS, e1]; simp only [txtF, Option.map_some, Option.getD_some, Option.isSome_some]; rw [jn_cons], hw.below⟩
                · replace h56 := bF h56
                  refine CW.skip ?_
                  refine PQ.in_normal ?_
                  refine PQ.seq ?_
                  refine CW.seq ?_
                  refine CW.region ?_
                  refine LW.v rfl rfl (Val.assign rfl) ?_
                  refine LW.v rfl rfl (Val.assign rfl) ?_
                  refine LW.nil ?_
                  refine PQ.seq ?_
                  refine CW.ret ?_
                  refine PQ.ret2 rfl rfl rfl ?_
                  intro w' hw
                  have hS : callF c gl = none := by
                    unfold callF
                    rw [if_neg (by omega)]
                    exact sf_no (by refine ⟨?_, ?_, ?_, ?_, ?_, ?_, ?_⟩ <;> omega)
                  exact ⟨by rw [hS]; rfl, hw.below⟩
theorem lineP_len {w : World} {e : Evq} {gl : List Cq} {kl : List Int} (h : EvOk w e gl kl) : ∀ nm l mo, lineP e gl kl = some (nm, l, mo) → fitsB l = true → (jn (nm :: (numL l ++ mo))).length ≤ 150000000000 := by
  intro nm l mo hP hf
  have h1 := jn_num nm hf (mo := mo)
  have h2 : nm.length ≤ 6 ∧ l.length ≤ 100000 ∧ (jt mo).length ≤ 140100000000 := by
    have hk := h.kl1
    have hk2 := h.kn
    unfold lineP at hP
    repeat' split at hP
    · simp only [Option.map_eq_some_iff] at hP
      obtain ⟨ws, hws, hE⟩ := hP
      cases hE
      refine ⟨by simp, by simp, ?_⟩
      unfold callF at hws
      split at hws
      · split at hws
        · cases hws
          have h9 := jt_gw h.sg (Nat.le_refl gl.length)
          rw [List.take_length] at h9
          have h10 := h.gl1
          have h11 : (jt ([103, 114, 111, 117, 112] :: gw gl)).length = 6 + (jt (gw gl)).length := by simp [jt]; omega
          omega
        · cases hws
      · have h9 := jt_sw h.sm
        unfold sw at h9
        rw [hws] at h9
        simp only [Option.getD_some] at h9; omega
    all_goals first | (cases hP; done) | (cases hP; refine ⟨by simp, by first | (simp; done) | omega, by simp [jt]⟩)
  omega
theorem fitsB_cons {l : List Int} {k : Nat} {x : Int} (hx : l[k]? = some x) (h : fitsB (l.take k) = true) (h' : fitsB [x] = true) : fitsB (l.take (k + 1)) = true := by
  rw [List.take_add_one, hx]
  refine List.all_eq_true.2 fun z hz => ?_
  rcases List.mem_append.1 hz with hz | hz
  · exact List.all_eq_true.1 h z hz
  · exact List.all_eq_true.1 h' z (by simpa using hz)
theorem rline_c (e : Evq) (gl : List Cq) (kl : List Int) (w : World) (h : EvOk w e gl kl) : Calls Tryd.prog 23 [.agg e.cells.toArray].toArray w fun e' w' => e' = .returned (.tuple #[str (lineF e gl kl).1, .int .i64 (lineF e gl kl).2]) ∧ Below w.heap.size w w' := by
  refine V.calls [] Tryd.func23 rfl Tryd.ntmps23 (Nat.le_of_ble_eq_true rfl) (V.sat_nil _) ?_
  refine CW.seq ?_
  refine CW.region ?_
  refine LW.e rfl rfl (Eff.boxA rfl) ?_
  intro b1 _
  refine LW.v rfl rfl (Val.assign rfl) ?_
  refine LW.v rfl rfl (Val.assign rfl) ?_
  refine LW.nil ?_
  refine PQ.seq ?_
  refine CW.seq ?_
  refine CW.seq ?_
  refine CW.region ?_
  refine LW.v rfl rfl (Val.fieldAddr 0 rfl Tryd.underlying44 rfl rfl Tryd.sizeOf3) ?_
  refine LW.v rfl rfl (Val.load rfl Tryd.isAgg3 (by repeat (first | exact .here | refine .there ?_)) (by rfl)) ?_
  refine LW.nil ?_
  refine PQ.seq ?_
  refine CW.block ?_
  refine CW.seq ?_
  refine CW.region ?_
  refine LW.v rfl rfl (Val.cmp rfl rfl rfl) ?_
  refine LW.v rfl rfl (Val.assign rfl) ?_
  refine LW.nil ?_
  refine PQ.seq ?_
  refine CW.cond rfl (fun h10 => ?_) (fun h10 => ?_)
  · replace h10 := bT h10
    refine CW.seq ?_
    refine CW.region ?_
    refine LW.v rfl rfl (Val.fieldAddr 3 rfl Tryd.underlying44 rfl rfl Tryd.sizeOf41) ?_
    refine LW.v rfl rfl (Val.loadA e.call.cells (r := [.slice e.keep.a e.keep.n e.keep.c]) rfl Tryd.isAgg41 (by repeat (first | exact .here | refine .there ?_)) (by rfl) Tryd.sizeOf41) ?_
    refine LW.e rfl rfl (Eff.callV rfl Tryd.call43 (fun w hw => rcall_c e.call gl h.sm h.sg h.gl1 w h.gn (hw.slAt h.gs (by simp [ids])))) ?_
    intro _ _
    refine LW.v rfl rfl (Val.move rfl) ?_
    refine LW.v rfl rfl (Val.extract rfl rfl) ?_
    refine LW.v rfl rfl (Val.extract rfl rfl) ?_
    refine LW.v rfl rfl (Val.assign rfl) ?_
    refine LW.v rfl rfl (Val.assign rfl) ?_
    refine LW.nil ?_
    refine PQ.seq ?_
    refine CW.seq ?_
    refine CW.seq ?_
    refine CW.region ?_
    refine LW.v rfl rfl (Val.move rfl) ?_
    refine LW.v rfl rfl (Val.not rfl) ?_
    refine LW.nil ?_
    refine PQ.seq ?_
    refine CW.cond rfl (fun h19 => ?_) (fun h19 => ?_)
    · replace h19 := bT h19
      have h19n : callF e.call gl = none := by rw [← Option.isNone_iff_eq_none, ← Option.isSome_eq_false_iff]; simpa using h19
      refine CW.seq ?_
      refine CW.region ?_
      refine LW.v rfl rfl (Val.assign rfl) ?_
      refine LW.v rfl rfl (Val.assign rfl) ?_
      refine LW.nil ?_
      refine PQ.seq ?_
      refine CW.ret ?_
      refine PQ.then_ret ?_
      refine PQ.in_ret ?_
      refine PQ.then_ret ?_
      refine PQ.ret2 rfl rfl rfl ?_
      intro w' hw
      have hP : lineP e gl kl = none := by
        unfold lineP
        rw [if_pos (by omega), h19n]; rfl
      exact ⟨by unfold lineF; rw [hP]; rfl, hw.below⟩
    · replace h19 := bF h19
      obtain ⟨ws, hws⟩ : ∃ ws, callF e.call gl = some ws := Option.isSome_iff_exists.1 (by simpa using h19)
      have hwne : ws ≠ [] := by
        unfold callF at hws
        split at hws
        · split at hws
          · cases hws; simp
          · cases hws
        · exact single_ne hws
      have hjl : (jn ws).length ≤ 150000000000 := by
        have hP : lineP e gl kl = some ([99, 97, 108, 108], [e.th], ws) := by unfold lineP; rw [if_pos (by omega), hws]; rfl
        have h8 : ∀ l : List Int, (jn ws).length ≤ (jn ([99, 97, 108, 108] :: (numL l ++ ws))).length := fun l => by
          rw [jn_cons, jt_append, jt_ne hwne]; simp; omega
        rcases Classical.em (fitsB [e.th] = true) with h9 | h9
        · exact Nat.le_trans (h8 _) (lineP_len h _ _ _ hP h9)
        · have hP0 : lineP { e with th := 0 } gl kl = some ([99, 97, 108, 108], [0], ws) := by unfold lineP; rw [if_pos (by show e.kind = 1; omega), hws]; rfl
          exact Nat.le_trans (h8 [0]) (lineP_len (w := w) (e := { e with th := 0 }) ⟨h.gn, h.gs, h.kn, h.ks, h.gl1, h.kl1, h.sm, h.sg⟩ _ _ _ hP0 (by decide))
      refine CW.re 4 (str (jn ws)) rfl (by rw [hws]; rfl) ?_
      refine CW.skip ?_
      refine PQ.seq ?_
      refine CW.seq ?_
      refine CW.seq ?_
      refine CW.region ?_
      refine LW.v rfl rfl (Val.fieldAddr 1 rfl Tryd.underlying44 rfl rfl Tryd.sizeOf3) ?_
      refine LW.v rfl rfl (Val.load rfl Tryd.isAgg3 (by repeat (first | exact .here | refine .there ?_)) (by rfl)) ?_
      refine LW.e rfl rfl (Eff.callV rfl Tryd.call44 (fun w hw => fits_c e.th w)) ?_
      intro _ _
      refine LW.v rfl rfl (Val.not rfl) ?_
      refine LW.nil ?_
      refine PQ.seq ?_
      refine CW.cond rfl (fun h23 => ?_) (fun h23 => ?_)
      · replace h23 := bT h23
        refine CW.seq ?_
        refine CW.region ?_
        refine LW.v rfl rfl (Val.assign rfl) ?_
        refine LW.v rfl rfl (Val.assign rfl) ?_
        refine LW.nil ?_
        refine PQ.seq ?_
        refine CW.ret ?_
        refine PQ.then_ret ?_
        refine PQ.in_ret ?_
        refine PQ.then_ret ?_
        refine PQ.ret2 rfl rfl rfl ?_
        intro w' hw
        have hP : lineP e gl kl = some ([99, 97, 108, 108], [e.th], ws) := by
          unfold lineP
          rw [if_pos (by omega)]
          rw [hws]; rfl
        have hno : ¬ fitsB [e.th] = true := by simpa using h23
        exact ⟨by unfold lineF; rw [hP]; simp only [lineR]; rw [if_neg hno]; rfl, hw.below⟩
      · replace h23 := bF h23
        have hfx : fitsB [e.th] = true := by simpa using h23
        have hfr := fitsB_mem hfx (x := e.th) (by simp)
        have hd9 := decN_9 hfr.2
        refine CW.skip ?_
        refine PQ.seq ?_
        refine CW.seq ?_
        refine CW.region ?_
        refine LW.v rfl rfl (Val.fieldAddr 1 rfl Tryd.underlying44 rfl rfl Tryd.sizeOf3) ?_
        refine LW.v rfl rfl (Val.load rfl Tryd.isAgg3 (by repeat (first | exact .here | refine .there ?_)) (by rfl)) ?_
        refine LW.e rfl rfl (Eff.callV rfl Tryd.call45 (fun w hw => by have e9 := decimal_c (e.th).toNat (by omega) w; rw [show (((e.th).toNat : Nat) : Int) = e.th by omega] at e9; exact e9)) ?_
        intro _ _
        refine LW.v rfl rfl (Val.catStr rfl rfl (by first | omega | (simp only [List.length_append, List.length_cons, List.length_nil]; omega))) ?_
        refine LW.v rfl rfl (Val.catStr rfl rfl (by first | omega | (simp only [List.length_append, List.length_cons, List.length_nil]; omega))) ?_
        refine LW.v rfl rfl (Val.move rfl) ?_
        refine LW.v rfl rfl (Val.catStr rfl rfl (by first | omega | (simp only [List.length_append, List.length_cons, List.length_nil]; omega))) ?_
        refine LW.v rfl rfl (Val.assign rfl) ?_
        refine LW.v rfl rfl (Val.assign rfl) ?_
        refine LW.nil ?_
        refine PQ.seq ?_
        refine CW.ret ?_
        refine PQ.in_ret ?_
        refine PQ.then_ret ?_
        refine PQ.ret2 rfl rfl rfl ?_
        intro w' hw
        have hP : lineP e gl kl = some ([99, 97, 108, 108], [e.th], ws) := by
          unfold lineP
          rw [if_pos (by omega)]
          rw [hws]; rfl
        have hfit : fitsB [e.th] = true := by simpa using h23
        exact ⟨by unfold lineF; rw [hP]; simp only [lineR]; rw [if_pos hfit]; simp only [numL, List.map_cons, List.map_nil, List.cons_append, List.nil_append]; rw [jn_two, jn_cons, jt_ne hwne]; simp [str], hw.below⟩
  · replace h10 := bF h10
    refine CW.seq ?_
    refine CW.region ?_
    refine LW.v rfl rfl (Val.cmp rfl rfl rfl) ?_
    refine LW.v rfl rfl (Val.assign rfl) ?_
    refine LW.nil ?_
    refine PQ.seq ?_
    refine CW.cond rfl (fun h31 => ?_) (fun h31 => ?_)
    · replace h31 := bT h31
      refine CW.seq ?_
      refine CW.seq ?_
      refine CW.region ?_
      refine LW.v rfl rfl (Val.fieldAddr 1 rfl Tryd.underlying44 rfl rfl Tryd.sizeOf3) ?_
      refine LW.v rfl rfl (Val.load rfl Tryd.isAgg3 (by repeat (first | exact .here | refine .there ?_)) (by rfl)) ?_
      refine LW.e rfl rfl (Eff.callV rfl Tryd.call44 (fun w hw => fits_c e.th w)) ?_
      intro _ _
      refine LW.v rfl rfl (Val.not rfl) ?_
      refine LW.nil ?_
      refine PQ.seq ?_
      refine CW.cond rfl (fun h36 => ?_) (fun h36 => ?_)
      · replace h36 := bT h36
        refine CW.seq ?_
        refine CW.region ?_
        refine LW.v rfl rfl (Val.assign rfl) ?_
        refine LW.v rfl rfl (Val.assign rfl) ?_
        refine LW.nil ?_
        refine PQ.seq ?_
        refine CW.ret ?_
        refine PQ.then_ret ?_
        refine PQ.in_ret ?_
        refine PQ.then_ret ?_
        refine PQ.ret2 rfl rfl rfl ?_
        intro w' hw
        have hP : lineP e gl kl = some ([115, 116, 101, 112], [e.th], []) := by
          unfold lineP
          rw [if_neg (by omega), if_pos (by omega)]
        have hno : ¬ fitsB [e.th] = true := by simpa using h36
        exact ⟨by unfold lineF; rw [hP]; simp only [lineR]; rw [if_neg hno]; rfl, hw.below⟩
      · replace h36 := bF h36
        have hfx : fitsB [e.th] = true := by simpa using h36
        have hfr := fitsB_mem hfx (x := e.th) (by simp)
        have hd9 := decN_9 hfr.2
        refine CW.skip ?_
        refine PQ.seq ?_
        refine CW.seq ?_
        refine CW.region ?_
        refine LW.v rfl rfl (Val.fieldAddr 1 rfl Tryd.underlying44 rfl rfl Tryd.sizeOf3) ?_
        refine LW.v rfl rfl (Val.load rfl Tryd.isAgg3 (by repeat (first | exact .here | refine .there ?_)) (by rfl)) ?_
        refine LW.e rfl rfl (Eff.callV rfl Tryd.call45 (fun w hw => by have e9 := decimal_c (e.th).toNat (by omega) w; rw [show (((e.th).toNat : Nat) : Int) = e.th by omega] at e9; exact e9)) ?_
        intro _ _
        refine LW.v rfl rfl (Val.catStr rfl rfl (by first | omega | (simp only [List.length_append, List.length_cons, List.length_nil]; omega))) ?_
        refine LW.v rfl rfl (Val.assign rfl) ?_
        refine LW.v rfl rfl (Val.assign rfl) ?_
        refine LW.nil ?_
        refine PQ.seq ?_
        refine CW.ret ?_
        refine PQ.in_ret ?_
        refine PQ.then_ret ?_
        refine PQ.ret2 rfl rfl rfl ?_
        intro w' hw
        have hP : lineP e gl kl = some ([115, 116, 101, 112], [e.th], []) := by
          unfold lineP
          rw [if_neg (by omega), if_pos (by omega)]
        have hfit : fitsB [e.th] = true := by simpa using h36
        exact ⟨by unfold lineF; rw [hP]; simp only [lineR]; rw [if_pos hfit]; simp [numL, jn_two, jn_one, str], hw.below⟩
    · replace h31 := bF h31
      refine CW.seq ?_
      refine CW.region ?_
      refine LW.v rfl rfl (Val.cmp rfl rfl rfl) ?_
      refine LW.v rfl rfl (Val.assign rfl) ?_
      refine LW.nil ?_
      refine PQ.seq ?_
      refine CW.cond rfl (fun h41 => ?_) (fun h41 => ?_)
      · replace h41 := bT h41
        refine CW.seq ?_
        refine CW.region ?_
        refine LW.v rfl rfl (Val.assign rfl) ?_
        refine LW.v rfl rfl (Val.assign rfl) ?_
        refine LW.nil ?_
        refine PQ.seq ?_
        refine CW.ret ?_
        refine PQ.in_ret ?_
        refine PQ.then_ret ?_
        refine PQ.ret2 rfl rfl rfl ?_
        intro w' hw
        have hP : lineP e gl kl = some ([107, 101, 101, 112], [], []) := by
          unfold lineP
          rw [if_neg (by omega), if_neg (by omega), if_pos (by omega)]
        have hfit : fitsB [] = true := rfl
        exact ⟨by unfold lineF; rw [hP]; simp only [lineR]; rw [if_pos hfit]; simp [numL, jn_one, str], hw.below⟩
      · replace h41 := bF h41
        refine CW.seq ?_
        refine CW.region ?_
        refine LW.v rfl rfl (Val.cmp rfl rfl rfl) ?_
        refine LW.v rfl rfl (Val.assign rfl) ?_
        refine LW.nil ?_
        refine PQ.seq ?_
        refine CW.cond rfl (fun h43 => ?_) (fun h43 => ?_)
        · replace h43 := bT h43
          refine CW.seq ?_
          refine CW.region ?_
          refine LW.v rfl rfl (Val.assign rfl) ?_
          refine LW.v rfl rfl (Val.assign rfl) ?_
          refine LW.nil ?_
          refine PQ.seq ?_
          refine CW.ret ?_
          refine PQ.in_ret ?_
          refine PQ.then_ret ?_
          refine PQ.ret2 rfl rfl rfl ?_
          intro w' hw
          have hP : lineP e gl kl = some ([114, 101, 118, 105, 118, 101], [], []) := by
            unfold lineP
            rw [if_neg (by omega), if_neg (by omega), if_neg (by omega), if_neg (by omega), if_neg (by omega), if_pos (by omega)]
          have hfit : fitsB [] = true := rfl
          exact ⟨by unfold lineF; rw [hP]; simp only [lineR]; rw [if_pos hfit]; simp [numL, jn_one, str], hw.below⟩
        · replace h43 := bF h43
          refine CW.seq ?_
          refine CW.region ?_
          refine LW.v rfl rfl (Val.cmp rfl rfl rfl) ?_
          refine LW.v rfl rfl (Val.assign rfl) ?_
          refine LW.nil ?_
          refine PQ.seq ?_
          refine CW.cond rfl (fun h45 => ?_) (fun h45 => ?_)
          · replace h45 := bT h45
            refine CW.seq ?_
            refine CW.seq ?_
            refine CW.region ?_
            refine LW.v rfl rfl (Val.fieldAddr 2 rfl Tryd.underlying44 rfl rfl Tryd.sizeOf3) ?_
            refine LW.v rfl rfl (Val.load rfl Tryd.isAgg3 (by repeat (first | exact .here | refine .there ?_)) (by rfl)) ?_
            refine LW.e rfl rfl (Eff.callV rfl Tryd.call44 (fun w hw => fits_c e.ln w)) ?_
            intro _ _
            refine LW.v rfl rfl (Val.not rfl) ?_
            refine LW.nil ?_
            refine PQ.seq ?_
            refine CW.cond rfl (fun h50 => ?_) (fun h50 => ?_)
            · replace h50 := bT h50
              refine CW.seq ?_
              refine CW.region ?_
              refine LW.v rfl rfl (Val.assign rfl) ?_
              refine LW.v rfl rfl (Val.assign rfl) ?_
              refine LW.nil ?_
              refine PQ.seq ?_
              refine CW.ret ?_
              refine PQ.then_ret ?_
              refine PQ.in_ret ?_
              refine PQ.then_ret ?_
              refine PQ.ret2 rfl rfl rfl ?_
              intro w' hw
              have hP : lineP e gl kl = some ([98, 97, 99, 107], [e.ln], []) := by
                unfold lineP
                rw [if_neg (by omega), if_neg (by omega), if_neg (by omega), if_pos (by omega)]
              have hno : ¬ fitsB [e.ln] = true := by simpa using h50
              exact ⟨by unfold lineF; rw [hP]; simp only [lineR]; rw [if_neg hno]; rfl, hw.below⟩
            · replace h50 := bF h50
              have hfx : fitsB [e.ln] = true := by simpa using h50
              have hfr := fitsB_mem hfx (x := e.ln) (by simp)
              have hd9 := decN_9 hfr.2
              refine CW.skip ?_
              refine PQ.seq ?_
              refine CW.seq ?_
              refine CW.region ?_
              refine LW.v rfl rfl (Val.fieldAddr 2 rfl Tryd.underlying44 rfl rfl Tryd.sizeOf3) ?_
              refine LW.v rfl rfl (Val.load rfl Tryd.isAgg3 (by repeat (first | exact .here | refine .there ?_)) (by rfl)) ?_
              refine LW.e rfl rfl (Eff.callV rfl Tryd.call45 (fun w hw => by have e9 := decimal_c (e.ln).toNat (by omega) w; rw [show (((e.ln).toNat : Nat) : Int) = e.ln by omega] at e9; exact e9)) ?_
              intro _ _
              refine LW.v rfl rfl (Val.catStr rfl rfl (by first | omega | (simp only [List.length_append, List.length_cons, List.length_nil]; omega))) ?_
              refine LW.v rfl rfl (Val.assign rfl) ?_
              refine LW.v rfl rfl (Val.assign rfl) ?_
              refine LW.nil ?_
              refine PQ.seq ?_
              refine CW.ret ?_
              refine PQ.in_ret ?_
              refine PQ.then_ret ?_
              refine PQ.ret2 rfl rfl rfl ?_
              intro w' hw
              have hP : lineP e gl kl = some ([98, 97, 99, 107], [e.ln], []) := by
                unfold lineP
                rw [if_neg (by omega), if_neg (by omega), if_neg (by omega), if_pos (by omega)]
              have hfit : fitsB [e.ln] = true := by simpa using h50
              exact ⟨by unfold lineF; rw [hP]; simp only [lineR]; rw [if_pos hfit]; simp [numL, jn_two, jn_one, str], hw.below⟩
          · replace h45 := bF h45
            refine CW.seq ?_
            refine CW.region ?_
            refine LW.v rfl rfl (Val.cmp rfl rfl rfl) ?_
            refine LW.v rfl rfl (Val.assign rfl) ?_
            refine LW.nil ?_
            refine PQ.seq ?_
            refine CW.cond rfl (fun h55 => ?_) (fun h55 => ?_)
            · replace h55 := bT h55
              refine CW.seq ?_
              refine CW.region ?_
              refine LW.v rfl rfl (Val.assign rfl) ?_
              refine LW.nil ?_
              refine PQ.seq ?_
              refine CW.seq ?_
              refine CW.seq ?_
              refine CW.region ?_
              refine LW.v rfl rfl (Val.assign rfl) ?_
              refine LW.nil ?_
              refine PQ.seq ?_
              refine CW.block ?_
              refine CW.loop (γ := Nat) (fun k => [(1, .pointer (some ⟨b1, 0, none⟩)), (6, str ([99, 117, 116] ++ jt (numL (kl.take k)))), (7, .int .i64 (k : Nat))]) (fun k => [[(b1, .cells e.cells.toArray 44 (0, 0))]]) (fun k => k ≤ e.keep.n ∧ fitsB (kl.take k) = true) (fun k => e.keep.n - k) (0) ⟨Nat.zero_le _, rfl⟩ (by exact ⟨rfl, by simp [numL, jt]; rfl, rfl, trivial⟩) (by repeat (first | exact .nil | apply Pick.cons | exact .here | apply Ext.there)) ?_
              intro k
              rintro ⟨hk1, hk2⟩
              refine CW.seq ?_
              refine CW.seq ?_
              refine CW.region ?_
              refine LW.v rfl rfl (Val.move rfl) ?_
              refine LW.v rfl rfl (Val.fieldAddr 8 rfl Tryd.underlying44 rfl rfl Tryd.sizeOf42) ?_
              refine LW.v rfl rfl (Val.load (v := .slice e.keep.a e.keep.n e.keep.c) rfl Tryd.isAgg42 (by repeat (first | exact .here | refine .there ?_)) (by rfl)) ?_
              refine LW.v rfl rfl (Val.lenSl rfl Tryd.underlying42) ?_
              refine LW.v rfl rfl (Val.cmp rfl rfl rfl) ?_
              refine LW.nil ?_
              refine PQ.seq ?_
              refine CW.cond rfl (fun h61 => ?_) (fun h61 => ?_)
              · replace h61 := bT h61
                obtain ⟨bb, oo, x, hpa, hb, hx, hh⟩ := V.slAt_at h.ks h.kn (k := k) (by omega)
                refine CW.skip ?_
                refine PQ.seq ?_
                refine CW.seq ?_
                refine CW.block ?_
                refine CW.seq ?_
                refine CW.seq ?_
                refine CW.region ?_
                refine LW.v rfl rfl (Val.fieldAddr 8 rfl Tryd.underlying44 rfl rfl Tryd.sizeOf42) ?_
                refine LW.v rfl rfl (Val.load (v := .slice e.keep.a e.keep.n e.keep.c) rfl Tryd.isAgg42 (by repeat (first | exact .here | refine .there ?_)) (by rfl)) ?_
                refine LW.re 65 (.slice (some ⟨bb, oo, none⟩) e.keep.n e.keep.c) rfl (by rw [hpa]) ?_
                refine LW.v rfl rfl (Val.move rfl) ?_
                first | (refine LW.v rfl rfl (Val.indexAddrN rfl rfl Tryd.underlying42 Tryd.sizeOf3 (by omega)) ?_) | (refine LW.v rfl rfl (Val.indexAddr rfl rfl Tryd.underlying42 Tryd.sizeOf3 (by omega) (by omega)) ?_)
                refine LW.v rfl rfl (Val.loadO rfl Tryd.isAgg3 hb (by simp [ids]) (hh k x hx 0 _ rfl)) ?_
                refine LW.e rfl rfl (Eff.callV rfl Tryd.call44 (fun w hw => fits_c x w)) ?_
                intro _ _
                refine LW.v rfl rfl (Val.not rfl) ?_
                refine LW.nil ?_
                refine PQ.seq ?_
                refine CW.cond rfl (fun h70 => ?_) (fun h70 => ?_)
                · replace h70 := bT h70
                  refine CW.seq ?_
                  refine CW.region ?_
                  refine LW.v rfl rfl (Val.assign rfl) ?_
                  refine LW.v rfl rfl (Val.assign rfl) ?_
                  refine LW.nil ?_
                  refine PQ.seq ?_
                  refine CW.ret ?_
                  refine PQ.then_ret ?_
                  refine PQ.in_ret ?_
                  refine PQ.then_ret ?_
                  refine PQ.then_ret ?_
                  refine PQ.in_ret ?_
                  refine PQ.then_ret ?_
                  refine PQ.in_ret ?_
                  refine PQ.then_ret ?_
                  refine PQ.ret2 rfl rfl rfl ?_
                  intro w' hw
                  have hP : lineP e gl kl = some ([99, 117, 116], kl, []) := by
                    unfold lineP
                    rw [if_neg (by omega), if_neg (by omega), if_neg (by omega), if_neg (by omega), if_pos (by omega)]
                  have hno : ¬ fitsB kl = true := by
                    have h8 : ¬ fitsB [x] = true := by simpa using h70
                    intro h9
                    exact h8 (List.all_eq_true.2 fun z hz => by simp at hz; subst hz; exact List.all_eq_true.1 h9 _ (List.mem_of_getElem? hx))
                  exact ⟨by unfold lineF; rw [hP]; simp only [lineR]; rw [if_neg hno]; rfl, hw.below⟩
                · replace h70 := bF h70
                  have hfx : fitsB [x] = true := by simpa using h70
                  have hfr := fitsB_mem hfx (x := x) (by simp)
                  have hd9 := decN_9 hfr.2
                  have hk3 := numL_jt hk2
                  have hk4 := List.length_take_le k kl
                  have hk5 := h.kl1
                  have hk6 := h.kn
                  refine CW.skip ?_
                  refine PQ.seq ?_
                  refine CW.region ?_
                  refine LW.v rfl rfl (Val.move rfl) ?_
                  refine LW.v rfl rfl (Val.catStr rfl rfl (by first | omega | (simp only [List.length_append, List.length_cons, List.length_nil]; omega))) ?_
                  refine LW.v rfl rfl (Val.fieldAddr 8 rfl Tryd.underlying44 rfl rfl Tryd.sizeOf42) ?_
                  refine LW.v rfl rfl (Val.load (v := .slice e.keep.a e.keep.n e.keep.c) rfl Tryd.isAgg42 (by repeat (first | exact .here | refine .there ?_)) (by rfl)) ?_
                  refine LW.re 74 (.slice (some ⟨bb, oo, none⟩) e.keep.n e.keep.c) rfl (by rw [hpa]) ?_
                  refine LW.v rfl rfl (Val.move rfl) ?_
                  first | (refine LW.v rfl rfl (Val.indexAddrN rfl rfl Tryd.underlying42 Tryd.sizeOf3 (by omega)) ?_) | (refine LW.v rfl rfl (Val.indexAddr rfl rfl Tryd.underlying42 Tryd.sizeOf3 (by omega) (by omega)) ?_)
                  refine LW.v rfl rfl (Val.loadO rfl Tryd.isAgg3 hb (by simp [ids]) (hh k x hx 0 _ rfl)) ?_
                  refine LW.e rfl rfl (Eff.callV rfl Tryd.call45 (fun w hw => by have e9 := decimal_c (x).toNat (by omega) w; rw [show (((x).toNat : Nat) : Int) = x by omega] at e9; exact e9)) ?_
                  intro _ _
                  refine LW.v rfl rfl (Val.catStr rfl rfl (by first | omega | (simp only [List.length_append, List.length_cons, List.length_nil]; omega))) ?_
                  refine LW.v rfl rfl (Val.assign rfl) ?_
                  refine LW.nil ?_
                  refine PQ.in_normal ?_
                  refine PQ.seq ?_
                  refine CW.region ?_
                  refine LW.v rfl rfl (Val.move rfl) ?_
                  refine LW.v rfl rfl (Val.ar rfl rfl rfl (IntWalk.i64_in _ (by omega))) ?_
                  refine LW.v rfl rfl (Val.assign rfl) ?_
                  refine LW.nil ?_
                  have hW : [99, 117, 116] ++ jt (numL (kl.take (k + 1))) = ([99, 117, 116] ++ jt (numL (kl.take k))) ++ [32] ++ decN x.toNat := by rw [take_num hx, jt_append]; simp [jt]
                  refine PQ.round (k + 1) ⟨by omega, fitsB_cons hx hk2 hfx⟩ (by omega) (by exact ⟨rfl, by rw [hW]; rfl, rfl, trivial⟩) (by repeat (first | exact .nil | apply Pick.cons | exact .here | apply Ext.there))
              · replace h61 := bF h61
                refine CW.exit ?_
                refine PQ.then_exit ?_
                refine PQ.then_exit ?_
                refine PQ.in_here ?_
                refine PQ.seq ?_
                refine CW.seq ?_
                refine CW.region ?_
                refine LW.v rfl rfl (Val.move rfl) ?_
                refine LW.v rfl rfl (Val.assign rfl) ?_
                refine LW.v rfl rfl (Val.assign rfl) ?_
                refine LW.nil ?_
                refine PQ.seq ?_
                refine CW.ret ?_
                refine PQ.in_ret ?_
                refine PQ.then_ret ?_
                refine PQ.ret2 rfl rfl rfl ?_
                intro w' hw
                have e1 : kl.take k = kl := List.take_of_length_le (by have := h.kn; omega)
                rw [e1] at hk2
                have hP : lineP e gl kl = some ([99, 117, 116], kl, []) := by
                  unfold lineP
                  rw [if_neg (by omega), if_neg (by omega), if_neg (by omega), if_neg (by omega), if_pos (by omega)]
                exact ⟨by unfold lineF; rw [hP, e1]; simp only [lineR]; rw [if_pos hk2, List.append_nil, jn_cons], hw.below⟩
            · replace h55 := bF h55
              refine CW.skip ?_
              refine PQ.in_normal ?_
              refine PQ.seq ?_
              refine CW.seq ?_
              refine CW.region ?_
              refine LW.v rfl rfl (Val.assign rfl) ?_
              refine LW.v rfl rfl (Val.assign rfl) ?_
              refine LW.nil ?_
              refine PQ.seq ?_
              refine CW.ret ?_
              refine PQ.ret2 rfl rfl rfl ?_
              intro w' hw
              have hP : lineP e gl kl = none := by
                unfold lineP
                rw [if_neg (by omega), if_neg (by omega), if_neg (by omega), if_neg (by omega), if_neg (by omega), if_neg (by omega)]
              exact ⟨by unfold lineF; rw [hP]; rfl, hw.below⟩
end Go.Proofs.YtagliemeolngiaaDoor
