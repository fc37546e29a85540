/- The stable sort of stories, whole. -/
import Derived.Test.YtaihimbjdgmjgaaSeM
import Derived.Lib.Hide
namespace Go.Proofs.Ytaihimbjdgmjgaa
open Go Go.RowKit V
set_option linter.unusedVariables false
set_option maxRecDepth 100000
theorem insN_c (a b : Int) (hab : b ≤ a + 1) (h0 : 0 ≤ a ∧ a ≤ 100000) (w : World) : Calls Try.prog 78 [.slice none 0 0, .int .i64 a, .int .i64 b, .func (.func 44) #[] #[]].toArray w fun e w' => e = .returned (.tuple #[]) ∧ Below w.heap.size w w' := by
  refine V.calls [] Try.func78 rfl Try.ntmps78 (Nat.le_of_ble_eq_true rfl) (V.sat_nil _) ?_
  refine CW.seq ?_
  refine CW.region ?_
  refine LW.v rfl rfl (Val.move rfl) ?_
  refine LW.v rfl rfl (Val.ar rfl rfl rfl (IntWalk.i64_in _ (by omega))) ?_
  refine LW.v rfl rfl (Val.assign rfl) ?_
  refine LW.nil ?_
  refine PQ.seq ?_
  refine CW.block ?_
  refine CW.loop (γ := Nat) (fun k => [(2, .int .i64 b), (8, .int .i64 (a + 1))]) (fun _ => []) (fun k => k = 0) (fun k => 0) (0) rfl (by repeat (first | exact trivial | refine ⟨rfl, ?_⟩)) (by repeat (first | exact .nil | apply Pick.cons | exact .here | apply Ext.there)) ?_
  intro k
  intro hJ
  refine CW.seq ?_
  refine CW.seq ?_
  refine CW.region ?_
  refine LW.v rfl rfl (Val.move rfl) ?_
  refine LW.v rfl rfl (Val.move rfl) ?_
  refine LW.v rfl rfl (Val.cmp rfl rfl rfl) ?_
  refine LW.nil ?_
  refine PQ.seq ?_
  refine CW.cond rfl (fun h14 => ?_) (fun h14 => ?_)
  · exact absurd (bT h14) (by omega)
  · replace h14 := bF h14
    refine CW.exit ?_
    refine PQ.then_exit ?_
    refine PQ.then_exit ?_
    refine PQ.in_here ?_
    refine PQ.end0 rfl ?_
    intro w hw; exact ⟨rfl, hw.below⟩
theorem stableN_c (w : World) : Calls Try.prog 63 [.slice none 0 0, .int .i64 (0 : Nat), .func (.func 44) #[] #[]].toArray w fun e w' => e = .returned (.tuple #[]) ∧ Below w.heap.size w w' := by
  refine V.calls [] Try.func63 rfl Try.ntmps63 (Nat.le_of_ble_eq_true rfl) (V.sat_nil _) ?_
  refine CW.seq ?_
  refine CW.region ?_
  refine LW.v rfl rfl (Val.assign rfl) ?_
  refine LW.nil ?_
  refine PQ.seq ?_
  refine CW.seq ?_
  refine CW.region ?_
  refine LW.v rfl rfl (Val.move rfl) ?_
  refine LW.v rfl rfl (Val.assign rfl) ?_
  refine LW.v rfl rfl (Val.assign rfl) ?_
  refine LW.nil ?_
  refine PQ.seq ?_
  refine CW.seq ?_
  refine CW.block ?_
  refine CW.loop (γ := Nat) (fun k => [(0, .slice none 0 0), (1, .int .i64 (0 : Nat)), (2, .func (.func 44) #[] #[]), (6, .int .i64 20), (7, .int .i64 0), (8, .int .i64 20)]) (fun _ => []) (fun k => k = 0) (fun k => 0) (0) rfl (by repeat (first | exact trivial | refine ⟨rfl, ?_⟩)) (by repeat (first | exact .nil | apply Pick.cons | exact .here | apply Ext.there)) ?_
  intro k
  intro hJ
  refine CW.seq ?_
  refine CW.seq ?_
  refine CW.region ?_
  refine LW.v rfl rfl (Val.move rfl) ?_
  refine LW.v rfl rfl (Val.move rfl) ?_
  refine LW.v rfl rfl (Val.cmp rfl rfl rfl) ?_
  refine LW.nil ?_
  refine PQ.seq ?_
  refine CW.cond rfl (fun h13 => ?_) (fun h13 => ?_)
  · exact absurd (bT h13) (by omega)
  · replace h13 := bF h13
    refine CW.exit ?_
    refine PQ.then_exit ?_
    refine PQ.then_exit ?_
    refine PQ.in_here ?_
    refine PQ.seq ?_
    refine CW.seq ?_
    refine CW.region ?_
    refine LW.v rfl rfl (Val.move rfl) ?_
    refine LW.v rfl rfl (Val.move rfl) ?_
    refine LW.v rfl rfl (Val.move rfl) ?_
    refine LW.v rfl rfl (Val.move rfl) ?_
    refine LW.e rfl rfl (Eff.callV rfl Try.call78 (fun w hw => insN_c 0 (0 : Nat) (by omega) (by omega) w)) ?_
    intro _ _
    refine LW.nil ?_
    refine PQ.seq ?_
    refine CW.block ?_
    refine CW.loop (γ := Nat) (fun k => [(1, .int .i64 (0 : Nat)), (6, .int .i64 20)]) (fun _ => []) (fun k => k = 0) (fun k => 0) (0) rfl (by repeat (first | exact trivial | refine ⟨rfl, ?_⟩)) (by repeat (first | exact .nil | apply Pick.cons | exact .here | apply Ext.there)) ?_
    intro k
    intro hJ
    refine CW.seq ?_
    refine CW.seq ?_
    refine CW.region ?_
    refine LW.v rfl rfl (Val.move rfl) ?_
    refine LW.v rfl rfl (Val.move rfl) ?_
    refine LW.v rfl rfl (Val.cmp rfl rfl rfl) ?_
    refine LW.nil ?_
    refine PQ.seq ?_
    refine CW.cond rfl (fun h30 => ?_) (fun h30 => ?_)
    · exact absurd (bT h30) (by omega)
    · replace h30 := bF h30
      refine CW.exit ?_
      refine PQ.then_exit ?_
      refine PQ.then_exit ?_
      refine PQ.in_here ?_
      refine PQ.end0 rfl ?_
      intro w hw; exact ⟨rfl, hw.below⟩
theorem flat_of {α : Type} {z : Nat} : ∀ {cs : List (List α)}, (∀ c ∈ cs, c.length = z) → cs.flatten.length = cs.length * z
  | [], _ => by simp
  | c :: cs, h => by
    have := flat_of (cs := cs) (fun d hd => h d (by simp [hd]))
    rw [List.flatten_cons, List.length_append, this, h c (by simp), List.length_cons, Nat.add_mul, Nat.one_mul, Nat.add_comm]
theorem stable_c (g cap n : Nat) (rest : List Value) (L : List Sto) (hn : L.length = n) (hm : n ≤ 100000) (w : World) (hs : Sat [[(g, .cells ((L).flatMap Sto.cells ++ rest).toArray 36 (0, 0))]] w) : Calls Try.prog 63 [.slice (some ⟨g, 0, none⟩) n cap, .int .i64 ((n : Nat) : Int), .func (.func 44) #[] #[]].toArray w fun e w' => ∃ L' : List Sto, (Sta Sto.en L L' ∧ Up Sto.en L') ∧ e = .returned (.tuple #[]) ∧ Hp ⟨w, [g]⟩ [[(g, .cells ((L').flatMap Sto.cells ++ rest).toArray 36 (0, 0))]] w' := by
  refine V.calls [[(g, .cells ((L).flatMap Sto.cells ++ rest).toArray 36 (0, 0))]] Try.func63 rfl Try.ntmps63 (Nat.le_of_ble_eq_true rfl) hs ?_
  refine CW.seq ?_
  refine CW.region ?_
  refine LW.v rfl rfl (Val.assign rfl) ?_
  refine LW.nil ?_
  refine PQ.seq ?_
  refine CW.seq ?_
  refine CW.region ?_
  refine LW.v rfl rfl (Val.move rfl) ?_
  refine LW.v rfl rfl (Val.assign rfl) ?_
  refine LW.v rfl rfl (Val.assign rfl) ?_
  refine LW.nil ?_
  refine PQ.seq ?_
  refine CW.seq ?_
  refine CW.block ?_
  rw [show L = ([] : List (List Sto)).flatten ++ L from by simp]
  refine CW.loop (γ := List (List Sto) × List Sto) (fun k => [(0, .slice (some ⟨g, 0, none⟩) n cap), (1, .int .i64 ((n : Nat) : Int)), (2, .func (.func 44) #[] #[]), (6, .int .i64 20), (7, .int .i64 ((k.1.flatten.length : Nat) : Int)), (8, .int .i64 ((k.1.flatten.length + 20 : Nat) : Int))]) (fun k => [[(g, .cells ((k.1.flatten ++ k.2).flatMap Sto.cells ++ rest).toArray 36 (0, 0))]]) (fun k => Sta Sto.en L (k.1.flatten ++ k.2) ∧ (∀ c ∈ k.1, Up Sto.en c ∧ c.length = 20)) (fun k => n - k.1.flatten.length) (([], L)) ⟨by simpa using Sta.refl L, by simp⟩ (by repeat (first | exact trivial | refine ⟨rfl, ?_⟩)) (by repeat (first | exact .nil | apply Pick.cons | exact .here | apply Ext.there)) ?_
  intro k
  rintro ⟨hk1, hk2⟩
  have hkl : k.1.flatten.length + k.2.length = n := by have := hk1.1; rw [List.length_append] at this; omega
  refine CW.seq ?_
  refine CW.seq ?_
  refine CW.region ?_
  refine LW.v rfl rfl (Val.move rfl) ?_
  refine LW.v rfl rfl (Val.move rfl) ?_
  refine LW.v rfl rfl (Val.cmp rfl rfl rfl) ?_
  refine LW.nil ?_
  refine PQ.seq ?_
  refine CW.cond rfl (fun h13 => ?_) (fun h13 => ?_)
  · replace h13 := bT h13
    refine CW.skip ?_
    refine PQ.seq ?_
    refine CW.block ?_
    refine CW.seq ?_
    rw [show k.1.flatten ++ k.2 = k.1.flatten ++ (k.2.take 20 ++ k.2.drop 20) from by rw [List.take_append_drop]]
    refine CW.region ?_
    refine LW.v rfl rfl (Val.move rfl) ?_
    refine LW.v rfl rfl (Val.move rfl) ?_
    refine LW.v rfl rfl (Val.move rfl) ?_
    refine LW.v rfl rfl (Val.move rfl) ?_
    refine LW.e rfl rfl (Eff.callM ([[(g, .cells ((k.1.flatten ++ (k.2.take 20 ++ k.2.drop 20)).flatMap Sto.cells ++ rest).toArray 36 (0, 0))]]) (by repeat (first | exact .nil | apply Pick.cons | exact .here | apply Ext.there)) rfl Try.call78 (fun w hw hs => ins_c g cap n k.1.flatten.length (k.1.flatten.length + 20) rest k.1.flatten (k.2.take 20) (k.2.drop 20) (by rw [List.take_append_drop, List.length_append]; omega) rfl (by rw [List.length_take]; omega) hm w hs)) ?_
    intro M' hM
    refine LW.nil ?_
    refine PQ.seq ?_
    refine CW.seq ?_
    refine CW.region ?_
    refine LW.v rfl rfl (Val.move rfl) ?_
    refine LW.v rfl rfl (Val.assign rfl) ?_
    refine LW.nil ?_
    refine PQ.seq ?_
    refine CW.region ?_
    refine LW.v rfl rfl (Val.move rfl) ?_
    refine LW.v rfl rfl (Val.move rfl) ?_
    refine LW.v rfl rfl (Val.ar rfl rfl rfl (IntWalk.i64_in _ (by omega))) ?_
    refine LW.re 22 (.int .i64 ((k.1.flatten.length + 20 + 20 : Nat) : Int)) rfl (by congr 1) ?_
    refine LW.v rfl rfl (Val.assign rfl) ?_
    refine LW.nil ?_
    refine PQ.in_normal ?_
    have hMl : M'.length = 20 := by rw [hM.1.1, List.length_take]; omega
    have hE : k.1.flatten ++ (M' ++ k.2.drop 20) = (k.1 ++ [M']).flatten ++ k.2.drop 20 := by simp
    rw [hE]
    refine PQ.round ((k.1 ++ [M'], k.2.drop 20)) ⟨by rw [← hE]; exact hk1.trans (by rw [show k.1.flatten ++ k.2 = k.1.flatten ++ (k.2.take 20 ++ k.2.drop 20) from by rw [List.take_append_drop]]; exact (Sta.refl _).app (hM.1.app (Sta.refl _))), fun c hc => by
      rcases List.mem_append.1 hc with hc | hc
      · exact hk2 c hc
      · rw [List.mem_singleton] at hc; subst hc; exact ⟨hM.2, hMl⟩⟩ (by simp only [List.flatten_append, List.length_append, List.flatten_cons, List.flatten_nil, List.length_nil]; omega) (by exact ⟨rfl, rfl, rfl, rfl, congrArg (fun z : Int => some (Value.int .i64 z)) (by simp only [List.flatten_append, List.length_append, List.flatten_cons, List.flatten_nil, List.length_nil]; omega), congrArg (fun z : Int => some (Value.int .i64 z)) (by simp only [List.flatten_append, List.length_append, List.flatten_cons, List.flatten_nil, List.length_nil]; omega), trivial⟩) (by repeat (first | exact .nil | apply Pick.cons | exact .here | apply Ext.there))
  · replace h13 := bF h13
    refine CW.exit ?_
    refine PQ.then_exit ?_
    refine PQ.then_exit ?_
    refine PQ.in_here ?_
    refine PQ.seq ?_
    refine CW.seq ?_
    rw [show k.1.flatten ++ k.2 = k.1.flatten ++ (k.2 ++ []) from by simp]
    refine CW.region ?_
    refine LW.v rfl rfl (Val.move rfl) ?_
    refine LW.v rfl rfl (Val.move rfl) ?_
    refine LW.v rfl rfl (Val.move rfl) ?_
    refine LW.v rfl rfl (Val.move rfl) ?_
    refine LW.e rfl rfl (Eff.callM ([[(g, .cells ((k.1.flatten ++ (k.2 ++ [])).flatMap Sto.cells ++ rest).toArray 36 (0, 0))]]) (by repeat (first | exact .nil | apply Pick.cons | exact .here | apply Ext.there)) rfl Try.call78 (fun w hw hs => ins_c g cap n k.1.flatten.length n rest k.1.flatten k.2 [] (by simp only [List.length_append, List.length_nil]; omega) rfl (by omega) hm w hs)) ?_
    intro M' hM
    refine LW.nil ?_
    refine PQ.seq ?_
    refine CW.block ?_
    refine CW.loop (γ := Nat × List Sto) (fun k => [(0, .slice (some ⟨g, 0, none⟩) n cap), (1, .int .i64 ((n : Nat) : Int)), (2, .func (.func 44) #[] #[]), (6, .int .i64 ((k.1 : Nat) : Int))]) (fun k => [[(g, .cells ((k.2).flatMap Sto.cells ++ rest).toArray 36 (0, 0))]]) (fun k => Sta Sto.en L k.2 ∧ Bl Sto.en k.1 k.2 ∧ 20 ≤ k.1 ∧ k.1 ≤ 2 * n + 40) (fun k => n - k.1) ((20, k.1.flatten ++ (M' ++ []))) ⟨hk1.trans ((Sta.refl _).app (by rw [List.append_nil]; exact hM.1)), ⟨k.1, M', by simp, hk2, hM.2, by rw [hM.1.1]; omega⟩, Nat.le_refl _, by simp only; omega⟩ (by repeat (first | exact trivial | refine ⟨rfl, ?_⟩)) (by repeat (first | exact .nil | apply Pick.cons | exact .here | apply Ext.there)) ?_
    intro k
    rintro ⟨hS, hBl, hz1, hz2⟩
    have hkl : k.2.length = n := by rw [hS.1, hn]
    refine CW.seq ?_
    refine CW.seq ?_
    refine CW.region ?_
    refine LW.v rfl rfl (Val.move rfl) ?_
    refine LW.v rfl rfl (Val.move rfl) ?_
    refine LW.v rfl rfl (Val.cmp rfl rfl rfl) ?_
    refine LW.nil ?_
    refine PQ.seq ?_
    refine CW.cond rfl (fun h30 => ?_) (fun h30 => ?_)
    · replace h30 := bT h30
      refine CW.skip ?_
      refine PQ.seq ?_
      refine CW.block ?_
      refine CW.seq ?_
      refine CW.region ?_
      refine LW.v rfl rfl (Val.move rfl) ?_
      refine LW.v rfl rfl (Val.ar rfl rfl rfl (IntWalk.i64_in _ (by omega))) ?_
      refine LW.re 32 (.int .i64 ((2 * k.1 : Nat) : Int)) rfl (by congr 1) ?_
      refine LW.v rfl rfl (Val.assign rfl) ?_
      refine LW.v rfl rfl (Val.assign rfl) ?_
      refine LW.nil ?_
      refine PQ.seq ?_
      refine CW.seq ?_
      refine CW.block ?_
      obtain ⟨cs0, tl, hcs0, hc0, htl1, htl2⟩ := hBl
      rw [show k.2 = ([] : List (List Sto)).flatten ++ (cs0.flatten ++ tl) from by rw [hcs0]; simp]
      refine CW.loop (γ := List (List Sto) × List (List Sto)) (fun e => [(0, .slice (some ⟨g, 0, none⟩) n cap), (1, .int .i64 ((n : Nat) : Int)), (2, .func (.func 44) #[] #[]), (6, .int .i64 ((k.1 : Nat) : Int)), (7, .int .i64 ((e.1.flatten.length : Nat) : Int)), (8, .int .i64 ((e.1.flatten.length + 2 * k.1 : Nat) : Int))]) (fun e => [[(g, .cells ((e.1.flatten ++ (e.2.flatten ++ tl)).flatMap Sto.cells ++ rest).toArray 36 (0, 0))]]) (fun e => Sta Sto.en L (e.1.flatten ++ (e.2.flatten ++ tl)) ∧ (∀ c ∈ e.1, Up Sto.en c ∧ c.length = 2 * k.1) ∧ (∀ c ∈ e.2, Up Sto.en c ∧ c.length = k.1)) (fun e => e.2.length) (([], cs0)) ⟨by rw [hcs0] at hS; simpa using hS, by simp, hc0⟩ (by exact ⟨rfl, rfl, rfl, rfl, rfl, congrArg (fun z : Int => some (Value.int .i64 z)) (by simp), trivial⟩) (by repeat (first | exact .nil | apply Pick.cons | exact .here | apply Ext.there)) ?_
      intro e
      rintro ⟨he1, he2, he3⟩
      have hEl : e.1.flatten.length + (e.2.flatten.length + tl.length) = n := by have := he1.1; simp only [List.length_append] at this; omega
      refine CW.seq ?_
      refine CW.seq ?_
      refine CW.region ?_
      refine LW.v rfl rfl (Val.move rfl) ?_
      refine LW.v rfl rfl (Val.move rfl) ?_
      refine LW.v rfl rfl (Val.cmp rfl rfl rfl) ?_
      refine LW.nil ?_
      refine PQ.seq ?_
      refine CW.cond rfl (fun h35 => ?_) (fun h35 => ?_)
      · replace h35 := bT h35
        obtain ⟨c1, c2, cs', hcs⟩ : ∃ c1 c2 cs', e.2 = c1 :: c2 :: cs' := by
          match hE : e.2, he3 with
          | [], _ => rw [hE] at hEl; simp [-List.length_flatten] at hEl; omega
          | [c], he3 => have := (he3 c (by simp)).2; rw [hE] at hEl; simp [-List.length_flatten] at hEl; omega
          | c1 :: c2 :: cs', _ => exact ⟨c1, c2, cs', rfl⟩
        obtain ⟨hU1, hl1⟩ := he3 c1 (by rw [hcs]; simp)
        obtain ⟨hU2, hl2⟩ := he3 c2 (by rw [hcs]; simp)
        refine CW.skip ?_
        refine PQ.seq ?_
        refine CW.block ?_
        refine CW.seq ?_
        rw [show e.1.flatten ++ (e.2.flatten ++ tl) = e.1.flatten ++ (c1 ++ (c2 ++ (cs'.flatten ++ tl))) from by rw [hcs]; simp]
        refine CW.region ?_
        refine LW.v rfl rfl (Val.move rfl) ?_
        refine LW.v rfl rfl (Val.move rfl) ?_
        refine LW.v rfl rfl (Val.move rfl) ?_
        refine LW.v rfl rfl (Val.move rfl) ?_
        refine LW.v rfl rfl (Val.ar rfl rfl rfl (IntWalk.i64_in _ (by omega))) ?_
        refine LW.re 40 (.int .i64 ((e.1.flatten.length + k.1 : Nat) : Int)) rfl (by congr 1) ?_
        refine LW.v rfl rfl (Val.move rfl) ?_
        refine LW.v rfl rfl (Val.move rfl) ?_
        refine LW.e rfl rfl (Eff.callM ([[(g, .cells ((e.1.flatten ++ (c1 ++ (c2 ++ (cs'.flatten ++ tl)))).flatMap Sto.cells ++ rest).toArray 36 (0, 0))]]) (by repeat (first | exact .nil | apply Pick.cons | exact .here | apply Ext.there)) rfl Try.call79 (fun w hw hs => sym_c g cap n rest hm (c1.length + c2.length) e.1.flatten.length (e.1.flatten.length + k.1) (e.1.flatten.length + 2 * k.1) e.1.flatten c1 c2 (cs'.flatten ++ tl) _ (Nat.le_refl _) rfl (by rw [hcs] at hEl; simp only [List.length_append, List.flatten_cons] at hEl ⊢; omega) rfl (by omega) (by omega) (by omega) (by omega) hU1 hU2 w hs)) ?_
        intro M' hM
        refine LW.nil ?_
        refine PQ.seq ?_
        refine CW.seq ?_
        refine CW.region ?_
        refine LW.v rfl rfl (Val.move rfl) ?_
        refine LW.v rfl rfl (Val.assign rfl) ?_
        refine LW.nil ?_
        refine PQ.seq ?_
        refine CW.region ?_
        refine LW.v rfl rfl (Val.move rfl) ?_
        refine LW.v rfl rfl (Val.move rfl) ?_
        refine LW.v rfl rfl (Val.ar rfl rfl rfl (IntWalk.i64_in _ (by omega))) ?_
        refine LW.re 47 (.int .i64 ((2 * k.1 : Nat) : Int)) rfl (by congr 1) ?_
        refine LW.v rfl rfl (Val.ar rfl rfl rfl (IntWalk.i64_in _ (by omega))) ?_
        refine LW.re 48 (.int .i64 ((e.1.flatten.length + 2 * k.1 + 2 * k.1 : Nat) : Int)) rfl (by congr 1) ?_
        refine LW.v rfl rfl (Val.assign rfl) ?_
        refine LW.nil ?_
        refine PQ.in_normal ?_
        have hMl : M'.length = 2 * k.1 := by rw [hM.1.1, List.length_append]; omega
        have hE : e.1.flatten ++ (M' ++ (cs'.flatten ++ tl)) = (e.1 ++ [M']).flatten ++ (cs'.flatten ++ tl) := by simp
        rw [hE]
        refine PQ.round ((e.1 ++ [M'], cs')) ⟨by rw [← hE]; exact he1.trans (by rw [show e.1.flatten ++ (e.2.flatten ++ tl) = e.1.flatten ++ (c1 ++ (c2 ++ (cs'.flatten ++ tl))) from by rw [hcs]; simp]; rw [show e.1.flatten ++ (c1 ++ (c2 ++ (cs'.flatten ++ tl))) = e.1.flatten ++ ((c1 ++ c2) ++ (cs'.flatten ++ tl)) from by simp]; exact (Sta.refl _).app (hM.1.app (Sta.refl _))), fun c hc => by
          rcases List.mem_append.1 hc with hc | hc
          · exact he2 c hc
          · rw [List.mem_singleton] at hc; subst hc; exact ⟨hM.2, hMl⟩, fun c hc => he3 c (by rw [hcs]; simp [hc])⟩ (by simp only [hcs, List.length_cons]; omega) (by exact ⟨rfl, rfl, rfl, rfl, congrArg (fun z : Int => some (Value.int .i64 z)) (by simp only [List.flatten_append, List.length_append, List.flatten_cons, List.flatten_nil, List.length_nil]; omega), congrArg (fun z : Int => some (Value.int .i64 z)) (by simp only [List.flatten_append, List.length_append, List.flatten_cons, List.flatten_nil, List.length_nil]; omega), trivial⟩) (by repeat (first | exact .nil | apply Pick.cons | exact .here | apply Ext.there))
      · replace h35 := bF h35
        refine CW.exit ?_
        refine PQ.then_exit ?_
        refine PQ.then_exit ?_
        refine PQ.in_here ?_
        refine PQ.seq ?_
        refine CW.seq ?_
        refine CW.seq ?_
        refine CW.region ?_
        refine LW.v rfl rfl (Val.move rfl) ?_
        refine LW.v rfl rfl (Val.move rfl) ?_
        refine LW.v rfl rfl (Val.ar rfl rfl rfl (IntWalk.i64_in _ (by omega))) ?_
        refine LW.re 51 (.int .i64 ((e.1.flatten.length + k.1 : Nat) : Int)) rfl (by congr 1) ?_
        refine LW.v rfl rfl (Val.assign rfl) ?_
        refine LW.nil ?_
        refine PQ.seq ?_
        refine CW.seq ?_
        refine CW.region ?_
        refine LW.v rfl rfl (Val.move rfl) ?_
        refine LW.v rfl rfl (Val.move rfl) ?_
        refine LW.v rfl rfl (Val.cmp rfl rfl rfl) ?_
        refine LW.nil ?_
        refine PQ.seq ?_
        refine CW.cond rfl (fun h54 => ?_) (fun h54 => ?_)
        · replace h54 := bT h54
          obtain ⟨c1, hcs⟩ : ∃ c1, e.2 = [c1] := by
            match hE : e.2, he3 with
            | [], _ => rw [hE] at hEl; simp [-List.length_flatten] at hEl; omega
            | [c], _ => exact ⟨c, rfl⟩
            | c1 :: c2 :: cs', he3 => have h1 := (he3 c1 (by simp)).2; have h2 := (he3 c2 (by simp)).2; rw [hE] at hEl; simp [-List.length_flatten] at hEl; omega
          obtain ⟨hU1, hl1⟩ := he3 c1 (by rw [hcs]; simp)
          have hEl2 : e.1.flatten.length + (c1.length + tl.length) = n := by rw [hcs] at hEl; simpa [-List.length_flatten] using hEl
          rw [show e.1.flatten ++ (e.2.flatten ++ tl) = e.1.flatten ++ (c1 ++ (tl ++ [])) from by rw [hcs]; simp]
          refine CW.region ?_
          refine LW.v rfl rfl (Val.move rfl) ?_
          refine LW.v rfl rfl (Val.move rfl) ?_
          refine LW.v rfl rfl (Val.move rfl) ?_
          refine LW.v rfl rfl (Val.move rfl) ?_
          refine LW.v rfl rfl (Val.move rfl) ?_
          refine LW.e rfl rfl (Eff.callM ([[(g, .cells ((e.1.flatten ++ (c1 ++ (tl ++ []))).flatMap Sto.cells ++ rest).toArray 36 (0, 0))]]) (by repeat (first | exact .nil | apply Pick.cons | exact .here | apply Ext.there)) rfl Try.call79 (fun w hw hs => sym_c g cap n rest hm (c1.length + tl.length) e.1.flatten.length (e.1.flatten.length + k.1) n e.1.flatten c1 tl [] _ (Nat.le_refl _) rfl (by simp only [List.length_append, List.length_nil]; omega) rfl (by omega) (by omega) (by omega) (by omega) hU1 htl1 w hs)) ?_
          intro M' hM
          refine LW.nil ?_
          refine PQ.seq ?_
          refine CW.region ?_
          refine LW.v rfl rfl (Val.move rfl) ?_
          refine LW.v rfl rfl (Val.ar rfl rfl rfl (IntWalk.i64_in _ (by omega))) ?_
          refine LW.v rfl rfl (Val.assign rfl) ?_
          refine LW.nil ?_
          refine PQ.in_normal ?_
          have hMl : M'.length < 2 * k.1 := by
            have h1 := hM.1.1
            have h2 := (he3 c1 (by rw [hcs]; simp)).2
            simp at h1; omega
          have hSt : Sta Sto.en L (e.1.flatten ++ (M' ++ [])) := by
            refine he1.trans ?_
            rw [hcs]; simp only [List.flatten_cons, List.flatten_nil, List.append_nil]
            exact (Sta.refl _).app hM.1
          refine PQ.round ((2 * k.1, e.1.flatten ++ (M' ++ []))) ⟨hSt, ⟨e.1, M', by simp, he2, hM.2, hMl⟩, by simp only; omega, by simp only; omega⟩ (by simp only; omega) (by exact ⟨rfl, rfl, rfl, congrArg (fun z : Int => some (Value.int .i64 z)) (by simp only; omega), trivial⟩) (by repeat (first | exact .nil | apply Pick.cons | exact .here | apply Ext.there))
        · replace h54 := bF h54
          refine CW.skip ?_
          refine PQ.seq ?_
          refine CW.region ?_
          refine LW.v rfl rfl (Val.move rfl) ?_
          refine LW.v rfl rfl (Val.ar rfl rfl rfl (IntWalk.i64_in _ (by omega))) ?_
          refine LW.v rfl rfl (Val.assign rfl) ?_
          refine LW.nil ?_
          refine PQ.in_normal ?_
          have hUt : Up Sto.en (e.2.flatten ++ tl) ∧ (e.2.flatten ++ tl).length < 2 * k.1 := by
            match hE : e.2, he3 with
            | [], _ => exact ⟨by simpa using htl1, by simp; omega⟩
            | [c1], he3 =>
              have h1 := he3 c1 (by simp)
              have h2 : tl = [] := List.length_eq_zero_iff.1 (by rw [hE] at hEl; simp [-List.length_flatten] at hEl; omega)
              subst h2
              exact ⟨by simpa using h1.1, by simp; omega⟩
            | c1 :: c2 :: cs', he3 =>
              have h1 := he3 c1 (by simp)
              have h2 := he3 c2 (by simp)
              rw [hE] at hEl; simp [-List.length_flatten] at hEl; omega
          refine PQ.round ((2 * k.1, e.1.flatten ++ (e.2.flatten ++ tl))) ⟨he1, ⟨e.1, e.2.flatten ++ tl, by simp, he2, hUt.1, hUt.2⟩, by simp only; omega, by simp only; omega⟩ (by simp only; omega) (by exact ⟨rfl, rfl, rfl, congrArg (fun z : Int => some (Value.int .i64 z)) (by simp only; omega), trivial⟩) (by repeat (first | exact .nil | apply Pick.cons | exact .here | apply Ext.there))
    · replace h30 := bF h30
      refine CW.exit ?_
      refine PQ.then_exit ?_
      refine PQ.then_exit ?_
      refine PQ.in_here ?_
      refine PQ.end0 rfl ?_
      intro w' hw; exact ⟨k.2, ⟨hS, hBl.whole (by omega) (by omega)⟩, rfl, hw⟩
theorem sortStable_c (o : V.OwnO) (L : List Sto) (hok : V.ownOk 14 L.length (L.flatMap Sto.cells) o) (hm : L.length ≤ 100000) (w : World) (hs : Sat [V.ownG 36 (L.flatMap Sto.cells) o] w) : Calls Try.prog 43 [V.ownV L.length o, .func (.func 44) #[] #[]].toArray w fun e w' => ∃ L' : List Sto, (Sta Sto.en L L' ∧ Up Sto.en L') ∧ e = .returned (.tuple #[]) ∧ Hp ⟨w, ids [V.ownG 36 (L.flatMap Sto.cells) o]⟩ [V.ownG 36 (L'.flatMap Sto.cells) o] w' := by
  rcases o with _ | ⟨g, rest, cap⟩
  · have h0 : L.length = 0 := hok.2
    obtain rfl : L = [] := List.length_eq_zero_iff.1 h0
    refine V.calls [] Try.func43 rfl Try.ntmps43 (Nat.le_of_ble_eq_true rfl) (V.sat_nil _) ?_
    refine CW.region ?_
    refine LW.v rfl rfl (Val.move rfl) ?_
    refine LW.v rfl rfl (Val.move rfl) ?_
    refine LW.v rfl rfl (Val.lenSl rfl Try.underlying22) ?_
    refine LW.v rfl rfl (Val.move rfl) ?_
    refine LW.e rfl rfl (Eff.callV rfl Try.call63 (fun w hw => stableN_c w)) ?_
    intro _ _
    refine LW.nil ?_
    refine PQ.end0 rfl ?_
    intro w' hw; exact ⟨[], ⟨Sta.refl _, up_nil⟩, rfl, hw.perm (.refl _)⟩
  · refine V.calls [[(g, .cells ((L).flatMap Sto.cells ++ rest).toArray 36 (0, 0))]] Try.func43 rfl Try.ntmps43 (Nat.le_of_ble_eq_true rfl) hs ?_
    refine CW.region ?_
    refine LW.v rfl rfl (Val.move rfl) ?_
    refine LW.v rfl rfl (Val.move rfl) ?_
    refine LW.v rfl rfl (Val.lenSl rfl Try.underlying22) ?_
    refine LW.v rfl rfl (Val.move rfl) ?_
    refine LW.e rfl rfl (Eff.callM ([[(g, .cells ((L).flatMap Sto.cells ++ rest).toArray 36 (0, 0))]]) (by repeat (first | exact .nil | apply Pick.cons | exact .here | apply Ext.there)) rfl Try.call63 (fun w hw hs => stable_c g cap L.length rest L rfl hm w hs)) ?_
    intro L' hL
    refine LW.nil ?_
    refine PQ.end0 rfl ?_
    intro w' hw; exact ⟨L', hL, rfl, hw⟩
end Go.Proofs.Ytaihimbjdgmjgaa
