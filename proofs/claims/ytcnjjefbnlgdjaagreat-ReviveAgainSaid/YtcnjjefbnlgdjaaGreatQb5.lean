import Derived.Test.YtcnjjefbnlgdjaaGreatQb4
import Derived.Lib.Hide
/- The stable sort of links, whole. -/
namespace Go.Proofs.YtcnjjefbnlgdjaaGreat
open Go Go.RowKit V
set_option linter.unusedVariables false
set_option maxRecDepth 100000
namespace G
open V (str byC ownV ownG ownS ownOk)
namespace Stb
theorem insN_c (a b : Int) (hab : b ≤ a + 1) (h0 : 0 ≤ a ∧ a ≤ 100000) (w : World) : Calls Tryz.prog 131 [.slice none 0 0, .int .i64 a, .int .i64 b, .func (.func 125) #[] #[]].toArray w fun e w' => e = .returned (.tuple #[]) ∧ Below w.heap.size w w' := by
  refine V.calls [] Tryz.func131 rfl Tryz.ntmps131 (Nat.le_of_ble_eq_true rfl) (V.sat_nil _) <| Sq <| Rg <| Lv Mv <| Lv Ar <| Lv Av <| Nl <| Ps <| Bk <| loopA (γ := Nat) (fun k => [(2, .int .i64 b), (8, .int .i64 (a + 1))]) (fun _ => []) (fun k => k = 0) (fun k => 0) (0) rfl fun k hJ => Sq <| Sq <| Rg <| Lv Mv <| Lv Mv <| Lv Cm <| Nl <| Ps ?_
  refine CW.cond rfl (fun h14 => ?_) (fun h14 => ?_)
  · exact absurd (bT h14) (by omega)
  · replace h14 := bF h14
    refine Xt <| Te <| Te <| Bh <| PQ.end0 rfl ?_
    intro w hw; exact ⟨rfl, hw.below⟩
theorem stableN_c (w : World) : Calls Tryz.prog 160 [.slice none 0 0, .int .i64 (0 : Nat), .func (.func 125) #[] #[]].toArray w fun e w' => e = .returned (.tuple #[]) ∧ Below w.heap.size w w' := by
  refine V.calls [] Tryz.func160 rfl Tryz.ntmps160 (Nat.le_of_ble_eq_true rfl) (V.sat_nil _) <| Sq <| Rg <| Lv Av <| Nl <| Ps <| Sq <| Rg <| Lv Mv <| Lv Av <| Lv Av <| Nl <| Ps <| Sq <| Bk <| loopA (γ := Nat) (fun k => [(0, .slice none 0 0), (1, .int .i64 (0 : Nat)), (2, .func (.func 125) #[] #[]), (6, .int .i64 20), (7, .int .i64 0), (8, .int .i64 20)]) (fun _ => []) (fun k => k = 0) (fun k => 0) (0) rfl fun k hJ => Sq <| Sq <| Rg <| Lv Mv <| Lv Mv <| Lv Cm <| Nl <| Ps ?_
  refine CW.cond rfl (fun h13 => ?_) (fun h13 => ?_)
  · exact absurd (bT h13) (by omega)
  · replace h13 := bF h13
    refine Xt <| Te <| Te <| Bh <| Ps <| Sq <| Rg <| Lv Mv <| Lv Mv <| Lv Mv <| Lv Mv <| Le (CV fun w hw => insN_c 0 (0 : Nat) (by omega) (by omega) w) fun _ _ => Nl <| Ps <| Bk <| loopA (γ := Nat) (fun k => [(1, .int .i64 (0 : Nat)), (6, .int .i64 20)]) (fun _ => []) (fun k => k = 0) (fun k => 0) (0) rfl fun k hJ => Sq <| Sq <| Rg <| Lv Mv <| Lv Mv <| Lv Cm <| Nl <| Ps ?_
    refine CW.cond rfl (fun h30 => ?_) (fun h30 => ?_)
    · exact absurd (bT h30) (by omega)
    · replace h30 := bF h30
      refine Xt <| Te <| Te <| Bh <| PQ.end0 rfl ?_
      intro w hw; exact ⟨rfl, hw.below⟩
theorem flat_of {α : Type} {z : Nat} : ∀ {cs : List (List α)}, (∀ c ∈ cs, c.length = z) → cs.flatten.length = cs.length * z
  | [], _ => by simp
  | c :: cs, h => by
    have := flat_of (cs := cs) (fun d hd => h d (by simp [hd]))
    rw [List.flatten_cons, List.length_append, this, h c (by simp), List.length_cons, Nat.add_mul, Nat.one_mul, Nat.add_comm]
theorem stable_c (g cap n : Nat) (rest : List Value) (L : List Lk) (hn : L.length = n) (hm : n ≤ 100000) (w : World) (hs : Sat [[(g, .cells ((L).flatMap lkC ++ rest).toArray 133 (0, 0))]] w) : Calls Tryz.prog 160 [.slice (some ⟨g, 0, none⟩) n cap, .int .i64 ((n : Nat) : Int), .func (.func 125) #[] #[]].toArray w fun e w' => ∃ L' : List Lk, (Sta Lk.ver L L' ∧ Up Lk.ver L') ∧ e = .returned (.tuple #[]) ∧ Hp ⟨w, [g]⟩ [[(g, .cells ((L').flatMap lkC ++ rest).toArray 133 (0, 0))]] w' := by
  refine V.calls [[(g, .cells ((L).flatMap lkC ++ rest).toArray 133 (0, 0))]] Tryz.func160 rfl Tryz.ntmps160 (Nat.le_of_ble_eq_true rfl) hs <| Sq <| Rg <| Lv Av <| Nl <| Ps <| Sq <| Rg <| Lv Mv <| Lv Av <| Lv Av <| Nl <| Ps <| Sq <| Bk ?_
  rw [show L = ([] : List (List Lk)).flatten ++ L from by simp]
  refine loopA (γ := List (List Lk) × List Lk) (fun k => [(0, .slice (some ⟨g, 0, none⟩) n cap), (1, .int .i64 ((n : Nat) : Int)), (2, .func (.func 125) #[] #[]), (6, .int .i64 20), (7, .int .i64 ((k.1.flatten.length : Nat) : Int)), (8, .int .i64 ((k.1.flatten.length + 20 : Nat) : Int))]) (fun k => [[(g, .cells ((k.1.flatten ++ k.2).flatMap lkC ++ rest).toArray 133 (0, 0))]]) (fun k => Sta Lk.ver L (k.1.flatten ++ k.2) ∧ (∀ c ∈ k.1, Up Lk.ver c ∧ c.length = 20)) (fun k => n - k.1.flatten.length) (([], L)) ⟨by simpa using Sta.refl L, by simp⟩ fun k => ?_
  rintro ⟨hk1, hk2⟩
  have hkl : k.1.flatten.length + k.2.length = n := by have := hk1.1; rw [List.length_append] at this; omega
  refine Sq <| Sq <| Rg <| Lv Mv <| Lv Mv <| Lv Cm <| Nl <| Ps ?_
  refine CW.cond rfl (fun h13 => ?_) (fun h13 => ?_)
  · replace h13 := bT h13
    refine Sk <| Ps <| Bk <| Sq ?_
    rw [show k.1.flatten ++ k.2 = k.1.flatten ++ (k.2.take 20 ++ k.2.drop 20) from by rw [List.take_append_drop]]
    refine Rg <| Lv Mv <| Lv Mv <| Lv Mv <| Lv Mv <| Le (CM ([[(g, .cells ((k.1.flatten ++ (k.2.take 20 ++ k.2.drop 20)).flatMap lkC ++ rest).toArray 133 (0, 0))]]) fun w hw hs => ins_c g cap n k.1.flatten.length (k.1.flatten.length + 20) rest k.1.flatten (k.2.take 20) (k.2.drop 20) (by rw [List.take_append_drop, List.length_append]; omega) rfl (by rw [List.length_take]; omega) hm w hs) fun M' hM => Nl <| Ps <| Sq <| Rg <| Lv Mv <| Lv Av <| Nl <| Ps <| Rg <| Lv Mv <| Lv Mv <| Lv Ar <| LW.re 22 (.int .i64 ((k.1.flatten.length + 20 + 20 : Nat) : Int)) rfl (by congr 1) <| Lv Av <| Nl <| Bn ?_
    have hMl : M'.length = 20 := by rw [hM.1.1, List.length_take]; omega
    have hE : k.1.flatten ++ (M' ++ k.2.drop 20) = (k.1 ++ [M']).flatten ++ k.2.drop 20 := by simp
    rw [hE]
    refine PQ.round ((k.1 ++ [M'], k.2.drop 20)) ⟨by rw [← hE]; exact hk1.trans (by rw [show k.1.flatten ++ k.2 = k.1.flatten ++ (k.2.take 20 ++ k.2.drop 20) from by rw [List.take_append_drop]]; exact (Sta.refl _).app (hM.1.app (Sta.refl _))), fun c hc => by
      rcases List.mem_append.1 hc with hc | hc
      · exact hk2 c hc
      · rw [List.mem_singleton] at hc; subst hc; exact ⟨hM.2, hMl⟩⟩ (by simp only [List.flatten_append, List.length_append, List.flatten_cons, List.flatten_nil, List.length_nil]; omega) (by exact ⟨rfl, rfl, rfl, rfl, congrArg (fun z : Int => some (Value.int .i64 z)) (by simp only [List.flatten_append, List.length_append, List.flatten_cons, List.flatten_nil, List.length_nil]; omega), congrArg (fun z : Int => some (Value.int .i64 z)) (by simp only [List.flatten_append, List.length_append, List.flatten_cons, List.flatten_nil, List.length_nil]; omega), trivial⟩) (by repeat (first | exact .nil | apply Pick.cons | exact .here | apply Ext.there))
  · replace h13 := bF h13
    refine Xt <| Te <| Te <| Bh <| Ps <| Sq ?_
    rw [show k.1.flatten ++ k.2 = k.1.flatten ++ (k.2 ++ []) from by simp]
    refine Rg <| Lv Mv <| Lv Mv <| Lv Mv <| Lv Mv <| Le (CM ([[(g, .cells ((k.1.flatten ++ (k.2 ++ [])).flatMap lkC ++ rest).toArray 133 (0, 0))]]) fun w hw hs => ins_c g cap n k.1.flatten.length n rest k.1.flatten k.2 [] (by simp only [List.length_append, List.length_nil]; omega) rfl (by omega) hm w hs) fun M' hM => Nl <| Ps <| Bk <| loopA (γ := Nat × List Lk) (fun k => [(0, .slice (some ⟨g, 0, none⟩) n cap), (1, .int .i64 ((n : Nat) : Int)), (2, .func (.func 125) #[] #[]), (6, .int .i64 ((k.1 : Nat) : Int))]) (fun k => [[(g, .cells ((k.2).flatMap lkC ++ rest).toArray 133 (0, 0))]]) (fun k => Sta Lk.ver L k.2 ∧ Bl Lk.ver k.1 k.2 ∧ 20 ≤ k.1 ∧ k.1 ≤ 2 * n + 40) (fun k => n - k.1) ((20, k.1.flatten ++ (M' ++ []))) ⟨hk1.trans ((Sta.refl _).app (by rw [List.append_nil]; exact hM.1)), ⟨k.1, M', by simp, hk2, hM.2, by rw [hM.1.1]; omega⟩, Nat.le_refl _, by simp only; omega⟩ fun k => ?_
    rintro ⟨hS, hBl, hz1, hz2⟩
    have hkl : k.2.length = n := by rw [hS.1, hn]
    refine Sq <| Sq <| Rg <| Lv Mv <| Lv Mv <| Lv Cm <| Nl <| Ps ?_
    refine CW.cond rfl (fun h30 => ?_) (fun h30 => ?_)
    · replace h30 := bT h30
      refine Sk <| Ps <| Bk <| Sq <| Rg <| Lv Mv <| Lv Ar <| LW.re 32 (.int .i64 ((2 * k.1 : Nat) : Int)) rfl (by congr 1) <| Lv Av <| Lv Av <| Nl <| Ps <| Sq <| Bk ?_
      obtain ⟨cs0, tl, hcs0, hc0, htl1, htl2⟩ := hBl
      rw [show k.2 = ([] : List (List Lk)).flatten ++ (cs0.flatten ++ tl) from by rw [hcs0]; simp]
      refine CW.loop (γ := List (List Lk) × List (List Lk)) (fun e => [(0, .slice (some ⟨g, 0, none⟩) n cap), (1, .int .i64 ((n : Nat) : Int)), (2, .func (.func 125) #[] #[]), (6, .int .i64 ((k.1 : Nat) : Int)), (7, .int .i64 ((e.1.flatten.length : Nat) : Int)), (8, .int .i64 ((e.1.flatten.length + 2 * k.1 : Nat) : Int))]) (fun e => [[(g, .cells ((e.1.flatten ++ (e.2.flatten ++ tl)).flatMap lkC ++ rest).toArray 133 (0, 0))]]) (fun e => Sta Lk.ver L (e.1.flatten ++ (e.2.flatten ++ tl)) ∧ (∀ c ∈ e.1, Up Lk.ver c ∧ c.length = 2 * k.1) ∧ (∀ c ∈ e.2, Up Lk.ver c ∧ c.length = k.1)) (fun e => e.2.length) (([], cs0)) ⟨by rw [hcs0] at hS; simpa using hS, by simp, hc0⟩ (by exact ⟨rfl, rfl, rfl, rfl, rfl, congrArg (fun z : Int => some (Value.int .i64 z)) (by simp), trivial⟩) (by repeat (first | exact .nil | apply Pick.cons | exact .here | apply Ext.there)) fun e => ?_
      rintro ⟨he1, he2, he3⟩
      have hEl : e.1.flatten.length + (e.2.flatten.length + tl.length) = n := by have := he1.1; simp only [List.length_append] at this; omega
      refine Sq <| Sq <| Rg <| Lv Mv <| Lv Mv <| Lv Cm <| Nl <| Ps ?_
      refine CW.cond rfl (fun h35 => ?_) (fun h35 => ?_)
      · replace h35 := bT h35
        obtain ⟨c1, c2, cs', hcs⟩ : ∃ c1 c2 cs', e.2 = c1 :: c2 :: cs' := by
          match hE : e.2, he3 with
          | [], _ => rw [hE] at hEl; simp [-List.length_flatten] at hEl; omega
          | [c], he3 => have := (he3 c (by simp)).2; rw [hE] at hEl; simp [-List.length_flatten] at hEl; omega
          | c1 :: c2 :: cs', _ => exact ⟨c1, c2, cs', rfl⟩
        obtain ⟨hU1, hl1⟩ := he3 c1 (by rw [hcs]; simp)
        obtain ⟨hU2, hl2⟩ := he3 c2 (by rw [hcs]; simp)
        refine Sk <| Ps <| Bk <| Sq ?_
        rw [show e.1.flatten ++ (e.2.flatten ++ tl) = e.1.flatten ++ (c1 ++ (c2 ++ (cs'.flatten ++ tl))) from by rw [hcs]; simp]
        refine Rg <| Lv Mv <| Lv Mv <| Lv Mv <| Lv Mv <| Lv Ar <| LW.re 40 (.int .i64 ((e.1.flatten.length + k.1 : Nat) : Int)) rfl (by congr 1) <| Lv Mv <| Lv Mv <| Le (CM ([[(g, .cells ((e.1.flatten ++ (c1 ++ (c2 ++ (cs'.flatten ++ tl)))).flatMap lkC ++ rest).toArray 133 (0, 0))]]) fun w hw hs => sym_c g cap n rest hm (c1.length + c2.length) e.1.flatten.length (e.1.flatten.length + k.1) (e.1.flatten.length + 2 * k.1) e.1.flatten c1 c2 (cs'.flatten ++ tl) _ (Nat.le_refl _) rfl (by rw [hcs] at hEl; simp only [List.length_append, List.flatten_cons] at hEl ⊢; omega) rfl (by omega) (by omega) (by omega) (by omega) hU1 hU2 w hs) fun M' hM => Nl <| Ps <| Sq <| Rg <| Lv Mv <| Lv Av <| Nl <| Ps <| Rg <| Lv Mv <| Lv Mv <| Lv Ar <| LW.re 47 (.int .i64 ((2 * k.1 : Nat) : Int)) rfl (by congr 1) <| Lv Ar <| LW.re 48 (.int .i64 ((e.1.flatten.length + 2 * k.1 + 2 * k.1 : Nat) : Int)) rfl (by congr 1) <| Lv Av <| Nl <| Bn ?_
        have hMl : M'.length = 2 * k.1 := by rw [hM.1.1, List.length_append]; omega
        have hE : e.1.flatten ++ (M' ++ (cs'.flatten ++ tl)) = (e.1 ++ [M']).flatten ++ (cs'.flatten ++ tl) := by simp
        rw [hE]
        refine PQ.round ((e.1 ++ [M'], cs')) ⟨by rw [← hE]; exact he1.trans (by rw [show e.1.flatten ++ (e.2.flatten ++ tl) = e.1.flatten ++ (c1 ++ (c2 ++ (cs'.flatten ++ tl))) from by rw [hcs]; simp]; rw [show e.1.flatten ++ (c1 ++ (c2 ++ (cs'.flatten ++ tl))) = e.1.flatten ++ ((c1 ++ c2) ++ (cs'.flatten ++ tl)) from by simp]; exact (Sta.refl _).app (hM.1.app (Sta.refl _))), fun c hc => by
          rcases List.mem_append.1 hc with hc | hc
          · exact he2 c hc
          · rw [List.mem_singleton] at hc; subst hc; exact ⟨hM.2, hMl⟩, fun c hc => he3 c (by rw [hcs]; simp [hc])⟩ (by simp only [hcs, List.length_cons]; omega) (by exact ⟨rfl, rfl, rfl, rfl, congrArg (fun z : Int => some (Value.int .i64 z)) (by simp only [List.flatten_append, List.length_append, List.flatten_cons, List.flatten_nil, List.length_nil]; omega), congrArg (fun z : Int => some (Value.int .i64 z)) (by simp only [List.flatten_append, List.length_append, List.flatten_cons, List.flatten_nil, List.length_nil]; omega), trivial⟩) (by repeat (first | exact .nil | apply Pick.cons | exact .here | apply Ext.there))
      · replace h35 := bF h35
        refine Xt <| Te <| Te <| Bh <| Ps <| Sq <| Sq <| Rg <| Lv Mv <| Lv Mv <| Lv Ar <| LW.re 51 (.int .i64 ((e.1.flatten.length + k.1 : Nat) : Int)) rfl (by congr 1) <| Lv Av <| Nl <| Ps <| Sq <| Rg <| Lv Mv <| Lv Mv <| Lv Cm <| Nl <| Ps ?_
        refine CW.cond rfl (fun h54 => ?_) (fun h54 => ?_)
        · replace h54 := bT h54
          obtain ⟨c1, hcs⟩ : ∃ c1, e.2 = [c1] := by
            match hE : e.2, he3 with
            | [], _ => rw [hE] at hEl; simp [-List.length_flatten] at hEl; omega
            | [c], _ => exact ⟨c, rfl⟩
            | c1 :: c2 :: cs', he3 => have h1 := (he3 c1 (by simp)).2; have h2 := (he3 c2 (by simp)).2; rw [hE] at hEl; simp [-List.length_flatten] at hEl; omega
          obtain ⟨hU1, hl1⟩ := he3 c1 (by rw [hcs]; simp)
          have hEl2 : e.1.flatten.length + (c1.length + tl.length) = n := by rw [hcs] at hEl; simpa [-List.length_flatten] using hEl
          rw [show e.1.flatten ++ (e.2.flatten ++ tl) = e.1.flatten ++ (c1 ++ (tl ++ [])) from by rw [hcs]; simp]
          refine Rg <| Lv Mv <| Lv Mv <| Lv Mv <| Lv Mv <| Lv Mv <| Le (CM ([[(g, .cells ((e.1.flatten ++ (c1 ++ (tl ++ []))).flatMap lkC ++ rest).toArray 133 (0, 0))]]) fun w hw hs => sym_c g cap n rest hm (c1.length + tl.length) e.1.flatten.length (e.1.flatten.length + k.1) n e.1.flatten c1 tl [] _ (Nat.le_refl _) rfl (by simp only [List.length_append, List.length_nil]; omega) rfl (by omega) (by omega) (by omega) (by omega) hU1 htl1 w hs) fun M' hM => Nl <| Ps <| Rg <| Lv Mv <| Lv Ar <| Lv Av <| Nl <| Bn ?_
          have hMl : M'.length < 2 * k.1 := by
            have h1 := hM.1.1
            have h2 := (he3 c1 (by rw [hcs]; simp)).2
            simp at h1; omega
          have hSt : Sta Lk.ver L (e.1.flatten ++ (M' ++ [])) := by
            refine he1.trans ?_
            rw [hcs]; simp only [List.flatten_cons, List.flatten_nil, List.append_nil]
            exact (Sta.refl _).app hM.1
          refine PQ.round ((2 * k.1, e.1.flatten ++ (M' ++ []))) ⟨hSt, ⟨e.1, M', by simp, he2, hM.2, hMl⟩, by simp only; omega, by simp only; omega⟩ (by simp only; omega) (by exact ⟨rfl, rfl, rfl, congrArg (fun z : Int => some (Value.int .i64 z)) (by simp only; omega), trivial⟩) (by repeat (first | exact .nil | apply Pick.cons | exact .here | apply Ext.there))
        · replace h54 := bF h54
          refine Sk <| Ps <| Rg <| Lv Mv <| Lv Ar <| Lv Av <| Nl <| Bn ?_
          have hUt : Up Lk.ver (e.2.flatten ++ tl) ∧ (e.2.flatten ++ tl).length < 2 * k.1 := by
            match hE : e.2, he3 with
            | [], _ => exact ⟨by simpa using htl1, by simp; omega⟩
            | [c1], he3 =>
              have h1 := he3 c1 (by simp)
              have h2 : tl = [] := List.length_eq_zero_iff.1 (by rw [hE] at hEl; simp [-List.length_flatten] at hEl; omega)
              subst h2
              exact ⟨by simpa using h1.1, by simp; omega⟩
            | c1 :: c2 :: cs', he3 =>
              have h1 := he3 c1 (by simp)
              have h2 := he3 c2 (by simp)
              rw [hE] at hEl; simp [-List.length_flatten] at hEl; omega
          refine PQ.round ((2 * k.1, e.1.flatten ++ (e.2.flatten ++ tl))) ⟨he1, ⟨e.1, e.2.flatten ++ tl, by simp, he2, hUt.1, hUt.2⟩, by simp only; omega, by simp only; omega⟩ (by simp only; omega) (by exact ⟨rfl, rfl, rfl, congrArg (fun z : Int => some (Value.int .i64 z)) (by simp only; omega), trivial⟩) (by repeat (first | exact .nil | apply Pick.cons | exact .here | apply Ext.there))
    · replace h30 := bF h30
      refine Xt <| Te <| Te <| Bh <| PQ.end0 rfl ?_
      intro w' hw; exact ⟨k.2, ⟨hS, hBl.whole (by omega) (by omega)⟩, rfl, hw⟩
theorem sortStable_c (o : V.OwnO) (L : List Lk) (hok : ownOk 5 L.length (L.flatMap lkC) o) (hm : L.length ≤ 100000) (w : World) (hs : Sat [ownG 133 (L.flatMap lkC) o] w) : Calls Tryz.prog 124 [ownV L.length o, .func (.func 125) #[] #[]].toArray w fun e w' => ∃ L' : List Lk, (Sta Lk.ver L L' ∧ Up Lk.ver L') ∧ e = .returned (.tuple #[]) ∧ Hp ⟨w, ids [ownG 133 (L.flatMap lkC) o]⟩ [ownG 133 (L'.flatMap lkC) o] w' := by
  rcases o with _ | ⟨g, rest, cap⟩
  · have h0 : L.length = 0 := hok.2
    obtain rfl : L = [] := List.length_eq_zero_iff.1 h0
    refine V.calls [] Tryz.func124 rfl Tryz.ntmps124 (Nat.le_of_ble_eq_true rfl) (V.sat_nil _) <| Rg <| Lv Mv <| Lv Mv <| Lv Ln <| Lv Mv <| Le (CV fun w hw => stableN_c w) fun _ _ => Nl <| PQ.end0 rfl ?_
    intro w' hw; exact ⟨[], ⟨Sta.refl _, up_nil⟩, rfl, hw.perm (.refl _)⟩
  · refine V.calls [[(g, .cells ((L).flatMap lkC ++ rest).toArray 133 (0, 0))]] Tryz.func124 rfl Tryz.ntmps124 (Nat.le_of_ble_eq_true rfl) hs <| Rg <| Lv Mv <| Lv Mv <| Lv Ln <| Lv Mv <| Le (CM ([[(g, .cells ((L).flatMap lkC ++ rest).toArray 133 (0, 0))]]) fun w hw hs => stable_c g cap L.length rest L rfl hm w hs) fun L' hL => Nl <| PQ.end0 rfl ?_
    intro w' hw; exact ⟨L', hL, rfl, hw⟩
end Stb
end G
end Go.Proofs.YtcnjjefbnlgdjaaGreat

/- An arena is made, for any threads. -/
namespace Go.Proofs.YtcnjjefbnlgdjaaGreat
open Go Go.RowKit V
set_option linter.unusedVariables false
set_option maxRecDepth 100000
namespace G
open V (str byC ownV ownG ownS ownOk)
theorem x_loadU {a : Addr} {x : Int} {w : World} (hc : w.cell? a = some (.int .u64 x)) : (callFunc 159 #[.pointer (some a)]).run Tryz.prog w = .ok (.value (.int .u64 x)) w := run_call_load Tryz.func159 (by kernel_rfl) (by kernel_rfl) (by kernel_rfl) .u64 (by kernel_rfl) hc
theorem uLd_c (b o : Nat) (l : List Value) (T : TypeId) (x : Int) (w : World) (hl : l[o]? = some (.int .u64 x)) (hs : Sat [[(b, .cells l.toArray T (0, 0))]] w) : Calls Tryz.prog 123 [.pointer (some ⟨b, o, none⟩)].toArray w fun e w' => e = .returned (.int .u64 x) ∧ Below w.heap.size w w' := by
  refine V.calls [[(b, .cells l.toArray T (0, 0))]] Tryz.func123 rfl Tryz.ntmps123 (Nat.le_of_ble_eq_true rfl) hs <| Sq <| Rg <| Lv Av <| Nl <| Ps <| Sq <| Rg <| Lv Mv <| Lv Nz <| Lv (Fa 0 22) <| LW.re 5 (.pointer (some ⟨b, o, none⟩)) rfl rfl <| Lv (Val.ext rfl (fun w hw => x_loadU (V.cell_of_block (hw.own _ InS.here.mem) (by exact hl)))) <| Lv Av <| Nl <| Ps <| Rt <| Rt1 ?_
  intro w' hw; exact ⟨rfl, hw.ro (by repeat (first | exact .nil | apply Pick.cons | exact .here | apply Ext.there)) hs⟩
def inU (x : Int) : List Value := [.int .u64 x]
theorem inU_len (x : Int) : (inU x).length = 1 := rfl
theorem inU_map (l : List Int) : l.flatMap inU = l.map (Value.int .u64) := by induction l <;> simp_all [inU]
theorem inI_map (l : List Int) : l.flatMap inI = l.map (Value.int .i64) := by induction l <;> simp_all [inI]
theorem zeros_inU (m : Nat) : V.repL [.int .u64 0] m = (List.replicate m 0).flatMap inU := by rw [V.repL_one, inU_map]; simp
theorem zeros_inI (m : Nat) : V.repL [.int .i64 0] m = (List.replicate m 0).flatMap inI := by rw [V.repL_one, inI_map]; simp
/-- The readers: the epoch, what each has announced. -/
structure Rdr where
  now : Int
  has : List Int
def rdC (hb : Nat) (r : Rdr) : List Value := [.int .u64 r.now, .slice (some ⟨hb, 0, none⟩) r.has.length r.has.length]
abbrev rdS (rb hb : Nat) (r : Rdr) : Sg := [[(rb, .cells (rdC hb r).toArray 271 (0, 0))], [(hb, .cells (r.has.flatMap inU).toArray 148 (0, 0))]]
/-- The clock: its words; how much each owes; what is noted, what is left; where it stands. -/
structure Ckk where
  now : Int
  dur : Int
  clo : Int
  owed : List Int
  noted : List Bool
  left : List Bool
  stp : Value
def ckC (wb : Nat) (c : Ckk) : List Value := .int .u64 c.now :: .int .u64 c.dur :: .int .u64 c.clo :: .slice (some ⟨wb, 0, none⟩) c.owed.length c.owed.length :: (c.noted.map Value.bool ++ (c.left.map Value.bool ++ [c.stp]))
abbrev ckS (cb wb : Nat) (c : Ckk) : Sg := [[(cb, .cells (ckC wb c).toArray 275 (0, 0))], [(wb, .cells (c.owed.flatMap inI).toArray 3 (0, 0))]]
def ckOk (th : Nat) (c : Ckk) : Prop := c.owed.length = th ∧ c.noted.length = 258 ∧ c.left.length = 258
theorem rnew_g (th : Nat) (h1 : 1 ≤ th) (h4 : th ≤ 4) (w : World) : Calls Tryz.prog 146 [.int .i64 (th : Nat)].toArray w fun e w' => ∃ p : Nat × Nat, True ∧ e = .returned (.tuple #[.pointer (some ⟨p.1, 0, none⟩), .int .i64 0]) ∧ Hp ⟨w, []⟩ (rdS p.1 p.2 ⟨1, List.replicate th 0⟩) w' := by
  refine V.calls [] Tryz.func146 rfl Tryz.ntmps146 (Nat.le_of_ble_eq_true rfl) (V.sat_nil _) <| Sq <| Rg <| Lv Av <| Lv Av <| Nl <| Ps <| Sq <| Sq <| Rg <| Lv Mv <| Lv Cm <| LW.re 6 (.bool false) rfl (by congr 1; simp; omega) <| Lv Mv <| Lv Mv <| Lv Cm <| Lv Pf <| LW.re 10 (.bool false) rfl (by congr 1; simp; omega) <| Nl <| Ps <| Cf <| Sk <| Ps <| Sq <| Rg <| Lv Mv <| Le (Eff.makeSlice (m := th) (by_ := 8) (zl := [.int .u64 0]) rfl rfl Tryz.underlying269 (by kernel_rfl) Tryz.sizeOf148 (by exact Tryz.zeroValue148) (by kernel_rfl) rfl (by simp; omega) (by omega) (by omega)) fun bm _ => ?_
  rw [zeros_inU]
  refine Lv (Bd [.int .u64 0, .slice (some ⟨bm, 0, none⟩) th th]) <| Le XA fun b14 _ => Lv Av <| Nl <| Ps <| Sq <| Rg <| Lv Mv <| Lv Nz <| Lv (Fa 0 148) <| Le (CM ([[(b14, .cells ([.int .u64 0, .slice (some ⟨bm, 0, none⟩) th th]).toArray 271 (0, 0))]]) fun w hw hs0 => aStore_c b14 0 ([.int .u64 0, .slice (some ⟨bm, 0, none⟩) th th]) 271 _ (1) w rfl hs0) fun _ _ => Nl <| Ps <| Sq <| Rg <| Lv Mv <| Lv Av <| Lv Av <| Nl <| Ps <| Rt <| Rt2 ?_
  intro w' hw; exact ⟨(b14, bm), trivial, rfl, (hw.pick (ss := [[(b14, .cells (rdC bm ⟨1, List.replicate th 0⟩).toArray 271 (0, 0))], [(bm, .cells ((List.replicate th 0).flatMap inU).toArray 148 (0, 0))]]) (by unfold rdC; rw [List.length_replicate]; exact (by repeat (first | exact .nil | apply Pick.cons | exact .here | apply Ext.there))))⟩
theorem clk_eq (wb th : Nat) : clkL (.slice (some ⟨wb, 0, none⟩) th th) = ckC wb ⟨0, 0, 0, List.replicate th 0, List.replicate 258 false, List.replicate 258 false, .nilFunc⟩ := by
  unfold clkL ckC
  rw [List.length_replicate, List.map_replicate, ← List.append_assoc, List.replicate_append_replicate]
theorem knew_g (th : Nat) (h1 : 1 ≤ th) (h4 : th ≤ 4) (e0 : Int) (he : 0 ≤ e0 ∧ e0 ≤ 1152921504606846976) (w : World) : Calls Tryz.prog 147 [.int .i64 (th : Nat), .int .u64 e0].toArray w fun e w' => ∃ p : Nat × Nat, True ∧ e = .returned (.tuple #[.pointer (some ⟨p.1, 0, none⟩), .int .i64 0]) ∧ Hp ⟨w, []⟩ (ckS p.1 p.2 ⟨e0 + 1, e0, 0, List.replicate th 0, List.replicate 258 false, List.replicate 258 false, .nilFunc⟩) w' := by
  refine V.calls [] Tryz.func147 rfl Tryz.ntmps147 (Nat.le_of_ble_eq_true rfl) (V.sat_nil _) <| Sq <| Rg <| Lv Av <| Lv Av <| Nl <| Ps <| Sq <| Sq <| Rg <| Lv Mv <| Lv Cm <| LW.re 8 (.bool false) rfl (by congr 1; simp; omega) <| Lv Mv <| Lv Mv <| Lv Cm <| LW.re 11 (.bool false) rfl (by congr 1; simp; omega) <| Lv Pf <| Nl <| Ps <| Cf <| Sk <| Ps <| Sq <| Sq <| Rg <| Lv Mv <| Lv Cm <| LW.re 14 (.bool false) rfl (by congr 1; simp; omega) <| Nl <| Ps <| Cf <| Sk <| Ps <| Sq <| Rg <| Lv Mv <| Le (Eff.makeSlice (m := th) (by_ := 8) (zl := [.int .i64 0]) rfl rfl Tryz.underlying46 (by kernel_rfl) Tryz.sizeOf3 (by exact Tryz.zeroValue3) (by kernel_rfl) rfl (by simp; omega) (by omega) (by omega)) fun bm _ => ?_
  rw [zeros_inI]
  refine Lv (Val.build (clkL (.slice (some ⟨bm, 0, none⟩) th th)) zero_clk Tryz.underlying275 places275 rfl (by kernel_rfl)) <| Le XA fun b18 _ => Lv Av <| Nl <| Ps <| Sq <| Rg <| Lv Mv <| Lv Nz <| Lv (Fa 1 148) <| Lv Mv <| Le (CM ([[(b18, .cells (clkL (.slice (some ⟨bm, 0, none⟩) th th)).toArray 275 (0, 0))]]) fun w hw hs0 => aStore_c b18 1 (clkL (.slice (some ⟨bm, 0, none⟩) th th)) 275 _ (e0) w rfl hs0) fun _ _ => Nl <| Ps <| Sq <| Rg <| Lv Mv <| Lv Nz <| Lv (Fa 0 148) <| Lv Mv <| Lv Ar <| LW.re 28 (.int .u64 (e0 + 1)) rfl (by congr 1; try (exact IntWalk.u64_in _ (by omega))) <| Le (CM ([[(b18, .cells ((clkL (.slice (some ⟨bm, 0, none⟩) th th)).set 1 (.int .u64 e0)).toArray 275 (0, 0))]]) fun w hw hs0 => aStore_c b18 0 ((clkL (.slice (some ⟨bm, 0, none⟩) th th)).set 1 (.int .u64 e0)) 275 _ (e0 + 1) w rfl hs0) fun _ _ => Nl <| Ps <| Sq <| Rg <| Lv Mv <| Lv Av <| Lv Av <| Nl <| Ps <| Rt <| Rt2 fun w' hw => ?_
  refine ⟨(b18, bm), trivial, rfl, ?_⟩
  have h8 := hw.pick (ss := [[(b18, .cells (((clkL (.slice (some ⟨bm, 0, none⟩) th th)).set 1 (.int .u64 e0)).set 0 (.int .u64 (e0 + 1))).toArray 275 (0, 0))], [(bm, .cells ((List.replicate th 0).flatMap inI).toArray 3 (0, 0))]]) (by repeat (first | exact .nil | apply Pick.cons | exact .here | apply Ext.there))
  rw [clk_eq] at h8
  exact h8
theorem knew_bad (th : Nat) (h1 : 1 ≤ th) (h4 : th ≤ 4) (e0 : Int) (he : 1152921504606846976 < e0) (w : World) : Calls Tryz.prog 147 [.int .i64 (th : Nat), .int .u64 e0].toArray w fun e w' => e = .returned (.tuple #[.pointer none, .int .i64 10]) ∧ Below w.heap.size w w' := by
  refine V.calls [] Tryz.func147 rfl Tryz.ntmps147 (Nat.le_of_ble_eq_true rfl) (V.sat_nil _) <| Sq <| Rg <| Lv Av <| Lv Av <| Nl <| Ps <| Sq <| Sq <| Rg <| Lv Mv <| Lv Cm <| LW.re 8 (.bool false) rfl (by congr 1; simp; omega) <| Lv Mv <| Lv Mv <| Lv Cm <| LW.re 11 (.bool false) rfl (by congr 1; simp; omega) <| Lv Pf <| Nl <| Ps <| Cf <| Sk <| Ps <| Sq <| Sq <| Rg <| Lv Mv <| Lv Cm <| LW.re 14 (.bool true) rfl (by congr 1; simp; omega) <| Nl <| Ps <| Ct <| Sq <| Rg <| Lv Av <| Lv Av <| Nl <| Ps <| Rt <| Tr <| Rt2 ?_
  intro w' hw; exact ⟨rfl, hw.below⟩
def slb0 : Slb := ⟨0, f8, 0⟩
def slbN : Slb := ⟨-1, f8, 0⟩
theorem zeros_slb (m : Nat) : V.repL (slC slb0) m = (List.replicate m slb0).flatMap slC := by
  induction m with
  | zero => rfl
  | succ k ih => show slC slb0 ++ V.repL (slC slb0) k = _; rw [ih]; rfl
def slTo (m k : Nat) : List Slb := List.replicate k slbN ++ List.replicate (m - k) slb0
theorem slTo_len {m k : Nat} (h : k ≤ m) : (slTo m k).length = m := by unfold slTo; simp; omega
theorem slTo_at {m k : Nat} (h : k < m) : (slTo m k)[k]? = some slb0 := by
  unfold slTo
  rw [List.getElem?_append_right (by simp), List.length_replicate, Nat.sub_self, List.getElem?_replicate, if_pos (by omega)]
theorem slTo_set {m k : Nat} (h : k < m) : (slTo m k).set k slbN = slTo m (k + 1) := by
  unfold slTo
  rw [List.set_append_right _ _ (by simp), List.length_replicate, Nat.sub_self, show m - k = (m - (k + 1)) + 1 by omega, List.replicate_succ, List.set_cons_zero, show List.replicate (k + 1) slbN = List.replicate k slbN ++ [slbN] by rw [List.replicate_succ'], List.append_assoc]
  rfl
theorem slN_ok (m : Nat) (h : m ≤ 32) : plOk (List.replicate m slbN) := ⟨fun s hs => by obtain rfl := List.eq_of_mem_replicate hs; exact ⟨by decide, .inl ⟨rfl, rfl⟩⟩, by simpa using h⟩
theorem slabs_258 : slabsF 258 = 32 := by decide
theorem pnew_g (m : Nat) (h1 : 1 ≤ m) (h4 : m ≤ 32) (w : World) : Calls Tryz.prog 148 [.int .i64 (m : Nat)].toArray w fun e w' => ∃ p : Nat × Nat, True ∧ e = .returned (.tuple #[.pointer (some ⟨p.1, 0, none⟩), .int .i64 0]) ∧ Hp ⟨w, []⟩ (plS p.1 p.2 (List.replicate m slbN)) w' := by
  refine V.calls [] Tryz.func148 rfl Tryz.ntmps148 (Nat.le_of_ble_eq_true rfl) (V.sat_nil _) <| Sq <| Rg <| Lv Av <| Lv Av <| Nl <| Ps <| Sq <| Sq <| Rg <| Lv Mv <| Lv Cm <| LW.re 7 (.bool false) rfl (by congr 1; simp; omega) <| Lv Mv <| Lv Mv <| Le (CV fun w hw => slabs_g 258 w) fun _ _ => Lv Cm <| LW.re 11 (.bool false) rfl (by rw [slabs_258]; congr 1; simp; omega) <| Lv Pf <| LW.re 12 (.bool false) rfl (by first | rfl | (rw [slabs_258]; congr 1; simp; omega)) <| Nl <| Ps <| Cf <| Sk <| Ps <| Sq <| Rg <| Lv Mv <| Le (Eff.makeSlice (m := m) (by_ := 24) (zl := slC slb0) rfl rfl Tryz.underlying152 (by kernel_rfl) Tryz.sizeOf156 (by exact Tryz.zeroValue156) (by kernel_rfl) rfl (by simp; omega) (by omega) (by omega)) fun bm _ => ?_
  rw [zeros_slb]
  refine Lv (Bd [.slice (some ⟨bm, 0, none⟩) m m]) <| Le XA fun b16 _ => Lv Av <| Nl <| Ps <| Sq <| Sq <| Rg <| Lv Mv <| Lv Nz <| Lv (Fa 0 152) <| Lv Ld <| Lv Ln <| Lv Mv <| Nl <| Ps <| Bk ?_
  rw [show (List.replicate m slb0).flatMap slC = (slTo m 0).flatMap slC from rfl]
  refine loopA (γ := Nat) (fun k => [(4, .pointer (some ⟨b16, 0, none⟩)), (21, .int .i64 (m : Nat)), (22, .int .i64 (k : Nat))]) (fun k => [[(b16, .cells [.slice (some ⟨bm, 0, none⟩) m m].toArray 184 (0, 0))], [(bm, .cells ((slTo m k).flatMap slC).toArray 156 (0, 0))]]) (fun k => k ≤ m) (fun k => m - k) (0) (Nat.zero_le _) fun k hk => Sq <| Rg <| Lv Cm <| Nl <| Ps <| Sq ?_
  refine CW.cond rfl (fun h23 => ?_) (fun h23 => ?_)
  · replace h23 := bT h23
    have hk3 : k < m := by omega
    refine Sk <| Ps <| Sq <| Bk <| Sq <| Rg <| Lv Mv <| Lv Av <| Nl <| Ps <| Rg <| Lv Mv <| Lv Nz <| Lv (Fa 0 152) <| Lv Ld <| Lv Mv <| Lv (Val.indexAddrN (i := k) rfl rfl Tryz.underlying152 Tryz.sizeOf156 (by omega)) <| Lv (Fa 0 3) <| LeN (Eff.storeX (v := .int .i64 (-1)) (l := (slTo m k).flatMap slC) (l' := (slTo m (k + 1)).flatMap slC) rfl rfl rfl (by repeat (first | exact .here | exact .inner .here | exact .inner (.inner .here) | apply Upd.there)) (by have h8 := st10 (slTo_at hk3) 0 (.int .i64 (-1)) (sl_setc slb0 (-1)) (by omega); rw [show ({ slb0 with c := -1 } : Slb) = slbN from rfl, slTo_set hk3] at h8; simpa [Nat.add_assoc] using h8) (by rw [V.flatMap_len slC_len, slTo_len (by omega)]; simp; omega) Tryz.sizeOf3) fun _ _ => Nl <| Bn <| Ps <| Rg <| Lv Ar <| Lv Mv <| Nl ?_
    exact roundA (k + 1) (by omega) (by omega)
  · replace h23 := bF h23
    refine Xt <| Te <| Te <| Bh <| Ps <| Sq <| Rg <| Lv Mv <| Lv Av <| Lv Av <| Nl <| Ps <| Rt <| Rt2 ?_
    have hk9 : k = m := by omega
    have e9 : slTo m k = List.replicate m slbN := by rw [hk9]; unfold slTo; simp
    rw [e9]
    intro w' hw
    refine ⟨(b16, bm), trivial, rfl, ?_⟩
    unfold plS
    rw [List.length_replicate]
    exact hw.pick (by repeat (first | exact .nil | apply Pick.cons | exact .here | apply Ext.there))
theorem bnew_g (w : World) : Calls Tryz.prog 149 [].toArray w fun e w' => ∃ b : Nat, True ∧ e = .returned (.pointer (some ⟨b, 0, none⟩)) ∧ Hp ⟨w, []⟩ ([[(b, .cells [.slice none 0 0].toArray 278 (0, 0))]]) w' := by
  refine V.calls [] Tryz.func149 rfl Tryz.ntmps149 (Nat.le_of_ble_eq_true rfl) (V.sat_nil _) <| Sq <| Rg <| Lv Av <| Nl <| Ps <| Sq <| Rg <| Lv (Bd [_]) <| Le XA fun b2 _ => Lv Av <| Nl <| Ps <| Rt <| Rt1 ?_
  intro w' hw; exact ⟨b2, trivial, rfl, hw⟩
end G
end Go.Proofs.YtcnjjefbnlgdjaaGreat

/- An arena: its blocks, what they hold; made over any device. -/
namespace Go.Proofs.YtcnjjefbnlgdjaaGreat
open Go Go.RowKit V
set_option linter.unusedVariables false
set_option maxRecDepth 100000
namespace G
open V (str byC ownV ownG ownS ownOk)
/-- An entry of the bag; an effect. -/
structure Ent where
  line : Int
  cls : Int
  R : Int
  E : Int
  anti : Int
def enC (x : Ent) : List Value := [.int .i64 x.line, .int .i64 x.cls, .int .u64 x.R, .int .u64 x.E, .int .i64 x.anti]
theorem enC_len (x : Ent) : (enC x).length = 5 := rfl
structure Eft where
  kind : Int
  key : List UInt8
  val : List UInt8
  id : Int
  ver : Int
  ep : Int
  grp : Int
def efC (x : Eft) : List Value := [.int .i64 x.kind, str x.key, str x.val, .int .u64 x.id, .int .u64 x.ver, .int .u64 x.ep, .int .i64 x.grp]
theorem efC_len (x : Eft) : (efC x).length = 7 := rfl
/-- Where an arena lies. -/
structure ArR where
  a : Nat
  dv : Nat
  pb : Nat
  sb : Nat
  rb : Nat
  hb : Nat
  cb : Nat
  wb : Nat
  lb : Nat
  tb : Nat
  ob : Nat
  fb : Nat
  ms : List Nat
/-- What it holds. -/
structure ArS where
  dn : Int
  m1 : Int
  m2 : Int
  L : List Slb
  rd : Rdr
  ck : Ckk
  bg : List Ent
  bo : V.OwnO
  Tz : Tbl
  Lz : List LvO
  rg : Rng
  ro : V.OwnO
  id : Int
  ver : Int
  ef : List Eft
  eo : V.OwnO
def arC (x : ArR) (s : ArS) : List Value := [.pointer (some ⟨x.dv, 0, none⟩), .pointer (some ⟨x.pb, 0, none⟩), .pointer (some ⟨x.rb, 0, none⟩), .pointer (some ⟨x.cb, 0, none⟩), .pointer (some ⟨x.lb, 0, none⟩), .pointer (some ⟨x.tb, 0, none⟩), .pointer (some ⟨x.ob, 0, none⟩), .pointer (some ⟨x.fb, 0, none⟩), .int .u64 s.id, .int .u64 s.ver, ownV s.ef.length s.eo]
def avC (db : Nat) (s : ArS) : List Value := [.pointer (some ⟨db, 0, none⟩), .int .u32 s.dn, .int .i32 s.m1, .int .u32 s.m2]
abbrev bgS (lb : Nat) (l : List Ent) (o : V.OwnO) : Sg := [[(lb, .cells [ownV l.length o].toArray 278 (0, 0))], ownG 318 (l.flatMap enC) o]
abbrev arS (x : ArR) (s : ArS) (db : Nat) : Sg := [(x.a, .cells (arC x s).toArray 151 (0, 0))] :: [(x.dv, .cells (avC db s).toArray 233 (0, 0))] :: (plS x.pb x.sb s.L ++ (rdS x.rb x.hb s.rd ++ (ckS x.cb x.wb s.ck ++ (bgS x.lb s.bg s.bo ++ (tbS x.tb x.ms s.Tz ++ (odS x.ob s.Lz ++ (rgS 182 x.fb s.rg s.ro ++ [ownG 316 (s.ef.flatMap efC) s.eo])))))))
/-- Of an arena over so many lines. -/
structure ArOk (th n : Nat) (x : ArR) (s : ArS) : Prop where
  pl : plOk s.L
  sl : s.L.length = (slabsF n).toNat
  rd : s.rd.has.length = th
  ck : ckOk th s.ck
  bg : ownOk 5 s.bg.length (s.bg.flatMap enC) s.bo
  tb : tbOk x.ms s.Tz
  od : s.Lz.length = 4 ∧ ∀ p ∈ s.Lz, lvOk p
  rg : rgO s.rg s.ro
  ef : ownOk 7 s.ef.length (s.ef.flatMap efC) s.eo
def ar0 (th n : Nat) (e0 : Int) : ArS := ⟨0, 0, 0, List.replicate (slabsF n).toNat slbN, ⟨1, List.replicate th 0⟩, ⟨e0 + 1, e0, 0, List.replicate th 0, List.replicate 258 false, List.replicate 258 false, .nilFunc⟩, [], none, tb0, List.replicate 4 ([], none), ⟨[], 0, 0⟩, none, 0, 0, [], none⟩
theorem slabs_rng {n : Nat} (h : 10 ≤ n) : 1 ≤ slabsF n ∧ slabsF n ≤ 32 := by
  unfold slabsF
  rw [if_neg (by omega)]
  have h1 : min ((n : Nat) : Int) 258 = if (258 : Int) < n then 258 else n := by split <;> omega
  rw [h1]
  split <;> omega
theorem ar0_ok (th n : Nat) (x : ArR) (hx : x.ms.length = 8) (e0 : Int) (h : 10 ≤ n) : ArOk th n x (ar0 th n e0) := by
  have h8 := slabs_rng h
  refine ⟨slN_ok _ (by omega), by simp [ar0], by simp [ar0], ⟨by simp [ar0], by simp [ar0], by simp [ar0]⟩, ⟨rfl, rfl⟩, ⟨hx, by simp [ar0, tb0]⟩, ?_, rg0_ok, ⟨rfl, rfl⟩⟩
  refine ⟨by simp [ar0], fun p hp => ?_⟩
  obtain rfl := List.eq_of_mem_replicate hp
  exact ⟨rfl, rfl⟩
theorem made_g (xd : DvR) (D : List Ce) (k : Cnt) (hD : 10 ≤ D.length ∧ D.length ≤ 1000) (th : Nat) (h1 : 1 ≤ th) (h4 : th ≤ 4) (e0 : Int) (he : 0 ≤ e0 ∧ e0 ≤ 1152921504606846976) (w : World) (hs : Sat (dvS xd D k) w) : Calls Tryz.prog 118 [.pointer (some ⟨xd.db, 0, none⟩), .int .i64 (th : Nat), .int .u64 e0].toArray w fun e w' => ∃ x : ArR, x.ms.length = 8 ∧ e = .returned (.tuple #[.pointer (some ⟨x.a, 0, none⟩), .int .i64 0]) ∧ Hp ⟨w, V.ids ((dvS xd D k))⟩ (arS x (ar0 th D.length e0) xd.db ++ dvS xd D k) w' := by
  have hsr := slabs_rng hD.1
  refine V.calls (dvS xd D k) Tryz.func118 rfl Tryz.ntmps118 (Nat.le_of_ble_eq_true rfl) hs <| Sq <| Rg <| Lv Av <| Lv Av <| Nl <| Ps <| Sq <| Rg <| Lv Mv <| Le (CM [] fun w hw hs => rnew_g th h1 h4 w) fun a1 _ => Lv Mv <| Lv Ex <| Lv Ex <| Lv Av <| Lv Av <| Nl <| Ps <| Sq <| Sq <| Rg <| Lv Mv <| Lv Cm <| Lv Mv <| Lv Mv <| Le (CV fun w hw => lines_g xd.db D.length xd.cap _ (ctC k) w hw.at) fun _ _ => Lv Cm <| LW.re 23 (.bool false) rfl (by congr 1; simp; omega) <| Lv Pf <| LW.re 24 (.bool false) rfl (by rfl) <| Nl <| Ps <| Cf <| Sk <| Ps <| Sq <| Rg <| Lv Mv <| Lv Mv <| Le (CM [] fun w hw hs => knew_g th h1 h4 e0 he w) fun a2 _ => Lv Mv <| Lv Ex <| Lv Ex <| Lv Av <| Lv Av <| Nl <| Ps <| Sq <| Sq <| Rg <| Lv Mv <| Lv Cm <| Nl <| Ps <| Cf <| Sk <| Ps <| Sq <| Rg <| Lv Mv <| Le (CV fun w hw => lines_g xd.db D.length xd.cap _ (ctC k) w hw.at) fun _ _ => Le (CV fun w hw => slabs_g (D.length : Nat) w) fun _ _ => LW.re 37 (.int .i64 ((slabsF D.length).toNat : Nat)) rfl (by congr 1; omega) <| Le (CM [] fun w hw hs => pnew_g (slabsF D.length).toNat (by omega) (by omega) w) fun a3 _ => Lv Mv <| Lv Ex <| Lv Ex <| Lv Av <| Lv Av <| Nl <| Ps <| Sq <| Rg <| Lv Mv <| Lv (Bd [_, _, _, _]) <| Le XA fun b43 _ => Lv Mv <| Lv Mv <| Lv Mv <| Le (CM [] fun w hw hs => bnew_g w) fun a4 _ => Le (CM [] fun w hw hs => tnew_c w) fun a5 h5 => Le (CM [] fun w hw hs => onew_c w) fun a6 _ => Le (CM [] fun w hw hs => lnew_c w) fun a7 _ => Lv (Bd [_, _, _, _, _, _, _, _, _, _, _]) <| Le XA fun b52 _ => Lv Av <| Lv Av <| Nl <| Ps <| Rt <| Rt2 fun w' hw => ?_
  refine ⟨⟨b52, b43, a3.1, a3.2, a1.1, a1.2, a2.1, a2.2, a4, a5.1, a6, a7, a5.2⟩, h5, rfl, ?_⟩
  exact (hw.pick (ss := [(b52, .cells (arC ⟨b52, b43, a3.1, a3.2, a1.1, a1.2, a2.1, a2.2, a4, a5.1, a6, a7, a5.2⟩ (ar0 th D.length e0)).toArray 151 (0, 0))] :: [(b43, .cells (avC xd.db (ar0 th D.length e0)).toArray 233 (0, 0))] :: (plS a3.1 a3.2 (List.replicate (slabsF D.length).toNat slbN) ++ (rdS a1.1 a1.2 ⟨1, List.replicate th 0⟩ ++ (ckS a2.1 a2.2 ⟨e0 + 1, e0, 0, List.replicate th 0, List.replicate 258 false, List.replicate 258 false, .nilFunc⟩ ++ ([[(a4, .cells [.slice none 0 0].toArray 278 (0, 0))]] ++ (tbS a5.1 a5.2 tb0 ++ (odS a6 (List.replicate 4 ([], none)) ++ (rgS 182 a7 ⟨[], 0, 0⟩ none ++ dvS xd D k)))))))) (by repeat (first | exact .nil | apply Pick.cons | exact .here | apply Ext.there))).perm (.refl _)
theorem made_late (xd : DvR) (D : List Ce) (k : Cnt) (hD : 10 ≤ D.length ∧ D.length ≤ 1000) (th : Nat) (h1 : 1 ≤ th) (h4 : th ≤ 4) (e0 : Int) (he : 1152921504606846976 < e0) (w : World) (hs : Sat (dvS xd D k) w) : Calls Tryz.prog 118 [.pointer (some ⟨xd.db, 0, none⟩), .int .i64 (th : Nat), .int .u64 e0].toArray w fun e w' => e = .returned (.tuple #[.pointer none, .int .i64 10]) ∧ Below w.heap.size w w' := by
  refine V.calls (dvS xd D k) Tryz.func118 rfl Tryz.ntmps118 (Nat.le_of_ble_eq_true rfl) hs <| Sq <| Rg <| Lv Av <| Lv Av <| Nl <| Ps <| Sq <| Rg <| Lv Mv <| Le (CM [] fun w hw hs => rnew_g th h1 h4 w) fun a1 _ => Lv Mv <| Lv Ex <| Lv Ex <| Lv Av <| Lv Av <| Nl <| Ps <| Sq <| Sq <| Rg <| Lv Mv <| Lv Cm <| Lv Mv <| Lv Mv <| Le (CV fun w hw => lines_g xd.db D.length xd.cap _ (ctC k) w hw.at) fun _ _ => Lv Cm <| LW.re 23 (.bool false) rfl (by congr 1; simp; omega) <| Lv Pf <| LW.re 24 (.bool false) rfl (by rfl) <| Nl <| Ps <| Cf <| Sk <| Ps <| Sq <| Rg <| Lv Mv <| Lv Mv <| Le (CV fun w hw => knew_bad th h1 h4 e0 he w) fun _ _ => Lv Mv <| Lv Ex <| Lv Ex <| Lv Av <| Lv Av <| Nl <| Ps <| Sq <| Sq <| Rg <| Lv Mv <| Lv Cm <| Nl <| Ps <| Ct <| Sq <| Rg <| Lv Mv <| Lv Av <| Lv Av <| Nl <| Ps <| Rt <| Tr <| Rt2 ?_
  intro w' hw; exact ⟨rfl, hw.ro (by repeat (first | exact .nil | apply Pick.cons | exact .here | apply Ext.there)) hs⟩
end G
end Go.Proofs.YtcnjjefbnlgdjaaGreat

/- An arena over blocks that were found. -/
namespace Go.Proofs.YtcnjjefbnlgdjaaGreat
open Go Go.RowKit V
set_option linter.unusedVariables false
set_option maxRecDepth 100000
namespace G
open V (str byC ownV ownG ownS ownOk)
/-- What was found at a line. -/
structure Fnd where
  line : Int
  good : Bool
  b : Blk
  deriving DecidableEq
def fdC (f : Fnd) : List Value := [.int .i64 f.line, .bool f.good, .int .i64 f.b.cls, .int .i64 f.b.kind, .int .u64 f.b.id, .int .u64 f.b.ver, .int .u64 f.b.ep, str f.b.key, str f.b.val]
theorem fdC_len (f : Fnd) : (fdC f).length = 9 := rfl
theorem fdC_one (f : Fnd) : (fdC f).all (·.oneCell') = true := rfl
def fd0 : Fnd := ⟨0, false, blk0⟩
/-- Of texts that are not too long. -/
def fdOk (f : Fnd) : Prop := f.b.key.length ≤ 100000 ∧ f.b.val.length ≤ 100000
def lkOf (f : Fnd) : Lk := ⟨f.b.key, f.b.id, f.b.ver, f.line, f.b.cls⟩
/-- What an arena gets of what was found. -/
structure OvC where
  L : List Slb
  Tz : Tbl
  D : List (List Lk)
  q : List Lk
  id : Int
  ver : Int
def ovBad (L : List Slb) (f : Fnd) : Bool := !f.good || !mayF f.b || (decide (f.b.kind ≠ 1) && decide (f.b.kind ≠ 2)) || decide ((markF L f.line f.b.cls).2 ≠ 0)
def imax (a b : Int) : Int := if a < b then b else a
def ov1 (c : OvC) (f : Fnd) : Option OvC :=
  if ovBad c.L f = true then none else
  if f.b.kind = 2 then some ⟨(markF c.L f.line f.b.cls).1, c.Tz, c.D, c.q ++ [lkOf f], imax c.id f.b.id, imax c.ver f.b.ver⟩ else
  if (tGet c.Tz f.b.key).isSome then none else some ⟨(markF c.L f.line f.b.cls).1, tSet c.Tz (lkOf f), oset c.D (lkOf f), c.q, imax c.id f.b.id, imax c.ver f.b.ver⟩
def ovAll : OvC → List Fnd → Option OvC
  | c, [] => some c
  | c, f :: r => match ov1 c f with
    | none => none
    | some c' => ovAll c' r
theorem ovAll_app : ∀ (l r : List Fnd) (c : OvC), ovAll c (l ++ r) = (ovAll c l).bind fun c' => ovAll c' r
  | [], r, c => rfl
  | f :: l, r, c => by
    show (match ov1 c f with | none => none | some c' => ovAll c' (l ++ r)) = Option.bind (match ov1 c f with | none => none | some c' => ovAll c' l) _
    cases ov1 c f with
    | none => rfl
    | some c' => exact ovAll_app l r c'
theorem ovAll_snoc {l : List Fnd} {i : Nat} {f : Fnd} {c c' : OvC} (h : ovAll c (l.take i) = some c') (hf : l[i]? = some f) : ovAll c (l.take (i + 1)) = ov1 c' f := by
  rw [List.take_add_one, hf, Option.toList_some, ovAll_app, h]
  show (match ov1 c' f with | none => none | some c' => some c') = _
  cases ov1 c' f <;> rfl
theorem ovAll_stop {l : List Fnd} {i : Nat} {f : Fnd} {c c' : OvC} (h : ovAll c (l.take i) = some c') (hf : l[i]? = some f) (hn : ov1 c' f = none) : ovAll c l = none := by
  have h8 := ovAll_snoc h hf
  rw [hn] at h8
  have e : l = l.take (i + 1) ++ l.drop (i + 1) := (List.take_append_drop _ _).symm
  rw [e, ovAll_app, h8]; rfl
def ovC0 (n : Nat) : OvC := ⟨List.replicate (slabsF n).toNat slbN, tb0, List.replicate 4 [], [], 0, 0⟩
def ovFar (Fs : List Fnd) : Bool := Fs.any fun f => decide (1152921504606846976 < f.b.id) || decide (1152921504606846976 < f.b.ver)
def ovE (n : Nat) (Fs : List Fnd) : Int := if ovFar Fs = true then 10 else if (ovAll (ovC0 n) Fs).isNone then 3 else 0
/-- The arena while it is filled. -/
def ovS (th n : Nat) (e0 : Int) (c : OvC) (Lz : List LvO) (rg : Rng) (ro : V.OwnO) : ArS := { ar0 th n e0 with L := c.L, Tz := c.Tz, Lz := Lz, id := c.id, ver := c.ver, rg := rg, ro := ro }
structure OvJ (n : Nat) (Fs : List Fnd) (k : Nat) (c : OvC) (Lz : List LvO) (o : V.OwnO) : Prop where
  all : ovAll (ovC0 n) (Fs.take k) = some c
  pl : plOk c.L
  tb : c.Tz.length = 8
  od : Lz.map Prod.fst = c.D
  o4 : Lz.length = 4
  ok : ∀ p ∈ Lz, lvOk p
  le : ∀ p ∈ Lz, p.1.length ≤ k
  own : ownOk 5 c.q.length (c.q.flatMap lkC) o
  ql : c.q.length ≤ k
  sl : c.L.length = (slabsF n).toNat
theorem markF_len (L : List Slb) (line c : Int) : (markF L line c).1.length = L.length := by
  unfold markF
  split
  · rfl
  · split
    · rfl
    · split
      · rfl
      · rw [List.length_set]
theorem ovJ0 (n : Nat) (h : 10 ≤ n) (Fs : List Fnd) : OvJ n Fs 0 (ovC0 n) (List.replicate 4 ([], none)) none := by
  have h8 := slabs_rng h
  refine ⟨by rw [List.take_zero]; rfl, slN_ok _ (by omega), rfl, rfl, rfl, fun p hp => ?_, fun p hp => ?_, ⟨rfl, rfl⟩, Nat.zero_le _, by simp [ovC0]⟩
  · obtain rfl := List.eq_of_mem_replicate hp; exact ⟨rfl, rfl⟩
  · obtain rfl := List.eq_of_mem_replicate hp; exact Nat.le_refl _
theorem oset_le {D : List (List Lk)} {x : Lk} {k : Nat} (h : ∀ l ∈ D, l.length ≤ k) : ∀ l ∈ oset D x, l.length ≤ k + 1 := by
  intro l hl
  unfold oset setTo at hl
  rw [List.mem_mapIdx] at hl
  obtain ⟨i, hi, rfl⟩ := hl
  have h8 := h _ (List.getElem_mem hi)
  split
  · have := setL_len D[i] x; omega
  · omega
theorem OvJ.q {n : Nat} {Fs : List Fnd} {k : Nat} {c : OvC} {Lz : List LvO} {o o2 : V.OwnO} {f : Fnd} (h : OvJ n Fs k c Lz o) (hf : Fs[k]? = some f) (hb : ovBad c.L f = false) (hk : f.b.kind = 2) (ho : ownOk 5 (c.q.length + 1) (c.q.flatMap lkC ++ lkC (lkOf f)) o2) : OvJ n Fs (k + 1) ⟨(markF c.L f.line f.b.cls).1, c.Tz, c.D, c.q ++ [lkOf f], imax c.id f.b.id, imax c.ver f.b.ver⟩ Lz o2 := by
  refine ⟨?_, markF_ok h.pl, h.tb, h.od, h.o4, h.ok, fun p hp => by have := h.le p hp; omega, ?_, ?_, ?_⟩
  · rw [ovAll_snoc h.all hf]; unfold ov1; rw [if_neg (by rw [hb]; decide), if_pos hk]
  · simp only [List.length_append, List.length_singleton, List.flatMap_append, List.flatMap_singleton]; exact ho
  · simp only [List.length_append, List.length_singleton]; have := h.ql; omega
  · exact (markF_len _ _ _).trans h.sl
theorem OvJ.t {n : Nat} {Fs : List Fnd} {k : Nat} {c : OvC} {Lz Lv2 : List LvO} {o : V.OwnO} {f : Fnd} (h : OvJ n Fs k c Lz o) (hf : Fs[k]? = some f) (hb : ovBad c.L f = false) (hk : f.b.kind ≠ 2) (hg : (tGet c.Tz f.b.key).isSome = false) (hv : (Lv2.map Prod.fst = oset (Lz.map Prod.fst) (lkOf f)) ∧ Lv2.length = 4 ∧ ∀ p ∈ Lv2, lvOk p) : OvJ n Fs (k + 1) ⟨(markF c.L f.line f.b.cls).1, tSet c.Tz (lkOf f), oset c.D (lkOf f), c.q, imax c.id f.b.id, imax c.ver f.b.ver⟩ Lv2 o := by
  refine ⟨?_, markF_ok h.pl, (tSet_len _ _).trans h.tb, by rw [hv.1, h.od], hv.2.1, hv.2.2, ?_, h.own, Nat.le_succ_of_le h.ql, (markF_len _ _ _).trans h.sl⟩
  · rw [ovAll_snoc h.all hf]; unfold ov1; rw [if_neg (by rw [hb]; decide), if_neg hk, if_neg (by rw [hg]; decide)]
  · intro p hp
    have h8 := oset_le (x := lkOf f) (D := Lz.map Prod.fst) (k := k) (fun l hl => by
      obtain ⟨q, hq, rfl⟩ := List.mem_map.1 hl
      exact h.le q hq) p.1 (by rw [← hv.1]; exact List.mem_map_of_mem hp)
    exact h8
theorem OvJ.bad {n : Nat} {Fs : List Fnd} {k : Nat} {c : OvC} {Lz : List LvO} {o : V.OwnO} {f : Fnd} (h : OvJ n Fs k c Lz o) (hf : Fs[k]? = some f) (hfar : ovFar Fs = false) (hb : ovBad c.L f = true) : ovE n Fs = 3 := by
  unfold ovE
  rw [if_neg (by rw [hfar]; decide), ovAll_stop h.all hf (by unfold ov1; rw [if_pos hb])]; rfl
theorem OvJ.had {n : Nat} {Fs : List Fnd} {k : Nat} {c : OvC} {Lz : List LvO} {o : V.OwnO} {f : Fnd} (h : OvJ n Fs k c Lz o) (hf : Fs[k]? = some f) (hfar : ovFar Fs = false) (hb : ovBad c.L f = false) (hk : f.b.kind ≠ 2) (hg : (tGet c.Tz f.b.key).isSome = true) : ovE n Fs = 3 := by
  unfold ovE
  rw [if_neg (by rw [hfar]; decide), ovAll_stop h.all hf (by unfold ov1; rw [if_neg (by rw [hb]; decide), if_neg hk, if_pos hg])]; rfl
theorem OvJ.end_ {n : Nat} {Fs : List Fnd} {c : OvC} {Lz : List LvO} {o : V.OwnO} (h : OvJ n Fs Fs.length c Lz o) (hfar : ovFar Fs = false) : ovAll (ovC0 n) Fs = some c ∧ ovE n Fs = 0 := by
  have h8 := h.all
  rw [List.take_length] at h8
  refine ⟨h8, ?_⟩
  unfold ovE
  rw [if_neg (by rw [hfar]; decide), h8]; rfl
theorem push_le (r : Rng) (x : Lk) : (r.push x).R.length ≤ r.R.length + 1 := by
  unfold Rng.push
  split
  · simp only [List.length_append, List.length_drop, List.length_take, List.length_singleton]; omega
  · rw [List.length_set]; omega
theorem far_snoc {Fs : List Fnd} {k : Nat} {f : Fnd} (h : ∀ g ∈ Fs.take k, ¬ (1152921504606846976 < g.b.id) ∧ ¬ (1152921504606846976 < g.b.ver)) (hf : Fs[k]? = some f) (h1 : ¬ (1152921504606846976 < f.b.id)) (h2 : ¬ (1152921504606846976 < f.b.ver)) : ∀ g ∈ Fs.take (k + 1), ¬ (1152921504606846976 < g.b.id) ∧ ¬ (1152921504606846976 < g.b.ver) := by
  intro g hg
  rw [List.take_add_one, hf, Option.toList_some, List.mem_append, List.mem_singleton] at hg
  rcases hg with hg | rfl
  · exact h g hg
  · exact ⟨h1, h2⟩
theorem far_no {Fs : List Fnd} (h : ∀ g ∈ Fs, ¬ (1152921504606846976 < g.b.id) ∧ ¬ (1152921504606846976 < g.b.ver)) : ovFar Fs = false := by
  unfold ovFar
  rw [List.any_eq_false]
  intro g hg
  have := h g hg
  simp [this.1, this.2]
theorem far_yes {Fs : List Fnd} {f : Fnd} (hf : f ∈ Fs) (h : 1152921504606846976 < f.b.id ∨ 1152921504606846976 < f.b.ver) (n : Nat) : ovE n Fs = 10 := by
  unfold ovE
  rw [if_pos]
  unfold ovFar
  rw [List.any_eq_true]
  exact ⟨f, hf, by simpa using h⟩
/-- The arena over what was found, if there is one. -/
def ovSg (xd : DvR) (D : List Ce) (k : Cnt) (r : Option (ArR × ArS)) : Sg := match r with
  | none => dvS xd D k
  | some p => arS p.1 p.2 xd.db ++ dvS xd D k
def ovV (r : Option (ArR × ArS)) : Value := match r with
  | none => .pointer none
  | some p => .pointer (some ⟨p.1.a, 0, none⟩)
structure OvP (th n : Nat) (e0 : Int) (Fs : List Fnd) (r : Option (ArR × ArS)) : Prop where
  ok : r.isSome = decide (ovE n Fs = 0)
  get : ∀ x s, r = some (x, s) → ∃ c, ovAll (ovC0 n) Fs = some c ∧ ∃ Lz rg ro, s = ovS th n e0 c Lz rg ro ∧ Lz.map Prod.fst = c.D ∧ Stb.Sta Lk.ver c.q (rgQ rg) ∧ Stb.Up Lk.ver (rgQ rg) ∧ ArOk th n x s
theorem over_g (xd : DvR) (D : List Ce) (k : Cnt) (hD : 10 ≤ D.length ∧ D.length ≤ 1000) (th : Nat) (h1 : 1 ≤ th) (h4 : th ≤ 4) (e0 : Int) (he : 0 ≤ e0 ∧ e0 ≤ 1152921504606846976) (Fs : List Fnd) (p : Option Addr) (cp : Nat) (hF : Fs.length ≤ 800) (hk : ∀ f ∈ Fs, fdOk f) (w : World) (hp : V.slAt w p 9 fdC Fs) (hpd : ∀ b o, p = some ⟨b, o, none⟩ → b ∉ V.ids (dvS xd D k)) (hs : Sat (dvS xd D k) w) : Calls Tryz.prog 97 [.pointer (some ⟨xd.db, 0, none⟩), .int .i64 (th : Nat), .int .u64 e0, .slice p Fs.length cp].toArray w fun e w' => ∃ r : Option (ArR × ArS), OvP th D.length e0 Fs r ∧ e = .returned (.tuple #[ovV r, .int .i64 (ovE D.length Fs)]) ∧ Hp ⟨w, V.ids ((dvS xd D k))⟩ (ovSg xd D k r) w' := by
  have hD1 := hD.1
  refine V.calls (dvS xd D k) Tryz.func97 rfl Tryz.ntmps97 (Nat.le_of_ble_eq_true rfl) hs <| Sq <| Rg <| Lv Av <| Lv Av <| Nl <| Ps <| Sq <| Sq <| Rg <| Lv Mv <| Lv EP <| Nl <| Ps <| Cf <| Sk <| Ps <| Sq <| Rg <| Lv Mv <| Lv Mv <| Lv Mv <| Le (CM ((dvS xd D k)) fun w hw hs0 => made_g xd D k hD th h1 h4 e0 he w hs0) fun x hms => Lv Mv <| Lv Ex <| Lv Ex <| Lv Av <| Lv Av <| Nl <| Ps <| Sq <| Sq <| Rg <| Lv Mv <| Lv Cm <| Nl <| Ps <| Cf <| Sk <| Ps <| Sq <| Sq <| Rg <| Lv Mv <| Lv Ln <| Lv Mv <| Nl <| Ps <| Bk ?_
  refine V.CW.perm (sg' := (arS x (ovS th D.length e0 (ovC0 D.length) (List.replicate 4 ([], none)) ⟨[], 0, 0⟩ none) xd.db ++ dvS xd D k)) ?_ (.refl _)
  refine loopA (γ := Nat) (fun i => [(3, .slice p Fs.length cp), (10, .pointer (some ⟨x.a, 0, none⟩)), (33, .slice p Fs.length cp), (34, .int .i64 (Fs.length : Nat)), (35, .int .i64 (i : Nat))]) (fun _ => (arS x (ovS th D.length e0 (ovC0 D.length) (List.replicate 4 ([], none)) ⟨[], 0, 0⟩ none) xd.db ++ dvS xd D k)) (fun i => i ≤ Fs.length ∧ ∀ g ∈ Fs.take i, ¬ (1152921504606846976 < g.b.id) ∧ ¬ (1152921504606846976 < g.b.ver)) (fun i => Fs.length - i) (0) ⟨Nat.zero_le _, by simp⟩ fun i => ?_
  rintro ⟨hi1, hi2⟩
  refine Sq <| Rg <| Lv Cm <| Nl <| Ps <| Sq ?_
  refine CW.cond rfl (fun h36 => ?_) (fun h36 => ?_)
  · replace h36 := bT h36
    obtain ⟨pb, po, f, rfl, hpb, hf, hpr⟩ := V.slAt_at hp rfl (k := i) (by omega)
    have hnd := hpd pb po rfl
    have hfo := hk f (List.mem_of_getElem? hf)
    refine Sk <| Ps <| Sq <| Bk <| Sq <| Rg <| Lv Ix <| Lv (Val.loadOA (cs := fdC f) rfl Tryz.isAgg45 hpb hnd (hpr i f hf) (by exact Tryz.sizeOf45)) <| Le AA fun b13 _ => LeN StW fun _ _ => Nl <| Ps <| Sq <| Rg <| Lv (Fa 2 43) <| Lv (Fa 2 22) <| Lv (Ld (v := .int .u64 f.b.id)) <| Lv Cm <| Lv Mv ?_
    refine LW.split (d := 43) rfl (fun h43 => ?_) (fun h43 => ?_)
    · replace h43 := bT h43
      refine Lp <| Lp <| Lp <| Lp <| Lv Pt <| Nl <| Ps <| Ct <| Sq <| Rg <| Lv Av <| Lv Av <| Nl <| Ps <| Rt <| Br <| Tr <| Tr <| Br <| Tr <| Rt2 ?_
      have e8 : ovE D.length Fs = 10 := far_yes (List.mem_of_getElem? hf) (.inl (by omega)) _
      intro w' hw; exact ⟨none, ⟨by rw [e8]; rfl, fun x s h => by cases h⟩, by rw [e8]; rfl, hw.pick (by repeat (first | exact .nil | apply Pick.cons | exact .here | apply Ext.there))⟩
    · replace h43 := bF h43
      refine Lv (Fa 2 43) <| Lv (Fa 3 22) <| Lv (Ld (v := .int .u64 f.b.ver)) <| Lv Cm <| Lv Pf <| Nl <| Ps ?_
      refine CW.cond rfl (fun h48 => ?_) (fun h48 => ?_)
      · replace h48 := bT h48
        refine Sq <| Rg <| Lv Av <| Lv Av <| Nl <| Ps <| Rt <| Br <| Tr <| Tr <| Br <| Tr <| Rt2 ?_
        have e8 : ovE D.length Fs = 10 := far_yes (List.mem_of_getElem? hf) (.inr (by omega)) _
        intro w' hw; exact ⟨none, ⟨by rw [e8]; rfl, fun x s h => by cases h⟩, by rw [e8]; rfl, hw.pick (by repeat (first | exact .nil | apply Pick.cons | exact .here | apply Ext.there))⟩
      · replace h48 := bF h48
        refine Sk <| Bn <| Ps <| Rg <| Lv Ar <| Lv Mv <| Nl ?_
        exact roundA (i + 1) ⟨by omega, far_snoc hi2 hf (by omega) (by omega)⟩ (by omega)
  · replace h36 := bF h36
    refine Xt <| Te <| Te <| Bh <| Ps <| Sq <| Rg <| Lv Av <| Nl <| Ps <| Sq <| Sq <| Rg <| Lv Mv <| Lv Ln <| Lv Mv <| Nl <| Ps <| Bk ?_
    have hi9 : i = Fs.length := by omega
    rw [hi9, List.take_length] at hi2
    have hfar := far_no hi2
    refine V.CW.perm (sg' := [] :: (arS x (ovS th D.length e0 (ovC0 D.length) (List.replicate 4 ([], none)) ⟨[], 0, 0⟩ none) xd.db ++ dvS xd D k)) ?_ (.refl _)
    refine loopA (γ := Nat × OvC × List LvO × V.OwnO) (fun j => [(10, .pointer (some ⟨x.a, 0, none⟩)), (14, ownV j.2.1.q.length j.2.2.2), (50, .slice p Fs.length cp), (51, .int .i64 (Fs.length : Nat)), (52, .int .i64 (j.1 : Nat))]) (fun j => ownG 133 (j.2.1.q.flatMap lkC) j.2.2.2 :: (arS x (ovS th D.length e0 j.2.1 j.2.2.1 ⟨[], 0, 0⟩ none) xd.db ++ dvS xd D k)) (fun j => j.1 ≤ Fs.length ∧ OvJ D.length Fs j.1 j.2.1 j.2.2.1 j.2.2.2) (fun j => Fs.length - j.1) ((0, ovC0 D.length, List.replicate 4 ([], none), none)) ⟨Nat.zero_le _, ovJ0 _ hD1 Fs⟩ fun j => ?_
    rintro ⟨hj1, hJ⟩
    refine Sq <| Rg <| Lv Cm <| Nl <| Ps <| Sq ?_
    refine CW.cond rfl (fun h53 => ?_) (fun h53 => ?_)
    · replace h53 := bT h53
      obtain ⟨pb, po, f, rfl, hpb, hf, hpr⟩ := V.slAt_at hp rfl (k := j.1) (by omega)
      have hnd := hpd pb po rfl
      have hfo := hk f (List.mem_of_getElem? hf)
      have hql := hJ.ql
      refine Sk <| Ps <| Sq <| Bk <| Sq <| Rg <| Lv Ix <| Lv (Val.loadOA (cs := fdC f) rfl Tryz.isAgg45 hpb hnd (hpr j.1 f hf) (by exact Tryz.sizeOf45)) <| Le AA fun b16 _ => LeN StW fun _ _ => Nl <| Ps <| Sq <| Rg <| Lv (Fa 2 43) <| Lv (La (blC f.b)) <| Le AA fun b17 _ => LeN StW fun _ _ => Nl <| Ps <| Sq <| Sq <| Dr ([[(b16, .cells (fdC f).toArray 45 (0, 0))], [(b17, .cells (blC f.b).toArray 43 (0, 0))], [(x.a, .cells (arC x (ovS th D.length e0 j.2.1 j.2.2.1 ⟨[], 0, 0⟩ none)).toArray 151 (0, 0))]]) <| Rv 0 rfl (Fa 1 4) <| Rv 1 rfl (Ld (v := .bool f.good)) <| Rv 2 rfl Nt <| Rv 3 rfl Mv ?_
      refine RW.split (d := 61) rfl (fun h61 => ?_) (fun h61 => ?_)
      · replace h61 := bT h61
        refine Rp 4 rfl <| Rp 5 rfl <| Rp 6 rfl <| Rv 7 rfl Pt <| Rv 8 rfl Mv <| Rp 9 rfl <| Rp 10 rfl <| Rp 11 rfl <| Rp 12 rfl <| Rp 13 rfl <| Rp 14 rfl <| Rp 15 rfl <| Rp 16 rfl <| Rv 17 rfl Pt <| Rv 18 rfl Mv <| Rp 19 rfl <| Rp 20 rfl <| Rp 21 rfl <| Rp 22 rfl <| Rp 23 rfl <| Rp 24 rfl <| Rp 25 rfl <| Rp 26 rfl <| Rp 27 rfl <| Rp 28 rfl <| Rv 29 rfl Pt <| Rd <| Ps <| Ct <| Sq <| Rg <| Lv Av <| Lv Av <| Nl <| Ps <| Rt <| Tr <| Br <| Tr <| Tr <| Br <| Tr <| Rt2 ?_
        have hbad : ovBad j.2.1.L f = true := by unfold ovBad; first | (simp [h61]; done) | (simp [h61, h66]; done) | (simp [h61, h66, h70, h76]; done) | (simp [h61, h66, h70, h76, h87]; done) | (simp [h61, h66, h70, h87]; done)
        have e8 : ovE D.length Fs = 3 := hJ.bad hf hfar hbad
        intro w' hw; exact ⟨none, ⟨by rw [e8]; rfl, fun x s h => by cases h⟩, by rw [e8]; rfl, hw.pick (by repeat (first | exact .nil | apply Pick.cons | exact .here | apply Ext.there))⟩
      · replace h61 := bF h61
        refine Rv 4 rfl (Lw (l := blC f.b)) <| Re 5 rfl (CV fun w hw => may_c f.b hfo w) fun _ _ => Rv 6 rfl Nt <| Rv 7 rfl Pf <| Rv 8 rfl Mv ?_
        refine RW.split (d := 66) rfl (fun h66 => ?_) (fun h66 => ?_)
        · replace h66 := bT h66
          refine Rp 9 rfl <| Rp 10 rfl <| Rp 11 rfl <| Rp 12 rfl <| Rp 13 rfl <| Rp 14 rfl <| Rp 15 rfl <| Rp 16 rfl <| Rv 17 rfl Pt <| Rv 18 rfl Mv <| Rp 19 rfl <| Rp 20 rfl <| Rp 21 rfl <| Rp 22 rfl <| Rp 23 rfl <| Rp 24 rfl <| Rp 25 rfl <| Rp 26 rfl <| Rp 27 rfl <| Rp 28 rfl <| Rv 29 rfl Pt <| Rd <| Ps <| Ct <| Sq <| Rg <| Lv Av <| Lv Av <| Nl <| Ps <| Rt <| Tr <| Br <| Tr <| Tr <| Br <| Tr <| Rt2 ?_
          have hbad : ovBad j.2.1.L f = true := by unfold ovBad; first | (simp [h61]; done) | (simp [h61, h66]; done) | (simp [h61, h66, h70, h76]; done) | (simp [h61, h66, h70, h76, h87]; done) | (simp [h61, h66, h70, h87]; done)
          have e8 : ovE D.length Fs = 3 := hJ.bad hf hfar hbad
          intro w' hw; exact ⟨none, ⟨by rw [e8]; rfl, fun x s h => by cases h⟩, by rw [e8]; rfl, hw.pick (by repeat (first | exact .nil | apply Pick.cons | exact .here | apply Ext.there))⟩
        · replace h66 := bF h66
          refine Rv 9 rfl (Fa 1 3) <| Rv 10 rfl (Ld (v := .int .i64 f.b.kind)) <| Rv 11 rfl Cm <| Rv 12 rfl Mv ?_
          refine RW.split (d := 70) rfl (fun h70 => ?_) (fun h70 => ?_)
          · replace h70 := bT h70
            refine Rv 13 rfl (Fa 1 3) <| Rv 14 rfl (Ld (v := .int .i64 f.b.kind)) <| Rv 15 rfl Cm <| Rv 16 rfl Pt <| Rv 17 rfl Pf <| Rv 18 rfl Mv ?_
            refine RW.split (d := 76) rfl (fun h76 => ?_) (fun h76 => ?_)
            · replace h76 := bT h76
              refine Rp 19 rfl <| Rp 20 rfl <| Rp 21 rfl <| Rp 22 rfl <| Rp 23 rfl <| Rp 24 rfl <| Rp 25 rfl <| Rp 26 rfl <| Rp 27 rfl <| Rp 28 rfl <| Rv 29 rfl Pt <| Rd <| Ps <| Ct <| Sq <| Rg <| Lv Av <| Lv Av <| Nl <| Ps <| Rt <| Tr <| Br <| Tr <| Tr <| Br <| Tr <| Rt2 ?_
              have hbad : ovBad j.2.1.L f = true := by unfold ovBad; first | (simp [h61]; done) | (simp [h61, h66]; done) | (simp [h61, h66, h70, h76]; done) | (simp [h61, h66, h70, h76, h87]; done) | (simp [h61, h66, h70, h87]; done)
              have e8 : ovE D.length Fs = 3 := hJ.bad hf hfar hbad
              intro w' hw; exact ⟨none, ⟨by rw [e8]; rfl, fun x s h => by cases h⟩, by rw [e8]; rfl, hw.pick (by repeat (first | exact .nil | apply Pick.cons | exact .here | apply Ext.there))⟩
            · replace h76 := bF h76
              refine Rv 19 rfl Mv <| Rv 20 rfl Nz <| Rv 21 rfl (Fa 1 67) <| Rv 22 rfl (Ld (v := .pointer (some ⟨x.pb, 0, none⟩))) <| Rv 23 rfl (Fa 0 3) <| Rv 24 rfl (Ld (v := .int .i64 f.line)) <| Rv 25 rfl (Fa 0 3) <| Rv 26 rfl (Ld (v := .int .i64 f.b.cls)) <| Re 27 rfl (CM (plS x.pb x.sb j.2.1.L) fun w hw hs0 => mark_c x.pb x.sb j.2.1.L f.line f.b.cls hJ.pl w hs0) fun _ _ => Rv 28 rfl Cm <| Rv 29 rfl Pf <| Rd <| Ps ?_
              refine CW.cond rfl (fun h87 => ?_) (fun h87 => ?_)
              · replace h87 := bT h87
                refine Sq <| Rg <| Lv Av <| Lv Av <| Nl <| Ps <| Rt <| Tr <| Br <| Tr <| Tr <| Br <| Tr <| Rt2 ?_
                have hbad : ovBad j.2.1.L f = true := by unfold ovBad; first | (simp [h61]; done) | (simp [h61, h66]; done) | (simp [h61, h66, h70, h76]; done) | (simp [h61, h66, h70, h76, h87]; done) | (simp [h61, h66, h70, h87]; done)
                have e8 : ovE D.length Fs = 3 := hJ.bad hf hfar hbad
                intro w' hw; exact ⟨none, ⟨by rw [e8]; rfl, fun x s h => by cases h⟩, by rw [e8]; rfl, hw.pick (by repeat (first | exact .nil | apply Pick.cons | exact .here | apply Ext.there))⟩
              · replace h87 := bF h87
                have hbad : ovBad j.2.1.L f = false := by unfold ovBad; first | simp [h61, h66, h70, h76, h87] | simp [h61, h66, h70, h87]
                refine Sk <| Ps <| Sq <| Rg <| Lv (Fa 5 9) <| Lv (Ld (v := str f.b.key)) <| Lv (Fa 2 22) <| Lv (Ld (v := .int .u64 f.b.id)) <| Lv (Fa 3 22) <| Lv (Ld (v := .int .u64 f.b.ver)) <| Lv (Fa 0 3) <| Lv (Ld (v := .int .i64 f.line)) <| Lv (Fa 0 3) <| Lv (Ld (v := .int .i64 f.b.cls)) <| Lv (Bd (lkC (lkOf f))) <| Le AA fun b18 _ => LeN StW fun _ _ => Nl <| Ps <| Sq <| Sq <| Rg <| Lv (Fa 1 3) <| Lv (Ld (v := .int .i64 f.b.kind)) <| Lv Cm <| Nl <| Ps ?_
                refine CW.cond rfl (fun h101 => ?_) (fun h101 => ?_)
                · replace h101 := bT h101
                  refine Rg <| Lv Mv <| Lv (Lw (l := lkC (lkOf f))) <| Le (Eff.buildSlice (rfl) [_, _, _, _, _] Tryz.underlying128 Tryz.sizeOf133 (by exact Tryz.zeroValue133) rfl rfl rfl rfl (by rfl)) fun b104 _ => Le (Eff.appendAny (lkC (lkOf f)) (sz := 5) (bytes := 48) (z := .agg #[.string ⟨#[]⟩, .int .u64 0, .int .u64 0, .int .i64 0, .int .i64 0]) (xs := j.2.1.q.flatMap lkC) (m0 := j.2.1.q.length) (o := j.2.2.2) (m := 1) (pk := [ownG 133 (j.2.1.q.flatMap lkC) (j.2.2.2)]) rfl rfl Tryz.underlying128 (by kernel_rfl) rfl (by omega) (by repeat (first | exact .nil | apply Pick.cons | exact .here | apply Ext.there)) (by simp) hJ.own (by rfl) (fun hm0 => ⟨b104, 0, rfl, fun w hw => V.range_of_block (o := 0) (cs := lkC (lkOf f)) (r := []) (hw.own _ (show InS (b104, .cells (lkC (lkOf f)).toArray 133 (0, 0)) _ from (by repeat (first | exact .here | exact .inner .here | exact .inner (.inner .here) | refine .there ?_))).mem) rfl⟩) (by rfl) (by omega) (by omega)) fun o2 ho2 => Lv Av <| Nl <| Ps <| Sq <| Dr ([[(b17, .cells (blC f.b).toArray 43 (0, 0))]]) <| Rv 0 rfl Mv <| Rv 1 rfl Nz <| Rv 2 rfl (Fa 8 148) <| Rv 3 rfl Mv <| Rv 4 rfl Nz <| Rv 5 rfl (Fa 8 148) <| Rv 7 rfl (Fa 2 22) <| Rv 8 rfl (Ld (v := .int .u64 f.b.id)) <| Re 6 rfl (CV fun w hw => uLd_c x.a 8 (arC x (ovS th D.length e0 j.2.1 j.2.2.1 ⟨[], 0, 0⟩ none)) 151 j.2.1.id w rfl hw.pk.sat) fun _ _ => Rv 9 rfl (Val.maxI rfl rfl) <| Re 10 rfl (CM ([[(x.a, .cells (arC x (ovS th D.length e0 j.2.1 j.2.2.1 ⟨[], 0, 0⟩ none)).toArray 151 (0, 0))]]) fun w hw hs0 => aStore_c x.a 8 (arC x (ovS th D.length e0 j.2.1 j.2.2.1 ⟨[], 0, 0⟩ none)) 151 _ (imax j.2.1.id f.b.id) w rfl hs0) fun _ _ => Rd <| Ps <| Dr ([[(b17, .cells (blC f.b).toArray 43 (0, 0))]]) <| Rv 0 rfl Mv <| Rv 1 rfl Nz <| Rv 2 rfl (Fa 9 148) <| Rv 3 rfl Mv <| Rv 4 rfl Nz <| Rv 5 rfl (Fa 9 148) <| Rv 7 rfl (Fa 3 22) <| Rv 8 rfl (Ld (v := .int .u64 f.b.ver)) <| Re 6 rfl (CV fun w hw => uLd_c x.a 9 ((arC x (ovS th D.length e0 j.2.1 j.2.2.1 ⟨[], 0, 0⟩ none)).set 8 (.int .u64 (imax j.2.1.id f.b.id))) 151 j.2.1.ver w rfl hw.pk.sat) ?_
                  intro _ _
                  refine Rv 9 rfl (Val.maxI rfl rfl) <| Re 10 rfl (CM ([[(x.a, .cells ((arC x (ovS th D.length e0 j.2.1 j.2.2.1 ⟨[], 0, 0⟩ none)).set 8 (.int .u64 (imax j.2.1.id f.b.id))).toArray 151 (0, 0))]]) fun w hw hs0 => aStore_c x.a 9 ((arC x (ovS th D.length e0 j.2.1 j.2.2.1 ⟨[], 0, 0⟩ none)).set 8 (.int .u64 (imax j.2.1.id f.b.id))) 151 _ (imax j.2.1.ver f.b.ver) w rfl hs0) fun _ _ => Rd <| Bn <| Ps <| Rg <| Lv Ar <| Lv Mv <| Nl ?_
                  rw [← show (j.2.1.q ++ [lkOf f]).flatMap lkC = j.2.1.q.flatMap lkC ++ lkC (lkOf f) by rw [List.flatMap_append]; rfl]
                  refine PQ.round ((j.1 + 1, ⟨(markF j.2.1.L f.line f.b.cls).1, j.2.1.Tz, j.2.1.D, j.2.1.q ++ [lkOf f], imax j.2.1.id f.b.id, imax j.2.1.ver f.b.ver⟩, j.2.2.1, o2)) ⟨by simp only; omega, hJ.q hf hbad h101 ho2⟩ (by simp only; omega) (by exact ⟨rfl, congrArg (fun z => some (ownV z o2)) (by simp), rfl, rfl, rfl, trivial⟩) (by repeat (first | exact .nil | apply Pick.cons | exact .here | apply Ext.there))
                · replace h101 := bF h101
                  refine Sq <| Dr ([[(b18, .cells (lkC (lkOf f)).toArray 133 (0, 0))], [(x.a, .cells (arC x (ovS th D.length e0 j.2.1 j.2.2.1 ⟨[], 0, 0⟩ none)).toArray 151 (0, 0))]]) <| Rv 0 rfl Mv <| Rv 1 rfl Nz <| Rv 2 rfl (Fa 5 129) <| Rv 3 rfl (Ld (v := .pointer (some ⟨x.tb, 0, none⟩))) <| Rv 4 rfl (Lw (l := lkC (lkOf f))) <| Re 5 rfl (CM (tbS x.tb x.ms j.2.1.Tz) fun w hw hs0 => tset_c x.tb x.ms j.2.1.Tz ⟨hms, hJ.tb⟩ (lkOf f) hfo.1 w hs0) fun _ _ => Rd <| Ps ?_
                  refine CW.cond rfl (fun h111 => ?_) (fun h111 => ?_)
                  · replace h111 := bT h111
                    refine Sq <| Rg <| Lv Av <| Lv Av <| Nl <| Ps <| Rt <| Tr <| Br <| Tr <| Tr <| Br <| Tr <| Rt2 ?_
                    have e8 : ovE D.length Fs = 3 := hJ.had hf hfar hbad h101 h111
                    intro w' hw; exact ⟨none, ⟨by rw [e8]; rfl, fun x s h => by cases h⟩, by rw [e8]; rfl, hw.pick (by repeat (first | exact .nil | apply Pick.cons | exact .here | apply Ext.there))⟩
                  · replace h111 := bF h111
                    refine Dr ([[(b18, .cells (lkC (lkOf f)).toArray 133 (0, 0))], [(x.a, .cells (arC x (ovS th D.length e0 j.2.1 j.2.2.1 ⟨[], 0, 0⟩ none)).toArray 151 (0, 0))]]) <| Rv 0 rfl Mv <| Rv 1 rfl Nz <| Rv 2 rfl (Fa 6 146) <| Rv 3 rfl (Ld (v := .pointer (some ⟨x.ob, 0, none⟩))) <| Rv 4 rfl (Lw (l := lkC (lkOf f))) <| Re 5 rfl (CM (odS x.ob j.2.2.1) fun w hw hs0 => oset_c x.ob j.2.2.1 (lkOf f) ⟨hJ.o4, fun p hp => ⟨hJ.ok p hp, by have := hJ.le p hp; omega⟩⟩ hfo.1 w hs0) fun Lv2 hv2 => Rd <| Ps <| Sq <| Dr ([[(b17, .cells (blC f.b).toArray 43 (0, 0))]]) <| Rv 0 rfl Mv <| Rv 1 rfl Nz <| Rv 2 rfl (Fa 8 148) <| Rv 3 rfl Mv <| Rv 4 rfl Nz <| Rv 5 rfl (Fa 8 148) <| Rv 7 rfl (Fa 2 22) <| Rv 8 rfl (Ld (v := .int .u64 f.b.id)) <| Re 6 rfl (CV fun w hw => uLd_c x.a 8 (arC x (ovS th D.length e0 j.2.1 j.2.2.1 ⟨[], 0, 0⟩ none)) 151 j.2.1.id w rfl hw.pk.sat) fun _ _ => Rv 9 rfl (Val.maxI rfl rfl) <| Re 10 rfl (CM ([[(x.a, .cells (arC x (ovS th D.length e0 j.2.1 j.2.2.1 ⟨[], 0, 0⟩ none)).toArray 151 (0, 0))]]) fun w hw hs0 => aStore_c x.a 8 (arC x (ovS th D.length e0 j.2.1 j.2.2.1 ⟨[], 0, 0⟩ none)) 151 _ (imax j.2.1.id f.b.id) w rfl hs0) fun _ _ => Rd <| Ps <| Dr ([[(b17, .cells (blC f.b).toArray 43 (0, 0))]]) <| Rv 0 rfl Mv <| Rv 1 rfl Nz <| Rv 2 rfl (Fa 9 148) <| Rv 3 rfl Mv <| Rv 4 rfl Nz <| Rv 5 rfl (Fa 9 148) <| Rv 7 rfl (Fa 3 22) <| Rv 8 rfl (Ld (v := .int .u64 f.b.ver)) <| Re 6 rfl (CV fun w hw => uLd_c x.a 9 ((arC x (ovS th D.length e0 j.2.1 j.2.2.1 ⟨[], 0, 0⟩ none)).set 8 (.int .u64 (imax j.2.1.id f.b.id))) 151 j.2.1.ver w rfl hw.pk.sat) fun _ _ => Rv 9 rfl (Val.maxI rfl rfl) <| Re 10 rfl (CM ([[(x.a, .cells ((arC x (ovS th D.length e0 j.2.1 j.2.2.1 ⟨[], 0, 0⟩ none)).set 8 (.int .u64 (imax j.2.1.id f.b.id))).toArray 151 (0, 0))]]) fun w hw hs0 => aStore_c x.a 9 ((arC x (ovS th D.length e0 j.2.1 j.2.2.1 ⟨[], 0, 0⟩ none)).set 8 (.int .u64 (imax j.2.1.id f.b.id))) 151 _ (imax j.2.1.ver f.b.ver) w rfl hs0) ?_
                    intro _ _
                    refine Rd <| Bn <| Ps <| Rg <| Lv Ar <| Lv Mv <| Nl ?_
                    exact roundA ((j.1 + 1, ⟨(markF j.2.1.L f.line f.b.cls).1, tSet j.2.1.Tz (lkOf f), oset j.2.1.D (lkOf f), j.2.1.q, imax j.2.1.id f.b.id, imax j.2.1.ver f.b.ver⟩, Lv2, j.2.2.2)) ⟨by simp only; omega, hJ.t hf hbad h101 h111 hv2⟩ (by simp only; omega)
          · replace h70 := bF h70
            refine Rp 13 rfl <| Rp 14 rfl <| Rp 15 rfl <| Rv 16 rfl Pf <| Rv 17 rfl Pf <| Rv 18 rfl Mv <| Rv 19 rfl Mv <| Rv 20 rfl Nz <| Rv 21 rfl (Fa 1 67) <| Rv 22 rfl (Ld (v := .pointer (some ⟨x.pb, 0, none⟩))) <| Rv 23 rfl (Fa 0 3) <| Rv 24 rfl (Ld (v := .int .i64 f.line)) <| Rv 25 rfl (Fa 0 3) <| Rv 26 rfl (Ld (v := .int .i64 f.b.cls)) <| Re 27 rfl (CM (plS x.pb x.sb j.2.1.L) fun w hw hs0 => mark_c x.pb x.sb j.2.1.L f.line f.b.cls hJ.pl w hs0) fun _ _ => Rv 28 rfl Cm <| Rv 29 rfl Pf <| Rd <| Ps ?_
            refine CW.cond rfl (fun h87 => ?_) (fun h87 => ?_)
            · replace h87 := bT h87
              refine Sq <| Rg <| Lv Av <| Lv Av <| Nl <| Ps <| Rt <| Tr <| Br <| Tr <| Tr <| Br <| Tr <| Rt2 ?_
              have hbad : ovBad j.2.1.L f = true := by unfold ovBad; first | (simp [h61]; done) | (simp [h61, h66]; done) | (simp [h61, h66, h70, h76]; done) | (simp [h61, h66, h70, h76, h87]; done) | (simp [h61, h66, h70, h87]; done)
              have e8 : ovE D.length Fs = 3 := hJ.bad hf hfar hbad
              intro w' hw; exact ⟨none, ⟨by rw [e8]; rfl, fun x s h => by cases h⟩, by rw [e8]; rfl, hw.pick (by repeat (first | exact .nil | apply Pick.cons | exact .here | apply Ext.there))⟩
            · replace h87 := bF h87
              have hbad : ovBad j.2.1.L f = false := by unfold ovBad; first | simp [h61, h66, h70, h76, h87] | simp [h61, h66, h70, h87]
              refine Sk <| Ps <| Sq <| Rg <| Lv (Fa 5 9) <| Lv (Ld (v := str f.b.key)) <| Lv (Fa 2 22) <| Lv (Ld (v := .int .u64 f.b.id)) <| Lv (Fa 3 22) <| Lv (Ld (v := .int .u64 f.b.ver)) <| Lv (Fa 0 3) <| Lv (Ld (v := .int .i64 f.line)) <| Lv (Fa 0 3) <| Lv (Ld (v := .int .i64 f.b.cls)) <| Lv (Bd (lkC (lkOf f))) <| Le AA fun b18 _ => LeN StW fun _ _ => Nl <| Ps <| Sq <| Sq <| Rg <| Lv (Fa 1 3) <| Lv (Ld (v := .int .i64 f.b.kind)) <| Lv Cm <| Nl <| Ps ?_
              refine CW.cond rfl (fun h101 => ?_) (fun h101 => ?_)
              · replace h101 := bT h101
                refine Rg <| Lv Mv <| Lv (Lw (l := lkC (lkOf f))) <| Le (Eff.buildSlice (rfl) [_, _, _, _, _] Tryz.underlying128 Tryz.sizeOf133 (by exact Tryz.zeroValue133) rfl rfl rfl rfl (by rfl)) fun b104 _ => Le (Eff.appendAny (lkC (lkOf f)) (sz := 5) (bytes := 48) (z := .agg #[.string ⟨#[]⟩, .int .u64 0, .int .u64 0, .int .i64 0, .int .i64 0]) (xs := j.2.1.q.flatMap lkC) (m0 := j.2.1.q.length) (o := j.2.2.2) (m := 1) (pk := [ownG 133 (j.2.1.q.flatMap lkC) (j.2.2.2)]) rfl rfl Tryz.underlying128 (by kernel_rfl) rfl (by omega) (by repeat (first | exact .nil | apply Pick.cons | exact .here | apply Ext.there)) (by simp) hJ.own (by rfl) (fun hm0 => ⟨b104, 0, rfl, fun w hw => V.range_of_block (o := 0) (cs := lkC (lkOf f)) (r := []) (hw.own _ (show InS (b104, .cells (lkC (lkOf f)).toArray 133 (0, 0)) _ from (by repeat (first | exact .here | exact .inner .here | exact .inner (.inner .here) | refine .there ?_))).mem) rfl⟩) (by rfl) (by omega) (by omega)) fun o2 ho2 => Lv Av <| Nl <| Ps <| Sq <| Dr ([[(b17, .cells (blC f.b).toArray 43 (0, 0))]]) <| Rv 0 rfl Mv <| Rv 1 rfl Nz <| Rv 2 rfl (Fa 8 148) <| Rv 3 rfl Mv <| Rv 4 rfl Nz <| Rv 5 rfl (Fa 8 148) <| Rv 7 rfl (Fa 2 22) <| Rv 8 rfl (Ld (v := .int .u64 f.b.id)) <| Re 6 rfl (CV fun w hw => uLd_c x.a 8 (arC x (ovS th D.length e0 j.2.1 j.2.2.1 ⟨[], 0, 0⟩ none)) 151 j.2.1.id w rfl hw.pk.sat) fun _ _ => Rv 9 rfl (Val.maxI rfl rfl) <| Re 10 rfl (CM ([[(x.a, .cells (arC x (ovS th D.length e0 j.2.1 j.2.2.1 ⟨[], 0, 0⟩ none)).toArray 151 (0, 0))]]) fun w hw hs0 => aStore_c x.a 8 (arC x (ovS th D.length e0 j.2.1 j.2.2.1 ⟨[], 0, 0⟩ none)) 151 _ (imax j.2.1.id f.b.id) w rfl hs0) fun _ _ => Rd <| Ps <| Dr ([[(b17, .cells (blC f.b).toArray 43 (0, 0))]]) <| Rv 0 rfl Mv <| Rv 1 rfl Nz <| Rv 2 rfl (Fa 9 148) <| Rv 3 rfl Mv <| Rv 4 rfl Nz <| Rv 5 rfl (Fa 9 148) <| Rv 7 rfl (Fa 3 22) <| Rv 8 rfl (Ld (v := .int .u64 f.b.ver)) <| Re 6 rfl (CV fun w hw => uLd_c x.a 9 ((arC x (ovS th D.length e0 j.2.1 j.2.2.1 ⟨[], 0, 0⟩ none)).set 8 (.int .u64 (imax j.2.1.id f.b.id))) 151 j.2.1.ver w rfl hw.pk.sat) ?_
                intro _ _
                refine Rv 9 rfl (Val.maxI rfl rfl) <| Re 10 rfl (CM ([[(x.a, .cells ((arC x (ovS th D.length e0 j.2.1 j.2.2.1 ⟨[], 0, 0⟩ none)).set 8 (.int .u64 (imax j.2.1.id f.b.id))).toArray 151 (0, 0))]]) fun w hw hs0 => aStore_c x.a 9 ((arC x (ovS th D.length e0 j.2.1 j.2.2.1 ⟨[], 0, 0⟩ none)).set 8 (.int .u64 (imax j.2.1.id f.b.id))) 151 _ (imax j.2.1.ver f.b.ver) w rfl hs0) fun _ _ => Rd <| Bn <| Ps <| Rg <| Lv Ar <| Lv Mv <| Nl ?_
                rw [← show (j.2.1.q ++ [lkOf f]).flatMap lkC = j.2.1.q.flatMap lkC ++ lkC (lkOf f) by rw [List.flatMap_append]; rfl]
                refine PQ.round ((j.1 + 1, ⟨(markF j.2.1.L f.line f.b.cls).1, j.2.1.Tz, j.2.1.D, j.2.1.q ++ [lkOf f], imax j.2.1.id f.b.id, imax j.2.1.ver f.b.ver⟩, j.2.2.1, o2)) ⟨by simp only; omega, hJ.q hf hbad h101 ho2⟩ (by simp only; omega) (by exact ⟨rfl, congrArg (fun z => some (ownV z o2)) (by simp), rfl, rfl, rfl, trivial⟩) (by repeat (first | exact .nil | apply Pick.cons | exact .here | apply Ext.there))
              · replace h101 := bF h101
                refine Sq <| Dr ([[(b18, .cells (lkC (lkOf f)).toArray 133 (0, 0))], [(x.a, .cells (arC x (ovS th D.length e0 j.2.1 j.2.2.1 ⟨[], 0, 0⟩ none)).toArray 151 (0, 0))]]) <| Rv 0 rfl Mv <| Rv 1 rfl Nz <| Rv 2 rfl (Fa 5 129) <| Rv 3 rfl (Ld (v := .pointer (some ⟨x.tb, 0, none⟩))) <| Rv 4 rfl (Lw (l := lkC (lkOf f))) <| Re 5 rfl (CM (tbS x.tb x.ms j.2.1.Tz) fun w hw hs0 => tset_c x.tb x.ms j.2.1.Tz ⟨hms, hJ.tb⟩ (lkOf f) hfo.1 w hs0) fun _ _ => Rd <| Ps ?_
                refine CW.cond rfl (fun h111 => ?_) (fun h111 => ?_)
                · replace h111 := bT h111
                  refine Sq <| Rg <| Lv Av <| Lv Av <| Nl <| Ps <| Rt <| Tr <| Br <| Tr <| Tr <| Br <| Tr <| Rt2 ?_
                  have e8 : ovE D.length Fs = 3 := hJ.had hf hfar hbad h101 h111
                  intro w' hw; exact ⟨none, ⟨by rw [e8]; rfl, fun x s h => by cases h⟩, by rw [e8]; rfl, hw.pick (by repeat (first | exact .nil | apply Pick.cons | exact .here | apply Ext.there))⟩
                · replace h111 := bF h111
                  refine Dr ([[(b18, .cells (lkC (lkOf f)).toArray 133 (0, 0))], [(x.a, .cells (arC x (ovS th D.length e0 j.2.1 j.2.2.1 ⟨[], 0, 0⟩ none)).toArray 151 (0, 0))]]) <| Rv 0 rfl Mv <| Rv 1 rfl Nz <| Rv 2 rfl (Fa 6 146) <| Rv 3 rfl (Ld (v := .pointer (some ⟨x.ob, 0, none⟩))) <| Rv 4 rfl (Lw (l := lkC (lkOf f))) <| Re 5 rfl (CM (odS x.ob j.2.2.1) fun w hw hs0 => oset_c x.ob j.2.2.1 (lkOf f) ⟨hJ.o4, fun p hp => ⟨hJ.ok p hp, by have := hJ.le p hp; omega⟩⟩ hfo.1 w hs0) fun Lv2 hv2 => Rd <| Ps <| Sq <| Dr ([[(b17, .cells (blC f.b).toArray 43 (0, 0))]]) <| Rv 0 rfl Mv <| Rv 1 rfl Nz <| Rv 2 rfl (Fa 8 148) <| Rv 3 rfl Mv <| Rv 4 rfl Nz <| Rv 5 rfl (Fa 8 148) <| Rv 7 rfl (Fa 2 22) <| Rv 8 rfl (Ld (v := .int .u64 f.b.id)) <| Re 6 rfl (CV fun w hw => uLd_c x.a 8 (arC x (ovS th D.length e0 j.2.1 j.2.2.1 ⟨[], 0, 0⟩ none)) 151 j.2.1.id w rfl hw.pk.sat) fun _ _ => Rv 9 rfl (Val.maxI rfl rfl) <| Re 10 rfl (CM ([[(x.a, .cells (arC x (ovS th D.length e0 j.2.1 j.2.2.1 ⟨[], 0, 0⟩ none)).toArray 151 (0, 0))]]) fun w hw hs0 => aStore_c x.a 8 (arC x (ovS th D.length e0 j.2.1 j.2.2.1 ⟨[], 0, 0⟩ none)) 151 _ (imax j.2.1.id f.b.id) w rfl hs0) fun _ _ => Rd <| Ps <| Dr ([[(b17, .cells (blC f.b).toArray 43 (0, 0))]]) <| Rv 0 rfl Mv <| Rv 1 rfl Nz <| Rv 2 rfl (Fa 9 148) <| Rv 3 rfl Mv <| Rv 4 rfl Nz <| Rv 5 rfl (Fa 9 148) <| Rv 7 rfl (Fa 3 22) <| Rv 8 rfl (Ld (v := .int .u64 f.b.ver)) <| Re 6 rfl (CV fun w hw => uLd_c x.a 9 ((arC x (ovS th D.length e0 j.2.1 j.2.2.1 ⟨[], 0, 0⟩ none)).set 8 (.int .u64 (imax j.2.1.id f.b.id))) 151 j.2.1.ver w rfl hw.pk.sat) fun _ _ => Rv 9 rfl (Val.maxI rfl rfl) <| Re 10 rfl (CM ([[(x.a, .cells ((arC x (ovS th D.length e0 j.2.1 j.2.2.1 ⟨[], 0, 0⟩ none)).set 8 (.int .u64 (imax j.2.1.id f.b.id))).toArray 151 (0, 0))]]) fun w hw hs0 => aStore_c x.a 9 ((arC x (ovS th D.length e0 j.2.1 j.2.2.1 ⟨[], 0, 0⟩ none)).set 8 (.int .u64 (imax j.2.1.id f.b.id))) 151 _ (imax j.2.1.ver f.b.ver) w rfl hs0) ?_
                  intro _ _
                  refine Rd <| Bn <| Ps <| Rg <| Lv Ar <| Lv Mv <| Nl ?_
                  exact roundA ((j.1 + 1, ⟨(markF j.2.1.L f.line f.b.cls).1, tSet j.2.1.Tz (lkOf f), oset j.2.1.D (lkOf f), j.2.1.q, imax j.2.1.id f.b.id, imax j.2.1.ver f.b.ver⟩, Lv2, j.2.2.2)) ⟨by simp only; omega, hJ.t hf hbad h101 h111 hv2⟩ (by simp only; omega)
    · replace h53 := bF h53
      obtain ⟨j1, c, Lz, o⟩ := j
      have hj9 : j1 = Fs.length := by simp only at hj1 h53; omega
      subst hj9
      replace hJ : OvJ D.length Fs Fs.length c Lz o := hJ
      have hql : c.q.length ≤ Fs.length := hJ.ql
      obtain ⟨ps, cs, hvs, _, _⟩ := own_slg (e := 133) lkC_len c.q o hJ.own
      refine Xt <| Te <| Te <| Bh <| Ps <| Sq <| Rg <| Lv Mv <| Le (CM ([ownG 133 (c.q.flatMap lkC) o]) fun w hw hs0 => Stb.sortStable_c o c.q hJ.own (by have := hJ.ql; omega) w hs0) fun q2 hq2 => Nl <| Ps <| Sq <| Sq <| Rg <| Lv Mv <| LW.re 143 (.slice ps c.q.length cs) rfl hvs <| Lv Ln <| Lv Mv <| Nl <| Ps <| Bk <| loopA (γ := Nat × Rng × V.OwnO) (fun m => [(10, .pointer (some ⟨x.a, 0, none⟩)), (143, .slice ps c.q.length cs), (144, .int .i64 (c.q.length : Nat)), (145, .int .i64 (m.1 : Nat))]) (fun m => ownG 133 (q2.flatMap lkC) o :: (arS x (ovS th D.length e0 c Lz m.2.1 m.2.2) xd.db ++ dvS xd D k)) (fun m => m.1 ≤ c.q.length ∧ rgQ m.2.1 = q2.take m.1 ∧ rgO m.2.1 m.2.2 ∧ m.2.1.R.length ≤ m.1) (fun m => c.q.length - m.1) ((0, ⟨[], 0, 0⟩, none)) ⟨Nat.zero_le _, rfl, rg0_ok, by simp⟩ fun m => ?_
      rintro ⟨hm1, hm2, hm3, hm4⟩
      have hq2l := hq2.1.1
      refine Sq <| Rg <| Lv Cm <| Nl <| Ps <| Sq ?_
      refine CW.cond rfl (fun h146 => ?_) (fun h146 => ?_)
      · replace h146 := bT h146
        obtain ⟨g, rest, cap, rfl⟩ : ∃ g r c, o = some (g, r, c) := by
          rcases o with _ | ⟨g, r, c⟩
          · exact absurd hJ.own.2 (by have := hq2.1.1; omega)
          · exact ⟨g, r, c, rfl⟩
        have h8 := hvs
        simp only [ownV] at h8
        injection h8 with h9 h10 h11
        subst h9 h11
        obtain ⟨y, hy⟩ : ∃ y, q2[m.1]? = some y := ⟨q2[m.1]'(by omega), by simp⟩
        obtain ⟨r2, hr2⟩ := flk_at (rest := rest) hy
        refine Sk <| Ps <| Sq <| Bk <| Sq <| Rg <| Lv (Val.indexAddrN (i := m.1) rfl rfl Tryz.underlying128 Tryz.sizeOf133 (by omega)) <| Lv (La (lkC y) (hl := hr2)) <| Le AA fun b20 _ => LeN StW fun _ _ => Nl <| Ps <| Dr ([[(b20, .cells (lkC y).toArray 133 (0, 0))], [(x.a, .cells (arC x (ovS th D.length e0 c Lz m.2.1 m.2.2)).toArray 151 (0, 0))]]) <| Rv 0 rfl Mv <| Rv 1 rfl Nz <| Rv 2 rfl (Fa 7 138) <| Rv 3 rfl (Ld (v := .pointer (some ⟨x.fb, 0, none⟩))) <| Rv 4 rfl (Lw (l := lkC y)) <| Re 5 rfl (CM (rgS 182 x.fb m.2.1 m.2.2) fun w hw hs0 => lpush_c x.fb m.2.1 m.2.2 y hm3 (by have := hJ.ql; have := hq2.1.1; omega) w hs0) fun ro2 hro2 => Rd <| Bn <| Ps <| Rg <| Lv (Val.ar (r := (m.1 : Nat) + 1) rfl rfl rfl (IntWalk.i64_in _ (by omega))) <| Lv Mv <| Nl ?_
        exact roundA ((m.1 + 1, m.2.1.push y, ro2)) ⟨by simp only; omega, by simp only; rw [Rng.push_Q hm3.1, hm2, List.take_add_one, hy]; rfl, hro2, by simp only; have := push_le m.2.1 y; omega⟩ (by simp only; omega)
      · replace h146 := bF h146
        refine Xt <| Te <| Te <| Bh <| Ps <| Sq <| Rg <| Lv Mv <| Lv Av <| Lv Av <| Nl <| Ps <| Rt <| Rt2 ?_
        have hm9 : m.1 = q2.length := by omega
        rw [hm9, List.take_length] at hm2
        obtain ⟨e7, e8⟩ := hJ.end_ hfar
        intro w' hw
        refine ⟨some (x, ovS th D.length e0 c Lz m.2.1 m.2.2), ⟨by rw [e8]; rfl, fun x' s' h => ?_⟩, by rw [e8]; rfl, hw.pick (by repeat (first | exact .nil | apply Pick.cons | exact .here | apply Ext.there))⟩
        cases h
        exact ⟨c, e7, Lz, m.2.1, m.2.2, rfl, hJ.od, by rw [hm2]; exact hq2.1, by rw [hm2]; exact hq2.2, ⟨hJ.pl, hJ.sl, by simp [ovS, ar0], ⟨by simp [ovS, ar0], by simp [ovS, ar0], by simp [ovS, ar0]⟩, ⟨rfl, rfl⟩, ⟨hms, hJ.tb⟩, ⟨hJ.o4, hJ.ok⟩, hm3, ⟨rfl, rfl⟩⟩⟩
end G
end Go.Proofs.YtcnjjefbnlgdjaaGreat

/- A revival: its block; which blocks are sound, which are kept. -/
namespace Go.Proofs.YtcnjjefbnlgdjaaGreat
open Go Go.RowKit V
set_option linter.unusedVariables false
set_option maxRecDepth 100000
namespace G
open V (str byC ownV ownG ownS ownOk)
instance : Und Tryz.prog 30 (dOf Tryz.underlying30) := ⟨Tryz.underlying30⟩
instance : Siz Tryz.prog 30 (kOf Tryz.sizeOf30) := ⟨Tryz.sizeOf30⟩
instance : AgF Tryz.prog 30 := ⟨Tryz.isAgg30⟩
instance : Zer Tryz.prog 30 (zOf Tryz.zeroValue30) := ⟨Tryz.zeroValue30⟩
instance : Und Tryz.prog 113 (dOf Tryz.underlying113) := ⟨Tryz.underlying113⟩
instance : Siz Tryz.prog 113 (kOf Tryz.sizeOf113) := ⟨Tryz.sizeOf113⟩
instance : AgT Tryz.prog 113 := ⟨Tryz.isAgg113⟩
instance : Zer Tryz.prog 113 (zOf Tryz.zeroValue113) := ⟨Tryz.zeroValue113⟩
instance : Cal Tryz.prog 114 := ⟨Tryz.call114⟩
instance : Cal Tryz.prog 128 := ⟨Tryz.call128⟩
/-- A revival. -/
structure Rvl where
  th : Int
  ph : Int
  e : Int
  nx : Int
  fd : List Fnd
  fo : V.OwnO
  kp : List Fnd
  ko : V.OwnO
  dn : Int
  m1 : Int
  m2 : Int
  st : Value
  why : Int
def rvC (db : Nat) (r : Rvl) : List Value := [.pointer (some ⟨db, 0, none⟩), .int .i64 r.th, .int .i64 r.ph, .int .u64 r.e, .int .i64 r.nx, ownV r.fd.length r.fo, ownV r.kp.length r.ko, .int .u32 r.dn, .int .i32 r.m1, .int .u32 r.m2, r.st, .int .i64 r.why]
abbrev rvO (rb db : Nat) (r : Rvl) : Nat × Obj := (rb, .cells (rvC db r).toArray 113 (0, 0))
abbrev rvS (rb db : Nat) (r : Rvl) : Sg := [[rvO rb db r], ownG 45 (r.fd.flatMap fdC) r.fo, ownG 45 (r.kp.flatMap fdC) r.ko]
structure RvOk (r : Rvl) : Prop where
  fd : ownOk 9 r.fd.length (r.fd.flatMap fdC) r.fo
  kp : ownOk 9 r.kp.length (r.kp.flatMap fdC) r.ko
  fl : r.fd.length ≤ 800
  tx : ∀ f ∈ r.fd, fdOk f
  nx : 0 ≤ r.nx
def soundF (e : Int) (f : Fnd) : Bool := f.good && decide (f.b.ep ≤ e)
def payF (e : Int) (f : Fnd) : Bool := soundF e f && decide (f.b.kind ≠ 3)
def antiF (e : Int) (f : Fnd) : Bool := soundF e f && decide (f.b.kind = 3)
/-- Is g a newer state of what f is one of? -/
def newF (e : Int) (g f : Fnd) : Bool := soundF e g && decide (g.b.id = f.b.id) && (decide (f.b.ver < g.b.ver) || (payF e g && decide (g.b.ver = f.b.ver) && decide (g.line < f.line)))
def keepF (e : Int) (fd : List Fnd) (f : Fnd) : Bool := payF e f && !(fd.any fun g => newF e g f)
theorem to_g (rb db : Nat) (r : Rvl) (p : Int) (w : World) (hs : Sat [[rvO rb db r]] w) : Calls Tryz.prog 93 [.pointer (some ⟨rb, 0, none⟩), .int .i64 p].toArray w fun e w' => ∃ _u : Unit, True ∧ e = .returned (.int .i64 0) ∧ Hp ⟨w, V.ids ([[rvO rb db r]])⟩ ([[rvO rb db { r with ph := p, nx := 0 }]]) w' := by
  refine V.calls [[rvO rb db r]] Tryz.func93 rfl Tryz.ntmps93 (Nat.le_of_ble_eq_true rfl) hs <| Sq <| Rg <| Lv Av <| Nl <| Ps <| Sq <| Rg <| Lv Mv <| Lv Mv <| Lv Mv <| Lv Nz <| Lv (Fa 2 3) <| LeN StS fun _ _ => Lv Nz <| Lv (Fa 4 3) <| LeN StS fun _ _ => Nl <| Ps <| Sq <| Rg <| Lv Av <| Nl <| Ps <| Rt <| Rt1 ?_
  intro w' hw; exact ⟨(), trivial, rfl, hw⟩
theorem sound_g (rb db : Nat) (r : Rvl) (f : Fnd) (w : World) (hB : w.heap[rb]? = some (.cells (rvC db r).toArray 113 (0, 0))) : Calls Tryz.prog 128 [.pointer (some ⟨rb, 0, none⟩), .agg (fdC f).toArray].toArray w fun e w' => e = .returned (.bool (soundF r.e f)) ∧ Below w.heap.size w w' := by
  refine V.calls [] Tryz.func128 rfl Tryz.ntmps128 (Nat.le_of_ble_eq_true rfl) (V.sat_nil _) <| Sq <| Rg <| Le XA fun b3 _ => Lv Av <| Nl <| Ps <| Sq <| Qt <| Qv (Fa 1 4) <| Qv (Ld (v := .bool f.good)) <| Qv Mv ?_
  refine QW.split (d := 7) rfl (fun h7 => ?_) (fun h7 => ?_)
  · replace h7 := bT h7
    refine Qv (Fa 2 43) <| Qv (Fa 4 22) <| Qv (Ld (v := .int .u64 f.b.ep)) <| Qv Mv <| Qv Nz <| Qv (Fa 3 22) <| Qv (Val.loadO rfl Tryz.isAgg22 (V.lt_of_some hB) (by simp [ids]) (V.cell_of_block hB rfl)) <| Qv Cm <| Qv Pt <| Qv Av <| Ql <| Ps <| Rt <| Rt1 ?_
    intro w' hw; exact ⟨by unfold soundF; simp_all, hw.below⟩
  · replace h7 := bF h7
    refine Qp <| Qp <| Qp <| Qp <| Qp <| Qp <| Qp <| Qp <| Qv Pf <| Qv Av <| Ql <| Ps <| Rt <| Rt1 ?_
    intro w' hw; exact ⟨by unfold soundF; simp_all, hw.below⟩
theorem pay_g (rb db : Nat) (r : Rvl) (f : Fnd) (w : World) (hB : w.heap[rb]? = some (.cells (rvC db r).toArray 113 (0, 0))) : Calls Tryz.prog 114 [.pointer (some ⟨rb, 0, none⟩), .agg (fdC f).toArray].toArray w fun e w' => e = .returned (.bool (payF r.e f)) ∧ Below w.heap.size w w' := by
  refine V.calls [] Tryz.func114 rfl Tryz.ntmps114 (Nat.le_of_ble_eq_true rfl) (V.sat_nil _) <| Sq <| Rg <| Le XA fun b3 _ => Lv Av <| Nl <| Ps <| Sq <| Rg <| Lv Mv <| Lv (Lw (l := fdC f)) <| Le (CV fun w hw => sound_g rb db r f w ((hw.old rb (V.lt_of_some hB) (by simp [ids])).trans hB)) fun _ _ => Lv Mv ?_
  refine LW.split (d := 8) rfl (fun h8 => ?_) (fun h8 => ?_)
  · replace h8 := bT h8
    refine Lv (Fa 2 43) <| Lv (Fa 1 3) <| Lv (Ld (v := .int .i64 f.b.kind)) <| Lv Cm <| Lv Pt <| Lv Av <| Nl <| Ps <| Rt <| Rt1 ?_
    intro w' hw; exact ⟨by unfold payF; by_cases hk3 : f.b.kind = 3 <;> simp_all, hw.below⟩
  · replace h8 := bF h8
    refine Lp <| Lp <| Lp <| Lp <| Lv Pf <| Lv Av <| Nl <| Ps <| Rt <| Rt1 ?_
    intro w' hw; exact ⟨by unfold payF; by_cases hk3 : f.b.kind = 3 <;> simp_all, hw.below⟩
theorem anti_g (rb db : Nat) (r : Rvl) (f : Fnd) (w : World) (hB : w.heap[rb]? = some (.cells (rvC db r).toArray 113 (0, 0))) : Calls Tryz.prog 100 [.pointer (some ⟨rb, 0, none⟩), .agg (fdC f).toArray].toArray w fun e w' => e = .returned (.bool (antiF r.e f)) ∧ Below w.heap.size w w' := by
  refine V.calls [] Tryz.func100 rfl Tryz.ntmps100 (Nat.le_of_ble_eq_true rfl) (V.sat_nil _) <| Sq <| Rg <| Le XA fun b3 _ => Lv Av <| Nl <| Ps <| Sq <| Rg <| Lv Mv <| Lv (Lw (l := fdC f)) <| Le (CV fun w hw => sound_g rb db r f w ((hw.old rb (V.lt_of_some hB) (by simp [ids])).trans hB)) fun _ _ => Lv Mv ?_
  refine LW.split (d := 8) rfl (fun h8 => ?_) (fun h8 => ?_)
  · replace h8 := bT h8
    refine Lv (Fa 2 43) <| Lv (Fa 1 3) <| Lv (Ld (v := .int .i64 f.b.kind)) <| Lv Cm <| Lv Pt <| Lv Av <| Nl <| Ps <| Rt <| Rt1 ?_
    intro w' hw; exact ⟨by unfold antiF; by_cases hk3 : f.b.kind = 3 <;> simp_all, hw.below⟩
  · replace h8 := bF h8
    refine Lp <| Lp <| Lp <| Lp <| Lv Pf <| Lv Av <| Nl <| Ps <| Rt <| Rt1 ?_
    intro w' hw; exact ⟨by unfold antiF; by_cases hk3 : f.b.kind = 3 <;> simp_all, hw.below⟩
theorem newer_g (rb db : Nat) (r : Rvl) (g f : Fnd) (w : World) (hB : w.heap[rb]? = some (.cells (rvC db r).toArray 113 (0, 0))) : Calls Tryz.prog 117 [.pointer (some ⟨rb, 0, none⟩), .agg (fdC g).toArray, .agg (fdC f).toArray].toArray w fun e w' => e = .returned (.bool (newF r.e g f)) ∧ Below w.heap.size w w' := by
  refine V.calls [] Tryz.func117 rfl Tryz.ntmps117 (Nat.le_of_ble_eq_true rfl) (V.sat_nil _) <| Sq <| Rg <| Le XA fun b4 _ => Le XA fun b5 _ => Lv Av <| Nl <| Ps <| Sq <| Sq <| Rg <| Lv Mv <| Lv (Lw (l := fdC g)) <| Le (CV fun w hw => sound_g rb db r g w ((hw.old rb (V.lt_of_some hB) (by simp [ids])).trans hB)) fun _ _ => Lv Nt <| Lv Mv ?_
  refine LW.split (d := 11) rfl (fun h11 => ?_) (fun h11 => ?_)
  · replace h11 := bT h11
    refine Lp <| Lp <| Lp <| Lp <| Lp <| Lp <| Lp <| Lv Pt <| Nl <| Ps <| Ct <| Sq <| Rg <| Lv Av <| Nl <| Ps <| Rt <| Tr <| Rt1 ?_
    intro w' hw; exact ⟨by unfold newF; simp_all, hw.below⟩
  · replace h11 := bF h11
    refine Lv (Fa 2 43) <| Lv (Fa 2 22) <| Lv (Ld (v := .int .u64 g.b.id)) <| Lv (Fa 2 43) <| Lv (Fa 2 22) <| Lv (Ld (v := .int .u64 f.b.id)) <| Lv Cm <| Lv Pf <| Nl <| Ps ?_
    refine CW.cond rfl (fun h19 => ?_) (fun h19 => ?_)
    · replace h19 := bT h19
      refine Sq <| Rg <| Lv Av <| Nl <| Ps <| Rt <| Tr <| Rt1 ?_
      intro w' hw; exact ⟨by unfold newF; simp_all, hw.below⟩
    · replace h19 := bF h19
      refine Sk <| Ps <| Sq <| Rg <| Lv (Fa 2 43) <| Lv (Fa 3 22) <| Lv (Ld (v := .int .u64 g.b.ver)) <| Lv (Fa 2 43) <| Lv (Fa 3 22) <| Lv (Ld (v := .int .u64 f.b.ver)) <| Lv Cm <| Lv Mv ?_
      refine LW.split (d := 27) rfl (fun h27 => ?_) (fun h27 => ?_)
      · replace h27 := bT h27
        refine Lp <| Lp <| Lp <| Lp <| Lp <| Lp <| Lp <| Lp <| Lp <| Lp <| Lp <| Lp <| Lp <| Lp <| Lp <| Lp <| Lp <| Lp <| Lp <| Lv Pt <| Lv Av <| Nl <| Ps <| Rt <| Rt1 ?_
        intro w' hw; exact ⟨by unfold newF; simp_all, hw.below⟩
      · replace h27 := bF h27
        refine Lv Mv <| Lv (Lw (l := fdC g)) <| Le (CV fun w hw => pay_g rb db r g w ((hw.old rb (V.lt_of_some hB) (by simp [ids])).trans hB)) fun _ _ => Lv Mv ?_
        refine LW.split (d := 31) rfl (fun h31 => ?_) (fun h31 => ?_)
        · replace h31 := bT h31
          refine Lv (Fa 2 43) <| Lv (Fa 3 22) <| Lv (Ld (v := .int .u64 g.b.ver)) <| Lv (Fa 2 43) <| Lv (Fa 3 22) <| Lv (Ld (v := .int .u64 f.b.ver)) <| Lv Cm <| Lv Pt <| Lv Mv ?_
          refine LW.split (d := 40) rfl (fun h40 => ?_) (fun h40 => ?_)
          · replace h40 := bT h40
            refine Lv (Fa 0 3) <| Lv (Ld (v := .int .i64 g.line)) <| Lv (Fa 0 3) <| Lv (Ld (v := .int .i64 f.line)) <| Lv Cm <| Lv Pt <| Lv Pf <| Lv Av <| Nl <| Ps <| Rt <| Rt1 ?_
            intro w' hw; exact ⟨by unfold newF; simp_all, hw.below⟩
          · replace h40 := bF h40
            refine Lp <| Lp <| Lp <| Lp <| Lp <| Lv Pf <| Lv Pf <| Lv Av <| Nl <| Ps <| Rt <| Rt1 ?_
            intro w' hw; exact ⟨by unfold newF; simp_all, hw.below⟩
        · replace h31 := bF h31
          refine Lp <| Lp <| Lp <| Lp <| Lp <| Lp <| Lp <| Lv Pf <| Lv Mv <| Lp <| Lp <| Lp <| Lp <| Lp <| Lv Pf <| Lv Pf <| Lv Av <| Nl <| Ps <| Rt <| Rt1 ?_
          intro w' hw; exact ⟨by unfold newF; simp_all, hw.below⟩
end G
end Go.Proofs.YtcnjjefbnlgdjaaGreat

/- A revival: what is kept of what was found; a block looked at; a line gone through. -/
namespace Go.Proofs.YtcnjjefbnlgdjaaGreat
open Go Go.RowKit V
set_option linter.unusedVariables false
set_option maxRecDepth 100000
namespace G
open V (str byC ownV ownG ownS ownOk)
instance : Und Tryz.prog 29 (dOf Tryz.underlying29) := ⟨Tryz.underlying29⟩
instance : Siz Tryz.prog 29 (kOf Tryz.sizeOf29) := ⟨Tryz.sizeOf29⟩
instance : AgF Tryz.prog 29 := ⟨Tryz.isAgg29⟩
instance : Zer Tryz.prog 29 (zOf Tryz.zeroValue29) := ⟨Tryz.zeroValue29⟩
instance : Cal Tryz.prog 115 := ⟨Tryz.call115⟩
instance : Cal Tryz.prog 117 := ⟨Tryz.call117⟩
instance : Cal Tryz.prog 145 := ⟨Tryz.call145⟩
theorem own_slF (l : List Fnd) (y : V.OwnO) (hy : ownOk 9 l.length (l.flatMap fdC) y) : ∃ (p : Option Addr) (c : Nat), ownV l.length y = .slice p l.length c ∧ ∀ {B : V.Base} {sg r : V.Sg} {w : World}, Hp B sg w → Pick [ownG 45 (l.flatMap fdC) y] sg r → V.slAt w p 9 fdC l := by
  obtain ⟨p, c, h1, _, h2⟩ := own_slg (e := 45) fdC_len l y hy
  exact ⟨p, c, h1, h2⟩
theorem keep1_g (pb qb rb db : Nat) (r : Rvl) (f g : Fnd) (w : World) (hs : Sat [[(pb, .cells [.pointer (some ⟨rb, 0, none⟩)].toArray 29 (0, 0))], [(qb, .cells (fdC f).toArray 45 (0, 0))], [rvO rb db r]] w) : Calls Tryz.prog 116 [.agg (fdC g).toArray, .pointer (some ⟨pb, 0, none⟩), .pointer (some ⟨qb, 0, none⟩)].toArray w fun e w' => e = .returned (.bool (newF r.e g f)) ∧ Below w.heap.size w w' := by
  refine V.calls [[(pb, .cells [.pointer (some ⟨rb, 0, none⟩)].toArray 29 (0, 0))], [(qb, .cells (fdC f).toArray 45 (0, 0))], [rvO rb db r]] Tryz.func116 rfl Tryz.ntmps116 (Nat.le_of_ble_eq_true rfl) hs <| Sq <| Rg <| Le XA fun b3 _ => Lv Av <| Nl <| Ps <| Sq <| Rg <| Lv (Ld (v := .pointer (some ⟨rb, 0, none⟩))) <| Lv (Lw (l := fdC g)) <| Lv (Lw (l := fdC f)) <| Le (CV fun w hw => newer_g rb db r g f w hw.at) fun _ _ => Lv Av <| Nl <| Ps <| Rt <| Rt1 ?_
  intro w' hw; exact ⟨rfl, hw.ro (by repeat (first | exact .nil | apply Pick.cons | exact .here | apply Ext.there)) hs⟩
theorem any_no {α : Type} {q : α → Bool} {l : List α} {k : Nat} {y : α} (h : ∀ z ∈ l.take k, q z = false) (hy : l[k]? = some y) (hn : q y = false) : ∀ z ∈ l.take (k + 1), q z = false := fun z hz => by
  rw [List.take_add_one, hy] at hz
  rcases List.mem_append.1 hz with h9 | h9
  · exact h z h9
  · obtain rfl : z = y := by simpa using h9
    exact hn
def anyI (q : Fnd → Bool) (l : List Fnd) (i : Int) : Prop := (0 ≤ i) = (l.any q = true)
theorem anyI_yes {q : Fnd → Bool} {l : List Fnd} {k : Nat} {y : Fnd} (hy : l[k]? = some y) (h : q y = true) : anyI q l (k : Nat) := by
  unfold anyI
  simp only [eq_iff_iff]
  exact ⟨fun _ => List.any_eq_true.2 ⟨y, List.mem_of_getElem? hy, h⟩, fun _ => by omega⟩
theorem anyI_no {q : Fnd → Bool} {l : List Fnd} (h : ∀ y ∈ l, q y = false) : anyI q l (-1) := by
  unfold anyI
  have e : l.any q = false := by
    rw [List.any_eq_false]
    intro y hy
    rw [h y hy]; decide
  rw [e]
  simp only [eq_iff_iff]
  exact ⟨fun h => by omega, fun h => by cases h⟩
theorem anyIx_g (pb qb rb db : Nat) (r : Rvl) (f : Fnd) (l : List Fnd) (p : Option Addr) (c : Nat) (hl : l.length ≤ 1000) (w : World) (hp : V.slAt w p 9 fdC l) (hs : Sat [[(pb, .cells [.pointer (some ⟨rb, 0, none⟩)].toArray 29 (0, 0))], [(qb, .cells (fdC f).toArray 45 (0, 0))], [rvO rb db r]] w) : Calls Tryz.prog 145 [.slice p l.length c, .func (.func 116) #[] #[.pointer (some ⟨pb, 0, none⟩), .pointer (some ⟨qb, 0, none⟩)]].toArray w fun e w' => ∃ i : Int, anyI (fun g => newF r.e g f) l i ∧ e = .returned (.int .i64 i) ∧ Below w.heap.size w w' := by
  refine V.calls [] Tryz.func145 rfl Tryz.ntmps145 (Nat.le_of_ble_eq_true rfl) (V.sat_nil _) <| Sq <| Rg <| Lv Av <| Nl <| Ps <| Sq <| Sq <| Rg <| Lv Mv <| Lv Ln <| Lv Mv <| Nl <| Ps <| Bk <| loopA (γ := Nat) (fun k => [(0, .slice p l.length c), (1, .func (.func 116) #[] #[.pointer (some ⟨pb, 0, none⟩), .pointer (some ⟨qb, 0, none⟩)]), (7, .int .i64 (l.length : Nat)), (8, .int .i64 (k : Nat))]) (fun _ => []) (fun k => k ≤ l.length ∧ ∀ z ∈ l.take k, newF r.e z f = false) (fun k => l.length - k) (0) ⟨Nat.zero_le _, by simp⟩ fun k => ?_
  rintro ⟨hk1, hk2⟩
  refine Sq <| Rg <| Lv Cm <| Nl <| Ps <| Sq ?_
  refine CW.cond rfl (fun h9 => ?_) (fun h9 => ?_)
  · replace h9 := bT h9
    have hk9 : k < l.length := by omega
    obtain ⟨bb1, o1, y, rfl, hb1, hx1, hr1⟩ := V.slAt_at hp rfl (k := k) hk9
    refine Sk <| Ps <| Sq <| Bk <| Sq <| Rg <| Lv Mv <| Lv Av <| Nl <| Ps <| Sq <| Rg <| Lv Mv <| Lv Mv <| Lv Mv <| Lv Ix <| Lv (Val.loadOA (cs := fdC y) rfl Tryz.isAgg45 hb1 (by simp [ids]) (hr1 k y hx1) (by exact Tryz.sizeOf45)) <| Le (Eff.callFV (f := 116) (caps := [.pointer (some ⟨pb, 0, none⟩), .pointer (some ⟨qb, 0, none⟩)]) rfl rfl Tryz.call116 (fun w hw => keep1_g pb qb rb db r f y w (sat_old hs hw))) fun _ _ => Nl <| Ps ?_
    refine CW.cond rfl (fun h16 => ?_) (fun h16 => ?_)
    · replace h16 := bT h16
      have h16 : newF r.e y f = true := h16
      refine Sq <| Rg <| Lv Mv <| Lv Av <| Nl <| Ps <| Rt <| Br <| Tr <| Tr <| Br <| Tr <| Rt1 ?_
      intro w' hw; exact ⟨(k : Nat), anyI_yes (q := fun g => newF r.e g f) hx1 h16, rfl, hw.below⟩
    · replace h16 := bF h16
      have h16 : newF r.e y f = false := h16
      refine Sk <| Bn <| Ps <| Rg <| Lv Ar <| Lv Mv <| Nl ?_
      exact roundA (k + 1) ⟨by omega, any_no (q := fun g => newF r.e g f) hk2 hx1 h16⟩ (by omega)
  · replace h9 := bF h9
    have hk9 : l.length ≤ k := by omega
    refine Xt <| Te <| Te <| Bh <| Ps <| Sq <| Rg <| Lv Av <| Nl <| Ps <| Rt <| Rt1 ?_
    intro w' hw; exact ⟨-1, anyI_no (q := fun g => newF r.e g f) (fun z hz => hk2 z (by rw [List.take_of_length_le hk9]; exact hz)), rfl, hw.below⟩
theorem any_g (pb qb rb db : Nat) (r : Rvl) (f : Fnd) (l : List Fnd) (p : Option Addr) (c : Nat) (hl : l.length ≤ 1000) (w : World) (hp : V.slAt w p 9 fdC l) (hs : Sat [[(pb, .cells [.pointer (some ⟨rb, 0, none⟩)].toArray 29 (0, 0))], [(qb, .cells (fdC f).toArray 45 (0, 0))], [rvO rb db r]] w) : Calls Tryz.prog 115 [.slice p l.length c, .func (.func 116) #[] #[.pointer (some ⟨pb, 0, none⟩), .pointer (some ⟨qb, 0, none⟩)]].toArray w fun e w' =>  e = .returned (.bool (l.any fun g => newF r.e g f)) ∧ Below w.heap.size w w' := by
  refine V.calls [] Tryz.func115 rfl Tryz.ntmps115 (Nat.le_of_ble_eq_true rfl) (V.sat_nil _) <| Sq <| Rg <| Lv Av <| Nl <| Ps <| Sq <| Rg <| Lv Mv <| Lv Mv <| Le (CR fun w hw => anyIx_g pb qb rb db r f l p c hl w (hw.slAt hp (by simp [ids])) (sat_old hs hw)) fun i hi => Lv Cm <| Lv Av <| Nl <| Ps <| Rt <| Rt1 ?_
  intro w' hw; exact ⟨by congr 2; rw [Bool.eq_iff_iff, decide_eq_true_eq]; exact iff_of_eq hi, hw.below⟩
theorem keeps_g (rb db : Nat) (r : Rvl) (hr : RvOk r) (f : Fnd) (w : World) (hs : Sat (rvS rb db r) w) : Calls Tryz.prog 96 [.pointer (some ⟨rb, 0, none⟩), .agg (fdC f).toArray].toArray w fun e w' => e = .returned (.bool (keepF r.e r.fd f)) ∧ Below w.heap.size w w' := by
  obtain ⟨ps, cs, hvs, hss⟩ := own_slF r.fd r.fo hr.fd
  refine V.calls (rvS rb db r) Tryz.func96 rfl Tryz.ntmps96 (Nat.le_of_ble_eq_true rfl) hs <| Sq <| Rg <| Le XS fun b2 _ => Le XA fun b3 _ => Lv Av <| Nl <| Ps <| Sq <| Rg <| Lv (Ld (v := .pointer (some ⟨rb, 0, none⟩))) <| Lv (Lw (l := fdC f)) <| Le (CV fun w hw => pay_g rb db r f w hw.at) fun _ _ => Lv Mv ?_
  refine LW.split (d := 8) rfl (fun h8 => ?_) (fun h8 => ?_)
  · replace h8 := bT h8
    refine Lv (Ld (v := .pointer (some ⟨rb, 0, none⟩))) <| Lv Nz <| Lv (Fa 5 33) <| Lv (Ld (v := ownV r.fd.length r.fo)) <| LW.re 12 (.slice ps r.fd.length cs) rfl hvs <| Lv Mf <| Le (CV fun w hw => any_g b2 b3 rb db r f r.fd ps cs (by have := hr.fl; omega) w (hss hw (by repeat (first | exact .nil | apply Pick.cons | exact .here | apply Ext.there))) (hw.sat.pick (ss := [[(b2, .cells [.pointer (some ⟨rb, 0, none⟩)].toArray 29 (0, 0))], [(b3, .cells (fdC f).toArray 45 (0, 0))], [rvO rb db r]]) (by repeat (first | exact .nil | apply Pick.cons | exact .here | apply Ext.there)))) fun _ _ => Lv Nt <| Lv Pt <| Lv Av <| Nl <| Ps <| Rt <| Rt1 ?_
    intro w' hw; exact ⟨by unfold keepF; simp_all, hw.ro (by repeat (first | exact .nil | apply Pick.cons | exact .here | apply Ext.there)) hs⟩
  · replace h8 := bF h8
    refine Lp <| Lp <| Lp <| Lp <| Lp <| Lp <| Lp <| Lv Pf <| Lv Av <| Nl <| Ps <| Rt <| Rt1 ?_
    intro w' hw; exact ⟨by unfold keepF; simp_all, hw.ro (by repeat (first | exact .nil | apply Pick.cons | exact .here | apply Ext.there)) hs⟩
end G
end Go.Proofs.YtcnjjefbnlgdjaaGreat

/- A revival: a block looked at; a line gone through; opened. -/
namespace Go.Proofs.YtcnjjefbnlgdjaaGreat
open Go Go.RowKit V
set_option linter.unusedVariables false
set_option maxRecDepth 100000
namespace G
open V (str byC ownV ownG ownS ownOk)
theorem places45 : ∀ w, ((Array.mapM (fun (f : Field) => do pure (f.offset, ← sizeOf f.type)) (Tryz.prog.fieldsOf 45) : Sem (Array (Nat × Nat)))).run Tryz.prog w = .ok [(0, 1), (1, 1), (2, 7)].toArray w := by
  intro w; kernel_rfl
instance : Plc Tryz.prog 45 (fOf Tryz.underlying45) (lOf (P := Tryz.prog) places45) := ⟨places45, Tryz.underlying45⟩
instance : Cal Tryz.prog 79 := ⟨Tryz.call79⟩
theorem own_src {l : List UInt8} {y : V.OwnO} (hy : ownOk 1 l.length (byC l) y) : ∃ (p : Option Addr) (c : Nat), ownV l.length y = .slice p l.length c ∧ l.length ≤ c ∧ (0 < l.length → ∃ b, p = some ⟨b, 0, none⟩ ∧ ∀ {B : V.Base} {sg r : V.Sg} {w : World}, Hp B sg w → Pick [ownG 5 (byC l) y] sg r → w.rangeAt b 0 (byC l)) ∧ ∀ {B : V.Base} {sg r : V.Sg} {w : World}, Hp B sg w → Pick [ownG 5 (byC l) y] sg r → V.slAt w p 1 byE l := by
  have hy2 : ownOk 1 l.length (l.flatMap byE) y := by rw [← byC_flat]; exact hy
  obtain ⟨p, c, h1, h3, h2⟩ := own_slg (e := 5) byE_len l y hy2
  refine ⟨p, c, h1, h3 (by omega), fun h0 => ?_, fun hw hp => h2 hw (by rw [← byC_flat]; exact hp)⟩
  rcases y with _ | ⟨g, r, cap⟩
  · have := hy.2; omega
  · refine ⟨g, ?_, fun hw hp => ?_⟩
    · have h8 : ownV l.length (some (g, r, cap)) = .slice (some ⟨g, 0, none⟩) l.length cap := rfl
      rw [h8] at h1
      injection h1 with h9
      exact h9.symm
    · exact V.range_of_block (o := 0) (r := r) ((hw.pick hp).own _ (show InS (g, .cells (byC l ++ r).toArray 5 (0, 0)) [[(g, .cells (byC l ++ r).toArray 5 (0, 0))]] from .here).mem) (by simp)
/-- So many lines. -/
def linesL (D : List Ce) (line : Int) (n : Nat) : List UInt8 := (List.range n).flatMap fun i : Nat => nowL D (line + (i : Nat))
theorem nowL_le (D : List Ce) (line : Int) : (nowL D line).length ≤ 64 := by
  unfold nowL
  split
  · cases h : D[line.toNat]? with
    | none => simp
    | some c => simp [c.now.2]
  · simp
theorem linesL_succ (D : List Ce) (line : Int) (n : Nat) : linesL D line (n + 1) = linesL D line n ++ nowL D (line + (n : Nat)) := by
  unfold linesL; rw [List.range_succ, List.flatMap_append, List.flatMap_singleton]
theorem linesL_le (D : List Ce) (line : Int) : ∀ n, (linesL D line n).length ≤ 64 * n
  | 0 => by simp [linesL]
  | n + 1 => by
    rw [linesL_succ, List.length_append]
    have := linesL_le D line n
    have := nowL_le D (line + (n : Nat))
    omega
/-- The block at a line whose head tells so. -/
def lookF (D : List Ce) (line c kd : Int) : Fnd := if homeF line c = true then match decF (linesL D line (spanF c)) with
    | some b => ⟨line, true, b⟩
    | none => ⟨line, false, ⟨c, kd, 0, 0, 0, [], []⟩⟩
  else ⟨line, false, ⟨c, kd, 0, 0, 0, [], []⟩⟩
theorem dec_ok {l : List UInt8} {b : Blk} (hl : l.length ≤ 1000) (h : decF l = some b) : b.key.length ≤ 100000 ∧ b.val.length ≤ 100000 := by
  unfold decF at h
  split at h
  · cases h
  · split at h
    · rename_i hh
      have := may_cap hh.2.2.1
      have h2 := capN_span (may_span hh.2.2.1)
      simp only [Option.some.injEq] at h
      subst h
      omega
    · cases h
theorem look_ok (D : List Ce) (line c kd : Int) : fdOk (lookF D line c kd) := by
  have h8 := linesL_le D line (spanF c)
  have h9 := span_le c
  unfold lookF
  split
  · split
    · rename_i b hb
      exact dec_ok (by omega) hb
    · exact ⟨by simp, by simp⟩
  · exact ⟨by simp, by simp⟩
theorem look_g (rb : Nat) (x : DvR) (D : List Ce) (k : Cnt) (r : Rvl) (line c kd : Int) (hl : -1000000 ≤ line ∧ line ≤ 1000000) (w : World) (hs : Sat ([rvO rb x.db r] :: dvS x D k) w) : Calls Tryz.prog 94 [.pointer (some ⟨rb, 0, none⟩), .int .i64 line, .int .i64 c, .int .i64 kd].toArray w fun e w' => e = .returned (.agg (fdC (lookF D line c kd)).toArray) ∧ Below w.heap.size w w' := by
  have hsp8 := span_le c
  refine V.calls ([rvO rb x.db r] :: dvS x D k) Tryz.func94 rfl Tryz.ntmps94 (Nat.le_of_ble_eq_true rfl) hs <| Sq <| Rg <| Le AA fun b8 _ => Nl <| Ps <| Sq <| Rg <| Lv Mv <| Lv Mv <| Lv Mv <| Lv (Bd (blC ⟨c, kd, 0, 0, 0, [], []⟩)) <| Lv (Bd (fdC ⟨line, false, ⟨c, kd, 0, 0, 0, [], []⟩⟩)) <| Le AA fun b9 _ => LeN StW fun _ _ => Nl <| Ps <| Sq <| Sq <| Rg <| Lv Mv <| Lv Mv <| Le (CV fun w hw => home_c line c w) fun _ _ => Lv Nt <| Nl <| Ps ?_
  refine CW.cond rfl (fun h24 => ?_) (fun h24 => ?_)
  · replace h24 := bT h24
    have h24 : homeF line c = false := by simpa using h24
    refine Sq <| Rg <| Lv (Lw (l := fdC ⟨line, false, ⟨c, kd, 0, 0, 0, [], []⟩⟩)) <| LeN StW fun _ _ => Nl <| Ps <| Rt <| Tr <| PQ.retC rfl rfl (by repeat (first | exact .here | exact .inner .here | exact .inner (.inner .here) | refine .there ?_)) Tryz.isAgg45 (by exact Tryz.sizeOf45) ?_
    have e8 : lookF D line c kd = ⟨line, false, ⟨c, kd, 0, 0, 0, [], []⟩⟩ := by unfold lookF; rw [if_neg (by simp [h24])]
    rw [e8]
    intro w' hw; exact ⟨rfl, hw.ro (by repeat (first | exact .nil | apply Pick.cons | exact .here | apply Ext.there)) hs⟩
  · replace h24 := bF h24
    have h24 : homeF line c = true := by simpa using h24
    refine Sk <| Ps <| Sq <| Rg <| Lv Av <| Nl <| Ps <| Sq <| Sq <| Rg <| Lv Mv <| Le (CV fun w hw => span_c c w) fun _ _ => Lv Mv <| Nl <| Ps <| Bk ?_
    refine V.CW.perm (sg' := ownG 5 (byC (linesL D line 0)) none :: [(b9, .cells (fdC (⟨line, false, ⟨c, kd, 0, 0, 0, [], []⟩⟩ : Fnd)).toArray 45 (0, 0))] :: [(b8, .cells (fdC fd0).toArray 45 (0, 0))] :: ([rvO rb x.db r] :: dvS x D k)) ?_ (.refl _)
    refine loopA (γ := Nat × V.OwnO) (fun j => [(0, .pointer (some ⟨rb, 0, none⟩)), (1, .int .i64 line), (8, .pointer (some ⟨b8, 0, none⟩)), (9, .pointer (some ⟨b9, 0, none⟩)), (10, ownV (linesL D line j.1).length j.2), (27, .int .i64 (spanF c : Nat)), (28, .int .i64 (j.1 : Nat))]) (fun j => ownG 5 (byC (linesL D line j.1)) j.2 :: [(b9, .cells (fdC (⟨line, false, ⟨c, kd, 0, 0, 0, [], []⟩⟩ : Fnd)).toArray 45 (0, 0))] :: [(b8, .cells (fdC fd0).toArray 45 (0, 0))] :: ([rvO rb x.db r] :: dvS x D k)) (fun j => j.1 ≤ spanF c ∧ ownOk 1 (linesL D line j.1).length (byC (linesL D line j.1)) j.2) (fun j => spanF c - j.1) ((0, none)) ⟨Nat.zero_le _, rfl, rfl⟩ fun j => ?_
    rintro ⟨hj1, hj2⟩
    have hjl := linesL_le D line j.1
    refine Sq <| Rg <| Lv Cm <| Nl <| Ps <| Sq ?_
    refine CW.cond rfl (fun h29 => ?_) (fun h29 => ?_)
    · replace h29 := bT h29
      refine Sk <| Ps <| Sq <| Bk <| Sq <| Rg <| Lv Mv <| Lv Av <| Nl <| Ps <| Sq <| Rg <| Lv Mv <| Lv Nz <| Lv (Fa 0 26) <| Lv (Ld (v := .pointer (some ⟨x.db, 0, none⟩))) <| Lv Mv <| Lv Mv <| Lv Ar <| Le (CM [] fun w hw hs0 => load_g x D k (line + (j.1 : Nat)) w (hw.sat.pick (ss := dvS x D k) (by repeat (first | exact .nil | apply Pick.cons | exact .here | apply Ext.there)))) fun o2 ho2 => ?_
      obtain ⟨p2, c2, hv2, hc2, hsrc, hsl2⟩ := own_src ho2
      have hn64 := nowL_le D (line + (j.1 : Nat))
      refine Lv Mv <| Lv Ex <| LW.re 40 (.slice p2 (nowL D (line + (j.1 : Nat))).length c2) rfl hv2 <| Lv Ex <| Lv Av <| Lv Av <| Nl <| Ps <| Rg <| Lv Mv <| Lv Mv <| Le (Eff.appendAny (byC ((nowL D (line + (j.1 : Nat))))) (sz := 1) (bytes := 1) (z := .int .u8 0) (xs := byC ((linesL D line j.1))) (m0 := (linesL D line j.1).length) (o := j.2) (m := (nowL D (line + (j.1 : Nat))).length) (pk := [ownG 5 (byC ((linesL D line j.1))) (j.2)]) rfl rfl Tryz.underlying35 (by kernel_rfl) rfl (by omega) (by repeat (first | exact .nil | apply Pick.cons | exact .here | apply Ext.there)) (by simp) hj2 (by rw [V.byC_len]; omega) (fun hm0 => by obtain ⟨bq, hbq, hrq⟩ := hsrc hm0; exact ⟨bq, 0, hbq, fun w hw => hrq hw (by repeat (first | exact .nil | apply Pick.cons | exact .here | apply Ext.there))⟩) (V.byC_one _) (by omega) (by omega)) fun o3 ho3 => ?_
      rw [← V.byC_append, ← linesL_succ] at *
      refine Lv Av <| Nl <| Bn <| Ps <| Rg <| Lv Ar <| Lv Mv <| Nl ?_
      refine PQ.round ((j.1 + 1, o3)) ⟨by simp only; omega, by simp only; rw [show (linesL D line (j.1 + 1)).length = (linesL D line j.1).length + (nowL D (line + (j.1 : Nat))).length by rw [linesL_succ, List.length_append]]; exact ho3⟩ (by simp only; omega) (by exact ⟨rfl, rfl, rfl, rfl, congrArg (fun z => some (ownV z o3)) (by simp only; rw [linesL_succ, List.length_append]), rfl, rfl, trivial⟩) (by repeat (first | exact .nil | apply Pick.cons | exact .here | apply Ext.there))
    · replace h29 := bF h29
      have hj9 : j.1 = spanF c := by omega
      obtain ⟨j1, o⟩ := j
      simp only at hj9 hj2
      subst hj9
      have hll := linesL_le D line (spanF c)
      obtain ⟨pd, cd, hvd, hcd, _, hsd⟩ := own_src hj2
      refine Xt <| Te <| Te <| Bh <| Ps <| Sq <| Rg <| Lv Mv <| LW.re 47 (.slice pd (linesL D line (spanF c)).length cd) rfl hvd <| Le (CV fun w hw => decode_c (linesL D line (spanF c)) pd cd (by omega) hcd w (hsd hw (by repeat (first | exact .nil | apply Pick.cons | exact .here | apply Ext.there)))) fun _ _ => ?_
      rcases hdl : decF (linesL D line (spanF c)) with _ | bl
      · skip
        refine Lv Mv <| Lv Ex <| Lv Ex <| Le AA fun b14 _ => LeN StW fun _ _ => Lv Av <| Nl <| Ps <| Sq <| Sq <| Rg <| Lv Mv <| Lv Nt <| Nl <| Ps <| Ct <| Sq <| Rg <| Lv (Lw (l := fdC ⟨line, false, ⟨c, kd, 0, 0, 0, [], []⟩⟩)) <| LeN StW fun _ _ => Nl <| Ps <| Rt <| Tr <| PQ.retC rfl rfl (by repeat (first | exact .here | exact .inner .here | exact .inner (.inner .here) | refine .there ?_)) Tryz.isAgg45 (by exact Tryz.sizeOf45) ?_
        have e8 : lookF D line c kd = ⟨line, false, ⟨c, kd, 0, 0, 0, [], []⟩⟩ := by unfold lookF; rw [if_pos h24, hdl]
        rw [e8]
        intro w' hw; exact ⟨rfl, hw.ro (by repeat (first | exact .nil | apply Pick.cons | exact .here | apply Ext.there)) hs⟩
      · skip
        refine Lv Mv <| Lv Ex <| Lv Ex <| Le AA fun b14 _ => LeN StW fun _ _ => Lv Av <| Nl <| Ps <| Sq <| Sq <| Rg <| Lv Mv <| Lv Nt <| Nl <| Ps <| Cf <| Sk <| Ps <| Sq <| Rg <| Lv Mv <| Lv (Lw (l := blC bl)) <| Lv (Bd (fdC ⟨line, true, bl⟩)) <| LeN StW fun _ _ => Nl <| Ps <| Rt <| PQ.retC rfl rfl (by repeat (first | exact .here | exact .inner .here | exact .inner (.inner .here) | refine .there ?_)) Tryz.isAgg45 (by exact Tryz.sizeOf45) ?_
        have e8 : lookF D line c kd = ⟨line, true, bl⟩ := by unfold lookF; rw [if_pos h24, hdl]
        rw [e8]
        intro w' hw; exact ⟨rfl, hw.ro (by repeat (first | exact .nil | apply Pick.cons | exact .here | apply Ext.there)) hs⟩
end G
end Go.Proofs.YtcnjjefbnlgdjaaGreat

/- A revival: opened; a line gone through. -/
namespace Go.Proofs.YtcnjjefbnlgdjaaGreat
open Go Go.RowKit V
set_option linter.unusedVariables false
set_option maxRecDepth 100000
namespace G
open V (str byC ownV ownG ownS ownOk)
instance : Cal Tryz.prog 92 := ⟨Tryz.call92⟩
instance : Cal Tryz.prog 93 := ⟨Tryz.call93⟩
instance : Cal Tryz.prog 94 := ⟨Tryz.call94⟩
/-- A revival, opened. -/
def opR (D : List Ce) (r : Rvl) : Rvl := if (openF D).2 = 0 then { r with e := (openF D).1, ph := 1, nx := 0 } else r
theorem ropen_g (rb : Nat) (x : DvR) (v : Dev) (r : Rvl) (hL : 0 < v.D.length ∧ v.D.length ≤ 1000) (w : World) (hs : Sat ([rvO rb x.db r] :: vS x v) w) : Calls Tryz.prog 68 [.pointer (some ⟨rb, 0, none⟩)].toArray w fun e w' => ∃ _u : Unit, True ∧ e = .returned (.int .i64 (openF v.D).2) ∧ Hp ⟨w, V.ids (([rvO rb x.db r] :: vS x v))⟩ (([rvO rb x.db (opR v.D r)] :: vS x v)) w' := by
  refine V.calls ([rvO rb x.db r] :: vS x v) Tryz.func68 rfl Tryz.ntmps68 (Nat.le_of_ble_eq_true rfl) hs <| Sq <| Rg <| Lv Av <| Nl <| Ps <| Sq <| Rg <| Lv Mv <| Lv Nz <| Lv (Fa 0 26) <| Lv (Ld (v := .pointer (some ⟨x.db, 0, none⟩))) <| Le (CV fun w hw => open_g x v hL w (hw.sat.pick (ss := vS x v) (by repeat (first | exact .nil | apply Pick.cons | exact .here | apply Ext.there)))) fun _ _ => Lv Mv <| Lv Ex <| Lv Ex <| Lv Av <| Lv Av <| Nl <| Ps <| Sq <| Sq <| Rg <| Lv Mv <| Lv Cm <| Nl <| Ps ?_
  refine CW.cond rfl (fun h14 => ?_) (fun h14 => ?_)
  · replace h14 := bT h14
    refine Sq <| Rg <| Lv Mv <| Lv Av <| Nl <| Ps <| Rt <| Tr <| Rt1 ?_
    have e8 : opR v.D r = r := by unfold opR; rw [if_neg h14]
    rw [e8]
    intro w' hw; exact ⟨(), trivial, rfl, hw.pick (by repeat (first | exact .nil | apply Pick.cons | exact .here | apply Ext.there))⟩
  · replace h14 := bF h14
    refine Sk <| Ps <| Sq <| Rg <| Lv Mv <| Lv Mv <| Lv Nz <| Lv (Fa 3 22) <| LeN StS fun _ _ => Nl <| Ps <| Sq <| Rg <| Lv Mv <| Le (CM ([[rvO rb x.db { r with e := (openF v.D).1 }]]) fun w hw hs0 => to_g rb x.db { r with e := (openF v.D).1 } 1 w hs0) fun _ _ => Lv Av <| Nl <| Ps <| Rt <| Rt1 ?_
    have h15 : (openF v.D).2 = 0 := by simpa using h14
    have e8 : opR v.D r = { r with e := (openF v.D).1, ph := 1, nx := 0 } := by unfold opR; rw [if_pos h15]
    rw [e8, h15]
    intro w' hw; exact ⟨(), trivial, rfl, hw.pick (by repeat (first | exact .nil | apply Pick.cons | exact .here | apply Ext.there))⟩
/-- What is found at the line that is next; the revival behind it. -/
def scN (D : List Ce) (nx : Int) : Option Fnd := match headF (nowL D (2 + nx)) with
  | none => none
  | some (c, kd) => if kd = 0 then none else some (lookF D (2 + nx) (c : Nat) (kd : Nat))
def scR (D : List Ce) (r : Rvl) (o : V.OwnO) : Rvl :=
  let f := match scN D r.nx with
    | none => r.fd
    | some y => r.fd ++ [y]
  if slabsF D.length * 8 ≤ r.nx + 1 then { r with fd := f, fo := o, ph := 2, nx := 0 } else { r with fd := f, fo := o, nx := r.nx + 1 }
theorem slabs_lt (n : Nat) : 0 ≤ slabsF n ∧ slabsF n ≤ 32 := by
  by_cases h : 10 ≤ n
  · have := slabs_rng h; omega
  · unfold slabsF; rw [if_pos (by omega)]; omega
theorem rscan_g (rb : Nat) (x : DvR) (v : Dev) (r : Rvl) (hL : 0 < v.D.length ∧ v.D.length ≤ 1000) (hr : RvOk r) (hn : r.nx ≤ 256 ∧ r.fd.length ≤ 700) (w : World) (hs : Sat ([rvO rb x.db r] :: [ownG 45 (r.fd.flatMap fdC) r.fo] ++ vS x v) w) : Calls Tryz.prog 69 [.pointer (some ⟨rb, 0, none⟩)].toArray w fun e w' => ∃ o : V.OwnO, ownOk 9 (scR v.D r o).fd.length ((scR v.D r o).fd.flatMap fdC) o ∧ e = .returned (.int .i64 0) ∧ Hp ⟨w, V.ids ([rvO rb x.db r] :: [ownG 45 (r.fd.flatMap fdC) r.fo] ++ vS x v)⟩ ([rvO rb x.db (scR v.D r o)] :: [ownG 45 ((scR v.D r o).fd.flatMap fdC) o] ++ vS x v) w' := by
  have hnx := hr.nx
  have hsl := slabs_lt v.D.length
  refine V.calls ([rvO rb x.db r] :: [ownG 45 (r.fd.flatMap fdC) r.fo] ++ vS x v) Tryz.func69 rfl Tryz.ntmps69 (Nat.le_of_ble_eq_true rfl) hs <| Sq <| Rg <| Lv Av <| Nl <| Ps <| Sq <| Rg <| Lv Mv <| Lv Nz <| Lv (Fa 4 3) <| Lv (Ld (v := .int .i64 r.nx)) <| Lv Ar <| Lv Av <| Nl <| Ps <| Sq <| Rg <| Lv Mv <| Lv Nz <| Lv (Fa 0 26) <| Lv (Ld (v := .pointer (some ⟨x.db, 0, none⟩))) <| Lv Mv <| Le (CM [] fun w hw hs0 => load_g x v.D v.k (2 + r.nx) w (hw.sat.pick (ss := vS x v) (by repeat (first | exact .nil | apply Pick.cons | exact .here | apply Ext.there)))) fun o1 ho1 => ?_
  obtain ⟨p1, c1, hv1, hc1, _, hs1⟩ := own_src ho1
  have hn64 := nowL_le v.D (2 + r.nx)
  refine Lv Mv <| Lv Ex <| Lv Ex <| Lv Av <| Lv Av <| Nl <| Ps <| Sq <| Sq <| Rg <| Lv Mv <| LW.re 24 (.slice p1 (nowL v.D (2 + r.nx)).length c1) rfl hv1 <| Le (CV fun w hw => Head_c (nowL v.D (2 + r.nx)) p1 c1 (by omega) w (hs1 hw (by repeat (first | exact .nil | apply Pick.cons | exact .here | apply Ext.there)))) fun _ _ => ?_
  rcases hh : headF (nowL v.D (2 + r.nx)) with _ | ⟨c, kd⟩
  · have hsc : scN v.D r.nx = none := by unfold scN; rw [hh]
    refine Lv Mv <| Lv Ex <| Lv Ex <| Lv Ex <| Lv Av <| Lv Av <| Lv Av <| Nl <| Ps <| Sq <| Rg <| Lv Mv <| Lv Mv <| Lp <| Lp <| Lv Pf <| Nl <| Ps <| Cf <| Sk <| Ps <| Sq <| Rg <| Lv Mv <| Lv Nz <| Lv (Fa 4 3) <| Lv (Ld (v := .int .i64 r.nx)) <| Lv Ar <| Lv Nz <| Lv (Fa 4 3) <| LeN StS fun _ _ => Nl <| Ps <| Sq <| Sq <| Qt <| Qv Mv <| Qv Nz <| Qv (Fa 4 3) <| Qv (Ld (v := .int .i64 (r.nx + 1))) <| Qv Mv <| Qv Nz <| Qv (Fa 0 26) <| Qv (Ld (v := .pointer (some ⟨x.db, 0, none⟩))) <| Qc (QV fun w hw => lines_g x.db v.D.length x.cap _ (ctC v.k) w hw.at) <| Qc (QV fun w hw => slabs_g (v.D.length : Nat) w) <| Qv Ar <| Qv Cm <| Ql <| Ps ?_
    refine CW.cond rfl (fun h66 => ?_) (fun h66 => ?_)
    · replace h66 := bT h66
      refine Sq <| Rg <| Lv Mv <| Le (CM ([[rvO rb x.db { r with nx := r.nx + 1 }]]) fun w hw hs0 => to_g rb x.db { r with nx := r.nx + 1 } 2 w hs0) fun _ _ => Lv Av <| Nl <| Ps <| Rt <| Tr <| Rt1 ?_
      have e8 : scR v.D r r.fo = { r with fd := r.fd, fo := r.fo, ph := 2, nx := 0 } := by
        unfold scR
        simp only [hsc]
        rw [if_pos (by omega)]
      intro w' hw
      refine ⟨r.fo, by rw [e8]; exact hr.fd, rfl, ?_⟩
      rw [e8]
      exact hw.pick (by repeat (first | exact .nil | apply Pick.cons | exact .here | apply Ext.there))
    · replace h66 := bF h66
      refine Sk <| Ps <| Sq <| Rg <| Lv Av <| Nl <| Ps <| Rt <| Rt1 ?_
      have e8 : scR v.D r r.fo = { r with fd := r.fd, fo := r.fo, nx := r.nx + 1 } := by
        unfold scR
        simp only [hsc]
        rw [if_neg (by omega)]
      intro w' hw
      refine ⟨r.fo, by rw [e8]; exact hr.fd, rfl, ?_⟩
      rw [e8]
      exact hw.pick (by repeat (first | exact .nil | apply Pick.cons | exact .here | apply Ext.there))
  · skip
    refine Lv Mv <| Lv Ex <| Lv Ex <| Lv Ex <| Lv Av <| Lv Av <| Lv Av <| Nl <| Ps <| Sq <| Rg <| Lv Mv <| Lv Mv <| Lv Mv <| Lv Cm <| Lv Pt <| Nl <| Ps ?_
    refine CW.cond rfl (fun h33 => ?_) (fun h33 => ?_)
    · replace h33 := bT h33
      have hsc : scN v.D r.nx = some (lookF v.D (2 + r.nx) (c : Nat) (kd : Nat)) := by unfold scN; rw [hh]; exact if_neg (by omega)
      refine Dr ([]) <| Rv 0 rfl Mv <| Rv 1 rfl Mv <| Rv 2 rfl Nz <| Rv 3 rfl (Fa 5 33) <| Rv 5 rfl Mv <| Rv 6 rfl Mv <| Rv 7 rfl Mv <| Rv 8 rfl Mv <| RW.any [4, 9] (by kernel_rfl) (by simp) fun i hi => ?_
      simp only [List.mem_cons, List.not_mem_nil, or_false] at hi
      rcases hi with rfl | rfl
      · refine Ro rfl (Eff.ofVal (Ld (v := ownV r.fd.length r.fo))) fun _ _ => Re 9 rfl (CV fun w hw => look_g rb x v.D v.k r (2 + r.nx) (c : Nat) (kd : Nat) (by omega) w (hw.sat.pick (ss := ([rvO rb x.db r] :: vS x v)) (by repeat (first | exact .nil | apply Pick.cons | exact .here | apply Ext.there)))) fun _ _ => Re 10 rfl (Eff.buildSlice (rfl) [_, _, _, _, _, _, _, _, _] Tryz.underlying33 Tryz.sizeOf45 (by exact Tryz.zeroValue45) rfl rfl rfl rfl (by rfl)) fun b44 _ => Re 11 rfl (Eff.appendAny (fdC (lookF v.D (2 + r.nx) (c : Nat) (kd : Nat))) (sz := 9) (bytes := 88) (z := .agg #[.int .i64 0, .bool false, .int .i64 0, .int .i64 0, .int .u64 0, .int .u64 0, .int .u64 0, .string ⟨#[]⟩, .string ⟨#[]⟩]) (xs := r.fd.flatMap fdC) (m0 := r.fd.length) (o := r.fo) (m := 1) (pk := [ownG 45 (r.fd.flatMap fdC) (r.fo)]) rfl rfl Tryz.underlying33 (by kernel_rfl) rfl (by omega) (by repeat (first | exact .nil | apply Pick.cons | exact .here | apply Ext.there)) (by simp) hr.fd (by rfl) (fun hm0 => ⟨b44, 0, rfl, fun w hw => V.range_of_block (o := 0) (cs := fdC (lookF v.D (2 + r.nx) (c : Nat) (kd : Nat))) (r := []) (hw.own _ (show InS (b44, .cells (fdC (lookF v.D (2 + r.nx) (c : Nat) (kd : Nat))).toArray 45 (0, 0)) _ from (by repeat (first | exact .here | exact .inner .here | exact .inner (.inner .here) | refine .there ?_))).mem) rfl⟩) (by rfl) (by omega) (by omega)) fun o2 ho2 => Rv 12 rfl Nz <| Rv 13 rfl (Fa 5 33) <| ReN 14 rfl (Eff.store (l' := rvC x.db { r with fd := r.fd ++ [(lookF v.D (2 + r.nx) (c : Nat) (kd : Nat))], fo := o2 }) rfl rfl (V.ownV_one _ _) (by repeat (first | exact .here | exact .inner .here | exact .inner (.inner .here) | apply Upd.there)) (by simp [rvC, V.splice]) (by rfl) Tryz.sizeOf33) fun _ _ => Rd <| Ps <| Sq <| Rg <| Lv Mv <| Lv Nz <| Lv (Fa 4 3) <| Lv (Ld (v := .int .i64 r.nx)) <| Lv Ar <| Lv Nz <| Lv (Fa 4 3) <| LeN StS ?_
        intro _ _
        refine Nl <| Ps <| Sq <| Sq <| Qt <| Qv Mv <| Qv Nz <| Qv (Fa 4 3) <| Qv (Ld (v := .int .i64 (r.nx + 1))) <| Qv Mv <| Qv Nz <| Qv (Fa 0 26) <| Qv (Ld (v := .pointer (some ⟨x.db, 0, none⟩))) <| Qc (QV fun w hw => lines_g x.db v.D.length x.cap _ (ctC v.k) w hw.at) <| Qc (QV fun w hw => slabs_g (v.D.length : Nat) w) <| Qv Ar <| Qv Cm <| Ql <| Ps ?_
        refine CW.cond rfl (fun h66 => ?_) (fun h66 => ?_)
        · replace h66 := bT h66
          refine Sq <| Rg <| Lv Mv <| Le (CM ([[rvO rb x.db { r with fd := r.fd ++ [(lookF v.D (2 + r.nx) (c : Nat) (kd : Nat))], fo := o2, nx := r.nx + 1 }]]) fun w hw hs0 => to_g rb x.db { r with fd := r.fd ++ [(lookF v.D (2 + r.nx) (c : Nat) (kd : Nat))], fo := o2, nx := r.nx + 1 } 2 w hs0) fun _ _ => Lv Av <| Nl <| Ps <| Rt <| Tr <| Rt1 ?_
          have e8 : scR v.D r o2 = { r with fd := r.fd ++ [(lookF v.D (2 + r.nx) (c : Nat) (kd : Nat))], fo := o2, ph := 2, nx := 0 } := by
            unfold scR
            simp only [hsc]
            rw [if_pos (by omega)]
          rw [show r.fd.flatMap fdC ++ fdC (lookF v.D (2 + r.nx) (c : Nat) (kd : Nat)) = (r.fd ++ [(lookF v.D (2 + r.nx) (c : Nat) (kd : Nat))]).flatMap fdC by rw [List.flatMap_append]; rfl]
          intro w' hw
          refine ⟨o2, by rw [e8]; simp only [List.length_append, List.length_singleton, List.flatMap_append, List.flatMap_singleton]; exact ho2, rfl, ?_⟩
          rw [e8]
          simp only [rvC, List.length_append, List.length_singleton]
          exact hw.pick (by repeat (first | exact .nil | apply Pick.cons | exact .here | apply Ext.there))
        · replace h66 := bF h66
          refine Sk <| Ps <| Sq <| Rg <| Lv Av <| Nl <| Ps <| Rt <| Rt1 ?_
          have e8 : scR v.D r o2 = { r with fd := r.fd ++ [(lookF v.D (2 + r.nx) (c : Nat) (kd : Nat))], fo := o2, nx := r.nx + 1 } := by
            unfold scR
            simp only [hsc]
            rw [if_neg (by omega)]
          rw [show r.fd.flatMap fdC ++ fdC (lookF v.D (2 + r.nx) (c : Nat) (kd : Nat)) = (r.fd ++ [(lookF v.D (2 + r.nx) (c : Nat) (kd : Nat))]).flatMap fdC by rw [List.flatMap_append]; rfl]
          intro w' hw
          refine ⟨o2, by rw [e8]; simp only [List.length_append, List.length_singleton, List.flatMap_append, List.flatMap_singleton]; exact ho2, rfl, ?_⟩
          rw [e8]
          simp only [rvC, List.length_append, List.length_singleton]
          exact hw.pick (by repeat (first | exact .nil | apply Pick.cons | exact .here | apply Ext.there))
      · refine Ro rfl (CV fun w hw => look_g rb x v.D v.k r (2 + r.nx) (c : Nat) (kd : Nat) (by omega) w (hw.sat.pick (ss := ([rvO rb x.db r] :: vS x v)) (by repeat (first | exact .nil | apply Pick.cons | exact .here | apply Ext.there)))) fun _ _ => RW.any [4, 10] (by kernel_rfl) (by simp) fun i hi => ?_
        simp only [List.mem_cons, List.not_mem_nil, or_false] at hi
        rcases hi with rfl | rfl
        · refine Ro rfl (Eff.ofVal (Ld (v := ownV r.fd.length r.fo))) fun _ _ => Re 10 rfl (Eff.buildSlice (rfl) [_, _, _, _, _, _, _, _, _] Tryz.underlying33 Tryz.sizeOf45 (by exact Tryz.zeroValue45) rfl rfl rfl rfl (by rfl)) fun b44 _ => Re 11 rfl (Eff.appendAny (fdC (lookF v.D (2 + r.nx) (c : Nat) (kd : Nat))) (sz := 9) (bytes := 88) (z := .agg #[.int .i64 0, .bool false, .int .i64 0, .int .i64 0, .int .u64 0, .int .u64 0, .int .u64 0, .string ⟨#[]⟩, .string ⟨#[]⟩]) (xs := r.fd.flatMap fdC) (m0 := r.fd.length) (o := r.fo) (m := 1) (pk := [ownG 45 (r.fd.flatMap fdC) (r.fo)]) rfl rfl Tryz.underlying33 (by kernel_rfl) rfl (by omega) (by repeat (first | exact .nil | apply Pick.cons | exact .here | apply Ext.there)) (by simp) hr.fd (by rfl) (fun hm0 => ⟨b44, 0, rfl, fun w hw => V.range_of_block (o := 0) (cs := fdC (lookF v.D (2 + r.nx) (c : Nat) (kd : Nat))) (r := []) (hw.own _ (show InS (b44, .cells (fdC (lookF v.D (2 + r.nx) (c : Nat) (kd : Nat))).toArray 45 (0, 0)) _ from (by repeat (first | exact .here | exact .inner .here | exact .inner (.inner .here) | refine .there ?_))).mem) rfl⟩) (by rfl) (by omega) (by omega)) fun o2 ho2 => Rv 12 rfl Nz <| Rv 13 rfl (Fa 5 33) <| ReN 14 rfl (Eff.store (l' := rvC x.db { r with fd := r.fd ++ [(lookF v.D (2 + r.nx) (c : Nat) (kd : Nat))], fo := o2 }) rfl rfl (V.ownV_one _ _) (by repeat (first | exact .here | exact .inner .here | exact .inner (.inner .here) | apply Upd.there)) (by simp [rvC, V.splice]) (by rfl) Tryz.sizeOf33) fun _ _ => Rd <| Ps <| Sq <| Rg <| Lv Mv <| Lv Nz <| Lv (Fa 4 3) <| Lv (Ld (v := .int .i64 r.nx)) <| Lv Ar <| Lv Nz <| Lv (Fa 4 3) <| LeN StS fun _ _ => Nl <| Ps <| Sq <| Sq <| Qt <| Qv Mv <| Qv Nz <| Qv (Fa 4 3) <| Qv (Ld (v := .int .i64 (r.nx + 1))) <| Qv Mv <| Qv Nz <| Qv (Fa 0 26) <| Qv (Ld (v := .pointer (some ⟨x.db, 0, none⟩))) <| Qc (QV fun w hw => lines_g x.db v.D.length x.cap _ (ctC v.k) w hw.at) <| Qc (QV fun w hw => slabs_g (v.D.length : Nat) w) <| Qv Ar <| Qv Cm <| Ql <| Ps ?_
          refine CW.cond rfl (fun h66 => ?_) (fun h66 => ?_)
          · replace h66 := bT h66
            refine Sq <| Rg <| Lv Mv <| Le (CM ([[rvO rb x.db { r with fd := r.fd ++ [(lookF v.D (2 + r.nx) (c : Nat) (kd : Nat))], fo := o2, nx := r.nx + 1 }]]) fun w hw hs0 => to_g rb x.db { r with fd := r.fd ++ [(lookF v.D (2 + r.nx) (c : Nat) (kd : Nat))], fo := o2, nx := r.nx + 1 } 2 w hs0) fun _ _ => Lv Av <| Nl <| Ps <| Rt <| Tr <| Rt1 ?_
            have e8 : scR v.D r o2 = { r with fd := r.fd ++ [(lookF v.D (2 + r.nx) (c : Nat) (kd : Nat))], fo := o2, ph := 2, nx := 0 } := by
              unfold scR
              simp only [hsc]
              rw [if_pos (by omega)]
            rw [show r.fd.flatMap fdC ++ fdC (lookF v.D (2 + r.nx) (c : Nat) (kd : Nat)) = (r.fd ++ [(lookF v.D (2 + r.nx) (c : Nat) (kd : Nat))]).flatMap fdC by rw [List.flatMap_append]; rfl]
            intro w' hw
            refine ⟨o2, by rw [e8]; simp only [List.length_append, List.length_singleton, List.flatMap_append, List.flatMap_singleton]; exact ho2, rfl, ?_⟩
            rw [e8]
            simp only [rvC, List.length_append, List.length_singleton]
            exact hw.pick (by repeat (first | exact .nil | apply Pick.cons | exact .here | apply Ext.there))
          · replace h66 := bF h66
            refine Sk <| Ps <| Sq <| Rg <| Lv Av <| Nl <| Ps <| Rt <| Rt1 ?_
            have e8 : scR v.D r o2 = { r with fd := r.fd ++ [(lookF v.D (2 + r.nx) (c : Nat) (kd : Nat))], fo := o2, nx := r.nx + 1 } := by
              unfold scR
              simp only [hsc]
              rw [if_neg (by omega)]
            rw [show r.fd.flatMap fdC ++ fdC (lookF v.D (2 + r.nx) (c : Nat) (kd : Nat)) = (r.fd ++ [(lookF v.D (2 + r.nx) (c : Nat) (kd : Nat))]).flatMap fdC by rw [List.flatMap_append]; rfl]
            intro w' hw
            refine ⟨o2, by rw [e8]; simp only [List.length_append, List.length_singleton, List.flatMap_append, List.flatMap_singleton]; exact ho2, rfl, ?_⟩
            rw [e8]
            simp only [rvC, List.length_append, List.length_singleton]
            exact hw.pick (by repeat (first | exact .nil | apply Pick.cons | exact .here | apply Ext.there))
        · refine Ro rfl (Eff.buildSlice (rfl) [_, _, _, _, _, _, _, _, _] Tryz.underlying33 Tryz.sizeOf45 (by exact Tryz.zeroValue45) rfl rfl rfl rfl (by rfl)) fun b44 _ => Re 4 rfl (Eff.ofVal (Ld (v := ownV r.fd.length r.fo))) fun _ _ => Re 11 rfl (Eff.appendAny (fdC (lookF v.D (2 + r.nx) (c : Nat) (kd : Nat))) (sz := 9) (bytes := 88) (z := .agg #[.int .i64 0, .bool false, .int .i64 0, .int .i64 0, .int .u64 0, .int .u64 0, .int .u64 0, .string ⟨#[]⟩, .string ⟨#[]⟩]) (xs := r.fd.flatMap fdC) (m0 := r.fd.length) (o := r.fo) (m := 1) (pk := [ownG 45 (r.fd.flatMap fdC) (r.fo)]) rfl rfl Tryz.underlying33 (by kernel_rfl) rfl (by omega) (by repeat (first | exact .nil | apply Pick.cons | exact .here | apply Ext.there)) (by simp) hr.fd (by rfl) (fun hm0 => ⟨b44, 0, rfl, fun w hw => V.range_of_block (o := 0) (cs := fdC (lookF v.D (2 + r.nx) (c : Nat) (kd : Nat))) (r := []) (hw.own _ (show InS (b44, .cells (fdC (lookF v.D (2 + r.nx) (c : Nat) (kd : Nat))).toArray 45 (0, 0)) _ from (by repeat (first | exact .here | exact .inner .here | exact .inner (.inner .here) | refine .there ?_))).mem) rfl⟩) (by rfl) (by omega) (by omega)) fun o2 ho2 => Rv 12 rfl Nz <| Rv 13 rfl (Fa 5 33) <| ReN 14 rfl (Eff.store (l' := rvC x.db { r with fd := r.fd ++ [(lookF v.D (2 + r.nx) (c : Nat) (kd : Nat))], fo := o2 }) rfl rfl (V.ownV_one _ _) (by repeat (first | exact .here | exact .inner .here | exact .inner (.inner .here) | apply Upd.there)) (by simp [rvC, V.splice]) (by rfl) Tryz.sizeOf33) fun _ _ => Rd <| Ps <| Sq <| Rg <| Lv Mv <| Lv Nz <| Lv (Fa 4 3) <| Lv (Ld (v := .int .i64 r.nx)) <| Lv Ar <| Lv Nz <| Lv (Fa 4 3) <| LeN StS fun _ _ => Nl <| Ps <| Sq <| Sq <| Qt <| Qv Mv <| Qv Nz <| Qv (Fa 4 3) <| Qv (Ld (v := .int .i64 (r.nx + 1))) <| Qv Mv <| Qv Nz <| Qv (Fa 0 26) <| Qv (Ld (v := .pointer (some ⟨x.db, 0, none⟩))) <| Qc (QV fun w hw => lines_g x.db v.D.length x.cap _ (ctC v.k) w hw.at) <| Qc (QV fun w hw => slabs_g (v.D.length : Nat) w) <| Qv Ar <| Qv Cm <| Ql <| Ps ?_
          refine CW.cond rfl (fun h66 => ?_) (fun h66 => ?_)
          · replace h66 := bT h66
            refine Sq <| Rg <| Lv Mv <| Le (CM ([[rvO rb x.db { r with fd := r.fd ++ [(lookF v.D (2 + r.nx) (c : Nat) (kd : Nat))], fo := o2, nx := r.nx + 1 }]]) fun w hw hs0 => to_g rb x.db { r with fd := r.fd ++ [(lookF v.D (2 + r.nx) (c : Nat) (kd : Nat))], fo := o2, nx := r.nx + 1 } 2 w hs0) fun _ _ => Lv Av <| Nl <| Ps <| Rt <| Tr <| Rt1 ?_
            have e8 : scR v.D r o2 = { r with fd := r.fd ++ [(lookF v.D (2 + r.nx) (c : Nat) (kd : Nat))], fo := o2, ph := 2, nx := 0 } := by
              unfold scR
              simp only [hsc]
              rw [if_pos (by omega)]
            rw [show r.fd.flatMap fdC ++ fdC (lookF v.D (2 + r.nx) (c : Nat) (kd : Nat)) = (r.fd ++ [(lookF v.D (2 + r.nx) (c : Nat) (kd : Nat))]).flatMap fdC by rw [List.flatMap_append]; rfl]
            intro w' hw
            refine ⟨o2, by rw [e8]; simp only [List.length_append, List.length_singleton, List.flatMap_append, List.flatMap_singleton]; exact ho2, rfl, ?_⟩
            rw [e8]
            simp only [rvC, List.length_append, List.length_singleton]
            exact hw.pick (by repeat (first | exact .nil | apply Pick.cons | exact .here | apply Ext.there))
          · replace h66 := bF h66
            refine Sk <| Ps <| Sq <| Rg <| Lv Av <| Nl <| Ps <| Rt <| Rt1 ?_
            have e8 : scR v.D r o2 = { r with fd := r.fd ++ [(lookF v.D (2 + r.nx) (c : Nat) (kd : Nat))], fo := o2, nx := r.nx + 1 } := by
              unfold scR
              simp only [hsc]
              rw [if_neg (by omega)]
            rw [show r.fd.flatMap fdC ++ fdC (lookF v.D (2 + r.nx) (c : Nat) (kd : Nat)) = (r.fd ++ [(lookF v.D (2 + r.nx) (c : Nat) (kd : Nat))]).flatMap fdC by rw [List.flatMap_append]; rfl]
            intro w' hw
            refine ⟨o2, by rw [e8]; simp only [List.length_append, List.length_singleton, List.flatMap_append, List.flatMap_singleton]; exact ho2, rfl, ?_⟩
            rw [e8]
            simp only [rvC, List.length_append, List.length_singleton]
            exact hw.pick (by repeat (first | exact .nil | apply Pick.cons | exact .here | apply Ext.there))
    · replace h33 := bF h33
      have hsc : scN v.D r.nx = none := by unfold scN; rw [hh]; exact if_pos (by omega)
      refine Sk <| Ps <| Sq <| Rg <| Lv Mv <| Lv Nz <| Lv (Fa 4 3) <| Lv (Ld (v := .int .i64 r.nx)) <| Lv Ar <| Lv Nz <| Lv (Fa 4 3) <| LeN StS fun _ _ => Nl <| Ps <| Sq <| Sq <| Qt <| Qv Mv <| Qv Nz <| Qv (Fa 4 3) <| Qv (Ld (v := .int .i64 (r.nx + 1))) <| Qv Mv <| Qv Nz <| Qv (Fa 0 26) <| Qv (Ld (v := .pointer (some ⟨x.db, 0, none⟩))) <| Qc (QV fun w hw => lines_g x.db v.D.length x.cap _ (ctC v.k) w hw.at) <| Qc (QV fun w hw => slabs_g (v.D.length : Nat) w) <| Qv Ar <| Qv Cm <| Ql <| Ps ?_
      refine CW.cond rfl (fun h66 => ?_) (fun h66 => ?_)
      · replace h66 := bT h66
        refine Sq <| Rg <| Lv Mv <| Le (CM ([[rvO rb x.db { r with nx := r.nx + 1 }]]) fun w hw hs0 => to_g rb x.db { r with nx := r.nx + 1 } 2 w hs0) fun _ _ => Lv Av <| Nl <| Ps <| Rt <| Tr <| Rt1 ?_
        have e8 : scR v.D r r.fo = { r with fd := r.fd, fo := r.fo, ph := 2, nx := 0 } := by
          unfold scR
          simp only [hsc]
          rw [if_pos (by omega)]
        intro w' hw
        refine ⟨r.fo, by rw [e8]; exact hr.fd, rfl, ?_⟩
        rw [e8]
        exact hw.pick (by repeat (first | exact .nil | apply Pick.cons | exact .here | apply Ext.there))
      · replace h66 := bF h66
        refine Sk <| Ps <| Sq <| Rg <| Lv Av <| Nl <| Ps <| Rt <| Rt1 ?_
        have e8 : scR v.D r r.fo = { r with fd := r.fd, fo := r.fo, nx := r.nx + 1 } := by
          unfold scR
          simp only [hsc]
          rw [if_neg (by omega)]
        intro w' hw
        refine ⟨r.fo, by rw [e8]; exact hr.fd, rfl, ?_⟩
        rw [e8]
        exact hw.pick (by repeat (first | exact .nil | apply Pick.cons | exact .here | apply Ext.there))
end G
end Go.Proofs.YtcnjjefbnlgdjaaGreat

/- A small calculus of symbolic states, part 43: calls of function values that hold their first arguments. No program in sight. -/
namespace Go.Proofs.YtcnjjefbnlgdjaaGreat.V
open Go Go.RowKit
set_option linter.unusedVariables false
section
variable {P : Program} {n : Nat} {B : Base} {ks : Ks} {sg : Sg} {d : Option Tmp} {ty : TypeId} {pos : String} {aft : Array Edge} {g : Option (Nat × Bool)}
theorem run_callB {f : FuncId} {x : Operand} {pre caps : List Value} {xs : List Operand} {vs : List Value} {ats : Array TypeId} {a : Act} (w : World) (ha : Fr n ks a) (hx : ev ks x = some (.func (.func f) pre.toArray caps.toArray)) (hxs : evs ks xs = some vs) (hc : ∀ (args : Array Value) (w : World), (callFunc f args).run P w = .ok (.enter f args) w) :
    (execOp a.eval ⟨d, .call { callee := .value x, args := xs.toArray, argTypes := ats }, ty, pos, aft, g⟩).run P w = .ok (.enter f (pre ++ vs ++ caps).toArray) w := by
  have hm := ha.evs hxs
  have h0 := ha.ev hx
  simp only [execOp, resolve, h0, Deferred.ofValue, Sem.run_bind, Sem.run_pure, Result.andThen_ok, invoke, List.map_toArray, hm]
  simp [hc]
/-- A call of a function value that holds its first arguments, and turns nothing. -/
theorem Eff.callBV {v : Value} {f : FuncId} {x : Operand} {pre caps : List Value} {xs : List Operand} {vs : List Value} {ats : Array TypeId} (hx : ev ks x = some (.func (.func f) pre.toArray caps.toArray)) (hxs : evs ks xs = some vs) (hc : ∀ (args : Array Value) (w : World), (callFunc f args).run P w = .ok (.enter f args) w)
    (h : ∀ w, Hp B sg w → Calls P f (pre ++ vs ++ caps).toArray w (fun e w' => e = .returned v ∧ Below w.heap.size w w')) :
    Eff P n B ⟨d, .call { callee := .value x, args := xs.toArray, argTypes := ats }, ty, pos, aft, g⟩ ks sg (α := Unit) (fun _ => True) (fun _ => v) (fun _ => sg) := fun a w K Q ha hw hk => by
  unfold Oper.wp
  rw [run_callB w ha hx hxs hc]
  exact (h w hw).mono fun e w' ⟨he, hb⟩ => by subst he; exact hk () w' trivial (hw.call_ro hb)
end
end Go.Proofs.YtcnjjefbnlgdjaaGreat.V

/- A revival: heads wiped. -/
namespace Go.Proofs.YtcnjjefbnlgdjaaGreat
open Go Go.RowKit V
set_option linter.unusedVariables false
set_option maxRecDepth 100000
namespace G
open V (str byC ownV ownG ownS ownOk)
instance : Cal Tryz.prog 96 := ⟨Tryz.call96⟩
instance : Cal Tryz.prog 100 := ⟨Tryz.call100⟩
instance : Cal Tryz.prog 127 := ⟨Tryz.call127⟩
def scrubF (e : Int) (fd : List Fnd) (f : Fnd) : Bool := !antiF e f && !keepF e fd f
theorem scrub1_g (pb rb db : Nat) (r : Rvl) (hr : RvOk r) (f : Fnd) (w : World) (hs : Sat ([(pb, .cells [.pointer (some ⟨rb, 0, none⟩)].toArray 29 (0, 0))] :: rvS rb db r) w) : Calls Tryz.prog 99 [.agg (fdC f).toArray, .pointer (some ⟨pb, 0, none⟩)].toArray w fun e w' => e = .returned (.bool (scrubF r.e r.fd f)) ∧ Below w.heap.size w w' := by
  refine V.calls ([(pb, .cells [.pointer (some ⟨rb, 0, none⟩)].toArray 29 (0, 0))] :: rvS rb db r) Tryz.func99 rfl Tryz.ntmps99 (Nat.le_of_ble_eq_true rfl) hs <| Sq <| Rg <| Le XA fun b2 _ => Lv Av <| Nl <| Ps <| Sq <| Rg <| Lv (Ld (v := .pointer (some ⟨rb, 0, none⟩))) <| Lv (Lw (l := fdC f)) <| Le (CV fun w hw => anti_g rb db r f w hw.at) fun _ _ => Lv Nt <| Lv Mv ?_
  refine LW.split (d := 8) rfl (fun h8 => ?_) (fun h8 => ?_)
  · replace h8 := bT h8
    refine Lv (Ld (v := .pointer (some ⟨rb, 0, none⟩))) <| Lv (Lw (l := fdC f)) <| Le (CV fun w hw => keeps_g rb db r hr f w (hw.sat.pick (ss := rvS rb db r) (by repeat (first | exact .nil | apply Pick.cons | exact .here | apply Ext.there)))) fun _ _ => Lv Nt <| Lv Pt <| Lv Av <| Nl <| Ps <| Rt <| Rt1 ?_
    intro w' hw; exact ⟨by unfold scrubF; simp_all, hw.ro (by repeat (first | exact .nil | apply Pick.cons | exact .here | apply Ext.there)) hs⟩
  · replace h8 := bF h8
    refine Lp <| Lp <| Lp <| Lp <| Lv Pf <| Lv Av <| Nl <| Ps <| Rt <| Rt1 ?_
    intro w' hw; exact ⟨by unfold scrubF; simp_all, hw.ro (by repeat (first | exact .nil | apply Pick.cons | exact .here | apply Ext.there)) hs⟩
/-- A head wiped. -/
def wipeV (v : Dev) (f : Fnd) : Dev := (v.store f.line 0 (draftL f.b.cls)).flush f.line
/-- The first one from a place on of which it is so. -/
def nextW (q : Fnd → Bool) : List Fnd → Option (Nat × Fnd)
  | [] => none
  | f :: r => if q f = true then some (0, f) else (nextW q r).map fun p => (p.1 + 1, p.2)
/-- Wiped on: the device, the revival. -/
def wpV (q : Fnd → Bool) (v : Dev) (r : Rvl) : Dev := match nextW q (r.fd.drop r.nx.toNat) with
  | some p => wipeV v p.2
  | none => v.fence
def wpR (q : Fnd → Bool) (r : Rvl) (p : Int) : Rvl := match nextW q (r.fd.drop r.nx.toNat) with
  | some y => { r with nx := r.nx + ((y.1 + 1 : Nat) : Int) }
  | none => { r with ph := p, nx := 0 }
theorem drop_c2 {α : Type} {L : List α} {i : Nat} {s : α} (h : L[i]? = some s) : L.drop i = s :: L.drop (i + 1) := by
  obtain ⟨hi, hv⟩ := List.getElem?_eq_some_iff.1 h
  rw [List.drop_eq_getElem_cons hi, hv]
theorem nextW_no {q : Fnd → Bool} {l : List Fnd} {a j : Nat} (hj : ∀ i, a ≤ i → i < j → ∀ f, l[i]? = some f → q f = false) (haj : a ≤ j) : nextW q (l.drop a) = (nextW q (l.drop j)).map fun p => (p.1 + (j - a), p.2) := by
  induction j with
  | zero =>
    obtain rfl : a = 0 := by omega
    cases nextW q (l.drop 0) <;> simp
  | succ j ih =>
    by_cases e : a = j + 1
    · subst e
      cases nextW q (l.drop (j + 1)) <;> simp
    · rw [ih (fun i h1 h2 => hj i h1 (by omega)) (by omega)]
      cases hl : l[j]? with
      | none =>
        rw [List.drop_eq_nil_iff.2 (by rw [List.getElem?_eq_none_iff] at hl; omega), List.drop_eq_nil_iff.2 (by rw [List.getElem?_eq_none_iff] at hl; omega)]; rfl
      | some f =>
        have h8 := hj j (by omega) (by omega) f hl
        rw [drop_c2 hl]
        show Option.map _ (if q f = true then _ else _) = _
        rw [if_neg (by rw [h8]; decide), Option.map_map]
        congr 1
        funext p
        simp only [Function.comp, Prod.mk.injEq, and_true]
        omega
theorem nextW_yes {q : Fnd → Bool} {l : List Fnd} {a j : Nat} {f : Fnd} (hj : ∀ i, a ≤ i → i < j → ∀ f, l[i]? = some f → q f = false) (haj : a ≤ j) (hf : l[j]? = some f) (hq : q f = true) : nextW q (l.drop a) = some (j - a, f) := by
  rw [nextW_no hj haj, drop_c2 hf]
  show Option.map _ (if q f = true then some (0, f) else _) = _
  rw [if_pos hq]
  simp
theorem nextW_end {q : Fnd → Bool} {l : List Fnd} {a : Nat} (hj : ∀ i, a ≤ i → i < l.length → ∀ f, l[i]? = some f → q f = false) (h : a ≤ l.length) : nextW q (l.drop a) = none := by
  rw [nextW_no hj h, List.drop_length]; rfl
theorem flk9_at {l : List Fnd} {i : Nat} {y : Fnd} {rest : List Value} (h : l[i]? = some y) : ∃ q, (l.flatMap fdC ++ rest).drop (0 + i * 9) = fdC y ++ q := by
  obtain ⟨r, hr⟩ := V.drop_flatMap fdC_len l i y h
  have hlt := (List.getElem?_eq_some_iff.1 h).1
  have hlen := V.flatMap_len (enc := fdC) (k := 9) fdC_len l
  have h2 : i * 9 + 9 ≤ l.length * 9 := by omega
  exact ⟨r ++ rest, by rw [Nat.zero_add, List.drop_append_of_le_length (by omega), hr, List.append_assoc]⟩
theorem draft_le (c : Int) : (draftL c).length ≤ 64 := by
  by_cases h : spanF c = 0
  · unfold draftL; rw [if_pos h]; simp
  · rw [draftL_len h]; omega
theorem own_not {B : V.Base} {sg r : V.Sg} {w : World} {l : List UInt8} {y : V.OwnO} {p : Option Addr} {c : Nat} {x : DvR} {v : Dev} (hw : Hp B sg w) (hv : ownV l.length y = .slice p l.length c) (hp : Pick (ownG 5 (byC l) y :: vS x v) sg r) : ∀ b o, p = some ⟨b, o, none⟩ → b ∉ V.ids (vS x v) := by
  intro b o hb
  rcases y with _ | ⟨g, r2, cap⟩
  · have h8 : ownV l.length none = .slice none 0 0 := rfl
    rw [h8] at hv
    injection hv with h9
    rw [hb] at h9; cases h9
  · have h8 : ownV l.length (some (g, r2, cap)) = .slice (some ⟨g, 0, none⟩) l.length cap := rfl
    rw [h8] at hv
    injection hv with h9
    rw [hb] at h9
    simp only [Option.some.injEq, Addr.mk.injEq] at h9
    rw [← h9.1]
    exact not_in (hw.pick hp) (show Pick (vS x v) _ _ from (by repeat (first | exact .nil | apply Pick.cons | exact .here | apply Ext.there))) (show InS (g, .cells (byC l ++ r2).toArray 5 (0, 0)) _ from (by repeat (first | exact .here | exact .inner .here | exact .inner (.inner .here) | refine .there ?_)))
theorem wipeS_g (pb : Nat) (rb : Nat) (x : DvR) (v : Dev) (r : Rvl) (hr : RvOk r) (hn : r.nx ≤ r.fd.length) (hL : v.D.length ≤ 1000) (p : Int) (w : World) (hs : Sat ([(pb, .cells [.pointer (some ⟨rb, 0, none⟩)].toArray 29 (0, 0))] :: (rvS rb x.db r ++ vS x v)) w) : Calls Tryz.prog 98 [.pointer (some ⟨rb, 0, none⟩), .func (.func 99) #[] #[.pointer (some ⟨pb, 0, none⟩)], .int .i64 p].toArray w fun e w' => ∃ _u : Unit, True ∧ e = .returned (.int .i64 0) ∧ Hp ⟨w, V.ids (([(pb, .cells [.pointer (some ⟨rb, 0, none⟩)].toArray 29 (0, 0))] :: (rvS rb x.db r ++ vS x v)))⟩ ([(pb, .cells [.pointer (some ⟨rb, 0, none⟩)].toArray 29 (0, 0))] :: (rvS rb x.db (wpR (scrubF r.e r.fd) r p) ++ vS x (wpV (scrubF r.e r.fd) v r))) w' := by
  have hnx := hr.nx
  have hfl := hr.fl
  obtain ⟨n0, hn0⟩ : ∃ n0 : Nat, r.nx = n0 := ⟨r.nx.toNat, by omega⟩
  obtain ⟨ps, cs, hvs, _⟩ := own_slF r.fd r.fo hr.fd
  refine V.calls ([(pb, .cells [.pointer (some ⟨rb, 0, none⟩)].toArray 29 (0, 0))] :: (rvS rb x.db r ++ vS x v)) Tryz.func98 rfl Tryz.ntmps98 (Nat.le_of_ble_eq_true rfl) hs <| Sq <| Rg <| Lv Av <| Nl <| Ps <| Sq <| Bk ?_
  refine V.CW.perm (sg' := [(pb, .cells [.pointer (some ⟨rb, 0, none⟩)].toArray 29 (0, 0))] :: (rvS rb x.db { r with nx := ((n0 : Nat) : Int) } ++ vS x v)) ?_ (by
    have h8 : r = { r with nx := ((n0 : Nat) : Int) } := by rw [← hn0]
    exact .of_eq (congrArg (fun z : Rvl => ([(pb, .cells [.pointer (some ⟨rb, 0, none⟩)].toArray 29 (0, 0))] :: (rvS rb x.db z ++ vS x v) : Sg).flatten) h8))
  refine loopA (γ := Nat) (fun j => [(0, .pointer (some ⟨rb, 0, none⟩)), (1, .func (.func 99) #[] #[.pointer (some ⟨pb, 0, none⟩)]), (2, .int .i64 p)]) (fun j => [(pb, .cells [.pointer (some ⟨rb, 0, none⟩)].toArray 29 (0, 0))] :: (rvS rb x.db ({ r with nx := (j : Nat) } : Rvl) ++ vS x v)) (fun j => j ≤ r.fd.length ∧ n0 ≤ j ∧ ∀ i, n0 ≤ i → i < j → ∀ f, r.fd[i]? = some f → (scrubF r.e r.fd) f = false) (fun j => r.fd.length - j) (n0) ⟨by omega, Nat.le_refl _, fun i h1 h2 => by omega⟩ fun j => ?_
  rintro ⟨hj1, hj0, hjj⟩
  refine Sq <| Sq <| Qt <| Qv Mv <| Qv Nz <| Qv (Fa 4 3) <| Qv (Ld (v := .int .i64 (j : Nat))) <| Qv Mv <| Qv Nz <| Qv (Fa 5 33) <| Qv (Ld (v := ownV r.fd.length r.fo)) <| QW.re 15 (.slice ps r.fd.length cs) rfl hvs <| Qv Ln <| Qv Cm <| Ql <| Ps ?_
  refine CW.cond rfl (fun h17 => ?_) (fun h17 => ?_)
  · replace h17 := bT h17
    obtain ⟨f, hf⟩ : ∃ f, r.fd[j]? = some f := ⟨r.fd[j]'(by omega), by simp⟩
    obtain ⟨g, rest, cap, hfo⟩ : ∃ g r2 c, r.fo = some (g, r2, c) := by
      rcases hfo : r.fo with _ | ⟨g, r2, c⟩
      · have := hr.fd; rw [hfo] at this; exact absurd this.2 (by omega)
      · exact ⟨g, r2, c, rfl⟩
    obtain ⟨q2, hq2⟩ := flk9_at (rest := rest) hf
    have hsg : ownG 45 (r.fd.flatMap fdC) r.fo = [(g, .cells (r.fd.flatMap fdC ++ rest).toArray 45 (0, 0))] := by rw [hfo]; rfl
    refine V.CW.perm (sg' := [(pb, .cells [.pointer (some ⟨rb, 0, none⟩)].toArray 29 (0, 0))] :: [rvO rb x.db { r with nx := (j : Nat) }] :: [(g, .cells (r.fd.flatMap fdC ++ rest).toArray 45 (0, 0))] :: ownG 45 (r.kp.flatMap fdC) r.ko :: vS x v) ?_ (.of_eq (congrArg (fun z : V.Seg => ([(pb, .cells [.pointer (some ⟨rb, 0, none⟩)].toArray 29 (0, 0))] :: [rvO rb x.db { r with nx := (j : Nat) }] :: z :: ownG 45 (r.kp.flatMap fdC) r.ko :: vS x v : Sg).flatten) hsg))
    refine Sk <| Ps <| Bk <| Sq <| Dr ([[rvO rb x.db { r with nx := (j : Nat) }], [(g, .cells (r.fd.flatMap fdC ++ rest).toArray 45 (0, 0))]]) <| Rv 0 rfl Mv <| Rv 1 rfl Nz <| Rv 2 rfl (Fa 5 33) <| Rv 3 rfl (Ld (v := ownV r.fd.length r.fo)) <| RW.re 21 (.slice (some ⟨g, 0, none⟩) r.fd.length cap) rfl (by rw [hfo]; rfl) <| Rv 4 rfl Mv <| Rv 5 rfl Nz <| Rv 6 rfl (Fa 4 3) <| Rv 7 rfl (Ld (v := .int .i64 (j : Nat))) <| Rv 8 rfl (Val.indexAddrN (i := j) rfl rfl Tryz.underlying33 Tryz.sizeOf45 (by omega)) <| Rv 9 rfl (La (fdC f) (hl := hq2)) <| Re 10 rfl AA fun b7 _ => ReN 11 rfl StW fun _ _ => Rd <| Ps <| Sq <| Rg <| Lv Mv <| Lv Nz <| Lv (Fa 4 3) <| Lv (Ld (v := .int .i64 (j : Nat))) <| Lv Ar <| Lv Nz <| Lv (Fa 4 3) <| LeN StS fun _ _ => Nl <| Ps <| Sq <| Rg <| Lv Mv <| Lv (Lw (l := fdC f)) <| Le (Eff.callFV (f := 99) (caps := [.pointer (some ⟨pb, 0, none⟩)]) rfl rfl Tryz.call99 (fun w hw => scrub1_g pb rb x.db { r with nx := ((j + 1 : Nat) : Int) } ⟨hr.fd, hr.kp, hr.fl, hr.tx, by simp only; omega⟩ f w (by have h8 := hw.sat.pick (ss := [(pb, .cells [.pointer (some ⟨rb, 0, none⟩)].toArray 29 (0, 0))] :: [rvO rb x.db { r with nx := ((j + 1 : Nat) : Int) }] :: [(g, .cells (r.fd.flatMap fdC ++ rest).toArray 45 (0, 0))] :: [ownG 45 (r.kp.flatMap fdC) r.ko]) (by repeat (first | exact .nil | apply Pick.cons | exact .here | apply Ext.there)); rw [← hsg] at h8; exact h8))) fun _ _ => Nl <| Ps ?_
    refine CW.cond rfl (fun h37 => ?_) (fun h37 => ?_)
    · replace h37 := bT h37
      have h37 : (scrubF r.e r.fd) f = true := h37
      refine Sq <| Dr ([[rvO rb x.db { r with nx := ((j + 1 : Nat) : Int) }], [(b7, .cells (fdC f).toArray 45 (0, 0))]]) <| Rv 0 rfl Mv <| Rv 1 rfl Nz <| Rv 2 rfl (Fa 0 26) <| Rv 3 rfl (Ld (v := .pointer (some ⟨x.db, 0, none⟩))) <| Rv 4 rfl (Fa 0 3) <| Rv 5 rfl (Ld (v := .int .i64 f.line)) <| Rv 6 rfl (Fa 2 43) <| Rv 7 rfl (Fa 0 3) <| Rv 8 rfl (Ld (v := .int .i64 f.b.cls)) <| Re 9 rfl (CM [] fun w hw hs0 => draft_c f.b.cls w) fun o1 ho1 => ?_
      obtain ⟨p1, c1, hv1, hc1, _, hs1⟩ := own_src ho1
      have hn64 := draft_le f.b.cls
      refine RW.re 47 (.slice p1 (draftL f.b.cls).length c1) rfl hv1 <| Re 10 rfl (CM (vS x v) fun w hw hs0 => by have h8 := store_g x v.D v.k f.line 0 (draftL f.b.cls) p1 c1 (by omega) w hs0 (hs1 hw (by repeat (first | exact .nil | apply Pick.cons | exact .here | apply Ext.there))) (own_not hw hv1 (show Pick (ownG 5 (byC (draftL f.b.cls)) o1 :: vS x v) _ _ from (by repeat (first | exact .nil | apply Pick.cons | exact .here | apply Ext.there)))); exact h8) fun _ _ => Rd <| Ps <| Sq <| Dr ([[rvO rb x.db { r with nx := ((j + 1 : Nat) : Int) }], [(b7, .cells (fdC f).toArray 45 (0, 0))]]) <| Rv 0 rfl Mv <| Rv 1 rfl Nz <| Rv 2 rfl (Fa 0 26) <| Rv 3 rfl (Ld (v := .pointer (some ⟨x.db, 0, none⟩))) <| Rv 4 rfl (Fa 0 3) <| Rv 5 rfl (Ld (v := .int .i64 f.line)) <| Re 6 rfl (CM (vS x (v.store f.line 0 (draftL f.b.cls))) fun w hw hs0 => flush_g x (v.store f.line 0 (draftL f.b.cls)).D (v.store f.line 0 (draftL f.b.cls)).k f.line w hs0) fun _ _ => Rd <| Ps <| Sq <| Rg <| Lv Av <| Nl <| Ps <| Rt <| Br <| Tr <| Br <| Tr <| Rt1 ?_
      have e8 : nextW (scrubF r.e r.fd) (r.fd.drop r.nx.toNat) = some (j - n0, f) := by rw [hn0, Int.toNat_natCast]; exact nextW_yes hjj hj0 hf h37
      have e9 : wpV (scrubF r.e r.fd) v r = wipeV v f := by unfold wpV; rw [e8]
      have e7 : wpR (scrubF r.e r.fd) r p = { r with nx := ((j + 1 : Nat) : Int) } := by unfold wpR; rw [e8]; simp only; congr 1; omega
      rw [e9, e7]
      intro w' hw
      rw [← hsg] at hw
      exact ⟨(), trivial, rfl, hw.pick (by repeat (first | exact .nil | apply Pick.cons | exact .here | apply Ext.there))⟩
    · replace h37 := bF h37
      have h37 : (scrubF r.e r.fd) f = false := h37
      refine Sk <| Bn ?_
      rw [← hsg]
      refine PQ.round (j + 1) ⟨by omega, by omega, fun i h1 h2 f2 hf2 => by
        rcases Nat.lt_or_ge i j with h | h
        · exact hjj i h1 h f2 hf2
        · have e : i = j := by omega
          rw [e, hf] at hf2; cases hf2; exact h37⟩ (by omega) (by repeat (first | exact trivial | refine ⟨rfl, ?_⟩)) (by repeat (first | exact .nil | apply Pick.cons | exact .here | apply Ext.there))
  · replace h17 := bF h17
    refine Xt <| Te <| Te <| Bh <| Ps <| Sq <| Rg <| Lv Mv <| Lv Nz <| Lv (Fa 0 26) <| Lv (Ld (v := .pointer (some ⟨x.db, 0, none⟩))) <| Le (CM (vS x v) fun w hw hs0 => fence_g x v.D v.k (by omega) w hs0) fun _ _ => Nl <| Ps <| Sq <| Rg <| Lv Mv <| Lv Mv <| Le (CM ([[rvO rb x.db { r with nx := (j : Nat) }]]) fun w hw hs0 => to_g rb x.db { r with nx := (j : Nat) } p w hs0) fun _ _ => Lv Av <| Nl <| Ps <| Rt <| Rt1 ?_
    have hj9 : j = r.fd.length := by omega
    have e8 : nextW (scrubF r.e r.fd) (r.fd.drop r.nx.toNat) = none := by rw [hn0, Int.toNat_natCast]; exact nextW_end (fun i h1 h2 => hjj i h1 (by omega)) (by omega)
    have e9 : wpV (scrubF r.e r.fd) v r = v.fence := by unfold wpV; rw [e8]
    have e7 : wpR (scrubF r.e r.fd) r p = { r with ph := p, nx := 0 } := by unfold wpR; rw [e8]
    rw [e9, e7]
    intro w' hw; exact ⟨(), trivial, rfl, hw.pick (by repeat (first | exact .nil | apply Pick.cons | exact .here | apply Ext.there))⟩
theorem wipeA_g (rb : Nat) (x : DvR) (v : Dev) (r : Rvl) (hr : RvOk r) (hn : r.nx ≤ r.fd.length) (hL : v.D.length ≤ 1000) (p : Int) (w : World) (hs : Sat ((rvS rb x.db r ++ vS x v)) w) : Calls Tryz.prog 98 [.pointer (some ⟨rb, 0, none⟩), .func (.func 100) #[.pointer (some ⟨rb, 0, none⟩)] #[], .int .i64 p].toArray w fun e w' => ∃ _u : Unit, True ∧ e = .returned (.int .i64 0) ∧ Hp ⟨w, V.ids (((rvS rb x.db r ++ vS x v)))⟩ ((rvS rb x.db (wpR (antiF r.e) r p) ++ vS x (wpV (antiF r.e) v r))) w' := by
  have hnx := hr.nx
  have hfl := hr.fl
  obtain ⟨n0, hn0⟩ : ∃ n0 : Nat, r.nx = n0 := ⟨r.nx.toNat, by omega⟩
  obtain ⟨ps, cs, hvs, _⟩ := own_slF r.fd r.fo hr.fd
  refine V.calls ((rvS rb x.db r ++ vS x v)) Tryz.func98 rfl Tryz.ntmps98 (Nat.le_of_ble_eq_true rfl) hs <| Sq <| Rg <| Lv Av <| Nl <| Ps <| Sq <| Bk ?_
  refine V.CW.perm (sg' := (rvS rb x.db { r with nx := ((n0 : Nat) : Int) } ++ vS x v)) ?_ (by
    have h8 : r = { r with nx := ((n0 : Nat) : Int) } := by rw [← hn0]
    exact .of_eq (congrArg (fun z : Rvl => ((rvS rb x.db z ++ vS x v) : Sg).flatten) h8))
  refine loopA (γ := Nat) (fun j => [(0, .pointer (some ⟨rb, 0, none⟩)), (1, .func (.func 100) #[.pointer (some ⟨rb, 0, none⟩)] #[]), (2, .int .i64 p)]) (fun j => (rvS rb x.db ({ r with nx := (j : Nat) } : Rvl) ++ vS x v)) (fun j => j ≤ r.fd.length ∧ n0 ≤ j ∧ ∀ i, n0 ≤ i → i < j → ∀ f, r.fd[i]? = some f → (antiF r.e) f = false) (fun j => r.fd.length - j) (n0) ⟨by omega, Nat.le_refl _, fun i h1 h2 => by omega⟩ fun j => ?_
  rintro ⟨hj1, hj0, hjj⟩
  refine Sq <| Sq <| Qt <| Qv Mv <| Qv Nz <| Qv (Fa 4 3) <| Qv (Ld (v := .int .i64 (j : Nat))) <| Qv Mv <| Qv Nz <| Qv (Fa 5 33) <| Qv (Ld (v := ownV r.fd.length r.fo)) <| QW.re 15 (.slice ps r.fd.length cs) rfl hvs <| Qv Ln <| Qv Cm <| Ql <| Ps ?_
  refine CW.cond rfl (fun h17 => ?_) (fun h17 => ?_)
  · replace h17 := bT h17
    obtain ⟨f, hf⟩ : ∃ f, r.fd[j]? = some f := ⟨r.fd[j]'(by omega), by simp⟩
    obtain ⟨g, rest, cap, hfo⟩ : ∃ g r2 c, r.fo = some (g, r2, c) := by
      rcases hfo : r.fo with _ | ⟨g, r2, c⟩
      · have := hr.fd; rw [hfo] at this; exact absurd this.2 (by omega)
      · exact ⟨g, r2, c, rfl⟩
    obtain ⟨q2, hq2⟩ := flk9_at (rest := rest) hf
    have hsg : ownG 45 (r.fd.flatMap fdC) r.fo = [(g, .cells (r.fd.flatMap fdC ++ rest).toArray 45 (0, 0))] := by rw [hfo]; rfl
    refine V.CW.perm (sg' := [rvO rb x.db { r with nx := (j : Nat) }] :: [(g, .cells (r.fd.flatMap fdC ++ rest).toArray 45 (0, 0))] :: ownG 45 (r.kp.flatMap fdC) r.ko :: vS x v) ?_ (.of_eq (congrArg (fun z : V.Seg => ([rvO rb x.db { r with nx := (j : Nat) }] :: z :: ownG 45 (r.kp.flatMap fdC) r.ko :: vS x v : Sg).flatten) hsg))
    refine Sk <| Ps <| Bk <| Sq <| Dr ([[rvO rb x.db { r with nx := (j : Nat) }], [(g, .cells (r.fd.flatMap fdC ++ rest).toArray 45 (0, 0))]]) <| Rv 0 rfl Mv <| Rv 1 rfl Nz <| Rv 2 rfl (Fa 5 33) <| Rv 3 rfl (Ld (v := ownV r.fd.length r.fo)) <| RW.re 21 (.slice (some ⟨g, 0, none⟩) r.fd.length cap) rfl (by rw [hfo]; rfl) <| Rv 4 rfl Mv <| Rv 5 rfl Nz <| Rv 6 rfl (Fa 4 3) <| Rv 7 rfl (Ld (v := .int .i64 (j : Nat))) <| Rv 8 rfl (Val.indexAddrN (i := j) rfl rfl Tryz.underlying33 Tryz.sizeOf45 (by omega)) <| Rv 9 rfl (La (fdC f) (hl := hq2)) <| Re 10 rfl AA fun b7 _ => ReN 11 rfl StW fun _ _ => Rd <| Ps <| Sq <| Rg <| Lv Mv <| Lv Nz <| Lv (Fa 4 3) <| Lv (Ld (v := .int .i64 (j : Nat))) <| Lv Ar <| Lv Nz <| Lv (Fa 4 3) <| LeN StS fun _ _ => Nl <| Ps <| Sq <| Rg <| Lv Mv <| Lv (Lw (l := fdC f)) <| Le (Eff.callBV (f := 100) (pre := [.pointer (some ⟨rb, 0, none⟩)]) (caps := []) rfl rfl Tryz.call100 (fun w hw => anti_g rb x.db { r with nx := ((j + 1 : Nat) : Int) } f w hw.at)) fun _ _ => Nl <| Ps ?_
    refine CW.cond rfl (fun h37 => ?_) (fun h37 => ?_)
    · replace h37 := bT h37
      have h37 : (antiF r.e) f = true := h37
      refine Sq <| Dr ([[rvO rb x.db { r with nx := ((j + 1 : Nat) : Int) }], [(b7, .cells (fdC f).toArray 45 (0, 0))]]) <| Rv 0 rfl Mv <| Rv 1 rfl Nz <| Rv 2 rfl (Fa 0 26) <| Rv 3 rfl (Ld (v := .pointer (some ⟨x.db, 0, none⟩))) <| Rv 4 rfl (Fa 0 3) <| Rv 5 rfl (Ld (v := .int .i64 f.line)) <| Rv 6 rfl (Fa 2 43) <| Rv 7 rfl (Fa 0 3) <| Rv 8 rfl (Ld (v := .int .i64 f.b.cls)) <| Re 9 rfl (CM [] fun w hw hs0 => draft_c f.b.cls w) fun o1 ho1 => ?_
      obtain ⟨p1, c1, hv1, hc1, _, hs1⟩ := own_src ho1
      have hn64 := draft_le f.b.cls
      refine RW.re 47 (.slice p1 (draftL f.b.cls).length c1) rfl hv1 <| Re 10 rfl (CM (vS x v) fun w hw hs0 => by have h8 := store_g x v.D v.k f.line 0 (draftL f.b.cls) p1 c1 (by omega) w hs0 (hs1 hw (by repeat (first | exact .nil | apply Pick.cons | exact .here | apply Ext.there))) (own_not hw hv1 (show Pick (ownG 5 (byC (draftL f.b.cls)) o1 :: vS x v) _ _ from (by repeat (first | exact .nil | apply Pick.cons | exact .here | apply Ext.there)))); exact h8) fun _ _ => Rd <| Ps <| Sq <| Dr ([[rvO rb x.db { r with nx := ((j + 1 : Nat) : Int) }], [(b7, .cells (fdC f).toArray 45 (0, 0))]]) <| Rv 0 rfl Mv <| Rv 1 rfl Nz <| Rv 2 rfl (Fa 0 26) <| Rv 3 rfl (Ld (v := .pointer (some ⟨x.db, 0, none⟩))) <| Rv 4 rfl (Fa 0 3) <| Rv 5 rfl (Ld (v := .int .i64 f.line)) <| Re 6 rfl (CM (vS x (v.store f.line 0 (draftL f.b.cls))) fun w hw hs0 => flush_g x (v.store f.line 0 (draftL f.b.cls)).D (v.store f.line 0 (draftL f.b.cls)).k f.line w hs0) fun _ _ => Rd <| Ps <| Sq <| Rg <| Lv Av <| Nl <| Ps <| Rt <| Br <| Tr <| Br <| Tr <| Rt1 ?_
      have e8 : nextW (antiF r.e) (r.fd.drop r.nx.toNat) = some (j - n0, f) := by rw [hn0, Int.toNat_natCast]; exact nextW_yes hjj hj0 hf h37
      have e9 : wpV (antiF r.e) v r = wipeV v f := by unfold wpV; rw [e8]
      have e7 : wpR (antiF r.e) r p = { r with nx := ((j + 1 : Nat) : Int) } := by unfold wpR; rw [e8]; simp only; congr 1; omega
      rw [e9, e7]
      intro w' hw
      rw [← hsg] at hw
      exact ⟨(), trivial, rfl, hw.pick (by repeat (first | exact .nil | apply Pick.cons | exact .here | apply Ext.there))⟩
    · replace h37 := bF h37
      have h37 : (antiF r.e) f = false := h37
      refine Sk <| Bn ?_
      rw [← hsg]
      refine PQ.round (j + 1) ⟨by omega, by omega, fun i h1 h2 f2 hf2 => by
        rcases Nat.lt_or_ge i j with h | h
        · exact hjj i h1 h f2 hf2
        · have e : i = j := by omega
          rw [e, hf] at hf2; cases hf2; exact h37⟩ (by omega) (by repeat (first | exact trivial | refine ⟨rfl, ?_⟩)) (by repeat (first | exact .nil | apply Pick.cons | exact .here | apply Ext.there))
  · replace h17 := bF h17
    refine Xt <| Te <| Te <| Bh <| Ps <| Sq <| Rg <| Lv Mv <| Lv Nz <| Lv (Fa 0 26) <| Lv (Ld (v := .pointer (some ⟨x.db, 0, none⟩))) <| Le (CM (vS x v) fun w hw hs0 => fence_g x v.D v.k (by omega) w hs0) fun _ _ => Nl <| Ps <| Sq <| Rg <| Lv Mv <| Lv Mv <| Le (CM ([[rvO rb x.db { r with nx := (j : Nat) }]]) fun w hw hs0 => to_g rb x.db { r with nx := (j : Nat) } p w hs0) fun _ _ => Lv Av <| Nl <| Ps <| Rt <| Rt1 ?_
    have hj9 : j = r.fd.length := by omega
    have e8 : nextW (antiF r.e) (r.fd.drop r.nx.toNat) = none := by rw [hn0, Int.toNat_natCast]; exact nextW_end (fun i h1 h2 => hjj i h1 (by omega)) (by omega)
    have e9 : wpV (antiF r.e) v r = v.fence := by unfold wpV; rw [e8]
    have e7 : wpR (antiF r.e) r p = { r with ph := p, nx := 0 } := by unfold wpR; rw [e8]
    rw [e9, e7]
    intro w' hw; exact ⟨(), trivial, rfl, hw.pick (by repeat (first | exact .nil | apply Pick.cons | exact .here | apply Ext.there))⟩
end G
end Go.Proofs.YtcnjjefbnlgdjaaGreat

/- A revival: scrubbed; decided. -/
namespace Go.Proofs.YtcnjjefbnlgdjaaGreat
open Go Go.RowKit V
set_option linter.unusedVariables false
set_option maxRecDepth 100000
namespace G
open V (str byC ownV ownG ownS ownOk)
instance : Cal Tryz.prog 97 := ⟨Tryz.call97⟩
instance : Cal Tryz.prog 98 := ⟨Tryz.call98⟩
theorem rscrub_g (rb : Nat) (x : DvR) (v : Dev) (r : Rvl) (hr : RvOk r) (hn : r.nx ≤ r.fd.length) (hL : v.D.length ≤ 1000) (w : World) (hs : Sat (rvS rb x.db r ++ vS x v) w) : Calls Tryz.prog 71 [.pointer (some ⟨rb, 0, none⟩)].toArray w fun e w' => ∃ _u : Unit, True ∧ e = .returned (.int .i64 0) ∧ Hp ⟨w, V.ids ((rvS rb x.db r ++ vS x v))⟩ ((rvS rb x.db (wpR (scrubF r.e r.fd) r 4) ++ vS x (wpV (scrubF r.e r.fd) v r))) w' := by
  refine V.calls (rvS rb x.db r ++ vS x v) Tryz.func71 rfl Tryz.ntmps71 (Nat.le_of_ble_eq_true rfl) hs <| Sq <| Rg <| Le XS fun b1 _ => Lv Av <| Nl <| Ps <| Sq <| Rg <| Lv (Ld (v := .pointer (some ⟨rb, 0, none⟩))) <| Lv Mf <| Le (CM ([(b1, .cells [.pointer (some ⟨rb, 0, none⟩)].toArray 29 (0, 0))] :: (rvS rb x.db r ++ vS x v)) fun w hw hs0 => wipeS_g b1 rb x v r hr hn hL 4 w hs0) fun _ _ => Lv Av <| Nl <| Ps <| Rt <| Rt1 ?_
  intro w' hw; exact ⟨(), trivial, rfl, hw.pick (by repeat (first | exact .nil | apply Pick.cons | exact .here | apply Ext.there))⟩
theorem rantis_g (rb : Nat) (x : DvR) (v : Dev) (r : Rvl) (hr : RvOk r) (hn : r.nx ≤ r.fd.length) (hL : v.D.length ≤ 1000) (w : World) (hs : Sat (rvS rb x.db r ++ vS x v) w) : Calls Tryz.prog 72 [.pointer (some ⟨rb, 0, none⟩)].toArray w fun e w' => ∃ _u : Unit, True ∧ e = .returned (.int .i64 0) ∧ Hp ⟨w, V.ids ((rvS rb x.db r ++ vS x v))⟩ ((rvS rb x.db (wpR (antiF r.e) r 5) ++ vS x (wpV (antiF r.e) v r))) w' := by
  refine V.calls (rvS rb x.db r ++ vS x v) Tryz.func72 rfl Tryz.ntmps72 (Nat.le_of_ble_eq_true rfl) hs <| Sq <| Rg <| Lv Av <| Nl <| Ps <| Sq <| Rg <| Lv Mv <| Lv Mv <| Lv Mf <| Le (CM ((rvS rb x.db r ++ vS x v)) fun w hw hs0 => wipeA_g rb x v r hr hn hL 5 w hs0) fun _ _ => Lv Av <| Nl <| Ps <| Rt <| Rt1 ?_
  intro w' hw; exact ⟨(), trivial, rfl, hw.pick (by repeat (first | exact .nil | apply Pick.cons | exact .here | apply Ext.there))⟩
/-- What is kept; a revival that has decided. -/
def decK (e : Int) (fd : List Fnd) : List Fnd := fd.filter (keepF e fd)
def decR (n : Nat) (r : Rvl) (o : V.OwnO) : Rvl := if ovE n (decK r.e r.fd) = 0 then { r with kp := decK r.e r.fd, ko := o, ph := 3, nx := 0 } else r
theorem filt_yes {q : Fnd → Bool} {l : List Fnd} {j : Nat} {f : Fnd} (hf : l[j]? = some f) (h : q f = true) : (l.take (j + 1)).filter q = (l.take j).filter q ++ [f] := by
  rw [List.take_add_one, hf, Option.toList_some, List.filter_append, List.filter_cons_of_pos (by exact h)]; rfl
theorem filt_no {q : Fnd → Bool} {l : List Fnd} {j : Nat} {f : Fnd} (hf : l[j]? = some f) (h : q f = false) : (l.take (j + 1)).filter q = (l.take j).filter q := by
  rw [List.take_add_one, hf, Option.toList_some, List.filter_append, List.filter_cons_of_neg (by rw [h]; decide)]; simp
theorem filt_le (q : Fnd → Bool) (l : List Fnd) (j : Nat) : ((l.take j).filter q).length ≤ l.length := by
  have h1 := List.length_filter_le q (l.take j)
  have h2 := List.length_take_le j l
  rw [List.length_take] at h1; omega
theorem over_r (xd : DvR) (D : List Ce) (k : Cnt) (hD : 10 ≤ D.length ∧ D.length ≤ 1000) (th : Nat) (h1 : 1 ≤ th) (h4 : th ≤ 4) (e0 : Int) (he : 0 ≤ e0 ∧ e0 ≤ 1152921504606846976) (Fs : List Fnd) (p : Option Addr) (cp : Nat) (hF : Fs.length ≤ 800) (hk : ∀ f ∈ Fs, fdOk f) (w : World) (hp : V.slAt w p 9 fdC Fs) (hpd : ∀ b o, p = some ⟨b, o, none⟩ → b ∉ V.ids (dvS xd D k)) (hs : Sat (dvS xd D k) w) : Calls Tryz.prog 97 [.pointer (some ⟨xd.db, 0, none⟩), .int .i64 (th : Nat), .int .u64 e0, .slice p Fs.length cp].toArray w fun e w' => ∃ r : Option (ArR × ArS), OvP th D.length e0 Fs r ∧ e = .returned (.tuple #[ovV r, .int .i64 (ovE D.length Fs)]) ∧ Hp ⟨w, V.ids (dvS xd D k)⟩ (dvS xd D k) w' := by
  refine (over_g xd D k hD th h1 h4 e0 he Fs p cp hF hk w hp hpd hs).mono fun e w' ⟨q, hq, he, hw⟩ => ⟨q, hq, he, ?_⟩
  rcases q with _ | q
  · exact hw
  · exact hw.pick (ss := dvS xd D k) (by repeat (first | exact .nil | apply Pick.cons | exact .here | apply Ext.there))
theorem own_notF {B : V.Base} {sg r : V.Sg} {w : World} {l : List Fnd} {y : V.OwnO} {p : Option Addr} {c : Nat} {x : DvR} {v : Dev} (hw : Hp B sg w) (hv : ownV l.length y = .slice p l.length c) (hp : Pick (ownG 45 (l.flatMap fdC) y :: vS x v) sg r) : ∀ b o, p = some ⟨b, o, none⟩ → b ∉ V.ids (vS x v) := by
  intro b o hb
  rcases y with _ | ⟨g, r2, cap⟩
  · have h8 : ownV l.length none = .slice none 0 0 := rfl
    rw [h8] at hv
    injection hv with h9
    rw [hb] at h9; cases h9
  · have h8 : ownV l.length (some (g, r2, cap)) = .slice (some ⟨g, 0, none⟩) l.length cap := rfl
    rw [h8] at hv
    injection hv with h9
    rw [hb] at h9
    simp only [Option.some.injEq, Addr.mk.injEq] at h9
    rw [← h9.1]
    exact not_in (hw.pick hp) (show Pick (vS x v) _ _ from (by repeat (first | exact .nil | apply Pick.cons | exact .here | apply Ext.there))) (show InS (g, .cells (l.flatMap fdC ++ r2).toArray 45 (0, 0)) _ from (by repeat (first | exact .here | exact .inner .here | exact .inner (.inner .here) | refine .there ?_)))
theorem rdecide_g (rb : Nat) (x : DvR) (v : Dev) (r : Rvl) (hr : RvOk r) (hL : 10 ≤ v.D.length ∧ v.D.length ≤ 1000) (th : Nat) (h1 : 1 ≤ th) (h4 : th ≤ 4) (hth : r.th = (th : Nat)) (he : 0 ≤ r.e ∧ r.e ≤ 1152921504606846976) (w : World) (hs : Sat (rvS rb x.db r ++ vS x v) w) : Calls Tryz.prog 70 [.pointer (some ⟨rb, 0, none⟩)].toArray w fun e w' => ∃ o : V.OwnO, (ownOk 9 (decR v.D.length r o).kp.length ((decR v.D.length r o).kp.flatMap fdC) (decR v.D.length r o).ko) ∧ e = .returned (.int .i64 (ovE v.D.length (decK r.e r.fd))) ∧ Hp ⟨w, V.ids ((rvS rb x.db r ++ vS x v))⟩ ((rvS rb x.db (decR v.D.length r o) ++ vS x v)) w' := by
  have hfl := hr.fl
  obtain ⟨ps, cs, hvs, _⟩ := own_slF r.fd r.fo hr.fd
  refine V.calls (rvS rb x.db r ++ vS x v) Tryz.func70 rfl Tryz.ntmps70 (Nat.le_of_ble_eq_true rfl) hs <| Sq <| Rg <| Lv Av <| Nl <| Ps <| Sq <| Rg <| Lv Av <| Nl <| Ps <| Sq <| Sq <| Rg <| Lv Mv <| Lv Nz <| Lv (Fa 5 33) <| Lv (Ld (v := ownV r.fd.length r.fo)) <| LW.re 11 (.slice ps r.fd.length cs) rfl hvs <| Lv Ln <| Lv Mv <| Nl <| Ps <| Bk ?_
  refine V.CW.perm (sg' := [] :: (rvS rb x.db r ++ vS x v)) ?_ (.refl _)
  refine loopA (γ := Nat × V.OwnO) (fun j => [(0, .pointer (some ⟨rb, 0, none⟩)), (3, ownV ((r.fd.take j.1).filter (keepF r.e r.fd)).length j.2), (11, .slice ps r.fd.length cs), (12, .int .i64 (r.fd.length : Nat)), (13, .int .i64 (j.1 : Nat))]) (fun j => ownG 45 (((r.fd.take j.1).filter (keepF r.e r.fd)).flatMap fdC) j.2 :: (rvS rb x.db r ++ vS x v)) (fun j => j.1 ≤ r.fd.length ∧ ownOk 9 ((r.fd.take j.1).filter (keepF r.e r.fd)).length (((r.fd.take j.1).filter (keepF r.e r.fd)).flatMap fdC) j.2) (fun j => r.fd.length - j.1) ((0, none)) ⟨Nat.zero_le _, rfl, rfl⟩ fun j => ?_
  rintro ⟨hj1, hj2⟩
  have hkl := filt_le (keepF r.e r.fd) r.fd j.1
  refine Sq <| Rg <| Lv Cm <| Nl <| Ps <| Sq ?_
  refine CW.cond rfl (fun h14 => ?_) (fun h14 => ?_)
  · replace h14 := bT h14
    obtain ⟨f, hf⟩ : ∃ f, r.fd[j.1]? = some f := ⟨r.fd[j.1]'(by omega), by simp⟩
    obtain ⟨g, rest, cap, hfo⟩ : ∃ g r2 c, r.fo = some (g, r2, c) := by
      rcases hfo : r.fo with _ | ⟨g, r2, c⟩
      · have := hr.fd; rw [hfo] at this; exact absurd this.2 (by omega)
      · exact ⟨g, r2, c, rfl⟩
    obtain ⟨q2, hq2⟩ := flk9_at (rest := rest) hf
    have hps : ps = some ⟨g, 0, none⟩ := by
      rw [hfo] at hvs
      have h8 : ownV r.fd.length (some (g, rest, cap)) = .slice (some ⟨g, 0, none⟩) r.fd.length cap := rfl
      rw [h8] at hvs
      injection hvs with h9
      exact h9.symm
    have hsg : ownG 45 (r.fd.flatMap fdC) r.fo = [(g, .cells (r.fd.flatMap fdC ++ rest).toArray 45 (0, 0))] := by rw [hfo]; rfl
    refine V.CW.perm (sg' := ownG 45 (((r.fd.take j.1).filter (keepF r.e r.fd)).flatMap fdC) j.2 :: [rvO rb x.db r] :: [(g, .cells (r.fd.flatMap fdC ++ rest).toArray 45 (0, 0))] :: ownG 45 (r.kp.flatMap fdC) r.ko :: vS x v) ?_ (.of_eq (congrArg (fun z : V.Seg => (ownG 45 (((r.fd.take j.1).filter (keepF r.e r.fd)).flatMap fdC) j.2 :: [rvO rb x.db r] :: z :: ownG 45 (r.kp.flatMap fdC) r.ko :: vS x v : Sg).flatten) hsg))
    subst hps
    refine Sk <| Ps <| Sq <| Bk <| Sq <| Rg <| Lv (Val.indexAddrN (i := j.1) rfl rfl Tryz.underlying33 Tryz.sizeOf45 (by omega)) <| Lv (La (fdC f) (hl := hq2)) <| Le AA fun b5 _ => LeN StW fun _ _ => Nl <| Ps <| Sq <| Rg <| Lv Mv <| Lv (Lw (l := fdC f)) <| Le (CV fun w hw => keeps_g rb x.db r hr f w (by have h8 := hw.sat.pick (ss := [rvO rb x.db r] :: [(g, .cells (r.fd.flatMap fdC ++ rest).toArray 45 (0, 0))] :: [ownG 45 (r.kp.flatMap fdC) r.ko]) (by repeat (first | exact .nil | apply Pick.cons | exact .here | apply Ext.there)); rw [← hsg] at h8; exact h8)) fun _ _ => Nl <| Ps ?_
    refine CW.cond rfl (fun h19 => ?_) (fun h19 => ?_)
    · replace h19 := bT h19
      have h19 : keepF r.e r.fd f = true := h19
      refine Rg <| Lv Mv <| Lv (Lw (l := fdC f)) <| Le (Eff.buildSlice (rfl) [_, _, _, _, _, _, _, _, _] Tryz.underlying33 Tryz.sizeOf45 (by exact Tryz.zeroValue45) rfl rfl rfl rfl (by rfl)) fun b22 _ => Le (Eff.appendAny (fdC f) (sz := 9) (bytes := 88) (z := .agg #[.int .i64 0, .bool false, .int .i64 0, .int .i64 0, .int .u64 0, .int .u64 0, .int .u64 0, .string ⟨#[]⟩, .string ⟨#[]⟩]) (xs := ((r.fd.take j.1).filter (keepF r.e r.fd)).flatMap fdC) (m0 := ((r.fd.take j.1).filter (keepF r.e r.fd)).length) (o := j.2) (m := 1) (pk := [ownG 45 (((r.fd.take j.1).filter (keepF r.e r.fd)).flatMap fdC) (j.2)]) rfl rfl Tryz.underlying33 (by kernel_rfl) rfl (by omega) (by repeat (first | exact .nil | apply Pick.cons | exact .here | apply Ext.there)) (by simp) hj2 (by rfl) (fun hm0 => ⟨b22, 0, rfl, fun w hw => V.range_of_block (o := 0) (cs := fdC f) (r := []) (hw.own _ (show InS (b22, .cells (fdC f).toArray 45 (0, 0)) _ from (by repeat (first | exact .here | exact .inner .here | exact .inner (.inner .here) | refine .there ?_))).mem) rfl⟩) (by rfl) (by omega) (by omega)) fun o2 ho2 => Lv Av <| Nl <| Bn <| Ps <| Rg <| Lv Ar <| Lv Mv <| Nl ?_
      rw [← hsg]
      rw [← show ((r.fd.take (j.1 + 1)).filter (keepF r.e r.fd)).flatMap fdC = ((r.fd.take j.1).filter (keepF r.e r.fd)).flatMap fdC ++ fdC f by rw [filt_yes hf h19, List.flatMap_append, List.flatMap_singleton]]
      refine PQ.round ((j.1 + 1, o2)) ⟨by simp only; omega, by simp only; rw [filt_yes hf h19, List.length_append, List.length_singleton, List.flatMap_append, List.flatMap_singleton]; exact ho2⟩ (by simp only; omega) (by exact ⟨rfl, congrArg (fun z => some (ownV z o2)) (by simp only; rw [filt_yes hf h19, List.length_append, List.length_singleton]), rfl, rfl, rfl, trivial⟩) (by repeat (first | exact .nil | apply Pick.cons | exact .here | apply Ext.there))
    · replace h19 := bF h19
      have h19 : keepF r.e r.fd f = false := h19
      refine Sk <| Bn <| Ps <| Rg <| Lv Ar <| Lv Mv <| Nl ?_
      rw [← hsg]
      rw [← show ((r.fd.take (j.1 + 1)).filter (keepF r.e r.fd)) = ((r.fd.take j.1).filter (keepF r.e r.fd)) from filt_no hf h19]
      refine PQ.round ((j.1 + 1, j.2)) ⟨by simp only; omega, by simp only; rw [filt_no hf h19]; exact hj2⟩ (by simp only; omega) (by exact ⟨rfl, congrArg (fun z => some (ownV z j.2)) (by first | (simp only; done) | (simp only; rw [filt_no hf h19])), rfl, rfl, rfl, trivial⟩) (by repeat (first | exact .nil | apply Pick.cons | exact .here | apply Ext.there))
  · replace h14 := bF h14
    obtain ⟨j1, o⟩ := j
    have hj9 : j1 = r.fd.length := by simp only at hj1 h14; omega
    subst hj9
    replace hj2 : ownOk 9 (decK r.e r.fd).length ((decK r.e r.fd).flatMap fdC) o := by have h8 := hj2; simp only [List.take_length] at h8; exact h8
    rw [show (r.fd.take (r.fd.length, o).1).filter (keepF r.e r.fd) = decK r.e r.fd by unfold decK; rw [List.take_length]]
    obtain ⟨pd, cd, hvd, hsd⟩ := own_slF (decK r.e r.fd) o hj2
    refine Xt <| Te <| Te <| Bh <| Ps <| Sq <| Sq <| Dr ([[rvO rb x.db r]]) <| Rv 0 rfl Mv <| Rv 1 rfl Nz <| Rv 2 rfl (Fa 0 26) <| Rv 3 rfl (Ld (v := .pointer (some ⟨x.db, 0, none⟩))) <| Rv 4 rfl Mv <| Rv 5 rfl Nz <| Rv 6 rfl (Fa 1 3) <| Rv 7 rfl (Ld (v := .int .i64 r.th)) <| RW.re 33 (.int .i64 (th : Nat)) rfl (by rw [hth]) <| Rv 8 rfl Mv <| Rv 9 rfl Nz <| Rv 10 rfl (Fa 3 22) <| Rv 11 rfl (Ld (v := .int .u64 r.e)) <| Rv 12 rfl Mv <| RW.re 38 (.slice pd (decK r.e r.fd).length cd) rfl hvd <| Re 13 rfl (CM (dvS x v.D v.k) fun w hw hs0 => over_r x v.D v.k hL th h1 h4 r.e he (decK r.e r.fd) pd cd (by have := filt_le (keepF r.e r.fd) r.fd r.fd.length; rw [List.take_length] at this; unfold decK; omega) (fun f hf => hr.tx f (List.mem_filter.1 hf).1) w (hsd hw (by repeat (first | exact .nil | apply Pick.cons | exact .here | apply Ext.there))) (own_notF hw hvd (show Pick (ownG 45 ((decK r.e r.fd).flatMap fdC) o :: vS x v) _ _ from (by repeat (first | exact .nil | apply Pick.cons | exact .here | apply Ext.there)))) hs0) fun q hq => Rv 14 rfl Mv <| Rv 15 rfl Ex <| Rv 16 rfl Ex <| Rv 17 rfl Av <| Rv 18 rfl Av <| Rd <| Ps <| Sq <| Rg <| Lv Mv <| Lv Cm <| Nl <| Ps ?_
    refine CW.cond rfl (fun h43 => ?_) (fun h43 => ?_)
    · replace h43 := bT h43
      obtain rfl : q = none := by
        rcases q with _ | q
        · rfl
        · have h8 := hq.ok; rw [decide_eq_false h43] at h8; cases h8
      refine Sq <| Rg <| Lv Mv <| Lv Av <| Nl <| Ps <| Rt <| Tr <| Rt1 ?_
      have e8 : ∀ o, decR v.D.length r o = r := fun o => by unfold decR; exact if_neg h43
      intro w' hw; exact ⟨none, by rw [e8]; exact hr.kp, rfl, by rw [e8]; exact hw.pick (by repeat (first | exact .nil | apply Pick.cons | exact .here | apply Ext.there))⟩
    · replace h43 := bF h43
      have h44 : ovE v.D.length (decK r.e r.fd) = 0 := by simpa using h43
      obtain ⟨q, rfl⟩ : ∃ y, q = some y := by
        rcases q with _ | q
        · have h8 := hq.ok; rw [decide_eq_true h44] at h8; cases h8
        · exact ⟨q, rfl⟩
      refine Sk <| Ps <| Sq <| Rg <| Lv Mv <| Lv Mv <| Lv Nz <| Lv (Fa 6 33) <| LeN (Eff.store (l' := rvC x.db { r with kp := (decK r.e r.fd), ko := o }) rfl rfl (V.ownV_one _ _) (by repeat (first | exact .here | exact .inner .here | exact .inner (.inner .here) | apply Upd.there)) (by rfl) (by rfl) Tryz.sizeOf33) fun _ _ => Nl <| Ps <| Sq <| Rg <| Lv Mv <| Le (CM ([[rvO rb x.db { r with kp := (decK r.e r.fd), ko := o }]]) fun w hw hs0 => to_g rb x.db { r with kp := (decK r.e r.fd), ko := o } 3 w hs0) fun _ _ => Lv Av <| Nl <| Ps <| Rt <| Rt1 ?_
      have e8 : decR v.D.length r o = { r with kp := decK r.e r.fd, ko := o, ph := 3, nx := 0 } := by unfold decR; exact if_pos h44
      rw [h44]
      intro w' hw; exact ⟨o, by rw [e8]; exact hj2, rfl, by rw [e8]; exact hw.pick (by repeat (first | exact .nil | apply Pick.cons | exact .here | apply Ext.there))⟩
end G
end Go.Proofs.YtcnjjefbnlgdjaaGreat

/- A revival: the store is built, once. -/
namespace Go.Proofs.YtcnjjefbnlgdjaaGreat
open Go Go.RowKit V
set_option linter.unusedVariables false
set_option maxRecDepth 100000
namespace G
open V (str byC ownV ownG ownS ownOk)
instance : Cal Tryz.prog 101 := ⟨Tryz.call101⟩
instance : Cal Tryz.prog 129 := ⟨Tryz.call129⟩
instance : Cal Tryz.prog 130 := ⟨Tryz.call130⟩
instance : Cal Tryz.prog 163 := ⟨Tryz.call163⟩
/-- The arena over what is kept. -/
def OvA (th n : Nat) (e0 : Int) (Fs : List Fnd) (y : ArR × ArS) : Prop := OvP th n e0 Fs (some y)
theorem over_ok (xd : DvR) (D : List Ce) (k : Cnt) (hD : 10 ≤ D.length ∧ D.length ≤ 1000) (th : Nat) (h1 : 1 ≤ th) (h4 : th ≤ 4) (e0 : Int) (he : 0 ≤ e0 ∧ e0 ≤ 1152921504606846976) (Fs : List Fnd) (p : Option Addr) (cp : Nat) (hF : Fs.length ≤ 800) (hk : ∀ f ∈ Fs, fdOk f) (hE : ovE D.length Fs = 0) (w : World) (hp : V.slAt w p 9 fdC Fs) (hpd : ∀ b o, p = some ⟨b, o, none⟩ → b ∉ V.ids (dvS xd D k)) (hs : Sat (dvS xd D k) w) : Calls Tryz.prog 97 [.pointer (some ⟨xd.db, 0, none⟩), .int .i64 (th : Nat), .int .u64 e0, .slice p Fs.length cp].toArray w fun e w' => ∃ y : ArR × ArS, OvA th D.length e0 Fs y ∧ e = .returned (.tuple #[.pointer (some ⟨y.1.a, 0, none⟩), .int .i64 0]) ∧ Hp ⟨w, V.ids (dvS xd D k)⟩ (arS y.1 y.2 xd.db ++ dvS xd D k) w' := by
  refine (over_g xd D k hD th h1 h4 e0 he Fs p cp hF hk w hp hpd hs).mono fun e w' ⟨q, hq, he, hw⟩ => ?_
  rcases q with _ | q
  · have h8 := hq.ok
    rw [decide_eq_true hE] at h8; cases h8
  · rw [hE] at he
    exact ⟨q, hq, he, hw⟩
set_option maxHeartbeats 1600000 in
theorem rebF_g (pb rb : Nat) (x : DvR) (v : Dev) (r : Rvl) (hr : ownOk 9 r.kp.length (r.kp.flatMap fdC) r.ko) (hk : r.kp.length ≤ 800 ∧ ∀ f ∈ r.kp, fdOk f) (hE : ovE v.D.length r.kp = 0) (hL : 10 ≤ v.D.length ∧ v.D.length ≤ 1000) (th : Nat) (h1 : 1 ≤ th) (h4 : th ≤ 4) (hth : r.th = (th : Nat)) (he : 0 ≤ r.e ∧ r.e ≤ 1152921504606846976) (dn m1 : Int) (w : World) (hs : Sat ([(pb, .cells [.pointer (some ⟨rb, 0, none⟩)].toArray 29 (0, 0))] :: (rvS rb x.db { r with dn := dn, m1 := m1 } ++ vS x v)) w) : Calls Tryz.prog 102 [.pointer (some ⟨pb, 0, none⟩)].toArray w fun e w' => ∃ y : ArR × ArS, OvA th v.D.length r.e r.kp y ∧ e = .returned (.tuple #[]) ∧ Hp ⟨w, V.ids ([(pb, .cells [.pointer (some ⟨rb, 0, none⟩)].toArray 29 (0, 0))] :: (rvS rb x.db { r with dn := dn, m1 := m1 } ++ vS x v))⟩ ([(pb, .cells [.pointer (some ⟨rb, 0, none⟩)].toArray 29 (0, 0))] :: (rvS rb x.db { r with dn := dn, m1 := m1, st := .pointer (some ⟨y.1.a, 0, none⟩), why := 0 } ++ (arS y.1 y.2 x.db ++ vS x v))) w' := by
  obtain ⟨pd, cd, hvd, hsd⟩ := own_slF r.kp r.ko hr
  refine V.calls ([(pb, .cells [.pointer (some ⟨rb, 0, none⟩)].toArray 29 (0, 0))] :: (rvS rb x.db { r with dn := dn, m1 := m1 } ++ vS x v)) Tryz.func102 rfl Tryz.ntmps102 (Nat.le_of_ble_eq_true rfl) hs <| Dr ([[(pb, .cells [.pointer (some ⟨rb, 0, none⟩)].toArray 29 (0, 0))]]) <| Rv 0 rfl (Ld (v := .pointer (some ⟨rb, 0, none⟩))) <| Rv 1 rfl (Ld (v := .pointer (some ⟨rb, 0, none⟩))) <| Rv 2 rfl (Ld (v := .pointer (some ⟨rb, 0, none⟩))) <| Rv 3 rfl Nz <| Rv 4 rfl (Fa 0 26) <| Rv 6 rfl (Ld (v := .pointer (some ⟨rb, 0, none⟩))) <| Rv 7 rfl Nz <| Rv 8 rfl (Fa 1 3) <| Rv 10 rfl (Ld (v := .pointer (some ⟨rb, 0, none⟩))) <| Rv 11 rfl Nz <| Rv 12 rfl (Fa 3 22) <| Rv 14 rfl (Ld (v := .pointer (some ⟨rb, 0, none⟩))) <| Rv 15 rfl Nz <| Rv 16 rfl (Fa 6 33) <| RW.batch [(5, 7, _), (9, 11, _), (13, 15, _), (17, 19, _)] 10 rfl (by kernel_rfl) rfl rfl (by simp) (by simp) ⟨⟨_, rfl, rfl, rfl, Eff.ofVal (Ld (v := .pointer (some ⟨x.db, 0, none⟩)))⟩, ⟨_, rfl, rfl, rfl, Eff.ofVal (Ld (v := .int .i64 r.th))⟩, ⟨_, rfl, rfl, rfl, Eff.ofVal (Ld (v := .int .u64 r.e))⟩, ⟨_, rfl, rfl, rfl, Eff.ofVal (Ld (v := ownV r.kp.length r.ko))⟩, trivial⟩ ⟨_, (by repeat (first | exact .nil | apply Pick.cons | exact .here | apply Ext.there))⟩ <| RW.re 11 (.int .i64 (th : Nat)) rfl (by rw [hth]) <| RW.re 19 (.slice pd r.kp.length cd) rfl hvd <| Re 18 rfl (CM (dvS x v.D v.k) fun w hw hs0 => over_ok x v.D v.k hL th h1 h4 r.e he r.kp pd cd hk.1 hk.2 hE w (hsd hw (by repeat (first | exact .nil | apply Pick.cons | exact .here | apply Ext.there))) (own_notF hw hvd (show Pick (ownG 45 (r.kp.flatMap fdC) r.ko :: vS x v) _ _ from (by repeat (first | exact .nil | apply Pick.cons | exact .here | apply Ext.there)))) hs0) fun y hy => Rv 19 rfl Mv <| Rv 20 rfl Ex <| Rv 21 rfl Ex <| Rv 22 rfl Nz <| Rv 23 rfl (Fa 10 30) <| ReN 24 rfl StS fun _ _ => Rv 25 rfl Nz <| Rv 26 rfl (Fa 11 36) <| ReN 27 rfl StS fun _ _ => Rd <| PQ.end0 rfl ?_
  intro w' hw; exact ⟨y, hy, rfl, hw.pick (by repeat (first | exact .nil | apply Pick.cons | exact .here | apply Ext.there))⟩
theorem slow_g (pb rb : Nat) (x : DvR) (v : Dev) (r : Rvl) (hr : ownOk 9 r.kp.length (r.kp.flatMap fdC) r.ko) (hk : r.kp.length ≤ 800 ∧ ∀ f ∈ r.kp, fdOk f) (hE : ovE v.D.length r.kp = 0) (hL : 10 ≤ v.D.length ∧ v.D.length ≤ 1000) (th : Nat) (h1 : 1 ≤ th) (h4 : th ≤ 4) (hth : r.th = (th : Nat)) (he : 0 ≤ r.e ∧ r.e ≤ 1152921504606846976) (w : World) (hs : Sat ([(pb, .cells [.pointer (some ⟨rb, 0, none⟩)].toArray 29 (0, 0))] :: (rvS rb x.db { r with dn := 0, m1 := 0 } ++ vS x v)) w) : Calls Tryz.prog 130 [.pointer (some ⟨rb, 7, none⟩), .func (.func 102) #[] #[.pointer (some ⟨pb, 0, none⟩)]].toArray w fun e w' => ∃ y : ArR × ArS, OvA th v.D.length r.e r.kp y ∧ e = .returned (.tuple #[]) ∧ Hp ⟨w, V.ids ([(pb, .cells [.pointer (some ⟨rb, 0, none⟩)].toArray 29 (0, 0))] :: (rvS rb x.db { r with dn := 0, m1 := 0 } ++ vS x v))⟩ ([(pb, .cells [.pointer (some ⟨rb, 0, none⟩)].toArray 29 (0, 0))] :: (rvS rb x.db { r with dn := 1, m1 := 0, st := .pointer (some ⟨y.1.a, 0, none⟩), why := 0 } ++ (arS y.1 y.2 x.db ++ vS x v))) w' := by
  refine V.callsDf ([(pb, .cells [.pointer (some ⟨rb, 0, none⟩)].toArray 29 (0, 0))] :: (rvS rb x.db { r with dn := 0, m1 := 0 } ++ vS x v)) Tryz.func130 rfl Tryz.ntmps130 (Nat.le_of_ble_eq_true rfl) hs <| Sq <| Rg <| Lv Mv <| Lv Nz <| Lv (Fa 1 109) <| Le (CM ([[rvO rb x.db { r with dn := 0, m1 := 0 }]]) fun w hw hs => lock_c rb 8 (rvC x.db { r with dn := 0, m1 := 0 }) 113 w rfl hs) fun _ _ => Nl <| Ps <| Sq <| Rg <| Lv Mv <| Lv Nz <| Lv (Fa 1 109) <| LW.dfr rfl rfl <| CD.seq <| CD.region <| Lv Mv <| Lv Nz <| Lv (Fa 0 105) <| Le (CV fun w hw => bLoad_c 0 rb 7 (rvC x.db { r with dn := 0, m1 := 1 }) 113 w rfl hw.pk.sat) fun _ _ => Lv Nt <| Nl <| PQ.seqD <| CD.cond_t rfl <| CD.seq <| CD.region <| Lv Mv <| Lv Nz <| Lv (Fa 0 105) <| LW.dfr2 rfl rfl <| CD.region <| Lv Mv <| Le (Eff.callFM (f := 102) (caps := [.pointer (some ⟨pb, 0, none⟩)]) ([(pb, .cells [.pointer (some ⟨rb, 0, none⟩)].toArray 29 (0, 0))] :: (rvS rb x.db { r with dn := 0, m1 := 1 } ++ vS x v)) (by repeat (first | exact .nil | apply Pick.cons | exact .here | apply Ext.there)) rfl rfl Tryz.call102 (fun w hw hs => rebF_g pb rb x v r hr hk hE hL th h1 h4 hth he 0 1 w hs)) fun y hy => Nl <| PQ.endD fun ac w' ha hw => ?_
  skip
  refine Leaves.call (ss := [[rvO rb x.db { r with dn := 0, m1 := 1, st := .pointer (some ⟨y.1.a, 0, none⟩), why := 0 }]]) hw (by repeat (first | exact .nil | apply Pick.cons | exact .here | apply Ext.there)) Tryz.call165 (fun hs => sto_d _ rb 7 (rvC x.db { r with dn := 0, m1 := 1, st := .pointer (some ⟨y.1.a, 0, none⟩), why := 0 }) 113 w' rfl hs) fun _ w' _ hw => ?_
  skip
  refine Leaves.call (ss := [[rvO rb x.db { r with dn := 1, m1 := 1, st := .pointer (some ⟨y.1.a, 0, none⟩), why := 0 }]]) hw (by repeat (first | exact .nil | apply Pick.cons | exact .here | apply Ext.there)) Tryz.call164 (fun hs => unl_d rb 8 (rvC x.db { r with dn := 1, m1 := 1, st := .pointer (some ⟨y.1.a, 0, none⟩), why := 0 }) 113 w' rfl hs) fun _ w' _ hw => ?_
  skip
  exact Leaves.nil0 rfl ⟨y, hy, rfl, hw.pick (by repeat (first | exact .nil | apply Pick.cons | exact .here | apply Ext.there))⟩
theorem do_g (pb rb : Nat) (x : DvR) (v : Dev) (r : Rvl) (hr : ownOk 9 r.kp.length (r.kp.flatMap fdC) r.ko) (hk : r.kp.length ≤ 800 ∧ ∀ f ∈ r.kp, fdOk f) (hE : ovE v.D.length r.kp = 0) (hL : 10 ≤ v.D.length ∧ v.D.length ≤ 1000) (th : Nat) (h1 : 1 ≤ th) (h4 : th ≤ 4) (hth : r.th = (th : Nat)) (he : 0 ≤ r.e ∧ r.e ≤ 1152921504606846976) (w : World) (hs : Sat ([(pb, .cells [.pointer (some ⟨rb, 0, none⟩)].toArray 29 (0, 0))] :: (rvS rb x.db { r with dn := 0, m1 := 0 } ++ vS x v)) w) : Calls Tryz.prog 101 [.pointer (some ⟨rb, 7, none⟩), .func (.func 102) #[] #[.pointer (some ⟨pb, 0, none⟩)]].toArray w fun e w' => ∃ y : ArR × ArS, OvA th v.D.length r.e r.kp y ∧ e = .returned (.tuple #[]) ∧ Hp ⟨w, V.ids ([(pb, .cells [.pointer (some ⟨rb, 0, none⟩)].toArray 29 (0, 0))] :: (rvS rb x.db { r with dn := 0, m1 := 0 } ++ vS x v))⟩ ([(pb, .cells [.pointer (some ⟨rb, 0, none⟩)].toArray 29 (0, 0))] :: (rvS rb x.db { r with dn := 1, m1 := 0, st := .pointer (some ⟨y.1.a, 0, none⟩), why := 0 } ++ (arS y.1 y.2 x.db ++ vS x v))) w' := by
  refine V.calls ([(pb, .cells [.pointer (some ⟨rb, 0, none⟩)].toArray 29 (0, 0))] :: (rvS rb x.db { r with dn := 0, m1 := 0 } ++ vS x v)) Tryz.func101 rfl Tryz.ntmps101 (Nat.le_of_ble_eq_true rfl) hs <| Sq <| Rg <| Lv Mv <| Lv Nz <| Lv (Fa 0 105) <| Le (CV fun w hw => bLoad_c 0 rb 7 (rvC x.db { r with dn := 0, m1 := 0 }) 113 w rfl hw.pk.sat) fun _ _ => Lv Nt <| Nl <| Ps <| Ct <| Rg <| Lv Mv <| Lv Mv <| Le (CM (([(pb, .cells [.pointer (some ⟨rb, 0, none⟩)].toArray 29 (0, 0))] :: (rvS rb x.db { r with dn := 0, m1 := 0 } ++ vS x v))) fun w hw hs => slow_g pb rb x v r hr hk hE hL th h1 h4 hth he w hs) fun y hy => Nl <| PQ.end0 rfl ?_
  intro w' hw; exact ⟨y, hy, rfl, hw.pick (by repeat (first | exact .nil | apply Pick.cons | exact .here | apply Ext.there))⟩
theorem rbuild_g (rb : Nat) (x : DvR) (v : Dev) (r : Rvl) (hr : ownOk 9 r.kp.length (r.kp.flatMap fdC) r.ko) (hk : r.kp.length ≤ 800 ∧ ∀ f ∈ r.kp, fdOk f) (hE : ovE v.D.length r.kp = 0) (hL : 10 ≤ v.D.length ∧ v.D.length ≤ 1000) (th : Nat) (h1 : 1 ≤ th) (h4 : th ≤ 4) (hth : r.th = (th : Nat)) (he : 0 ≤ r.e ∧ r.e ≤ 1152921504606846976) (w : World) (hs : Sat (rvS rb x.db { r with dn := 0, m1 := 0 } ++ vS x v) w) : Calls Tryz.prog 73 [.pointer (some ⟨rb, 0, none⟩)].toArray w fun e w' => ∃ y : ArR × ArS, OvA th v.D.length r.e r.kp y ∧ e = .returned (.int .i64 0) ∧ Hp ⟨w, V.ids (rvS rb x.db { r with dn := 0, m1 := 0 } ++ vS x v)⟩ (rvS rb x.db { r with ph := 6, nx := 0, dn := 1, m1 := 0, st := .pointer (some ⟨y.1.a, 0, none⟩), why := 0 } ++ (arS y.1 y.2 x.db ++ vS x v)) w' := by
  refine V.calls (rvS rb x.db { r with dn := 0, m1 := 0 } ++ vS x v) Tryz.func73 rfl Tryz.ntmps73 (Nat.le_of_ble_eq_true rfl) hs <| Sq <| Rg <| Le XS fun b1 _ => Lv Av <| Nl <| Ps <| Sq <| Rg <| Lv (Ld (v := .pointer (some ⟨rb, 0, none⟩))) <| Lv Nz <| Lv (Fa 7 111) <| Lv Mf <| Le (CM (([(b1, .cells [.pointer (some ⟨rb, 0, none⟩)].toArray 29 (0, 0))] :: (rvS rb x.db { r with dn := 0, m1 := 0 } ++ vS x v))) fun w hw hs => do_g b1 rb x v r hr hk hE hL th h1 h4 hth he w hs) fun y hy => Nl <| Ps <| Sq <| Sq <| Rg <| Lv (Ld (v := .pointer (some ⟨rb, 0, none⟩))) <| Lv Nz <| Lv (Fa 11 36) <| Lv (Ld (v := .int .i64 0)) <| Lv Cm <| Nl <| Ps <| Cf <| Sk <| Ps <| Sq <| Rg <| Lv (Ld (v := .pointer (some ⟨rb, 0, none⟩))) <| Le (CM ([[rvO rb x.db { r with dn := 1, m1 := 0, st := .pointer (some ⟨y.1.a, 0, none⟩), why := 0 }]]) fun w hw hs => to_g rb x.db { r with dn := 1, m1 := 0, st := .pointer (some ⟨y.1.a, 0, none⟩), why := 0 } 6 w hs) fun _ _ => Lv Av <| Nl <| Ps <| Rt <| Rt1 ?_
  intro w' hw; exact ⟨y, hy, rfl, hw.pick (by repeat (first | exact .nil | apply Pick.cons | exact .here | apply Ext.there))⟩
end G
end Go.Proofs.YtcnjjefbnlgdjaaGreat

/- A revival, step by step. -/
namespace Go.Proofs.YtcnjjefbnlgdjaaGreat
open Go Go.RowKit V
set_option linter.unusedVariables false
set_option maxRecDepth 100000
namespace G
open V (str byC ownV ownG ownS ownOk)
theorem places113 : ∀ w, ((Array.mapM (fun (f : Field) => do pure (f.offset, ← sizeOf f.type)) (Tryz.prog.fieldsOf 113) : Sem (Array (Nat × Nat)))).run Tryz.prog w = .ok [(0, 1), (1, 1), (2, 1), (3, 1), (4, 1), (5, 1), (6, 1), (7, 3), (10, 1), (11, 1)].toArray w := by
  intro w; kernel_rfl
instance : Und Tryz.prog 120 (dOf Tryz.underlying120) := ⟨Tryz.underlying120⟩
instance : Siz Tryz.prog 120 (kOf Tryz.sizeOf120) := ⟨Tryz.sizeOf120⟩
instance : AgF Tryz.prog 120 := ⟨Tryz.isAgg120⟩
instance : Zer Tryz.prog 120 (zOf Tryz.zeroValue120) := ⟨Tryz.zeroValue120⟩
instance : Und Tryz.prog 121 (dOf Tryz.underlying121) := ⟨Tryz.underlying121⟩
instance : Siz Tryz.prog 121 (kOf Tryz.sizeOf121) := ⟨Tryz.sizeOf121⟩
instance : AgT Tryz.prog 121 := ⟨Tryz.isAgg121⟩
instance : Zer Tryz.prog 121 (zOf Tryz.zeroValue121) := ⟨Tryz.zeroValue121⟩
instance : Plc Tryz.prog 113 (fOf Tryz.underlying113) (lOf (P := Tryz.prog) places113) := ⟨places113, Tryz.underlying113⟩
instance : Cal Tryz.prog 46 := ⟨Tryz.call46⟩
abbrev phL : List Value := [.func (.func 68) #[] #[], .func (.func 69) #[] #[], .func (.func 70) #[] #[], .func (.func 71) #[] #[], .func (.func 72) #[] #[], .func (.func 73) #[] #[]]
theorem phases_g (w : World) : Calls Tryz.prog 46 [].toArray w fun e w' => e = .returned (.agg phL.toArray) ∧ Below w.heap.size w w' := by
  refine V.calls [] Tryz.func46 rfl Tryz.ntmps46 (Nat.le_of_ble_eq_true rfl) (V.sat_nil _) <| Sq <| Rg <| Le AA fun b0 _ => Nl <| Ps <| Sq <| Rg <| Lv (Val.buildArr [_, _, _, _, _, _] Tryz.zeroValue121 Tryz.underlying121 Tryz.sizeOf120 rfl (by rfl)) <| LeN StW fun _ _ => Nl <| Ps <| Rt <| PQ.retC (l := phL) rfl rfl (by repeat (first | exact .here | exact .inner .here | exact .inner (.inner .here) | refine .there ?_)) Tryz.isAgg121 (by exact Tryz.sizeOf121) ?_
  intro w' hw; exact ⟨rfl, hw.below⟩
def rv0 (th : Int) : Rvl := ⟨th, 0, 0, 0, [], none, [], none, 0, 0, 0, .pointer none, 0⟩
theorem rnew2_g (db : Nat) (th : Int) (h : 1 ≤ th ∧ th ≤ 4) (w : World) : Calls Tryz.prog 17 [.pointer (some ⟨db, 0, none⟩), .int .i64 th].toArray w fun e w' => ∃ rb : Nat, True ∧ e = .returned (.tuple #[.pointer (some ⟨rb, 0, none⟩), .int .i64 0]) ∧ Hp ⟨w, []⟩ (rvS rb db (rv0 th)) w' := by
  refine V.calls [] Tryz.func17 rfl Tryz.ntmps17 (Nat.le_of_ble_eq_true rfl) (V.sat_nil _) <| Sq <| Rg <| Lv Av <| Lv Av <| Nl <| Ps <| Sq <| Sq <| Rg <| Lv Mv <| Lv EP <| Nl <| Ps <| Cf <| Sk <| Ps <| Sq <| Sq <| Rg <| Lv Mv <| Lv Cm <| LW.re 9 (.bool false) rfl (by first | rfl | (congr 1; simp <;> omega) | (congr 1; simp; done) | (simp <;> omega)) <| Lv Mv <| LW.re 10 (.bool false) rfl (by first | rfl | (congr 1; simp <;> omega) | (congr 1; simp; done) | (simp <;> omega)) <| Lv Mv <| Lv Cm <| Lv Pf <| LW.re 13 (.bool false) rfl (by first | rfl | (congr 1; simp <;> omega) | (congr 1; simp; done) | (simp <;> omega)) <| Nl <| Ps <| Cf <| Sk <| Ps <| Sq <| Rg <| Lv Mv <| Lv Mv <| Lv (Bd [_, _, _, _, _, _, _, _, _, _, _, _]) <| Le XA fun b17 _ => Lv Av <| Lv Av <| Nl <| Ps <| Rt <| Rt2 ?_
  intro w' hw; exact ⟨b17, trivial, rfl, hw.perm (.refl _)⟩
theorem st_open_g (rb : Nat) (x : DvR) (v : Dev) (r : Rvl) (hL : 0 < v.D.length ∧ v.D.length ≤ 1000) (hph : r.ph = 0) (w : World) (hs : Sat (rvS rb x.db r ++ vS x v) w) : Calls Tryz.prog 19 [.pointer (some ⟨rb, 0, none⟩)].toArray w fun e w' => ∃ _u : Unit, True ∧ e = .returned (.int .i64 (openF v.D).2) ∧ Hp ⟨w, V.ids (rvS rb x.db r ++ vS x v)⟩ (rvS rb x.db (if (openF v.D).2 = 0 then opR v.D r else { r with ph := 7 }) ++ vS x v) w' := by
  refine V.calls (rvS rb x.db r ++ vS x v) Tryz.func19 rfl Tryz.ntmps19 (Nat.le_of_ble_eq_true rfl) hs <| Sq <| Rg <| Lv Av <| Nl <| Ps <| Sq <| Sq <| Rg <| Lv Mv <| Lv EP <| Nl <| Ps <| Cf <| Sk <| Ps <| Sq <| Rg <| Le (CV fun w hw => phases_g w) fun _ _ => Le AA fun b3 _ => LeN StW fun _ _ => Nl <| Ps <| Sq <| Sq <| Rg <| Lv Mv <| Lv Nz <| Lv (Fa 2 3) <| Lv (Ld (v := .int .i64 r.ph)) <| Lv Cm <| LW.re 12 (.bool false) rfl (by rw [hph]; rfl) <| Nl <| Ps <| Cf <| Sk <| Ps <| Sq <| Rg <| Lv Mv <| Lv Nz <| Lv (Fa 2 3) <| Lv (Ld (v := .int .i64 r.ph)) <| LW.re 16 (.int .i64 ((0 : Nat) : Int)) rfl (by rw [hph]; rfl) <| Lv (Val.indexAddrA (i := 0) rfl rfl Tryz.underlying121 Tryz.sizeOf120 (by decide)) <| Lv Ld <| Lv Mv <| Le (Eff.callFM (f := 68) (caps := []) (([rvO rb x.db r] :: vS x v)) (by repeat (first | exact .nil | apply Pick.cons | exact .here | apply Ext.there)) rfl rfl Tryz.call68 (fun w hw hs0 => ropen_g rb x v r hL w hs0)) fun _ _ => Lv Av <| Nl <| Ps <| Sq <| Sq <| Rg <| Lv Mv <| Lv Cm <| Nl <| Ps ?_
  refine CW.cond rfl (fun h22 => ?_) (fun h22 => ?_)
  · replace h22 := bT h22
    refine Rg <| Lv Mv <| Lv Nz <| Lv (Fa 2 3) <| LeN StS fun _ _ => Nl <| Ps <| Sq <| Rg <| Lv Mv <| Lv Av <| Nl <| Ps <| Rt <| Rt1 ?_
    rw [if_neg (show ¬ (openF v.D).2 = 0 from h22)]
    have e7 : opR v.D r = r := by unfold opR; rw [if_neg h22]
    rw [e7] at *
    intro w' hw; exact ⟨(), trivial, rfl, hw.pick (by repeat (first | exact .nil | apply Pick.cons | exact .here | apply Ext.there))⟩
  · replace h22 := bF h22
    refine Sk <| Ps <| Sq <| Rg <| Lv Mv <| Lv Av <| Nl <| Ps <| Rt <| Rt1 ?_
    have h44 : (openF v.D).2 = 0 := by simpa using h22
    rw [if_pos h44]
    have e7 : opR v.D r = { r with e := (openF v.D).1, ph := 1, nx := 0 } := by unfold opR; rw [if_pos h44]
    rw [e7]
    intro w' hw
    exact ⟨(), trivial, rfl, hw.pick (by repeat (first | exact .nil | apply Pick.cons | exact .here | apply Ext.there))⟩
theorem st_scan_g (rb : Nat) (x : DvR) (v : Dev) (r : Rvl) (hL : 0 < v.D.length ∧ v.D.length ≤ 1000) (hr : RvOk r) (hn : r.nx ≤ 256 ∧ r.fd.length ≤ 700) (hph : r.ph = 1) (w : World) (hs : Sat (rvS rb x.db r ++ vS x v) w) : Calls Tryz.prog 19 [.pointer (some ⟨rb, 0, none⟩)].toArray w fun e w' => ∃ o : V.OwnO, ownOk 9 (scR v.D r o).fd.length ((scR v.D r o).fd.flatMap fdC) o ∧ e = .returned (.int .i64 0) ∧ Hp ⟨w, V.ids (rvS rb x.db r ++ vS x v)⟩ (rvS rb x.db (scR v.D r o) ++ vS x v) w' := by
  have hfo : ∀ o, (scR v.D r o).fo = o ∧ (scR v.D r o).kp = r.kp ∧ (scR v.D r o).ko = r.ko := fun o => by
    unfold scR; simp only; split <;> exact ⟨rfl, rfl, rfl⟩
  refine V.calls (rvS rb x.db r ++ vS x v) Tryz.func19 rfl Tryz.ntmps19 (Nat.le_of_ble_eq_true rfl) hs <| Sq <| Rg <| Lv Av <| Nl <| Ps <| Sq <| Sq <| Rg <| Lv Mv <| Lv EP <| Nl <| Ps <| Cf <| Sk <| Ps <| Sq <| Rg <| Le (CV fun w hw => phases_g w) fun _ _ => Le AA fun b3 _ => LeN StW fun _ _ => Nl <| Ps <| Sq <| Sq <| Rg <| Lv Mv <| Lv Nz <| Lv (Fa 2 3) <| Lv (Ld (v := .int .i64 r.ph)) <| Lv Cm <| LW.re 12 (.bool false) rfl (by rw [hph]; rfl) <| Nl <| Ps <| Cf <| Sk <| Ps <| Sq <| Rg <| Lv Mv <| Lv Nz <| Lv (Fa 2 3) <| Lv (Ld (v := .int .i64 r.ph)) <| LW.re 16 (.int .i64 ((1 : Nat) : Int)) rfl (by rw [hph]; rfl) <| Lv (Val.indexAddrA (i := 1) rfl rfl Tryz.underlying121 Tryz.sizeOf120 (by decide)) <| Lv Ld <| Lv Mv <| Le (Eff.callFM (f := 69) (caps := []) (([rvO rb x.db r] :: [ownG 45 (r.fd.flatMap fdC) r.fo] ++ vS x v)) (by repeat (first | exact .nil | apply Pick.cons | exact .here | apply Ext.there)) rfl rfl Tryz.call69 (fun w hw hs0 => rscan_g rb x v r hL hr hn w hs0)) fun o ho => Lv Av <| Nl <| Ps <| Sq <| Sq <| Rg <| Lv Mv <| Lv Cm <| Nl <| Ps <| Cf <| Sk <| Ps <| Sq <| Rg <| Lv Mv <| Lv Av <| Nl <| Ps <| Rt <| Rt1 ?_
  obtain ⟨e1, e2, e3⟩ := hfo o
  intro w' hw
  refine ⟨o, ho, rfl, ?_⟩
  unfold rvS
  rw [e1, e2, e3]
  exact hw.pick (by repeat (first | exact .nil | apply Pick.cons | exact .here | apply Ext.there))
theorem st_decide_g (rb : Nat) (x : DvR) (v : Dev) (r : Rvl) (hr : RvOk r) (hL : 10 ≤ v.D.length ∧ v.D.length ≤ 1000) (th : Nat) (h1 : 1 ≤ th) (h4 : th ≤ 4) (hth : r.th = (th : Nat)) (he : 0 ≤ r.e ∧ r.e ≤ 1152921504606846976) (hph : r.ph = 2) (w : World) (hs : Sat (rvS rb x.db r ++ vS x v) w) : Calls Tryz.prog 19 [.pointer (some ⟨rb, 0, none⟩)].toArray w fun e w' => ∃ o : V.OwnO, ownOk 9 (decR v.D.length r o).kp.length ((decR v.D.length r o).kp.flatMap fdC) (decR v.D.length r o).ko ∧ e = .returned (.int .i64 (ovE v.D.length (decK r.e r.fd))) ∧ Hp ⟨w, V.ids (rvS rb x.db r ++ vS x v)⟩ (rvS rb x.db (if ovE v.D.length (decK r.e r.fd) = 0 then decR v.D.length r o else { r with ph := 7 }) ++ vS x v) w' := by
  refine V.calls (rvS rb x.db r ++ vS x v) Tryz.func19 rfl Tryz.ntmps19 (Nat.le_of_ble_eq_true rfl) hs <| Sq <| Rg <| Lv Av <| Nl <| Ps <| Sq <| Sq <| Rg <| Lv Mv <| Lv EP <| Nl <| Ps <| Cf <| Sk <| Ps <| Sq <| Rg <| Le (CV fun w hw => phases_g w) fun _ _ => Le AA fun b3 _ => LeN StW fun _ _ => Nl <| Ps <| Sq <| Sq <| Rg <| Lv Mv <| Lv Nz <| Lv (Fa 2 3) <| Lv (Ld (v := .int .i64 r.ph)) <| Lv Cm <| LW.re 12 (.bool false) rfl (by rw [hph]; rfl) <| Nl <| Ps <| Cf <| Sk <| Ps <| Sq <| Rg <| Lv Mv <| Lv Nz <| Lv (Fa 2 3) <| Lv (Ld (v := .int .i64 r.ph)) <| LW.re 16 (.int .i64 ((2 : Nat) : Int)) rfl (by rw [hph]; rfl) <| Lv (Val.indexAddrA (i := 2) rfl rfl Tryz.underlying121 Tryz.sizeOf120 (by decide)) <| Lv Ld <| Lv Mv <| Le (Eff.callFM (f := 70) (caps := []) ((rvS rb x.db r ++ vS x v)) (by repeat (first | exact .nil | apply Pick.cons | exact .here | apply Ext.there)) rfl rfl Tryz.call70 (fun w hw hs0 => rdecide_g rb x v r hr hL th h1 h4 hth he w hs0)) fun o ho => Lv Av <| Nl <| Ps <| Sq <| Sq <| Rg <| Lv Mv <| Lv Cm <| Nl <| Ps ?_
  refine CW.cond rfl (fun h22 => ?_) (fun h22 => ?_)
  · replace h22 := bT h22
    refine Rg <| Lv Mv <| Lv Nz <| Lv (Fa 2 3) <| LeN StS fun _ _ => Nl <| Ps <| Sq <| Rg <| Lv Mv <| Lv Av <| Nl <| Ps <| Rt <| Rt1 ?_
    have e7 : decR v.D.length r o = r := by unfold decR; rw [if_neg h22]
    intro w' hw
    rw [e7] at hw
    exact ⟨o, ho, rfl, by rw [if_neg (show ¬ ovE v.D.length (decK r.e r.fd) = 0 from h22)]; exact hw.pick (by repeat (first | exact .nil | apply Pick.cons | exact .here | apply Ext.there))⟩
  · replace h22 := bF h22
    refine Sk <| Ps <| Sq <| Rg <| Lv Mv <| Lv Av <| Nl <| Ps <| Rt <| Rt1 ?_
    have h44 : ovE v.D.length (decK r.e r.fd) = 0 := by simpa using h22
    intro w' hw; exact ⟨o, ho, rfl, by rw [if_pos h44]; exact hw.pick (by repeat (first | exact .nil | apply Pick.cons | exact .here | apply Ext.there))⟩
theorem st_scrub_g (rb : Nat) (x : DvR) (v : Dev) (r : Rvl) (hr : RvOk r) (hn : r.nx ≤ r.fd.length) (hL : v.D.length ≤ 1000) (hph : r.ph = 3) (w : World) (hs : Sat (rvS rb x.db r ++ vS x v) w) : Calls Tryz.prog 19 [.pointer (some ⟨rb, 0, none⟩)].toArray w fun e w' => ∃ _u : Unit, True ∧ e = .returned (.int .i64 0) ∧ Hp ⟨w, V.ids (rvS rb x.db r ++ vS x v)⟩ (rvS rb x.db (wpR (scrubF r.e r.fd) r 4) ++ vS x (wpV (scrubF r.e r.fd) v r)) w' := by
  refine V.calls (rvS rb x.db r ++ vS x v) Tryz.func19 rfl Tryz.ntmps19 (Nat.le_of_ble_eq_true rfl) hs <| Sq <| Rg <| Lv Av <| Nl <| Ps <| Sq <| Sq <| Rg <| Lv Mv <| Lv EP <| Nl <| Ps <| Cf <| Sk <| Ps <| Sq <| Rg <| Le (CV fun w hw => phases_g w) fun _ _ => Le AA fun b3 _ => LeN StW fun _ _ => Nl <| Ps <| Sq <| Sq <| Rg <| Lv Mv <| Lv Nz <| Lv (Fa 2 3) <| Lv (Ld (v := .int .i64 r.ph)) <| Lv Cm <| LW.re 12 (.bool false) rfl (by rw [hph]; rfl) <| Nl <| Ps <| Cf <| Sk <| Ps <| Sq <| Rg <| Lv Mv <| Lv Nz <| Lv (Fa 2 3) <| Lv (Ld (v := .int .i64 r.ph)) <| LW.re 16 (.int .i64 ((3 : Nat) : Int)) rfl (by rw [hph]; rfl) <| Lv (Val.indexAddrA (i := 3) rfl rfl Tryz.underlying121 Tryz.sizeOf120 (by decide)) <| Lv Ld <| Lv Mv <| Le (Eff.callFM (f := 71) (caps := []) ((rvS rb x.db r ++ vS x v)) (by repeat (first | exact .nil | apply Pick.cons | exact .here | apply Ext.there)) rfl rfl Tryz.call71 (fun w hw hs0 => rscrub_g rb x v r hr hn hL w hs0)) fun _ _ => Lv Av <| Nl <| Ps <| Sq <| Sq <| Rg <| Lv Mv <| Lv Cm <| Nl <| Ps <| Cf <| Sk <| Ps <| Sq <| Rg <| Lv Mv <| Lv Av <| Nl <| Ps <| Rt <| Rt1 ?_
  intro w' hw; exact ⟨(), trivial, rfl, hw.pick (by repeat (first | exact .nil | apply Pick.cons | exact .here | apply Ext.there))⟩
theorem st_antis_g (rb : Nat) (x : DvR) (v : Dev) (r : Rvl) (hr : RvOk r) (hn : r.nx ≤ r.fd.length) (hL : v.D.length ≤ 1000) (hph : r.ph = 4) (w : World) (hs : Sat (rvS rb x.db r ++ vS x v) w) : Calls Tryz.prog 19 [.pointer (some ⟨rb, 0, none⟩)].toArray w fun e w' => ∃ _u : Unit, True ∧ e = .returned (.int .i64 0) ∧ Hp ⟨w, V.ids (rvS rb x.db r ++ vS x v)⟩ (rvS rb x.db (wpR (antiF r.e) r 5) ++ vS x (wpV (antiF r.e) v r)) w' := by
  refine V.calls (rvS rb x.db r ++ vS x v) Tryz.func19 rfl Tryz.ntmps19 (Nat.le_of_ble_eq_true rfl) hs <| Sq <| Rg <| Lv Av <| Nl <| Ps <| Sq <| Sq <| Rg <| Lv Mv <| Lv EP <| Nl <| Ps <| Cf <| Sk <| Ps <| Sq <| Rg <| Le (CV fun w hw => phases_g w) fun _ _ => Le AA fun b3 _ => LeN StW fun _ _ => Nl <| Ps <| Sq <| Sq <| Rg <| Lv Mv <| Lv Nz <| Lv (Fa 2 3) <| Lv (Ld (v := .int .i64 r.ph)) <| Lv Cm <| LW.re 12 (.bool false) rfl (by rw [hph]; rfl) <| Nl <| Ps <| Cf <| Sk <| Ps <| Sq <| Rg <| Lv Mv <| Lv Nz <| Lv (Fa 2 3) <| Lv (Ld (v := .int .i64 r.ph)) <| LW.re 16 (.int .i64 ((4 : Nat) : Int)) rfl (by rw [hph]; rfl) <| Lv (Val.indexAddrA (i := 4) rfl rfl Tryz.underlying121 Tryz.sizeOf120 (by decide)) <| Lv Ld <| Lv Mv <| Le (Eff.callFM (f := 72) (caps := []) ((rvS rb x.db r ++ vS x v)) (by repeat (first | exact .nil | apply Pick.cons | exact .here | apply Ext.there)) rfl rfl Tryz.call72 (fun w hw hs0 => rantis_g rb x v r hr hn hL w hs0)) fun _ _ => Lv Av <| Nl <| Ps <| Sq <| Sq <| Rg <| Lv Mv <| Lv Cm <| Nl <| Ps <| Cf <| Sk <| Ps <| Sq <| Rg <| Lv Mv <| Lv Av <| Nl <| Ps <| Rt <| Rt1 ?_
  intro w' hw; exact ⟨(), trivial, rfl, hw.pick (by repeat (first | exact .nil | apply Pick.cons | exact .here | apply Ext.there))⟩
theorem st_build_g (rb : Nat) (x : DvR) (v : Dev) (r : Rvl) (hr : ownOk 9 r.kp.length (r.kp.flatMap fdC) r.ko) (hk : r.kp.length ≤ 800 ∧ ∀ f ∈ r.kp, fdOk f) (hE : ovE v.D.length r.kp = 0) (hL : 10 ≤ v.D.length ∧ v.D.length ≤ 1000) (th : Nat) (h1 : 1 ≤ th) (h4 : th ≤ 4) (hth : r.th = (th : Nat)) (he : 0 ≤ r.e ∧ r.e ≤ 1152921504606846976) (hd : r.dn = 0) (hm1 : r.m1 = 0) (hph : r.ph = 5) (w : World) (hs : Sat (rvS rb x.db r ++ vS x v) w) : Calls Tryz.prog 19 [.pointer (some ⟨rb, 0, none⟩)].toArray w fun e w' => ∃ y : ArR × ArS, OvA th v.D.length r.e r.kp y ∧ e = .returned (.int .i64 0) ∧ Hp ⟨w, V.ids (rvS rb x.db r ++ vS x v)⟩ (rvS rb x.db { r with ph := 6, nx := 0, dn := 1, m1 := 0, st := .pointer (some ⟨y.1.a, 0, none⟩), why := 0 } ++ (arS y.1 y.2 x.db ++ vS x v)) w' := by
  have hrr : r = { r with dn := 0, m1 := 0 } := by
    cases r
    simp only at hd hm1
    subst hd
    subst hm1
    rfl
  refine V.calls (rvS rb x.db r ++ vS x v) Tryz.func19 rfl Tryz.ntmps19 (Nat.le_of_ble_eq_true rfl) hs <| Sq <| Rg <| Lv Av <| Nl <| Ps <| Sq <| Sq <| Rg <| Lv Mv <| Lv EP <| Nl <| Ps <| Cf <| Sk <| Ps <| Sq <| Rg <| Le (CV fun w hw => phases_g w) fun _ _ => Le AA fun b3 _ => LeN StW fun _ _ => Nl <| Ps <| Sq <| Sq <| Rg <| Lv Mv <| Lv Nz <| Lv (Fa 2 3) <| Lv (Ld (v := .int .i64 r.ph)) <| Lv Cm <| LW.re 12 (.bool false) rfl (by rw [hph]; rfl) <| Nl <| Ps <| Cf <| Sk <| Ps <| Sq <| Rg <| Lv Mv <| Lv Nz <| Lv (Fa 2 3) <| Lv (Ld (v := .int .i64 r.ph)) <| LW.re 16 (.int .i64 ((5 : Nat) : Int)) rfl (by rw [hph]; rfl) <| Lv (Val.indexAddrA (i := 5) rfl rfl Tryz.underlying121 Tryz.sizeOf120 (by decide)) <| Lv Ld <| Lv Mv <| Le (Eff.callFM (f := 73) (caps := []) ((rvS rb x.db r ++ vS x v)) (by repeat (first | exact .nil | apply Pick.cons | exact .here | apply Ext.there)) rfl rfl Tryz.call73 (fun w hw hs0 => by rw [hrr] at hs0 ⊢; exact rbuild_g rb x v r hr hk hE hL th h1 h4 hth he w hs0)) fun y hy => Lv Av <| Nl <| Ps <| Sq <| Sq <| Rg <| Lv Mv <| Lv Cm <| Nl <| Ps <| Cf <| Sk <| Ps <| Sq <| Rg <| Lv Mv <| Lv Av <| Nl <| Ps <| Rt <| Rt1 ?_
  intro w' hw; exact ⟨y, hy, rfl, hw.pick (by repeat (first | exact .nil | apply Pick.cons | exact .here | apply Ext.there))⟩
theorem st_over_g (rb db : Nat) (r : Rvl) (hph : 6 ≤ r.ph) (w : World) (hs : Sat [[rvO rb db r]] w) : Calls Tryz.prog 19 [.pointer (some ⟨rb, 0, none⟩)].toArray w fun e w' => e = .returned (.int .i64 12) ∧ Below w.heap.size w w' := by
  refine V.calls [[rvO rb db r]] Tryz.func19 rfl Tryz.ntmps19 (Nat.le_of_ble_eq_true rfl) hs <| Sq <| Rg <| Lv Av <| Nl <| Ps <| Sq <| Sq <| Rg <| Lv Mv <| Lv EP <| Nl <| Ps <| Cf <| Sk <| Ps <| Sq <| Rg <| Le (CV fun w hw => phases_g w) fun _ _ => Le AA fun b3 _ => LeN StW fun _ _ => Nl <| Ps <| Sq <| Sq <| Rg <| Lv Mv <| Lv Nz <| Lv (Fa 2 3) <| Lv (Ld (v := .int .i64 r.ph)) <| Lv Cm <| LW.re 12 (.bool true) rfl (by congr 1; simp; omega) <| Nl <| Ps <| Ct <| Sq <| Rg <| Lv Av <| Nl <| Ps <| Rt <| Tr <| Rt1 ?_
  intro w' hw; exact ⟨rfl, hw.ro (by repeat (first | exact .nil | apply Pick.cons | exact .here | apply Ext.there)) hs⟩
end G
end Go.Proofs.YtcnjjefbnlgdjaaGreat

/- A revival: a step as a plain function. -/
namespace Go.Proofs.YtcnjjefbnlgdjaaGreat
open Go Go.RowKit V
set_option linter.unusedVariables false
set_option maxRecDepth 100000
namespace G
open V (str byC ownV ownG ownS ownOk)
/-- What a revival knows. -/
structure Cor where
  ph : Int
  e : Int
  nx : Int
  fd : List Fnd
  kp : List Fnd
def corOf (r : Rvl) : Cor := ⟨r.ph, r.e, r.nx, r.fd, r.kp⟩
def scFd (D : List Ce) (nx : Int) (fd : List Fnd) : List Fnd := match scN D nx with
  | none => fd
  | some y => fd ++ [y]
def scC (D : List Ce) (c : Cor) : Cor :=
  if slabsF D.length * 8 ≤ c.nx + 1 then { c with fd := scFd D c.nx c.fd, ph := 2, nx := 0 } else { c with fd := scFd D c.nx c.fd, nx := c.nx + 1 }
def wpC (q : Fnd → Bool) (c : Cor) (p : Int) : Cor := match nextW q (c.fd.drop c.nx.toNat) with
  | some y => { c with nx := c.nx + ((y.1 + 1 : Nat) : Int) }
  | none => { c with ph := p, nx := 0 }
def wpD (q : Fnd → Bool) (v : Dev) (c : Cor) : Dev := match nextW q (c.fd.drop c.nx.toNat) with
  | some p => wipeV v p.2
  | none => v.fence
/-- A step. -/
def stp (v : Dev) (c : Cor) : Dev × Cor × Int :=
  if c.ph = 0 then (v, if (openF v.D).2 = 0 then { c with e := (openF v.D).1, ph := 1, nx := 0 } else { c with ph := 7 }, (openF v.D).2)
  else if c.ph = 1 then (v, scC v.D c, 0)
  else if c.ph = 2 then (v, if ovE v.D.length (decK c.e c.fd) = 0 then { c with kp := decK c.e c.fd, ph := 3, nx := 0 } else { c with ph := 7 }, ovE v.D.length (decK c.e c.fd))
  else if c.ph = 3 then (wpD (scrubF c.e c.fd) v c, wpC (scrubF c.e c.fd) c 4, 0)
  else if c.ph = 4 then (wpD (antiF c.e) v c, wpC (antiF c.e) c 5, 0)
  else if c.ph = 5 then (v, { c with ph := 6, nx := 0 }, 0)
  else (v, c, 12)
/-- What holds of a revival at each of its steps. -/
structure Inv (n : Nat) (v : Dev) (c : Cor) : Prop where
  len : v.D.length = n
  n1 : 0 < n ∧ n ≤ 1000
  ph : 0 ≤ c.ph
  op : 1 ≤ c.ph → c.ph ≤ 5 → 10 ≤ n ∧ 0 ≤ c.e ∧ c.e ≤ 1152921504606846976
  nx : 0 ≤ c.nx
  f0 : c.ph = 0 → c.fd.length = 0
  n2 : c.ph = 1 → c.nx + 1 ≤ slabsF n * 8 ∧ c.fd.length ≤ c.nx
  fl : c.fd.length ≤ 256
  tx : ∀ f ∈ c.fd, fdOk f
  wp : 2 ≤ c.ph → c.ph ≤ 5 → c.nx ≤ c.fd.length
  fs : 2 ≤ c.ph → c.ph ≤ 5 → (c.fd.length : Int) ≤ slabsF n * 8
  kp : 3 ≤ c.ph → c.ph ≤ 6 → c.kp = decK c.e c.fd ∧ ovE n c.kp = 0
theorem nextW_lt {q : Fnd → Bool} : ∀ {l : List Fnd} {y : Nat × Fnd}, nextW q l = some y → y.1 < l.length ∧ l[y.1]? = some y.2 ∧ q y.2 = true
  | [], y, h => by cases h
  | f :: r, y, h => by
    unfold nextW at h
    split at h
    · rename_i hq
      simp only [Option.some.injEq] at h
      subst h
      exact ⟨by simp, rfl, hq⟩
    · rw [Option.map_eq_some_iff] at h
      obtain ⟨z, hz, rfl⟩ := h
      have h8 := nextW_lt hz
      exact ⟨by simp; exact h8.1, by simpa using h8.2.1, h8.2.2⟩
theorem store_lenD (v : Dev) (l a : Int) (bs : List UInt8) : (v.store l a bs).D.length = v.D.length := Dev.store_len v l a bs
theorem wpD_len (q : Fnd → Bool) (v : Dev) (c : Cor) : (wpD q v c).D.length = v.D.length := by
  unfold wpD
  split
  · unfold wipeV; rw [Dev.flush_len, Dev.store_len]
  · rw [Dev.fence_len]
theorem open_ok {D : List Ce} (h : (openF D).2 = 0) : 10 ≤ D.length ∧ (openF D).1 ≤ 1152921504606846976 ∧ ∃ c0 c1, D[0]? = some c0 ∧ D[1]? = some c1 ∧ (isSuperF c0.now).2 = true ∧ (isSuperF c0.now).1 = (D.length : Nat) ∧ (isClockF c1.now).2 = true ∧ (openF D).1 = (isClockF c1.now).1 := by
  unfold openF at h ⊢
  cases h0 : D[0]? with
  | none => rw [h0] at h; cases h
  | some c0 =>
    rw [h0] at h
    simp only at h ⊢
    by_cases ha : (isSuperF c0.now).2 = false ∨ (isSuperF c0.now).1 ≠ (D.length : Nat)
    · rw [if_pos ha] at h; cases h
    · rw [if_neg ha] at h ⊢
      have h2 : (isSuperF c0.now).2 = true := by
        cases e : (isSuperF c0.now).2 with
        | true => rfl
        | false => exact absurd (.inl e) ha
      have h3 : (isSuperF c0.now).1 = (D.length : Nat) := by
        by_cases e : (isSuperF c0.now).1 = (D.length : Nat)
        · exact e
        · exact absurd (.inr e) ha
      have h4 := super_ge h2
      cases h1 : D[1]? with
      | none => rw [h1] at h; cases h
      | some c1 =>
        rw [h1] at h
        simp only at h ⊢
        by_cases hb : (isClockF c1.now).2 = false
        · rw [if_pos hb] at h; cases h
        · rw [if_neg hb] at h ⊢
          by_cases hc : 1152921504606846976 < (isClockF c1.now).1
          · rw [if_pos hc] at h; cases h
          · rw [if_neg hc]
            exact ⟨by omega, by simp only; omega, c0, c1, rfl, rfl, h2, h3, by simpa using hb, rfl⟩
end G
end Go.Proofs.YtcnjjefbnlgdjaaGreat

/- A revival: what holds at each step; how many there may be. -/
namespace Go.Proofs.YtcnjjefbnlgdjaaGreat
open Go Go.RowKit V
set_option linter.unusedVariables false
set_option maxRecDepth 100000
namespace G
open V (str byC ownV ownG ownS ownOk)
theorem getStep_nn (v : Int) (b : UInt8) (i : Nat) : 0 ≤ getStep v b i := by
  unfold getStep
  have h := (BitVec.ofInt IntKind.u64.bits v ||| BitVec.ofInt IntKind.u64.bits (IntKind.u64.wrap (IntKind.u64.wrap ((b.toNat : Nat) : Int) * 2 ^ (min ((8 : Int) * (i : Nat)).toNat IntKind.u64.bits)))).isLt
  have h2 : (2 : Nat) ^ IntKind.u64.bits = 18446744073709551616 := by decide
  rw [h2] at h
  rw [IntWalk.u64_in _ (by omega)]
  omega
theorem getN_nn (l : List UInt8) (a : Nat) : ∀ k, 0 ≤ getN l a k
  | 0 => Int.le_refl _
  | k + 1 => getStep_nn _ _ _
theorem clock_nn (b : B64) : 0 ≤ (isClockF b).1 := by
  unfold isClockF
  split
  · exact getN_nn _ _ _
  · exact Int.le_refl _
theorem scN_ok {D : List Ce} {nx : Int} {y : Fnd} (h : scN D nx = some y) : fdOk y := by
  unfold scN at h
  split at h
  · cases h
  · split at h
    · cases h
    · simp only [Option.some.injEq] at h
      rw [← h]; exact look_ok _ _ _ _
theorem Inv.step0 {n : Nat} {v : Dev} {c : Cor} (h : Inv n v c) (hp : c.ph = 0) : Inv n v (if (openF v.D).2 = 0 then { c with e := (openF v.D).1, ph := 1, nx := 0 } else { c with ph := 7 }) := by
  have hf := h.f0 hp
  split
  · rename_i ho
    obtain ⟨h10, hle, c0, c1, _, _, _, _, _, he⟩ := open_ok ho
    have hnn := clock_nn c1.now
    have hsr := slabs_rng (n := n) (by rw [← h.len]; exact h10)
    refine ⟨h.len, h.n1, by simp, fun _ _ => ⟨by rw [← h.len]; exact h10, by simp only; omega, hle⟩, by simp, fun h8 => absurd h8 (by simp), fun _ => ⟨by simp only; omega, by simp only; omega⟩, h.fl, h.tx, fun h8 _ => absurd h8 (by simp), fun h8 _ => absurd h8 (by simp), fun h8 _ => absurd h8 (by simp)⟩
  · refine ⟨h.len, h.n1, by simp, fun _ h8 => absurd h8 (by simp), h.nx, fun h8 => absurd h8 (by simp), fun h8 => absurd h8 (by simp), h.fl, h.tx, fun _ h8 => absurd h8 (by simp), fun _ h8 => absurd h8 (by simp), fun _ h8 => absurd h8 (by simp)⟩
theorem Inv.step1 {n : Nat} {v : Dev} {c : Cor} (h : Inv n v c) (hp : c.ph = 1) : Inv n v (scC v.D c) := by
  obtain ⟨h10, he0, he1⟩ := h.op (by omega) (by omega)
  obtain ⟨hn1, hn2⟩ := h.n2 hp
  have hnx := h.nx
  have hsr := slabs_rng h10
  have hlen := h.len
  obtain ⟨hfl, hft⟩ : ((scFd v.D c.nx c.fd).length : Int) ≤ c.nx + 1 ∧ ∀ g ∈ scFd v.D c.nx c.fd, fdOk g := by
    unfold scFd
    cases hs : scN v.D c.nx with
    | none => exact ⟨by simp only; omega, h.tx⟩
    | some y =>
      refine ⟨by simp only [List.length_append, List.length_singleton]; omega, fun g hg => ?_⟩
      rcases List.mem_append.1 hg with hg | hg
      · exact h.tx g hg
      · rw [List.mem_singleton] at hg; rw [hg]; exact scN_ok hs
  unfold scC
  rw [hlen]
  split
  · refine ⟨h.len, h.n1, by simp, fun _ _ => ⟨h10, he0, he1⟩, by simp, fun h8 => absurd h8 (by simp), fun h8 => absurd h8 (by simp), by simp only; omega, hft, fun _ _ => by simp only; omega, fun _ _ => by simp only; omega, fun h8 _ => absurd h8 (by simp)⟩
  · refine ⟨h.len, h.n1, h.ph, fun _ _ => ⟨h10, he0, he1⟩, by simp only; omega, fun h8 => absurd h8 (by simp only; omega), fun _ => ⟨by simp only; omega, by simp only; omega⟩, by simp only; omega, hft, fun h8 _ => absurd h8 (by simp only; omega), fun h8 _ => absurd h8 (by simp only; omega), fun h8 _ => absurd h8 (by simp only; omega)⟩
theorem Inv.step2 {n : Nat} {v : Dev} {c : Cor} (h : Inv n v c) (hp : c.ph = 2) : Inv n v (if ovE v.D.length (decK c.e c.fd) = 0 then { c with kp := decK c.e c.fd, ph := 3, nx := 0 } else { c with ph := 7 }) := by
  have h8 := h.op (by omega) (by omega)
  have hlen := h.len
  split
  · rename_i ho
    refine ⟨h.len, h.n1, by simp, fun _ _ => h8, by simp, fun h8 => absurd h8 (by simp), fun h8 => absurd h8 (by simp), h.fl, h.tx, fun _ _ => by simp, fun _ _ => h.fs (by omega) (by omega), fun _ _ => ⟨rfl, by rw [← hlen]; exact ho⟩⟩
  · refine ⟨h.len, h.n1, by simp, fun _ h8 => absurd h8 (by simp), h.nx, fun h8 => absurd h8 (by simp), fun h8 => absurd h8 (by simp), h.fl, h.tx, fun _ h8 => absurd h8 (by simp), fun _ h8 => absurd h8 (by simp), fun _ h8 => absurd h8 (by simp)⟩
theorem Inv.stepW {n : Nat} {v : Dev} {c : Cor} (h : Inv n v c) (hp : 3 ≤ c.ph ∧ c.ph ≤ 4) (q : Fnd → Bool) : Inv n (wpD q v c) (wpC q c (c.ph + 1)) := by
  have h8 := h.op (by omega) (by omega)
  have hw := h.wp (by omega) (by omega)
  have hnx := h.nx
  have hk := h.kp (by omega) (by omega)
  have hfs := h.fs (by omega) (by omega)
  have hl : (wpD q v c).D.length = n := (wpD_len q v c).trans h.len
  unfold wpC
  cases hq : nextW q (c.fd.drop c.nx.toNat) with
  | none => exact ⟨hl, h.n1, by simp only; omega, fun _ _ => h8, by simp, fun h9 => absurd h9 (by simp only; omega), fun h9 => absurd h9 (by simp only; omega), h.fl, h.tx, fun _ _ => by simp, fun _ _ => hfs, fun _ _ => hk⟩
  | some y =>
    have h9 := (nextW_lt hq).1
    rw [List.length_drop] at h9
    exact ⟨hl, h.n1, h.ph, fun _ _ => h8, by simp only; omega, fun h9 => absurd h9 (by simp only; omega), fun h9 => absurd h9 (by simp only; omega), h.fl, h.tx, fun _ _ => by simp only; omega, fun _ _ => hfs, fun _ _ => hk⟩
theorem Inv.step5 {n : Nat} {v : Dev} {c : Cor} (h : Inv n v c) (hp : c.ph = 5) : Inv n v { c with ph := 6, nx := 0 } := by
  have hk := h.kp (by omega) (by omega)
  exact ⟨h.len, h.n1, by simp, fun _ h8 => absurd h8 (by simp), by simp, fun h8 => absurd h8 (by simp), fun h8 => absurd h8 (by simp), h.fl, h.tx, fun _ h8 => absurd h8 (by simp), fun _ h8 => absurd h8 (by simp), fun _ _ => hk⟩
theorem Inv.step {n : Nat} {v : Dev} {c : Cor} (h : Inv n v c) : Inv n (stp v c).1 (stp v c).2.1 := by
  have hp := h.ph
  unfold stp
  by_cases h0 : c.ph = 0
  · rw [if_pos h0]; exact h.step0 h0
  · rw [if_neg h0]
    by_cases h1 : c.ph = 1
    · rw [if_pos h1]; exact h.step1 h1
    · rw [if_neg h1]
      by_cases h2 : c.ph = 2
      · rw [if_pos h2]; exact h.step2 h2
      · rw [if_neg h2]
        by_cases h3 : c.ph = 3
        · rw [if_pos h3]; have h9 := h.stepW ⟨by omega, by omega⟩ (scrubF c.e c.fd); rw [h3] at h9; exact h9
        · rw [if_neg h3]
          by_cases h4 : c.ph = 4
          · rw [if_pos h4]; have h9 := h.stepW ⟨by omega, by omega⟩ (antiF c.e); rw [h4] at h9; exact h9
          · rw [if_neg h4]
            by_cases h5 : c.ph = 5
            · rw [if_pos h5]; exact h.step5 h5
            · rw [if_neg h5]; exact h
/-- How many steps there may still be. -/
def pot (n : Nat) (c : Cor) : Int := if c.ph = 0 then 3 * (slabsF n * 8) + 10 else if c.ph = 1 then 3 * (slabsF n * 8) + 9 - c.nx else if c.ph = 2 then 2 * (slabsF n * 8) + 8 else if c.ph = 3 then 2 * (slabsF n * 8) + 4 - c.nx else if c.ph = 4 then slabsF n * 8 + 2 - c.nx else if c.ph = 5 then 1 else 0
theorem Inv.pot_nn {n : Nat} {v : Dev} {c : Cor} (h : Inv n v c) : 0 ≤ pot n c ∧ (pot n c = 0 → 6 ≤ c.ph) := by
  have hp := h.ph
  have hs := slabs_lt n
  have h1 := h.n2
  have h2 := h.wp
  have h3 := h.fs
  unfold pot
  by_cases h0 : c.ph = 0
  · rw [if_pos h0]; omega
  · rw [if_neg h0]
    by_cases h1' : c.ph = 1
    · have := h1 h1'; rw [if_pos h1']; omega
    · rw [if_neg h1']
      by_cases h2' : c.ph = 2
      · rw [if_pos h2']; omega
      · rw [if_neg h2']
        by_cases h3' : c.ph = 3
        · have := h2 (by omega) (by omega); have := h3 (by omega) (by omega); rw [if_pos h3']; omega
        · rw [if_neg h3']
          by_cases h4' : c.ph = 4
          · have := h2 (by omega) (by omega); have := h3 (by omega) (by omega); rw [if_pos h4']; omega
          · rw [if_neg h4']
            by_cases h5' : c.ph = 5
            · rw [if_pos h5']; omega
            · rw [if_neg h5']; omega
theorem scC_cases (D : List Ce) (c : Cor) : (slabsF D.length * 8 ≤ c.nx + 1 ∧ (scC D c).ph = 2 ∧ (scC D c).nx = 0) ∨ (¬ slabsF D.length * 8 ≤ c.nx + 1 ∧ (scC D c).ph = c.ph ∧ (scC D c).nx = c.nx + 1) := by
  unfold scC
  split
  · rename_i h; exact .inl ⟨h, rfl, rfl⟩
  · rename_i h; exact .inr ⟨h, rfl, rfl⟩
theorem wpC_cases (q : Fnd → Bool) (c : Cor) (p : Int) (h0 : 0 ≤ c.nx) : ((wpC q c p).ph = p ∧ (wpC q c p).nx = 0) ∨ ((wpC q c p).ph = c.ph ∧ c.nx + 1 ≤ (wpC q c p).nx) := by
  unfold wpC
  split
  · exact .inr ⟨rfl, by simp only; omega⟩
  · exact .inl ⟨rfl, rfl⟩
theorem Inv.pot_step {n : Nat} {v : Dev} {c : Cor} (h : Inv n v c) (hp6 : c.ph < 6) : pot n (stp v c).2.1 + 1 ≤ pot n c := by
  have hp := h.ph
  have hs := slabs_lt n
  have hnx := h.nx
  have hlen := h.len
  have hn2 := h.n2
  have hwp := h.wp
  have hfs := h.fs
  unfold stp
  by_cases h0 : c.ph = 0
  · rw [if_pos h0]
    simp only
    split
    · simp only [pot, h0]; simp; omega
    · simp only [pot, h0]; simp; omega
  · rw [if_neg h0]
    by_cases h1 : c.ph = 1
    · rw [if_pos h1]
      have := hn2 h1
      rcases scC_cases v.D c with ⟨a, b, d⟩ | ⟨a, b, d⟩
      · simp only [pot, b, d, h1]; simp; omega
      · simp only [pot, b, d, h1]; simp; omega
    · rw [if_neg h1]
      by_cases h2 : c.ph = 2
      · rw [if_pos h2]
        simp only
        split
        · simp only [pot, h2]; simp; omega
        · simp only [pot, h2]; simp; omega
      · rw [if_neg h2]
        by_cases h3 : c.ph = 3
        · rw [if_pos h3]
          have := hwp (by omega) (by omega)
          have := hfs (by omega) (by omega)
          rcases wpC_cases (scrubF c.e c.fd) c 4 hnx with ⟨a, b⟩ | ⟨a, b⟩
          · simp only [pot, a, b, h3]; simp; omega
          · simp only [pot, a, h3]; simp; omega
        · rw [if_neg h3]
          by_cases h4 : c.ph = 4
          · rw [if_pos h4]
            have := hwp (by omega) (by omega)
            have := hfs (by omega) (by omega)
            rcases wpC_cases (antiF c.e) c 5 hnx with ⟨a, b⟩ | ⟨a, b⟩
            · simp only [pot, a, h4]; simp; omega
            · simp only [pot, a, h4]; simp; omega
          · rw [if_neg h4, if_pos (show c.ph = 5 by omega)]
            simp only [pot, show c.ph = 5 by omega]; simp
end G
end Go.Proofs.YtcnjjefbnlgdjaaGreat

/- A revival: one step, whatever its phase. -/
namespace Go.Proofs.YtcnjjefbnlgdjaaGreat
open Go Go.RowKit V
set_option linter.unusedVariables false
set_option maxRecDepth 100000
namespace G
open V (str byC ownV ownG ownS ownOk)
/-- What lies beside: the arena, once it is there. -/
def arG (x : DvR) (v : Dev) (ar : Option (ArR × ArS)) : Sg := match ar with
  | none => vS x v
  | some y => arS y.1 y.2 x.db ++ vS x v
abbrev rvG (rb : Nat) (x : DvR) (v : Dev) (r : Rvl) (ar : Option (ArR × ArS)) : Sg := rvS rb x.db r ++ arG x v ar
structure RvX (th n : Nat) (r : Rvl) (ar : Option (ArR × ArS)) : Prop where
  tid : r.th = (th : Nat)
  fd : ownOk 9 r.fd.length (r.fd.flatMap fdC) r.fo
  kp : ownOk 9 r.kp.length (r.kp.flatMap fdC) r.ko
  on : r.ph ≤ 5 → r.dn = 0 ∧ r.m1 = 0
  has : ar.isSome = decide (r.ph = 6)
  got : ∀ y, ar = some y → OvA th n r.e r.kp y ∧ r.st = .pointer (some ⟨y.1.a, 0, none⟩)
theorem Inv.rok {n : Nat} {v : Dev} {r : Rvl} {th m : Nat} {ar : Option (ArR × ArS)} (h : Inv n v (corOf r)) (hx : RvX th m r ar) : RvOk r := ⟨hx.fd, hx.kp, by have h8 : r.fd.length ≤ 256 := h.fl; omega, h.tx, h.nx⟩
theorem stp_ph {v : Dev} {c : Cor} (h : 6 ≤ c.ph) : stp v c = (v, c, 12) := by
  unfold stp
  rw [if_neg (by omega), if_neg (by omega), if_neg (by omega), if_neg (by omega), if_neg (by omega), if_neg (by omega)]
theorem step_g (rb : Nat) (x : DvR) (v : Dev) (r : Rvl) (ar : Option (ArR × ArS)) (th : Nat) (h1 : 1 ≤ th) (h4 : th ≤ 4) (hI : Inv v.D.length v (corOf r)) (hX : RvX th v.D.length r ar) (w : World) (hs : Sat (rvG rb x v r ar) w) : Calls Tryz.prog 19 [.pointer (some ⟨rb, 0, none⟩)].toArray w fun e w' => ∃ q : Rvl × Option (ArR × ArS), (corOf q.1 = (stp v (corOf r)).2.1 ∧ RvX th v.D.length q.1 q.2) ∧ e = .returned (.int .i64 (stp v (corOf r)).2.2) ∧ Hp ⟨w, V.ids (rvG rb x v r ar)⟩ (rvG rb x (stp v (corOf r)).1 q.1 q.2) w' := by
  have hok := hI.rok hX
  have hp := hI.ph
  have hn := hI.n1
  by_cases h6 : 6 ≤ r.ph
  · refine (st_over_g rb x.db r h6 w (hs.pick (by repeat (first | exact .nil | apply Pick.cons | exact .here | apply Ext.there)))).mono fun e w' ⟨he, hb⟩ => ?_
    rw [stp_ph (c := corOf r) h6]
    exact ⟨(r, ar), ⟨rfl, hX⟩, he, (V.Hp.start hs).call_ro hb⟩
  have har : ar = none := by
    have h8 := hX.has
    rw [decide_eq_false (by omega)] at h8
    cases ar with
    | none => rfl
    | some y => cases h8
  subst har
  have hno : ∀ {z : Rvl} {y : ArR × ArS}, (none : Option (ArR × ArS)) = some y → OvA th v.D.length z.e z.kp y ∧ z.st = .pointer (some ⟨y.1.a, 0, none⟩) := fun h => by cases h
  have hpr : (corOf r).ph = r.ph := rfl
  have hdm := hX.on (by omega)
  by_cases h0 : r.ph = 0
  · have e : stp v (corOf r) = (v, if (openF v.D).2 = 0 then { corOf r with e := (openF v.D).1, ph := 1, nx := 0 } else { corOf r with ph := 7 }, (openF v.D).2) := by unfold stp; rw [hpr, if_pos h0]
    rw [e]
    refine (st_open_g rb x v r hn h0 w hs).mono fun e w' ⟨_, _, he, hw⟩ => ⟨(if (openF v.D).2 = 0 then opR v.D r else { r with ph := 7 }, none), ?_, he, hw⟩
    by_cases ho : (openF v.D).2 = 0
    · have e7 : opR v.D r = { r with e := (openF v.D).1, ph := 1, nx := 0 } := by unfold opR; rw [if_pos ho]
      simp only [if_pos ho, e7]
      exact ⟨rfl, hX.tid, hX.fd, hX.kp, fun _ => hdm, by simp, fun y h => by cases h⟩
    · simp only [if_neg ho]
      exact ⟨rfl, hX.tid, hX.fd, hX.kp, fun h => absurd h (by simp), by simp, fun y h => by cases h⟩
  by_cases h1p : r.ph = 1
  · have e : stp v (corOf r) = (v, scC v.D (corOf r), 0) := by unfold stp; rw [hpr, if_neg h0, if_pos h1p]
    rw [e]
    have hn2 := hI.n2 h1p
    have hsl := slabs_lt v.D.length
    have hn2a : r.nx + 1 ≤ slabsF v.D.length * 8 := hn2.1
    have hfl : r.fd.length ≤ 256 := hI.fl
    refine (st_scan_g rb x v r hn hok ⟨by omega, by omega⟩ h1p w hs).mono fun e w' ⟨o, ho, he, hw⟩ => ⟨(scR v.D r o, none), ?_, he, hw⟩
    have hc : corOf (scR v.D r o) = scC v.D (corOf r) ∧ (scR v.D r o).th = r.th ∧ (scR v.D r o).fo = o ∧ (scR v.D r o).kp = r.kp ∧ (scR v.D r o).ko = r.ko ∧ (scR v.D r o).dn = r.dn ∧ (scR v.D r o).m1 = r.m1 ∧ ((scR v.D r o).ph = 1 ∨ (scR v.D r o).ph = 2) := by
      unfold scR scC scFd corOf
      simp only
      split
      · exact ⟨rfl, rfl, rfl, rfl, rfl, rfl, rfl, .inr rfl⟩
      · exact ⟨rfl, rfl, rfl, rfl, rfl, rfl, rfl, .inl h1p⟩
    obtain ⟨c1, c2, c3, c4, c5, c6, c7, c8⟩ := hc
    refine ⟨c1, ?_⟩
    exact ⟨c2.trans hX.tid, by rw [c3]; exact ho, by rw [c4, c5]; exact hX.kp, fun _ => by rw [c6, c7]; exact hdm, by simp only [Option.isSome_none]; rw [decide_eq_false (by omega)], fun y h => by cases h⟩
  obtain ⟨h10, he0, he1⟩ := hI.op (by rw [hpr]; omega) (by rw [hpr]; omega)
  have hwp : r.nx ≤ r.fd.length := hI.wp (by rw [hpr]; omega) (by rw [hpr]; omega)
  by_cases h2p : r.ph = 2
  · have e : stp v (corOf r) = (v, if ovE v.D.length (decK r.e r.fd) = 0 then { corOf r with kp := decK r.e r.fd, ph := 3, nx := 0 } else { corOf r with ph := 7 }, ovE v.D.length (decK r.e r.fd)) := by unfold stp; rw [hpr, if_neg h0, if_neg h1p, if_pos h2p]; rfl
    rw [e]
    refine (st_decide_g rb x v r hok ⟨h10, hn.2⟩ th h1 h4 hX.tid ⟨he0, he1⟩ h2p w hs).mono fun e w' ⟨o, ho, he, hw⟩ => ⟨(if ovE v.D.length (decK r.e r.fd) = 0 then decR v.D.length r o else { r with ph := 7 }, none), ?_, he, hw⟩
    by_cases hz : ovE v.D.length (decK r.e r.fd) = 0
    · have e7 : decR v.D.length r o = { r with kp := decK r.e r.fd, ko := o, ph := 3, nx := 0 } := by unfold decR; rw [if_pos hz]
      rw [e7] at ho
      simp only [if_pos hz, e7]
      exact ⟨rfl, hX.tid, hX.fd, ho, fun _ => hdm, by simp, fun y h => by cases h⟩
    · simp only [if_neg hz]
      exact ⟨rfl, hX.tid, hX.fd, hX.kp, fun h => absurd h (by simp), by simp, fun y h => by cases h⟩
  have hkp := hI.kp (by rw [hpr]; omega) (by rw [hpr]; omega)
  have hwx : ∀ (q : Fnd → Bool) (p : Int), (p = 4 ∨ p = 5) → corOf (wpR q r p) = wpC q (corOf r) p ∧ RvX th v.D.length (wpR q r p) none := fun q p hp45 => by
    unfold wpR wpC corOf
    simp only
    cases nextW q (r.fd.drop r.nx.toNat)
    · exact ⟨rfl, hX.tid, hX.fd, hX.kp, fun _ => hdm, by simp only [Option.isSome_none]; rw [decide_eq_false (by omega)], fun y h => by cases h⟩
    · exact ⟨rfl, hX.tid, hX.fd, hX.kp, fun _ => hdm, by simp only [Option.isSome_none]; rw [decide_eq_false (by omega)], fun y h => by cases h⟩
  by_cases h3p : r.ph = 3
  · have e : stp v (corOf r) = (wpV (scrubF r.e r.fd) v r, wpC (scrubF r.e r.fd) (corOf r) 4, 0) := by unfold stp; rw [hpr, if_neg h0, if_neg h1p, if_neg h2p, if_pos h3p]; rfl
    rw [e]
    exact (st_scrub_g rb x v r hok hwp hn.2 h3p w hs).mono fun e w' ⟨_, _, he, hw⟩ => ⟨(wpR (scrubF r.e r.fd) r 4, none), hwx _ 4 (.inl rfl), he, hw⟩
  by_cases h4p : r.ph = 4
  · have e : stp v (corOf r) = (wpV (antiF r.e) v r, wpC (antiF r.e) (corOf r) 5, 0) := by unfold stp; rw [hpr, if_neg h0, if_neg h1p, if_neg h2p, if_neg h3p, if_pos h4p]; rfl
    rw [e]
    exact (st_antis_g rb x v r hok hwp hn.2 h4p w hs).mono fun e w' ⟨_, _, he, hw⟩ => ⟨(wpR (antiF r.e) r 5, none), hwx _ 5 (.inr rfl), he, hw⟩
  have h5p : r.ph = 5 := by have : 0 ≤ r.ph := hp; omega
  have e : stp v (corOf r) = (v, { corOf r with ph := 6, nx := 0 }, 0) := by unfold stp; rw [hpr, if_neg h0, if_neg h1p, if_neg h2p, if_neg h3p, if_neg h4p, if_pos h5p]
  rw [e]
  have hke : r.kp = decK r.e r.fd := hkp.1
  have hfl : r.fd.length ≤ 256 := hI.fl
  have hkl : r.kp.length ≤ 800 ∧ ∀ f ∈ r.kp, fdOk f := by
    rw [hke]
    refine ⟨?_, fun f hf => hI.tx f (List.mem_filter.1 hf).1⟩
    have := List.length_filter_le (keepF r.e r.fd) r.fd
    unfold decK; omega
  exact (st_build_g rb x v r hX.kp hkl hkp.2 ⟨h10, hn.2⟩ th h1 h4 hX.tid ⟨he0, he1⟩ hdm.1 hdm.2 h5p w hs).mono fun e w' ⟨y, hy, he, hw⟩ => ⟨({ r with ph := 6, nx := 0, dn := 1, m1 := 0, st := .pointer (some ⟨y.1.a, 0, none⟩), why := 0 }, some y), ⟨rfl, hX.tid, hX.fd, hX.kp, fun h => absurd h (by simp), by simp, fun z h => by cases h; exact ⟨hy, rfl⟩⟩, he, hw⟩
end G
end Go.Proofs.YtcnjjefbnlgdjaaGreat

/- A revival: what it does to the device. -/
namespace Go.Proofs.YtcnjjefbnlgdjaaGreat
open Go Go.RowKit V
set_option linter.unusedVariables false
set_option maxRecDepth 100000
namespace G
open V (str byC ownV ownG ownS ownOk)
def wip1 (D : List Ce) (f : Fnd) : List Ce := upD (stD D f.line 0 (draftL f.b.cls)) f.line (fun c => { c with way := c.now, sent := true })
def wl (D : List Ce) (fs : List Fnd) : List Ce := fs.foldl wip1 D
theorem wipeV_D (v : Dev) (f : Fnd) : (wipeV v f).D = wip1 v.D f := rfl
theorem wl_snoc (D : List Ce) (fs : List Fnd) (f : Fnd) : wl D (fs ++ [f]) = wip1 (wl D fs) f := by unfold wl; rw [List.foldl_append]; rfl
theorem put_all {b : B64} {l : List UInt8} (h : l.length = 64) : (putT b 0 l).1 = l := by
  rw [putT_of (by omega)]
  have hb := b.2
  unfold putB
  simp [List.drop_eq_nil_iff.2 (show b.1.length ≤ l.length by omega)]
theorem wip1_at {D : List Ce} {f : Fnd} {i : Nat} {c' : Ce} (hl : (draftL f.b.cls).length = 64) (h : (wip1 D f)[i]? = some c') : (f.line ≠ (i : Nat) ∧ D[i]? = some c') ∨ (f.line = (i : Nat) ∧ c'.now.1 = draftL f.b.cls ∧ c'.way = c'.now ∧ c'.sent = true) := by
  unfold wip1 at h
  by_cases hin : 0 ≤ f.line ∧ f.line < D.length
  · obtain ⟨k, hk⟩ : ∃ k : Nat, f.line = k := ⟨f.line.toNat, by omega⟩
    have hkl : k < D.length := by omega
    have hD : D[k]? = some D[k] := List.getElem?_eq_getElem hkl
    have hth : thB D.length f.line 0 (draftL f.b.cls).length = true := by unfold thB; simp; omega
    have e1 : stD D f.line 0 (draftL f.b.cls) = D.set k { D[k] with now := putT D[k].now 0 (draftL f.b.cls) } := by
      unfold stD
      rw [if_pos hth, hk, upD_set hD]; rfl
    rw [e1, hk, upD_set (c := { D[k] with now := putT D[k].now 0 (draftL f.b.cls) }) (List.getElem?_set_self hkl), List.set_set] at h
    by_cases e : k = i
    · right
      subst e
      rw [List.getElem?_set_self hkl, Option.some.injEq] at h
      rw [← h]
      exact ⟨hk, put_all hl, rfl, rfl⟩
    · left
      rw [List.getElem?_set_ne e] at h
      exact ⟨by omega, h⟩
  · left
    have e1 : stD D f.line 0 (draftL f.b.cls) = D := by
      unfold stD
      rw [if_neg]
      unfold thB; simp; omega
    rw [e1, upD_out hin] at h
    have hi := (List.getElem?_eq_some_iff.1 h).1
    exact ⟨by omega, h⟩
theorem wl_at : ∀ {fs : List Fnd} {D : List Ce} {i : Nat} {c' : Ce}, (∀ f ∈ fs, (draftL f.b.cls).length = 64) → (wl D fs)[i]? = some c' → (D[i]? = some c' ∧ ∀ f ∈ fs, f.line ≠ (i : Nat)) ∨ (∃ f ∈ fs, f.line = (i : Nat) ∧ c'.now.1 = draftL f.b.cls ∧ c'.way = c'.now ∧ c'.sent = true)
  | [], D, i, c', _, h => .inl ⟨h, by simp⟩
  | f :: r, D, i, c', hl, h => by
    have h8 : (wl (wip1 D f) r)[i]? = some c' := h
    rcases wl_at (fun g hg => hl g (by simp [hg])) h8 with ⟨h1, h2⟩ | ⟨g, hg, h2⟩
    · rcases wip1_at (hl f (by simp)) h1 with ⟨h3, h4⟩ | h3
      · exact .inl ⟨h4, fun g hg => by rcases List.mem_cons.1 hg with rfl | hg; exact h3; exact h2 g hg⟩
      · exact .inr ⟨f, by simp, h3⟩
    · exact .inr ⟨g, by simp [hg], h2⟩
theorem nextW_take {q : Fnd → Bool} : ∀ {l : List Fnd} {y : Nat × Fnd}, nextW q l = some y → (l.take (y.1 + 1)).filter q = [y.2]
  | [], y, h => by cases h
  | f :: r, y, h => by
    unfold nextW at h
    split at h
    · rename_i hq
      simp only [Option.some.injEq] at h
      subst h
      simp [hq]
    · rename_i hq
      rw [Option.map_eq_some_iff] at h
      obtain ⟨z, hz, rfl⟩ := h
      have h8 := nextW_take hz
      simp only [List.take_succ_cons, List.filter_cons, hq]
      simpa using h8
theorem nextW_none {q : Fnd → Bool} : ∀ {l : List Fnd}, nextW q l = none → l.filter q = []
  | [], _ => rfl
  | f :: r, h => by
    unfold nextW at h
    split at h
    · cases h
    · rename_i hq
      rw [Option.map_eq_none_iff] at h
      simp only [List.filter_cons, hq]
      simpa using nextW_none h
def fds (D : List Ce) (m : Int) : List Fnd := (List.range m.toNat).filterMap fun i => scN D (i : Nat)
theorem fds_succ (D : List Ce) {m : Int} (h : 0 ≤ m) : fds D (m + 1) = scFd D m (fds D m) := by
  unfold fds scFd
  rw [show (m + 1).toNat = m.toNat + 1 by omega, List.range_succ, List.filterMap_append]
  have e : List.filterMap (fun i : Nat => scN D (i : Nat)) [m.toNat] = (scN D m).toList := by
    simp only [List.filterMap_cons, List.filterMap_nil]
    rw [show ((m.toNat : Nat) : Int) = m by omega]
    cases scN D m <;> rfl
  rw [e]
  cases scN D m <;> simp
/-- What a revival has done to the device so far. -/
structure Cln (D0 : List Ce) (v : Dev) (c : Cor) : Prop where
  p2 : c.ph ≤ 2 → v.D = D0
  f1 : c.ph = 1 → c.fd = fds D0 c.nx
  f2 : 2 ≤ c.ph → c.ph ≤ 6 → c.fd = fds D0 (slabsF D0.length * 8)
  p3 : c.ph = 3 → v.D = wl D0 ((c.fd.take c.nx.toNat).filter (scrubF c.e c.fd))
  p4 : c.ph = 4 → v.D = wl ((wl D0 (c.fd.filter (scrubF c.e c.fd))).map fenB) ((c.fd.take c.nx.toNat).filter (antiF c.e))
  p5 : 5 ≤ c.ph → c.ph ≤ 6 → v.D = (wl ((wl D0 (c.fd.filter (scrubF c.e c.fd))).map fenB) (c.fd.filter (antiF c.e))).map fenB
theorem take_more {q : Fnd → Bool} {fd : List Fnd} {nx : Int} {y : Nat × Fnd} (h0 : 0 ≤ nx) (h : nextW q (fd.drop nx.toNat) = some y) : (fd.take (nx + ((y.1 + 1 : Nat) : Int)).toNat).filter q = (fd.take nx.toNat).filter q ++ [y.2] := by
  rw [show (nx + ((y.1 + 1 : Nat) : Int)).toNat = nx.toNat + (y.1 + 1) by omega, List.take_add, List.filter_append, nextW_take h]
theorem take_all {q : Fnd → Bool} {fd : List Fnd} {nx : Int} (h : nextW q (fd.drop nx.toNat) = none) : (fd.take nx.toNat).filter q = fd.filter q := by
  have e := nextW_none h
  conv => rhs; rw [← List.take_append_drop nx.toNat fd, List.filter_append, e, List.append_nil]
theorem Cln.step {n : Nat} {D0 : List Ce} {v : Dev} {c : Cor} (h : Cln D0 v c) (hI : Inv n v c) (hn : D0.length = n) : Cln D0 (stp v c).1 (stp v c).2.1 := by
  have hp := hI.ph
  have hnx := hI.nx
  have hlen := hI.len
  unfold stp
  by_cases h0 : c.ph = 0
  · rw [if_pos h0]
    have hv := h.p2 (by omega)
    have hf := hI.f0 h0
    simp only
    split
    · exact ⟨fun _ => hv, fun _ => by simp only; rw [List.length_eq_zero_iff.1 hf]; rfl, fun h8 => absurd h8 (by simp), fun h8 => absurd h8 (by simp), fun h8 => absurd h8 (by simp), fun h8 => absurd h8 (by simp)⟩
    · exact ⟨fun _ => hv, fun h8 => absurd h8 (by simp), fun _ h8 => absurd h8 (by simp), fun h8 => absurd h8 (by simp), fun h8 => absurd h8 (by simp), fun _ h8 => absurd h8 (by simp)⟩
  rw [if_neg h0]
  by_cases h1 : c.ph = 1
  · rw [if_pos h1]
    have hv := h.p2 (by omega)
    have hf := h.f1 h1
    obtain ⟨hn1, hn2⟩ := hI.n2 h1
    have hs := fds_succ D0 hnx
    simp only
    unfold scC
    rw [hv, hf, ← hs]
    split
    · rename_i hh
      refine ⟨fun _ => hv, fun h8 => absurd h8 (by simp), fun _ _ => ?_, fun h8 => absurd h8 (by simp), fun h8 => absurd h8 (by simp), fun h8 => absurd h8 (by simp)⟩
      simp only
      rw [hn] at hh ⊢
      congr 1; omega
    · exact ⟨fun _ => hv, fun _ => rfl, fun h8 => absurd h8 (by simp only; omega), fun h8 => absurd h8 (by simp only; omega), fun h8 => absurd h8 (by simp only; omega), fun h8 => absurd h8 (by simp only; omega)⟩
  rw [if_neg h1]
  by_cases h2 : c.ph = 2
  · rw [if_pos h2]
    have hv := h.p2 (by omega)
    have hf := h.f2 (by omega) (by omega)
    simp only
    split
    · exact ⟨fun _ => hv, fun h8 => absurd h8 (by simp), fun _ _ => hf, fun _ => by simp [wl, hv], fun h8 => absurd h8 (by simp), fun h8 => absurd h8 (by simp)⟩
    · exact ⟨fun _ => hv, fun h8 => absurd h8 (by simp), fun _ h8 => absurd h8 (by simp), fun h8 => absurd h8 (by simp), fun h8 => absurd h8 (by simp), fun _ h8 => absurd h8 (by simp)⟩
  rw [if_neg h2]
  by_cases h3 : c.ph = 3
  · rw [if_pos h3]
    have hv := h.p3 h3
    have hf := h.f2 (by omega) (by omega)
    simp only
    unfold wpD wpC
    cases hq : nextW (scrubF c.e c.fd) (c.fd.drop c.nx.toNat) with
    | none =>
      refine ⟨fun h8 => absurd h8 (by simp), fun h8 => absurd h8 (by simp), fun _ _ => hf, fun h8 => absurd h8 (by simp), fun _ => ?_, fun h8 => absurd h8 (by simp)⟩
      show v.D.map fenB = _
      rw [hv, take_all hq]; simp [wl]
    | some y =>
      refine ⟨fun h8 => absurd h8 (by simp only; omega), fun h8 => absurd h8 (by simp only; omega), fun _ _ => hf, fun _ => ?_, fun h8 => absurd h8 (by simp only; omega), fun h8 => absurd h8 (by simp only; omega)⟩
      show (wipeV v y.2).D = _
      rw [wipeV_D, hv]
      simp only
      rw [take_more hnx hq, wl_snoc]
  rw [if_neg h3]
  by_cases h4 : c.ph = 4
  · rw [if_pos h4]
    have hv := h.p4 h4
    have hf := h.f2 (by omega) (by omega)
    simp only
    unfold wpD wpC
    cases hq : nextW (antiF c.e) (c.fd.drop c.nx.toNat) with
    | none =>
      refine ⟨fun h8 => absurd h8 (by simp), fun h8 => absurd h8 (by simp), fun _ _ => hf, fun h8 => absurd h8 (by simp), fun h8 => absurd h8 (by simp), fun _ _ => ?_⟩
      show v.D.map fenB = _
      rw [hv, take_all hq]
    | some y =>
      refine ⟨fun h8 => absurd h8 (by simp only; omega), fun h8 => absurd h8 (by simp only; omega), fun _ _ => hf, fun h8 => absurd h8 (by simp only; omega), fun _ => ?_, fun h8 => absurd h8 (by simp only; omega)⟩
      show (wipeV v y.2).D = _
      rw [wipeV_D, hv]
      simp only
      rw [take_more hnx hq, wl_snoc]
  rw [if_neg h4]
  by_cases h5 : c.ph = 5
  · rw [if_pos h5]
    exact ⟨fun h8 => absurd h8 (by simp), fun h8 => absurd h8 (by simp), fun _ _ => h.f2 (by omega) (by omega), fun h8 => absurd h8 (by simp), fun h8 => absurd h8 (by simp), fun _ _ => h.p5 (by omega) (by omega)⟩
  rw [if_neg h5]
  exact h
end G
end Go.Proofs.YtcnjjefbnlgdjaaGreat
