/- Entries and acts that came in: their cells. -/
import Derived.Test.YtgeblajdjdcghaaLbE
import Derived.Lib.Hide
namespace Go.Proofs.Ytgeblajdjdcghaa
open Go Go.RowKit V
set_option linter.unusedVariables false
set_option maxRecDepth 100000
theorem cellsOf3 : Try.prog.cellsOf 3 = 1 := by kernel_rfl
theorem cellsOf28 : Try.prog.cellsOf 28 = 1 := by kernel_rfl
theorem cellsOf80 : Try.prog.cellsOf 80 = 5 := by kernel_rfl
theorem cellsOf98 : Try.prog.cellsOf 98 = 8 := by kernel_rfl
theorem open80 {H : Type} {enc : TypeId × Value → H} {w : World} {base : Nat} {spare : Nat → Bool} {held : Bool} {fuel : Nat} {cs : List Value} {x : DataW H × List MemPlace} (h : DataW.trod enc Try.prog w base spare held fuel 80 cs = some x) :
    ∃ (v0 : Int) (v1 : Int) (v2 : Int) (v3 : Int) (v4 : Int), cs = [.int .i64 v0, .int .i64 v1, .int .u64 v2, .int .u64 v3, .int .i64 v4] ∧ (Lit.int .i64 v0).wf = true ∧ (Lit.int .i64 v1).wf = true ∧ (Lit.int .u64 v2).wf = true ∧ (Lit.int .u64 v3).wf = true ∧ (Lit.int .i64 v4).wf = true := by
  have hlen := (V.trod_fields Try.underlying80 h).1
  rw [cellsOf80] at hlen
  match cs, hlen with
  | [c0, c1, c2, c3, c4], _ =>
    obtain ⟨_, m0, g0⟩ := V.trod_fields Try.underlying80 h
    obtain ⟨y0_0, f0_0⟩ := g0 0 _ rfl 3 0 1 rfl rfl cellsOf3
    simp only [List.drop, List.take] at f0_0
    obtain ⟨v0, e0, _, w0⟩ := DataW.trod_int Try.underlying3 f0_0
    simp only [List.cons.injEq, and_true] at e0; subst e0
    obtain ⟨y0_1, f0_1⟩ := g0 1 _ rfl 3 1 1 rfl rfl cellsOf3
    simp only [List.drop, List.take] at f0_1
    obtain ⟨v1, e1, _, w1⟩ := DataW.trod_int Try.underlying3 f0_1
    simp only [List.cons.injEq, and_true] at e1; subst e1
    obtain ⟨y0_2, f0_2⟩ := g0 2 _ rfl 28 2 1 rfl rfl cellsOf28
    simp only [List.drop, List.take] at f0_2
    obtain ⟨v2, e2, _, w2⟩ := DataW.trod_int Try.underlying28 f0_2
    simp only [List.cons.injEq, and_true] at e2; subst e2
    obtain ⟨y0_3, f0_3⟩ := g0 3 _ rfl 28 3 1 rfl rfl cellsOf28
    simp only [List.drop, List.take] at f0_3
    obtain ⟨v3, e3, _, w3⟩ := DataW.trod_int Try.underlying28 f0_3
    simp only [List.cons.injEq, and_true] at e3; subst e3
    obtain ⟨y0_4, f0_4⟩ := g0 4 _ rfl 3 4 1 rfl rfl cellsOf3
    simp only [List.drop, List.take] at f0_4
    obtain ⟨v4, e4, _, w4⟩ := DataW.trod_int Try.underlying3 f0_4
    simp only [List.cons.injEq, and_true] at e4; subst e4
    exact ⟨v0, v1, v2, v3, v4, rfl, w0, w1, w2, w3, w4⟩
theorem open98 {H : Type} {enc : TypeId × Value → H} {w : World} {base : Nat} {spare : Nat → Bool} {held : Bool} {fuel : Nat} {cs : List Value} {x : DataW H × List MemPlace} (h : DataW.trod enc Try.prog w base spare held fuel 98 cs = some x) :
    ∃ (v0 : Int) (v1 : Int) (v2 : Int) (v3 : Int) (v4 : Int) (v5 : Int) (v6 : Int) (v7 : Int), cs = [.int .i64 v0, .int .i64 v1, .int .i64 v2, .int .i64 v3, .int .u64 v4, .int .u64 v5, .int .i64 v6, .int .u64 v7] ∧ (Lit.int .i64 v0).wf = true ∧ (Lit.int .i64 v1).wf = true ∧ (Lit.int .i64 v2).wf = true ∧ (Lit.int .i64 v3).wf = true ∧ (Lit.int .u64 v4).wf = true ∧ (Lit.int .u64 v5).wf = true ∧ (Lit.int .i64 v6).wf = true ∧ (Lit.int .u64 v7).wf = true := by
  have hlen := (V.trod_fields Try.underlying98 h).1
  rw [cellsOf98] at hlen
  match cs, hlen with
  | [c0, c1, c2, c3, c4, c5, c6, c7], _ =>
    obtain ⟨_, m0, g0⟩ := V.trod_fields Try.underlying98 h
    obtain ⟨y0_0, f0_0⟩ := g0 0 _ rfl 3 0 1 rfl rfl cellsOf3
    simp only [List.drop, List.take] at f0_0
    obtain ⟨v0, e0, _, w0⟩ := DataW.trod_int Try.underlying3 f0_0
    simp only [List.cons.injEq, and_true] at e0; subst e0
    obtain ⟨y0_1, f0_1⟩ := g0 1 _ rfl 3 1 1 rfl rfl cellsOf3
    simp only [List.drop, List.take] at f0_1
    obtain ⟨v1, e1, _, w1⟩ := DataW.trod_int Try.underlying3 f0_1
    simp only [List.cons.injEq, and_true] at e1; subst e1
    obtain ⟨y0_2, f0_2⟩ := g0 2 _ rfl 80 2 5 rfl rfl cellsOf80
    simp only [List.drop, List.take] at f0_2
    obtain ⟨_, m1, g1⟩ := V.trod_fields Try.underlying80 f0_2
    obtain ⟨y1_0, f1_0⟩ := g1 0 _ rfl 3 0 1 rfl rfl cellsOf3
    simp only [List.drop, List.take] at f1_0
    obtain ⟨v2, e2, _, w2⟩ := DataW.trod_int Try.underlying3 f1_0
    simp only [List.cons.injEq, and_true] at e2; subst e2
    obtain ⟨y1_1, f1_1⟩ := g1 1 _ rfl 3 1 1 rfl rfl cellsOf3
    simp only [List.drop, List.take] at f1_1
    obtain ⟨v3, e3, _, w3⟩ := DataW.trod_int Try.underlying3 f1_1
    simp only [List.cons.injEq, and_true] at e3; subst e3
    obtain ⟨y1_2, f1_2⟩ := g1 2 _ rfl 28 2 1 rfl rfl cellsOf28
    simp only [List.drop, List.take] at f1_2
    obtain ⟨v4, e4, _, w4⟩ := DataW.trod_int Try.underlying28 f1_2
    simp only [List.cons.injEq, and_true] at e4; subst e4
    obtain ⟨y1_3, f1_3⟩ := g1 3 _ rfl 28 3 1 rfl rfl cellsOf28
    simp only [List.drop, List.take] at f1_3
    obtain ⟨v5, e5, _, w5⟩ := DataW.trod_int Try.underlying28 f1_3
    simp only [List.cons.injEq, and_true] at e5; subst e5
    obtain ⟨y1_4, f1_4⟩ := g1 4 _ rfl 3 4 1 rfl rfl cellsOf3
    simp only [List.drop, List.take] at f1_4
    obtain ⟨v6, e6, _, w6⟩ := DataW.trod_int Try.underlying3 f1_4
    simp only [List.cons.injEq, and_true] at e6; subst e6
    obtain ⟨y0_3, f0_3⟩ := g0 3 _ rfl 28 7 1 rfl rfl cellsOf28
    simp only [List.drop, List.take] at f0_3
    obtain ⟨v7, e7, _, w7⟩ := DataW.trod_int Try.underlying28 f0_3
    simp only [List.cons.injEq, and_true] at e7; subst e7
    exact ⟨v0, v1, v2, v3, v4, v5, v6, v7, rfl, w0, w1, w2, w3, w4, w5, w6, w7⟩
structure Ac10 where
  d : Int
  t : Int
  e : En
  du : Int
def Ac10.cells (s : Ac10) : List Value := .int .i64 s.d :: .int .i64 s.t :: (enC s.e ++ [.int .u64 s.du])
section
variable {H : Type} {enc : TypeId × Value → H} {w : World} {base : Nat} {spare : Nat → Bool} {held : Bool} {fuel : Nat} {cs : List Value} {x : DataW H × List MemPlace}
theorem open_en (h : DataW.trod enc Try.prog w base spare held fuel 80 cs = some x) : ∃ c : En, cs = enC c ∧ True := by
  obtain ⟨a0, a1, a2, a3, a4, rfl, _⟩ := open80 h
  exact ⟨⟨a0, a1, a2, a3, a4⟩, rfl, trivial⟩
theorem open_ac10 {p : Option Addr} {l : List (List Value)} (hs : V.slAt w p 8 id l) (ht : ∀ c ∈ l, ∃ m y, DataW.trod enc Try.prog w base spare held m 98 c = some y) : ∃ m : List Ac10, l.length = m.length ∧ V.slAt w p 8 Ac10.cells m := by
  obtain ⟨m, hm, _⟩ := V.list_choice (enc' := Ac10.cells) (p := fun _ => True) (l := l) (fun c hc => by
    obtain ⟨k, y, hy⟩ := ht c hc
    obtain ⟨a0, a1, a2, a3, a4, a5, a6, a7, rfl, _⟩ := open98 hy
    exact ⟨⟨a0, a1, ⟨a2, a3, a4, a5, a6⟩, a7⟩, rfl, trivial⟩)
  exact ⟨m, by simp [hm], V.slAt_map hs hm⟩
theorem open_ints {p : Option Addr} {l : List (List Value)} (hs : V.slAt w p 1 id l) (ht : ∀ c ∈ l, ∃ m y, DataW.trod enc Try.prog w base spare held m 3 c = some y) : ∃ m : List Int, l.length = m.length ∧ V.slAt w p 1 (fun x => [Value.int .i64 x]) m := by
  obtain ⟨m, hm, _⟩ := V.list_choice (enc' := fun x : Int => [Value.int .i64 x]) (p := fun _ => True) (l := l) (fun c hc => by
    obtain ⟨k, y, hy⟩ := ht c hc
    obtain ⟨v, e, _⟩ := DataW.trod_int Try.underlying3 hy
    exact ⟨v, e, trivial⟩)
  exact ⟨m, by simp [hm], V.slAt_map hs hm⟩
end
end Go.Proofs.Ytgeblajdjdcghaa
