/- Acts that came in: their cells. -/
import Derived.Test.YtaihimbjdgmjgaaTbB
import Derived.Lib.Hide
namespace Go.Proofs.Ytaihimbjdgmjgaa
open Go Go.RowKit V
set_option linter.unusedVariables false
set_option maxRecDepth 100000
theorem cellsOf3 : Try.prog.cellsOf 3 = 1 := by kernel_rfl
theorem cellsOf4 : Try.prog.cellsOf 4 = 1 := by kernel_rfl
theorem cellsOf9 : Try.prog.cellsOf 9 = 1 := by kernel_rfl
theorem cellsOf32 : Try.prog.cellsOf 32 = 1 := by kernel_rfl
theorem cellsOf44 : Try.prog.cellsOf 44 = 5 := by kernel_rfl
theorem cellsOf60 : Try.prog.cellsOf 60 = 8 := by kernel_rfl
theorem open60 {H : Type} {enc : TypeId × Value → H} {w : World} {base : Nat} {spare : Nat → Bool} {held : Bool} {fuel : Nat} {cs : List Value} {x : DataW H × List MemPlace} (h : DataW.trod enc Try.prog w base spare held fuel 60 cs = some x) :
    ∃ (v0 : Int) (v1 : ByteArray) (v2 : Int) (v3 : Int) (v4 : Int) (v5 : Int) (v6 : Int) (v7 : Bool), cs = [.int .i64 v0, .string v1, .int .u64 v2, .int .u64 v3, .int .i64 v4, .int .i64 v5, .int .i64 v6, .bool v7] ∧ (Lit.int .i64 v0).wf = true ∧ v1.size ≤ maxLen ∧ (Lit.int .u64 v2).wf = true ∧ (Lit.int .u64 v3).wf = true ∧ (Lit.int .i64 v4).wf = true ∧ (Lit.int .i64 v5).wf = true ∧ (Lit.int .i64 v6).wf = true := by
  have hlen := (V.trod_fields Try.underlying60 h).1
  rw [cellsOf60] at hlen
  match cs, hlen with
  | [c0, c1, c2, c3, c4, c5, c6, c7], _ =>
    obtain ⟨_, m0, g0⟩ := V.trod_fields Try.underlying60 h
    obtain ⟨y0_0, f0_0⟩ := g0 0 _ rfl 3 0 1 rfl rfl cellsOf3
    simp only [List.drop, List.take] at f0_0
    obtain ⟨v0, e0, _, w0⟩ := DataW.trod_int Try.underlying3 f0_0
    simp only [List.cons.injEq, and_true] at e0; subst e0
    obtain ⟨y0_1, f0_1⟩ := g0 1 _ rfl 44 1 5 rfl rfl cellsOf44
    simp only [List.drop, List.take] at f0_1
    obtain ⟨_, m1, g1⟩ := V.trod_fields Try.underlying44 f0_1
    obtain ⟨y1_0, f1_0⟩ := g1 0 _ rfl 9 0 1 rfl rfl cellsOf9
    simp only [List.drop, List.take] at f1_0
    obtain ⟨v1, e1, _, w1⟩ := DataW.trod_string Try.underlying9 f1_0
    simp only [List.cons.injEq, and_true] at e1; subst e1
    obtain ⟨y1_1, f1_1⟩ := g1 1 _ rfl 32 1 1 rfl rfl cellsOf32
    simp only [List.drop, List.take] at f1_1
    obtain ⟨v2, e2, _, w2⟩ := DataW.trod_int Try.underlying32 f1_1
    simp only [List.cons.injEq, and_true] at e2; subst e2
    obtain ⟨y1_2, f1_2⟩ := g1 2 _ rfl 32 2 1 rfl rfl cellsOf32
    simp only [List.drop, List.take] at f1_2
    obtain ⟨v3, e3, _, w3⟩ := DataW.trod_int Try.underlying32 f1_2
    simp only [List.cons.injEq, and_true] at e3; subst e3
    obtain ⟨y1_3, f1_3⟩ := g1 3 _ rfl 3 3 1 rfl rfl cellsOf3
    simp only [List.drop, List.take] at f1_3
    obtain ⟨v4, e4, _, w4⟩ := DataW.trod_int Try.underlying3 f1_3
    simp only [List.cons.injEq, and_true] at e4; subst e4
    obtain ⟨y1_4, f1_4⟩ := g1 4 _ rfl 3 4 1 rfl rfl cellsOf3
    simp only [List.drop, List.take] at f1_4
    obtain ⟨v5, e5, _, w5⟩ := DataW.trod_int Try.underlying3 f1_4
    simp only [List.cons.injEq, and_true] at e5; subst e5
    obtain ⟨y0_2, f0_2⟩ := g0 2 _ rfl 3 6 1 rfl rfl cellsOf3
    simp only [List.drop, List.take] at f0_2
    obtain ⟨v6, e6, _, w6⟩ := DataW.trod_int Try.underlying3 f0_2
    simp only [List.cons.injEq, and_true] at e6; subst e6
    obtain ⟨y0_3, f0_3⟩ := g0 3 _ rfl 4 7 1 rfl rfl cellsOf4
    simp only [List.drop, List.take] at f0_3
    obtain ⟨v7, e7⟩ := V.trod_bool Try.underlying4 f0_3
    simp only [List.cons.injEq, and_true] at e7; subst e7
    exact ⟨v0, v1, v2, v3, v4, v5, v6, v7, rfl, w0, w1, w2, w3, w4, w5, w6⟩
theorem open44 {H : Type} {enc : TypeId × Value → H} {w : World} {base : Nat} {spare : Nat → Bool} {held : Bool} {fuel : Nat} {cs : List Value} {x : DataW H × List MemPlace} (h : DataW.trod enc Try.prog w base spare held fuel 44 cs = some x) :
    ∃ (v0 : ByteArray) (v1 : Int) (v2 : Int) (v3 : Int) (v4 : Int), cs = [.string v0, .int .u64 v1, .int .u64 v2, .int .i64 v3, .int .i64 v4] ∧ v0.size ≤ maxLen ∧ (Lit.int .u64 v1).wf = true ∧ (Lit.int .u64 v2).wf = true ∧ (Lit.int .i64 v3).wf = true ∧ (Lit.int .i64 v4).wf = true := by
  have hlen := (V.trod_fields Try.underlying44 h).1
  rw [cellsOf44] at hlen
  match cs, hlen with
  | [c0, c1, c2, c3, c4], _ =>
    obtain ⟨_, m0, g0⟩ := V.trod_fields Try.underlying44 h
    obtain ⟨y0_0, f0_0⟩ := g0 0 _ rfl 9 0 1 rfl rfl cellsOf9
    simp only [List.drop, List.take] at f0_0
    obtain ⟨v0, e0, _, w0⟩ := DataW.trod_string Try.underlying9 f0_0
    simp only [List.cons.injEq, and_true] at e0; subst e0
    obtain ⟨y0_1, f0_1⟩ := g0 1 _ rfl 32 1 1 rfl rfl cellsOf32
    simp only [List.drop, List.take] at f0_1
    obtain ⟨v1, e1, _, w1⟩ := DataW.trod_int Try.underlying32 f0_1
    simp only [List.cons.injEq, and_true] at e1; subst e1
    obtain ⟨y0_2, f0_2⟩ := g0 2 _ rfl 32 2 1 rfl rfl cellsOf32
    simp only [List.drop, List.take] at f0_2
    obtain ⟨v2, e2, _, w2⟩ := DataW.trod_int Try.underlying32 f0_2
    simp only [List.cons.injEq, and_true] at e2; subst e2
    obtain ⟨y0_3, f0_3⟩ := g0 3 _ rfl 3 3 1 rfl rfl cellsOf3
    simp only [List.drop, List.take] at f0_3
    obtain ⟨v3, e3, _, w3⟩ := DataW.trod_int Try.underlying3 f0_3
    simp only [List.cons.injEq, and_true] at e3; subst e3
    obtain ⟨y0_4, f0_4⟩ := g0 4 _ rfl 3 4 1 rfl rfl cellsOf3
    simp only [List.drop, List.take] at f0_4
    obtain ⟨v4, e4, _, w4⟩ := DataW.trod_int Try.underlying3 f0_4
    simp only [List.cons.injEq, and_true] at e4; subst e4
    exact ⟨v0, v1, v2, v3, v4, rfl, w0, w1, w2, w3, w4⟩
section
variable {H : Type} {enc : TypeId × Value → H} {w : World} {base : Nat} {spare : Nat → Bool} {held : Bool}
theorem open_ac12 {p : Option Addr} {l : List (List Value)} (hs : V.slAt w p 8 id l) (ht : ∀ c ∈ l, ∃ m y, DataW.trod enc Try.prog w base spare held m 60 c = some y) : ∃ m : List Ac12, l.length = m.length ∧ V.slAt w p 8 Ac12.cells m := by
  obtain ⟨m, hm, _⟩ := V.list_choice (enc' := Ac12.cells) (p := fun _ => True) (l := l) (fun c hc => by
    obtain ⟨k, y, hy⟩ := ht c hc
    obtain ⟨a0, a1, a2, a3, a4, a5, a6, a7, rfl, _⟩ := open60 hy
    exact ⟨⟨a0, ⟨a1, a2, a3, a4, a5⟩, a6, a7⟩, rfl, trivial⟩)
  exact ⟨m, by simp [hm], V.slAt_map hs hm⟩
theorem open_lk12 {fuel : Nat} {cs : List Value} {x : DataW H × List MemPlace} (h : DataW.trod enc Try.prog w base spare held fuel 44 cs = some x) : ∃ c : Lk, cs = lkC c ∧ True := by
  obtain ⟨a0, a1, a2, a3, a4, rfl, _⟩ := open44 h
  exact ⟨⟨a0, a1, a2, a3, a4⟩, rfl, trivial⟩
end
end Go.Proofs.Ytaihimbjdgmjgaa
