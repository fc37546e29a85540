/- Acts that came in: their cells. -/
import Derived.Test.YtgeblajdjdcghaaRdD
import Derived.Lib.Hide
namespace Go.Proofs.Ytgeblajdjdcghaa
open Go Go.RowKit V
set_option linter.unusedVariables false
set_option maxRecDepth 100000
theorem cellsOf3 : Try.prog.cellsOf 3 = 1 := by kernel_rfl
theorem cellsOf57 : Try.prog.cellsOf 57 = 2 := by kernel_rfl
theorem open57 {H : Type} {enc : TypeId × Value → H} {w : World} {base : Nat} {spare : Nat → Bool} {held : Bool} {fuel : Nat} {cs : List Value} {x : DataW H × List MemPlace} (h : DataW.trod enc Try.prog w base spare held fuel 57 cs = some x) :
    ∃ (v0 : Int) (v1 : Int), cs = [.int .i64 v0, .int .i64 v1] ∧ (Lit.int .i64 v0).wf = true ∧ (Lit.int .i64 v1).wf = true := by
  have hlen := (V.trod_fields Try.underlying57 h).1
  rw [cellsOf57] at hlen
  match cs, hlen with
  | [c0, c1], _ =>
    obtain ⟨_, m0, g0⟩ := V.trod_fields Try.underlying57 h
    obtain ⟨y0_0, f0_0⟩ := g0 0 _ rfl 3 0 1 rfl rfl cellsOf3
    simp only [List.drop, List.take] at f0_0
    obtain ⟨v0, e0, _, w0⟩ := DataW.trod_int Try.underlying3 f0_0
    simp only [List.cons.injEq, and_true] at e0; subst e0
    obtain ⟨y0_1, f0_1⟩ := g0 1 _ rfl 3 1 1 rfl rfl cellsOf3
    simp only [List.drop, List.take] at f0_1
    obtain ⟨v1, e1, _, w1⟩ := DataW.trod_int Try.underlying3 f0_1
    simp only [List.cons.injEq, and_true] at e1; subst e1
    exact ⟨v0, v1, rfl, w0, w1⟩
section
variable {H : Type} {enc : TypeId × Value → H} {w : World} {base : Nat} {spare : Nat → Bool} {held : Bool}
theorem open_acs {p : Option Addr} {l : List (List Value)} (hs : V.slAt w p 2 id l) (ht : ∀ c ∈ l, ∃ m y, DataW.trod enc Try.prog w base spare held m 57 c = some y) : ∃ m : List Ac8, l.length = m.length ∧ V.slAt w p 2 Ac8.cells m := by
  obtain ⟨m, hm, _⟩ := V.list_choice (enc' := Ac8.cells) (p := fun _ => True) (l := l) (fun c hc => by
    obtain ⟨k, y, hy⟩ := ht c hc
    obtain ⟨a0, a1, rfl, _⟩ := open57 hy
    exact ⟨⟨a0, a1⟩, rfl, trivial⟩)
  exact ⟨m, by simp [hm], V.slAt_map hs hm⟩
end
end Go.Proofs.Ytgeblajdjdcghaa
