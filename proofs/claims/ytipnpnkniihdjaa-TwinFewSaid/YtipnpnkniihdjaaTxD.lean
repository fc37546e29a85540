/- Stores that came in: their cells. -/
import Derived.Test.YtipnpnkniihdjaaTxC
import Derived.Lib.Hide
import Derived.WalkSmall
import Derived.Deep.Slices
namespace Go.Proofs.Ytipnpnkniihdjaa
open Go Go.RowKit V
set_option linter.unusedVariables false
set_option maxRecDepth 100000
section
variable {H : Type} {enc : TypeId × Value → H} {P : Program} {w : World} {base : Nat} {spare : Nat → Bool} {held : Bool} {fuel : Nat} {x : DataW H × List MemPlace}
theorem sl_cap {t e : TypeId} {p : Option Addr} {n c : Nat} (ht : P.underlying t = some (.slice e)) (h : DataW.trod enc P w base spare held fuel t [.slice p n c] = some x) : n ≤ c := by
  rcases Deep.open_slice ht h with ⟨hcs, _⟩ | ⟨a, len, cap, m, n2, D, Pl, hcs, _, hl, _⟩
  · simp only [List.cons.injEq, Value.slice.injEq, and_true] at hcs
    omega
  · simp only [List.cons.injEq, Value.slice.injEq, and_true] at hcs
    obtain ⟨_, rfl, rfl⟩ := hcs
    exact hl
end
theorem cellsOf9 : Try.prog.cellsOf 9 = 1 := by kernel_rfl
theorem cellsOf22 : Try.prog.cellsOf 22 = 1 := by kernel_rfl
theorem cellsOf23 : Try.prog.cellsOf 23 = 1 := by kernel_rfl
theorem cellsOf25 : Try.prog.cellsOf 25 = 2 := by kernel_rfl
theorem cellsOf45 : Try.prog.cellsOf 45 = 2 := by kernel_rfl
theorem open25 {H : Type} {enc : TypeId × Value → H} {w : World} {base : Nat} {spare : Nat → Bool} {held : Bool} {fuel : Nat} {cs : List Value} {x : DataW H × List MemPlace} (h : DataW.trod enc Try.prog w base spare held fuel 25 cs = some x) :
    ∃ (p0 : Option Addr) (n0 : Nat) (q0 : Nat) (l0 : List (List Value)) (p1 : Option Addr) (n1 : Nat) (q1 : Nat) (l1 : List (List Value)), cs = [.slice p0 n0 q0, .slice p1 n1 q1] ∧ n0 = l0.length ∧ n0 ≤ maxLen ∧ V.slAt w p0 2 id l0 ∧ (∀ c ∈ l0, ∃ m y, DataW.trod enc Try.prog w base spare held m 45 c = some y) ∧ n0 ≤ q0 ∧ n1 = l1.length ∧ n1 ≤ maxLen ∧ V.slAt w p1 1 id l1 ∧ (∀ c ∈ l1, ∃ m y, DataW.trod enc Try.prog w base spare held m 9 c = some y) ∧ n1 ≤ q1 := by
  have hlen := (V.trod_fields Try.underlying25 h).1
  rw [cellsOf25] at hlen
  match cs, hlen with
  | [c0, c1], _ =>
    obtain ⟨_, m0, g0⟩ := V.trod_fields Try.underlying25 h
    obtain ⟨y0_0, f0_0⟩ := g0 0 _ rfl 22 0 1 rfl rfl cellsOf22
    simp only [List.drop, List.take] at f0_0
    obtain ⟨p0, n0, q0, l0, e0, z0, x0, s0, t0⟩ := V.open_sl (sz := 2) Try.underlying22 cellsOf45 (by decide) f0_0
    simp only [List.cons.injEq, and_true] at e0; subst e0
    have u0 := sl_cap Try.underlying22 f0_0
    obtain ⟨y0_1, f0_1⟩ := g0 1 _ rfl 23 1 1 rfl rfl cellsOf23
    simp only [List.drop, List.take] at f0_1
    obtain ⟨p1, n1, q1, l1, e1, z1, x1, s1, t1⟩ := V.open_sl (sz := 1) Try.underlying23 cellsOf9 (by decide) f0_1
    simp only [List.cons.injEq, and_true] at e1; subst e1
    have u1 := sl_cap Try.underlying23 f0_1
    exact ⟨p0, n0, q0, l0, p1, n1, q1, l1, rfl, z0, x0, s0, t0, u0, z1, x1, s1, t1, u1⟩
theorem open45 {H : Type} {enc : TypeId × Value → H} {w : World} {base : Nat} {spare : Nat → Bool} {held : Bool} {fuel : Nat} {cs : List Value} {x : DataW H × List MemPlace} (h : DataW.trod enc Try.prog w base spare held fuel 45 cs = some x) :
    ∃ (v0 : ByteArray) (v1 : ByteArray), cs = [.string v0, .string v1] ∧ v0.size ≤ maxLen ∧ v1.size ≤ maxLen := by
  have hlen := (V.trod_fields Try.underlying45 h).1
  rw [cellsOf45] at hlen
  match cs, hlen with
  | [c0, c1], _ =>
    obtain ⟨_, m0, g0⟩ := V.trod_fields Try.underlying45 h
    obtain ⟨y0_0, f0_0⟩ := g0 0 _ rfl 9 0 1 rfl rfl cellsOf9
    simp only [List.drop, List.take] at f0_0
    obtain ⟨v0, e0, _, w0⟩ := DataW.trod_string Try.underlying9 f0_0
    simp only [List.cons.injEq, and_true] at e0; subst e0
    obtain ⟨y0_1, f0_1⟩ := g0 1 _ rfl 9 1 1 rfl rfl cellsOf9
    simp only [List.drop, List.take] at f0_1
    obtain ⟨v1, e1, _, w1⟩ := DataW.trod_string Try.underlying9 f0_1
    simp only [List.cons.injEq, and_true] at e1; subst e1
    exact ⟨v0, v1, rfl, w0, w1⟩
section
variable {H : Type} {enc : TypeId × Value → H} {w : World} {base : Nat} {spare : Nat → Bool} {held : Bool} {fuel : Nat} {cs : List Value} {x : DataW H × List MemPlace}
theorem open_pr (h : DataW.trod enc Try.prog w base spare held fuel 45 cs = some x) : ∃ c : Pr, cs = prC c ∧ True := by
  obtain ⟨a0, a1, rfl, _⟩ := open45 h
  exact ⟨⟨a0.data.toList, a1.data.toList⟩, rfl, trivial⟩
theorem open_st (h : DataW.trod enc Try.prog w base spare held fuel 9 cs = some x) : ∃ z : List UInt8, cs = stE z ∧ True := by
  obtain ⟨v, e, _⟩ := DataW.trod_string Try.underlying9 h
  exact ⟨v.data.toList, e, trivial⟩
theorem open_shelf (h : DataW.trod enc Try.prog w base spare held fuel 25 cs = some x) : ∃ (s : Sf) (A : ShA), cs = s.cells ∧ SfR w s A ∧ A.1.length ≤ 9223372036854775807 ∧ A.2.length ≤ 9223372036854775807 := by
  obtain ⟨p0, n0, q0, l0, p1, n1, q1, l1, rfl, f1, f2, f3, f4, f5, f6, f7, f8, f9, f10⟩ := open25 h
  obtain ⟨gl, hgl, _⟩ := V.list_choice (enc' := prC) (p := fun _ => True) (l := l0) (fun c hc => by
    obtain ⟨m, y, hy⟩ := f4 c hc
    exact open_pr hy)
  obtain ⟨kl, hkl, _⟩ := V.list_choice (enc' := stE) (p := fun _ => True) (l := l1) (fun c hc => by
    obtain ⟨m, y, hy⟩ := f9 c hc
    exact open_st hy)
  have e1 : n0 = gl.length := by simp [f1, hgl]
  have e2 : n1 = kl.length := by simp [f6, hkl]
  unfold maxLen at f2 f7
  exact ⟨⟨⟨p0, n0, q0⟩, ⟨p1, n1, q1⟩⟩, (gl, kl), rfl, ⟨⟨e1, V.slAt_map f3 hgl⟩, ⟨e2, V.slAt_map f8 hkl⟩, f5, f10⟩, by simp only; omega, by simp only; omega⟩
end
end Go.Proofs.Ytipnpnkniihdjaa
