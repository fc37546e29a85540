/- Stories that came in: their cells. -/
import Derived.Test.YtaihimbjdgmjgaaSeA
import Derived.Lib.Hide
namespace Go.Proofs.Ytaihimbjdgmjgaa
open Go Go.RowKit V
set_option linter.unusedVariables false
set_option maxRecDepth 100000
theorem cellsOf3 : Try.prog.cellsOf 3 = 1 := by kernel_rfl
theorem cellsOf4 : Try.prog.cellsOf 4 = 1 := by kernel_rfl
theorem cellsOf9 : Try.prog.cellsOf 9 = 1 := by kernel_rfl
theorem cellsOf26 : Try.prog.cellsOf 26 = 1 := by kernel_rfl
theorem cellsOf28 : Try.prog.cellsOf 28 = 5 := by kernel_rfl
theorem cellsOf29 : Try.prog.cellsOf 29 = 1 := by kernel_rfl
theorem cellsOf30 : Try.prog.cellsOf 30 = 1 := by kernel_rfl
theorem cellsOf31 : Try.prog.cellsOf 31 = 1 := by kernel_rfl
theorem cellsOf32 : Try.prog.cellsOf 32 = 1 := by kernel_rfl
theorem cellsOf34 : Try.prog.cellsOf 34 = 6 := by kernel_rfl
theorem cellsOf36 : Try.prog.cellsOf 36 = 14 := by kernel_rfl
theorem cellsOf106 : Try.prog.cellsOf 106 = 2 := by kernel_rfl
theorem open36 {H : Type} {enc : TypeId × Value → H} {w : World} {base : Nat} {spare : Nat → Bool} {held : Bool} {fuel : Nat} {cs : List Value} {x : DataW H × List MemPlace} (h : DataW.trod enc Try.prog w base spare held fuel 36 cs = some x) :
    ∃ (v0 : Int) (v1 : Int) (v2 : ByteArray) (v3 : ByteArray) (v4 : ByteArray) (p5 : Option Addr) (n5 : Nat) (q5 : Nat) (l5 : List (List Value)) (v6 : Int) (v7 : Bool) (v8 : ByteArray) (p9 : Option Addr) (n9 : Nat) (q9 : Nat) (l9 : List (List Value)) (p10 : Option Addr) (n10 : Nat) (q10 : Nat) (l10 : List (List Value)) (v11 : Int) (v12 : Int) (v13 : Int), cs = [.int .i64 v0, .int .i64 v1, .string v2, .string v3, .string v4, .slice p5 n5 q5, .int .i64 v6, .bool v7, .string v8, .slice p9 n9 q9, .slice p10 n10 q10, .int .u64 v11, .int .i64 v12, .int .i64 v13] ∧ (Lit.int .i64 v0).wf = true ∧ (Lit.int .i64 v1).wf = true ∧ v2.size ≤ maxLen ∧ v3.size ≤ maxLen ∧ v4.size ≤ maxLen ∧ n5 = l5.length ∧ n5 ≤ maxLen ∧ V.slAt w p5 5 id l5 ∧ (∀ c ∈ l5, ∃ m y, DataW.trod enc Try.prog w base spare held m 28 c = some y) ∧ (Lit.int .i64 v6).wf = true ∧ v8.size ≤ maxLen ∧ n9 = l9.length ∧ n9 ≤ maxLen ∧ V.slAt w p9 2 id l9 ∧ (∀ c ∈ l9, ∃ m y, DataW.trod enc Try.prog w base spare held m 106 c = some y) ∧ n10 = l10.length ∧ n10 ≤ maxLen ∧ V.slAt w p10 1 id l10 ∧ (∀ c ∈ l10, ∃ m y, DataW.trod enc Try.prog w base spare held m 4 c = some y) ∧ (Lit.int .u64 v11).wf = true ∧ (Lit.int .i64 v12).wf = true ∧ (Lit.int .i64 v13).wf = true := by
  have hlen := (V.trod_fields Try.underlying36 h).1
  rw [cellsOf36] at hlen
  match cs, hlen with
  | [c0, c1, c2, c3, c4, c5, c6, c7, c8, c9, c10, c11, c12, c13], _ =>
    obtain ⟨_, m0, g0⟩ := V.trod_fields Try.underlying36 h
    obtain ⟨y0_0, f0_0⟩ := g0 0 _ rfl 3 0 1 rfl rfl cellsOf3
    simp only [List.drop, List.take] at f0_0
    obtain ⟨v0, e0, _, w0⟩ := DataW.trod_int Try.underlying3 f0_0
    simp only [List.cons.injEq, and_true] at e0; subst e0
    obtain ⟨y0_1, f0_1⟩ := g0 1 _ rfl 28 1 5 rfl rfl cellsOf28
    simp only [List.drop, List.take] at f0_1
    obtain ⟨_, m1, g1⟩ := V.trod_fields Try.underlying28 f0_1
    obtain ⟨y1_0, f1_0⟩ := g1 0 _ rfl 3 0 1 rfl rfl cellsOf3
    simp only [List.drop, List.take] at f1_0
    obtain ⟨v1, e1, _, w1⟩ := DataW.trod_int Try.underlying3 f1_0
    simp only [List.cons.injEq, and_true] at e1; subst e1
    obtain ⟨y1_1, f1_1⟩ := g1 1 _ rfl 9 1 1 rfl rfl cellsOf9
    simp only [List.drop, List.take] at f1_1
    obtain ⟨v2, e2, _, w2⟩ := DataW.trod_string Try.underlying9 f1_1
    simp only [List.cons.injEq, and_true] at e2; subst e2
    obtain ⟨y1_2, f1_2⟩ := g1 2 _ rfl 9 2 1 rfl rfl cellsOf9
    simp only [List.drop, List.take] at f1_2
    obtain ⟨v3, e3, _, w3⟩ := DataW.trod_string Try.underlying9 f1_2
    simp only [List.cons.injEq, and_true] at e3; subst e3
    obtain ⟨y1_3, f1_3⟩ := g1 3 _ rfl 9 3 1 rfl rfl cellsOf9
    simp only [List.drop, List.take] at f1_3
    obtain ⟨v4, e4, _, w4⟩ := DataW.trod_string Try.underlying9 f1_3
    simp only [List.cons.injEq, and_true] at e4; subst e4
    obtain ⟨y1_4, f1_4⟩ := g1 4 _ rfl 26 4 1 rfl rfl cellsOf26
    simp only [List.drop, List.take] at f1_4
    obtain ⟨p5, n5, q5, l5, e5, z5, x5, s5, t5⟩ := V.open_sl (sz := 5) Try.underlying26 cellsOf28 (by decide) f1_4
    simp only [List.cons.injEq, and_true] at e5; subst e5
    obtain ⟨y0_2, f0_2⟩ := g0 2 _ rfl 34 6 6 rfl rfl cellsOf34
    simp only [List.drop, List.take] at f0_2
    obtain ⟨_, m2, g2⟩ := V.trod_fields Try.underlying34 f0_2
    obtain ⟨y2_0, f2_0⟩ := g2 0 _ rfl 29 0 1 rfl rfl cellsOf29
    simp only [List.drop, List.take] at f2_0
    obtain ⟨v6, e6, _, w6⟩ := DataW.trod_int Try.underlying29 f2_0
    simp only [List.cons.injEq, and_true] at e6; subst e6
    obtain ⟨y2_1, f2_1⟩ := g2 1 _ rfl 4 1 1 rfl rfl cellsOf4
    simp only [List.drop, List.take] at f2_1
    obtain ⟨v7, e7⟩ := V.trod_bool Try.underlying4 f2_1
    simp only [List.cons.injEq, and_true] at e7; subst e7
    obtain ⟨y2_2, f2_2⟩ := g2 2 _ rfl 9 2 1 rfl rfl cellsOf9
    simp only [List.drop, List.take] at f2_2
    obtain ⟨v8, e8, _, w8⟩ := DataW.trod_string Try.underlying9 f2_2
    simp only [List.cons.injEq, and_true] at e8; subst e8
    obtain ⟨y2_3, f2_3⟩ := g2 3 _ rfl 30 3 1 rfl rfl cellsOf30
    simp only [List.drop, List.take] at f2_3
    obtain ⟨p9, n9, q9, l9, e9, z9, x9, s9, t9⟩ := V.open_sl (sz := 2) Try.underlying30 cellsOf106 (by decide) f2_3
    simp only [List.cons.injEq, and_true] at e9; subst e9
    obtain ⟨y2_4, f2_4⟩ := g2 4 _ rfl 31 4 1 rfl rfl cellsOf31
    simp only [List.drop, List.take] at f2_4
    obtain ⟨p10, n10, q10, l10, e10, z10, x10, s10, t10⟩ := V.open_sl (sz := 1) Try.underlying31 cellsOf4 (by decide) f2_4
    simp only [List.cons.injEq, and_true] at e10; subst e10
    obtain ⟨y2_5, f2_5⟩ := g2 5 _ rfl 32 5 1 rfl rfl cellsOf32
    simp only [List.drop, List.take] at f2_5
    obtain ⟨v11, e11, _, w11⟩ := DataW.trod_int Try.underlying32 f2_5
    simp only [List.cons.injEq, and_true] at e11; subst e11
    obtain ⟨y0_3, f0_3⟩ := g0 3 _ rfl 3 12 1 rfl rfl cellsOf3
    simp only [List.drop, List.take] at f0_3
    obtain ⟨v12, e12, _, w12⟩ := DataW.trod_int Try.underlying3 f0_3
    simp only [List.cons.injEq, and_true] at e12; subst e12
    obtain ⟨y0_4, f0_4⟩ := g0 4 _ rfl 3 13 1 rfl rfl cellsOf3
    simp only [List.drop, List.take] at f0_4
    obtain ⟨v13, e13, _, w13⟩ := DataW.trod_int Try.underlying3 f0_4
    simp only [List.cons.injEq, and_true] at e13; subst e13
    exact ⟨v0, v1, v2, v3, v4, p5, n5, q5, l5, v6, v7, v8, p9, n9, q9, l9, p10, n10, q10, l10, v11, v12, v13, rfl, w0, w1, w2, w3, w4, z5, x5, s5, t5, w6, w8, z9, x9, s9, t9, z10, x10, s10, t10, w11, w12, w13⟩
theorem open28 {H : Type} {enc : TypeId × Value → H} {w : World} {base : Nat} {spare : Nat → Bool} {held : Bool} {fuel : Nat} {cs : List Value} {x : DataW H × List MemPlace} (h : DataW.trod enc Try.prog w base spare held fuel 28 cs = some x) :
    ∃ (v0 : Int) (v1 : ByteArray) (v2 : ByteArray) (v3 : ByteArray) (p4 : Option Addr) (n4 : Nat) (q4 : Nat) (l4 : List (List Value)), cs = [.int .i64 v0, .string v1, .string v2, .string v3, .slice p4 n4 q4] ∧ (Lit.int .i64 v0).wf = true ∧ v1.size ≤ maxLen ∧ v2.size ≤ maxLen ∧ v3.size ≤ maxLen ∧ n4 = l4.length ∧ n4 ≤ maxLen ∧ V.slAt w p4 5 id l4 ∧ (∀ c ∈ l4, ∃ m y, DataW.trod enc Try.prog w base spare held m 28 c = some y) := by
  have hlen := (V.trod_fields Try.underlying28 h).1
  rw [cellsOf28] at hlen
  match cs, hlen with
  | [c0, c1, c2, c3, c4], _ =>
    obtain ⟨_, m0, g0⟩ := V.trod_fields Try.underlying28 h
    obtain ⟨y0_0, f0_0⟩ := g0 0 _ rfl 3 0 1 rfl rfl cellsOf3
    simp only [List.drop, List.take] at f0_0
    obtain ⟨v0, e0, _, w0⟩ := DataW.trod_int Try.underlying3 f0_0
    simp only [List.cons.injEq, and_true] at e0; subst e0
    obtain ⟨y0_1, f0_1⟩ := g0 1 _ rfl 9 1 1 rfl rfl cellsOf9
    simp only [List.drop, List.take] at f0_1
    obtain ⟨v1, e1, _, w1⟩ := DataW.trod_string Try.underlying9 f0_1
    simp only [List.cons.injEq, and_true] at e1; subst e1
    obtain ⟨y0_2, f0_2⟩ := g0 2 _ rfl 9 2 1 rfl rfl cellsOf9
    simp only [List.drop, List.take] at f0_2
    obtain ⟨v2, e2, _, w2⟩ := DataW.trod_string Try.underlying9 f0_2
    simp only [List.cons.injEq, and_true] at e2; subst e2
    obtain ⟨y0_3, f0_3⟩ := g0 3 _ rfl 9 3 1 rfl rfl cellsOf9
    simp only [List.drop, List.take] at f0_3
    obtain ⟨v3, e3, _, w3⟩ := DataW.trod_string Try.underlying9 f0_3
    simp only [List.cons.injEq, and_true] at e3; subst e3
    obtain ⟨y0_4, f0_4⟩ := g0 4 _ rfl 26 4 1 rfl rfl cellsOf26
    simp only [List.drop, List.take] at f0_4
    obtain ⟨p4, n4, q4, l4, e4, z4, x4, s4, t4⟩ := V.open_sl (sz := 5) Try.underlying26 cellsOf28 (by decide) f0_4
    simp only [List.cons.injEq, and_true] at e4; subst e4
    exact ⟨v0, v1, v2, v3, p4, n4, q4, l4, rfl, w0, w1, w2, w3, z4, x4, s4, t4⟩
theorem open106 {H : Type} {enc : TypeId × Value → H} {w : World} {base : Nat} {spare : Nat → Bool} {held : Bool} {fuel : Nat} {cs : List Value} {x : DataW H × List MemPlace} (h : DataW.trod enc Try.prog w base spare held fuel 106 cs = some x) :
    ∃ (v0 : ByteArray) (v1 : ByteArray), cs = [.string v0, .string v1] ∧ v0.size ≤ maxLen ∧ v1.size ≤ maxLen := by
  have hlen := (V.trod_fields Try.underlying106 h).1
  rw [cellsOf106] at hlen
  match cs, hlen with
  | [c0, c1], _ =>
    obtain ⟨_, m0, g0⟩ := V.trod_fields Try.underlying106 h
    obtain ⟨y0_0, f0_0⟩ := g0 0 _ rfl 9 0 1 rfl rfl cellsOf9
    simp only [List.drop, List.take] at f0_0
    obtain ⟨v0, e0, _, w0⟩ := DataW.trod_string Try.underlying9 f0_0
    simp only [List.cons.injEq, and_true] at e0; subst e0
    obtain ⟨y0_1, f0_1⟩ := g0 1 _ rfl 9 1 1 rfl rfl cellsOf9
    simp only [List.drop, List.take] at f0_1
    obtain ⟨v1, e1, _, w1⟩ := DataW.trod_string Try.underlying9 f0_1
    simp only [List.cons.injEq, and_true] at e1; subst e1
    exact ⟨v0, v1, rfl, w0, w1⟩
section
variable {H : Type} {enc : TypeId × Value → H} {w : World} {base : Nat} {spare : Nat → Bool} {held : Bool} {fuel : Nat} {cs : List Value} {x : DataW H × List MemPlace}
theorem open_cl (h : DataW.trod enc Try.prog w base spare held fuel 28 cs = some x) : ∃ c : Cl, cs = c.cells ∧ True := by
  obtain ⟨a0, a1, a2, a3, p4, n4, q4, l4, rfl, _⟩ := open28 h
  exact ⟨⟨a0, a1, a2, a3, ⟨p4, n4, q4⟩⟩, rfl, trivial⟩
theorem open_pr (h : DataW.trod enc Try.prog w base spare held fuel 106 cs = some x) : ∃ c : Pr, cs = c.cells ∧ True := by
  obtain ⟨a0, a1, rfl, _⟩ := open106 h
  exact ⟨⟨a0, a1⟩, rfl, trivial⟩
theorem open_bo (h : DataW.trod enc Try.prog w base spare held fuel 4 cs = some x) : ∃ c : Bool, cs = boolC c ∧ True := by
  obtain ⟨v, e⟩ := V.trod_bool Try.underlying4 h
  exact ⟨v, e, trivial⟩
theorem open_sto (h : DataW.trod enc Try.prog w base spare held fuel 36 cs = some x) : ∃ s : Sto, cs = s.cells ∧ StoOk w s := by
  obtain ⟨v0, v1, v2, v3, v4, p5, n5, q5, l5, v6, v7, v8, p9, n9, q9, l9, p10, n10, q10, l10, v11, v12, v13, rfl, _, _, _, _, _, hn5, _, hs5, ht5, _, _, hn9, _, hs9, ht9, hn10, _, hs10, ht10, _⟩ := open36 h
  obtain ⟨gl, hgl, _⟩ := V.list_choice (enc' := Cl.cells) (p := fun _ => True) (l := l5) (fun c hc => by
    obtain ⟨m, y, hy⟩ := ht5 c hc
    exact open_cl hy)
  obtain ⟨pl, hpl, _⟩ := V.list_choice (enc' := Pr.cells) (p := fun _ => True) (l := l9) (fun c hc => by
    obtain ⟨m, y, hy⟩ := ht9 c hc
    exact open_pr hy)
  obtain ⟨hl, hhl, _⟩ := V.list_choice (enc' := boolC) (p := fun _ => True) (l := l10) (fun c hc => by
    obtain ⟨m, y, hy⟩ := ht10 c hc
    exact open_bo hy)
  exact ⟨⟨v0, ⟨v1, v2, v3, v4, ⟨p5, n5, q5⟩⟩, v6, v7, v8, ⟨p9, n9, q9⟩, ⟨p10, n10, q10⟩, v11, v12, v13⟩, rfl, gl, pl, hl, by simp [hn5, hgl], V.slAt_map hs5 hgl, by simp [hn9, hpl], V.slAt_map hs9 hpl, by simp [hn10, hhl], V.slAt_map hs10 hhl⟩
theorem open_stos {p : Option Addr} {l : List (List Value)} (hs : V.slAt w p 14 id l) (ht : ∀ c ∈ l, ∃ m y, DataW.trod enc Try.prog w base spare held m 36 c = some y) : ∃ m : List Sto, l.length = m.length ∧ V.slAt w p 14 Sto.cells m ∧ ∀ s ∈ m, StoOk w s := by
  obtain ⟨m, hm, ho⟩ := V.list_choice (enc' := Sto.cells) (p := StoOk w) (l := l) (fun c hc => by
    obtain ⟨k, y, hy⟩ := ht c hc
    exact open_sto hy)
  exact ⟨m, by simp [hm], V.slAt_map hs hm, ho⟩
end
end Go.Proofs.Ytaihimbjdgmjgaa
