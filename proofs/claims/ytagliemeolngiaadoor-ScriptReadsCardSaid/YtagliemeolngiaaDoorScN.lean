/- Events that came in: their cells; what the listed variables say. -/
import Derived.Test.YtagliemeolngiaaDoorScL
import Derived.Lib.Hide
import Derived.WalkSmall
import Derived.Lib.LaidTab
import Derived.MakeChecks
import Derived.Stop.LaidErr
namespace Go.Proofs.YtagliemeolngiaaDoor
open Go Go.RowKit V
set_option linter.unusedVariables false
set_option maxRecDepth 100000
theorem cellsOf3 : Tryd.prog.cellsOf 3 = 1 := by kernel_rfl
theorem cellsOf9 : Tryd.prog.cellsOf 9 = 1 := by kernel_rfl
theorem cellsOf39 : Tryd.prog.cellsOf 39 = 1 := by kernel_rfl
theorem cellsOf41 : Tryd.prog.cellsOf 41 = 5 := by kernel_rfl
theorem cellsOf42 : Tryd.prog.cellsOf 42 = 1 := by kernel_rfl
theorem cellsOf44 : Tryd.prog.cellsOf 44 = 9 := by kernel_rfl
theorem open44 {H : Type} {enc : TypeId × Value → H} {w : World} {base : Nat} {spare : Nat → Bool} {held : Bool} {fuel : Nat} {cs : List Value} {x : DataW H × List MemPlace} (h : DataW.trod enc Tryd.prog w base spare held fuel 44 cs = some x) :
    ∃ (v0 : Int) (v1 : Int) (v2 : Int) (v3 : Int) (v4 : ByteArray) (v5 : ByteArray) (v6 : ByteArray) (p7 : Option Addr) (n7 : Nat) (q7 : Nat) (l7 : List (List Value)) (p8 : Option Addr) (n8 : Nat) (q8 : Nat) (l8 : List (List Value)), cs = [.int .i64 v0, .int .i64 v1, .int .i64 v2, .int .i64 v3, .string v4, .string v5, .string v6, .slice p7 n7 q7, .slice p8 n8 q8] ∧ (Lit.int .i64 v0).wf = true ∧ (Lit.int .i64 v1).wf = true ∧ (Lit.int .i64 v2).wf = true ∧ (Lit.int .i64 v3).wf = true ∧ v4.size ≤ maxLen ∧ v5.size ≤ maxLen ∧ v6.size ≤ maxLen ∧ n7 = l7.length ∧ n7 ≤ maxLen ∧ V.slAt w p7 5 id l7 ∧ (∀ c ∈ l7, ∃ m y, DataW.trod enc Tryd.prog w base spare held m 41 c = some y) ∧ n8 = l8.length ∧ n8 ≤ maxLen ∧ V.slAt w p8 1 id l8 ∧ (∀ c ∈ l8, ∃ m y, DataW.trod enc Tryd.prog w base spare held m 3 c = some y) := by
  have hlen := (V.trod_fields Tryd.underlying44 h).1
  rw [cellsOf44] at hlen
  match cs, hlen with
  | [c0, c1, c2, c3, c4, c5, c6, c7, c8], _ =>
    obtain ⟨_, m0, g0⟩ := V.trod_fields Tryd.underlying44 h
    obtain ⟨y0_0, f0_0⟩ := g0 0 _ rfl 3 0 1 rfl rfl cellsOf3
    simp only [List.drop, List.take] at f0_0
    obtain ⟨v0, e0, _, w0⟩ := DataW.trod_int Tryd.underlying3 f0_0
    simp only [List.cons.injEq, and_true] at e0; subst e0
    obtain ⟨y0_1, f0_1⟩ := g0 1 _ rfl 3 1 1 rfl rfl cellsOf3
    simp only [List.drop, List.take] at f0_1
    obtain ⟨v1, e1, _, w1⟩ := DataW.trod_int Tryd.underlying3 f0_1
    simp only [List.cons.injEq, and_true] at e1; subst e1
    obtain ⟨y0_2, f0_2⟩ := g0 2 _ rfl 3 2 1 rfl rfl cellsOf3
    simp only [List.drop, List.take] at f0_2
    obtain ⟨v2, e2, _, w2⟩ := DataW.trod_int Tryd.underlying3 f0_2
    simp only [List.cons.injEq, and_true] at e2; subst e2
    obtain ⟨y0_3, f0_3⟩ := g0 3 _ rfl 41 3 5 rfl rfl cellsOf41
    simp only [List.drop, List.take] at f0_3
    obtain ⟨_, m1, g1⟩ := V.trod_fields Tryd.underlying41 f0_3
    obtain ⟨y1_0, f1_0⟩ := g1 0 _ rfl 3 0 1 rfl rfl cellsOf3
    simp only [List.drop, List.take] at f1_0
    obtain ⟨v3, e3, _, w3⟩ := DataW.trod_int Tryd.underlying3 f1_0
    simp only [List.cons.injEq, and_true] at e3; subst e3
    obtain ⟨y1_1, f1_1⟩ := g1 1 _ rfl 9 1 1 rfl rfl cellsOf9
    simp only [List.drop, List.take] at f1_1
    obtain ⟨v4, e4, _, w4⟩ := DataW.trod_string Tryd.underlying9 f1_1
    simp only [List.cons.injEq, and_true] at e4; subst e4
    obtain ⟨y1_2, f1_2⟩ := g1 2 _ rfl 9 2 1 rfl rfl cellsOf9
    simp only [List.drop, List.take] at f1_2
    obtain ⟨v5, e5, _, w5⟩ := DataW.trod_string Tryd.underlying9 f1_2
    simp only [List.cons.injEq, and_true] at e5; subst e5
    obtain ⟨y1_3, f1_3⟩ := g1 3 _ rfl 9 3 1 rfl rfl cellsOf9
    simp only [List.drop, List.take] at f1_3
    obtain ⟨v6, e6, _, w6⟩ := DataW.trod_string Tryd.underlying9 f1_3
    simp only [List.cons.injEq, and_true] at e6; subst e6
    obtain ⟨y1_4, f1_4⟩ := g1 4 _ rfl 39 4 1 rfl rfl cellsOf39
    simp only [List.drop, List.take] at f1_4
    obtain ⟨p7, n7, q7, l7, e7, z7, x7, s7, t7⟩ := V.open_sl (sz := 5) Tryd.underlying39 cellsOf41 (by decide) f1_4
    simp only [List.cons.injEq, and_true] at e7; subst e7
    obtain ⟨y0_4, f0_4⟩ := g0 4 _ rfl 42 8 1 rfl rfl cellsOf42
    simp only [List.drop, List.take] at f0_4
    obtain ⟨p8, n8, q8, l8, e8, z8, x8, s8, t8⟩ := V.open_sl (sz := 1) Tryd.underlying42 cellsOf3 (by decide) f0_4
    simp only [List.cons.injEq, and_true] at e8; subst e8
    exact ⟨v0, v1, v2, v3, v4, v5, v6, p7, n7, q7, l7, p8, n8, q8, l8, rfl, w0, w1, w2, w3, w4, w5, w6, z7, x7, s7, t7, z8, x8, s8, t8⟩
theorem open41 {H : Type} {enc : TypeId × Value → H} {w : World} {base : Nat} {spare : Nat → Bool} {held : Bool} {fuel : Nat} {cs : List Value} {x : DataW H × List MemPlace} (h : DataW.trod enc Tryd.prog w base spare held fuel 41 cs = some x) :
    ∃ (v0 : Int) (v1 : ByteArray) (v2 : ByteArray) (v3 : ByteArray) (p4 : Option Addr) (n4 : Nat) (q4 : Nat) (l4 : List (List Value)), cs = [.int .i64 v0, .string v1, .string v2, .string v3, .slice p4 n4 q4] ∧ (Lit.int .i64 v0).wf = true ∧ v1.size ≤ maxLen ∧ v2.size ≤ maxLen ∧ v3.size ≤ maxLen ∧ n4 = l4.length ∧ n4 ≤ maxLen ∧ V.slAt w p4 5 id l4 ∧ (∀ c ∈ l4, ∃ m y, DataW.trod enc Tryd.prog w base spare held m 41 c = some y) := by
  have hlen := (V.trod_fields Tryd.underlying41 h).1
  rw [cellsOf41] at hlen
  match cs, hlen with
  | [c0, c1, c2, c3, c4], _ =>
    obtain ⟨_, m0, g0⟩ := V.trod_fields Tryd.underlying41 h
    obtain ⟨y0_0, f0_0⟩ := g0 0 _ rfl 3 0 1 rfl rfl cellsOf3
    simp only [List.drop, List.take] at f0_0
    obtain ⟨v0, e0, _, w0⟩ := DataW.trod_int Tryd.underlying3 f0_0
    simp only [List.cons.injEq, and_true] at e0; subst e0
    obtain ⟨y0_1, f0_1⟩ := g0 1 _ rfl 9 1 1 rfl rfl cellsOf9
    simp only [List.drop, List.take] at f0_1
    obtain ⟨v1, e1, _, w1⟩ := DataW.trod_string Tryd.underlying9 f0_1
    simp only [List.cons.injEq, and_true] at e1; subst e1
    obtain ⟨y0_2, f0_2⟩ := g0 2 _ rfl 9 2 1 rfl rfl cellsOf9
    simp only [List.drop, List.take] at f0_2
    obtain ⟨v2, e2, _, w2⟩ := DataW.trod_string Tryd.underlying9 f0_2
    simp only [List.cons.injEq, and_true] at e2; subst e2
    obtain ⟨y0_3, f0_3⟩ := g0 3 _ rfl 9 3 1 rfl rfl cellsOf9
    simp only [List.drop, List.take] at f0_3
    obtain ⟨v3, e3, _, w3⟩ := DataW.trod_string Tryd.underlying9 f0_3
    simp only [List.cons.injEq, and_true] at e3; subst e3
    obtain ⟨y0_4, f0_4⟩ := g0 4 _ rfl 39 4 1 rfl rfl cellsOf39
    simp only [List.drop, List.take] at f0_4
    obtain ⟨p4, n4, q4, l4, e4, z4, x4, s4, t4⟩ := V.open_sl (sz := 5) Tryd.underlying39 cellsOf41 (by decide) f0_4
    simp only [List.cons.injEq, and_true] at e4; subst e4
    exact ⟨v0, v1, v2, v3, p4, n4, q4, l4, rfl, w0, w1, w2, w3, z4, x4, s4, t4⟩
section
variable {H : Type} {enc : TypeId × Value → H} {w : World} {base : Nat} {spare : Nat → Bool} {held : Bool} {fuel : Nat} {cs : List Value} {x : DataW H × List MemPlace}
theorem open_cq (h : DataW.trod enc Tryd.prog w base spare held fuel 41 cs = some x) : ∃ c : Cq, cs = c.cells ∧ True := by
  obtain ⟨a0, a1, a2, a3, p4, n4, q4, l4, rfl, _⟩ := open41 h
  exact ⟨⟨a0, a1.data.toList, a2.data.toList, a3.data.toList, ⟨p4, n4, q4⟩⟩, rfl, trivial⟩
theorem open_in (h : DataW.trod enc Tryd.prog w base spare held fuel 3 cs = some x) : ∃ z : Int, cs = intC z ∧ True := by
  obtain ⟨v, e, _⟩ := DataW.trod_int Tryd.underlying3 h
  exact ⟨v, e, trivial⟩
theorem open_evq (h : DataW.trod enc Tryd.prog w base spare held fuel 44 cs = some x) : ∃ e : Evq, cs = e.cells ∧ ∃ gl kl, EvR w e gl kl := by
  obtain ⟨v0, v1, v2, v3, v4, v5, v6, p7, n7, q7, l7, p8, n8, q8, l8, rfl, _, _, _, _, _, _, _, hn7, _, hs7, ht7, hn8, _, hs8, ht8⟩ := open44 h
  obtain ⟨gl, hgl, _⟩ := V.list_choice (enc' := Cq.cells) (p := fun _ => True) (l := l7) (fun c hc => by
    obtain ⟨m, y, hy⟩ := ht7 c hc
    exact open_cq hy)
  obtain ⟨kl, hkl, _⟩ := V.list_choice (enc' := intC) (p := fun _ => True) (l := l8) (fun c hc => by
    obtain ⟨m, y, hy⟩ := ht8 c hc
    exact open_in hy)
  exact ⟨⟨v0, v1, v2, ⟨v3, v4.data.toList, v5.data.toList, v6.data.toList, ⟨p7, n7, q7⟩⟩, ⟨p8, n8, q8⟩⟩, rfl, gl, kl, by simp [hn7, hgl], V.slAt_map hs7 hgl, by simp [hn8, hkl], V.slAt_map hs8 hkl⟩
theorem open_evs {p : Option Addr} {l : List (List Value)} (hs : V.slAt w p 9 id l) (ht : ∀ c ∈ l, ∃ m y, DataW.trod enc Tryd.prog w base spare held m 44 c = some y) : ∃ (m : List Evq) (gr : Evq → List Cq) (kr : Evq → List Int), l.length = m.length ∧ V.slAt w p 9 Evq.cells m ∧ ∀ e ∈ m, EvR w e (gr e) (kr e) := by
  obtain ⟨m, hm, ho⟩ := V.list_choice (enc' := Evq.cells) (p := fun e => ∃ gl kl, EvR w e gl kl) (l := l) (fun c hc => by
    obtain ⟨k, y, hy⟩ := ht c hc
    exact open_evq hy)
  have h1 : ∀ e, ∃ d : List Cq × List Int, e ∈ m → EvR w e d.1 d.2 := fun e => by
    by_cases he : e ∈ m
    · obtain ⟨gl, kl, h2⟩ := ho e he
      exact ⟨(gl, kl), fun _ => h2⟩
    · exact ⟨([], []), fun h2 => absurd h2 he⟩
  obtain ⟨d, hd⟩ := Classical.skolem.1 h1
  exact ⟨m, fun e => (d e).1, fun e => (d e).2, by simp [hm], V.slAt_map hs hm, fun e he => hd e he⟩
end
theorem gPow : Tryd.prog.globalNamed "internal/strconv.uint64pow10" = some 1 := by kernel_rfl
theorem gPowT : (Tryd.prog.globals[1]?).map (·.type) = some 132 := by kernel_rfl
theorem htab (W : World) (h : laidMetH Tryd.prog Rows.scriptPrintsRow.laid W) : Go.Lib.TabIs Tryd.prog W "internal/strconv.uint64pow10" .u64 Go.Lib.pow10Tab := by
  rw [Go.MakeChecks.laidMetH_plain _ _ _ (by kernel_rfl)] at h
  exact Go.Lib.tabIs_of_head gPow gPowT Tryd.underlying132 Tryd.underlying117 (by kernel_rfl) (by kernel_rfl) (laidMet.tail (laidMet.tail h))
theorem itoaAll_of {W : World} (hg : 1 < W.heap.size) (h : Go.Lib.TabIs Tryd.prog W "internal/strconv.uint64pow10" .u64 Go.Lib.pow10Tab) : ItoaAll W := fun x h0 h1 w' hb => by
  have ht : Go.Lib.TabIs Tryd.prog w' "internal/strconv.uint64pow10" .u64 Go.Lib.pow10Tab := Go.var?_below hb gPow hg h
  refine (Tryd.strconv_Itoa x (by omega) (by omega) w' ht).mono fun e w2 ⟨e1, k, os, e2⟩ => ?_
  subst e2
  refine ⟨by rw [e1]; unfold Go.Lib.itoa decN str; rw [if_neg (by omega)], ⟨rfl, rfl, rfl, by simp [Go.Sort.grow], fun k hk => ?_⟩⟩
  simp only [Go.Sort.grow]
  exact Array.getElem?_append_left hk
theorem heap_gt {W : World} (h : Go.Lib.TabIs Tryd.prog W "internal/strconv.uint64pow10" .u64 Go.Lib.pow10Tab) : 1 < W.heap.size := by
  have h1 := h.cell gPow 0 (by decide)
  exact block_lt_of_cell h1
end Go.Proofs.YtagliemeolngiaaDoor
