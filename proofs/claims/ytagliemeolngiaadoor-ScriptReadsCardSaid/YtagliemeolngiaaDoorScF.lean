/- Words and texts, there and back; the walks of ScriptWords and ScriptWordBack. -/
import Derived.Test.YtagliemeolngiaaDoorScE
import Derived.Lib.Hide
namespace Go.Proofs.YtagliemeolngiaaDoor
open Go Go.RowKit V
set_option linter.unusedVariables false
set_option maxRecDepth 100000
open V (str byC ownV ownG ownS ownOk)
theorem hexI_D {n : Nat} (h : n < 16) : hexI (hexD n) = (n : Nat) := by
  have : ∀ n : Fin 16, hexI (hexD n.val) = (n.val : Nat) := by decide
  exact this ⟨n, h⟩
theorem dB_D (c : UInt8) : dB (hexD (c.toNat / 16)) (hexD (c.toNat % 16)) = c := by
  have := c.toNat_lt
  unfold dB
  rw [hexI_D (by omega), hexI_D (by omega)]
  have e : (16 * ((c.toNat / 16 : Nat) : Int) + ((c.toNat % 16 : Nat) : Int)).toNat = c.toNat := by omega
  rw [e]; exact UInt8.ofNat_toNat
theorem decF_wB : ∀ s : List UInt8, decF (s.flatMap wB) = some s
  | [] => rfl
  | c :: r => by
    have ih := decF_wB r
    simp only [List.flatMap_cons]
    by_cases hp : plainB c = true
    · have hc : c ≠ 37 := by rintro rfl; revert hp; decide
      rw [show wB c = [c] from if_pos hp]
      show decF (c :: r.flatMap wB) = _
      rw [decF_plain hc, ih]; rfl
    · rw [show wB c = escB c from if_neg hp]
      show decF (37 :: hexD (c.toNat / 16) :: hexD (c.toNat % 16) :: r.flatMap wB) = _
      have := c.toNat_lt
      rw [decF_esc (by rw [hexI_D (by omega)]; omega) (by rw [hexI_D (by omega)]; omega), ih, Option.map_some, dB_D]
theorem text_word (s : List UInt8) : textF (wordF s) = some s := by
  by_cases h0 : s = []
  · subst h0; rfl
  · by_cases h1 : s = [45]
    · subst h1; decide
    · have hw : wordF s = s.flatMap wB := (if_neg h0).trans (if_neg h1)
      have hd : decF (wordF s) = some s := by rw [hw]; exact decF_wB s
      have hne : wordF s ≠ [45] := by
        intro e
        rw [e] at hd
        have : decF [45] = some [45] := by decide
        rw [this] at hd
        exact h1 (Option.some.inj hd).symm
      rw [text_some hne hd, if_pos rfl]
theorem word_inj {s t : List UInt8} : wordF t = wordF s ↔ t = s := by
  constructor
  · intro h
    have h1 := text_word t
    rw [h, text_word] at h1
    exact (Option.some.inj h1).symm
  · rintro rfl; rfl
def goodB (c : UInt8) : Prop := 32 < c.toNat ∧ c.toNat ≤ 126 ∧ c.toNat ≠ 59
theorem hexD_good {n : Nat} (h : n < 16) : goodB (hexD n) := by
  have : ∀ n : Fin 16, 32 < (hexD n.val).toNat ∧ (hexD n.val).toNat ≤ 126 ∧ (hexD n.val).toNat ≠ 59 := by decide
  exact this ⟨n, h⟩
theorem wB_good (c : UInt8) : ∀ x ∈ wB c, goodB x := by
  intro x hx
  unfold wB at hx
  split at hx
  · rename_i h
    simp only [List.mem_singleton] at hx
    subst hx
    simp only [plainB, Bool.and_eq_true, decide_eq_true_eq] at h
    unfold goodB; omega
  · have := c.toNat_lt
    simp only [escB, List.mem_cons, List.not_mem_nil, or_false] at hx
    rcases hx with rfl | rfl | rfl
    · unfold goodB; decide
    · exact hexD_good (by omega)
    · exact hexD_good (by omega)
theorem word_good (s : List UInt8) : ∀ x ∈ wordF s, goodB x := by
  intro x hx
  by_cases h0 : s = []
  · subst h0
    have : x = 45 := by simpa [wordF] using hx
    subst this; unfold goodB; decide
  · by_cases h1 : s = [45]
    · subst h1
      have : x ∈ ([37, 50, 100] : List UInt8) := hx
      simp only [List.mem_cons, List.not_mem_nil, or_false] at this
      rcases this with rfl | rfl | rfl <;> (unfold goodB; decide)
    · rw [show wordF s = s.flatMap wB from (if_neg h0).trans (if_neg h1)] at hx
      obtain ⟨c, _, hc⟩ := List.mem_flatMap.1 hx
      exact wB_good c x hc
theorem word_ne (s : List UInt8) : wordF s ≠ [] := by
  intro h
  have := text_word s
  rw [h] at this
  cases this
theorem word_len (s : List UInt8) : (wordF s).length ≤ 3 * s.length + 1 := by
  by_cases h0 : s = []
  · subst h0; decide
  · by_cases h1 : s = [45]
    · subst h1; decide
    · rw [show wordF s = s.flatMap wB from (if_neg h0).trans (if_neg h1)]
      have := flat_wB_len s; omega
theorem scriptWords_c (l : List UInt8) (w : World) : Calls Tryd.prog 3 [str l].toArray w fun e w' => e = .returned (.bool true) ∧ Below w.heap.size w w' := by
  refine V.calls [] Tryd.func3 rfl Tryd.ntmps3 (Nat.le_of_ble_eq_true rfl) (V.sat_nil _) ?_
  refine CW.seq ?_
  refine CW.region ?_
  refine LW.v rfl rfl (Val.assign rfl) ?_
  refine LW.nil ?_
  refine PQ.seq ?_
  refine CW.seq ?_
  refine CW.seq ?_
  refine CW.region ?_
  refine LW.v rfl rfl (Val.move rfl) ?_
  refine LW.v rfl rfl (Val.lenStr rfl Tryd.underlying9) ?_
  refine LW.v rfl rfl (Val.cmp rfl rfl rfl) ?_
  refine LW.nil ?_
  refine PQ.seq ?_
  refine CW.cond rfl (fun h9 => ?_) (fun h9 => ?_)
  · replace h9 := bT h9
    refine CW.seq ?_
    refine CW.region ?_
    refine LW.e rfl rfl (Eff.callV rfl Tryd.call11 (fun w hw => awake28_c w)) ?_
    intro _ _
    refine LW.v rfl rfl (Val.assign rfl) ?_
    refine LW.nil ?_
    refine PQ.seq ?_
    refine CW.ret ?_
    refine PQ.then_ret ?_
    refine PQ.ret1 rfl rfl ?_
    intro w' hw; exact ⟨rfl, hw.below⟩
  · replace h9 := bF h9
    refine CW.skip ?_
    refine PQ.seq ?_
    refine CW.seq ?_
    refine CW.region ?_
    refine LW.v rfl rfl (Val.move rfl) ?_
    refine LW.e rfl rfl (Eff.callV rfl Tryd.call12 (fun w hw => text_c l (by omega) w)) ?_
    intro _ _
    refine LW.re 13 (.tuple [str ((textF l).getD []), .bool (textF l).isSome].toArray) rfl rfl ?_
    refine LW.v rfl rfl (Val.move rfl) ?_
    refine LW.v rfl rfl (Val.extract rfl rfl) ?_
    refine LW.v rfl rfl (Val.extract rfl rfl) ?_
    refine LW.v rfl rfl (Val.assign rfl) ?_
    refine LW.v rfl rfl (Val.assign rfl) ?_
    refine LW.nil ?_
    refine PQ.seq ?_
    refine CW.seq ?_
    refine CW.region ?_
    refine LW.v rfl rfl (Val.move rfl) ?_
    refine LW.e rfl rfl (Eff.callV rfl Tryd.call13 (fun w hw => rtext_c l (by omega) w)) ?_
    intro _ _
    refine LW.re 18 (.tuple [str ((textF l).getD []), .bool (textF l).isSome].toArray) rfl rfl ?_
    refine LW.v rfl rfl (Val.move rfl) ?_
    refine LW.v rfl rfl (Val.extract rfl rfl) ?_
    refine LW.v rfl rfl (Val.extract rfl rfl) ?_
    refine LW.v rfl rfl (Val.assign rfl) ?_
    refine LW.v rfl rfl (Val.assign rfl) ?_
    refine LW.nil ?_
    refine PQ.seq ?_
    refine CW.seq ?_
    refine CW.region ?_
    refine LW.v rfl rfl (Val.move rfl) ?_
    refine LW.e rfl rfl (Eff.callV rfl Tryd.call14 (fun w hw => word_c l (by omega) w)) ?_
    intro _ _
    refine LW.v rfl rfl (Val.move rfl) ?_
    refine LW.e rfl rfl (Eff.callV rfl Tryd.call15 (fun w hw => rword_c l (by omega) w)) ?_
    intro _ _
    refine LW.v rfl rfl (Val.eqStr rfl rfl) ?_
    refine LW.re 25 (.bool true) rfl (by simp) ?_
    refine LW.v rfl rfl (Val.move rfl) ?_
    refine LW.v rfl rfl (Val.move rfl) ?_
    refine LW.v rfl rfl (Val.move rfl) ?_
    refine LW.v rfl rfl (Val.eqStr rfl rfl) ?_
    refine LW.re 29 (.bool true) rfl (by simp) ?_
    refine LW.v rfl rfl (Val.pick_t rfl rfl) ?_
    refine LW.v rfl rfl (Val.move rfl) ?_
    refine LW.v rfl rfl (Val.move rfl) ?_
    refine LW.v rfl rfl (Val.move rfl) ?_
    refine LW.v rfl rfl (Val.eqB rfl rfl Tryd.underlying4) ?_
    refine LW.re 34 (.bool true) rfl (by simp) ?_
    refine LW.v rfl rfl (Val.pick_t rfl rfl) ?_
    refine LW.v rfl rfl (Val.move rfl) ?_
    refine LW.e rfl rfl (Eff.callV rfl Tryd.call11 (fun w hw => awake28_c w)) ?_
    intro _ _
    refine LW.v rfl rfl (Val.pick_t rfl rfl) ?_
    refine LW.v rfl rfl (Val.assign rfl) ?_
    refine LW.nil ?_
    refine PQ.seq ?_
    refine CW.ret ?_
    refine PQ.ret1 rfl rfl ?_
    intro w' hw; exact ⟨rfl, hw.below⟩
theorem scriptWordBack_c (s u : List UInt8) (w : World) : Calls Tryd.prog 4 [str s, str u].toArray w fun e w' => e = .returned (.bool true) ∧ Below w.heap.size w w' := by
  refine V.calls [] Tryd.func4 rfl Tryd.ntmps4 (Nat.le_of_ble_eq_true rfl) (V.sat_nil _) ?_
  refine CW.seq ?_
  refine CW.region ?_
  refine LW.v rfl rfl (Val.assign rfl) ?_
  refine LW.nil ?_
  refine PQ.seq ?_
  refine CW.seq ?_
  refine CW.seq ?_
  refine CW.region ?_
  refine LW.v rfl rfl (Val.move rfl) ?_
  refine LW.v rfl rfl (Val.lenStr rfl Tryd.underlying9) ?_
  refine LW.v rfl rfl (Val.cmp rfl rfl rfl) ?_
  refine LW.v rfl rfl (Val.move rfl) ?_
  refine LW.split (d := 12) rfl (fun h12 => ?_) (fun h12 => ?_)
  · replace h12 := bT h12
    refine LW.p rfl rfl ?_
    refine LW.p rfl rfl ?_
    refine LW.p rfl rfl ?_
    refine LW.v rfl rfl (Val.pick_t rfl rfl) ?_
    refine LW.nil ?_
    refine PQ.seq ?_
    refine CW.cond_t rfl ?_
    refine CW.seq ?_
    refine CW.region ?_
    refine LW.e rfl rfl (Eff.callV rfl Tryd.call11 (fun w hw => awake28_c w)) ?_
    intro _ _
    refine LW.v rfl rfl (Val.assign rfl) ?_
    refine LW.nil ?_
    refine PQ.seq ?_
    refine CW.ret ?_
    refine PQ.then_ret ?_
    refine PQ.ret1 rfl rfl ?_
    intro w' hw; exact ⟨rfl, hw.below⟩
  · replace h12 := bF h12
    refine LW.v rfl rfl (Val.move rfl) ?_
    refine LW.v rfl rfl (Val.lenStr rfl Tryd.underlying9) ?_
    refine LW.v rfl rfl (Val.cmp rfl rfl rfl) ?_
    refine LW.v rfl rfl (Val.pick_f rfl rfl) ?_
    refine LW.nil ?_
    refine PQ.seq ?_
    refine CW.cond rfl (fun h16 => ?_) (fun h16 => ?_)
    · replace h16 := bT h16
      refine CW.seq ?_
      refine CW.region ?_
      refine LW.e rfl rfl (Eff.callV rfl Tryd.call11 (fun w hw => awake28_c w)) ?_
      intro _ _
      refine LW.v rfl rfl (Val.assign rfl) ?_
      refine LW.nil ?_
      refine PQ.seq ?_
      refine CW.ret ?_
      refine PQ.then_ret ?_
      refine PQ.ret1 rfl rfl ?_
      intro w' hw; exact ⟨rfl, hw.below⟩
    · replace h16 := bF h16
      refine CW.skip ?_
      refine PQ.seq ?_
      refine CW.seq ?_
      refine CW.region ?_
      refine LW.v rfl rfl (Val.move rfl) ?_
      refine LW.e rfl rfl (Eff.callV rfl Tryd.call14 (fun w hw => word_c s (by omega) w)) ?_
      intro _ _
      refine LW.v rfl rfl (Val.assign rfl) ?_
      refine LW.nil ?_
      refine PQ.seq ?_
      refine CW.seq ?_
      refine CW.region ?_
      refine LW.v rfl rfl (Val.move rfl) ?_
      refine LW.e rfl rfl (Eff.callV rfl Tryd.call12 (fun w hw => text_c (wordF s) (by have := word_len s; omega) w)) ?_
      intro _ _
      refine LW.re 22 (.tuple [str s, .bool true].toArray) rfl (by rw [text_word]; rfl) ?_
      refine LW.v rfl rfl (Val.move rfl) ?_
      refine LW.v rfl rfl (Val.extract rfl rfl) ?_
      refine LW.v rfl rfl (Val.extract rfl rfl) ?_
      refine LW.v rfl rfl (Val.assign rfl) ?_
      refine LW.v rfl rfl (Val.assign rfl) ?_
      refine LW.nil ?_
      refine PQ.seq ?_
      refine CW.seq ?_
      refine CW.seq ?_
      refine CW.region ?_
      refine LW.v rfl rfl (Val.assign rfl) ?_
      refine LW.nil ?_
      refine PQ.seq ?_
      refine CW.block ?_
      refine CW.loop (γ := Nat) (fun k => [(0, str s), (1, str u), (5, str (wordF s)), (6, str s), (7, .bool true), (8, .int .i64 (k : Nat))]) (fun _ => []) (fun k => k ≤ (wordF s).length) (fun k => (wordF s).length - k) (0) (Nat.zero_le _) (by repeat (first | exact trivial | refine ⟨rfl, ?_⟩)) (by repeat (first | exact .nil | apply Pick.cons | exact .here | apply Ext.there)) ?_
      intro k
      intro hJ
      have hwl := word_len s
      refine CW.seq ?_
      refine CW.seq ?_
      refine CW.region ?_
      refine LW.v rfl rfl (Val.move rfl) ?_
      refine LW.v rfl rfl (Val.move rfl) ?_
      refine LW.v rfl rfl (Val.lenStr rfl Tryd.underlying9) ?_
      refine LW.v rfl rfl (Val.cmp rfl rfl rfl) ?_
      refine LW.nil ?_
      refine PQ.seq ?_
      refine CW.cond rfl (fun h28 => ?_) (fun h28 => ?_)
      · replace h28 := bT h28
        obtain ⟨c, hc⟩ : ∃ c, (wordF s)[k]? = some c := ⟨(wordF s)[k]'(by omega), by simp⟩
        have hg := word_good s c (List.mem_of_getElem? hc)
        refine CW.skip ?_
        refine PQ.seq ?_
        refine CW.seq ?_
        refine CW.block ?_
        refine CW.seq ?_
        refine CW.region ?_
        refine LW.v rfl rfl (Val.move rfl) ?_
        refine LW.v rfl rfl (Val.move rfl) ?_
        refine LW.v rfl rfl (Val.indexStr (l := wordF s) rfl rfl Tryd.underlying9 hc) ?_
        refine LW.v rfl rfl (Val.cmp rfl rfl rfl) ?_
        refine LW.re 34 (.bool false) rfl (by have := hg.1; simp; omega) ?_
        refine LW.v rfl rfl (Val.move rfl) ?_
        refine LW.v rfl rfl (Val.move rfl) ?_
        refine LW.v rfl rfl (Val.move rfl) ?_
        refine LW.v rfl rfl (Val.indexStr (l := wordF s) rfl rfl Tryd.underlying9 hc) ?_
        refine LW.v rfl rfl (Val.cmp rfl rfl rfl) ?_
        refine LW.re 39 (.bool false) rfl (by have := hg.2.1; simp; omega) ?_
        refine LW.v rfl rfl (Val.pick_f rfl rfl) ?_
        refine LW.v rfl rfl (Val.move rfl) ?_
        refine LW.v rfl rfl (Val.move rfl) ?_
        refine LW.v rfl rfl (Val.move rfl) ?_
        refine LW.v rfl rfl (Val.indexStr (l := wordF s) rfl rfl Tryd.underlying9 hc) ?_
        refine LW.v rfl rfl (Val.cmp rfl rfl rfl) ?_
        refine LW.re 45 (.bool false) rfl (by have := hg.2.2; simp; omega) ?_
        refine LW.v rfl rfl (Val.pick_f rfl rfl) ?_
        refine LW.nil ?_
        refine PQ.seq ?_
        refine CW.cond_f rfl ?_
        refine CW.skip ?_
        refine PQ.in_normal ?_
        refine PQ.seq ?_
        refine CW.region ?_
        refine LW.v rfl rfl (Val.move rfl) ?_
        refine LW.v rfl rfl (Val.ar rfl rfl rfl (IntWalk.i64_in _ (by omega))) ?_
        refine LW.v rfl rfl (Val.assign rfl) ?_
        refine LW.nil ?_
        refine PQ.round (k + 1) (by omega) (by omega) (by repeat (first | exact trivial | refine ⟨rfl, ?_⟩)) (by repeat (first | exact .nil | apply Pick.cons | exact .here | apply Ext.there))
      · replace h28 := bF h28
        refine CW.exit ?_
        refine PQ.then_exit ?_
        refine PQ.then_exit ?_
        refine PQ.in_here ?_
        refine PQ.seq ?_
        refine CW.seq ?_
        refine CW.region ?_
        refine LW.v rfl rfl (Val.move rfl) ?_
        refine LW.v rfl rfl (Val.neStr rfl rfl) ?_
        refine LW.re 48 (.bool true) rfl (by simp [word_ne]) ?_
        refine LW.v rfl rfl (Val.move rfl) ?_
        refine LW.v rfl rfl (Val.move rfl) ?_
        refine LW.v rfl rfl (Val.pick_t rfl rfl) ?_
        refine LW.v rfl rfl (Val.move rfl) ?_
        refine LW.v rfl rfl (Val.move rfl) ?_
        refine LW.v rfl rfl (Val.move rfl) ?_
        refine LW.v rfl rfl (Val.eqStr rfl rfl) ?_
        refine LW.re 55 (.bool true) rfl (by simp) ?_
        refine LW.v rfl rfl (Val.pick_t rfl rfl) ?_
        refine LW.v rfl rfl (Val.move rfl) ?_
        refine LW.v rfl rfl (Val.move rfl) ?_
        refine LW.e rfl rfl (Eff.callV rfl Tryd.call14 (fun w hw => word_c u (by omega) w)) ?_
        intro _ _
        refine LW.v rfl rfl (Val.move rfl) ?_
        refine LW.v rfl rfl (Val.eqStr rfl rfl) ?_
        refine LW.v rfl rfl (Val.move rfl) ?_
        refine LW.v rfl rfl (Val.move rfl) ?_
        refine LW.v rfl rfl (Val.eqStr rfl rfl) ?_
        refine LW.v rfl rfl (Val.eqB rfl rfl Tryd.underlying4) ?_
        refine LW.re 65 (.bool true) rfl (by simp [word_inj]) ?_
        refine LW.v rfl rfl (Val.pick_t rfl rfl) ?_
        refine LW.v rfl rfl (Val.move rfl) ?_
        refine LW.e rfl rfl (Eff.callV rfl Tryd.call11 (fun w hw => awake28_c w)) ?_
        intro _ _
        refine LW.v rfl rfl (Val.pick_t rfl rfl) ?_
        refine LW.v rfl rfl (Val.assign rfl) ?_
        refine LW.nil ?_
        refine PQ.seq ?_
        refine CW.ret ?_
        refine PQ.ret1 rfl rfl ?_
        intro w' hw; exact ⟨rfl, hw.below⟩
end Go.Proofs.YtagliemeolngiaaDoor
