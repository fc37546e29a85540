/- What the listed variables say of the library's numbers. -/
import Derived.Test.YtagliemeolngiaaDoorScN
import Derived.Test.YtagliemeolngiaaDoorScW
import Derived.Lib.Hide
import Derived.Lib.AtoiErrMem
import Derived.Shelf.Strconv.ErrVarAll
import Derived.RowKitTokens
namespace Go.Proofs.YtagliemeolngiaaDoor
open Go Go.RowKit V
set_option linter.unusedVariables false
set_option maxRecDepth 100000
theorem gSyn : Tryd.prog.globalNamed "strconv.ErrSyntax" = some 2 := by kernel_rfl
theorem gSynT : (Tryd.prog.globals[2]?).map (·.type) = some 59 := by kernel_rfl
theorem gRng : Tryd.prog.globalNamed "strconv.ErrRange" = some 3 := by kernel_rfl
theorem gRngT : (Tryd.prog.globals[3]?).map (·.type) = some 59 := by kernel_rfl
theorem starErr : "*" ++ "errors.errorString" = "*errors.errorString" := by decide
theorem row142 (u : TypeId) (h : Tryd.prog.typeName? 3 u = some "*errors.errorString") : u = 142 :=
  typeName_ptr_named (nm := "errors.errorString") (by rw [starErr]; kernel_rfl) (by kernel_rfl) (by decide) u (by rw [starErr]; exact h)
theorem numLib_of {W : World} (h : laidMetH Tryd.prog Rows.scriptReadsRow.laid W) : NumLib W := by
  rw [Go.MakeChecks.laidMetH_plain _ _ _ (by kernel_rfl)] at h
  have htab : Go.Lib.TabIs Tryd.prog W "internal/strconv.uint64pow10" .u64 Go.Lib.pow10Tab := Go.Lib.tabIs_of_head gPow gPowT Tryd.underlying132 Tryd.underlying117 (by kernel_rfl) (by kernel_rfl) (laidMet.tail (laidMet.tail h))
  obtain ⟨a, sa, hva, _, _, _⟩ := laid_sentinel (laidMet.tail (laidMet.tail (laidMet.tail h))) gRng gRngT Tryd.underlying59 row142 Tryd.underlying142 Tryd.underlying144 rfl rfl Tryd.underlying9 (by kernel_rfl) (by kernel_rfl)
  obtain ⟨b, sb, hvb, _, _, _⟩ := laid_sentinel (laidMet.tail (laidMet.tail (laidMet.tail (laidMet.tail h)))) gSyn gSynT Tryd.underlying59 row142 Tryd.underlying142 Tryd.underlying144 rfl rfl Tryd.underlying9 (by kernel_rfl) (by kernel_rfl)
  have h1 := heap_gt htab
  have hlt : ∀ {nm : String} {g : Nat} {cs : Array Value}, Tryd.prog.globalNamed nm = some g → W.var? Tryd.prog nm = some cs → g < W.heap.size := fun {nm g cs} hg hv => by
    unfold World.var? at hv
    rw [hg] at hv
    rcases Nat.lt_or_ge g W.heap.size with h' | h'
    · exact h'
    · simp [Array.getElem?_eq_none h'] at hv
  have key : ∀ {w : World} {nm : String} {g : Nat} {cs : Array Value}, (∀ b, b < W.heap.size → w.heap[b]? = W.heap[b]?) → Tryd.prog.globalNamed nm = some g → W.var? Tryd.prog nm = some cs → w.var? Tryd.prog nm = some cs := fun {w nm g cs} ho hg hv => by
    have hl := hlt hg hv
    unfold World.var? at hv ⊢
    rw [hg] at hv ⊢
    simp only [Option.bind_some] at hv ⊢
    rw [ho g hl]
    exact hv
  refine ⟨fun w ho l hl => ?_, fun w ho x h0 h2 => ?_⟩
  · have hsz : (⟨l.toArray⟩ : ByteArray).size = l.length := V.str_size l
    have e0 : (⟨l.toArray⟩ : ByteArray).data.toList = l := by simp
    rcases hq : Go.Lib.atoiAll l with v | _ | _
    · have h3 := Tryd.strconv_Atoi_ok ⟨l.toArray⟩ (by rw [hsz]; omega) v (by rw [e0]; exact hq) w
      refine h3.mono fun e w' ⟨e1, e2⟩ => ⟨(v, .nilIface), .inl ⟨rfl, rfl⟩, e1, ?_⟩
      rcases e2 with rfl | ⟨t, rfl⟩
      · exact Below.refl _ _
      · exact Go.Lib.bytesWorld_below _ _ _
    · have h3 := Any.strconv_Atoi_syntax_var Tryd.laysC172 ⟨l.toArray⟩ (by rw [hsz]; omega) (by rw [e0]; exact hq) 142 (.pointer (some b)) w (key ho gSyn hvb)
      refine (show Calls Tryd.prog 71 [str l].toArray w _ from h3).mono fun e w' ⟨N, e1, _, _, e2⟩ => ⟨(0, .iface 128 (.pointer (some ⟨N, 0, none⟩))), .inr ⟨⟨_, _, rfl⟩, fun v hv => by cases hv⟩, e1, e2⟩
    · have h3 := Tryd.strconv_Atoi_range_var ⟨l.toArray⟩ (by rw [hsz]; omega) (by rw [e0]; exact hq) 142 (.pointer (some a)) w (key ho gRng hva)
      refine h3.mono fun e w' ⟨N, e1, _, _, e2⟩ => ⟨(_, .iface 128 (.pointer (some ⟨N, 0, none⟩))), .inr ⟨⟨_, _, rfl⟩, fun v hv => by cases hv⟩, e1, e2⟩
  · have ht : Go.Lib.TabIs Tryd.prog w "internal/strconv.uint64pow10" .u64 Go.Lib.pow10Tab := key ho gPow htab
    refine (Tryd.strconv_Itoa x (by omega) (by omega) w ht).mono fun e w2 ⟨e1, k, os, e2⟩ => ?_
    subst e2
    refine ⟨e1, ⟨rfl, rfl, rfl, by simp [Go.Sort.grow], fun k hk => ?_⟩⟩
    simp only [Go.Sort.grow]
    exact Array.getElem?_append_left hk
end Go.Proofs.YtagliemeolngiaaDoor
