/- Links by their keys: the order; the sort of links; stamps of a table; All. -/
import Derived.Test.YtaihimbjdgmjgaaTbB
import Derived.Test.YtaihimbjdgmjgaaSh
import Derived.Test.YtaihimbjdgmjgaaV18
import Derived.Lib.Hide
import Derived.Shelf.SlSortCmp.NoneTotal
import Derived.WalkKit
namespace Go.Proofs.Ytaihimbjdgmjgaa
open Go Go.RowKit V
set_option linter.unusedVariables false
set_option maxRecDepth 100000
open V (ownV ownG ownS ownOk Stp Vis itO)
instance : Inhabited Lk := ⟨lk0⟩
def kL (x : Lk) : List UInt8 := x.key.data.toList
theorem kL_inj {x y : ByteArray} (h : x.data.toList = y.data.toList) : x = y := by
  obtain ⟨⟨a⟩⟩ := x; obtain ⟨⟨b⟩⟩ := y
  simp at h; subst h; rfl
theorem cmp_lt : ∀ a b : List UInt8, Go.Lib.compareBytes a b < 0 ↔ a < b
  | [], [] => by simp [Go.Lib.compareBytes]
  | [], _ :: _ => by simp [Go.Lib.compareBytes]
  | _ :: _, [] => by simp [Go.Lib.compareBytes]
  | a :: x, b :: y => by
    have ih := cmp_lt x y
    unfold Go.Lib.compareBytes
    rw [List.cons_lt_cons_iff]
    by_cases h1 : a < b
    · simp [h1]
    · by_cases h2 : b < a
      · have h3 : a ≠ b := fun e => by subst e; exact UInt8.lt_irrefl a h2
        simp [h1, h2, h3]
      · have h3 : a = b := UInt8.toNat_inj.1 (by rw [UInt8.lt_iff_toNat_lt] at h1 h2; omega)
        subst h3
        simp [h1, ih]
def cfL (x y : Lk) : Int := Go.Lib.compareBytes (kL x) (kL y)
theorem lt_cfL (x y : Lk) : Go.Proofs.ltOf cfL x y = decide (kL x < kL y) := by
  unfold Go.Proofs.ltOf
  exact decide_eq_decide.2 (cmp_lt _ _)
theorem swoL : Go.Sort.SWO (Go.Proofs.ltOf cfL) where
  irrefl x := by rw [lt_cfL]; simp
  trans x y z h1 h2 := by
    rw [lt_cfL] at *
    simp only [decide_eq_true_eq] at *
    exact List.lt_trans h1 h2
  ntrans x y z h1 h2 := by
    rw [lt_cfL] at *
    simp only [decide_eq_false_iff_not, List.not_lt] at *
    exact List.le_trans h2 h1
set_option maxHeartbeats 1000000 in
theorem cmp46_c (x y : Lk) (W : World) : Calls Try.prog 46 #[.agg #[.string x.key, .int .u64 x.id, .int .u64 x.ver, .int .i64 x.line, .int .i64 x.cls], .agg #[.string y.key, .int .u64 y.id, .int .u64 y.ver, .int .i64 y.line, .int .i64 y.cls]] W fun e w' => e = .returned (.int .i64 (cfL x y)) ∧ ∃ q os', w' = Go.Sort.grow (W.drewN q) os' := by
  have hcon := fun W' => Try.strings_Compare x.key y.key W'
  unfold cfL kL
  generalize Go.Lib.compareBytes x.key.data.toList y.key.data.toList = r at hcon ⊢
  go_enter Try.func46, Try.ntmps46
  go_wp2_with (go_at_call 47; refine (hcon _).mono ?_; rintro e w' ⟨rfl, rfl⟩)
  go_ret
  exact ⟨rfl, 0, _, by rw [Go.Sort.alloc_eq_grow, Go.Sort.alloc_eq_grow, Go.Sort.grow_grow]; rfl⟩
def UpL (L : List Lk) : Prop := L.Pairwise fun a b => ¬ kL b < kL a
theorem upL_of {L : List Lk} (h : Go.Sort.SortedIn (Go.Proofs.ltOf cfL) 0 L.length L.toArray) : UpL L := by
  refine List.pairwise_iff_getElem.2 fun i j hi hj hij => ?_
  have := h i j (Nat.zero_le _) hij hj
  rw [lt_cfL] at this
  simp only [decide_eq_false_iff_not] at this
  have e1 : (L.toArray[i]! : Lk) = L[i] := by simp [hi]
  have e2 : (L.toArray[j]! : Lk) = L[j] := by simp [hj]
  rwa [e1, e2] at this
theorem sortL_c (o : V.OwnO) (L : List Lk) (hok : ownOk 5 L.length (L.flatMap lkC) o) (hl : L.length ≤ 100000) (w : World) (hs : Sat [ownG 44 (L.flatMap lkC) o] w) : Calls Try.prog 45 [ownV L.length o, .func (.func 46) #[] #[]].toArray w fun e w' => ∃ L' : List Lk, (L'.Perm L ∧ UpL L') ∧ e = .returned (.tuple #[]) ∧ Hp ⟨w, ids [ownG 44 (L.flatMap lkC) o]⟩ [ownG 44 (L'.flatMap lkC) o] w' := by
  rcases o with _ | ⟨g, rest, cap⟩
  · have h0 : L.length = 0 := hok.2
    have : L = [] := List.length_eq_zero_iff.1 h0
    subst this
    refine (AnyF.slices_SortFunc_none Try.sortF45 none 0 (.func (.func 46) #[] #[]) w).mono fun e w' ⟨h1, h2⟩ => ⟨[], ⟨.refl _, .nil⟩, h1, ?_⟩
    subst h2
    exact ⟨rfl, rfl, rfl, Nat.le_refl _, fun _ _ _ => rfl, by simp [ownG, ownS], by simp [ownG, ownS], by simp [ownG, ownS]⟩
  · have hown : w.heap[g]? = some (.cells (L.flatMap lkC ++ rest).toArray 44 (0, 0)) := hs.own (g, .cells (L.flatMap lkC ++ rest).toArray 44 (0, 0)) (by simp [ownG, ownS])
    have eg : ∀ args w, (callFunc 46 args).run Try.prog w = .ok (.enter 46 args) w := enters_of Try.func46 (by kernel_rfl) rfl
    have hcon := AnyQ.slices_SortFunc Try.sortF45 5 Try.isAgg44 Try.sizeOf44 lkC (fun _ => rfl) (fun x v hv => by simp [lkC] at hv; rcases hv with rfl | rfl | rfl | rfl | rfl <;> rfl) cfL swoL 46 #[] g 0 cap L.toArray w eg (fun _ _ _ _ x y => cmp46_c x y _) (V.holdsK_own (enc := lkC) (k := 5) (fun _ => rfl) L rest hown) (V.lt_of_some hown) (by simp; omega)
    change Calls Try.prog 45 _ _ _ at hcon
    refine hcon.mono fun e w' ⟨h1, d', m, os, hp, hso, hw⟩ => ?_
    obtain ⟨h2, _, h4⟩ := hp
    simp only [List.size_toArray] at h2 h4 hso
    have h5 : d'.toList.length = L.length := by simpa using h2
    have h6 : d'.toList.Perm L := by
      have e1 : d'.extract 0 L.length = d' := by rw [← h2]; simp
      have e2 : L.toArray.extract 0 L.length = L.toArray := by simp
      rw [e1, e2] at h4
      simpa using h4
    refine ⟨d'.toList, ⟨h6, upL_of (by rw [h5]; simpa using hso)⟩, h1, ?_⟩
    subst hw
    have h7 := V.sorted_hp (enc := lkC) (k := 5) (T := 44) (g := g) (m := m) (fun _ => rfl) L d'.toList h5 rest os hown
    simp only [Array.toArray_toList] at h7
    simpa [ownG, ownS, ids] using h7
end Go.Proofs.Ytaihimbjdgmjgaa
