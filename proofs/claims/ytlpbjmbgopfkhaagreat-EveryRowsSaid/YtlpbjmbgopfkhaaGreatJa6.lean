import Derived.Test.YtlpbjmbgopfkhaaGreatJa5
import Derived.Lib.Hide
import Derived.Test.YtlpbjmbgopfkhaaGreatV38
/- Turns compared with others. -/
namespace Go.Proofs.YtlpbjmbgopfkhaaGreat
open Go Go.RowKit V
set_option linter.unusedVariables false
set_option maxRecDepth 100000
namespace I
instance : V.Cal Tryz.prog 22 := ⟨Tryz.call22⟩
instance : V.Cal Tryz.prog 29 := ⟨Tryz.call29⟩
instance : V.Cal Tryz.prog 31 := ⟨Tryz.call31⟩
instance : V.Cal Tryz.prog 33 := ⟨Tryz.call33⟩
instance : V.Cal Tryz.prog 35 := ⟨Tryz.call35⟩
instance : V.Cal Tryz.prog 41 := ⟨Tryz.call41⟩
instance : V.Cal Tryz.prog 63 := ⟨Tryz.call63⟩
instance : V.Cal Tryz.prog 64 := ⟨Tryz.call64⟩
instance : V.Cal Tryz.prog 65 := ⟨Tryz.call65⟩
open V (str byC ownV ownG ownS ownOk)
/-- An answer in memory. -/
structure RA where
  code : Int
  fd : Bool
  vl : List UInt8
  p : Sl
  h : Sl
  ep : Int
instance : Inhabited RA := ⟨⟨0, false, [], ⟨none, 0, 0⟩, ⟨none, 0, 0⟩, 0⟩⟩
def raC (a : RA) : List Value := [.int .i64 a.code, .bool a.fd, str a.vl, .slice a.p.a a.p.n a.p.c, .slice a.h.a a.h.n a.h.c, .int .u64 a.ep]
abbrev RB := RA × List Bool
def RaR (w : World) (a : RB) : Prop := (a.1.h.n = a.2.length ∧ V.slAt w a.1.h.a 1 boE a.2) ∧ a.2.length ≤ 9223372036854775807
/-- A turn in memory. -/
structure RT where
  r : Sl
  a : Sl
  s : Sf
instance : Inhabited RT := ⟨⟨⟨none, 0, 0⟩, ⟨none, 0, 0⟩, ⟨⟨none, 0, 0⟩, ⟨none, 0, 0⟩⟩⟩⟩
def rtC (t : RT) : List Value := [.slice t.r.a t.r.n t.r.c, .slice t.a.a t.a.n t.a.c, .slice t.s.p.a t.s.p.n t.s.p.c, .slice t.s.q.a t.s.q.n t.s.q.c]
abbrev TX := List RB × ShA
def RtR (w : World) (t : RT) (x : TX) : Prop := (t.a.n = x.1.length ∧ V.slAt w t.a.a 6 raC (x.1.map Prod.fst)) ∧ (∀ a ∈ x.1, RaR w a) ∧ SfR w t.s x.2 ∧ x.1.length ≤ 9223372036854775807 ∧ x.2.1.length ≤ 9223372036854775807 ∧ x.2.2.length ≤ 9223372036854775807
theorem slAt_hp {α : Type} {w0 w : World} {sg : V.Sg} {p : Option Addr} {sz : Nat} {enc : α → List Value} {l : List α} (h : V.slAt w0 p sz enc l) (hw : Hp ⟨w0, []⟩ sg w) : V.slAt w p sz enc l := hw.slAt h (by simp)
theorem RaR.hp {w0 w : World} {sg : V.Sg} {a : RB} (h : RaR w0 a) (hw : Hp ⟨w0, []⟩ sg w) : RaR w a := ⟨⟨h.1.1, slAt_hp h.1.2 hw⟩, h.2⟩
theorem RtR.hp {w0 w : World} {sg : V.Sg} {t : RT} {x : TX} (h : RtR w0 t x) (hw : Hp ⟨w0, []⟩ sg w) : RtR w t x := ⟨⟨h.1.1, slAt_hp h.1.2 hw⟩, fun a ha => (h.2.1 a ha).hp hw, h.2.2.1.hp hw (by simp), h.2.2.2⟩
def ansEq (a b : RB) : Bool := decide (a.1.code = b.1.code) && decide (a.1.fd = b.1.fd) && decide (a.1.vl = b.1.vl) && decide (a.2 = b.2)
def allEq : List RB → List RB → Bool
  | [], [] => true
  | a :: r, b :: s => ansEq a b && allEq r s
  | _, _ => false
theorem allEq_yes {l m : List RB} (hl : l.length = m.length) (h : ∀ (i : Nat) (a b : RB), l[i]? = some a → m[i]? = some b → ansEq a b = true) : allEq l m = true := by
  induction l generalizing m with
  | nil => cases m with
    | nil => rfl
    | cons _ _ => simp at hl
  | cons a r ih => cases m with
    | nil => simp at hl
    | cons b s => simp only [allEq, h 0 a b rfl rfl, Bool.true_and]; exact ih (by simpa using hl) fun i x y hx hy => h (i + 1) x y (by simpa using hx) (by simpa using hy)
def UpTo (l m : List RB) (k : Nat) : Prop := ∀ (i : Nat) (a b : RB), i < k → l[i]? = some a → m[i]? = some b → ansEq a b = true
theorem UpTo.step {l m : List RB} {k : Nat} {a b : RB} (h : UpTo l m k) (ha : l[k]? = some a) (hb : m[k]? = some b) (he : ansEq a b = true) : UpTo l m (k + 1) := fun i x y hi hx hy => by
  by_cases e : i = k
  · subst e; rw [ha] at hx; rw [hb] at hy; cases hx; cases hy; exact he
  · exact h i x y (by omega) hx hy
theorem UpTo.end {l m : List RB} {k : Nat} (h : UpTo l m k) (hk : l.length ≤ k) (hl : l.length = m.length) : allEq l m = true := allEq_yes hl fun i a b ha hb => h i a b (by have := (List.getElem?_eq_some_iff.1 ha).1; omega) ha hb
abbrev TR := RT × TX
def TsR (w : World) (p : Option Addr) (l : List TR) : Prop := V.slAt w p 4 rtC (l.map Prod.fst) ∧ ∀ t ∈ l, RtR w t.1 t.2
theorem TsR.hp {w0 w : World} {sg : V.Sg} {p : Option Addr} {l : List TR} (h : TsR w0 p l) (hw : Hp ⟨w0, []⟩ sg w) : TsR w p l := ⟨slAt_hp h.1 hw, fun t ht => (h.2 t ht).hp hw⟩
end I
end Go.Proofs.YtlpbjmbgopfkhaaGreat

/- What the laws on all that can come out compare with: the weight of calls, lists, answers, the order of rows. -/
namespace Go.Proofs.YtlpbjmbgopfkhaaGreat
open Go Go.RowKit V
set_option linter.unusedVariables false
set_option maxRecDepth 100000
namespace I
open V (str byC ownV ownG ownS ownOk)
def Cal.le (c : Cal) (m : Int) : Prop := (c.key.length : Int) ≤ m ∧ (c.val.length : Int) ≤ m ∧ (c.to.length : Int) ≤ m
theorem weight_c (c : Cal) (gl : List Cal) (most : Int) (w : World) (hm : 0 ≤ most ∧ most ≤ 100000) (hR : CalR w c gl) : Calls Tryz.prog 22 [.agg (calC c).toArray, .int .i64 most].toArray w
    fun e w' => ∃ z : Int, (z ≤ most → (gl.length : Int) ≤ most ∧ c.le most) ∧ e = .returned (.int .i64 z) ∧ Below w.heap.size w w' := by
  obtain ⟨⟨hg0, _⟩, hs⟩ := hR
  have hg := hg0.symm
  refine V.calls [] Tryz.func22 rfl Tryz.ntmps22 (Nat.le_of_ble_eq_true rfl) (V.sat_nil _) <| Sq <| Rg <| Le XA fun b2 _ => Lv Av <| Nl <| Ps <| Sq <| Rg <| Lv Av <| Nl <| Ps <| Sq <| Sq <| Rg <| Lv (Fa 1 9) <| Lv Ld <| Lv LnS <| Lv Mv <| Lv Cm <| Lv Mv ?_
  refine LW.split (d := 13) rfl (fun h13 => ?_) (fun h13 => ?_)
  · replace h13 := bT h13
    refine Lp <| Lp <| Lp <| Lp <| Lp <| Lv Pt <| Lv Mv <| Lp <| Lp <| Lp <| Lp <| Lp <| Lv Pt <| Lv Mv <| Lp <| Lp <| Lp <| Lp <| Lp <| Lv Pt <| Nl <| Ps <| Ct <| Sq <| Rg <| Lv Mv <| Lv Ar <| Lv Av <| Nl <| Ps <| Rt <| Tr <| Rt1 ?_
    intro w hw; exact ⟨_, fun h => by omega, rfl, hw.below⟩
  · replace h13 := bF h13
    refine Lv (Fa 2 9) <| Lv Ld <| Lv LnS <| Lv Mv <| Lv Cm <| Lv Pf <| Lv Mv ?_
    refine LW.split (d := 20) rfl (fun h20 => ?_) (fun h20 => ?_)
    · replace h20 := bT h20
      refine Lp <| Lp <| Lp <| Lp <| Lp <| Lv Pt <| Lv Mv <| Lp <| Lp <| Lp <| Lp <| Lp <| Lv Pt <| Nl <| Ps <| Ct <| Sq <| Rg <| Lv Mv <| Lv Ar <| Lv Av <| Nl <| Ps <| Rt <| Tr <| Rt1 ?_
      intro w hw; exact ⟨_, fun h => by omega, rfl, hw.below⟩
    · replace h20 := bF h20
      refine Lv (Fa 3 9) <| Lv Ld <| Lv LnS <| Lv Mv <| Lv Cm <| Lv Pf <| Lv Mv ?_
      refine LW.split (d := 27) rfl (fun h27 => ?_) (fun h27 => ?_)
      · replace h27 := bT h27
        refine Lp <| Lp <| Lp <| Lp <| Lp <| Lv Pt <| Nl <| Ps <| Ct <| Sq <| Rg <| Lv Mv <| Lv Ar <| Lv Av <| Nl <| Ps <| Rt <| Tr <| Rt1 ?_
        intro w hw; exact ⟨_, fun h => by omega, rfl, hw.below⟩
      · replace h27 := bF h27
        refine Lv (Fa 4 22) <| Lv Ld <| Lv Ln <| Lv Mv <| Lv Cm <| Lv Pf <| Nl <| Ps ?_
        refine CW.cond rfl (fun h33 => ?_) (fun h33 => ?_)
        · replace h33 := bT h33
          refine Sq <| Rg <| Lv Mv <| Lv Ar <| Lv Av <| Nl <| Ps <| Rt <| Tr <| Rt1 ?_
          intro w hw; exact ⟨_, fun h => by omega, rfl, hw.below⟩
        · replace h33 := bF h33
          refine Sk <| Ps <| Sq <| Rg <| Lv (Fa 1 9) <| Lv Ld <| Lv LnS <| Lv (Fa 2 9) <| Lv Ld <| Lv LnS <| Lv Ar <| Lv (Fa 3 9) <| Lv Ld <| Lv LnS <| Lv Ar <| Lv Av <| Nl <| Ps <| Sq <| Sq <| Rg <| Lv Av <| Nl <| Ps <| Bk <| loopA (γ := Nat × Int) (fun k => [(1, .int .i64 most), (2, .pointer (some ⟨b2, 0, none⟩)), (5, .int .i64 k.2), (6, .int .i64 (k.1 : Nat))]) (fun _ => [[(b2, .cells (calC c).toArray 52 (0, 0))]]) (fun k => k.1 ≤ gl.length ∧ ((c.key.length : Int) ≤ k.2 ∧ (c.val.length : Int) ≤ k.2 ∧ (c.to.length : Int) ≤ k.2 ∧ 0 ≤ k.2) ∧ k.2 ≤ 4 * most) (fun k => gl.length - k.1) ((0, (c.key.length : Int) + (c.val.length : Int) + (c.to.length : Int))) ⟨Nat.zero_le _, ⟨by simp only; omega, by simp only; omega, by simp only; omega, by simp only; omega⟩, by simp only; omega⟩ fun k => ?_
          rintro ⟨hk0, ⟨hk1a, hk1b, hk1c, hk1⟩, hk2⟩
          refine Sq <| Sq <| Rg <| Lv Mv <| Lv (Fa 4 22) <| Lv Ld <| Lv Ln <| Lv Cm <| Lv Mv ?_
          refine LW.split (d := 52) rfl (fun h52 => ?_) (fun h52 => ?_)
          · replace h52 := bT h52
            refine Lv Mv <| Lv Mv <| Lv Cm <| Lv Pt <| Nl <| Ps ?_
            refine CW.cond rfl (fun h56 => ?_) (fun h56 => ?_)
            · replace h56 := bT h56
              refine Sk <| Ps <| Sq <| Bk <| Sq <| Rg <| Lv (Fa 4 22) <| Lv Ld <| Lv Mv ?_
              obtain ⟨bg, og, x', hpa, hbg, hx, hr⟩ := V.slAt_at hs hg (k := k.1) (by omega)
              refine LW.re 60 (.slice (some ⟨bg, og, none⟩) c.gn c.gc) rfl (by rw [hpa]) <| Lv Ix <| Lv (Val.loadOA rfl Tryz.isAgg52 hbg (by simp [ids]) (hr _ _ hx) Tryz.sizeOf52) <| Le AA fun b7 _ => ?_
              first | (refine LW.eN rfl (Eff.storeW rfl rfl (by repeat (first | exact .here | exact .inner .here | exact .inner (.inner .here) | apply Upd.there)) (by rfl) Tryz.sizeOf52 (by rfl)) ?_) | (refine LW.eN rfl (Eff.storeA (l' := _) rfl rfl (by repeat (first | exact .here | exact .inner .here | exact .inner (.inner .here) | apply Upd.there)) (by rfl) (by decide) Tryz.sizeOf52 (by rfl)) ?_)
              intro _ _
              refine Nl <| Ps <| Sq <| Sq <| Rg <| Lv (Fa 1 9) <| Lv Ld <| Lv LnS <| Lv Mv <| Lv Cm <| Lv Mv ?_
              refine LW.split (d := 69) rfl (fun h69 => ?_) (fun h69 => ?_)
              · replace h69 := bT h69
                refine Lp <| Lp <| Lp <| Lp <| Lp <| Lv Pt <| Lv Mv <| Lp <| Lp <| Lp <| Lp <| Lp <| Lv Pt <| Lv Mv <| Lp <| Lp <| Lp <| Lp <| Lv Pt <| Nl <| Ps <| Ct <| Sq <| Rg <| Lv Mv <| Lv Ar <| Lv Av <| Nl <| Ps <| Rt <| Tr <| Br <| Tr <| Tr <| Br <| Tr <| Rt1 ?_
                intro w hw; exact ⟨_, fun h => by omega, rfl, hw.below⟩
              · replace h69 := bF h69
                refine Lv (Fa 2 9) <| Lv Ld <| Lv LnS <| Lv Mv <| Lv Cm <| Lv Pf <| Lv Mv ?_
                refine LW.split (d := 76) rfl (fun h76 => ?_) (fun h76 => ?_)
                · replace h76 := bT h76
                  refine Lp <| Lp <| Lp <| Lp <| Lp <| Lv Pt <| Lv Mv <| Lp <| Lp <| Lp <| Lp <| Lv Pt <| Nl <| Ps <| Ct <| Sq <| Rg <| Lv Mv <| Lv Ar <| Lv Av <| Nl <| Ps <| Rt <| Tr <| Br <| Tr <| Tr <| Br <| Tr <| Rt1 ?_
                  intro w hw; exact ⟨_, fun h => by omega, rfl, hw.below⟩
                · replace h76 := bF h76
                  refine Lv (Fa 3 9) <| Lv Ld <| Lv LnS <| Lv Mv <| Lv Cm <| Lv Pf <| Lv Mv ?_
                  refine LW.split (d := 83) rfl (fun h83 => ?_) (fun h83 => ?_)
                  · replace h83 := bT h83
                    refine Lp <| Lp <| Lp <| Lp <| Lv Pt <| Nl <| Ps <| Ct <| Sq <| Rg <| Lv Mv <| Lv Ar <| Lv Av <| Nl <| Ps <| Rt <| Tr <| Br <| Tr <| Tr <| Br <| Tr <| Rt1 ?_
                    intro w hw; exact ⟨_, fun h => by omega, rfl, hw.below⟩
                  · replace h83 := bF h83
                    refine Lv (Fa 4 22) <| Lv Ld <| Lv Ln <| Lv Cm <| Lv Pf <| Nl <| Ps ?_
                    refine CW.cond rfl (fun h88 => ?_) (fun h88 => ?_)
                    · replace h88 := bT h88
                      refine Sq <| Rg <| Lv Mv <| Lv Ar <| Lv Av <| Nl <| Ps <| Rt <| Tr <| Br <| Tr <| Tr <| Br <| Tr <| Rt1 ?_
                      intro w hw; exact ⟨_, fun h => by omega, rfl, hw.below⟩
                    · replace h88 := bF h88
                      refine Sk <| Ps <| Rg <| Lv Mv <| Lv (Fa 1 9) <| Lv Ld <| Lv LnS <| Lv Ar <| Lv (Fa 2 9) <| Lv Ld <| Lv LnS <| Lv Ar <| Lv (Fa 3 9) <| Lv Ld <| Lv LnS <| Lv Ar <| Lv Av <| Nl <| Bn <| Ps <| Rg <| Lv Mv <| Lv Ar <| Lv Av <| Nl ?_
                      exact roundA ((k.1 + 1, k.2 + (x'.key.length : Int) + (x'.val.length : Int) + (x'.to.length : Int))) ⟨by simp only; omega, ⟨by simp only; omega, by simp only; omega, by simp only; omega, by simp only; omega⟩, by simp only; omega⟩ (by simp only; omega)
            · replace h56 := bF h56
              refine Xt <| Te <| Te <| Bh <| Ps <| Sq <| Rg <| Lv Mv <| Lv Mv <| Lv Ar <| Lv (Val.minI rfl rfl) <| Lv Av <| Nl <| Ps <| Rt <| Rt1 ?_
              intro w hw; exact ⟨_, fun h => by split at h <;> omega, rfl, hw.below⟩
          · replace h52 := bF h52
            refine Lp <| Lp <| Lp <| Lv Pf <| Nl <| Ps <| Cf <| Xt <| Te <| Te <| Bh <| Ps <| Sq <| Rg <| Lv Mv <| Lv Mv <| Lv Ar <| Lv (Val.minI rfl rfl) <| Lv Av <| Nl <| Ps <| Rt <| Rt1 fun w hw => ?_
            exact ⟨_, fun h => ⟨by omega, ⟨by omega, by omega, by omega⟩⟩, rfl, hw.below⟩
theorem map_atC {C : Crs} {k : Nat} {x : Cal} (h : (C.map Prod.fst)[k]? = some x) : ∃ y, C[k]? = some (x, y) := by
  rw [List.getElem?_map] at h
  cases hl : C[k]? with
  | none => rw [hl] at h; cases h
  | some y => rw [hl] at h; simp at h; exact ⟨y.2, by rw [← h]⟩
theorem heavy_c (C : Crs) (p : Option Addr) (n cap : Nat) (hn : n = C.length) (w : World) (hs : V.slAt w p 5 calC (C.map Prod.fst)) (ho : ∀ c ∈ C, CalR w c.1 c.2) : Calls Tryz.prog 7 [.slice p n cap].toArray w
    fun e' w' => ∃ x : Bool, (x = false → n ≤ 5 ∧ ∀ c ∈ C, c.2.length ≤ 600 ∧ c.1.le 600) ∧ e' = .returned (.bool x) ∧ Below w.heap.size w w' := by
  subst hn
  refine V.calls [] Tryz.func7 rfl Tryz.ntmps7 (Nat.le_of_ble_eq_true rfl) (V.sat_nil _) <| Sq <| Rg <| Lv Av <| Nl <| Ps <| Sq <| Sq <| Rg <| Lv Mv <| Lv Ln <| Lv Cm <| Nl <| Ps ?_
  refine CW.cond rfl (fun h6 => ?_) (fun h6 => ?_)
  · replace h6 := bT h6
    refine Sq <| Rg <| Lv Av <| Nl <| Ps <| Rt <| Tr <| Rt1 ?_
    intro w hw; exact ⟨_, (fun h => by first | (cases h; done) | exact ⟨by omega, fun e he => by obtain ⟨i, hi⟩ := List.getElem?_of_mem he; exact hk2 i (by have := (List.getElem?_eq_some_iff.1 hi).1; omega) e hi⟩), rfl, hw.below⟩
  · replace h6 := bF h6
    refine Sk <| Ps <| Sq <| Sq <| Rg <| Lv Av <| Nl <| Ps <| Bk <| loopA (γ := Nat) (fun k => [(0, .slice p C.length cap), (3, .int .i64 (k : Nat))]) (fun _ => []) (fun k => k ≤ C.length ∧ ∀ i, i < k → ∀ e, C[i]? = some e → e.2.length ≤ 600 ∧ e.1.le 600) (fun k => C.length - k) (0) ⟨Nat.zero_le _, fun i hi => by omega⟩ fun k => ?_
    rintro ⟨hk1, hk2⟩
    refine Sq <| Sq <| Rg <| Lv Mv <| Lv Mv <| Lv Ln <| Lv Cm <| Nl <| Ps ?_
    refine CW.cond rfl (fun h10 => ?_) (fun h10 => ?_)
    · replace h10 := bT h10
      have hk9 : k < C.length := by omega
      obtain ⟨bb1, o1, x, rfl, hb1, hx1, hr1⟩ := V.slAt_at hs (by simp) (k := k) hk9
      obtain ⟨cl, hl1⟩ := map_atC hx1
      have hro := ho _ (List.mem_of_getElem? hl1)
      refine Sk <| Ps <| Sq <| Bk <| Sq <| Rg <| Lv Mv <| Lv Mv <| Lv Ix <| Lv (Val.loadOA (cs := calC x) rfl Tryz.isAgg52 hb1 (by simp [ids]) (hr1 k x hx1) Tryz.sizeOf52) <| Le (CR fun w hw => weight_c x cl 600 w (by omega) (hro.hp hw)) fun z hz => Lv Cm <| Nl <| Ps ?_
      refine CW.cond rfl (fun h18 => ?_) (fun h18 => ?_)
      · replace h18 := bT h18
        refine Sq <| Rg <| Lv Av <| Nl <| Ps <| Rt <| Br <| Tr <| Tr <| Br <| Tr <| Rt1 ?_
        intro w hw; exact ⟨_, (fun h => by first | (cases h; done) | exact ⟨by omega, fun e he => by obtain ⟨i, hi⟩ := List.getElem?_of_mem he; exact hk2 i (by have := (List.getElem?_eq_some_iff.1 hi).1; omega) e hi⟩), rfl, hw.below⟩
      · replace h18 := bF h18
        refine Sk <| Bn <| Ps <| Rg <| Lv Mv <| Lv Ar <| Lv Av <| Nl ?_
        refine PQ.round (k + 1) ⟨by omega, fun i hi y hy => by
          by_cases e1 : i = k
          · subst e1; rw [hl1] at hy; cases hy
            have h8 := hz (by omega)
            exact ⟨by have := h8.1; simp only; omega, h8.2⟩
          · exact hk2 i (by omega) y hy⟩ (by omega) (by repeat (first | exact trivial | refine ⟨rfl, ?_⟩)) (by repeat (first | exact .nil | apply Pick.cons | exact .here | apply Ext.there))
    · replace h10 := bF h10
      refine Xt <| Te <| Te <| Bh <| Ps <| Sq <| Rg <| Lv Av <| Nl <| Ps <| Rt <| Rt1 ?_
      intro w hw; exact ⟨_, (fun h => by first | (cases h; done) | exact ⟨by omega, fun e he => by obtain ⟨i, hi⟩ := List.getElem?_of_mem he; exact hk2 i (by have := (List.getElem?_eq_some_iff.1 hi).1; omega) e hi⟩), rfl, hw.below⟩
theorem sameBools_c (l1 l2 : List (Bool)) (p1 p2 : Option Addr) (n1 n2 c1 c2 : Nat) (hn1 : n1 = l1.length) (hn2 : n2 = l2.length) (hl : l1.length ≤ 9223372036854775807) (w : World) (h1 : V.slAt w p1 1 boE l1) (h2 : V.slAt w p2 1 boE l2) : Calls Tryz.prog 41 [.slice p1 n1 c1, .slice p2 n2 c2].toArray w fun e w' => e = .returned (.bool (decide (l1 = l2))) ∧ Below w.heap.size w w' := by
  subst hn1; subst hn2
  refine V.calls [] Tryz.func41 rfl Tryz.ntmps41 (Nat.le_of_ble_eq_true rfl) (V.sat_nil _) <| Sq <| Rg <| Lv Av <| Nl <| Ps <| Sq <| Sq <| Rg <| Lv Mv <| Lv Ln <| Lv Mv <| Lv Ln <| Lv Cm <| Nl <| Ps ?_
  refine CW.cond rfl (fun h10 => ?_) (fun h10 => ?_)
  · replace h10 := bT h10
    refine Sq <| Rg <| Lv Av <| Nl <| Ps <| Rt <| Tr <| Rt1 ?_
    intro w' hw; exact ⟨by rw [decide_eq_false (fun e => h10 (by rw [e]))], hw.below⟩
  · replace h10 := bF h10
    refine Sk <| Ps <| Sq <| Sq <| Rg <| Lv Av <| Nl <| Ps <| Bk <| loopA (γ := Nat) (fun k => [(0, .slice p1 l1.length c1), (1, .slice p2 l2.length c2), (5, .int .i64 (k : Nat))]) (fun _ => []) (fun k => k ≤ l1.length ∧ l1.take k = l2.take k) (fun k => l1.length - k) (0) ⟨Nat.zero_le _, rfl⟩ fun k => ?_
    rintro ⟨hk1, hk2⟩
    refine Sq <| Sq <| Rg <| Lv Mv <| Lv Mv <| Lv Ln <| Lv Cm <| Nl <| Ps ?_
    refine CW.cond rfl (fun h14 => ?_) (fun h14 => ?_)
    · replace h14 := bT h14
      obtain ⟨b1, o1, x, rfl, hb1, hx1, hr1⟩ := V.slAt_at h1 rfl (k := k) (by omega)
      obtain ⟨b2, o2, y, rfl, hb2, hx2, hr2⟩ := V.slAt_at h2 rfl (k := k) (by omega)
      refine Sk <| Ps <| Sq <| Bk <| Sq <| Qt <| Qv Mv <| Qv Mv <| Qv Ix <| Qv (Val.loadO rfl Tryz.isAgg4 hb1 (by simp [ids]) (hr1 k x hx1 0 _ rfl)) <| Qv Mv <| Qv Mv <| Qv Ix <| Qv (Val.loadO rfl Tryz.isAgg4 hb2 (by simp [ids]) (hr2 k y hx2 0 _ rfl)) <| Qv (Val.neB rfl rfl Tryz.underlying4) <| QW.re 25 (.bool (!decide (x = y))) rfl (by cases x <;> cases y <;> rfl) <| Ql <| Ps ?_
      refine CW.cond rfl (fun h25 => ?_) (fun h25 => ?_)
      · replace h25 := bT h25
        have h25 : x ≠ y := by first | simpa using h25 | (intro e; subst e; simp at h25)
        refine Sq <| Rg <| Lv Av <| Nl <| Ps <| Rt <| Br <| Tr <| Tr <| Br <| Tr <| Rt1 ?_
        intro w' hw; exact ⟨by rw [decide_eq_false (ne_at hx1 hx2 h25)], hw.below⟩
      · replace h25 := bF h25
        have h25 : x = y := by first | simpa using h25 | omega
        subst h25
        refine Sk <| Bn <| Ps <| Rg <| Lv Mv <| Lv Ar <| Lv Av <| Nl ?_
        exact roundA (k + 1) ⟨by omega, take_step hk2 hx1 hx2⟩ (by omega)
    · replace h14 := bF h14
      refine Xt <| Te <| Te <| Bh <| Ps <| Sq <| Rg <| Lv Av <| Nl <| Ps <| Rt <| Rt1 ?_
      intro w' hw; exact ⟨by rw [decide_eq_true (take_end hk2 (by omega) (by omega))], hw.below⟩
theorem sameInts_c (l1 l2 : List (Nat)) (p1 p2 : Option Addr) (n1 n2 c1 c2 : Nat) (hn1 : n1 = l1.length) (hn2 : n2 = l2.length) (hl : l1.length ≤ 9223372036854775807) (w : World) (h1 : V.slAt w p1 1 inE l1) (h2 : V.slAt w p2 1 inE l2) : Calls Tryz.prog 28 [.slice p1 n1 c1, .slice p2 n2 c2].toArray w fun e w' => e = .returned (.bool (decide (l1 = l2))) ∧ Below w.heap.size w w' := by
  subst hn1; subst hn2
  refine V.calls [] Tryz.func28 rfl Tryz.ntmps28 (Nat.le_of_ble_eq_true rfl) (V.sat_nil _) <| Sq <| Rg <| Lv Av <| Nl <| Ps <| Sq <| Sq <| Rg <| Lv Mv <| Lv Ln <| Lv Mv <| Lv Ln <| Lv Cm <| Nl <| Ps ?_
  refine CW.cond rfl (fun h10 => ?_) (fun h10 => ?_)
  · replace h10 := bT h10
    refine Sq <| Rg <| Lv Av <| Nl <| Ps <| Rt <| Tr <| Rt1 ?_
    intro w' hw; exact ⟨by rw [decide_eq_false (fun e => h10 (by rw [e]))], hw.below⟩
  · replace h10 := bF h10
    refine Sk <| Ps <| Sq <| Sq <| Rg <| Lv Av <| Nl <| Ps <| Bk <| loopA (γ := Nat) (fun k => [(0, .slice p1 l1.length c1), (1, .slice p2 l2.length c2), (5, .int .i64 (k : Nat))]) (fun _ => []) (fun k => k ≤ l1.length ∧ l1.take k = l2.take k) (fun k => l1.length - k) (0) ⟨Nat.zero_le _, rfl⟩ fun k => ?_
    rintro ⟨hk1, hk2⟩
    refine Sq <| Sq <| Rg <| Lv Mv <| Lv Mv <| Lv Ln <| Lv Cm <| Nl <| Ps ?_
    refine CW.cond rfl (fun h14 => ?_) (fun h14 => ?_)
    · replace h14 := bT h14
      obtain ⟨b1, o1, x, rfl, hb1, hx1, hr1⟩ := V.slAt_at h1 rfl (k := k) (by omega)
      obtain ⟨b2, o2, y, rfl, hb2, hx2, hr2⟩ := V.slAt_at h2 rfl (k := k) (by omega)
      refine Sk <| Ps <| Sq <| Bk <| Sq <| Qt <| Qv Mv <| Qv Mv <| Qv Ix <| Qv (Val.loadO rfl Tryz.isAgg3 hb1 (by simp [ids]) (hr1 k x hx1 0 _ rfl)) <| Qv Mv <| Qv Mv <| Qv Ix <| Qv (Val.loadO rfl Tryz.isAgg3 hb2 (by simp [ids]) (hr2 k y hx2 0 _ rfl)) <| Qv Cm <| Ql <| Ps ?_
      refine CW.cond rfl (fun h25 => ?_) (fun h25 => ?_)
      · replace h25 := bT h25
        have h25 : x ≠ y := by first | simpa using h25 | (intro e; subst e; simp at h25)
        refine Sq <| Rg <| Lv Av <| Nl <| Ps <| Rt <| Br <| Tr <| Tr <| Br <| Tr <| Rt1 ?_
        intro w' hw; exact ⟨by rw [decide_eq_false (ne_at hx1 hx2 h25)], hw.below⟩
      · replace h25 := bF h25
        have h25 : x = y := by first | simpa using h25 | omega
        subst h25
        refine Sk <| Bn <| Ps <| Rg <| Lv Mv <| Lv Ar <| Lv Av <| Nl ?_
        exact roundA (k + 1) ⟨by omega, take_step hk2 hx1 hx2⟩ (by omega)
    · replace h14 := bF h14
      refine Xt <| Te <| Te <| Bh <| Ps <| Sq <| Rg <| Lv Av <| Nl <| Ps <| Rt <| Rt1 ?_
      intro w' hw; exact ⟨by rw [decide_eq_true (take_end hk2 (by omega) (by omega))], hw.below⟩
/-- An answer in memory, in full. -/
def AaR (w : World) (a : RA) (x : AnsA) : Prop := (a.code = x.code ∧ a.fd = x.fd ∧ a.vl = x.vl ∧ a.ep = 0) ∧ (a.p.n = x.ps.length ∧ V.slAt w a.p.a 2 prC x.ps) ∧ (a.h.n = x.hs.length ∧ V.slAt w a.h.a 1 boE x.hs) ∧ x.ps.length ≤ 100000 ∧ x.hs.length ≤ 100000
theorem AaR.hp {w0 w : World} {sg : V.Sg} {a : RA} {x : AnsA} (h : AaR w0 a x) (hw : Hp ⟨w0, []⟩ sg w) : AaR w a x := ⟨h.1, ⟨h.2.1.1, slAt_hp h.2.1.2 hw⟩, ⟨h.2.2.1.1, slAt_hp h.2.2.1.2 hw⟩, h.2.2.2⟩
theorem sameAns_c (a b : RA) (x y : AnsA) (w : World) (ha : AaR w a x) (hb : AaR w b y) : Calls Tryz.prog 19 [.agg (raC a).toArray, .agg (raC b).toArray].toArray w fun e w' => e = .returned (.bool (decide (x = y))) ∧ Below w.heap.size w w' := by
  obtain ⟨⟨e1, e2, e3, e4⟩, ⟨e5, e6⟩, ⟨e7, e8⟩, e9, e10⟩ := ha
  obtain ⟨⟨f1, f2, f3, f4⟩, ⟨f5, f6⟩, ⟨f7, f8⟩, f9, f10⟩ := hb
  obtain ⟨ac, af, av, ⟨ap, an, aq⟩, ⟨ah, am, ar⟩, ae⟩ := a
  obtain ⟨bc, bf, bv, ⟨bp, bn, bq⟩, ⟨bh, bm, br⟩, be⟩ := b
  obtain ⟨xc, xf, xv, xp, xh⟩ := x
  obtain ⟨yc, yf, yv, yp, yh⟩ := y
  simp only at e1 e2 e3 e4 e5 e6 e7 e8 e9 e10 f1 f2 f3 f4 f5 f6 f7 f8 f9 f10
  subst e1; subst e2; subst e3; subst e4; subst f1; subst f2; subst f3; subst f4
  refine V.calls [] Tryz.func19 rfl Tryz.ntmps19 (Nat.le_of_ble_eq_true rfl) (V.sat_nil _) <| Sq <| Rg <| Le XA fun b2 _ => Le XA fun b3 _ => Lv Av <| Nl <| Ps <| Sq <| Rg <| Lv (Fa 0 45) <| Lv Ld <| Lv (Fa 0 45) <| Lv Ld <| Lv Cm <| Lv Mv ?_
  refine LW.split (d := 10) rfl (fun h10 => ?_) (fun h10 => ?_)
  · replace h10 := bT h10
    have h10 : ac = bc := by simpa using h10
    refine Lv (Fa 1 4) <| Lv Ld <| Lv (Fa 1 4) <| Lv Ld <| Lv (Val.eqB rfl rfl Tryz.underlying4) <| Lv Pt <| Lv Mv ?_
    refine LW.split (d := 17) rfl (fun h17 => ?_) (fun h17 => ?_)
    · replace h17 := bT h17
      have h17 : af = bf := by simpa using h17
      refine Lv (Fa 2 9) <| Lv Ld <| Lv (Fa 2 9) <| Lv Ld <| Lv ES <| Lv Pt <| Lv Mv ?_
      refine LW.split (d := 24) rfl (fun h24 => ?_) (fun h24 => ?_)
      · replace h24 := bT h24
        have h24 : av = bv := by simpa using h24
        refine Lv (Fa 5 39) <| Lv Ld <| Lv (Fa 5 39) <| Lv Ld <| Lv Cm <| Lv Pt <| Lv Mv ?_
        refine LW.split (d := 31) rfl (fun h31 => ?_) (fun h31 => ?_)
        · replace h31 := bT h31
          refine Lv (Fa 3 31) <| Lv Ld <| Lv (Fa 3 31) <| Lv Ld <| Le (CV fun w hw => samePairs_c xp yp _ _ _ _ _ _ e5 f5 e9 w (hw.slAt e6 (by simp [ids])) (hw.slAt f6 (by simp [ids]))) fun _ _ => Lv Pt <| Lv Mv ?_
          refine LW.split (d := 38) rfl (fun h38 => ?_) (fun h38 => ?_)
          · replace h38 := bT h38
            have h38 : xp = yp := by simpa using h38
            refine Lv (Fa 4 46) <| Lv Ld <| Lv (Fa 4 46) <| Lv Ld <| Le (CV fun w hw => sameBools_c xh yh _ _ _ _ _ _ e7 f7 (by omega) w (hw.slAt e8 (by simp [ids])) (hw.slAt f8 (by simp [ids]))) fun _ _ => Lv Pt <| Lv Av <| Nl <| Ps <| Rt <| Rt1 ?_
            intro w' hw; exact ⟨by simp_all, hw.below⟩
          · replace h38 := bF h38
            have h38 : xp ≠ yp := by simpa using h38
            refine Lp <| Lp <| Lp <| Lp <| Lp <| Lv Pf <| Lv Av <| Nl <| Ps <| Rt <| Rt1 ?_
            intro w' hw; exact ⟨by simp_all, hw.below⟩
        · simp at h31
      · replace h24 := bF h24
        have h24 : av ≠ bv := by simpa using h24
        refine Lp <| Lp <| Lp <| Lp <| Lp <| Lv Pf <| Lv Mv <| Lp <| Lp <| Lp <| Lp <| Lp <| Lv Pf <| Lv Mv <| Lp <| Lp <| Lp <| Lp <| Lp <| Lv Pf <| Lv Av <| Nl <| Ps <| Rt <| Rt1 ?_
        intro w' hw; exact ⟨by simp_all, hw.below⟩
    · replace h17 := bF h17
      have h17 : af ≠ bf := by simpa using h17
      refine Lp <| Lp <| Lp <| Lp <| Lp <| Lv Pf <| Lv Mv <| Lp <| Lp <| Lp <| Lp <| Lp <| Lv Pf <| Lv Mv <| Lp <| Lp <| Lp <| Lp <| Lp <| Lv Pf <| Lv Mv <| Lp <| Lp <| Lp <| Lp <| Lp <| Lv Pf <| Lv Av <| Nl <| Ps <| Rt <| Rt1 ?_
      intro w' hw; exact ⟨by simp_all, hw.below⟩
  · replace h10 := bF h10
    have h10 : ac ≠ bc := by simpa using h10
    refine Lp <| Lp <| Lp <| Lp <| Lp <| Lv Pf <| Lv Mv <| Lp <| Lp <| Lp <| Lp <| Lp <| Lv Pf <| Lv Mv <| Lp <| Lp <| Lp <| Lp <| Lp <| Lv Pf <| Lv Mv <| Lp <| Lp <| Lp <| Lp <| Lp <| Lv Pf <| Lv Mv <| Lp <| Lp <| Lp <| Lp <| Lp <| Lv Pf <| Lv Av <| Nl <| Ps <| Rt <| Rt1 ?_
    intro w' hw; exact ⟨by simp_all, hw.below⟩
end I
end Go.Proofs.YtlpbjmbgopfkhaaGreat

/- Rows of turns as they lie in memory; what calls leave is small, and each answer stands where it was given. -/
namespace Go.Proofs.YtlpbjmbgopfkhaaGreat
open Go Go.RowKit V
set_option linter.unusedVariables false
set_option maxRecDepth 100000
namespace I
open V (str byC ownV ownG ownS ownOk)
/-- .. of this memory, pointwise. -/
abbrev Mem (s : V.Seg) (w : World) : Prop := ∀ p ∈ s, w.heap[p.1]? = some p.2
def slO (n : Nat) : V.OwnO → Sl
  | none => ⟨none, 0, 0⟩
  | some (g, _, cap) => ⟨some ⟨g, 0, none⟩, n, cap⟩
def slF (n : Nat) : OffO → Sl
  | none => ⟨none, 0, 0⟩
  | some (g, pre, _, cap) => ⟨some ⟨g, pre.length, none⟩, n, cap⟩
theorem slO_v (n : Nat) (o : V.OwnO) : ownV n o = .slice (slO n o).a (slO n o).n (slO n o).c := by rcases o with _ | ⟨_, _, _⟩ <;> rfl
theorem slF_v (n : Nat) (o : OffO) : offV n o = .slice (slF n o).a (slF n o).n (slF n o).c := by rcases o with _ | ⟨_, _, _, _⟩ <;> rfl
theorem slO_ok {α : Type} {enc : α → List Value} {sz e : Nat} {l : List α} {o : V.OwnO} {w : World} (hsz : ∀ x, (enc x).length = sz) (h0 : 0 < sz) (hk : ownOk sz l.length (l.flatMap enc) o) (hm : Mem (ownG e (l.flatMap enc) o) w) : ((slO l.length o).n = l.length ∧ V.slAt w (slO l.length o).a sz enc l) ∧ (slO l.length o).n ≤ (slO l.length o).c := by
  rcases o with _ | ⟨g, rest, cap⟩
  · have hl : l.length = 0 := hk.2
    exact ⟨⟨by rw [hl]; rfl, .inl (List.length_eq_zero_iff.1 hl)⟩, Nat.le_refl _⟩
  · have h2 : (l.flatMap enc).length + rest.length = cap * sz := hk.2
    have h1 := hk.1
    have hc : l.length ≤ cap := Nat.le_of_mul_le_mul_right (by omega : l.length * sz ≤ cap * sz) h0
    have hs : Sat [[(g, .cells (l.flatMap enc ++ rest).toArray e (0, 0))]] w := ⟨fun p hp => hm p (by simpa [V.ownG, V.ownS] using hp), by simp⟩
    exact ⟨⟨rfl, V.slAt_flat (Hp.start hs) hsz rfl .here⟩, hc⟩
theorem slF_ok {l : List (List UInt8)} {o : OffO} {w : World} (hk : offOk l.length o) (hm : Mem (offG 9 (l.flatMap stE) o) w) : ((slF l.length o).n = l.length ∧ V.slAt w (slF l.length o).a 1 stE l) ∧ (slF l.length o).n ≤ (slF l.length o).c := by
  obtain ⟨p, c, h1, h2, h3⟩ := off_sl l o hk
  rcases o with _ | ⟨g, pre, rest, cap⟩
  · have hl : l.length = 0 := hk
    exact ⟨⟨by rw [hl]; rfl, .inl (List.length_eq_zero_iff.1 hl)⟩, Nat.le_refl _⟩
  · have hs : Sat [offG 9 (l.flatMap stE) (some (g, pre, rest, cap))] w := ⟨fun p hp => hm p (by simpa using hp), by simp [offG]⟩
    have h4 := h3 (Hp.start hs) (.cons .here .nil)
    change Value.slice (some ⟨g, pre.length, none⟩) l.length cap = _ at h1
    cases h1
    exact ⟨⟨rfl, h4⟩, h2⟩
def raOf (p : AP) : RA := ⟨p.1.code, p.1.fd, p.1.vl, slO p.1.ps.length p.2.1, slO p.1.hs.length p.2.2, 0⟩
def rtOf (t : TO) : RT := ⟨slO t.row.length t.ro, ⟨some ⟨t.ab, 0, none⟩, t.aps.length, t.aps.length⟩, ⟨slO t.sh.1.length t.so.1, slF t.sh.2.length t.so.2⟩⟩
theorem raOf_c (p : AP) : apC p = raC (raOf p) := by unfold apC AnsA.cells ansC raC raOf; rw [slO_v, slO_v]
theorem rtOf_c (t : TO) : toC t = rtC (rtOf t) := by unfold toC rtC rtOf; rw [slO_v, slO_v, slF_v]
/-- A turn in memory, in full. -/
abbrev TF := RT × List RA × TurnA
structure TfR (w : World) (t : TF) : Prop where
  rn : t.1.r.n = t.2.2.row.length
  rs : V.slAt w t.1.r.a 1 inE t.2.2.row
  an : t.1.a.n = t.2.1.length
  asl : V.slAt w t.1.a.a 6 raC t.2.1
  al : t.2.1.length = t.2.2.ans.length
  aa : ∀ (i : Nat) a y, t.2.1[i]? = some a → t.2.2.ans[i]? = some y → AaR w a y
  sf : SfR w t.1.s t.2.2.sh
def TfsR (w : World) (p : Option Addr) (l : List TF) : Prop := V.slAt w p 4 rtC (l.map Prod.fst) ∧ ∀ t ∈ l, TfR w t
/-- Small. -/
def SmA (x : AnsA) : Prop := x.ps.length ≤ 100000 ∧ x.hs.length ≤ 100000
def tfOf (t : TO) : TF := (rtOf t, t.aps.map raOf, toA t)
theorem raOf_ok {p : AP} {w : World} (hk : ansOk p.1 p.2) (hs : SmA p.1) (hm : Mem (apM p) w) : AaR w (raOf p) p.1 := by
  have h1 := slO_ok (e := 69) prC_len (by decide) hk.1 (fun q hq => hm q (List.mem_append.2 (.inl hq)))
  have h2 := slO_ok (e := 4) boE_len (by decide) hk.2 (fun q hq => hm q (List.mem_append.2 (.inr hq)))
  exact ⟨⟨rfl, rfl, rfl, rfl⟩, h1.1, h2.1, hs⟩
theorem tfOf_ok {t : TO} {w : World} (hk : toOk t) (hs : ∀ p ∈ t.aps, SmA p.1) (hm : Mem (toM t) w) : TfR w (tfOf t) := by
  obtain ⟨k1, k2, k3, k4⟩ := hk
  have m1 : Mem (ownG 3 (t.row.flatMap inE) t.ro) w := fun q hq => hm q (by unfold toM; simp only [List.mem_append]; exact .inl hq)
  have m2 : Mem [(t.ab, .cells (t.aps.flatMap apC).toArray 48 (0, 0))] w := fun q hq => hm q (by unfold toM; simp only [List.mem_append]; exact .inr (.inl hq))
  have m3 : Mem (t.aps.flatMap apM) w := fun q hq => hm q (by unfold toM; simp only [List.mem_append]; exact .inr (.inr (.inl hq)))
  have m4 : Mem (ownG 69 (t.sh.1.flatMap prC) t.so.1) w := fun q hq => hm q (by unfold toM; simp only [List.mem_append]; exact .inr (.inr (.inr (.inl hq))))
  have m5 : Mem (offG 9 (t.sh.2.flatMap stE) t.so.2) w := fun q hq => hm q (by unfold toM; simp only [List.mem_append]; exact .inr (.inr (.inr (.inr hq))))
  have h1 := slO_ok inE_len (by decide) k1 m1
  have h4 := slO_ok prC_len (by decide) k3 m4
  have h5 := slF_ok k4 m5
  refine ⟨h1.1.1, h1.1.2, by simp [tfOf, rtOf], ?_, by simp [tfOf, toA], fun i a y ha hy => ?_, ⟨h4.1, h5.1, h4.2, h5.2⟩⟩
  · have hs9 : Sat [[(t.ab, .cells (t.aps.flatMap apC).toArray 48 (0, 0))]] w := ⟨fun p hp => m2 p (by simpa using hp), by simp⟩
    have h9 : V.slAt w (some ⟨t.ab, 0, none⟩) 6 apC t.aps := V.slAt_flat (r := []) (Hp.start hs9) apC_len (by simp) .here
    exact V.slAt_map (l := t.aps.map apC) (by
      rcases h9 with h | ⟨b, o, e, hb, hr⟩
      · exact .inl (by rw [h]; rfl)
      · exact .inr ⟨b, o, e, hb, fun i x hx => by
          rw [List.getElem?_map] at hx
          cases hq : t.aps[i]? with
          | none => rw [hq] at hx; cases hx
          | some q => rw [hq] at hx; cases hx; exact hr i q hq⟩) (by simp only [tfOf, List.map_map]; exact List.map_congr_left fun p _ => raOf_c p)
  · simp only [tfOf, toA, List.getElem?_map] at ha hy
    cases hq : t.aps[i]? with
    | none => rw [hq] at ha; cases ha
    | some q =>
      rw [hq] at ha hy
      cases ha
      cases hy
      have hqm := List.mem_of_getElem? hq
      exact raOf_ok (k2 q hqm) (hs q hqm) fun z hz => m3 z (List.mem_flatMap.2 ⟨q, hqm, hz⟩)
theorem tfs_of {g : List TO} {o : V.OwnO} {w : World} (hk : ∀ t ∈ g, toOk t) (ho : ownOk 4 g.length (g.flatMap toC) o) (hs : ∀ t ∈ g, ∀ p ∈ t.aps, SmA p.1) (hm : Mem (ownG 36 (g.flatMap toC) o) w) (hm2 : Mem (g.flatMap toM) w) : (slO g.length o).n = g.length ∧ TfsR w (slO g.length o).a (g.map tfOf) := by
  have h1 := slO_ok toC_len (by decide) ho hm
  refine ⟨h1.1.1, V.slAt_map (l := g.map toC) (by
      rcases h1.1.2 with h | ⟨b, o, e, hb, hr⟩
      · exact .inl (by rw [h]; rfl)
      · exact .inr ⟨b, o, e, hb, fun i x hx => by
          rw [List.getElem?_map] at hx
          cases hq : g[i]? with
          | none => rw [hq] at hx; cases hx
          | some q => rw [hq] at hx; cases hx; exact hr i q hq⟩) (by rw [List.map_map, List.map_map]; exact List.map_congr_left fun p _ => rtOf_c p), fun t ht => ?_⟩
  obtain ⟨q, hq, rfl⟩ := List.mem_map.1 ht
  exact tfOf_ok (hk q hq) (hs q hq) fun z hz => hm2 z (List.mem_flatMap.2 ⟨q, hq, hz⟩)
theorem scan_len (l : List Pr) (k to : List UInt8) : (scanF l k to).length ≤ l.length := List.length_filter_le _ _
theorem do_ans (A : ShA) (x : Cal) : (doA A x).2.ps.length ≤ A.1.length ∧ (doA A x).2.hs.length = 0 := by
  unfold doA
  have h1 := scan_len A.1 x.key x.to
  repeat' split
  all_goals first | exact ⟨Nat.zero_le _, rfl⟩ | exact ⟨h1, rfl⟩
theorem ap_ans (A : ShA) (x : Cal) (L : List Cal) : (apA A x L).2.ps.length ≤ A.1.length ∧ (apA A x L).2.hs.length ≤ 3 := by
  unfold apA
  split
  · simp only [List.length_nil]; omega
  · rename_i hg
    have hk := good_kind (show goodF x L = 0 by simpa using hg)
    split
    · rename_i h7
      have h1 := grp_len A L
      rcases hk with hk | ⟨_, hk, _⟩
      · omega
      · simp only [List.length_nil]; omega
    · have h2 := do_ans A x
      omega
/-- What stands behind m calls is small. -/
def Sm (m : Nat) (s : ShA × List AnsA) : Prop := (s.1.1.length ≤ 3 * m ∧ s.1.2.length ≤ 3 * m) ∧ ∀ a ∈ s.2, a.ps.length ≤ 3 * m ∧ a.hs.length ≤ 3
theorem sm_step {C : Crs} {m : Nat} {s : ShA × List AnsA} (h : Sm m s) (k : Nat) : Sm (m + 1) (stepT C s k) := by
  unfold stepT
  split
  · rename_i c hc
    have h1 := ap_len s.1 c.1 c.2
    have h2 := ap_ans s.1 c.1 c.2
    have h3 := h.1
    refine ⟨⟨by simp only; omega, by simp only; omega⟩, fun a ha => ?_⟩
    rcases List.mem_or_eq_of_mem_set ha with h9 | rfl
    · have := h.2 a h9; omega
    · omega
  · refine ⟨⟨by have := h.1; omega, by have := h.1; omega⟩, fun a ha => by have := h.2 a ha; omega⟩
theorem sm_fold {C : Crs} (row : List Nat) {m : Nat} {s : ShA × List AnsA} (h : Sm m s) : Sm (m + row.length) (row.foldl (stepT C) s) := by
  induction row generalizing m s with
  | nil => exact h
  | cons k r ih => have := ih (sm_step (C := C) h k); rw [List.foldl_cons, List.length_cons]; rwa [show m + (r.length + 1) = m + 1 + r.length by omega]
theorem sm_run (C : Crs) (row : List Nat) : Sm row.length (runT C row) := by
  have h : Sm 0 ((([], []), List.replicate C.length ⟨0, false, [], [], []⟩) : ShA × List AnsA) := ⟨⟨Nat.le_refl _, Nat.le_refl _⟩, fun a ha => by rw [List.eq_of_mem_replicate ha]; exact ⟨Nat.le_refl _, Nat.zero_le _⟩⟩
  have := sm_fold (C := C) row h
  rwa [Nat.zero_add] at this
theorem run_len (C : Crs) (row : List Nat) (s : ShA × List AnsA) : (row.foldl (stepT C) s).2.length = s.2.length := by
  induction row generalizing s with
  | nil => rfl
  | cons k r ih => rw [List.foldl_cons, ih]; unfold stepT; split <;> simp
theorem turn_ans_len (C : Crs) (row : List Nat) : (turnOf C row).ans.length = C.length := by unfold turnOf runT; rw [run_len]; simp
end I
end Go.Proofs.YtlpbjmbgopfkhaaGreat

/- All orders: every.Rows of any list of calls; turns to be looked for among them. -/
namespace Go.Proofs.YtlpbjmbgopfkhaaGreat
open Go Go.RowKit V
set_option linter.unusedVariables false
set_option maxRecDepth 100000
namespace I
open V (str byC ownV ownG ownS ownOk)
theorem rows_c (C : Crs) (pc : Option Addr) (n cc : Nat) (hC : n = C.length) (w : World) (hR : CrsR w pc C) : Calls Tryz.prog 9 [.slice pc n cc].toArray w fun e w' => ∃ g : List TO × V.OwnO, (g.1.map toA = rowsF C ∧ (∀ t ∈ g.1, toOk t) ∧ ownOk 4 g.1.length (g.1.flatMap toC) g.2) ∧ e = .returned (ownV g.1.length g.2) ∧ Hp ⟨w, []⟩ [ownG 36 (g.1.flatMap toC) g.2, g.1.flatMap toM] w' := by
  by_cases h : C.length = 0 ∨ 3 < C.length
  · refine (rows0_c pc n cc (by omega) w).mono fun e w' ⟨he, hb⟩ => ⟨([], none), ⟨by unfold rowsF; rw [if_pos h]; rfl, fun t ht => by simp at ht, ⟨rfl, rfl⟩⟩, he, ?_⟩
    have h9 := (hp_none w).call_ro hb
    exact h9.perm (by simp [V.ownG, V.ownS])
  · refine (rows1_c C pc n cc hC.symm (by omega) (by omega) w hR).mono fun e w' ⟨g, ⟨h1, h2, h3⟩, he, hw⟩ => ⟨g, ⟨by unfold rowsF; rw [if_neg h, h1, hC], h2, h3⟩, he, hw⟩
theorem rows_row {C : Crs} {l : List TF} {k : Nat} {t : TF} (h : l.map (fun t => t.2.2) = rowsF C) (hk : l[k]? = some t) : (0 < C.length ∧ C.length ≤ 3) ∧ (perms C.length)[k]? = some t.2.2.row ∧ t.2.2 = turnOf C t.2.2.row := by
  have h1 : (rowsF C)[k]? = some t.2.2 := by rw [← h, List.getElem?_map, hk]; rfl
  unfold rowsF at h1
  split at h1
  · simp at h1
  · rename_i hn
    rw [List.getElem?_map] at h1
    cases hq : (perms C.length)[k]? with
    | none => rw [hq] at h1; cases h1
    | some r =>
      rw [hq] at h1
      simp only [Option.map_some, Option.some.injEq] at h1
      have h2 : t.2.2.row = r := by rw [← h1]; rfl
      exact ⟨by omega, by rw [h2], by rw [h2, h1]⟩
def SmT (x : TurnA) : Prop := (x.row.length ≤ 3 ∧ x.ans.length ≤ 3) ∧ (x.sh.1.length ≤ 9 ∧ x.sh.2.length ≤ 9) ∧ ∀ a ∈ x.ans, SmA a
theorem smT_of {C : Crs} {l : List TF} (h : l.map (fun t => t.2.2) = rowsF C) : ∀ t ∈ l, SmT t.2.2 := fun t ht => by
  obtain ⟨k, hk⟩ := List.mem_iff_getElem?.1 ht
  obtain ⟨⟨_, h3⟩, hp, he⟩ := rows_row h hk
  have hr := (perm_row h3 _ (List.mem_of_getElem? hp)).1
  have hs := sm_run C t.2.2.row
  rw [he]
  refine ⟨⟨by show t.2.2.row.length ≤ 3; omega, by rw [turn_ans_len]; omega⟩, ⟨by have := hs.1; show (runT C t.2.2.row).1.1.length ≤ 9; omega, by have := hs.1; show (runT C t.2.2.row).1.2.length ≤ 9; omega⟩, fun a ha => by have := hs.2 a ha; exact ⟨by omega, by omega⟩⟩
theorem map_atF {l : List TF} {k : Nat} {x : RT} (h : (l.map Prod.fst)[k]? = some x) : ∃ y, l[k]? = some (x, y) := by
  rw [List.getElem?_map] at h
  cases hl : l[k]? with
  | none => rw [hl] at h; cases h
  | some y => rw [hl] at h; simp at h; exact ⟨y.2, by rw [← h]⟩
end I
end Go.Proofs.YtlpbjmbgopfkhaaGreat

