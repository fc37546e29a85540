import Derived.Test.YtlpbjmbgopfkhaaGreatJa1
import Derived.Test.YtlpbjmbgopfkhaaGreatV24
import Derived.Lib.Hide
import Derived.Lib.Bytealg
/- Calls: good ones; what each kind does. -/
namespace Go.Proofs.YtlpbjmbgopfkhaaGreat
open Go Go.RowKit V
set_option linter.unusedVariables false
set_option maxRecDepth 100000
namespace I
instance : V.Und Tryz.prog 22 (dOf Tryz.underlying22) := ⟨Tryz.underlying22⟩
instance : V.Siz Tryz.prog 22 (kOf Tryz.sizeOf22) := ⟨Tryz.sizeOf22⟩
instance : V.AgF Tryz.prog 22 := ⟨Tryz.isAgg22⟩
instance : V.Zer Tryz.prog 22 (zOf Tryz.zeroValue22) := ⟨Tryz.zeroValue22⟩
instance : V.Und Tryz.prog 46 (dOf Tryz.underlying46) := ⟨Tryz.underlying46⟩
instance : V.Siz Tryz.prog 46 (kOf Tryz.sizeOf46) := ⟨Tryz.sizeOf46⟩
instance : V.AgF Tryz.prog 46 := ⟨Tryz.isAgg46⟩
instance : V.Zer Tryz.prog 46 (zOf Tryz.zeroValue46) := ⟨Tryz.zeroValue46⟩
instance : V.Und Tryz.prog 48 (dOf Tryz.underlying48) := ⟨Tryz.underlying48⟩
instance : V.Siz Tryz.prog 48 (kOf Tryz.sizeOf48) := ⟨Tryz.sizeOf48⟩
instance : V.AgT Tryz.prog 48 := ⟨Tryz.isAgg48⟩
instance : V.Zer Tryz.prog 48 (zOf Tryz.zeroValue48) := ⟨Tryz.zeroValue48⟩
instance : V.Und Tryz.prog 80 (dOf Tryz.underlying80) := ⟨Tryz.underlying80⟩
instance : V.Siz Tryz.prog 80 (kOf Tryz.sizeOf80) := ⟨Tryz.sizeOf80⟩
instance : V.AgF Tryz.prog 80 := ⟨Tryz.isAgg80⟩
instance : V.Zer Tryz.prog 80 (zOf Tryz.zeroValue80) := ⟨Tryz.zeroValue80⟩
instance : V.Cal Tryz.prog 68 := ⟨Tryz.call68⟩
instance : V.Cal Tryz.prog 69 := ⟨Tryz.call69⟩
instance : V.Cal Tryz.prog 71 := ⟨Tryz.call71⟩
instance : V.Cal Tryz.prog 73 := ⟨Tryz.call73⟩
instance : V.Cal Tryz.prog 75 := ⟨Tryz.call75⟩
instance : V.Cal Tryz.prog 78 := ⟨Tryz.call78⟩
instance : V.Cal Tryz.prog 99 := ⟨Tryz.call99⟩
instance : V.Cal Tryz.prog 100 := ⟨Tryz.call100⟩
instance : V.Cal Tryz.prog 101 := ⟨Tryz.call101⟩
instance : V.Cal Tryz.prog 108 := ⟨Tryz.call108⟩
instance : V.Cal Tryz.prog 130 := ⟨Tryz.call130⟩
instance : V.Cal Tryz.prog 134 := ⟨Tryz.call134⟩
open V (str byC ownV ownG ownS ownOk)
theorem places48 : ∀ w, ((Array.mapM (fun (f : Field) => do pure (f.offset, ← sizeOf f.type)) (Tryz.prog.fieldsOf 48) : Sem (Array (Nat × Nat)))).run Tryz.prog w = .ok [(0, 1), (1, 1), (2, 1), (3, 1), (4, 1), (5, 1)].toArray w := by
  intro w; kernel_rfl
/-- A call: its group is a slice. -/
structure Cal where
  ck : Int
  key : List UInt8
  val : List UInt8
  to : List UInt8
  gp : Option Addr
  gn : Nat
  gc : Nat
instance : Inhabited Cal := ⟨⟨0, [], [], [], none, 0, 0⟩⟩
def calC (x : Cal) : List Value := [.int .i64 x.ck, str x.key, str x.val, str x.to, .slice x.gp x.gn x.gc]
theorem calC_len (x : Cal) : (calC x).length = 5 := rfl
def keyB (k : Int) : Bool := decide (k = 1 ∨ k = 2 ∨ k = 3)
def grpB (k : Int) : Bool := decide (k = 2 ∨ k = 3 ∨ k = 4)
def clashB (y z : Cal) : Bool := keyB y.ck && keyB z.ck && decide (y.key = z.key)
def noKey (y : Cal) : Bool := keyB y.ck && decide (y.key = [])
def subB (pre : List Cal) (y : Cal) : Bool := grpB y.ck && !noKey y && pre.all fun z => !clashB y z
def gshB : List Cal → List Cal → Bool
  | _, [] => true
  | pre, y :: r => subB pre y && gshB (pre ++ [y]) r
def shapeB (x : Cal) (L : List Cal) : Bool := !(decide (x.ck < 1 ∨ 8 < x.ck) || noKey x) && (decide (x.ck ≠ 7) || decide (1 ≤ L.length ∧ L.length ≤ 3) && gshB [] L)
def long1 (x : Cal) : Bool := if x.ck = 1 ∨ x.ck = 3 then decide (16 < x.key.length) else if x.ck = 2 then decide (16 < x.key.length) || decide (400 < x.val.length) else if x.ck = 4 then decide (400 < x.val.length) else if x.ck = 6 then decide (16 < x.key.length) || decide (16 < x.to.length) else false
def longB (x : Cal) (L : List Cal) : Bool := if x.ck = 7 then L.any long1 else long1 x
/-- What is wrong with a call. -/
def goodF (x : Cal) (L : List Cal) : Int := if shapeB x L = true then (if longB x L = true then 5 else 0) else 1
/-- A call's group lies in memory. -/
def CalR (w : World) (x : Cal) (L : List Cal) : Prop := (x.gn = L.length ∧ x.gn ≤ x.gc) ∧ V.slAt w x.gp 5 calC L
theorem CalR.hp {w0 w : World} {sg : V.Sg} {x : Cal} {L : List Cal} (h : CalR w0 x L) (hw : Hp ⟨w0, []⟩ sg w) : CalR w x L := ⟨h.1, hw.slAt h.2 (by simp [ids])⟩
theorem gsh_no {r pre L : List Cal} {y : Cal} (hp : gshB [] L = gshB pre (y :: r)) (h : subB pre y = false) : gshB [] L = false := by rw [hp, gshB, h]; rfl
def ansC (code : Int) (fd : Bool) (vl : List UInt8) (ps hs : Value) : List Value := [.int .i64 code, .bool fd, str vl, ps, hs, .int .u64 0]
def ans0 (code : Int) : List Value := ansC code false [] (.slice none 0 0) (.slice none 0 0)
theorem keyed_c (k : Int) (w : World) : Calls Tryz.prog 99 [.int .i64 k].toArray w fun e w' => e = .returned (.bool (keyB k)) ∧ Below w.heap.size w w' := by
  refine V.calls [] Tryz.func99 rfl Tryz.ntmps99 (Nat.le_of_ble_eq_true rfl) (V.sat_nil _) <| Sq <| Rg <| Lv Av <| Nl <| Ps <| Sq <| Rg <| Lv Mv <| Lv Cm <| Lv Mv ?_
  refine LW.split (d := 5) rfl (fun h5 => ?_) (fun h5 => ?_)
  · replace h5 := bT h5
    refine Lp <| Lp <| Lv Pt <| Lv Mv <| Lp <| Lp <| Lv Pt <| Lv Av <| Nl <| Ps <| Rt <| Rt1 ?_
    intro w' hw; exact ⟨by unfold keyB; congr 2; first | (simp_all; done) | (simp; omega), hw.below⟩
  · replace h5 := bF h5
    refine Lv Mv <| Lv Cm <| Lv Pf <| Lv Mv ?_
    refine LW.split (d := 9) rfl (fun h9 => ?_) (fun h9 => ?_)
    · replace h9 := bT h9
      refine Lp <| Lp <| Lv Pt <| Lv Av <| Nl <| Ps <| Rt <| Rt1 ?_
      intro w' hw; exact ⟨by unfold keyB; congr 2; first | (simp_all; done) | (simp; omega), hw.below⟩
    · replace h9 := bF h9
      refine Lv Mv <| Lv Cm ?_
      refine LW.split (d := 11) rfl (fun h11 => ?_) (fun h11 => ?_)
      · replace h11 := bT h11
        refine Lv Pf <| Lv Av <| Nl <| Ps <| Rt <| Rt1 ?_
        intro w' hw; exact ⟨by unfold keyB; congr 2; first | (simp_all; done) | (simp; omega), hw.below⟩
      · replace h11 := bF h11
        refine Lv Pf <| Lv Av <| Nl <| Ps <| Rt <| Rt1 ?_
        intro w' hw; exact ⟨by unfold keyB; congr 2; first | (simp_all; done) | (simp; omega), hw.below⟩
theorem grouped_c (k : Int) (w : World) : Calls Tryz.prog 100 [.int .i64 k].toArray w fun e w' => e = .returned (.bool (grpB k)) ∧ Below w.heap.size w w' := by
  refine V.calls [] Tryz.func100 rfl Tryz.ntmps100 (Nat.le_of_ble_eq_true rfl) (V.sat_nil _) <| Sq <| Rg <| Lv Av <| Nl <| Ps <| Sq <| Rg <| Lv Mv <| Lv Cm <| Lv Mv ?_
  refine LW.split (d := 5) rfl (fun h5 => ?_) (fun h5 => ?_)
  · replace h5 := bT h5
    refine Lp <| Lp <| Lv Pt <| Lv Mv <| Lp <| Lp <| Lv Pt <| Lv Av <| Nl <| Ps <| Rt <| Rt1 ?_
    intro w' hw; exact ⟨by unfold grpB; congr 2; first | (simp_all; done) | (simp; omega), hw.below⟩
  · replace h5 := bF h5
    refine Lv Mv <| Lv Cm <| Lv Pf <| Lv Mv ?_
    refine LW.split (d := 9) rfl (fun h9 => ?_) (fun h9 => ?_)
    · replace h9 := bT h9
      refine Lp <| Lp <| Lv Pt <| Lv Av <| Nl <| Ps <| Rt <| Rt1 ?_
      intro w' hw; exact ⟨by unfold grpB; congr 2; first | (simp_all; done) | (simp; omega), hw.below⟩
    · replace h9 := bF h9
      refine Lv Mv <| Lv Cm ?_
      refine LW.split (d := 11) rfl (fun h11 => ?_) (fun h11 => ?_)
      · replace h11 := bT h11
        refine Lv Pf <| Lv Av <| Nl <| Ps <| Rt <| Rt1 ?_
        intro w' hw; exact ⟨by unfold grpB; congr 2; first | (simp_all; done) | (simp; omega), hw.below⟩
      · replace h11 := bF h11
        refine Lv Pf <| Lv Av <| Nl <| Ps <| Rt <| Rt1 ?_
        intro w' hw; exact ⟨by unfold grpB; congr 2; first | (simp_all; done) | (simp; omega), hw.below⟩
theorem shape_c (x : Cal) (L : List Cal) (hl : L.length ≤ 100000) (w : World) (hR : CalR w x L) : Calls Tryz.prog 68 [.agg (calC x).toArray].toArray w fun e w' => e = .returned (.bool (shapeB x L)) ∧ Below w.heap.size w w' := by
  obtain ⟨ck, key, val, to, gp, gn, gc⟩ := x
  obtain ⟨⟨hn, hc⟩, hL⟩ := hR
  simp only at hn hc hL
  subst hn
  refine V.calls [] Tryz.func68 rfl Tryz.ntmps68 (Nat.le_of_ble_eq_true rfl) (V.sat_nil _) <| Sq <| Rg <| Le XA fun b1 _ => Lv Av <| Nl <| Ps <| Sq <| Sq <| Rg <| Lv (Fa 0 3) <| Lv Ld <| Lv Cm <| Lv Mv ?_
  refine LW.split (d := 10) rfl (fun h10 => ?_) (fun h10 => ?_)
  · replace h10 := bT h10
    refine Lp <| Lp <| Lp <| Lv Pt <| Lv Mv <| Lp <| Lp <| Lp <| Lp <| Lp <| Lp <| Lp <| Lp <| Lv Pt <| Nl <| Ps <| Ct <| Sq <| Rg <| Lv Av <| Nl <| Ps <| Rt <| Tr <| Rt1 ?_
    intro w' hw; exact ⟨by rw [show ∀ g, shapeB (Cal.mk ck key val to g L.length gc) L = false from fun g => by unfold shapeB noKey; simp only [Bool.and_eq_false_iff]; left; simp_all], hw.below⟩
  · replace h10 := bF h10
    refine Lv (Fa 0 3) <| Lv Ld <| Lv Cm <| Lv Pf <| Lv Mv ?_
    refine LW.split (d := 15) rfl (fun h15 => ?_) (fun h15 => ?_)
    · replace h15 := bT h15
      refine Lp <| Lp <| Lp <| Lp <| Lp <| Lp <| Lp <| Lp <| Lv Pt <| Nl <| Ps <| Ct <| Sq <| Rg <| Lv Av <| Nl <| Ps <| Rt <| Tr <| Rt1 ?_
      intro w' hw; exact ⟨by rw [show ∀ g, shapeB (Cal.mk ck key val to g L.length gc) L = false from fun g => by unfold shapeB noKey; simp only [Bool.and_eq_false_iff]; left; simp_all], hw.below⟩
    · replace h15 := bF h15
      refine Lv (Fa 0 3) <| Lv Ld <| Le (CV fun w hw => keyed_c _ w) fun _ _ => Lv Mv ?_
      refine LW.split (d := 19) rfl (fun h19 => ?_) (fun h19 => ?_)
      · replace h19 := bT h19
        refine Lv (Fa 1 9) <| Lv Ld <| Lv ES <| Lv Pt <| Lv Pf <| Nl <| Ps ?_
        refine CW.cond rfl (fun h24 => ?_) (fun h24 => ?_)
        · replace h24 := bT h24
          refine Sq <| Rg <| Lv Av <| Nl <| Ps <| Rt <| Tr <| Rt1 ?_
          intro w' hw; exact ⟨by rw [show ∀ g, shapeB (Cal.mk ck key val to g L.length gc) L = false from fun g => by unfold shapeB noKey; simp only [Bool.and_eq_false_iff]; left; simp_all], hw.below⟩
        · replace h24 := bF h24
          refine Sk <| Ps <| Sq <| Sq <| Rg <| Lv (Fa 0 3) <| Lv Ld <| Lv Cm <| Nl <| Ps ?_
          refine CW.cond rfl (fun h27 => ?_) (fun h27 => ?_)
          · replace h27 := bT h27
            have h27 : ck ≠ 7 := h27
            refine Sq <| Rg <| Lv Av <| Nl <| Ps <| Rt <| Tr <| Rt1 ?_
            intro w' hw; exact ⟨by rw [show ∀ g, shapeB (Cal.mk ck key val to g L.length gc) L = true from fun g => by unfold shapeB noKey; simp_all], hw.below⟩
          · replace h27 := bF h27
            have h27 : ck = 7 := h27
            refine Sk <| Ps <| Sq <| Sq <| Rg <| Lv (Fa 4 22) <| Lv Ld <| Lv Ln <| Lv Cm <| Lv Mv ?_
            refine LW.split (d := 32) rfl (fun h32 => ?_) (fun h32 => ?_)
            · replace h32 := bT h32
              have h32 : (L.length : Int) < 1 := h32
              refine Lp <| Lp <| Lp <| Lp <| Lv Pt <| Nl <| Ps <| Ct <| Sq <| Rg <| Lv Av <| Nl <| Ps <| Rt <| Tr <| Rt1 ?_
              intro w' hw; exact ⟨by rw [show ∀ g, shapeB (Cal.mk ck key val to g L.length gc) L = false from fun g => by unfold shapeB noKey; simp_all <;> omega], hw.below⟩
            · replace h32 := bF h32
              have h32 : (1 : Int) ≤ L.length := h32
              refine Lv (Fa 4 22) <| Lv Ld <| Lv Ln <| Lv Cm <| Lv Pf <| Nl <| Ps ?_
              refine CW.cond rfl (fun h37 => ?_) (fun h37 => ?_)
              · replace h37 := bT h37
                refine Sq <| Rg <| Lv Av <| Nl <| Ps <| Rt <| Tr <| Rt1 ?_
                intro w' hw; exact ⟨by rw [show ∀ g, shapeB (Cal.mk ck key val to g L.length gc) L = false from fun g => by unfold shapeB noKey; simp_all <;> omega], hw.below⟩
              · replace h37 := bF h37
                refine Sk <| Ps <| Sq <| Sq <| Rg <| Lv (Fa 4 22) <| Lv Ld <| Lv Ln <| Lv Mv <| Nl <| Ps <| Bk <| loopA (γ := Nat) (fun k => [(1, .pointer (some ⟨b1, 0, none⟩)), (39, .slice gp L.length gc), (40, .int .i64 (L.length : Nat)), (41, .int .i64 (k : Nat))]) (fun _ => [[(b1, .cells (calC ⟨ck, key, val, to, gp, L.length, gc⟩).toArray 52 (0, 0))]]) (fun k => k ≤ L.length ∧ gshB [] L = gshB (L.take k) (L.drop k)) (fun k => L.length - k) (0) ⟨Nat.zero_le _, by simp⟩ fun k => ?_
                rintro ⟨hk1, hk2⟩
                refine Sq <| Rg <| Lv Cm <| Nl <| Ps <| Sq ?_
                refine CW.cond rfl (fun h42 => ?_) (fun h42 => ?_)
                · replace h42 := bT h42
                  have hk9 : k < L.length := by omega
                  obtain ⟨bb1, o1, y, rfl, hb1, hx1, hr1⟩ := V.slAt_at hL rfl (k := k) hk9
                  refine Sk <| Ps <| Sq <| Bk <| Sq <| Rg <| Lv Mv <| Lv Ix <| Lv (Val.loadOA rfl Tryz.isAgg52 hb1 (by simp [ids]) (hr1 k y hx1) Tryz.sizeOf52) <| Le AA fun b4 _ => Lv Av <| LeN (StW (cs := calC y) (h1 := by rfl)) fun _ _ => Nl <| Ps <| Sq <| Sq <| Rg <| Lv (Fa 0 3) <| Lv Ld <| Le (CV fun w hw => grouped_c _ w) fun _ _ => Lv Nt <| Lv Mv ?_
                  refine LW.split (d := 50) rfl (fun h50 => ?_) (fun h50 => ?_)
                  · replace h50 := bT h50
                    refine Lp <| Lp <| Lp <| Lp <| Lp <| Lp <| Lp <| Lp <| Lv Pt <| Nl <| Ps <| Ct <| Sq <| Rg <| Lv Av <| Nl <| Ps <| Rt <| Tr <| Br <| Tr <| Tr <| Br <| Tr <| Rt1 ?_
                    intro w' hw; exact ⟨by rw [show ∀ g, shapeB (Cal.mk ck key val to g L.length gc) L = false from fun g => by unfold shapeB; rw [gsh_no (y := y) (r := L.drop (k + 1)) (hk2.trans (by rw [drop_at hx1])) (by unfold subB noKey; simp_all)]; have h7 : ck = 7 := h27; subst h7; simp], hw.below⟩
                  · replace h50 := bF h50
                    refine Lv (Fa 0 3) <| Lv Ld <| Le (CV fun w hw => keyed_c _ w) fun _ _ => Lv Mv ?_
                    refine LW.split (d := 54) rfl (fun h54 => ?_) (fun h54 => ?_)
                    · replace h54 := bT h54
                      refine Lv (Fa 1 9) <| Lv Ld <| Lv ES <| Lv Pt <| Lv Pf <| Nl <| Ps ?_
                      refine CW.cond rfl (fun h59 => ?_) (fun h59 => ?_)
                      · replace h59 := bT h59
                        refine Sq <| Rg <| Lv Av <| Nl <| Ps <| Rt <| Tr <| Br <| Tr <| Tr <| Br <| Tr <| Rt1 ?_
                        intro w' hw; exact ⟨by rw [show ∀ g, shapeB (Cal.mk ck key val to g L.length gc) L = false from fun g => by unfold shapeB; rw [gsh_no (y := y) (r := L.drop (k + 1)) (hk2.trans (by rw [drop_at hx1])) (by unfold subB noKey; simp_all)]; have h7 : ck = 7 := h27; subst h7; simp], hw.below⟩
                      · replace h59 := bF h59
                        refine Sk <| Ps <| Sq <| Rg <| Lv (Fa 4 22) <| Lv Ld <| LW.re 61 (.slice (some ⟨bb1, o1, none⟩) L.length gc) rfl (by rfl) <| Lv Mv <| Lv (Val.slice (sz := 5) 0 k gc rfl Tryz.underlying22 Tryz.sizeOf52 rfl ⟨_, rfl⟩ rfl (fun _ => rfl) (by omega) (by omega) (by omega)) <| LW.re 63 (.slice (some ⟨bb1, o1, none⟩) k gc) rfl (by simp) <| Lv Ln <| Lv Mv <| Nl <| Ps <| Bk <| loopA (γ := Nat) (fun j => [(1, .pointer (some ⟨b1, 0, none⟩)), (3, .int .i64 (k : Nat)), (4, .pointer (some ⟨b4, 0, none⟩)), (39, .slice (some ⟨bb1, o1, none⟩) L.length gc), (40, .int .i64 (L.length : Nat)), (41, .int .i64 (k : Nat)), (63, .slice (some ⟨bb1, o1, none⟩) k gc), (64, .int .i64 (k : Nat)), (65, .int .i64 (j : Nat))]) (fun _ => [[(b1, .cells (calC ⟨ck, key, val, to, (some ⟨bb1, o1, none⟩), L.length, gc⟩).toArray 52 (0, 0))], [(b4, .cells (calC y).toArray 52 (0, 0))]]) (fun j => j ≤ k ∧ ∀ z ∈ L.take j, clashB y z = false) (fun j => k - j) (0) ⟨Nat.zero_le _, by simp⟩ fun j => ?_
                        rintro ⟨hj1, hj2⟩
                        refine Sq <| Rg <| Lv Cm <| Nl <| Ps <| Sq ?_
                        refine CW.cond rfl (fun h66 => ?_) (fun h66 => ?_)
                        · replace h66 := bT h66
                          have hj9 : j < k := by omega
                          obtain ⟨z, hx2⟩ : ∃ z, L[j]? = some z := ⟨L[j]'(by omega), by simp⟩
                          refine Sk <| Ps <| Sq <| Bk <| Sq <| Rg <| Lv Ix <| Lv (Val.loadOA rfl Tryz.isAgg52 hb1 (by simp [ids]) (hr1 j z hx2) Tryz.sizeOf52) <| Le AA fun b6 _ => LeN (StW (cs := calC z) (h1 := by rfl)) fun _ _ => Nl <| Ps <| Sq <| Rg <| Lv (Fa 0 3) <| Lv Ld <| Le (CV fun w hw => keyed_c _ w) fun _ _ => Lv Mv ?_
                          refine LW.split (d := 72) rfl (fun h72 => ?_) (fun h72 => ?_)
                          · replace h72 := bT h72
                            refine Lv (Fa 0 3) <| Lv Ld <| Le (CV fun w hw => keyed_c _ w) fun _ _ => Lv Pt <| Lv Mv ?_
                            refine LW.split (d := 77) rfl (fun h77 => ?_) (fun h77 => ?_)
                            · replace h77 := bT h77
                              refine Lv (Fa 1 9) <| Lv Ld <| Lv (Fa 1 9) <| Lv Ld <| Lv ES <| Lv Pt <| Nl <| Ps ?_
                              refine CW.cond rfl (fun h83 => ?_) (fun h83 => ?_)
                              · replace h83 := bT h83
                                refine Sq <| Rg <| Lv Av <| Nl <| Ps <| Rt <| Br <| Tr <| Tr <| Br <| Br <| Tr <| Tr <| Br <| Tr <| Rt1 ?_
                                intro w' hw; exact ⟨by rw [show ∀ g, shapeB (Cal.mk ck key val to g L.length gc) L = false from fun g => by unfold shapeB; rw [gsh_no (y := y) (r := L.drop (k + 1)) (hk2.trans (by rw [drop_at hx1])) (by unfold subB; simp only [Bool.and_eq_false_iff]; right; rw [List.all_eq_false]; exact ⟨z, by rw [List.mem_iff_getElem?]; exact ⟨j, by rw [List.getElem?_take_of_lt hj9]; exact hx2⟩, by unfold clashB; simp_all⟩)]; have h7 : ck = 7 := h27; subst h7; simp], hw.below⟩
                              · replace h83 := bF h83
                                refine Sk <| Bn <| Ps <| Rg <| Lv Ar <| Lv Mv <| Nl ?_
                                refine PQ.round (j + 1) ⟨by omega, fun z9 hz9 => by
                                  rw [List.take_add_one, hx2] at hz9
                                  rcases List.mem_append.1 hz9 with h9 | h9
                                  · exact hj2 z9 h9
                                  · obtain rfl : z9 = z := by simpa using h9
                                    unfold clashB; simp_all⟩ (by omega) (by repeat (first | exact trivial | refine ⟨rfl, ?_⟩)) (by repeat (first | exact .nil | apply Pick.cons | exact .here | apply Ext.there))
                            · replace h77 := bF h77
                              refine Lp <| Lp <| Lp <| Lp <| Lp <| Lv Pf <| Nl <| Ps <| Cf <| Sk <| Bn <| Ps <| Rg <| Lv Ar <| Lv Mv <| Nl ?_
                              refine PQ.round (j + 1) ⟨by omega, fun z9 hz9 => by
                                rw [List.take_add_one, hx2] at hz9
                                rcases List.mem_append.1 hz9 with h9 | h9
                                · exact hj2 z9 h9
                                · obtain rfl : z9 = z := by simpa using h9
                                  unfold clashB; simp_all⟩ (by omega) (by repeat (first | exact trivial | refine ⟨rfl, ?_⟩)) (by repeat (first | exact .nil | apply Pick.cons | exact .here | apply Ext.there))
                          · replace h72 := bF h72
                            refine Lp <| Lp <| Lp <| Lv Pf <| Lv Mv <| Lp <| Lp <| Lp <| Lp <| Lp <| Lv Pf <| Nl <| Ps <| Cf <| Sk <| Bn <| Ps <| Rg <| Lv Ar <| Lv Mv <| Nl ?_
                            refine PQ.round (j + 1) ⟨by omega, fun z9 hz9 => by
                              rw [List.take_add_one, hx2] at hz9
                              rcases List.mem_append.1 hz9 with h9 | h9
                              · exact hj2 z9 h9
                              · obtain rfl : z9 = z := by simpa using h9
                                unfold clashB; simp_all⟩ (by omega) (by repeat (first | exact trivial | refine ⟨rfl, ?_⟩)) (by repeat (first | exact .nil | apply Pick.cons | exact .here | apply Ext.there))
                        · replace h66 := bF h66
                          have hj9 : k ≤ j := by omega
                          refine Xt <| Te <| Te <| Bh <| Bn <| Ps <| Rg <| Lv Ar <| Lv Mv <| Nl ?_
                          refine PQ.round (k + 1) ⟨by omega, by
                            rw [hk2, drop_at hx1, gshB, List.take_add_one, hx1]
                            have h9 : subB (L.take k) y = true := by
                              unfold subB noKey
                              simp only [Bool.and_eq_true, List.all_eq_true]
                              refine ⟨by simp_all, fun z hz => by rw [hj2 z (by rw [show j = k by omega]; exact hz)]; rfl⟩
                            rw [h9]; rfl⟩ (by omega) (by repeat (first | exact trivial | refine ⟨rfl, ?_⟩)) (by repeat (first | exact .nil | apply Pick.cons | exact .here | apply Ext.there))
                    · replace h54 := bF h54
                      refine Lp <| Lp <| Lp <| Lv Pf <| Lv Pf <| Nl <| Ps <| Cf <| Sk <| Ps <| Sq <| Rg <| Lv (Fa 4 22) <| Lv Ld <| LW.re 61 (.slice (some ⟨bb1, o1, none⟩) L.length gc) rfl (by rfl) <| Lv Mv <| Lv (Val.slice (sz := 5) 0 k gc rfl Tryz.underlying22 Tryz.sizeOf52 rfl ⟨_, rfl⟩ rfl (fun _ => rfl) (by omega) (by omega) (by omega)) <| LW.re 63 (.slice (some ⟨bb1, o1, none⟩) k gc) rfl (by simp) <| Lv Ln <| Lv Mv <| Nl <| Ps <| Bk <| loopA (γ := Nat) (fun j => [(1, .pointer (some ⟨b1, 0, none⟩)), (3, .int .i64 (k : Nat)), (4, .pointer (some ⟨b4, 0, none⟩)), (39, .slice (some ⟨bb1, o1, none⟩) L.length gc), (40, .int .i64 (L.length : Nat)), (41, .int .i64 (k : Nat)), (63, .slice (some ⟨bb1, o1, none⟩) k gc), (64, .int .i64 (k : Nat)), (65, .int .i64 (j : Nat))]) (fun _ => [[(b1, .cells (calC ⟨ck, key, val, to, (some ⟨bb1, o1, none⟩), L.length, gc⟩).toArray 52 (0, 0))], [(b4, .cells (calC y).toArray 52 (0, 0))]]) (fun j => j ≤ k ∧ ∀ z ∈ L.take j, clashB y z = false) (fun j => k - j) (0) ⟨Nat.zero_le _, by simp⟩ fun j => ?_
                      rintro ⟨hj1, hj2⟩
                      refine Sq <| Rg <| Lv Cm <| Nl <| Ps <| Sq ?_
                      refine CW.cond rfl (fun h66 => ?_) (fun h66 => ?_)
                      · replace h66 := bT h66
                        have hj9 : j < k := by omega
                        obtain ⟨z, hx2⟩ : ∃ z, L[j]? = some z := ⟨L[j]'(by omega), by simp⟩
                        refine Sk <| Ps <| Sq <| Bk <| Sq <| Rg <| Lv Ix <| Lv (Val.loadOA rfl Tryz.isAgg52 hb1 (by simp [ids]) (hr1 j z hx2) Tryz.sizeOf52) <| Le AA fun b6 _ => LeN (StW (cs := calC z) (h1 := by rfl)) fun _ _ => Nl <| Ps <| Sq <| Rg <| Lv (Fa 0 3) <| Lv Ld <| Le (CV fun w hw => keyed_c _ w) fun _ _ => Lv Mv ?_
                        refine LW.split (d := 72) rfl (fun h72 => ?_) (fun h72 => ?_)
                        · replace h72 := bT h72
                          refine Lv (Fa 0 3) <| Lv Ld <| Le (CV fun w hw => keyed_c _ w) fun _ _ => Lv Pt <| Lv Mv ?_
                          refine LW.split (d := 77) rfl (fun h77 => ?_) (fun h77 => ?_)
                          · replace h77 := bT h77
                            refine Lv (Fa 1 9) <| Lv Ld <| Lv (Fa 1 9) <| Lv Ld <| Lv ES <| Lv Pt <| Nl <| Ps ?_
                            refine CW.cond rfl (fun h83 => ?_) (fun h83 => ?_)
                            · replace h83 := bT h83
                              refine Sq <| Rg <| Lv Av <| Nl <| Ps <| Rt <| Br <| Tr <| Tr <| Br <| Br <| Tr <| Tr <| Br <| Tr <| Rt1 ?_
                              intro w' hw; exact ⟨by rw [show ∀ g, shapeB (Cal.mk ck key val to g L.length gc) L = false from fun g => by unfold shapeB; rw [gsh_no (y := y) (r := L.drop (k + 1)) (hk2.trans (by rw [drop_at hx1])) (by unfold subB; simp only [Bool.and_eq_false_iff]; right; rw [List.all_eq_false]; exact ⟨z, by rw [List.mem_iff_getElem?]; exact ⟨j, by rw [List.getElem?_take_of_lt hj9]; exact hx2⟩, by unfold clashB; simp_all⟩)]; have h7 : ck = 7 := h27; subst h7; simp], hw.below⟩
                            · replace h83 := bF h83
                              refine Sk <| Bn <| Ps <| Rg <| Lv Ar <| Lv Mv <| Nl ?_
                              refine PQ.round (j + 1) ⟨by omega, fun z9 hz9 => by
                                rw [List.take_add_one, hx2] at hz9
                                rcases List.mem_append.1 hz9 with h9 | h9
                                · exact hj2 z9 h9
                                · obtain rfl : z9 = z := by simpa using h9
                                  unfold clashB; simp_all⟩ (by omega) (by repeat (first | exact trivial | refine ⟨rfl, ?_⟩)) (by repeat (first | exact .nil | apply Pick.cons | exact .here | apply Ext.there))
                          · replace h77 := bF h77
                            refine Lp <| Lp <| Lp <| Lp <| Lp <| Lv Pf <| Nl <| Ps <| Cf <| Sk <| Bn <| Ps <| Rg <| Lv Ar <| Lv Mv <| Nl ?_
                            refine PQ.round (j + 1) ⟨by omega, fun z9 hz9 => by
                              rw [List.take_add_one, hx2] at hz9
                              rcases List.mem_append.1 hz9 with h9 | h9
                              · exact hj2 z9 h9
                              · obtain rfl : z9 = z := by simpa using h9
                                unfold clashB; simp_all⟩ (by omega) (by repeat (first | exact trivial | refine ⟨rfl, ?_⟩)) (by repeat (first | exact .nil | apply Pick.cons | exact .here | apply Ext.there))
                        · replace h72 := bF h72
                          refine Lp <| Lp <| Lp <| Lv Pf <| Lv Mv <| Lp <| Lp <| Lp <| Lp <| Lp <| Lv Pf <| Nl <| Ps <| Cf <| Sk <| Bn <| Ps <| Rg <| Lv Ar <| Lv Mv <| Nl ?_
                          refine PQ.round (j + 1) ⟨by omega, fun z9 hz9 => by
                            rw [List.take_add_one, hx2] at hz9
                            rcases List.mem_append.1 hz9 with h9 | h9
                            · exact hj2 z9 h9
                            · obtain rfl : z9 = z := by simpa using h9
                              unfold clashB; simp_all⟩ (by omega) (by repeat (first | exact trivial | refine ⟨rfl, ?_⟩)) (by repeat (first | exact .nil | apply Pick.cons | exact .here | apply Ext.there))
                      · replace h66 := bF h66
                        have hj9 : k ≤ j := by omega
                        refine Xt <| Te <| Te <| Bh <| Bn <| Ps <| Rg <| Lv Ar <| Lv Mv <| Nl ?_
                        refine PQ.round (k + 1) ⟨by omega, by
                          rw [hk2, drop_at hx1, gshB, List.take_add_one, hx1]
                          have h9 : subB (L.take k) y = true := by
                            unfold subB noKey
                            simp only [Bool.and_eq_true, List.all_eq_true]
                            refine ⟨by simp_all, fun z hz => by rw [hj2 z (by rw [show j = k by omega]; exact hz)]; rfl⟩
                          rw [h9]; rfl⟩ (by omega) (by repeat (first | exact trivial | refine ⟨rfl, ?_⟩)) (by repeat (first | exact .nil | apply Pick.cons | exact .here | apply Ext.there))
                · replace h42 := bF h42
                  have hk9 : L.length ≤ k := by omega
                  refine Xt <| Te <| Te <| Bh <| Ps <| Sq <| Rg <| Lv Av <| Nl <| Ps <| Rt <| Rt1 ?_
                  intro w' hw; exact ⟨by rw [show ∀ g, shapeB (Cal.mk ck key val to g L.length gc) L = true from fun g => by unfold shapeB; rw [hk2, show L.drop k = [] from List.drop_eq_nil_iff.2 (by omega)]; unfold noKey; simp_all [gshB] <;> omega], hw.below⟩
      · replace h19 := bF h19
        refine Lp <| Lp <| Lp <| Lv Pf <| Lv Pf <| Nl <| Ps <| Cf <| Sk <| Ps <| Sq <| Sq <| Rg <| Lv (Fa 0 3) <| Lv Ld <| Lv Cm <| Nl <| Ps ?_
        refine CW.cond rfl (fun h27 => ?_) (fun h27 => ?_)
        · replace h27 := bT h27
          have h27 : ck ≠ 7 := h27
          refine Sq <| Rg <| Lv Av <| Nl <| Ps <| Rt <| Tr <| Rt1 ?_
          intro w' hw; exact ⟨by rw [show ∀ g, shapeB (Cal.mk ck key val to g L.length gc) L = true from fun g => by unfold shapeB noKey; simp_all], hw.below⟩
        · replace h27 := bF h27
          have h27 : ck = 7 := h27
          refine Sk <| Ps <| Sq <| Sq <| Rg <| Lv (Fa 4 22) <| Lv Ld <| Lv Ln <| Lv Cm <| Lv Mv ?_
          refine LW.split (d := 32) rfl (fun h32 => ?_) (fun h32 => ?_)
          · replace h32 := bT h32
            have h32 : (L.length : Int) < 1 := h32
            refine Lp <| Lp <| Lp <| Lp <| Lv Pt <| Nl <| Ps <| Ct <| Sq <| Rg <| Lv Av <| Nl <| Ps <| Rt <| Tr <| Rt1 ?_
            intro w' hw; exact ⟨by rw [show ∀ g, shapeB (Cal.mk ck key val to g L.length gc) L = false from fun g => by unfold shapeB noKey; simp_all <;> omega], hw.below⟩
          · replace h32 := bF h32
            have h32 : (1 : Int) ≤ L.length := h32
            refine Lv (Fa 4 22) <| Lv Ld <| Lv Ln <| Lv Cm <| Lv Pf <| Nl <| Ps ?_
            refine CW.cond rfl (fun h37 => ?_) (fun h37 => ?_)
            · replace h37 := bT h37
              refine Sq <| Rg <| Lv Av <| Nl <| Ps <| Rt <| Tr <| Rt1 ?_
              intro w' hw; exact ⟨by rw [show ∀ g, shapeB (Cal.mk ck key val to g L.length gc) L = false from fun g => by unfold shapeB noKey; simp_all <;> omega], hw.below⟩
            · replace h37 := bF h37
              refine Sk <| Ps <| Sq <| Sq <| Rg <| Lv (Fa 4 22) <| Lv Ld <| Lv Ln <| Lv Mv <| Nl <| Ps <| Bk <| loopA (γ := Nat) (fun k => [(1, .pointer (some ⟨b1, 0, none⟩)), (39, .slice gp L.length gc), (40, .int .i64 (L.length : Nat)), (41, .int .i64 (k : Nat))]) (fun _ => [[(b1, .cells (calC ⟨ck, key, val, to, gp, L.length, gc⟩).toArray 52 (0, 0))]]) (fun k => k ≤ L.length ∧ gshB [] L = gshB (L.take k) (L.drop k)) (fun k => L.length - k) (0) ⟨Nat.zero_le _, by simp⟩ fun k => ?_
              rintro ⟨hk1, hk2⟩
              refine Sq <| Rg <| Lv Cm <| Nl <| Ps <| Sq ?_
              refine CW.cond rfl (fun h42 => ?_) (fun h42 => ?_)
              · replace h42 := bT h42
                have hk9 : k < L.length := by omega
                obtain ⟨bb1, o1, y, rfl, hb1, hx1, hr1⟩ := V.slAt_at hL rfl (k := k) hk9
                refine Sk <| Ps <| Sq <| Bk <| Sq <| Rg <| Lv Mv <| Lv Ix <| Lv (Val.loadOA rfl Tryz.isAgg52 hb1 (by simp [ids]) (hr1 k y hx1) Tryz.sizeOf52) <| Le AA fun b4 _ => Lv Av <| LeN (StW (cs := calC y) (h1 := by rfl)) fun _ _ => Nl <| Ps <| Sq <| Sq <| Rg <| Lv (Fa 0 3) <| Lv Ld <| Le (CV fun w hw => grouped_c _ w) fun _ _ => Lv Nt <| Lv Mv ?_
                refine LW.split (d := 50) rfl (fun h50 => ?_) (fun h50 => ?_)
                · replace h50 := bT h50
                  refine Lp <| Lp <| Lp <| Lp <| Lp <| Lp <| Lp <| Lp <| Lv Pt <| Nl <| Ps <| Ct <| Sq <| Rg <| Lv Av <| Nl <| Ps <| Rt <| Tr <| Br <| Tr <| Tr <| Br <| Tr <| Rt1 ?_
                  intro w' hw; exact ⟨by rw [show ∀ g, shapeB (Cal.mk ck key val to g L.length gc) L = false from fun g => by unfold shapeB; rw [gsh_no (y := y) (r := L.drop (k + 1)) (hk2.trans (by rw [drop_at hx1])) (by unfold subB noKey; simp_all)]; have h7 : ck = 7 := h27; subst h7; simp], hw.below⟩
                · replace h50 := bF h50
                  refine Lv (Fa 0 3) <| Lv Ld <| Le (CV fun w hw => keyed_c _ w) fun _ _ => Lv Mv ?_
                  refine LW.split (d := 54) rfl (fun h54 => ?_) (fun h54 => ?_)
                  · replace h54 := bT h54
                    refine Lv (Fa 1 9) <| Lv Ld <| Lv ES <| Lv Pt <| Lv Pf <| Nl <| Ps ?_
                    refine CW.cond rfl (fun h59 => ?_) (fun h59 => ?_)
                    · replace h59 := bT h59
                      refine Sq <| Rg <| Lv Av <| Nl <| Ps <| Rt <| Tr <| Br <| Tr <| Tr <| Br <| Tr <| Rt1 ?_
                      intro w' hw; exact ⟨by rw [show ∀ g, shapeB (Cal.mk ck key val to g L.length gc) L = false from fun g => by unfold shapeB; rw [gsh_no (y := y) (r := L.drop (k + 1)) (hk2.trans (by rw [drop_at hx1])) (by unfold subB noKey; simp_all)]; have h7 : ck = 7 := h27; subst h7; simp], hw.below⟩
                    · replace h59 := bF h59
                      refine Sk <| Ps <| Sq <| Rg <| Lv (Fa 4 22) <| Lv Ld <| LW.re 61 (.slice (some ⟨bb1, o1, none⟩) L.length gc) rfl (by rfl) <| Lv Mv <| Lv (Val.slice (sz := 5) 0 k gc rfl Tryz.underlying22 Tryz.sizeOf52 rfl ⟨_, rfl⟩ rfl (fun _ => rfl) (by omega) (by omega) (by omega)) <| LW.re 63 (.slice (some ⟨bb1, o1, none⟩) k gc) rfl (by simp) <| Lv Ln <| Lv Mv <| Nl <| Ps <| Bk <| loopA (γ := Nat) (fun j => [(1, .pointer (some ⟨b1, 0, none⟩)), (3, .int .i64 (k : Nat)), (4, .pointer (some ⟨b4, 0, none⟩)), (39, .slice (some ⟨bb1, o1, none⟩) L.length gc), (40, .int .i64 (L.length : Nat)), (41, .int .i64 (k : Nat)), (63, .slice (some ⟨bb1, o1, none⟩) k gc), (64, .int .i64 (k : Nat)), (65, .int .i64 (j : Nat))]) (fun _ => [[(b1, .cells (calC ⟨ck, key, val, to, (some ⟨bb1, o1, none⟩), L.length, gc⟩).toArray 52 (0, 0))], [(b4, .cells (calC y).toArray 52 (0, 0))]]) (fun j => j ≤ k ∧ ∀ z ∈ L.take j, clashB y z = false) (fun j => k - j) (0) ⟨Nat.zero_le _, by simp⟩ fun j => ?_
                      rintro ⟨hj1, hj2⟩
                      refine Sq <| Rg <| Lv Cm <| Nl <| Ps <| Sq ?_
                      refine CW.cond rfl (fun h66 => ?_) (fun h66 => ?_)
                      · replace h66 := bT h66
                        have hj9 : j < k := by omega
                        obtain ⟨z, hx2⟩ : ∃ z, L[j]? = some z := ⟨L[j]'(by omega), by simp⟩
                        refine Sk <| Ps <| Sq <| Bk <| Sq <| Rg <| Lv Ix <| Lv (Val.loadOA rfl Tryz.isAgg52 hb1 (by simp [ids]) (hr1 j z hx2) Tryz.sizeOf52) <| Le AA fun b6 _ => LeN (StW (cs := calC z) (h1 := by rfl)) fun _ _ => Nl <| Ps <| Sq <| Rg <| Lv (Fa 0 3) <| Lv Ld <| Le (CV fun w hw => keyed_c _ w) fun _ _ => Lv Mv ?_
                        refine LW.split (d := 72) rfl (fun h72 => ?_) (fun h72 => ?_)
                        · replace h72 := bT h72
                          refine Lv (Fa 0 3) <| Lv Ld <| Le (CV fun w hw => keyed_c _ w) fun _ _ => Lv Pt <| Lv Mv ?_
                          refine LW.split (d := 77) rfl (fun h77 => ?_) (fun h77 => ?_)
                          · replace h77 := bT h77
                            refine Lv (Fa 1 9) <| Lv Ld <| Lv (Fa 1 9) <| Lv Ld <| Lv ES <| Lv Pt <| Nl <| Ps ?_
                            refine CW.cond rfl (fun h83 => ?_) (fun h83 => ?_)
                            · replace h83 := bT h83
                              refine Sq <| Rg <| Lv Av <| Nl <| Ps <| Rt <| Br <| Tr <| Tr <| Br <| Br <| Tr <| Tr <| Br <| Tr <| Rt1 ?_
                              intro w' hw; exact ⟨by rw [show ∀ g, shapeB (Cal.mk ck key val to g L.length gc) L = false from fun g => by unfold shapeB; rw [gsh_no (y := y) (r := L.drop (k + 1)) (hk2.trans (by rw [drop_at hx1])) (by unfold subB; simp only [Bool.and_eq_false_iff]; right; rw [List.all_eq_false]; exact ⟨z, by rw [List.mem_iff_getElem?]; exact ⟨j, by rw [List.getElem?_take_of_lt hj9]; exact hx2⟩, by unfold clashB; simp_all⟩)]; have h7 : ck = 7 := h27; subst h7; simp], hw.below⟩
                            · replace h83 := bF h83
                              refine Sk <| Bn <| Ps <| Rg <| Lv Ar <| Lv Mv <| Nl ?_
                              refine PQ.round (j + 1) ⟨by omega, fun z9 hz9 => by
                                rw [List.take_add_one, hx2] at hz9
                                rcases List.mem_append.1 hz9 with h9 | h9
                                · exact hj2 z9 h9
                                · obtain rfl : z9 = z := by simpa using h9
                                  unfold clashB; simp_all⟩ (by omega) (by repeat (first | exact trivial | refine ⟨rfl, ?_⟩)) (by repeat (first | exact .nil | apply Pick.cons | exact .here | apply Ext.there))
                          · replace h77 := bF h77
                            refine Lp <| Lp <| Lp <| Lp <| Lp <| Lv Pf <| Nl <| Ps <| Cf <| Sk <| Bn <| Ps <| Rg <| Lv Ar <| Lv Mv <| Nl ?_
                            refine PQ.round (j + 1) ⟨by omega, fun z9 hz9 => by
                              rw [List.take_add_one, hx2] at hz9
                              rcases List.mem_append.1 hz9 with h9 | h9
                              · exact hj2 z9 h9
                              · obtain rfl : z9 = z := by simpa using h9
                                unfold clashB; simp_all⟩ (by omega) (by repeat (first | exact trivial | refine ⟨rfl, ?_⟩)) (by repeat (first | exact .nil | apply Pick.cons | exact .here | apply Ext.there))
                        · replace h72 := bF h72
                          refine Lp <| Lp <| Lp <| Lv Pf <| Lv Mv <| Lp <| Lp <| Lp <| Lp <| Lp <| Lv Pf <| Nl <| Ps <| Cf <| Sk <| Bn <| Ps <| Rg <| Lv Ar <| Lv Mv <| Nl ?_
                          refine PQ.round (j + 1) ⟨by omega, fun z9 hz9 => by
                            rw [List.take_add_one, hx2] at hz9
                            rcases List.mem_append.1 hz9 with h9 | h9
                            · exact hj2 z9 h9
                            · obtain rfl : z9 = z := by simpa using h9
                              unfold clashB; simp_all⟩ (by omega) (by repeat (first | exact trivial | refine ⟨rfl, ?_⟩)) (by repeat (first | exact .nil | apply Pick.cons | exact .here | apply Ext.there))
                      · replace h66 := bF h66
                        have hj9 : k ≤ j := by omega
                        refine Xt <| Te <| Te <| Bh <| Bn <| Ps <| Rg <| Lv Ar <| Lv Mv <| Nl ?_
                        refine PQ.round (k + 1) ⟨by omega, by
                          rw [hk2, drop_at hx1, gshB, List.take_add_one, hx1]
                          have h9 : subB (L.take k) y = true := by
                            unfold subB noKey
                            simp only [Bool.and_eq_true, List.all_eq_true]
                            refine ⟨by simp_all, fun z hz => by rw [hj2 z (by rw [show j = k by omega]; exact hz)]; rfl⟩
                          rw [h9]; rfl⟩ (by omega) (by repeat (first | exact trivial | refine ⟨rfl, ?_⟩)) (by repeat (first | exact .nil | apply Pick.cons | exact .here | apply Ext.there))
                  · replace h54 := bF h54
                    refine Lp <| Lp <| Lp <| Lv Pf <| Lv Pf <| Nl <| Ps <| Cf <| Sk <| Ps <| Sq <| Rg <| Lv (Fa 4 22) <| Lv Ld <| LW.re 61 (.slice (some ⟨bb1, o1, none⟩) L.length gc) rfl (by rfl) <| Lv Mv <| Lv (Val.slice (sz := 5) 0 k gc rfl Tryz.underlying22 Tryz.sizeOf52 rfl ⟨_, rfl⟩ rfl (fun _ => rfl) (by omega) (by omega) (by omega)) <| LW.re 63 (.slice (some ⟨bb1, o1, none⟩) k gc) rfl (by simp) <| Lv Ln <| Lv Mv <| Nl <| Ps <| Bk <| loopA (γ := Nat) (fun j => [(1, .pointer (some ⟨b1, 0, none⟩)), (3, .int .i64 (k : Nat)), (4, .pointer (some ⟨b4, 0, none⟩)), (39, .slice (some ⟨bb1, o1, none⟩) L.length gc), (40, .int .i64 (L.length : Nat)), (41, .int .i64 (k : Nat)), (63, .slice (some ⟨bb1, o1, none⟩) k gc), (64, .int .i64 (k : Nat)), (65, .int .i64 (j : Nat))]) (fun _ => [[(b1, .cells (calC ⟨ck, key, val, to, (some ⟨bb1, o1, none⟩), L.length, gc⟩).toArray 52 (0, 0))], [(b4, .cells (calC y).toArray 52 (0, 0))]]) (fun j => j ≤ k ∧ ∀ z ∈ L.take j, clashB y z = false) (fun j => k - j) (0) ⟨Nat.zero_le _, by simp⟩ fun j => ?_
                    rintro ⟨hj1, hj2⟩
                    refine Sq <| Rg <| Lv Cm <| Nl <| Ps <| Sq ?_
                    refine CW.cond rfl (fun h66 => ?_) (fun h66 => ?_)
                    · replace h66 := bT h66
                      have hj9 : j < k := by omega
                      obtain ⟨z, hx2⟩ : ∃ z, L[j]? = some z := ⟨L[j]'(by omega), by simp⟩
                      refine Sk <| Ps <| Sq <| Bk <| Sq <| Rg <| Lv Ix <| Lv (Val.loadOA rfl Tryz.isAgg52 hb1 (by simp [ids]) (hr1 j z hx2) Tryz.sizeOf52) <| Le AA fun b6 _ => LeN (StW (cs := calC z) (h1 := by rfl)) fun _ _ => Nl <| Ps <| Sq <| Rg <| Lv (Fa 0 3) <| Lv Ld <| Le (CV fun w hw => keyed_c _ w) fun _ _ => Lv Mv ?_
                      refine LW.split (d := 72) rfl (fun h72 => ?_) (fun h72 => ?_)
                      · replace h72 := bT h72
                        refine Lv (Fa 0 3) <| Lv Ld <| Le (CV fun w hw => keyed_c _ w) fun _ _ => Lv Pt <| Lv Mv ?_
                        refine LW.split (d := 77) rfl (fun h77 => ?_) (fun h77 => ?_)
                        · replace h77 := bT h77
                          refine Lv (Fa 1 9) <| Lv Ld <| Lv (Fa 1 9) <| Lv Ld <| Lv ES <| Lv Pt <| Nl <| Ps ?_
                          refine CW.cond rfl (fun h83 => ?_) (fun h83 => ?_)
                          · replace h83 := bT h83
                            refine Sq <| Rg <| Lv Av <| Nl <| Ps <| Rt <| Br <| Tr <| Tr <| Br <| Br <| Tr <| Tr <| Br <| Tr <| Rt1 ?_
                            intro w' hw; exact ⟨by rw [show ∀ g, shapeB (Cal.mk ck key val to g L.length gc) L = false from fun g => by unfold shapeB; rw [gsh_no (y := y) (r := L.drop (k + 1)) (hk2.trans (by rw [drop_at hx1])) (by unfold subB; simp only [Bool.and_eq_false_iff]; right; rw [List.all_eq_false]; exact ⟨z, by rw [List.mem_iff_getElem?]; exact ⟨j, by rw [List.getElem?_take_of_lt hj9]; exact hx2⟩, by unfold clashB; simp_all⟩)]; have h7 : ck = 7 := h27; subst h7; simp], hw.below⟩
                          · replace h83 := bF h83
                            refine Sk <| Bn <| Ps <| Rg <| Lv Ar <| Lv Mv <| Nl ?_
                            refine PQ.round (j + 1) ⟨by omega, fun z9 hz9 => by
                              rw [List.take_add_one, hx2] at hz9
                              rcases List.mem_append.1 hz9 with h9 | h9
                              · exact hj2 z9 h9
                              · obtain rfl : z9 = z := by simpa using h9
                                unfold clashB; simp_all⟩ (by omega) (by repeat (first | exact trivial | refine ⟨rfl, ?_⟩)) (by repeat (first | exact .nil | apply Pick.cons | exact .here | apply Ext.there))
                        · replace h77 := bF h77
                          refine Lp <| Lp <| Lp <| Lp <| Lp <| Lv Pf <| Nl <| Ps <| Cf <| Sk <| Bn <| Ps <| Rg <| Lv Ar <| Lv Mv <| Nl ?_
                          refine PQ.round (j + 1) ⟨by omega, fun z9 hz9 => by
                            rw [List.take_add_one, hx2] at hz9
                            rcases List.mem_append.1 hz9 with h9 | h9
                            · exact hj2 z9 h9
                            · obtain rfl : z9 = z := by simpa using h9
                              unfold clashB; simp_all⟩ (by omega) (by repeat (first | exact trivial | refine ⟨rfl, ?_⟩)) (by repeat (first | exact .nil | apply Pick.cons | exact .here | apply Ext.there))
                      · replace h72 := bF h72
                        refine Lp <| Lp <| Lp <| Lv Pf <| Lv Mv <| Lp <| Lp <| Lp <| Lp <| Lp <| Lv Pf <| Nl <| Ps <| Cf <| Sk <| Bn <| Ps <| Rg <| Lv Ar <| Lv Mv <| Nl ?_
                        refine PQ.round (j + 1) ⟨by omega, fun z9 hz9 => by
                          rw [List.take_add_one, hx2] at hz9
                          rcases List.mem_append.1 hz9 with h9 | h9
                          · exact hj2 z9 h9
                          · obtain rfl : z9 = z := by simpa using h9
                            unfold clashB; simp_all⟩ (by omega) (by repeat (first | exact trivial | refine ⟨rfl, ?_⟩)) (by repeat (first | exact .nil | apply Pick.cons | exact .here | apply Ext.there))
                    · replace h66 := bF h66
                      have hj9 : k ≤ j := by omega
                      refine Xt <| Te <| Te <| Bh <| Bn <| Ps <| Rg <| Lv Ar <| Lv Mv <| Nl ?_
                      refine PQ.round (k + 1) ⟨by omega, by
                        rw [hk2, drop_at hx1, gshB, List.take_add_one, hx1]
                        have h9 : subB (L.take k) y = true := by
                          unfold subB noKey
                          simp only [Bool.and_eq_true, List.all_eq_true]
                          refine ⟨by simp_all, fun z hz => by rw [hj2 z (by rw [show j = k by omega]; exact hz)]; rfl⟩
                        rw [h9]; rfl⟩ (by omega) (by repeat (first | exact trivial | refine ⟨rfl, ?_⟩)) (by repeat (first | exact .nil | apply Pick.cons | exact .here | apply Ext.there))
              · replace h42 := bF h42
                have hk9 : L.length ≤ k := by omega
                refine Xt <| Te <| Te <| Bh <| Ps <| Sq <| Rg <| Lv Av <| Nl <| Ps <| Rt <| Rt1 ?_
                intro w' hw; exact ⟨by rw [show ∀ g, shapeB (Cal.mk ck key val to g L.length gc) L = true from fun g => by unfold shapeB; rw [hk2, show L.drop k = [] from List.drop_eq_nil_iff.2 (by omega)]; unfold noKey; simp_all [gshB] <;> omega], hw.below⟩
theorem long1_c (x : Cal) (hk : x.ck ≠ 7) (w : World) : Calls Tryz.prog 69 [.agg (calC x).toArray].toArray w fun e w' => e = .returned (.bool (long1 x)) ∧ Below w.heap.size w w' := by
  obtain ⟨ck, key, val, to, gp, gn, gc⟩ := x
  simp only at hk
  refine V.calls [] Tryz.func69 rfl Tryz.ntmps69 (Nat.le_of_ble_eq_true rfl) (V.sat_nil _) <| Sq <| Rg <| Le XA fun b1 _ => Lv Av <| Nl <| Ps <| Sq <| Sq <| Rg <| Lv (Fa 0 3) <| Lv Ld <| Nl <| Ps <| Bk <| Sq <| Sq <| Rg <| Lv Cm <| Lv Av ?_
  refine LW.split (d := 5) rfl (fun h5 => ?_) (fun h5 => ?_)
  · replace h5 := bT h5
    refine Nl <| Ps <| Ct <| Sk <| Ps <| Ct <| Sq <| Rg <| Lv (Fa 1 9) <| Lv Ld <| Lv LnS <| Lv Cm <| Lv Av <| Nl <| Ps <| Rt <| Br <| Tr <| Rt1 ?_
    intro w' hw; exact ⟨by unfold long1; first | (simp_all; done) | (simp_all; omega) | (congr 2; rw [Bool.eq_iff_iff]; simp_all; omega), hw.below⟩
  · replace h5 := bF h5
    refine Nl <| Ps <| Cf <| Rg <| Lv Cm <| Lv Av ?_
    refine LW.split (d := 5) rfl (fun h5 => ?_) (fun h5 => ?_)
    · replace h5 := bT h5
      refine Nl <| Ps <| Ct <| Sq <| Rg <| Lv (Fa 1 9) <| Lv Ld <| Lv LnS <| Lv Cm <| Lv Av <| Nl <| Ps <| Rt <| Br <| Tr <| Rt1 ?_
      intro w' hw; exact ⟨by unfold long1; first | (simp_all; done) | (simp_all; omega) | (congr 2; rw [Bool.eq_iff_iff]; simp_all; omega), hw.below⟩
    · replace h5 := bF h5
      refine Nl <| Ps <| Cf <| Sq <| Rg <| Lv Cm <| Lv Av <| Nl <| Ps ?_
      refine CW.cond rfl (fun h12 => ?_) (fun h12 => ?_)
      · replace h12 := bT h12
        have h12 : ck = 2 := h12
        refine Sq <| Rg <| Lv (Fa 1 9) <| Lv Ld <| Lv LnS <| Lv Cm <| Lv Mv ?_
        refine LW.split (d := 18) rfl (fun h18 => ?_) (fun h18 => ?_)
        · replace h18 := bT h18
          refine Lp <| Lp <| Lp <| Lp <| Lv Pt <| Lv Av <| Nl <| Ps <| Rt <| Br <| Tr <| Rt1 ?_
          intro w' hw; exact ⟨by unfold long1; first | (simp_all; done) | (simp_all; omega) | (congr 2; rw [Bool.eq_iff_iff]; simp_all; omega), hw.below⟩
        · replace h18 := bF h18
          refine Lv (Fa 2 9) <| Lv Ld <| Lv LnS <| Lv Cm <| Lv Pf <| Lv Av <| Nl <| Ps <| Rt <| Br <| Tr <| Rt1 ?_
          intro w' hw; exact ⟨by unfold long1; first | (simp_all; done) | (simp_all; omega) | (congr 2; rw [Bool.eq_iff_iff]; simp_all; omega), hw.below⟩
      · replace h12 := bF h12
        have h12 : ck ≠ 2 := h12
        refine Sq <| Rg <| Lv Cm <| Lv Av <| Nl <| Ps ?_
        refine CW.cond rfl (fun h24 => ?_) (fun h24 => ?_)
        · replace h24 := bT h24
          have h24 : ck = 4 := h24
          refine Sq <| Rg <| Lv (Fa 2 9) <| Lv Ld <| Lv LnS <| Lv Cm <| Lv Av <| Nl <| Ps <| Rt <| Br <| Tr <| Rt1 ?_
          intro w' hw; exact ⟨by unfold long1; first | (simp_all; done) | (simp_all; omega) | (congr 2; rw [Bool.eq_iff_iff]; simp_all; omega), hw.below⟩
        · replace h24 := bF h24
          have h24 : ck ≠ 4 := h24
          refine Sq <| Rg <| Lv Cm <| Lv Av <| Nl <| Ps ?_
          refine CW.cond rfl (fun h30 => ?_) (fun h30 => ?_)
          · replace h30 := bT h30
            have h30 : ck = 6 := h30
            refine Sq <| Rg <| Lv (Fa 1 9) <| Lv Ld <| Lv LnS <| Lv Cm <| Lv Mv ?_
            refine LW.split (d := 36) rfl (fun h36 => ?_) (fun h36 => ?_)
            · replace h36 := bT h36
              refine Lp <| Lp <| Lp <| Lp <| Lv Pt <| Lv Av <| Nl <| Ps <| Rt <| Br <| Tr <| Rt1 ?_
              intro w' hw; exact ⟨by unfold long1; first | (simp_all; done) | (simp_all; omega) | (congr 2; rw [Bool.eq_iff_iff]; simp_all; omega), hw.below⟩
            · replace h36 := bF h36
              refine Lv (Fa 3 9) <| Lv Ld <| Lv LnS <| Lv Cm <| Lv Pf <| Lv Av <| Nl <| Ps <| Rt <| Br <| Tr <| Rt1 ?_
              intro w' hw; exact ⟨by unfold long1; first | (simp_all; done) | (simp_all; omega) | (congr 2; rw [Bool.eq_iff_iff]; simp_all; omega), hw.below⟩
          · replace h30 := bF h30
            have h30 : ck ≠ 6 := h30
            refine Sq <| Rg <| Lv Cm <| Lv Av <| Nl <| Ps ?_
            refine CW.cond rfl (fun h42 => ?_) (fun h42 => ?_)
            · exact absurd (bT h42) hk
            · replace h42 := bF h42
              refine Sk <| Bn <| Ps <| Sq <| Rg <| Lv Av <| Nl <| Ps <| Rt <| Rt1 ?_
              intro w' hw; exact ⟨by unfold long1; first | (simp_all; done) | (simp_all; omega) | (congr 2; rw [Bool.eq_iff_iff]; simp_all; omega), hw.below⟩
theorem anyP {L : List Cal} {k : Nat} {y : Cal} (hx : L[k]? = some y) (h : long1 y = true) : ((0 : Int) ≤ (k : Nat)) = (L.any long1 = true) := by
  simp only [eq_iff_iff]
  exact ⟨fun _ => List.any_eq_true.2 ⟨y, List.mem_of_getElem? hx, h⟩, fun _ => by omega⟩
theorem anyN {L : List Cal} (h : ∀ z ∈ L, long1 z = false) : ((0 : Int) ≤ -1) = (L.any long1 = true) := by
  simp only [eq_iff_iff]
  refine ⟨fun h => by omega, fun h1 => ?_⟩
  obtain ⟨z, hz, hzl⟩ := List.any_eq_true.1 h1
  rw [h z hz] at hzl; cases hzl
theorem anyIx_c (L : List Cal) (hL7 : ∀ y ∈ L, y.ck ≠ 7) (p : Option Addr) (c : Nat) (hl : L.length ≤ 1000) (w : World) (h : V.slAt w p 5 calC L) : Calls Tryz.prog 130 [.slice p L.length c, .func (.func 69) #[] #[]].toArray w fun e w' => ∃ i : Int, ((0 ≤ i) = (L.any long1 = true)) ∧ e = .returned (.int .i64 i) ∧ Below w.heap.size w w' := by
  refine V.calls [] Tryz.func130 rfl Tryz.ntmps130 (Nat.le_of_ble_eq_true rfl) (V.sat_nil _) <| Sq <| Rg <| Lv Av <| Nl <| Ps <| Sq <| Sq <| Rg <| Lv Mv <| Lv Ln <| Lv Mv <| Nl <| Ps <| Bk <| loopA (γ := Nat) (fun k => [(0, .slice p L.length c), (1, .func (.func 69) #[] #[]), (7, .int .i64 (L.length : Nat)), (8, .int .i64 (k : Nat))]) (fun _ => []) (fun k => k ≤ L.length ∧ ∀ z ∈ L.take k, long1 z = false) (fun k => L.length - k) (0) ⟨Nat.zero_le _, by simp⟩ fun k => ?_
  rintro ⟨hk1, hk2⟩
  refine Sq <| Rg <| Lv Cm <| Nl <| Ps <| Sq ?_
  refine CW.cond rfl (fun h9 => ?_) (fun h9 => ?_)
  · replace h9 := bT h9
    have hk9 : k < L.length := by omega
    obtain ⟨bb1, o1, y, rfl, hb1, hx1, hr1⟩ := V.slAt_at h rfl (k := k) hk9
    refine Sk <| Ps <| Sq <| Bk <| Sq <| Rg <| Lv Mv <| Lv Av <| Nl <| Ps <| Sq <| Rg <| Lv Mv <| Lv Mv <| Lv Mv <| Lv Ix <| Lv (Val.loadOA rfl Tryz.isAgg52 hb1 (by simp [ids]) (hr1 k y hx1) Tryz.sizeOf52) <| Le (Eff.callFV (f := 69) (caps := []) rfl rfl Tryz.call69 (fun w hw => long1_c y (hL7 y (List.mem_of_getElem? hx1)) w)) fun _ _ => Nl <| Ps ?_
    refine CW.cond rfl (fun h16 => ?_) (fun h16 => ?_)
    · replace h16 := bT h16
      have h16 : long1 y = true := h16
      refine Sq <| Rg <| Lv Mv <| Lv Av <| Nl <| Ps <| Rt <| Br <| Tr <| Tr <| Br <| Tr <| Rt1 ?_
      intro w' hw; exact ⟨(k : Nat), anyP hx1 h16, rfl, hw.below⟩
    · replace h16 := bF h16
      have h16 : long1 y = false := h16
      refine Sk <| Bn <| Ps <| Rg <| Lv Ar <| Lv Mv <| Nl ?_
      refine PQ.round (k + 1) ⟨by omega, fun z hz => by
        rw [List.take_add_one, hx1] at hz
        rcases List.mem_append.1 hz with h9 | h9
        · exact hk2 z h9
        · obtain rfl : z = y := by simpa using h9
          exact h16⟩ (by omega) (by repeat (first | exact trivial | refine ⟨rfl, ?_⟩)) (by repeat (first | exact .nil | apply Pick.cons | exact .here | apply Ext.there))
  · replace h9 := bF h9
    have hk9 : L.length ≤ k := by omega
    refine Xt <| Te <| Te <| Bh <| Ps <| Sq <| Rg <| Lv Av <| Nl <| Ps <| Rt <| Rt1 ?_
    intro w' hw; exact ⟨-1, anyN (fun z hz => hk2 z (by rw [List.take_of_length_le hk9]; exact hz)), rfl, hw.below⟩
theorem anyLong_c (L : List Cal) (hL7 : ∀ y ∈ L, y.ck ≠ 7) (p : Option Addr) (c : Nat) (hl : L.length ≤ 1000) (w : World) (h : V.slAt w p 5 calC L) : Calls Tryz.prog 101 [.slice p L.length c, .func (.func 69) #[] #[]].toArray w fun e w' => e = .returned (.bool (L.any long1)) ∧ Below w.heap.size w w' := by
  refine V.calls [] Tryz.func101 rfl Tryz.ntmps101 (Nat.le_of_ble_eq_true rfl) (V.sat_nil _) <| Sq <| Rg <| Lv Av <| Nl <| Ps <| Sq <| Rg <| Lv Mv <| Lv Mv <| Le (CR fun w hw => anyIx_c L hL7 p c hl w (hw.slAt h (by simp [ids]))) fun i hi => Lv Cm <| Lv Av <| Nl <| Ps <| Rt <| Rt1 ?_
  intro w' hw; exact ⟨by congr 2; rw [Bool.eq_iff_iff, decide_eq_true_eq, hi], hw.below⟩
theorem longG_c (x : Cal) (L : List Cal) (hk : x.ck = 7) (hL7 : ∀ y ∈ L, y.ck ≠ 7) (hl : L.length ≤ 1000) (w : World) (hR : CalR w x L) : Calls Tryz.prog 69 [.agg (calC x).toArray].toArray w fun e w' => e = .returned (.bool (L.any long1)) ∧ Below w.heap.size w w' := by
  obtain ⟨ck, key, val, to, gp, gn, gc⟩ := x
  obtain ⟨⟨hn, hc⟩, hL⟩ := hR
  simp only at hn hc hL hk
  subst hn; subst hk
  refine V.calls [] Tryz.func69 rfl Tryz.ntmps69 (Nat.le_of_ble_eq_true rfl) (V.sat_nil _) <| Sq <| Rg <| Le XA fun b1 _ => Lv Av <| Nl <| Ps <| Sq <| Sq <| Rg <| Lv (Fa 0 3) <| Lv Ld <| Nl <| Ps <| Bk <| Sq <| Sq <| Rg <| Lv Cm <| LW.re 6 (.bool false) rfl (by rfl) <| Lv Av <| Nl <| Ps <| Cf <| Rg <| Lv Cm <| LW.re 7 (.bool false) rfl (by rfl) <| Lv Av <| Nl <| Ps <| Cf <| Sq <| Rg <| Lv Cm <| LW.re 13 (.bool false) rfl (by rfl) <| Lv Av <| Nl <| Ps <| Cf <| Sq <| Rg <| Lv Cm <| LW.re 25 (.bool false) rfl (by rfl) <| Lv Av <| Nl <| Ps <| Cf <| Sq <| Rg <| Lv Cm <| LW.re 31 (.bool false) rfl (by rfl) <| Lv Av <| Nl <| Ps <| Cf <| Sq <| Rg <| Lv Cm <| LW.re 43 (.bool true) rfl (by rfl) <| Lv Av <| Nl <| Ps <| Ct <| Sq <| Rg <| Lv (Fa 4 22) <| Lv Ld <| Le (CV fun w hw => anyLong_c L hL7 gp gc hl w (hw.slAt hL (by simp [ids]))) fun _ _ => Lv Av <| Nl <| Ps <| Rt <| Br <| Tr <| Rt1 ?_
  intro w' hw; exact ⟨rfl, hw.below⟩
theorem sub_kind {pre : List Cal} : ∀ {L : List Cal}, gshB pre L = true → ∀ y ∈ L, y.ck ≠ 7
  | [], _, y, hy => by simp at hy
  | z :: r, h, y, hy => by
    simp only [gshB, Bool.and_eq_true] at h
    rcases List.mem_cons.1 hy with rfl | hy
    · have h1 := h.1
      unfold subB grpB at h1
      simp only [Bool.and_eq_true, decide_eq_true_eq] at h1
      omega
    · exact sub_kind h.2 y hy
theorem shape_sub {x : Cal} {L : List Cal} (h : shapeB x L = true) (h7 : x.ck = 7) : gshB [] L = true := by
  unfold shapeB at h
  simp_all
theorem longA_c (x : Cal) (L : List Cal) (hsh : shapeB x L = true) (hl : L.length ≤ 1000) (w : World) (hR : CalR w x L) : Calls Tryz.prog 69 [.agg (calC x).toArray].toArray w fun e w' => e = .returned (.bool (longB x L)) ∧ Below w.heap.size w w' := by
  unfold longB
  by_cases h7 : x.ck = 7
  · rw [if_pos h7]; exact longG_c x L h7 (sub_kind (shape_sub hsh h7)) hl w hR
  · rw [if_neg h7]; exact long1_c x h7 w
theorem good_c (x : Cal) (L : List Cal) (hl : L.length ≤ 1000) (w : World) (hR : CalR w x L) : Calls Tryz.prog 38 [.agg (calC x).toArray].toArray w fun e w' => e = .returned (.int .i64 (goodF x L)) ∧ Below w.heap.size w w' := by
  refine V.calls [] Tryz.func38 rfl Tryz.ntmps38 (Nat.le_of_ble_eq_true rfl) (V.sat_nil _) <| Sq <| Rg <| Le XA fun b1 _ => Lv Av <| Nl <| Ps <| Sq <| Sq <| Rg <| Lv (Lw (l := calC x)) <| Le (CV fun w hw => shape_c x L (by omega) w (hR.hp hw)) fun _ _ => ?_
  refine LW.split (d := 4) rfl (fun h4 => ?_) (fun h4 => ?_)
  · replace h4 := bT h4
    refine Lv Nt <| Nl <| Ps <| Cf <| Sk <| Ps <| Sq <| Sq <| Rg <| Lv (Lw (l := calC x)) <| Le (CV fun w hw => longA_c x L h4 hl w (hR.hp hw)) fun _ _ => Nl <| Ps ?_
    refine CW.cond rfl (fun h7 => ?_) (fun h7 => ?_)
    · replace h7 := bT h7
      refine Sq <| Rg <| Lv Av <| Nl <| Ps <| Rt <| Tr <| Rt1 ?_
      intro w' hw; exact ⟨by unfold goodF; simp_all, hw.below⟩
    · replace h7 := bF h7
      refine Sk <| Ps <| Sq <| Rg <| Lv Av <| Nl <| Ps <| Rt <| Rt1 ?_
      intro w' hw; exact ⟨by unfold goodF; simp_all, hw.below⟩
  · replace h4 := bF h4
    refine Lv Nt <| Nl <| Ps <| Ct <| Sq <| Rg <| Lv Av <| Nl <| Ps <| Rt <| Tr <| Rt1 ?_
    intro w' hw; exact ⟨by unfold goodF; simp_all, hw.below⟩
end I
end Go.Proofs.YtlpbjmbgopfkhaaGreat

/- What each kind of call does. -/
namespace Go.Proofs.YtlpbjmbgopfkhaaGreat
open Go Go.RowKit V
set_option linter.unusedVariables false
set_option maxRecDepth 100000
namespace I
open V (str byC ownV ownG ownS ownOk)
theorem cmp_lt : ∀ a b : List UInt8, Go.Lib.compareBytes a b < 0 ↔ a < b
  | [], [] => by simp [Go.Lib.compareBytes]
  | [], _ :: _ => by simp [Go.Lib.compareBytes]
  | _ :: _, [] => by simp [Go.Lib.compareBytes]
  | a :: x, b :: y => by
    have ih := cmp_lt x y
    unfold Go.Lib.compareBytes
    rw [List.cons_lt_cons_iff]
    by_cases h1 : a < b
    · simp [h1]
    · by_cases h2 : b < a
      · have h3 : a ≠ b := fun e => by subst e; exact UInt8.lt_irrefl a h2
        simp [h1, h2, h3]
      · have h3 : a = b := UInt8.toNat_inj.1 (by rw [UInt8.lt_iff_toNat_lt] at h1 h2; omega)
        subst h3
        simp [h1, ih]
def scB (k to : List UInt8) (p : Pr) : Bool := !decide (p.key < k) && (decide (to = []) || decide (p.key < to))
def scanF (l : List Pr) (k to : List UInt8) : List Pr := l.filter (scB k to)
theorem scan_no {l : List Pr} {j : Nat} {x : Pr} {k to : List UInt8} (hx : l[j]? = some x) (h : scB k to x = false) : scanF (l.take (j + 1)) k to = scanF (l.take j) k to := by unfold scanF; rw [List.take_add_one, hx, List.filter_append]; simp [h]
theorem scan_yes {l : List Pr} {j : Nat} {x : Pr} {k to : List UInt8} (hx : l[j]? = some x) (h : scB k to x = true) : scanF (l.take (j + 1)) k to = scanF (l.take j) k to ++ [x] := by unfold scanF; rw [List.take_add_one, hx, List.filter_append]; simp [h]
def boE (b : Bool) : List Value := [.bool b]
theorem boE_len (b : Bool) : (boE b).length = 1 := rfl
theorem cmpS_c (a b : List UInt8) (w : World) : Calls Tryz.prog 134 [str a, str b].toArray w fun e w' => e = .returned (.int .i64 (Go.Lib.compareBytes a b)) ∧ Below w.heap.size w w' := by
  refine V.calls [] Tryz.func134 rfl Tryz.ntmps134 (Nat.le_of_ble_eq_true rfl) (V.sat_nil _) <| Sq <| Rg <| Lv Av <| Nl <| Ps <| Sq <| Rg <| Lv Mv <| Lv Mv ?_
  refine LW.v rfl rfl (Val.callX (v := .int .i64 (Go.Lib.compareBytes a b)) rfl (fun w1 hw1 => by
      rw [run_callFunc_extern Tryz.func170 (by kernel_rfl) (by kernel_rfl) (by kernel_rfl) (e := Extern.BytealgCompare.compare) (by kernel_rfl)]
      have hr := Go.Lib.run_compareString (P := Tryz.prog) ⟨a.toArray⟩ ⟨b.toArray⟩ w1
      show Result.andThen ((Extern.BytealgCompare.compare #[.string ⟨a.toArray⟩, .string ⟨b.toArray⟩]).run Tryz.prog w1) _ = _
      rw [hr]
      rfl)) ?_
  refine Lv Av <| Nl <| Ps <| Rt <| Rt1 ?_
  intro w' hw; exact ⟨rfl, hw.below⟩
theorem compare_c (a b : List UInt8) (w : World) : Calls Tryz.prog 108 [str a, str b].toArray w fun e w' => e = .returned (.int .i64 (Go.Lib.compareBytes a b)) ∧ Below w.heap.size w w' := by
  refine V.calls [] Tryz.func108 rfl Tryz.ntmps108 (Nat.le_of_ble_eq_true rfl) (V.sat_nil _) <| Sq <| Rg <| Lv Av <| Nl <| Ps <| Sq <| Rg <| Lv Mv <| Lv Mv <| Le (CV fun w hw => cmpS_c a b w) fun _ _ => Lv Av <| Nl <| Ps <| Rt <| Rt1 ?_
  intro w' hw; exact ⟨rfl, hw.below⟩
theorem get_ix {l : List Pr} {k : List UInt8} {x : Pr} (h : l[ixN (isK k) l]? = some x) : getF l k = some x.val := by
  induction l with
  | nil => simp at h
  | cons a r ih =>
    simp only [getF, ixN, isK, decide_eq_true_eq] at h ⊢
    by_cases hk : a.key = k
    · rw [if_pos hk] at h ⊢
      simp at h; subst h; rfl
    · rw [if_neg hk] at h ⊢
      exact ih (by simpa using h)
theorem get_none {l : List Pr} {k : List UInt8} (h : ¬ ixN (isK k) l < l.length) : getF l k = none := by
  have h0 := ixN_get l k
  rw [decide_eq_false h] at h0
  cases hg : getF l k with
  | none => rfl
  | some v => rw [hg] at h0; cases h0
theorem iget_c (l : List Pr) (p : Option Addr) (c : Nat) (qv : Value) (hl : l.length ≤ 1000) (ky : List UInt8) (w : World) (h : V.slAt w p 2 prC l) : Calls Tryz.prog 71 [.agg [.slice p l.length c, qv].toArray, str ky].toArray w fun e w' => e = .returned (.tuple #[str ((getF l ky).getD []), .bool (getF l ky).isSome]) ∧ Below w.heap.size w w' := by
  refine V.calls [] Tryz.func71 rfl Tryz.ntmps71 (Nat.le_of_ble_eq_true rfl) (V.sat_nil _) <| Sq <| Rg <| Le XA fun b2 _ => Lv Av <| Lv Av <| Nl <| Ps <| Sq <| Rg <| Lv (Lw (l := [.slice p l.length c, qv])) <| Lv Mv <| Le (CV fun w hw => place_c l p c qv hl ky w (hw.slAt h (by simp [ids]))) fun _ _ => Lv Av <| Nl <| Ps <| Sq <| Sq <| Rg <| Lv Mv <| Lv Cm <| Nl <| Ps ?_
  refine CW.cond rfl (fun h11 => ?_) (fun h11 => ?_)
  · replace h11 := bT h11
    have hix : ¬ ixN (isK ky) l < l.length := by have h11 : ixZ (isK ky) l < 0 := h11; unfold ixZ at h11; split at h11 <;> omega
    refine Sq <| Rg <| Lv Av <| Lv Av <| Nl <| Ps <| Rt <| Tr <| Rt2 ?_
    intro w' hw; exact ⟨by rw [get_none hix]; rfl, hw.below⟩
  · replace h11 := bF h11
    have hix : ixN (isK ky) l < l.length := by have h11 : (0 : Int) ≤ ixZ (isK ky) l := h11; unfold ixZ at h11; split at h11 <;> omega
    obtain ⟨b1, o1, x, rfl, hb1, hx1, hr1⟩ := V.slAt_at h rfl hix
    refine Sk <| Ps <| Sq <| Rg <| Lv (Fa 0 31) <| Lv Ld <| Lv Mv <| LW.re 14 (.int .i64 ((ixN (isK ky) l : Nat) : Int)) rfl (by congr 1; unfold ixZ; rw [if_pos hix]) <| Lv (Val.indexAddrN rfl rfl Tryz.underlying31 Tryz.sizeOf69 hix) <| Lv (Fa 1 9) <| Lv (Val.loadO rfl Tryz.isAgg9 hb1 (by simp [ids]) (hr1 (ixN (isK ky) l) x hx1 1 _ rfl)) <| Lv Av <| Lv Av <| Nl <| Ps <| Rt <| Rt2 ?_
    intro w' hw; exact ⟨by rw [get_ix hx1]; rfl, hw.below⟩
theorem do1_c (l : List Pr) (y : V.OwnO) (q : List (List UInt8)) (z : V.OwnO) (sb ab : Nat) (x : Cal) (w : World) (hy : ownOk 2 l.length (l.flatMap prC) y) (hz : ownOk 1 q.length (q.flatMap stE) z) (hl : l.length ≤ 1000 ∧ q.length ≤ 1000) (hs : Sat [[(sb, .cells [ownV l.length y, ownV q.length z].toArray 34 (0, 0))], ownG 69 (l.flatMap prC) y, ownG 9 (q.flatMap stE) z, [(ab, .cells (ansC 0 false [] (.slice none 0 0) (.slice none 0 0)).toArray 48 (0, 0))]] w) :
    Calls Tryz.prog 70 [.pointer (some ⟨sb, 0, none⟩), .agg (calC x).toArray, .pointer (some ⟨ab, 0, none⟩)].toArray w fun e w' => ∃ r : Unit, True ∧ e = .returned (.tuple #[]) ∧ Hp ⟨w, V.ids [[(sb, .cells [ownV l.length y, ownV q.length z].toArray 34 (0, 0))], ownG 69 (l.flatMap prC) y, ownG 9 (q.flatMap stE) z, [(ab, .cells (ansC 0 false [] (.slice none 0 0) (.slice none 0 0)).toArray 48 (0, 0))]]⟩ [[(sb, .cells [ownV l.length y, ownV q.length z].toArray 34 (0, 0))], ownG 69 (l.flatMap prC) y, ownG 9 (q.flatMap stE) z, [(ab, .cells (ansC 0 (getF l x.key).isSome ((getF l x.key).getD []) (.slice none 0 0) (.slice none 0 0)).toArray 48 (0, 0))]] w' := by
  obtain ⟨p, c, hp, hsl⟩ := own_sl l y hy
  refine V.calls [[(sb, .cells [ownV l.length y, ownV q.length z].toArray 34 (0, 0))], ownG 69 (l.flatMap prC) y, ownG 9 (q.flatMap stE) z, [(ab, .cells (ansC 0 false [] (.slice none 0 0) (.slice none 0 0)).toArray 48 (0, 0))]] Tryz.func70 rfl Tryz.ntmps70 (Nat.le_of_ble_eq_true rfl) hs <| Sq <| Rg <| Le XA fun b4 _ => Nl <| Ps <| Dr ([[(b4, .cells (calC x).toArray 52 (0, 0))], [(sb, .cells [ownV l.length y, ownV q.length z].toArray 34 (0, 0))]]) <| Rv 0 rfl Mv <| Rv 1 rfl Mv <| Rv 2 rfl Mv <| Rv 3 rfl Nz <| Rv 4 rfl (Lw (l := [ownV l.length y, ownV q.length z])) <| RW.re 11 (.agg [.slice p l.length c, ownV q.length z].toArray) rfl (by rw [hp]) <| Rv 5 rfl (Fa 1 9) <| Rv 6 rfl Ld <| Re 7 rfl (CV fun w hw => iget_c l p c (ownV q.length z) hl.1 x.key w (hsl hw (by repeat (first | exact .nil | apply Pick.cons | exact .here | apply Ext.there)))) fun _ _ => Rv 8 rfl Mv <| Rv 9 rfl Ex <| Rv 10 rfl Ex <| Rv 11 rfl Nz <| Rv 12 rfl (Fa 2 9) <| ReN 13 rfl StS fun _ _ => Rv 14 rfl Nz <| Rv 15 rfl (Fa 1 4) <| ReN 16 rfl StS fun _ _ => Rd <| PQ.end0 rfl ?_
  intro w' hw; exact ⟨(), trivial, rfl, hw.pick (by repeat (first | exact .nil | apply Pick.cons | exact .here | apply Ext.there))⟩
theorem do2_c (l : List Pr) (y : V.OwnO) (q : List (List UInt8)) (z : V.OwnO) (sb ab : Nat) (x : Cal) (w : World) (hy : ownOk 2 l.length (l.flatMap prC) y) (hz : ownOk 1 q.length (q.flatMap stE) z) (hl : l.length ≤ 1000 ∧ q.length ≤ 1000) (hs : Sat [[(sb, .cells [ownV l.length y, ownV q.length z].toArray 34 (0, 0))], ownG 69 (l.flatMap prC) y, ownG 9 (q.flatMap stE) z, [(ab, .cells (ansC 0 false [] (.slice none 0 0) (.slice none 0 0)).toArray 48 (0, 0))]] w) :
    Calls Tryz.prog 72 [.pointer (some ⟨sb, 0, none⟩), .agg (calC x).toArray, .pointer (some ⟨ab, 0, none⟩)].toArray w fun e w' => ∃ r : V.OwnO, ownOk 2 (putF l x.key x.val).length ((putF l x.key x.val).flatMap prC) r ∧ e = .returned (.tuple #[]) ∧ Hp ⟨w, V.ids [[(sb, .cells [ownV l.length y, ownV q.length z].toArray 34 (0, 0))], ownG 69 (l.flatMap prC) y, ownG 9 (q.flatMap stE) z, [(ab, .cells (ansC 0 false [] (.slice none 0 0) (.slice none 0 0)).toArray 48 (0, 0))]]⟩ [[(sb, .cells [ownV (putF l x.key x.val).length r, ownV q.length z].toArray 34 (0, 0))], ownG 69 ((putF l x.key x.val).flatMap prC) r, ownG 9 (q.flatMap stE) z, [(ab, .cells (ansC 0 (getF l x.key).isSome [] (.slice none 0 0) (.slice none 0 0)).toArray 48 (0, 0))]] w' := by
  refine V.calls [[(sb, .cells [ownV l.length y, ownV q.length z].toArray 34 (0, 0))], ownG 69 (l.flatMap prC) y, ownG 9 (q.flatMap stE) z, [(ab, .cells (ansC 0 false [] (.slice none 0 0) (.slice none 0 0)).toArray 48 (0, 0))]] Tryz.func72 rfl Tryz.ntmps72 (Nat.le_of_ble_eq_true rfl) hs <| Sq <| Rg <| Le XA fun b4 _ => Nl <| Ps <| Rg <| Lv Mv <| Lv Mv <| Lv (Fa 1 9) <| Lv Ld <| Lv (Fa 2 9) <| Lv Ld <| Le (CM ([[(sb, .cells [ownV l.length y, ownV q.length z].toArray 34 (0, 0))], ownG 69 (l.flatMap prC) y]) fun w hw hs => set_c l y (ownV q.length z) sb x.key x.val w hy hl.1 (V.ownV_one _ _) hs) fun y2 hy2 => Lv Nz <| Lv (Fa 1 4) <| LeN StS fun _ _ => Nl <| PQ.end0 rfl ?_
  intro w' hw; exact ⟨y2, hy2, rfl, hw.pick (by repeat (first | exact .nil | apply Pick.cons | exact .here | apply Ext.there))⟩
theorem do3_c (l : List Pr) (y : V.OwnO) (q : List (List UInt8)) (z : V.OwnO) (sb ab : Nat) (x : Cal) (w : World) (hy : ownOk 2 l.length (l.flatMap prC) y) (hz : ownOk 1 q.length (q.flatMap stE) z) (hl : l.length ≤ 1000 ∧ q.length ≤ 1000) (hs : Sat [[(sb, .cells [ownV l.length y, ownV q.length z].toArray 34 (0, 0))], ownG 69 (l.flatMap prC) y, ownG 9 (q.flatMap stE) z, [(ab, .cells (ansC 0 false [] (.slice none 0 0) (.slice none 0 0)).toArray 48 (0, 0))]] w) :
    Calls Tryz.prog 74 [.pointer (some ⟨sb, 0, none⟩), .agg (calC x).toArray, .pointer (some ⟨ab, 0, none⟩)].toArray w fun e w' => ∃ r : V.OwnO, ownOk 2 (delF l x.key).length ((delF l x.key).flatMap prC) r ∧ e = .returned (.tuple #[]) ∧ Hp ⟨w, V.ids [[(sb, .cells [ownV l.length y, ownV q.length z].toArray 34 (0, 0))], ownG 69 (l.flatMap prC) y, ownG 9 (q.flatMap stE) z, [(ab, .cells (ansC 0 false [] (.slice none 0 0) (.slice none 0 0)).toArray 48 (0, 0))]]⟩ [[(sb, .cells [ownV (delF l x.key).length r, ownV q.length z].toArray 34 (0, 0))], ownG 69 ((delF l x.key).flatMap prC) r, ownG 9 (q.flatMap stE) z, [(ab, .cells (ansC 0 (decide ((delF l x.key).length < l.length)) [] (.slice none 0 0) (.slice none 0 0)).toArray 48 (0, 0))]] w' := by
  refine V.calls [[(sb, .cells [ownV l.length y, ownV q.length z].toArray 34 (0, 0))], ownG 69 (l.flatMap prC) y, ownG 9 (q.flatMap stE) z, [(ab, .cells (ansC 0 false [] (.slice none 0 0) (.slice none 0 0)).toArray 48 (0, 0))]] Tryz.func74 rfl Tryz.ntmps74 (Nat.le_of_ble_eq_true rfl) hs <| Sq <| Rg <| Le XA fun b4 _ => Nl <| Ps <| Rg <| Lv Mv <| Lv Mv <| Lv (Fa 1 9) <| Lv Ld <| Le (CM ([[(sb, .cells [ownV l.length y, ownV q.length z].toArray 34 (0, 0))], ownG 69 (l.flatMap prC) y]) fun w hw hs => drop_c l y (ownV q.length z) sb x.key w hy hl.1 (V.ownV_one _ _) hs) fun y2 hy2 => Lv Nz <| Lv (Fa 1 4) <| LeN StS fun _ _ => Nl <| PQ.end0 rfl ?_
  intro w' hw; exact ⟨y2, hy2, rfl, hw.pick (by repeat (first | exact .nil | apply Pick.cons | exact .here | apply Ext.there))⟩
theorem do4_c (l : List Pr) (y : V.OwnO) (q : List (List UInt8)) (z : V.OwnO) (sb ab : Nat) (x : Cal) (w : World) (hy : ownOk 2 l.length (l.flatMap prC) y) (hz : ownOk 1 q.length (q.flatMap stE) z) (hl : l.length ≤ 1000 ∧ q.length ≤ 1000) (hs : Sat [[(sb, .cells [ownV l.length y, ownV q.length z].toArray 34 (0, 0))], ownG 69 (l.flatMap prC) y, ownG 9 (q.flatMap stE) z, [(ab, .cells (ansC 0 false [] (.slice none 0 0) (.slice none 0 0)).toArray 48 (0, 0))]] w) :
    Calls Tryz.prog 76 [.pointer (some ⟨sb, 0, none⟩), .agg (calC x).toArray, .pointer (some ⟨ab, 0, none⟩)].toArray w fun e w' => ∃ r : V.OwnO, ownOk 1 (q ++ [x.val]).length ((q ++ [x.val]).flatMap stE) r ∧ e = .returned (.tuple #[]) ∧ Hp ⟨w, V.ids [[(sb, .cells [ownV l.length y, ownV q.length z].toArray 34 (0, 0))], ownG 69 (l.flatMap prC) y, ownG 9 (q.flatMap stE) z, [(ab, .cells (ansC 0 false [] (.slice none 0 0) (.slice none 0 0)).toArray 48 (0, 0))]]⟩ [[(sb, .cells [ownV l.length y, ownV (q ++ [x.val]).length r].toArray 34 (0, 0))], ownG 69 (l.flatMap prC) y, ownG 9 ((q ++ [x.val]).flatMap stE) r, [(ab, .cells (ansC 0 false [] (.slice none 0 0) (.slice none 0 0)).toArray 48 (0, 0))]] w' := by
  refine V.calls [[(sb, .cells [ownV l.length y, ownV q.length z].toArray 34 (0, 0))], ownG 69 (l.flatMap prC) y, ownG 9 (q.flatMap stE) z, [(ab, .cells (ansC 0 false [] (.slice none 0 0) (.slice none 0 0)).toArray 48 (0, 0))]] Tryz.func76 rfl Tryz.ntmps76 (Nat.le_of_ble_eq_true rfl) hs <| Sq <| Rg <| Le XA fun b4 _ => Nl <| Ps <| Dr ([[(b4, .cells (calC x).toArray 52 (0, 0))]]) <| Rv 0 rfl Mv <| Rv 1 rfl Mv <| Rv 2 rfl Nz <| Rv 3 rfl (Fa 1 32) <| Rv 5 rfl (Fa 2 9) <| Rv 6 rfl Ld <| RW.any [4, 7] (by kernel_rfl) (by simp) fun i hi => ?_
  simp only [List.mem_cons, List.not_mem_nil, or_false] at hi
  rcases hi with rfl | rfl
  · refine Ro rfl (Eff.ofVal (Val.load (v := ownV q.length z) rfl Tryz.isAgg32 (by repeat (first | exact .here | exact .inner .here | exact .inner (.inner .here) | refine .there ?_)) (by rfl))) fun _ _ => Re 7 rfl (Eff.buildSlice (rfl) [_] Tryz.underlying32 Tryz.sizeOf9 (by exact Tryz.zeroValue9) rfl rfl rfl rfl (by rfl)) fun b13 _ => Re 8 rfl (Eff.appendAny (stE x.val) (sz := 1) (bytes := 16) (z := .string ⟨#[]⟩) (xs := q.flatMap stE) (m0 := q.length) (o := z) (m := 1) (pk := [ownG 9 (q.flatMap stE) z]) rfl rfl Tryz.underlying32 (by kernel_rfl) rfl (by omega) (by repeat (first | exact .nil | apply Pick.cons | exact .here | apply Ext.there)) (by simp) hz (by rfl) (fun hm0 => ⟨b13, 0, rfl, fun w hw => V.range_of_block (o := 0) (cs := stE x.val) (r := []) (hw.own _ (show InS (b13, .cells (stE x.val).toArray 9 (0, 0)) _ from (by repeat (first | exact .here | exact .inner .here | exact .inner (.inner .here) | refine .there ?_))).mem) rfl⟩) (by rfl) (by omega) (by omega)) fun o9 ho90 => ?_
    have ho9 : ownOk 1 (q ++ [x.val]).length ((q ++ [x.val]).flatMap stE) o9 := by simpa using ho90
    rw [show q.flatMap stE ++ stE x.val = (q ++ [x.val]).flatMap stE from by simp, show q.length + 1 = (q ++ [x.val]).length from by simp]
    refine Rv 9 rfl Nz <| Rv 10 rfl (Fa 1 32) <| ReN 11 rfl (StS (h1 := V.ownV_one _ _)) fun _ _ => Rd <| PQ.end0 rfl ?_
    intro w' hw; exact ⟨o9, ho9, rfl, hw.pick (by repeat (first | exact .nil | apply Pick.cons | exact .here | apply Ext.there))⟩
  · refine Ro rfl (Eff.buildSlice (rfl) [_] Tryz.underlying32 Tryz.sizeOf9 (by exact Tryz.zeroValue9) rfl rfl rfl rfl (by rfl)) fun b13 _ => Re 4 rfl (Eff.ofVal (Val.load (v := ownV q.length z) rfl Tryz.isAgg32 (by repeat (first | exact .here | exact .inner .here | exact .inner (.inner .here) | refine .there ?_)) (by rfl))) fun _ _ => Re 8 rfl (Eff.appendAny (stE x.val) (sz := 1) (bytes := 16) (z := .string ⟨#[]⟩) (xs := q.flatMap stE) (m0 := q.length) (o := z) (m := 1) (pk := [ownG 9 (q.flatMap stE) z]) rfl rfl Tryz.underlying32 (by kernel_rfl) rfl (by omega) (by repeat (first | exact .nil | apply Pick.cons | exact .here | apply Ext.there)) (by simp) hz (by rfl) (fun hm0 => ⟨b13, 0, rfl, fun w hw => V.range_of_block (o := 0) (cs := stE x.val) (r := []) (hw.own _ (show InS (b13, .cells (stE x.val).toArray 9 (0, 0)) _ from (by repeat (first | exact .here | exact .inner .here | exact .inner (.inner .here) | refine .there ?_))).mem) rfl⟩) (by rfl) (by omega) (by omega)) fun o9 ho90 => ?_
    have ho9 : ownOk 1 (q ++ [x.val]).length ((q ++ [x.val]).flatMap stE) o9 := by simpa using ho90
    rw [show q.flatMap stE ++ stE x.val = (q ++ [x.val]).flatMap stE from by simp, show q.length + 1 = (q ++ [x.val]).length from by simp]
    refine Rv 9 rfl Nz <| Rv 10 rfl (Fa 1 32) <| ReN 11 rfl (StS (h1 := V.ownV_one _ _)) fun _ _ => Rd <| PQ.end0 rfl ?_
    intro w' hw; exact ⟨o9, ho9, rfl, hw.pick (by repeat (first | exact .nil | apply Pick.cons | exact .here | apply Ext.there))⟩
theorem do5_c (l : List Pr) (y : V.OwnO) (q : List (List UInt8)) (z : V.OwnO) (sb ab : Nat) (x : Cal) (w : World) (hy : ownOk 2 l.length (l.flatMap prC) y) (hz : ownOk 1 q.length (q.flatMap stE) z) (hl : l.length ≤ 1000 ∧ q.length ≤ 1000) (hs : Sat [[(sb, .cells [ownV l.length y, ownV q.length z].toArray 34 (0, 0))], ownG 69 (l.flatMap prC) y, ownG 9 (q.flatMap stE) z, [(ab, .cells (ansC 0 false [] (.slice none 0 0) (.slice none 0 0)).toArray 48 (0, 0))]] w) :
    Calls Tryz.prog 77 [.pointer (some ⟨sb, 0, none⟩), .agg (calC x).toArray, .pointer (some ⟨ab, 0, none⟩)].toArray w fun e w' => ∃ r : OffO, offOk (q.drop 1).length r ∧ e = .returned (.tuple #[]) ∧ Hp ⟨w, V.ids [[(sb, .cells [ownV l.length y, ownV q.length z].toArray 34 (0, 0))], ownG 69 (l.flatMap prC) y, ownG 9 (q.flatMap stE) z, [(ab, .cells (ansC 0 false [] (.slice none 0 0) (.slice none 0 0)).toArray 48 (0, 0))]]⟩ [[(sb, .cells [ownV l.length y, offV (q.drop 1).length r].toArray 34 (0, 0))], ownG 69 (l.flatMap prC) y, offG 9 ((q.drop 1).flatMap stE) r, [(ab, .cells (ansC 0 (decide (q ≠ [])) ((q[0]?).getD []) (.slice none 0 0) (.slice none 0 0)).toArray 48 (0, 0))]] w' := by
  refine V.calls [[(sb, .cells [ownV l.length y, ownV q.length z].toArray 34 (0, 0))], ownG 69 (l.flatMap prC) y, ownG 9 (q.flatMap stE) z, [(ab, .cells (ansC 0 false [] (.slice none 0 0) (.slice none 0 0)).toArray 48 (0, 0))]] Tryz.func77 rfl Tryz.ntmps77 (Nat.le_of_ble_eq_true rfl) hs <| Sq <| Rg <| Le XA fun b4 _ => Nl <| Ps <| Rg <| Lv Mv <| Lv Mv <| Lv Mv <| Le (CM ([[(sb, .cells [ownV l.length y, ownV q.length z].toArray 34 (0, 0))], ownG 9 (q.flatMap stE) z]) fun w hw hs => pop_c q z (ownV l.length y) sb w hz hl.2 (V.ownV_one _ _) hs) fun z2 hz2 => Lv Mv <| Lv Ex <| Lv Ex <| Lv Nz <| Lv (Fa 2 9) <| LeN StS fun _ _ => Lv Nz <| Lv (Fa 1 4) <| LeN StS fun _ _ => Nl <| PQ.end0 rfl ?_
  intro w' hw; exact ⟨z2, hz2, rfl, hw.pick (by repeat (first | exact .nil | apply Pick.cons | exact .here | apply Ext.there))⟩
theorem do6_c (l : List Pr) (y : V.OwnO) (q : List (List UInt8)) (z : V.OwnO) (sb ab : Nat) (x : Cal) (w : World) (hy : ownOk 2 l.length (l.flatMap prC) y) (hz : ownOk 1 q.length (q.flatMap stE) z) (hl : l.length ≤ 1000 ∧ q.length ≤ 1000) (hs : Sat [[(sb, .cells [ownV l.length y, ownV q.length z].toArray 34 (0, 0))], ownG 69 (l.flatMap prC) y, ownG 9 (q.flatMap stE) z, [(ab, .cells (ansC 0 false [] (.slice none 0 0) (.slice none 0 0)).toArray 48 (0, 0))]] w) :
    Calls Tryz.prog 79 [.pointer (some ⟨sb, 0, none⟩), .agg (calC x).toArray, .pointer (some ⟨ab, 0, none⟩)].toArray w fun e w' => ∃ r : V.OwnO, ownOk 2 (scanF l x.key x.to).length ((scanF l x.key x.to).flatMap prC) r ∧ e = .returned (.tuple #[]) ∧ Hp ⟨w, V.ids [[(sb, .cells [ownV l.length y, ownV q.length z].toArray 34 (0, 0))], ownG 69 (l.flatMap prC) y, ownG 9 (q.flatMap stE) z, [(ab, .cells (ansC 0 false [] (.slice none 0 0) (.slice none 0 0)).toArray 48 (0, 0))]]⟩ [[(sb, .cells [ownV l.length y, ownV q.length z].toArray 34 (0, 0))], ownG 69 (l.flatMap prC) y, ownG 9 (q.flatMap stE) z, [(ab, .cells (ansC 0 false [] (ownV (scanF l x.key x.to).length r) (.slice none 0 0)).toArray 48 (0, 0))], ownG 69 ((scanF l x.key x.to).flatMap prC) r] w' := by
  obtain ⟨p, c, hp, hsl⟩ := own_sl l y hy
  have hb0 : ∃ r, True := ⟨0, trivial⟩
  refine V.calls [[(sb, .cells [ownV l.length y, ownV q.length z].toArray 34 (0, 0))], ownG 69 (l.flatMap prC) y, ownG 9 (q.flatMap stE) z, [(ab, .cells (ansC 0 false [] (.slice none 0 0) (.slice none 0 0)).toArray 48 (0, 0))]] Tryz.func79 rfl Tryz.ntmps79 (Nat.le_of_ble_eq_true rfl) hs <| Sq <| Rg <| Le XA fun b4 _ => Nl <| Ps <| Sq <| Rg <| Lv Mv <| Lv Nz <| Lv (Fa 0 31) <| Lv (Ld (v := ownV l.length y)) <| LW.re 11 (.slice p l.length c) rfl hp <| Lv Ln <| Lv Mv <| Nl <| Ps <| Bk <| V.CW.addOwn 69 <| loopA (γ := Nat × V.OwnO) (fun k => [(0, .pointer (some ⟨sb, 0, none⟩)), (2, .pointer (some ⟨ab, 0, none⟩)), (4, .pointer (some ⟨b4, 0, none⟩)), (11, .slice p l.length c), (12, .int .i64 (l.length : Nat)), (13, .int .i64 (k.1 : Nat))]) (fun k => [[(sb, .cells [ownV l.length y, ownV q.length z].toArray 34 (0, 0))], ownG 69 (l.flatMap prC) y, ownG 9 (q.flatMap stE) z, [(ab, .cells (ansC 0 false [] (ownV (scanF (l.take k.1) x.key x.to).length k.2) (.slice none 0 0)).toArray 48 (0, 0))], ownG 69 ((scanF (l.take k.1) x.key x.to).flatMap prC) k.2, [(b4, .cells (calC x).toArray 52 (0, 0))]]) (fun k => k.1 ≤ l.length ∧ ownOk 2 (scanF (l.take k.1) x.key x.to).length ((scanF (l.take k.1) x.key x.to).flatMap prC) k.2) (fun k => l.length - k.1) ((0, none)) ⟨Nat.zero_le _, ⟨rfl, rfl⟩⟩ fun k => ?_
  rintro ⟨hk1, hk2⟩
  refine Sq <| Rg <| Lv Cm <| Nl <| Ps <| Sq ?_
  refine CW.cond rfl (fun h14 => ?_) (fun h14 => ?_)
  · replace h14 := bT h14
    have hk9 : k.1 < l.length := by omega
    rcases y with _ | ⟨gb, rest, cap⟩
    · exact absurd hy.2 (by omega)
    obtain ⟨u, hx1⟩ : ∃ u, l[k.1]? = some u := ⟨l[k.1]'(by omega), by simp⟩
    obtain ⟨ur0, hur0⟩ := V.drop_flatMap prC_len l k.1 u hx1
    obtain ⟨ur, hur⟩ : ∃ ur, (l.flatMap prC ++ rest).drop (0 + k.1 * 2) = prC u ++ ur := ⟨ur0 ++ rest, by rw [Nat.zero_add, List.drop_append_of_le_length (by rw [prCs_len]; omega), hur0, List.append_assoc]⟩
    obtain ⟨rfl, rfl⟩ : p = some ⟨gb, 0, none⟩ ∧ c = cap := by simpa [ownV, eq_comm] using hp
    refine Sk <| Ps <| Sq <| Bk <| Sq <| Rg <| Lv (Val.indexAddrN rfl rfl Tryz.underlying31 Tryz.sizeOf69 hk9) <| Lv (Val.loadA (prC u) (r := ur) rfl Tryz.isAgg69 (by repeat (first | exact .here | exact .inner .here | exact .inner (.inner .here) | refine .there ?_)) hur Tryz.sizeOf69) <| Le AA fun b7 _ => LeN (StW (cs := prC u) (h1 := by rfl)) fun _ _ => Nl <| Ps <| Sq <| Rg <| Lv (Fa 0 9) <| Lv Ld <| Lv (Fa 1 9) <| Lv Ld <| Le (CV fun w hw => compare_c u.key x.key w) fun _ _ => Lv Cm <| LW.re 22 (.bool (!decide (u.key < x.key))) rfl (by congr 1; rw [Bool.eq_iff_iff]; simp [← cmp_lt]) <| Lv Mv ?_
    refine LW.split (d := 23) rfl (fun h23 => ?_) (fun h23 => ?_)
    · replace h23 := bT h23
      refine Lv (Fa 3 9) <| Lv Ld <| Lv ES <| Lv Mv ?_
      refine LW.split (d := 27) rfl (fun h27 => ?_) (fun h27 => ?_)
      · replace h27 := bT h27
        refine Lp <| Lp <| Lp <| Lp <| Lp <| Lp <| Lv Pt <| Lv Pt <| Nl <| Ps <| Ct ?_
        have hsc : scB x.key x.to u = true := by unfold scB; simp_all
        refine Dr ([[(b7, .cells (prC u).toArray 69 (0, 0))], [(b4, .cells (calC x).toArray 52 (0, 0))]]) <| Rv 0 rfl Mv <| Rv 1 rfl Mv <| Rv 2 rfl Nz <| Rv 3 rfl (Fa 3 31) <| Rv 5 rfl (Lw (l := prC u)) <| RW.any [4, 6] (by kernel_rfl) (by simp) fun i hi => ?_
        simp only [List.mem_cons, List.not_mem_nil, or_false] at hi
        rcases hi with rfl | rfl
        · refine Ro rfl (Eff.ofVal (Val.load (v := ownV (scanF (l.take k.1) x.key x.to).length k.2) rfl Tryz.isAgg31 (by repeat (first | exact .here | exact .inner .here | exact .inner (.inner .here) | refine .there ?_)) (by rfl))) fun _ _ => Re 6 rfl (Eff.buildSlice (rfl) [_, _] Tryz.underlying31 Tryz.sizeOf69 (by exact Tryz.zeroValue69) rfl rfl rfl rfl (by rfl)) fun b42 _ => Re 7 rfl (Eff.appendAny (prC u) (sz := 2) (bytes := 32) (z := .agg #[.string ⟨#[]⟩, .string ⟨#[]⟩]) (xs := (scanF (l.take k.1) x.key x.to).flatMap prC) (m0 := (scanF (l.take k.1) x.key x.to).length) (o := k.2) (m := 1) (pk := [ownG 69 ((scanF (l.take k.1) x.key x.to).flatMap prC) k.2]) rfl rfl Tryz.underlying31 (by kernel_rfl) rfl (by omega) (by repeat (first | exact .nil | apply Pick.cons | exact .here | apply Ext.there)) (by simp) hk2 (by rfl) (fun hm0 => ⟨b42, 0, rfl, fun w hw => V.range_of_block (o := 0) (cs := prC u) (r := []) (hw.own _ (show InS (b42, .cells (prC u).toArray 69 (0, 0)) _ from (by repeat (first | exact .here | exact .inner .here | exact .inner (.inner .here) | refine .there ?_))).mem) rfl⟩) (by rfl) (by have := List.length_filter_le (scB x.key x.to) (l.take k.1); unfold scanF; rw [List.length_take] at this; omega) (by have := List.length_filter_le (scB x.key x.to) (l.take k.1); unfold scanF; rw [List.length_take] at this; omega)) fun o9 ho90 => ?_
          have hse := scan_yes hx1 hsc
          have ho9 : ownOk 2 (scanF (l.take (k.1 + 1)) x.key x.to).length ((scanF (l.take (k.1 + 1)) x.key x.to).flatMap prC) o9 := by rw [hse]; simpa using ho90
          rw [show (scanF (l.take k.1) x.key x.to).flatMap prC ++ prC u = (scanF (l.take (k.1 + 1)) x.key x.to).flatMap prC from by rw [hse]; simp, show (scanF (l.take k.1) x.key x.to).length + 1 = (scanF (l.take (k.1 + 1)) x.key x.to).length from by rw [hse]; simp]
          refine Rv 8 rfl Nz <| Rv 9 rfl (Fa 3 31) <| ReN 10 rfl (StS (h1 := V.ownV_one _ _)) fun _ _ => Rd <| Bn <| Ps <| Rg <| Lv Ar <| Lv Mv <| Nl ?_
          exact roundA ((k.1 + 1, o9)) ⟨by simp only; omega, ho9⟩ (by simp only; omega)
        · refine Ro rfl (Eff.buildSlice (rfl) [_, _] Tryz.underlying31 Tryz.sizeOf69 (by exact Tryz.zeroValue69) rfl rfl rfl rfl (by rfl)) fun b42 _ => Re 4 rfl (Eff.ofVal (Val.load (v := ownV (scanF (l.take k.1) x.key x.to).length k.2) rfl Tryz.isAgg31 (by repeat (first | exact .here | exact .inner .here | exact .inner (.inner .here) | refine .there ?_)) (by rfl))) fun _ _ => Re 7 rfl (Eff.appendAny (prC u) (sz := 2) (bytes := 32) (z := .agg #[.string ⟨#[]⟩, .string ⟨#[]⟩]) (xs := (scanF (l.take k.1) x.key x.to).flatMap prC) (m0 := (scanF (l.take k.1) x.key x.to).length) (o := k.2) (m := 1) (pk := [ownG 69 ((scanF (l.take k.1) x.key x.to).flatMap prC) k.2]) rfl rfl Tryz.underlying31 (by kernel_rfl) rfl (by omega) (by repeat (first | exact .nil | apply Pick.cons | exact .here | apply Ext.there)) (by simp) hk2 (by rfl) (fun hm0 => ⟨b42, 0, rfl, fun w hw => V.range_of_block (o := 0) (cs := prC u) (r := []) (hw.own _ (show InS (b42, .cells (prC u).toArray 69 (0, 0)) _ from (by repeat (first | exact .here | exact .inner .here | exact .inner (.inner .here) | refine .there ?_))).mem) rfl⟩) (by rfl) (by have := List.length_filter_le (scB x.key x.to) (l.take k.1); unfold scanF; rw [List.length_take] at this; omega) (by have := List.length_filter_le (scB x.key x.to) (l.take k.1); unfold scanF; rw [List.length_take] at this; omega)) fun o9 ho90 => ?_
          have hse := scan_yes hx1 hsc
          have ho9 : ownOk 2 (scanF (l.take (k.1 + 1)) x.key x.to).length ((scanF (l.take (k.1 + 1)) x.key x.to).flatMap prC) o9 := by rw [hse]; simpa using ho90
          rw [show (scanF (l.take k.1) x.key x.to).flatMap prC ++ prC u = (scanF (l.take (k.1 + 1)) x.key x.to).flatMap prC from by rw [hse]; simp, show (scanF (l.take k.1) x.key x.to).length + 1 = (scanF (l.take (k.1 + 1)) x.key x.to).length from by rw [hse]; simp]
          refine Rv 8 rfl Nz <| Rv 9 rfl (Fa 3 31) <| ReN 10 rfl (StS (h1 := V.ownV_one _ _)) fun _ _ => Rd <| Bn <| Ps <| Rg <| Lv Ar <| Lv Mv <| Nl ?_
          exact roundA ((k.1 + 1, o9)) ⟨by simp only; omega, ho9⟩ (by simp only; omega)
      · replace h27 := bF h27
        refine Lv (Fa 0 9) <| Lv Ld <| Lv (Fa 3 9) <| Lv Ld <| Le (CV fun w hw => compare_c u.key x.to w) fun _ _ => Lv Cm <| LW.re 33 (.bool (decide (u.key < x.to))) rfl (by congr 1; rw [Bool.eq_iff_iff]; simp [← cmp_lt]) <| Lv Pf <| Lv Pt <| Nl <| Ps ?_
        refine CW.cond rfl (fun h35 => ?_) (fun h35 => ?_)
        · replace h35 := bT h35
          have hsc : scB x.key x.to u = true := by unfold scB; simp_all
          refine Dr ([[(b7, .cells (prC u).toArray 69 (0, 0))], [(b4, .cells (calC x).toArray 52 (0, 0))]]) <| Rv 0 rfl Mv <| Rv 1 rfl Mv <| Rv 2 rfl Nz <| Rv 3 rfl (Fa 3 31) <| Rv 5 rfl (Lw (l := prC u)) <| RW.any [4, 6] (by kernel_rfl) (by simp) fun i hi => ?_
          simp only [List.mem_cons, List.not_mem_nil, or_false] at hi
          rcases hi with rfl | rfl
          · refine Ro rfl (Eff.ofVal (Val.load (v := ownV (scanF (l.take k.1) x.key x.to).length k.2) rfl Tryz.isAgg31 (by repeat (first | exact .here | exact .inner .here | exact .inner (.inner .here) | refine .there ?_)) (by rfl))) fun _ _ => Re 6 rfl (Eff.buildSlice (rfl) [_, _] Tryz.underlying31 Tryz.sizeOf69 (by exact Tryz.zeroValue69) rfl rfl rfl rfl (by rfl)) fun b42 _ => Re 7 rfl (Eff.appendAny (prC u) (sz := 2) (bytes := 32) (z := .agg #[.string ⟨#[]⟩, .string ⟨#[]⟩]) (xs := (scanF (l.take k.1) x.key x.to).flatMap prC) (m0 := (scanF (l.take k.1) x.key x.to).length) (o := k.2) (m := 1) (pk := [ownG 69 ((scanF (l.take k.1) x.key x.to).flatMap prC) k.2]) rfl rfl Tryz.underlying31 (by kernel_rfl) rfl (by omega) (by repeat (first | exact .nil | apply Pick.cons | exact .here | apply Ext.there)) (by simp) hk2 (by rfl) (fun hm0 => ⟨b42, 0, rfl, fun w hw => V.range_of_block (o := 0) (cs := prC u) (r := []) (hw.own _ (show InS (b42, .cells (prC u).toArray 69 (0, 0)) _ from (by repeat (first | exact .here | exact .inner .here | exact .inner (.inner .here) | refine .there ?_))).mem) rfl⟩) (by rfl) (by have := List.length_filter_le (scB x.key x.to) (l.take k.1); unfold scanF; rw [List.length_take] at this; omega) (by have := List.length_filter_le (scB x.key x.to) (l.take k.1); unfold scanF; rw [List.length_take] at this; omega)) fun o9 ho90 => ?_
            have hse := scan_yes hx1 hsc
            have ho9 : ownOk 2 (scanF (l.take (k.1 + 1)) x.key x.to).length ((scanF (l.take (k.1 + 1)) x.key x.to).flatMap prC) o9 := by rw [hse]; simpa using ho90
            rw [show (scanF (l.take k.1) x.key x.to).flatMap prC ++ prC u = (scanF (l.take (k.1 + 1)) x.key x.to).flatMap prC from by rw [hse]; simp, show (scanF (l.take k.1) x.key x.to).length + 1 = (scanF (l.take (k.1 + 1)) x.key x.to).length from by rw [hse]; simp]
            refine Rv 8 rfl Nz <| Rv 9 rfl (Fa 3 31) <| ReN 10 rfl (StS (h1 := V.ownV_one _ _)) fun _ _ => Rd <| Bn <| Ps <| Rg <| Lv Ar <| Lv Mv <| Nl ?_
            exact roundA ((k.1 + 1, o9)) ⟨by simp only; omega, ho9⟩ (by simp only; omega)
          · refine Ro rfl (Eff.buildSlice (rfl) [_, _] Tryz.underlying31 Tryz.sizeOf69 (by exact Tryz.zeroValue69) rfl rfl rfl rfl (by rfl)) fun b42 _ => Re 4 rfl (Eff.ofVal (Val.load (v := ownV (scanF (l.take k.1) x.key x.to).length k.2) rfl Tryz.isAgg31 (by repeat (first | exact .here | exact .inner .here | exact .inner (.inner .here) | refine .there ?_)) (by rfl))) fun _ _ => Re 7 rfl (Eff.appendAny (prC u) (sz := 2) (bytes := 32) (z := .agg #[.string ⟨#[]⟩, .string ⟨#[]⟩]) (xs := (scanF (l.take k.1) x.key x.to).flatMap prC) (m0 := (scanF (l.take k.1) x.key x.to).length) (o := k.2) (m := 1) (pk := [ownG 69 ((scanF (l.take k.1) x.key x.to).flatMap prC) k.2]) rfl rfl Tryz.underlying31 (by kernel_rfl) rfl (by omega) (by repeat (first | exact .nil | apply Pick.cons | exact .here | apply Ext.there)) (by simp) hk2 (by rfl) (fun hm0 => ⟨b42, 0, rfl, fun w hw => V.range_of_block (o := 0) (cs := prC u) (r := []) (hw.own _ (show InS (b42, .cells (prC u).toArray 69 (0, 0)) _ from (by repeat (first | exact .here | exact .inner .here | exact .inner (.inner .here) | refine .there ?_))).mem) rfl⟩) (by rfl) (by have := List.length_filter_le (scB x.key x.to) (l.take k.1); unfold scanF; rw [List.length_take] at this; omega) (by have := List.length_filter_le (scB x.key x.to) (l.take k.1); unfold scanF; rw [List.length_take] at this; omega)) fun o9 ho90 => ?_
            have hse := scan_yes hx1 hsc
            have ho9 : ownOk 2 (scanF (l.take (k.1 + 1)) x.key x.to).length ((scanF (l.take (k.1 + 1)) x.key x.to).flatMap prC) o9 := by rw [hse]; simpa using ho90
            rw [show (scanF (l.take k.1) x.key x.to).flatMap prC ++ prC u = (scanF (l.take (k.1 + 1)) x.key x.to).flatMap prC from by rw [hse]; simp, show (scanF (l.take k.1) x.key x.to).length + 1 = (scanF (l.take (k.1 + 1)) x.key x.to).length from by rw [hse]; simp]
            refine Rv 8 rfl Nz <| Rv 9 rfl (Fa 3 31) <| ReN 10 rfl (StS (h1 := V.ownV_one _ _)) fun _ _ => Rd <| Bn <| Ps <| Rg <| Lv Ar <| Lv Mv <| Nl ?_
            exact roundA ((k.1 + 1, o9)) ⟨by simp only; omega, ho9⟩ (by simp only; omega)
        · replace h35 := bF h35
          refine Sk <| Bn <| Ps <| Rg <| Lv Ar <| Lv Mv <| Nl ?_
          have hsc : scB x.key x.to u = false := by unfold scB; simp_all
          have hse := scan_no hx1 hsc
          rw [← hse]
          exact roundA ((k.1 + 1, k.2)) ⟨by simp only; omega, by simp only; rw [scan_no hx1 hsc]; exact hk2⟩ (by simp only; omega)
    · replace h23 := bF h23
      refine Lp <| Lp <| Lp <| Lp <| Lp <| Lp <| Lp <| Lp <| Lp <| Lp <| Lp <| Lv Pf <| Nl <| Ps <| Cf <| Sk <| Bn <| Ps <| Rg <| Lv Ar <| Lv Mv <| Nl ?_
      have hsc : scB x.key x.to u = false := by unfold scB; simp_all
      have hse := scan_no hx1 hsc
      rw [← hse]
      exact roundA ((k.1 + 1, k.2)) ⟨by simp only; omega, by simp only; rw [scan_no hx1 hsc]; exact hk2⟩ (by simp only; omega)
  · replace h14 := bF h14
    have hk9 : l.length ≤ k.1 := by omega
    have hte : l.take k.1 = l := List.take_of_length_le hk9
    rw [hte] at hk2
    refine Xt <| Te <| Te <| Bh <| PQ.end0 rfl ?_
    intro w' hw; rw [hte] at hw; exact ⟨k.2, hk2, rfl, hw.pick (by repeat (first | exact .nil | apply Pick.cons | exact .here | apply Ext.there))⟩
theorem do8_c (l : List Pr) (y : V.OwnO) (q : List (List UInt8)) (z : V.OwnO) (sb ab : Nat) (x : Cal) (w : World) (hy : ownOk 2 l.length (l.flatMap prC) y) (hz : ownOk 1 q.length (q.flatMap stE) z) (hl : l.length ≤ 1000 ∧ q.length ≤ 1000) (hs : Sat [[(sb, .cells [ownV l.length y, ownV q.length z].toArray 34 (0, 0))], ownG 69 (l.flatMap prC) y, ownG 9 (q.flatMap stE) z, [(ab, .cells (ansC 0 false [] (.slice none 0 0) (.slice none 0 0)).toArray 48 (0, 0))]] w) :
    Calls Tryz.prog 80 [.pointer (some ⟨sb, 0, none⟩), .agg (calC x).toArray, .pointer (some ⟨ab, 0, none⟩)].toArray w fun e w' => ∃ r : Unit, True ∧ e = .returned (.tuple #[]) ∧ Hp ⟨w, V.ids [[(sb, .cells [ownV l.length y, ownV q.length z].toArray 34 (0, 0))], ownG 69 (l.flatMap prC) y, ownG 9 (q.flatMap stE) z, [(ab, .cells (ansC 0 false [] (.slice none 0 0) (.slice none 0 0)).toArray 48 (0, 0))]]⟩ [[(sb, .cells [ownV l.length y, ownV q.length z].toArray 34 (0, 0))], ownG 69 (l.flatMap prC) y, ownG 9 (q.flatMap stE) z, [(ab, .cells (ansC 0 false [] (.slice none 0 0) (.slice none 0 0)).toArray 48 (0, 0))]] w' := by
  refine V.calls [[(sb, .cells [ownV l.length y, ownV q.length z].toArray 34 (0, 0))], ownG 69 (l.flatMap prC) y, ownG 9 (q.flatMap stE) z, [(ab, .cells (ansC 0 false [] (.slice none 0 0) (.slice none 0 0)).toArray 48 (0, 0))]] Tryz.func80 rfl Tryz.ntmps80 (Nat.le_of_ble_eq_true rfl) hs <| Rg <| Le XA fun b4 _ => Nl <| PQ.end0 rfl ?_
  intro w' hw; exact ⟨(), trivial, rfl, hw.pick (by repeat (first | exact .nil | apply Pick.cons | exact .here | apply Ext.there))⟩
def doE : V.MI := [(0, 1, .func (.func 70) #[] #[]), (1, 2, .func (.func 72) #[] #[]), (2, 3, .func (.func 74) #[] #[]), (3, 4, .func (.func 76) #[] #[]), (4, 5, .func (.func 77) #[] #[]), (5, 6, .func (.func 79) #[] #[]), (6, 8, .func (.func 80) #[] #[])]
theorem idoings_c (w : World) : Calls Tryz.prog 39 [].toArray w fun e w' => ∃ b : Nat, True ∧ e = .returned (.map (some b)) ∧ Hp ⟨w, []⟩ [[(b, V.imO doE 7)]] w' := by
  refine V.calls [] Tryz.func39 rfl Tryz.ntmps39 (Nat.le_of_ble_eq_true rfl) (V.sat_nil _) <| Sq <| Rg <| Lv Av <| Nl <| Ps <| Sq <| Rg <| Le (Eff.imakeMap) fun b1 _ => LeN (Eff.insert rfl rfl rfl Tryz.underlying80 Tryz.underlying3 (by repeat (first | exact .here | exact .inner .here | exact .inner (.inner .here) | apply Upd.there)) (by rfl)) fun _ _ => LeN (Eff.insert rfl rfl rfl Tryz.underlying80 Tryz.underlying3 (by repeat (first | exact .here | exact .inner .here | exact .inner (.inner .here) | apply Upd.there)) (by rfl)) fun _ _ => LeN (Eff.insert rfl rfl rfl Tryz.underlying80 Tryz.underlying3 (by repeat (first | exact .here | exact .inner .here | exact .inner (.inner .here) | apply Upd.there)) (by rfl)) fun _ _ => LeN (Eff.insert rfl rfl rfl Tryz.underlying80 Tryz.underlying3 (by repeat (first | exact .here | exact .inner .here | exact .inner (.inner .here) | apply Upd.there)) (by rfl)) fun _ _ => LeN (Eff.insert rfl rfl rfl Tryz.underlying80 Tryz.underlying3 (by repeat (first | exact .here | exact .inner .here | exact .inner (.inner .here) | apply Upd.there)) (by rfl)) fun _ _ => LeN (Eff.insert rfl rfl rfl Tryz.underlying80 Tryz.underlying3 (by repeat (first | exact .here | exact .inner .here | exact .inner (.inner .here) | apply Upd.there)) (by rfl)) fun _ _ => LeN (Eff.insert rfl rfl rfl Tryz.underlying80 Tryz.underlying3 (by repeat (first | exact .here | exact .inner .here | exact .inner (.inner .here) | apply Upd.there)) (by rfl)) fun _ _ => Lv Mv <| Lv Av <| Nl <| Ps <| Rt <| Rt1 ?_
  intro w' hw; exact ⟨b1, trivial, rfl, hw⟩
end I
end Go.Proofs.YtlpbjmbgopfkhaaGreat

