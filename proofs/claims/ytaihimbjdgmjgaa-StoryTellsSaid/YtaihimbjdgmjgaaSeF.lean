/- The points; the reference's May, Points, Ended. -/
import Derived.Test.YtaihimbjdgmjgaaSeE
import Derived.Test.YtaihimbjdgmjgaaV22
import Derived.Lib.Hide
namespace Go.Proofs.Ytaihimbjdgmjgaa
open Go Go.RowKit V
set_option linter.unusedVariables false
set_option maxRecDepth 100000
open V (ownV ownG ownS ownOk)
def pnt (k : Int) : Bool := decide (k = 1) || decide (k = 2) || decide (k = 3) || decide (k = 4) || decide (k = 5) || decide (k = 7)
def kyd (k : Int) : Bool := decide (k = 1) || decide (k = 2) || decide (k = 3)
def qP (s : Sto) : Bool := pnt s.call.ck
theorem point_c (k : Int) (w : World) : Calls Try.prog 56 [.int .i64 k].toArray w fun e w' => e = .returned (.bool (pnt k)) ∧ Below w.heap.size w w' := by
  refine V.calls [] Try.func56 rfl Try.ntmps56 (Nat.le_of_ble_eq_true rfl) (V.sat_nil _) ?_
  refine CW.seq ?_
  refine CW.region ?_
  refine LW.v rfl rfl (Val.assign rfl) ?_
  refine LW.nil ?_
  refine PQ.seq ?_
  refine CW.seq ?_
  refine CW.region ?_
  refine LW.v rfl rfl (Val.move rfl) ?_
  refine LW.v rfl rfl (Val.cmp rfl rfl rfl) ?_
  refine LW.v rfl rfl (Val.move rfl) ?_
  refine LW.split (d := 5) rfl (fun h5 => ?_) (fun h5 => ?_)
  · replace h5 := bT h5
    refine LW.p rfl rfl ?_
    refine LW.p rfl rfl ?_
    refine LW.v rfl rfl (Val.pick_t rfl rfl) ?_
    refine LW.v rfl rfl (Val.move rfl) ?_
    refine LW.p rfl rfl ?_
    refine LW.p rfl rfl ?_
    refine LW.v rfl rfl (Val.pick_t rfl rfl) ?_
    refine LW.v rfl rfl (Val.move rfl) ?_
    refine LW.p rfl rfl ?_
    refine LW.p rfl rfl ?_
    refine LW.v rfl rfl (Val.pick_t rfl rfl) ?_
    refine LW.v rfl rfl (Val.move rfl) ?_
    refine LW.p rfl rfl ?_
    refine LW.p rfl rfl ?_
    refine LW.v rfl rfl (Val.pick_t rfl rfl) ?_
    refine LW.v rfl rfl (Val.move rfl) ?_
    refine LW.p rfl rfl ?_
    refine LW.p rfl rfl ?_
    refine LW.v rfl rfl (Val.pick_t rfl rfl) ?_
    refine LW.v rfl rfl (Val.assign rfl) ?_
    refine LW.nil ?_
    refine PQ.seq ?_
    refine CW.ret ?_
    refine PQ.ret1 rfl rfl ?_
    intro w' hw; exact ⟨by unfold pnt; congr 2; (try simp_all) <;> rfl, hw.below⟩
  · replace h5 := bF h5
    refine LW.v rfl rfl (Val.move rfl) ?_
    refine LW.v rfl rfl (Val.cmp rfl rfl rfl) ?_
    refine LW.v rfl rfl (Val.pick_f rfl rfl) ?_
    refine LW.v rfl rfl (Val.move rfl) ?_
    refine LW.split (d := 9) rfl (fun h9 => ?_) (fun h9 => ?_)
    · replace h9 := bT h9
      refine LW.p rfl rfl ?_
      refine LW.p rfl rfl ?_
      refine LW.v rfl rfl (Val.pick_t rfl rfl) ?_
      refine LW.v rfl rfl (Val.move rfl) ?_
      refine LW.p rfl rfl ?_
      refine LW.p rfl rfl ?_
      refine LW.v rfl rfl (Val.pick_t rfl rfl) ?_
      refine LW.v rfl rfl (Val.move rfl) ?_
      refine LW.p rfl rfl ?_
      refine LW.p rfl rfl ?_
      refine LW.v rfl rfl (Val.pick_t rfl rfl) ?_
      refine LW.v rfl rfl (Val.move rfl) ?_
      refine LW.p rfl rfl ?_
      refine LW.p rfl rfl ?_
      refine LW.v rfl rfl (Val.pick_t rfl rfl) ?_
      refine LW.v rfl rfl (Val.assign rfl) ?_
      refine LW.nil ?_
      refine PQ.seq ?_
      refine CW.ret ?_
      refine PQ.ret1 rfl rfl ?_
      intro w' hw; exact ⟨by unfold pnt; congr 2; (try simp_all) <;> rfl, hw.below⟩
    · replace h9 := bF h9
      refine LW.v rfl rfl (Val.move rfl) ?_
      refine LW.v rfl rfl (Val.cmp rfl rfl rfl) ?_
      refine LW.v rfl rfl (Val.pick_f rfl rfl) ?_
      refine LW.v rfl rfl (Val.move rfl) ?_
      refine LW.split (d := 13) rfl (fun h13 => ?_) (fun h13 => ?_)
      · replace h13 := bT h13
        refine LW.p rfl rfl ?_
        refine LW.p rfl rfl ?_
        refine LW.v rfl rfl (Val.pick_t rfl rfl) ?_
        refine LW.v rfl rfl (Val.move rfl) ?_
        refine LW.p rfl rfl ?_
        refine LW.p rfl rfl ?_
        refine LW.v rfl rfl (Val.pick_t rfl rfl) ?_
        refine LW.v rfl rfl (Val.move rfl) ?_
        refine LW.p rfl rfl ?_
        refine LW.p rfl rfl ?_
        refine LW.v rfl rfl (Val.pick_t rfl rfl) ?_
        refine LW.v rfl rfl (Val.assign rfl) ?_
        refine LW.nil ?_
        refine PQ.seq ?_
        refine CW.ret ?_
        refine PQ.ret1 rfl rfl ?_
        intro w' hw; exact ⟨by unfold pnt; congr 2; (try simp_all) <;> rfl, hw.below⟩
      · replace h13 := bF h13
        refine LW.v rfl rfl (Val.move rfl) ?_
        refine LW.v rfl rfl (Val.cmp rfl rfl rfl) ?_
        refine LW.v rfl rfl (Val.pick_f rfl rfl) ?_
        refine LW.v rfl rfl (Val.move rfl) ?_
        refine LW.split (d := 17) rfl (fun h17 => ?_) (fun h17 => ?_)
        · replace h17 := bT h17
          refine LW.p rfl rfl ?_
          refine LW.p rfl rfl ?_
          refine LW.v rfl rfl (Val.pick_t rfl rfl) ?_
          refine LW.v rfl rfl (Val.move rfl) ?_
          refine LW.p rfl rfl ?_
          refine LW.p rfl rfl ?_
          refine LW.v rfl rfl (Val.pick_t rfl rfl) ?_
          refine LW.v rfl rfl (Val.assign rfl) ?_
          refine LW.nil ?_
          refine PQ.seq ?_
          refine CW.ret ?_
          refine PQ.ret1 rfl rfl ?_
          intro w' hw; exact ⟨by unfold pnt; congr 2; (try simp_all) <;> rfl, hw.below⟩
        · replace h17 := bF h17
          refine LW.v rfl rfl (Val.move rfl) ?_
          refine LW.v rfl rfl (Val.cmp rfl rfl rfl) ?_
          refine LW.v rfl rfl (Val.pick_f rfl rfl) ?_
          refine LW.v rfl rfl (Val.move rfl) ?_
          refine LW.split (d := 21) rfl (fun h21 => ?_) (fun h21 => ?_)
          · replace h21 := bT h21
            refine LW.p rfl rfl ?_
            refine LW.p rfl rfl ?_
            refine LW.v rfl rfl (Val.pick_t rfl rfl) ?_
            refine LW.v rfl rfl (Val.assign rfl) ?_
            refine LW.nil ?_
            refine PQ.seq ?_
            refine CW.ret ?_
            refine PQ.ret1 rfl rfl ?_
            intro w' hw; exact ⟨by unfold pnt; congr 2; (try simp_all) <;> rfl, hw.below⟩
          · replace h21 := bF h21
            refine LW.v rfl rfl (Val.move rfl) ?_
            refine LW.v rfl rfl (Val.cmp rfl rfl rfl) ?_
            refine LW.v rfl rfl (Val.pick_f rfl rfl) ?_
            refine LW.v rfl rfl (Val.assign rfl) ?_
            refine LW.nil ?_
            refine PQ.seq ?_
            refine CW.ret ?_
            refine PQ.ret1 rfl rfl ?_
            intro w' hw; exact ⟨by unfold pnt; congr 2; (try simp_all) <;> rfl, hw.below⟩
theorem keyed_c (k : Int) (w : World) : Calls Try.prog 57 [.int .i64 k].toArray w fun e w' => e = .returned (.bool (kyd k)) ∧ Below w.heap.size w w' := by
  refine V.calls [] Try.func57 rfl Try.ntmps57 (Nat.le_of_ble_eq_true rfl) (V.sat_nil _) ?_
  refine CW.seq ?_
  refine CW.region ?_
  refine LW.v rfl rfl (Val.assign rfl) ?_
  refine LW.nil ?_
  refine PQ.seq ?_
  refine CW.seq ?_
  refine CW.region ?_
  refine LW.v rfl rfl (Val.move rfl) ?_
  refine LW.v rfl rfl (Val.cmp rfl rfl rfl) ?_
  refine LW.v rfl rfl (Val.move rfl) ?_
  refine LW.split (d := 5) rfl (fun h5 => ?_) (fun h5 => ?_)
  · replace h5 := bT h5
    refine LW.p rfl rfl ?_
    refine LW.p rfl rfl ?_
    refine LW.v rfl rfl (Val.pick_t rfl rfl) ?_
    refine LW.v rfl rfl (Val.move rfl) ?_
    refine LW.p rfl rfl ?_
    refine LW.p rfl rfl ?_
    refine LW.v rfl rfl (Val.pick_t rfl rfl) ?_
    refine LW.v rfl rfl (Val.assign rfl) ?_
    refine LW.nil ?_
    refine PQ.seq ?_
    refine CW.ret ?_
    refine PQ.ret1 rfl rfl ?_
    intro w' hw; exact ⟨by unfold kyd; congr 2; (try simp_all) <;> rfl, hw.below⟩
  · replace h5 := bF h5
    refine LW.v rfl rfl (Val.move rfl) ?_
    refine LW.v rfl rfl (Val.cmp rfl rfl rfl) ?_
    refine LW.v rfl rfl (Val.pick_f rfl rfl) ?_
    refine LW.v rfl rfl (Val.move rfl) ?_
    refine LW.split (d := 9) rfl (fun h9 => ?_) (fun h9 => ?_)
    · replace h9 := bT h9
      refine LW.p rfl rfl ?_
      refine LW.p rfl rfl ?_
      refine LW.v rfl rfl (Val.pick_t rfl rfl) ?_
      refine LW.v rfl rfl (Val.assign rfl) ?_
      refine LW.nil ?_
      refine PQ.seq ?_
      refine CW.ret ?_
      refine PQ.ret1 rfl rfl ?_
      intro w' hw; exact ⟨by unfold kyd; congr 2; (try simp_all) <;> rfl, hw.below⟩
    · replace h9 := bF h9
      refine LW.v rfl rfl (Val.move rfl) ?_
      refine LW.v rfl rfl (Val.cmp rfl rfl rfl) ?_
      refine LW.v rfl rfl (Val.pick_f rfl rfl) ?_
      refine LW.v rfl rfl (Val.assign rfl) ?_
      refine LW.nil ?_
      refine PQ.seq ?_
      refine CW.ret ?_
      refine PQ.ret1 rfl rfl ?_
      intro w' hw; exact ⟨by unfold kyd; congr 2; (try simp_all) <;> rfl, hw.below⟩
theorem points1_c (s : Sto) (w : World) : Calls Try.prog 52 [.agg s.cells.toArray].toArray w fun e w' => e = .returned (.bool (qP s)) ∧ Below w.heap.size w w' := by
  refine V.calls [] Try.func52 rfl Try.ntmps52 (Nat.le_of_ble_eq_true rfl) (V.sat_nil _) ?_
  refine CW.seq ?_
  refine CW.region ?_
  refine LW.e rfl rfl (Eff.boxA rfl) ?_
  intro b1 _
  refine LW.v rfl rfl (Val.assign rfl) ?_
  refine LW.nil ?_
  refine PQ.seq ?_
  refine CW.seq ?_
  refine CW.seq ?_
  refine CW.region ?_
  refine LW.v rfl rfl (Val.fieldAddr 1 rfl Try.underlying36 rfl rfl Try.sizeOf28) ?_
  refine LW.v rfl rfl (Val.fieldAddr 0 rfl Try.underlying28 rfl rfl Try.sizeOf3) ?_
  refine LW.v rfl rfl (Val.load rfl Try.isAgg3 (by repeat (first | exact .here | refine .there ?_)) (by rfl)) ?_
  refine LW.nil ?_
  refine PQ.seq ?_
  refine CW.block ?_
  refine CW.seq ?_
  refine CW.seq ?_
  refine CW.region ?_
  refine LW.v rfl rfl (Val.cmp rfl rfl rfl) ?_
  refine LW.v rfl rfl (Val.assign rfl) ?_
  refine LW.nil ?_
  refine PQ.seq ?_
  refine CW.cond rfl (fun h6 => ?_) (fun h6 => ?_)
  · replace h6 := bT h6
    refine CW.re 6 (.bool true) rfl (by simp [h6]) ?_
    refine CW.skip ?_
    refine PQ.seq ?_
    refine CW.cond_t rfl ?_
    refine CW.seq ?_
    refine CW.region ?_
    refine LW.v rfl rfl (Val.assign rfl) ?_
    refine LW.nil ?_
    refine PQ.seq ?_
    refine CW.ret ?_
    refine PQ.in_ret ?_
    refine PQ.then_ret ?_
    refine PQ.ret1 rfl rfl ?_
    intro w' hw; exact ⟨by unfold qP pnt; congr 2; (try simp_all) <;> rfl, hw.below⟩
  · replace h6 := bF h6
    refine CW.re 6 (.bool false) rfl (by simp [h6]) ?_
    refine CW.seq ?_
    refine CW.region ?_
    refine LW.v rfl rfl (Val.cmp rfl rfl rfl) ?_
    refine LW.v rfl rfl (Val.assign rfl) ?_
    refine LW.nil ?_
    refine PQ.seq ?_
    refine CW.cond rfl (fun h6 => ?_) (fun h6 => ?_)
    · replace h6 := bT h6
      refine CW.re 6 (.bool true) rfl (by simp [h6]) ?_
      refine CW.skip ?_
      refine PQ.seq ?_
      refine CW.cond_t rfl ?_
      refine CW.seq ?_
      refine CW.region ?_
      refine LW.v rfl rfl (Val.assign rfl) ?_
      refine LW.nil ?_
      refine PQ.seq ?_
      refine CW.ret ?_
      refine PQ.in_ret ?_
      refine PQ.then_ret ?_
      refine PQ.ret1 rfl rfl ?_
      intro w' hw; exact ⟨by unfold qP pnt; congr 2; (try simp_all) <;> rfl, hw.below⟩
    · replace h6 := bF h6
      refine CW.re 6 (.bool false) rfl (by simp [h6]) ?_
      refine CW.seq ?_
      refine CW.region ?_
      refine LW.v rfl rfl (Val.cmp rfl rfl rfl) ?_
      refine LW.v rfl rfl (Val.assign rfl) ?_
      refine LW.nil ?_
      refine PQ.seq ?_
      refine CW.cond rfl (fun h6 => ?_) (fun h6 => ?_)
      · replace h6 := bT h6
        refine CW.re 6 (.bool true) rfl (by simp [h6]) ?_
        refine CW.skip ?_
        refine PQ.seq ?_
        refine CW.cond_t rfl ?_
        refine CW.seq ?_
        refine CW.region ?_
        refine LW.v rfl rfl (Val.assign rfl) ?_
        refine LW.nil ?_
        refine PQ.seq ?_
        refine CW.ret ?_
        refine PQ.in_ret ?_
        refine PQ.then_ret ?_
        refine PQ.ret1 rfl rfl ?_
        intro w' hw; exact ⟨by unfold qP pnt; congr 2; (try simp_all) <;> rfl, hw.below⟩
      · replace h6 := bF h6
        refine CW.re 6 (.bool false) rfl (by simp [h6]) ?_
        refine CW.seq ?_
        refine CW.region ?_
        refine LW.v rfl rfl (Val.cmp rfl rfl rfl) ?_
        refine LW.v rfl rfl (Val.assign rfl) ?_
        refine LW.nil ?_
        refine PQ.seq ?_
        refine CW.cond rfl (fun h6 => ?_) (fun h6 => ?_)
        · replace h6 := bT h6
          refine CW.re 6 (.bool true) rfl (by simp [h6]) ?_
          refine CW.skip ?_
          refine PQ.seq ?_
          refine CW.cond_t rfl ?_
          refine CW.seq ?_
          refine CW.region ?_
          refine LW.v rfl rfl (Val.assign rfl) ?_
          refine LW.nil ?_
          refine PQ.seq ?_
          refine CW.ret ?_
          refine PQ.in_ret ?_
          refine PQ.then_ret ?_
          refine PQ.ret1 rfl rfl ?_
          intro w' hw; exact ⟨by unfold qP pnt; congr 2; (try simp_all) <;> rfl, hw.below⟩
        · replace h6 := bF h6
          refine CW.re 6 (.bool false) rfl (by simp [h6]) ?_
          refine CW.seq ?_
          refine CW.region ?_
          refine LW.v rfl rfl (Val.cmp rfl rfl rfl) ?_
          refine LW.v rfl rfl (Val.assign rfl) ?_
          refine LW.nil ?_
          refine PQ.seq ?_
          refine CW.cond rfl (fun h6 => ?_) (fun h6 => ?_)
          · replace h6 := bT h6
            refine CW.re 6 (.bool true) rfl (by simp [h6]) ?_
            refine CW.skip ?_
            refine PQ.seq ?_
            refine CW.cond_t rfl ?_
            refine CW.seq ?_
            refine CW.region ?_
            refine LW.v rfl rfl (Val.assign rfl) ?_
            refine LW.nil ?_
            refine PQ.seq ?_
            refine CW.ret ?_
            refine PQ.in_ret ?_
            refine PQ.then_ret ?_
            refine PQ.ret1 rfl rfl ?_
            intro w' hw; exact ⟨by unfold qP pnt; congr 2; (try simp_all) <;> rfl, hw.below⟩
          · replace h6 := bF h6
            refine CW.re 6 (.bool false) rfl (by simp [h6]) ?_
            refine CW.region ?_
            refine LW.v rfl rfl (Val.cmp rfl rfl rfl) ?_
            refine LW.v rfl rfl (Val.assign rfl) ?_
            refine LW.nil ?_
            refine PQ.seq ?_
            refine CW.cond rfl (fun h6 => ?_) (fun h6 => ?_)
            · replace h6 := bT h6
              refine CW.re 6 (.bool true) rfl (by simp [h6]) ?_
              refine CW.seq ?_
              refine CW.region ?_
              refine LW.v rfl rfl (Val.assign rfl) ?_
              refine LW.nil ?_
              refine PQ.seq ?_
              refine CW.ret ?_
              refine PQ.in_ret ?_
              refine PQ.then_ret ?_
              refine PQ.ret1 rfl rfl ?_
              intro w' hw; exact ⟨by unfold qP pnt; congr 2; (try simp_all) <;> rfl, hw.below⟩
            · replace h6 := bF h6
              refine CW.re 6 (.bool false) rfl (by simp [h6]) ?_
              refine CW.skip ?_
              refine PQ.in_normal ?_
              refine PQ.seq ?_
              refine CW.seq ?_
              refine CW.region ?_
              refine LW.v rfl rfl (Val.assign rfl) ?_
              refine LW.nil ?_
              refine PQ.seq ?_
              refine CW.ret ?_
              refine PQ.ret1 rfl rfl ?_
              intro w' hw; exact ⟨by unfold qP pnt; congr 2; (try simp_all) <;> rfl, hw.below⟩
theorem points_c (R : Rdg) (p : Option Addr) (n cap : Nat) (l : List Sto) (W : World) (hn : l.length = n) (h : V.slAt W p 14 Sto.cells l) (hm : n ≤ 60) (hS : ∀ i, i < n → ∀ s, l[i]? = some s → SmR R W s) : Calls Try.prog 20 [.slice p n cap].toArray W fun e w' => ∃ y : V.OwnO × List Sto × V.Seg, (ownOk 14 y.2.1.length (y.2.1.flatMap Sto.cells) y.1 ∧ (y.2.1.length ≤ 60 ∧ y.2.1.length = (l.filter qP).length) ∧ ∀ w, Sat [y.2.2] w → AllCp R w (l.filter qP) y.2.1) ∧ e = .returned (ownV y.2.1.length y.1) ∧ Hp ⟨W, []⟩ [ownG 36 (y.2.1.flatMap Sto.cells) y.1, y.2.2] w' := by
  refine V.calls [] Try.func20 rfl Try.ntmps20 (Nat.le_of_ble_eq_true rfl) (V.sat_nil _) ?_
  refine CW.seq ?_
  refine CW.region ?_
  refine LW.v rfl rfl (Val.assign rfl) ?_
  refine LW.nil ?_
  refine PQ.seq ?_
  refine CW.seq ?_
  refine CW.region ?_
  refine LW.v rfl rfl (Val.move rfl) ?_
  refine LW.e rfl rfl (Eff.callM ([]) .nil rfl Try.call41 (fun w hw hs => some_c 52 qP Try.call52 (fun s w => points1_c s w) R p n cap l w hn (hw.slAt h (by simp [ids])) hm (fun i hi s hs => (hS i hi s hs).hp hw))) ?_
  intro y hy
  refine LW.v rfl rfl (Val.assign rfl) ?_
  refine LW.nil ?_
  refine PQ.seq ?_
  refine CW.ret ?_
  refine PQ.ret1 rfl rfl ?_
  intro w' hw; exact ⟨y, hy, rfl, hw.pick (by repeat (first | exact .nil | apply Pick.cons | exact .here | apply Ext.there))⟩
theorem rmay_c (p : Option Addr) (n cap : Nat) (l : List Sto) (w : World) (hn : l.length = n) (h : V.slAt w p 14 Sto.cells l) (hm : n ≤ 1000) : Calls Try.prog 23 [.slice p n cap].toArray w
    fun e w' => ∃ x : Bool, (x = true ↔ May l) ∧ e = .returned (.bool x) ∧ Below w.heap.size w w' := by
  refine V.calls [] Try.func23 rfl Try.ntmps23 (Nat.le_of_ble_eq_true rfl) (V.sat_nil _) ?_
  refine CW.seq ?_
  refine CW.region ?_
  refine LW.v rfl rfl (Val.assign rfl) ?_
  refine LW.nil ?_
  refine PQ.seq ?_
  refine CW.seq ?_
  refine CW.seq ?_
  refine CW.region ?_
  refine LW.v rfl rfl (Val.assign rfl) ?_
  refine LW.nil ?_
  refine PQ.seq ?_
  refine CW.block ?_
  refine CW.loop (γ := Nat) (fun k => [(0, .slice p n cap), (3, .int .i64 (k : Nat))]) (fun _ => []) (fun k => k ≤ n ∧ ∀ i, i < k → OkAt l i) (fun k => n - k) (0) ⟨Nat.zero_le _, fun i hi => by omega⟩ (by repeat (first | exact trivial | refine ⟨rfl, ?_⟩)) (by repeat (first | exact .nil | apply Pick.cons | exact .here | apply Ext.there)) ?_
  intro k
  intro hJ
  refine CW.seq ?_
  refine CW.seq ?_
  refine CW.region ?_
  refine LW.v rfl rfl (Val.move rfl) ?_
  refine LW.v rfl rfl (Val.move rfl) ?_
  refine LW.v rfl rfl (Val.lenSl rfl Try.underlying22) ?_
  refine LW.v rfl rfl (Val.cmp rfl rfl rfl) ?_
  refine LW.nil ?_
  refine PQ.seq ?_
  refine CW.cond rfl (fun h7 => ?_) (fun h7 => ?_)
  · replace h7 := bT h7
    obtain ⟨b, o, s, rfl, hb, hs, h⟩ := V.slAt_at h hn (k := k) (by omega)
    refine CW.skip ?_
    refine PQ.seq ?_
    refine CW.seq ?_
    refine CW.block ?_
    refine CW.seq ?_
    refine CW.quiet mixed (by kernel_rfl) ?_
    refine QW.v rfl rfl (Val.move rfl) ?_
    refine QW.v rfl rfl (Val.move rfl) ?_
    first | (refine QW.v rfl rfl (Val.indexAddrN rfl rfl Try.underlying22 Try.sizeOf36 (by omega)) ?_) | (refine QW.v rfl rfl (Val.indexAddr rfl rfl Try.underlying22 Try.sizeOf36 (by omega) (by omega)) ?_)
    refine QW.v rfl rfl (Val.fieldAddr 12 rfl Try.underlying36 rfl rfl Try.sizeOf3) ?_
    refine QW.v rfl rfl (Val.loadO rfl Try.isAgg3 hb (by simp [ids]) (h k _ hs 12 _ rfl)) ?_
    refine QW.v rfl rfl (Val.cmp rfl rfl rfl) ?_
    refine QW.v rfl rfl (Val.move rfl) ?_
    refine QW.split (d := 16) rfl (fun h16 => ?_) (fun h16 => ?_)
    · replace h16 := bT h16
      refine QW.p rfl rfl ?_
      refine QW.p rfl rfl ?_
      refine QW.p rfl rfl ?_
      refine QW.p rfl rfl ?_
      refine QW.p rfl rfl ?_
      refine QW.p rfl rfl ?_
      refine QW.p rfl rfl ?_
      refine QW.p rfl rfl ?_
      refine QW.p rfl rfl ?_
      refine QW.p rfl rfl ?_
      refine QW.p rfl rfl ?_
      refine QW.p rfl rfl ?_
      refine QW.p rfl rfl ?_
      refine QW.p rfl rfl ?_
      refine QW.p rfl rfl ?_
      refine QW.p rfl rfl ?_
      refine QW.v rfl rfl (Val.pick_t rfl rfl) ?_
      refine QW.v rfl rfl (Val.move rfl) ?_
      refine QW.p rfl rfl ?_
      refine QW.p rfl rfl ?_
      refine QW.p rfl rfl ?_
      refine QW.p rfl rfl ?_
      refine QW.p rfl rfl ?_
      refine QW.p rfl rfl ?_
      refine QW.p rfl rfl ?_
      refine QW.p rfl rfl ?_
      refine QW.p rfl rfl ?_
      refine QW.p rfl rfl ?_
      refine QW.p rfl rfl ?_
      refine QW.p rfl rfl ?_
      refine QW.p rfl rfl ?_
      refine QW.p rfl rfl ?_
      refine QW.p rfl rfl ?_
      refine QW.p rfl rfl ?_
      refine QW.p rfl rfl ?_
      refine QW.p rfl rfl ?_
      refine QW.p rfl rfl ?_
      refine QW.v rfl rfl (Val.pick_t rfl rfl) ?_
      refine QW.nil ?_
      refine PQ.seq ?_
      refine CW.cond_t rfl ?_
      refine CW.seq ?_
      refine CW.region ?_
      refine LW.v rfl rfl (Val.assign rfl) ?_
      refine LW.nil ?_
      refine PQ.seq ?_
      refine CW.ret ?_
      refine PQ.in_ret ?_
      refine PQ.then_ret ?_
      refine PQ.then_ret ?_
      refine PQ.in_ret ?_
      refine PQ.then_ret ?_
      refine PQ.ret1 rfl rfl ?_
      intro w hw; exact ⟨false, ⟨(fun h => by cases h), fun g => absurd g (may_no hs (.inl (by omega)))⟩, rfl, hw.below⟩
    · replace h16 := bF h16
      refine QW.v rfl rfl (Val.move rfl) ?_
      refine QW.v rfl rfl (Val.cmp rfl rfl rfl) ?_
      refine QW.v rfl rfl (Val.move rfl) ?_
      refine QW.split (d := 19) rfl (fun h19 => ?_) (fun h19 => ?_)
      · replace h19 := bT h19
        obtain ⟨q, hq⟩ : ∃ s, l[k - 1]? = some s := ⟨l[k - 1]'(by omega), by simp⟩
        refine QW.v rfl rfl (Val.move rfl) ?_
        refine QW.v rfl rfl (Val.move rfl) ?_
        first | (refine QW.v rfl rfl (Val.indexAddrN rfl rfl Try.underlying22 Try.sizeOf36 (by omega)) ?_) | (refine QW.v rfl rfl (Val.indexAddr rfl rfl Try.underlying22 Try.sizeOf36 (by omega) (by omega)) ?_)
        refine QW.v rfl rfl (Val.fieldAddr 12 rfl Try.underlying36 rfl rfl Try.sizeOf3) ?_
        refine QW.v rfl rfl (Val.loadO rfl Try.isAgg3 hb (by simp [ids]) (h k _ hs 12 _ rfl)) ?_
        refine QW.v rfl rfl (Val.move rfl) ?_
        refine QW.v rfl rfl (Val.move rfl) ?_
        refine QW.v rfl rfl (Val.ar rfl rfl rfl (IntWalk.i64_in _ (by omega))) ?_
        refine QW.re 27 (.int .i64 ((k - 1 : Nat) : Int)) rfl (by congr 1; omega) ?_
        first | (refine QW.v rfl rfl (Val.indexAddrN rfl rfl Try.underlying22 Try.sizeOf36 (by omega)) ?_) | (refine QW.v rfl rfl (Val.indexAddr rfl rfl Try.underlying22 Try.sizeOf36 (by omega) (by omega)) ?_)
        refine QW.v rfl rfl (Val.fieldAddr 12 rfl Try.underlying36 rfl rfl Try.sizeOf3) ?_
        refine QW.v rfl rfl (Val.loadO rfl Try.isAgg3 hb (by simp [ids]) (h (k - 1) _ hq 12 _ rfl)) ?_
        refine QW.v rfl rfl (Val.cmp rfl rfl rfl) ?_
        refine QW.v rfl rfl (Val.pick_t rfl rfl) ?_
        refine QW.v rfl rfl (Val.pick_f rfl rfl) ?_
        refine QW.v rfl rfl (Val.move rfl) ?_
        refine QW.split (d := 34) rfl (fun h34 => ?_) (fun h34 => ?_)
        · replace h34 := bT h34
          refine QW.p rfl rfl ?_
          refine QW.p rfl rfl ?_
          refine QW.p rfl rfl ?_
          refine QW.p rfl rfl ?_
          refine QW.p rfl rfl ?_
          refine QW.p rfl rfl ?_
          refine QW.p rfl rfl ?_
          refine QW.p rfl rfl ?_
          refine QW.p rfl rfl ?_
          refine QW.p rfl rfl ?_
          refine QW.p rfl rfl ?_
          refine QW.p rfl rfl ?_
          refine QW.p rfl rfl ?_
          refine QW.p rfl rfl ?_
          refine QW.p rfl rfl ?_
          refine QW.p rfl rfl ?_
          refine QW.p rfl rfl ?_
          refine QW.p rfl rfl ?_
          refine QW.p rfl rfl ?_
          refine QW.v rfl rfl (Val.pick_t rfl rfl) ?_
          refine QW.nil ?_
          refine PQ.seq ?_
          refine CW.cond_t rfl ?_
          refine CW.seq ?_
          refine CW.region ?_
          refine LW.v rfl rfl (Val.assign rfl) ?_
          refine LW.nil ?_
          refine PQ.seq ?_
          refine CW.ret ?_
          refine PQ.in_ret ?_
          refine PQ.then_ret ?_
          refine PQ.then_ret ?_
          refine PQ.in_ret ?_
          refine PQ.then_ret ?_
          refine PQ.ret1 rfl rfl ?_
          first | (intro w hw; exact ⟨false, ⟨(fun h => by cases h), fun g => absurd g (may_no hs (.inr (.inr ⟨by omega, by omega⟩)))⟩, rfl, hw.below⟩) | (intro w hw; exact ⟨false, ⟨(fun h => by cases h), fun g => absurd g (may_no hs (.inr (.inl ⟨q, k - 1, by omega, hq, by omega⟩)))⟩, rfl, hw.below⟩)
        · replace h34 := bF h34
          refine QW.v rfl rfl (Val.move rfl) ?_
          refine QW.v rfl rfl (Val.move rfl) ?_
          first | (refine QW.v rfl rfl (Val.indexAddrN rfl rfl Try.underlying22 Try.sizeOf36 (by omega)) ?_) | (refine QW.v rfl rfl (Val.indexAddr rfl rfl Try.underlying22 Try.sizeOf36 (by omega) (by omega)) ?_)
          refine QW.v rfl rfl (Val.fieldAddr 13 rfl Try.underlying36 rfl rfl Try.sizeOf3) ?_
          refine QW.v rfl rfl (Val.loadO rfl Try.isAgg3 hb (by simp [ids]) (h k _ hs 13 _ rfl)) ?_
          refine QW.v rfl rfl (Val.cmp rfl rfl rfl) ?_
          refine QW.v rfl rfl (Val.move rfl) ?_
          refine QW.split (d := 41) rfl (fun h41 => ?_) (fun h41 => ?_)
          · replace h41 := bT h41
            refine QW.v rfl rfl (Val.move rfl) ?_
            refine QW.v rfl rfl (Val.move rfl) ?_
            first | (refine QW.v rfl rfl (Val.indexAddrN rfl rfl Try.underlying22 Try.sizeOf36 (by omega)) ?_) | (refine QW.v rfl rfl (Val.indexAddr rfl rfl Try.underlying22 Try.sizeOf36 (by omega) (by omega)) ?_)
            refine QW.v rfl rfl (Val.fieldAddr 13 rfl Try.underlying36 rfl rfl Try.sizeOf3) ?_
            refine QW.v rfl rfl (Val.loadO rfl Try.isAgg3 hb (by simp [ids]) (h k _ hs 13 _ rfl)) ?_
            refine QW.v rfl rfl (Val.move rfl) ?_
            refine QW.v rfl rfl (Val.move rfl) ?_
            first | (refine QW.v rfl rfl (Val.indexAddrN rfl rfl Try.underlying22 Try.sizeOf36 (by omega)) ?_) | (refine QW.v rfl rfl (Val.indexAddr rfl rfl Try.underlying22 Try.sizeOf36 (by omega) (by omega)) ?_)
            refine QW.v rfl rfl (Val.fieldAddr 12 rfl Try.underlying36 rfl rfl Try.sizeOf3) ?_
            refine QW.v rfl rfl (Val.loadO rfl Try.isAgg3 hb (by simp [ids]) (h k _ hs 12 _ rfl)) ?_
            refine QW.v rfl rfl (Val.cmp rfl rfl rfl) ?_
            refine QW.v rfl rfl (Val.pick_t rfl rfl) ?_
            refine QW.v rfl rfl (Val.pick_f rfl rfl) ?_
            refine QW.nil ?_
            refine PQ.seq ?_
            refine CW.cond rfl (fun h54 => ?_) (fun h54 => ?_)
            · replace h54 := bT h54
              refine CW.seq ?_
              refine CW.region ?_
              refine LW.v rfl rfl (Val.assign rfl) ?_
              refine LW.nil ?_
              refine PQ.seq ?_
              refine CW.ret ?_
              refine PQ.in_ret ?_
              refine PQ.then_ret ?_
              refine PQ.then_ret ?_
              refine PQ.in_ret ?_
              refine PQ.then_ret ?_
              refine PQ.ret1 rfl rfl ?_
              first | (intro w hw; exact ⟨false, ⟨(fun h => by cases h), fun g => absurd g (may_no hs (.inr (.inr ⟨by omega, by omega⟩)))⟩, rfl, hw.below⟩) | (intro w hw; exact ⟨false, ⟨(fun h => by cases h), fun g => absurd g (may_no hs (.inr (.inl ⟨q, k - 1, by omega, hq, by omega⟩)))⟩, rfl, hw.below⟩)
            · replace h54 := bF h54
              refine CW.skip ?_
              refine PQ.in_normal ?_
              refine PQ.seq ?_
              refine CW.region ?_
              refine LW.v rfl rfl (Val.move rfl) ?_
              refine LW.v rfl rfl (Val.ar rfl rfl rfl (IntWalk.i64_in _ (by omega))) ?_
              refine LW.v rfl rfl (Val.assign rfl) ?_
              refine LW.nil ?_
              refine PQ.round (k + 1) ⟨by omega, ok_snoc hJ.2 (fun s' hs' => by have e := hs.symm.trans hs'; cases e; exact ⟨by omega, prev_is hq (by omega), by omega⟩)⟩ (by omega) (by repeat (first | exact trivial | refine ⟨rfl, ?_⟩)) (by repeat (first | exact .nil | apply Pick.cons | exact .here | apply Ext.there))
          · replace h41 := bF h41
            refine QW.p rfl rfl ?_
            refine QW.p rfl rfl ?_
            refine QW.p rfl rfl ?_
            refine QW.p rfl rfl ?_
            refine QW.p rfl rfl ?_
            refine QW.p rfl rfl ?_
            refine QW.p rfl rfl ?_
            refine QW.p rfl rfl ?_
            refine QW.p rfl rfl ?_
            refine QW.p rfl rfl ?_
            refine QW.p rfl rfl ?_
            refine QW.v rfl rfl (Val.pick_f rfl rfl) ?_
            refine QW.v rfl rfl (Val.pick_f rfl rfl) ?_
            refine QW.nil ?_
            refine PQ.seq ?_
            refine CW.cond_f rfl ?_
            refine CW.skip ?_
            refine PQ.in_normal ?_
            refine PQ.seq ?_
            refine CW.region ?_
            refine LW.v rfl rfl (Val.move rfl) ?_
            refine LW.v rfl rfl (Val.ar rfl rfl rfl (IntWalk.i64_in _ (by omega))) ?_
            refine LW.v rfl rfl (Val.assign rfl) ?_
            refine LW.nil ?_
            refine PQ.round (k + 1) ⟨by omega, ok_snoc hJ.2 (fun s' hs' => by have e := hs.symm.trans hs'; cases e; exact ⟨by omega, prev_is hq (by omega), by omega⟩)⟩ (by omega) (by repeat (first | exact trivial | refine ⟨rfl, ?_⟩)) (by repeat (first | exact .nil | apply Pick.cons | exact .here | apply Ext.there))
      · replace h19 := bF h19
        refine QW.p rfl rfl ?_
        refine QW.p rfl rfl ?_
        refine QW.p rfl rfl ?_
        refine QW.p rfl rfl ?_
        refine QW.p rfl rfl ?_
        refine QW.p rfl rfl ?_
        refine QW.p rfl rfl ?_
        refine QW.p rfl rfl ?_
        refine QW.p rfl rfl ?_
        refine QW.p rfl rfl ?_
        refine QW.p rfl rfl ?_
        refine QW.p rfl rfl ?_
        refine QW.v rfl rfl (Val.pick_f rfl rfl) ?_
        refine QW.v rfl rfl (Val.pick_f rfl rfl) ?_
        refine QW.v rfl rfl (Val.move rfl) ?_
        refine QW.v rfl rfl (Val.move rfl) ?_
        refine QW.v rfl rfl (Val.move rfl) ?_
        first | (refine QW.v rfl rfl (Val.indexAddrN rfl rfl Try.underlying22 Try.sizeOf36 (by omega)) ?_) | (refine QW.v rfl rfl (Val.indexAddr rfl rfl Try.underlying22 Try.sizeOf36 (by omega) (by omega)) ?_)
        refine QW.v rfl rfl (Val.fieldAddr 13 rfl Try.underlying36 rfl rfl Try.sizeOf3) ?_
        refine QW.v rfl rfl (Val.loadO rfl Try.isAgg3 hb (by simp [ids]) (h k _ hs 13 _ rfl)) ?_
        refine QW.v rfl rfl (Val.cmp rfl rfl rfl) ?_
        refine QW.v rfl rfl (Val.move rfl) ?_
        refine QW.split (d := 41) rfl (fun h41 => ?_) (fun h41 => ?_)
        · replace h41 := bT h41
          refine QW.v rfl rfl (Val.move rfl) ?_
          refine QW.v rfl rfl (Val.move rfl) ?_
          first | (refine QW.v rfl rfl (Val.indexAddrN rfl rfl Try.underlying22 Try.sizeOf36 (by omega)) ?_) | (refine QW.v rfl rfl (Val.indexAddr rfl rfl Try.underlying22 Try.sizeOf36 (by omega) (by omega)) ?_)
          refine QW.v rfl rfl (Val.fieldAddr 13 rfl Try.underlying36 rfl rfl Try.sizeOf3) ?_
          refine QW.v rfl rfl (Val.loadO rfl Try.isAgg3 hb (by simp [ids]) (h k _ hs 13 _ rfl)) ?_
          refine QW.v rfl rfl (Val.move rfl) ?_
          refine QW.v rfl rfl (Val.move rfl) ?_
          first | (refine QW.v rfl rfl (Val.indexAddrN rfl rfl Try.underlying22 Try.sizeOf36 (by omega)) ?_) | (refine QW.v rfl rfl (Val.indexAddr rfl rfl Try.underlying22 Try.sizeOf36 (by omega) (by omega)) ?_)
          refine QW.v rfl rfl (Val.fieldAddr 12 rfl Try.underlying36 rfl rfl Try.sizeOf3) ?_
          refine QW.v rfl rfl (Val.loadO rfl Try.isAgg3 hb (by simp [ids]) (h k _ hs 12 _ rfl)) ?_
          refine QW.v rfl rfl (Val.cmp rfl rfl rfl) ?_
          refine QW.v rfl rfl (Val.pick_t rfl rfl) ?_
          refine QW.v rfl rfl (Val.pick_f rfl rfl) ?_
          refine QW.nil ?_
          refine PQ.seq ?_
          refine CW.cond rfl (fun h54 => ?_) (fun h54 => ?_)
          · replace h54 := bT h54
            refine CW.seq ?_
            refine CW.region ?_
            refine LW.v rfl rfl (Val.assign rfl) ?_
            refine LW.nil ?_
            refine PQ.seq ?_
            refine CW.ret ?_
            refine PQ.in_ret ?_
            refine PQ.then_ret ?_
            refine PQ.then_ret ?_
            refine PQ.in_ret ?_
            refine PQ.then_ret ?_
            refine PQ.ret1 rfl rfl ?_
            first | (intro w hw; exact ⟨false, ⟨(fun h => by cases h), fun g => absurd g (may_no hs (.inr (.inr ⟨by omega, by omega⟩)))⟩, rfl, hw.below⟩) | (intro w hw; exact ⟨false, ⟨(fun h => by cases h), fun g => absurd g (may_no hs (.inr (.inl ⟨q, k - 1, by omega, hq, by omega⟩)))⟩, rfl, hw.below⟩)
          · replace h54 := bF h54
            refine CW.skip ?_
            refine PQ.in_normal ?_
            refine PQ.seq ?_
            refine CW.region ?_
            refine LW.v rfl rfl (Val.move rfl) ?_
            refine LW.v rfl rfl (Val.ar rfl rfl rfl (IntWalk.i64_in _ (by omega))) ?_
            refine LW.v rfl rfl (Val.assign rfl) ?_
            refine LW.nil ?_
            refine PQ.round (k + 1) ⟨by omega, ok_snoc hJ.2 (fun s' hs' => by have e := hs.symm.trans hs'; cases e; exact ⟨by omega, fun p j hj => by omega, by omega⟩)⟩ (by omega) (by repeat (first | exact trivial | refine ⟨rfl, ?_⟩)) (by repeat (first | exact .nil | apply Pick.cons | exact .here | apply Ext.there))
        · replace h41 := bF h41
          refine QW.p rfl rfl ?_
          refine QW.p rfl rfl ?_
          refine QW.p rfl rfl ?_
          refine QW.p rfl rfl ?_
          refine QW.p rfl rfl ?_
          refine QW.p rfl rfl ?_
          refine QW.p rfl rfl ?_
          refine QW.p rfl rfl ?_
          refine QW.p rfl rfl ?_
          refine QW.p rfl rfl ?_
          refine QW.p rfl rfl ?_
          refine QW.v rfl rfl (Val.pick_f rfl rfl) ?_
          refine QW.v rfl rfl (Val.pick_f rfl rfl) ?_
          refine QW.nil ?_
          refine PQ.seq ?_
          refine CW.cond_f rfl ?_
          refine CW.skip ?_
          refine PQ.in_normal ?_
          refine PQ.seq ?_
          refine CW.region ?_
          refine LW.v rfl rfl (Val.move rfl) ?_
          refine LW.v rfl rfl (Val.ar rfl rfl rfl (IntWalk.i64_in _ (by omega))) ?_
          refine LW.v rfl rfl (Val.assign rfl) ?_
          refine LW.nil ?_
          refine PQ.round (k + 1) ⟨by omega, ok_snoc hJ.2 (fun s' hs' => by have e := hs.symm.trans hs'; cases e; exact ⟨by omega, fun p j hj => by omega, by omega⟩)⟩ (by omega) (by repeat (first | exact trivial | refine ⟨rfl, ?_⟩)) (by repeat (first | exact .nil | apply Pick.cons | exact .here | apply Ext.there))
  · replace h7 := bF h7
    refine CW.exit ?_
    refine PQ.then_exit ?_
    refine PQ.then_exit ?_
    refine PQ.in_here ?_
    refine PQ.seq ?_
    refine CW.seq ?_
    refine CW.region ?_
    refine LW.v rfl rfl (Val.assign rfl) ?_
    refine LW.nil ?_
    refine PQ.seq ?_
    refine CW.ret ?_
    refine PQ.ret1 rfl rfl ?_
    intro w hw; exact ⟨true, ⟨fun _ i hi => hJ.2 i (by omega), fun _ => rfl⟩, rfl, hw.below⟩
theorem rpoints_c (p : Option Addr) (n cap : Nat) (l : List Sto) (w : World) (hn : l.length = n) (h : V.slAt w p 14 Sto.cells l) (hm : n ≤ 60) : Calls Try.prog 26 [.slice p n cap].toArray w
    fun e w' => ∃ o : V.OwnO, ownOk 14 (l.filter qP).length ((l.filter qP).flatMap Sto.cells) o ∧ e = .returned (ownV (l.filter qP).length o) ∧ Hp ⟨w, []⟩ [ownG 36 ((l.filter qP).flatMap Sto.cells) o] w' := by
  refine V.calls [] Try.func26 rfl Try.ntmps26 (Nat.le_of_ble_eq_true rfl) (V.sat_nil _) ?_
  refine CW.seq ?_
  refine CW.region ?_
  refine LW.v rfl rfl (Val.assign rfl) ?_
  refine LW.nil ?_
  refine PQ.seq ?_
  refine CW.seq ?_
  refine CW.region ?_
  refine LW.v rfl rfl (Val.assign rfl) ?_
  refine LW.nil ?_
  refine PQ.seq ?_
  refine CW.seq ?_
  refine CW.seq ?_
  refine CW.region ?_
  refine LW.v rfl rfl (Val.assign rfl) ?_
  refine LW.nil ?_
  refine PQ.seq ?_
  refine CW.block ?_
  refine V.CW.addOwn 36 ?_
  refine CW.loop (γ := Nat × V.OwnO) (fun k => [(0, .slice p n cap), (3, ownV ((l.take k.1).filter qP).length k.2), (4, .int .i64 (k.1 : Nat))]) (fun k => [ownG 36 (((l.take k.1).filter qP).flatMap Sto.cells) k.2]) (fun k => k.1 ≤ n ∧ ownOk 14 ((l.take k.1).filter qP).length (((l.take k.1).filter qP).flatMap Sto.cells) k.2 ∧ ((l.take k.1).filter qP).length ≤ k.1) (fun k => n - k.1) ((0, none)) ⟨Nat.zero_le _, ⟨rfl, rfl⟩, Nat.le_refl _⟩ (by repeat (first | exact trivial | refine ⟨rfl, ?_⟩)) (by repeat (first | exact .nil | apply Pick.cons | exact .here | apply Ext.there)) ?_
  intro k
  rintro ⟨hk1, hk2, hk3⟩
  refine CW.seq ?_
  refine CW.seq ?_
  refine CW.region ?_
  refine LW.v rfl rfl (Val.move rfl) ?_
  refine LW.v rfl rfl (Val.move rfl) ?_
  refine LW.v rfl rfl (Val.lenSl rfl Try.underlying22) ?_
  refine LW.v rfl rfl (Val.cmp rfl rfl rfl) ?_
  refine LW.nil ?_
  refine PQ.seq ?_
  refine CW.cond rfl (fun h8 => ?_) (fun h8 => ?_)
  · replace h8 := bT h8
    obtain ⟨b, o', s, rfl, hb, hsx, hr⟩ := V.slAt_at h hn (k := k.1) (by omega)
    refine CW.skip ?_
    refine PQ.seq ?_
    refine CW.seq ?_
    refine CW.block ?_
    refine CW.seq ?_
    refine CW.region ?_
    refine LW.v rfl rfl (Val.move rfl) ?_
    refine LW.v rfl rfl (Val.move rfl) ?_
    first | (refine LW.v rfl rfl (Val.indexAddrN rfl rfl Try.underlying22 Try.sizeOf36 (by omega)) ?_) | (refine LW.v rfl rfl (Val.indexAddr rfl rfl Try.underlying22 Try.sizeOf36 (by omega) (by omega)) ?_)
    refine LW.v rfl rfl (Val.fieldAddr 1 rfl Try.underlying36 rfl rfl Try.sizeOf28) ?_
    refine LW.v rfl rfl (Val.fieldAddr 0 rfl Try.underlying28 rfl rfl Try.sizeOf3) ?_
    refine LW.v rfl rfl (Val.loadO rfl Try.isAgg3 hb (by simp [ids]) (hr _ _ hsx 1 _ rfl)) ?_
    refine LW.e rfl rfl (Eff.callV rfl Try.call56 (fun w hw => point_c s.call.ck w)) ?_
    intro _ _
    refine LW.re 17 (.bool (qP s)) rfl rfl ?_
    refine LW.nil ?_
    refine PQ.seq ?_
    refine CW.cond rfl (fun h17 => ?_) (fun h17 => ?_)
    · replace h17 := bT h17
      have hF : ((l.take (k.1 + 1)).filter qP) = ((l.take k.1).filter qP) ++ [s] := by rw [filter_snoc hsx, if_pos h17]
      refine CW.region ?_
      refine LW.v rfl rfl (Val.move rfl) ?_
      refine LW.v rfl rfl (Val.move rfl) ?_
      refine LW.v rfl rfl (Val.move rfl) ?_
      first | (refine LW.v rfl rfl (Val.indexAddrN rfl rfl Try.underlying22 Try.sizeOf36 (by omega)) ?_) | (refine LW.v rfl rfl (Val.indexAddr rfl rfl Try.underlying22 Try.sizeOf36 (by omega) (by omega)) ?_)
      refine LW.v rfl rfl (Val.loadOA rfl Try.isAgg36 hb (by simp [ids]) (hr _ _ hsx) Try.sizeOf36) ?_
      refine LW.e rfl rfl (Eff.buildSlice (rfl) [_, _, _, _, _, _, _, _, _, _, _, _, _, _] Try.underlying22 Try.sizeOf36 (by exact Try.zeroValue36) rfl rfl rfl rfl (by rfl)) ?_
      intro b23 _
      refine LW.e rfl rfl (Eff.appendAny (s.cells) (sz := 14) (bytes := 192) (z := .agg #[.int .i64 0, .int .i64 0, .string ⟨#[]⟩, .string ⟨#[]⟩, .string ⟨#[]⟩, .slice none 0 0, .int .i64 0, .bool false, .string ⟨#[]⟩, .slice none 0 0, .slice none 0 0, .int .u64 0, .int .i64 0, .int .i64 0]) (xs := ((l.take k.1).filter qP).flatMap Sto.cells) (m0 := ((l.take k.1).filter qP).length) (o := k.2) (m := 1) (pk := [ownG 36 (((l.take k.1).filter qP).flatMap Sto.cells) k.2]) rfl rfl Try.underlying22 (by kernel_rfl) rfl (by omega) (by repeat (first | exact .nil | apply Pick.cons | exact .here | apply Ext.there)) (by simp) hk2 (by rfl) (fun hm0 => ⟨b23, 0, rfl, fun w hw => V.range_of_block (o := 0) (cs := s.cells) (r := []) (hw.own _ (show InS (b23, .cells (s.cells).toArray 36 (0, 0)) _ from (by repeat (first | exact .here | refine .there ?_))).mem) rfl⟩) (by rfl) (by omega) (by omega)) ?_
      intro o9 ho9
      refine LW.v rfl rfl (Val.assign rfl) ?_
      refine LW.nil ?_
      refine PQ.in_normal ?_
      refine PQ.seq ?_
      refine CW.region ?_
      refine LW.v rfl rfl (Val.move rfl) ?_
      refine LW.v rfl rfl (Val.ar rfl rfl rfl (IntWalk.i64_in _ (by omega))) ?_
      refine LW.v rfl rfl (Val.assign rfl) ?_
      refine LW.nil ?_
      refine PQ.segs (ss := [ownG 36 (((l.take k.1).filter qP).flatMap Sto.cells ++ s.cells) o9]) ?_ (by repeat (first | exact .nil | apply Pick.cons | exact .here | apply Ext.there))
      rw [show ((l.take k.1).filter qP).flatMap Sto.cells ++ s.cells = ((l.take (k.1 + 1)).filter qP).flatMap Sto.cells from by rw [hF, flat_snoc]]
      refine PQ.round ((k.1 + 1, o9)) ⟨by simp only; omega, by simp only; rw [hF, flat_snoc, List.length_append]; exact ho9, by simp only; rw [hF, List.length_append]; simp only [List.length_cons, List.length_nil]; omega⟩ (by simp only; omega) (by exact ⟨rfl, by simp only; rw [hF, List.length_append]; rfl, rfl, trivial⟩) (by repeat (first | exact .nil | apply Pick.cons | exact .here | apply Ext.there))
    · replace h17 := bF h17
      have hF : ((l.take (k.1 + 1)).filter qP) = ((l.take k.1).filter qP) := by rw [filter_snoc hsx, if_neg (by simpa using h17), List.append_nil]
      refine CW.skip ?_
      refine PQ.in_normal ?_
      refine PQ.seq ?_
      refine CW.region ?_
      refine LW.v rfl rfl (Val.move rfl) ?_
      refine LW.v rfl rfl (Val.ar rfl rfl rfl (IntWalk.i64_in _ (by omega))) ?_
      refine LW.v rfl rfl (Val.assign rfl) ?_
      refine LW.nil ?_
      rw [show ((l.take k.1).filter qP).flatMap Sto.cells = ((l.take (k.1 + 1)).filter qP).flatMap Sto.cells from by rw [hF]]
      refine PQ.round ((k.1 + 1, k.2)) ⟨by simp only; omega, by simp only; rw [hF]; exact hk2, by simp only; rw [hF]; omega⟩ (by simp only; omega) (by exact ⟨rfl, by simp only; rw [hF]; rfl, rfl, trivial⟩) (by repeat (first | exact .nil | apply Pick.cons | exact .here | apply Ext.there))
  · replace h8 := bF h8
    refine CW.exit ?_
    refine PQ.then_exit ?_
    refine PQ.then_exit ?_
    refine PQ.in_here ?_
    refine PQ.seq ?_
    refine CW.seq ?_
    refine CW.region ?_
    refine LW.v rfl rfl (Val.move rfl) ?_
    refine LW.v rfl rfl (Val.assign rfl) ?_
    refine LW.nil ?_
    refine PQ.seq ?_
    refine CW.ret ?_
    refine PQ.ret1 rfl rfl ?_
    intro w' hw
    have h9 : l.take k.1 = l := List.take_of_length_le (by omega)
    rw [h9] at hk2 hw
    exact ⟨k.2, hk2, by rw [h9], hw⟩
end Go.Proofs.Ytaihimbjdgmjgaa
