/- Events compared and printed; the walk of ScriptPrints. -/
import Derived.Test.YtagliemeolngiaaDoorScK
import Derived.Lib.Hide
namespace Go.Proofs.YtagliemeolngiaaDoor
open Go Go.RowKit V
set_option linter.unusedVariables false
set_option maxRecDepth 100000
open V (str byC ownV ownG ownS ownOk)
theorem sameCall_c (c : Cq) (g1 g2 : Sl) (gl : List Cq) (hn1 : g1.n = gl.length) (hn2 : g2.n = gl.length) (hz : ∀ x ∈ gl, x.grp.n = 0) (hl : gl.length ≤ 100000) (w : World) (h1 : V.slAt w g1.a 5 Cq.cells gl) (h2 : V.slAt w g2.a 5 Cq.cells gl) :
    Calls Tryd.prog 38 [.agg (c.re g1).cells.toArray, .agg (c.re g2).cells.toArray].toArray w fun e w' => e = .returned (.bool true) ∧ Below w.heap.size w w' := by
  have hgn1 : (c.re g1).grp.n = gl.length := hn1
  have hgn2 : (c.re g2).grp.n = gl.length := hn2
  refine V.calls [] Tryd.func38 rfl Tryd.ntmps38 (Nat.le_of_ble_eq_true rfl) (V.sat_nil _) ?_
  refine CW.seq ?_
  refine CW.region ?_
  refine LW.e rfl rfl (Eff.boxA rfl) ?_
  intro b2 _
  refine LW.e rfl rfl (Eff.boxA rfl) ?_
  intro b3 _
  refine LW.v rfl rfl (Val.assign rfl) ?_
  refine LW.nil ?_
  refine PQ.seq ?_
  refine CW.seq ?_
  refine CW.seq ?_
  refine CW.region ?_
  refine LW.v rfl rfl (Val.fieldAddr 0 rfl Tryd.underlying41 rfl rfl Tryd.sizeOf3) ?_
  refine LW.v rfl rfl (Val.load rfl Tryd.isAgg3 (by repeat (first | exact .here | refine .there ?_)) (by rfl)) ?_
  refine LW.v rfl rfl (Val.fieldAddr 0 rfl Tryd.underlying41 rfl rfl Tryd.sizeOf3) ?_
  refine LW.v rfl rfl (Val.load rfl Tryd.isAgg3 (by repeat (first | exact .here | refine .there ?_)) (by rfl)) ?_
  refine LW.v rfl rfl (Val.cmp rfl rfl rfl) ?_
  refine LW.re 12 (.bool false) rfl (by simp [Cq.re]) ?_
  refine LW.v rfl rfl (Val.move rfl) ?_
  refine LW.v rfl rfl (Val.fieldAddr 1 rfl Tryd.underlying41 rfl rfl Tryd.sizeOf9) ?_
  refine LW.v rfl rfl (Val.load rfl Tryd.isAgg9 (by repeat (first | exact .here | refine .there ?_)) (by rfl)) ?_
  refine LW.v rfl rfl (Val.fieldAddr 1 rfl Tryd.underlying41 rfl rfl Tryd.sizeOf9) ?_
  refine LW.v rfl rfl (Val.load rfl Tryd.isAgg9 (by repeat (first | exact .here | refine .there ?_)) (by rfl)) ?_
  refine LW.v rfl rfl (Val.neStr rfl rfl) ?_
  refine LW.re 18 (.bool false) rfl (by simp [Cq.re]) ?_
  refine LW.v rfl rfl (Val.pick_f rfl rfl) ?_
  refine LW.v rfl rfl (Val.move rfl) ?_
  refine LW.v rfl rfl (Val.fieldAddr 2 rfl Tryd.underlying41 rfl rfl Tryd.sizeOf9) ?_
  refine LW.v rfl rfl (Val.load rfl Tryd.isAgg9 (by repeat (first | exact .here | refine .there ?_)) (by rfl)) ?_
  refine LW.v rfl rfl (Val.fieldAddr 2 rfl Tryd.underlying41 rfl rfl Tryd.sizeOf9) ?_
  refine LW.v rfl rfl (Val.load rfl Tryd.isAgg9 (by repeat (first | exact .here | refine .there ?_)) (by rfl)) ?_
  refine LW.v rfl rfl (Val.neStr rfl rfl) ?_
  refine LW.re 25 (.bool false) rfl (by simp [Cq.re]) ?_
  refine LW.v rfl rfl (Val.pick_f rfl rfl) ?_
  refine LW.v rfl rfl (Val.move rfl) ?_
  refine LW.v rfl rfl (Val.fieldAddr 3 rfl Tryd.underlying41 rfl rfl Tryd.sizeOf9) ?_
  refine LW.v rfl rfl (Val.load rfl Tryd.isAgg9 (by repeat (first | exact .here | refine .there ?_)) (by rfl)) ?_
  refine LW.v rfl rfl (Val.fieldAddr 3 rfl Tryd.underlying41 rfl rfl Tryd.sizeOf9) ?_
  refine LW.v rfl rfl (Val.load rfl Tryd.isAgg9 (by repeat (first | exact .here | refine .there ?_)) (by rfl)) ?_
  refine LW.v rfl rfl (Val.neStr rfl rfl) ?_
  refine LW.re 32 (.bool false) rfl (by simp [Cq.re]) ?_
  refine LW.v rfl rfl (Val.pick_f rfl rfl) ?_
  refine LW.v rfl rfl (Val.move rfl) ?_
  refine LW.v rfl rfl (Val.fieldAddr 4 rfl Tryd.underlying41 rfl rfl Tryd.sizeOf39) ?_
  refine LW.v rfl rfl (Val.load rfl Tryd.isAgg39 (by repeat (first | exact .here | refine .there ?_)) (by rfl)) ?_
  refine LW.v rfl rfl (Val.lenSl rfl Tryd.underlying39) ?_
  refine LW.v rfl rfl (Val.fieldAddr 4 rfl Tryd.underlying41 rfl rfl Tryd.sizeOf39) ?_
  refine LW.v rfl rfl (Val.load rfl Tryd.isAgg39 (by repeat (first | exact .here | refine .there ?_)) (by rfl)) ?_
  refine LW.v rfl rfl (Val.lenSl rfl Tryd.underlying39) ?_
  refine LW.v rfl rfl (Val.cmp rfl rfl rfl) ?_
  refine LW.re 41 (.bool false) rfl (by simp [Cq.re, hn1, hn2]) ?_
  refine LW.v rfl rfl (Val.pick_f rfl rfl) ?_
  refine LW.nil ?_
  refine PQ.seq ?_
  refine CW.cond_f rfl ?_
  refine CW.skip ?_
  refine PQ.seq ?_
  refine CW.seq ?_
  refine CW.seq ?_
  refine CW.region ?_
  refine LW.v rfl rfl (Val.assign rfl) ?_
  refine LW.nil ?_
  refine PQ.seq ?_
  refine CW.block ?_
  refine CW.loop (γ := Nat) (fun k => [(2, .pointer (some ⟨b2, 0, none⟩)), (3, .pointer (some ⟨b3, 0, none⟩)), (5, .int .i64 (k : Nat))]) (fun _ => [[(b2, .cells (c.re g1).cells.toArray 41 (0, 0))], [(b3, .cells (c.re g2).cells.toArray 41 (0, 0))]]) (fun k => k ≤ gl.length) (fun k => gl.length - k) (0) (Nat.zero_le _) (by repeat (first | exact trivial | refine ⟨rfl, ?_⟩)) (by repeat (first | exact .nil | apply Pick.cons | exact .here | apply Ext.there)) ?_
  intro k
  intro hJ
  refine CW.seq ?_
  refine CW.seq ?_
  refine CW.region ?_
  refine LW.v rfl rfl (Val.move rfl) ?_
  refine LW.v rfl rfl (Val.fieldAddr 4 rfl Tryd.underlying41 rfl rfl Tryd.sizeOf39) ?_
  refine LW.v rfl rfl (Val.load rfl Tryd.isAgg39 (by repeat (first | exact .here | refine .there ?_)) (by rfl)) ?_
  refine LW.v rfl rfl (Val.lenSl rfl Tryd.underlying39) ?_
  refine LW.v rfl rfl (Val.cmp rfl rfl rfl) ?_
  refine LW.nil ?_
  refine PQ.seq ?_
  refine CW.cond rfl (fun h47 => ?_) (fun h47 => ?_)
  · replace h47 := bT h47
    obtain ⟨bb1, o1, x, hp1, hbb1, hx, hr1⟩ := V.slAt_at h1 rfl (k := k) (by omega)
    obtain ⟨bb2, o2, y, hp2, hbb2, hy, hr2⟩ := V.slAt_at h2 rfl (k := k) (by omega)
    obtain rfl : x = y := by rw [hx] at hy; cases hy; rfl
    refine CW.skip ?_
    refine PQ.seq ?_
    refine CW.seq ?_
    refine CW.block ?_
    refine CW.seq ?_
    refine CW.drawn ([[(b2, .cells (c.re g1).cells.toArray 41 (0, 0))], [(b3, .cells (c.re g2).cells.toArray 41 (0, 0))]]) mixed (by repeat (first | exact .nil | apply Pick.cons | exact .here | apply Ext.there)) ?_
    refine RW.v 0 rfl (by kernel_rfl) (by kernel_rfl) (by kernel_rfl) (fun _ _ _ h => h) rfl rfl (Val.fieldAddr 4 rfl Tryd.underlying41 rfl rfl Tryd.sizeOf39) ?_
    refine RW.v 1 rfl (by kernel_rfl) (by kernel_rfl) (by kernel_rfl) (fun _ _ _ h => h) rfl rfl (Val.load (v := .slice (some ⟨bb1, o1, none⟩) g1.n g1.c) rfl Tryd.isAgg39 (by repeat (first | exact .here | refine .there ?_)) (by rw [← hp1]; rfl)) ?_
    refine RW.v 2 rfl (by kernel_rfl) (by kernel_rfl) (by kernel_rfl) (fun _ _ _ h => h) rfl rfl (Val.move rfl) ?_
    first | (refine RW.v 3 rfl (by kernel_rfl) (by kernel_rfl) (by kernel_rfl) (fun _ _ _ h => h) rfl rfl (Val.indexAddrN rfl rfl Tryd.underlying39 Tryd.sizeOf41 (by omega)) ?_) | (refine RW.v 3 rfl (by kernel_rfl) (by kernel_rfl) (by kernel_rfl) (fun _ _ _ h => h) rfl rfl (Val.indexAddr rfl rfl Tryd.underlying39 Tryd.sizeOf41 (by omega) (by omega)) ?_)
    refine RW.v 4 rfl (by kernel_rfl) (by kernel_rfl) (by kernel_rfl) (fun _ _ _ h => h) rfl rfl (Val.loadOA rfl Tryd.isAgg41 hbb1 (by simp [ids]) (hr1 k x hx) Tryd.sizeOf41) ?_
    refine RW.v 5 rfl (by kernel_rfl) (by kernel_rfl) (by kernel_rfl) (fun _ _ _ h => h) rfl rfl (Val.fieldAddr 4 rfl Tryd.underlying41 rfl rfl Tryd.sizeOf39) ?_
    refine RW.v 6 rfl (by kernel_rfl) (by kernel_rfl) (by kernel_rfl) (fun _ _ _ h => h) rfl rfl (Val.load (v := .slice (some ⟨bb2, o2, none⟩) g2.n g2.c) rfl Tryd.isAgg39 (by repeat (first | exact .here | refine .there ?_)) (by rw [← hp2]; rfl)) ?_
    refine RW.v 7 rfl (by kernel_rfl) (by kernel_rfl) (by kernel_rfl) (fun _ _ _ h => h) rfl rfl (Val.move rfl) ?_
    first | (refine RW.v 8 rfl (by kernel_rfl) (by kernel_rfl) (by kernel_rfl) (fun _ _ _ h => h) rfl rfl (Val.indexAddrN rfl rfl Tryd.underlying39 Tryd.sizeOf41 (by omega)) ?_) | (refine RW.v 8 rfl (by kernel_rfl) (by kernel_rfl) (by kernel_rfl) (fun _ _ _ h => h) rfl rfl (Val.indexAddr rfl rfl Tryd.underlying39 Tryd.sizeOf41 (by omega) (by omega)) ?_)
    refine RW.v 9 rfl (by kernel_rfl) (by kernel_rfl) (by kernel_rfl) (fun _ _ _ h => h) rfl rfl (Val.loadOA rfl Tryd.isAgg41 hbb2 (by simp [ids]) (hr2 k _ hx) Tryd.sizeOf41) ?_
    refine RW.any [10, 11] (by kernel_rfl) (by simp) ?_
    intro i hi
    simp only [List.mem_cons, List.not_mem_nil, or_false] at hi
    rcases hi with rfl | rfl
    · refine RO.e rfl rfl rfl (Eff.allocA (by exact Tryd.zeroValue41)) (fun x => ⟨_, (by repeat (first | exact .nil | apply Pick.cons | exact .here | apply Ext.there))⟩) ?_
      intro b6 _
      refine RW.e 11 rfl (by kernel_rfl) rfl rfl (Eff.allocA (by exact Tryd.zeroValue41)) (fun x => ⟨_, (by repeat (first | exact .nil | apply Pick.cons | exact .here | apply Ext.there))⟩) ?_
      intro b7 _
      first | (refine RW.eN 12 rfl (by kernel_rfl) rfl (Eff.storeW rfl rfl (by repeat (first | exact .here | apply Upd.there)) (by rfl) Tryd.sizeOf41 (by rfl)) (fun x => ⟨_, (by repeat (first | exact .nil | apply Pick.cons | exact .here | apply Ext.there))⟩) ?_) | (refine RW.eN 12 rfl (by kernel_rfl) rfl (Eff.storeA (l' := _) rfl rfl (by repeat (first | exact .here | apply Upd.there)) (by rfl) (by decide) Tryd.sizeOf41 (by rfl)) (fun x => ⟨_, (by repeat (first | exact .nil | apply Pick.cons | exact .here | apply Ext.there))⟩) ?_)
      intro _ _
      first | (refine RW.eN 13 rfl (by kernel_rfl) rfl (Eff.storeW rfl rfl (by repeat (first | exact .here | apply Upd.there)) (by rfl) Tryd.sizeOf41 (by rfl)) (fun x => ⟨_, (by repeat (first | exact .nil | apply Pick.cons | exact .here | apply Ext.there))⟩) ?_) | (refine RW.eN 13 rfl (by kernel_rfl) rfl (Eff.storeA (l' := _) rfl rfl (by repeat (first | exact .here | apply Upd.there)) (by rfl) (by decide) Tryd.sizeOf41 (by rfl)) (fun x => ⟨_, (by repeat (first | exact .nil | apply Pick.cons | exact .here | apply Ext.there))⟩) ?_)
      intro _ _
      refine RW.done (by kernel_rfl) ?_
      refine PQ.seq ?_
      refine CW.seq ?_
      refine CW.region ?_
      refine LW.v rfl rfl (Val.fieldAddr 0 rfl Tryd.underlying41 rfl rfl Tryd.sizeOf3) ?_
      refine LW.v rfl rfl (Val.load rfl Tryd.isAgg3 (by repeat (first | exact .here | refine .there ?_)) (by rfl)) ?_
      refine LW.v rfl rfl (Val.fieldAddr 0 rfl Tryd.underlying41 rfl rfl Tryd.sizeOf3) ?_
      refine LW.v rfl rfl (Val.load rfl Tryd.isAgg3 (by repeat (first | exact .here | refine .there ?_)) (by rfl)) ?_
      refine LW.v rfl rfl (Val.cmp rfl rfl rfl) ?_
      refine LW.re 64 (.bool false) rfl (by simp [Cq.re]) ?_
      refine LW.v rfl rfl (Val.move rfl) ?_
      refine LW.v rfl rfl (Val.fieldAddr 1 rfl Tryd.underlying41 rfl rfl Tryd.sizeOf9) ?_
      refine LW.v rfl rfl (Val.load rfl Tryd.isAgg9 (by repeat (first | exact .here | refine .there ?_)) (by rfl)) ?_
      refine LW.v rfl rfl (Val.fieldAddr 1 rfl Tryd.underlying41 rfl rfl Tryd.sizeOf9) ?_
      refine LW.v rfl rfl (Val.load rfl Tryd.isAgg9 (by repeat (first | exact .here | refine .there ?_)) (by rfl)) ?_
      refine LW.v rfl rfl (Val.neStr rfl rfl) ?_
      refine LW.re 70 (.bool false) rfl (by simp [Cq.re]) ?_
      refine LW.v rfl rfl (Val.pick_f rfl rfl) ?_
      refine LW.v rfl rfl (Val.move rfl) ?_
      refine LW.v rfl rfl (Val.fieldAddr 2 rfl Tryd.underlying41 rfl rfl Tryd.sizeOf9) ?_
      refine LW.v rfl rfl (Val.load rfl Tryd.isAgg9 (by repeat (first | exact .here | refine .there ?_)) (by rfl)) ?_
      refine LW.v rfl rfl (Val.fieldAddr 2 rfl Tryd.underlying41 rfl rfl Tryd.sizeOf9) ?_
      refine LW.v rfl rfl (Val.load rfl Tryd.isAgg9 (by repeat (first | exact .here | refine .there ?_)) (by rfl)) ?_
      refine LW.v rfl rfl (Val.neStr rfl rfl) ?_
      refine LW.re 77 (.bool false) rfl (by simp [Cq.re]) ?_
      refine LW.v rfl rfl (Val.pick_f rfl rfl) ?_
      refine LW.v rfl rfl (Val.move rfl) ?_
      refine LW.v rfl rfl (Val.fieldAddr 3 rfl Tryd.underlying41 rfl rfl Tryd.sizeOf9) ?_
      refine LW.v rfl rfl (Val.load rfl Tryd.isAgg9 (by repeat (first | exact .here | refine .there ?_)) (by rfl)) ?_
      refine LW.v rfl rfl (Val.fieldAddr 3 rfl Tryd.underlying41 rfl rfl Tryd.sizeOf9) ?_
      refine LW.v rfl rfl (Val.load rfl Tryd.isAgg9 (by repeat (first | exact .here | refine .there ?_)) (by rfl)) ?_
      refine LW.v rfl rfl (Val.neStr rfl rfl) ?_
      refine LW.re 84 (.bool false) rfl (by simp [Cq.re]) ?_
      refine LW.v rfl rfl (Val.pick_f rfl rfl) ?_
      refine LW.v rfl rfl (Val.move rfl) ?_
      refine LW.v rfl rfl (Val.fieldAddr 4 rfl Tryd.underlying41 rfl rfl Tryd.sizeOf39) ?_
      refine LW.v rfl rfl (Val.load rfl Tryd.isAgg39 (by repeat (first | exact .here | refine .there ?_)) (by rfl)) ?_
      refine LW.v rfl rfl (Val.lenSl rfl Tryd.underlying39) ?_
      refine LW.v rfl rfl (Val.fieldAddr 4 rfl Tryd.underlying41 rfl rfl Tryd.sizeOf39) ?_
      refine LW.v rfl rfl (Val.load rfl Tryd.isAgg39 (by repeat (first | exact .here | refine .there ?_)) (by rfl)) ?_
      refine LW.v rfl rfl (Val.lenSl rfl Tryd.underlying39) ?_
      refine LW.v rfl rfl (Val.cmp rfl rfl rfl) ?_
      refine LW.re 93 (.bool false) rfl (by simp [Cq.re]) ?_
      refine LW.v rfl rfl (Val.pick_f rfl rfl) ?_
      refine LW.nil ?_
      refine PQ.seq ?_
      refine CW.cond_f rfl ?_
      refine CW.skip ?_
      refine PQ.in_normal ?_
      refine PQ.seq ?_
      refine CW.region ?_
      refine LW.v rfl rfl (Val.move rfl) ?_
      refine LW.v rfl rfl (Val.ar rfl rfl rfl (IntWalk.i64_in _ (by omega))) ?_
      refine LW.v rfl rfl (Val.assign rfl) ?_
      refine LW.nil ?_
      refine PQ.round (k + 1) (by omega) (by omega) (by repeat (first | exact trivial | refine ⟨rfl, ?_⟩)) (by repeat (first | exact .nil | apply Pick.cons | exact .here | apply Ext.there))
    · refine RO.e rfl rfl rfl (Eff.allocA (by exact Tryd.zeroValue41)) (fun x => ⟨_, (by repeat (first | exact .nil | apply Pick.cons | exact .here | apply Ext.there))⟩) ?_
      intro b7 _
      refine RW.e 10 rfl (by kernel_rfl) rfl rfl (Eff.allocA (by exact Tryd.zeroValue41)) (fun x => ⟨_, (by repeat (first | exact .nil | apply Pick.cons | exact .here | apply Ext.there))⟩) ?_
      intro b6 _
      first | (refine RW.eN 12 rfl (by kernel_rfl) rfl (Eff.storeW rfl rfl (by repeat (first | exact .here | apply Upd.there)) (by rfl) Tryd.sizeOf41 (by rfl)) (fun x => ⟨_, (by repeat (first | exact .nil | apply Pick.cons | exact .here | apply Ext.there))⟩) ?_) | (refine RW.eN 12 rfl (by kernel_rfl) rfl (Eff.storeA (l' := _) rfl rfl (by repeat (first | exact .here | apply Upd.there)) (by rfl) (by decide) Tryd.sizeOf41 (by rfl)) (fun x => ⟨_, (by repeat (first | exact .nil | apply Pick.cons | exact .here | apply Ext.there))⟩) ?_)
      intro _ _
      first | (refine RW.eN 13 rfl (by kernel_rfl) rfl (Eff.storeW rfl rfl (by repeat (first | exact .here | apply Upd.there)) (by rfl) Tryd.sizeOf41 (by rfl)) (fun x => ⟨_, (by repeat (first | exact .nil | apply Pick.cons | exact .here | apply Ext.there))⟩) ?_) | (refine RW.eN 13 rfl (by kernel_rfl) rfl (Eff.storeA (l' := _) rfl rfl (by repeat (first | exact .here | apply Upd.there)) (by rfl) (by decide) Tryd.sizeOf41 (by rfl)) (fun x => ⟨_, (by repeat (first | exact .nil | apply Pick.cons | exact .here | apply Ext.there))⟩) ?_)
      intro _ _
      refine RW.done (by kernel_rfl) ?_
      refine PQ.seq ?_
      refine CW.seq ?_
      refine CW.region ?_
      refine LW.v rfl rfl (Val.fieldAddr 0 rfl Tryd.underlying41 rfl rfl Tryd.sizeOf3) ?_
      refine LW.v rfl rfl (Val.load rfl Tryd.isAgg3 (by repeat (first | exact .here | refine .there ?_)) (by rfl)) ?_
      refine LW.v rfl rfl (Val.fieldAddr 0 rfl Tryd.underlying41 rfl rfl Tryd.sizeOf3) ?_
      refine LW.v rfl rfl (Val.load rfl Tryd.isAgg3 (by repeat (first | exact .here | refine .there ?_)) (by rfl)) ?_
      refine LW.v rfl rfl (Val.cmp rfl rfl rfl) ?_
      refine LW.re 64 (.bool false) rfl (by simp [Cq.re]) ?_
      refine LW.v rfl rfl (Val.move rfl) ?_
      refine LW.v rfl rfl (Val.fieldAddr 1 rfl Tryd.underlying41 rfl rfl Tryd.sizeOf9) ?_
      refine LW.v rfl rfl (Val.load rfl Tryd.isAgg9 (by repeat (first | exact .here | refine .there ?_)) (by rfl)) ?_
      refine LW.v rfl rfl (Val.fieldAddr 1 rfl Tryd.underlying41 rfl rfl Tryd.sizeOf9) ?_
      refine LW.v rfl rfl (Val.load rfl Tryd.isAgg9 (by repeat (first | exact .here | refine .there ?_)) (by rfl)) ?_
      refine LW.v rfl rfl (Val.neStr rfl rfl) ?_
      refine LW.re 70 (.bool false) rfl (by simp [Cq.re]) ?_
      refine LW.v rfl rfl (Val.pick_f rfl rfl) ?_
      refine LW.v rfl rfl (Val.move rfl) ?_
      refine LW.v rfl rfl (Val.fieldAddr 2 rfl Tryd.underlying41 rfl rfl Tryd.sizeOf9) ?_
      refine LW.v rfl rfl (Val.load rfl Tryd.isAgg9 (by repeat (first | exact .here | refine .there ?_)) (by rfl)) ?_
      refine LW.v rfl rfl (Val.fieldAddr 2 rfl Tryd.underlying41 rfl rfl Tryd.sizeOf9) ?_
      refine LW.v rfl rfl (Val.load rfl Tryd.isAgg9 (by repeat (first | exact .here | refine .there ?_)) (by rfl)) ?_
      refine LW.v rfl rfl (Val.neStr rfl rfl) ?_
      refine LW.re 77 (.bool false) rfl (by simp [Cq.re]) ?_
      refine LW.v rfl rfl (Val.pick_f rfl rfl) ?_
      refine LW.v rfl rfl (Val.move rfl) ?_
      refine LW.v rfl rfl (Val.fieldAddr 3 rfl Tryd.underlying41 rfl rfl Tryd.sizeOf9) ?_
      refine LW.v rfl rfl (Val.load rfl Tryd.isAgg9 (by repeat (first | exact .here | refine .there ?_)) (by rfl)) ?_
      refine LW.v rfl rfl (Val.fieldAddr 3 rfl Tryd.underlying41 rfl rfl Tryd.sizeOf9) ?_
      refine LW.v rfl rfl (Val.load rfl Tryd.isAgg9 (by repeat (first | exact .here | refine .there ?_)) (by rfl)) ?_
      refine LW.v rfl rfl (Val.neStr rfl rfl) ?_
      refine LW.re 84 (.bool false) rfl (by simp [Cq.re]) ?_
      refine LW.v rfl rfl (Val.pick_f rfl rfl) ?_
      refine LW.v rfl rfl (Val.move rfl) ?_
      refine LW.v rfl rfl (Val.fieldAddr 4 rfl Tryd.underlying41 rfl rfl Tryd.sizeOf39) ?_
      refine LW.v rfl rfl (Val.load rfl Tryd.isAgg39 (by repeat (first | exact .here | refine .there ?_)) (by rfl)) ?_
      refine LW.v rfl rfl (Val.lenSl rfl Tryd.underlying39) ?_
      refine LW.v rfl rfl (Val.fieldAddr 4 rfl Tryd.underlying41 rfl rfl Tryd.sizeOf39) ?_
      refine LW.v rfl rfl (Val.load rfl Tryd.isAgg39 (by repeat (first | exact .here | refine .there ?_)) (by rfl)) ?_
      refine LW.v rfl rfl (Val.lenSl rfl Tryd.underlying39) ?_
      refine LW.v rfl rfl (Val.cmp rfl rfl rfl) ?_
      refine LW.re 93 (.bool false) rfl (by simp [Cq.re]) ?_
      refine LW.v rfl rfl (Val.pick_f rfl rfl) ?_
      refine LW.nil ?_
      refine PQ.seq ?_
      refine CW.cond_f rfl ?_
      refine CW.skip ?_
      refine PQ.in_normal ?_
      refine PQ.seq ?_
      refine CW.region ?_
      refine LW.v rfl rfl (Val.move rfl) ?_
      refine LW.v rfl rfl (Val.ar rfl rfl rfl (IntWalk.i64_in _ (by omega))) ?_
      refine LW.v rfl rfl (Val.assign rfl) ?_
      refine LW.nil ?_
      refine PQ.round (k + 1) (by omega) (by omega) (by repeat (first | exact trivial | refine ⟨rfl, ?_⟩)) (by repeat (first | exact .nil | apply Pick.cons | exact .here | apply Ext.there))
  · replace h47 := bF h47
    refine CW.exit ?_
    refine PQ.then_exit ?_
    refine PQ.then_exit ?_
    refine PQ.in_here ?_
    refine PQ.seq ?_
    refine CW.seq ?_
    refine CW.region ?_
    refine LW.v rfl rfl (Val.assign rfl) ?_
    refine LW.nil ?_
    refine PQ.seq ?_
    refine CW.ret ?_
    refine PQ.ret1 rfl rfl ?_
    intro w' hw; exact ⟨rfl, hw.below⟩
theorem sameInts_c (l : List Int) (p1 p2 : Option Addr) (n1 n2 c1 c2 : Nat) (hn1 : n1 = l.length) (hn2 : n2 = l.length) (hl : l.length ≤ 100000) (w : World) (h1 : V.slAt w p1 1 intC l) (h2 : V.slAt w p2 1 intC l) : Calls Tryd.prog 39 [.slice p1 n1 c1, .slice p2 n2 c2].toArray w fun e w' => e = .returned (.bool true) ∧ Below w.heap.size w w' := by
  subst hn1; subst hn2
  refine V.calls [] Tryd.func39 rfl Tryd.ntmps39 (Nat.le_of_ble_eq_true rfl) (V.sat_nil _) ?_
  refine CW.seq ?_
  refine CW.region ?_
  refine LW.v rfl rfl (Val.assign rfl) ?_
  refine LW.nil ?_
  refine PQ.seq ?_
  refine CW.seq ?_
  refine CW.seq ?_
  refine CW.region ?_
  refine LW.v rfl rfl (Val.move rfl) ?_
  refine LW.v rfl rfl (Val.lenSl rfl Tryd.underlying42) ?_
  refine LW.v rfl rfl (Val.move rfl) ?_
  refine LW.v rfl rfl (Val.lenSl rfl Tryd.underlying42) ?_
  refine LW.v rfl rfl (Val.cmp rfl rfl rfl) ?_
  refine LW.re 10 (.bool false) rfl (by simp) ?_
  refine LW.nil ?_
  refine PQ.seq ?_
  refine CW.cond_f rfl ?_
  refine CW.skip ?_
  refine PQ.seq ?_
  refine CW.seq ?_
  refine CW.seq ?_
  refine CW.region ?_
  refine LW.v rfl rfl (Val.assign rfl) ?_
  refine LW.nil ?_
  refine PQ.seq ?_
  refine CW.block ?_
  refine CW.loop (γ := Nat) (fun k => [(0, .slice p1 l.length c1), (1, .slice p2 l.length c2), (5, .int .i64 (k : Nat))]) (fun _ => []) (fun k => k ≤ l.length) (fun k => l.length - k) (0) (Nat.zero_le _) (by repeat (first | exact trivial | refine ⟨rfl, ?_⟩)) (by repeat (first | exact .nil | apply Pick.cons | exact .here | apply Ext.there)) ?_
  intro k
  intro hJ
  refine CW.seq ?_
  refine CW.seq ?_
  refine CW.region ?_
  refine LW.v rfl rfl (Val.move rfl) ?_
  refine LW.v rfl rfl (Val.move rfl) ?_
  refine LW.v rfl rfl (Val.lenSl rfl Tryd.underlying42) ?_
  refine LW.v rfl rfl (Val.cmp rfl rfl rfl) ?_
  refine LW.nil ?_
  refine PQ.seq ?_
  refine CW.cond rfl (fun h14 => ?_) (fun h14 => ?_)
  · replace h14 := bT h14
    obtain ⟨b1, o1, x, rfl, hb1, hx, hr1⟩ := V.slAt_at h1 rfl (k := k) (by omega)
    obtain ⟨b2, o2, y, rfl, hb2, hy, hr2⟩ := V.slAt_at h2 rfl (k := k) (by omega)
    obtain rfl : x = y := by rw [hx] at hy; cases hy; rfl
    refine CW.skip ?_
    refine PQ.seq ?_
    refine CW.seq ?_
    refine CW.block ?_
    refine CW.seq ?_
    refine CW.quiet mixed (by kernel_rfl) ?_
    refine QW.v rfl rfl (Val.move rfl) ?_
    refine QW.v rfl rfl (Val.move rfl) ?_
    first | (refine QW.v rfl rfl (Val.indexAddrN rfl rfl Tryd.underlying42 Tryd.sizeOf3 (by omega)) ?_) | (refine QW.v rfl rfl (Val.indexAddr rfl rfl Tryd.underlying42 Tryd.sizeOf3 (by omega) (by omega)) ?_)
    refine QW.v rfl rfl (Val.loadO rfl Tryd.isAgg3 hb1 (by simp [ids]) (hr1 k x hx 0 _ rfl)) ?_
    refine QW.v rfl rfl (Val.move rfl) ?_
    refine QW.v rfl rfl (Val.move rfl) ?_
    first | (refine QW.v rfl rfl (Val.indexAddrN rfl rfl Tryd.underlying42 Tryd.sizeOf3 (by omega)) ?_) | (refine QW.v rfl rfl (Val.indexAddr rfl rfl Tryd.underlying42 Tryd.sizeOf3 (by omega) (by omega)) ?_)
    refine QW.v rfl rfl (Val.loadO rfl Tryd.isAgg3 hb2 (by simp [ids]) (hr2 k x hx 0 _ rfl)) ?_
    refine QW.v rfl rfl (Val.cmp rfl rfl rfl) ?_
    refine QW.re 25 (.bool false) rfl (by simp) ?_
    refine QW.nil ?_
    refine PQ.seq ?_
    refine CW.cond_f rfl ?_
    refine CW.skip ?_
    refine PQ.in_normal ?_
    refine PQ.seq ?_
    refine CW.region ?_
    refine LW.v rfl rfl (Val.move rfl) ?_
    refine LW.v rfl rfl (Val.ar rfl rfl rfl (IntWalk.i64_in _ (by omega))) ?_
    refine LW.v rfl rfl (Val.assign rfl) ?_
    refine LW.nil ?_
    refine PQ.round (k + 1) (by omega) (by omega) (by repeat (first | exact trivial | refine ⟨rfl, ?_⟩)) (by repeat (first | exact .nil | apply Pick.cons | exact .here | apply Ext.there))
  · replace h14 := bF h14
    refine CW.exit ?_
    refine PQ.then_exit ?_
    refine PQ.then_exit ?_
    refine PQ.in_here ?_
    refine PQ.seq ?_
    refine CW.seq ?_
    refine CW.region ?_
    refine LW.v rfl rfl (Val.assign rfl) ?_
    refine LW.nil ?_
    refine PQ.seq ?_
    refine CW.ret ?_
    refine PQ.ret1 rfl rfl ?_
    intro w' hw; exact ⟨rfl, hw.below⟩
/-- Two events that are told alike. -/
def Cm (w : World) (e1 e2 : Evq) : Prop := ∃ gl kl, e1 = e2.re e1.call.grp e1.keep ∧ EvR w e1 gl kl ∧ EvR w e2 gl kl ∧ (∀ x ∈ gl, x.grp.n = 0) ∧ gl.length ≤ 100000 ∧ kl.length ≤ 100000
theorem same_c (l1 l2 : List Evq) (p1 p2 : Option Addr) (n c1 c2 : Nat) (hn1 : l1.length = n) (hn2 : l2.length = n) (hl : n ≤ 100000) (w : World) (h1 : V.slAt w p1 9 Evq.cells l1) (h2 : V.slAt w p2 9 Evq.cells l2) (hc : ∀ (i : Nat) (s1 s2 : Evq), l1[i]? = some s1 → l2[i]? = some s2 → Cm w s1 s2) :
    Calls Tryd.prog 21 [.slice p1 n c1, .slice p2 n c2].toArray w fun e w' => e = .returned (.bool true) ∧ Below w.heap.size w w' := by
  refine V.calls [] Tryd.func21 rfl Tryd.ntmps21 (Nat.le_of_ble_eq_true rfl) (V.sat_nil _) ?_
  refine CW.seq ?_
  refine CW.region ?_
  refine LW.v rfl rfl (Val.assign rfl) ?_
  refine LW.nil ?_
  refine PQ.seq ?_
  refine CW.seq ?_
  refine CW.seq ?_
  refine CW.region ?_
  refine LW.v rfl rfl (Val.move rfl) ?_
  refine LW.v rfl rfl (Val.lenSl rfl Tryd.underlying28) ?_
  refine LW.v rfl rfl (Val.move rfl) ?_
  refine LW.v rfl rfl (Val.lenSl rfl Tryd.underlying28) ?_
  refine LW.v rfl rfl (Val.cmp rfl rfl rfl) ?_
  refine LW.re 12 (.bool false) rfl (by simp [Evq.re, Cq.re]) ?_
  refine LW.nil ?_
  refine PQ.seq ?_
  refine CW.cond_f rfl ?_
  refine CW.skip ?_
  refine PQ.seq ?_
  refine CW.seq ?_
  refine CW.seq ?_
  refine CW.region ?_
  refine LW.v rfl rfl (Val.assign rfl) ?_
  refine LW.nil ?_
  refine PQ.seq ?_
  refine CW.block ?_
  refine CW.loop (γ := Nat) (fun k => [(0, .slice p1 n c1), (1, .slice p2 n c2), (5, .int .i64 (k : Nat))]) (fun _ => []) (fun k => k ≤ n) (fun k => n - k) (0) (Nat.zero_le _) (by repeat (first | exact trivial | refine ⟨rfl, ?_⟩)) (by repeat (first | exact .nil | apply Pick.cons | exact .here | apply Ext.there)) ?_
  intro k
  intro hJ
  refine CW.seq ?_
  refine CW.seq ?_
  refine CW.region ?_
  refine LW.v rfl rfl (Val.move rfl) ?_
  refine LW.v rfl rfl (Val.move rfl) ?_
  refine LW.v rfl rfl (Val.lenSl rfl Tryd.underlying28) ?_
  refine LW.v rfl rfl (Val.cmp rfl rfl rfl) ?_
  refine LW.nil ?_
  refine PQ.seq ?_
  refine CW.cond rfl (fun h16 => ?_) (fun h16 => ?_)
  · replace h16 := bT h16
    obtain ⟨b1, o1, s', rfl, hb1, hx, hr1⟩ := V.slAt_at h1 hn1 (k := k) (by omega)
    obtain ⟨b2, o2, s, rfl, hb2, hy, hr2⟩ := V.slAt_at h2 hn2 (k := k) (by omega)
    obtain ⟨gl, kl, hs', ⟨u1, u2, u3, u4⟩, ⟨v1, v2, v3, v4⟩, z1, m1, m2⟩ := hc k s' s hx hy
    obtain ⟨g, hg⟩ : ∃ g, g = s'.call.grp := ⟨_, rfl⟩
    obtain ⟨q, hq⟩ : ∃ q, q = s'.keep := ⟨_, rfl⟩
    rw [← hg, ← hq] at hs'
    rw [← hg] at u1 u2
    rw [← hq] at u3 u4
    rw [hs'] at hx
    refine CW.skip ?_
    refine PQ.seq ?_
    refine CW.seq ?_
    refine CW.block ?_
    refine CW.seq ?_
    refine CW.drawn ([]) mixed (by repeat (first | exact .nil | apply Pick.cons | exact .here | apply Ext.there)) ?_
    refine RW.v 0 rfl (by kernel_rfl) (by kernel_rfl) (by kernel_rfl) (fun _ _ _ h => h) rfl rfl (Val.move rfl) ?_
    refine RW.v 1 rfl (by kernel_rfl) (by kernel_rfl) (by kernel_rfl) (fun _ _ _ h => h) rfl rfl (Val.move rfl) ?_
    first | (refine RW.v 2 rfl (by kernel_rfl) (by kernel_rfl) (by kernel_rfl) (fun _ _ _ h => h) rfl rfl (Val.indexAddrN rfl rfl Tryd.underlying28 Tryd.sizeOf44 (by omega)) ?_) | (refine RW.v 2 rfl (by kernel_rfl) (by kernel_rfl) (by kernel_rfl) (fun _ _ _ h => h) rfl rfl (Val.indexAddr rfl rfl Tryd.underlying28 Tryd.sizeOf44 (by omega) (by omega)) ?_)
    refine RW.v 3 rfl (by kernel_rfl) (by kernel_rfl) (by kernel_rfl) (fun _ _ _ h => h) rfl rfl (Val.loadOA rfl Tryd.isAgg44 hb1 (by simp [ids]) (hr1 k _ hx) Tryd.sizeOf44) ?_
    refine RW.v 4 rfl (by kernel_rfl) (by kernel_rfl) (by kernel_rfl) (fun _ _ _ h => h) rfl rfl (Val.move rfl) ?_
    refine RW.v 5 rfl (by kernel_rfl) (by kernel_rfl) (by kernel_rfl) (fun _ _ _ h => h) rfl rfl (Val.move rfl) ?_
    first | (refine RW.v 6 rfl (by kernel_rfl) (by kernel_rfl) (by kernel_rfl) (fun _ _ _ h => h) rfl rfl (Val.indexAddrN rfl rfl Tryd.underlying28 Tryd.sizeOf44 (by omega)) ?_) | (refine RW.v 6 rfl (by kernel_rfl) (by kernel_rfl) (by kernel_rfl) (fun _ _ _ h => h) rfl rfl (Val.indexAddr rfl rfl Tryd.underlying28 Tryd.sizeOf44 (by omega) (by omega)) ?_)
    refine RW.v 7 rfl (by kernel_rfl) (by kernel_rfl) (by kernel_rfl) (fun _ _ _ h => h) rfl rfl (Val.loadOA rfl Tryd.isAgg44 hb2 (by simp [ids]) (hr2 k s hy) Tryd.sizeOf44) ?_
    refine RW.any [8, 9] (by kernel_rfl) (by simp) ?_
    intro i hi
    simp only [List.mem_cons, List.not_mem_nil, or_false] at hi
    rcases hi with rfl | rfl
    · refine RO.e rfl rfl rfl (Eff.allocA (by exact Tryd.zeroValue44)) (fun x => ⟨_, (by repeat (first | exact .nil | apply Pick.cons | exact .here | apply Ext.there))⟩) ?_
      intro b6 _
      refine RW.e 9 rfl (by kernel_rfl) rfl rfl (Eff.allocA (by exact Tryd.zeroValue44)) (fun x => ⟨_, (by repeat (first | exact .nil | apply Pick.cons | exact .here | apply Ext.there))⟩) ?_
      intro b7 _
      first | (refine RW.eN 10 rfl (by kernel_rfl) rfl (Eff.storeW rfl rfl (by repeat (first | exact .here | apply Upd.there)) (by rfl) Tryd.sizeOf44 (by rfl)) (fun x => ⟨_, (by repeat (first | exact .nil | apply Pick.cons | exact .here | apply Ext.there))⟩) ?_) | (refine RW.eN 10 rfl (by kernel_rfl) rfl (Eff.storeA (l' := _) rfl rfl (by repeat (first | exact .here | apply Upd.there)) (by rfl) (by decide) Tryd.sizeOf44 (by rfl)) (fun x => ⟨_, (by repeat (first | exact .nil | apply Pick.cons | exact .here | apply Ext.there))⟩) ?_)
      intro _ _
      first | (refine RW.eN 11 rfl (by kernel_rfl) rfl (Eff.storeW rfl rfl (by repeat (first | exact .here | apply Upd.there)) (by rfl) Tryd.sizeOf44 (by rfl)) (fun x => ⟨_, (by repeat (first | exact .nil | apply Pick.cons | exact .here | apply Ext.there))⟩) ?_) | (refine RW.eN 11 rfl (by kernel_rfl) rfl (Eff.storeA (l' := _) rfl rfl (by repeat (first | exact .here | apply Upd.there)) (by rfl) (by decide) Tryd.sizeOf44 (by rfl)) (fun x => ⟨_, (by repeat (first | exact .nil | apply Pick.cons | exact .here | apply Ext.there))⟩) ?_)
      intro _ _
      refine RW.done (by kernel_rfl) ?_
      refine PQ.seq ?_
      refine CW.seq ?_
      refine CW.region ?_
      refine LW.v rfl rfl (Val.fieldAddr 0 rfl Tryd.underlying44 rfl rfl Tryd.sizeOf3) ?_
      refine LW.v rfl rfl (Val.load rfl Tryd.isAgg3 (by repeat (first | exact .here | refine .there ?_)) (by rfl)) ?_
      refine LW.v rfl rfl (Val.fieldAddr 0 rfl Tryd.underlying44 rfl rfl Tryd.sizeOf3) ?_
      refine LW.v rfl rfl (Val.load rfl Tryd.isAgg3 (by repeat (first | exact .here | refine .there ?_)) (by rfl)) ?_
      refine LW.v rfl rfl (Val.cmp rfl rfl rfl) ?_
      refine LW.re 31 (.bool false) rfl (by simp [Evq.re, Cq.re]) ?_
      refine LW.v rfl rfl (Val.move rfl) ?_
      refine LW.v rfl rfl (Val.fieldAddr 1 rfl Tryd.underlying44 rfl rfl Tryd.sizeOf3) ?_
      refine LW.v rfl rfl (Val.load rfl Tryd.isAgg3 (by repeat (first | exact .here | refine .there ?_)) (by rfl)) ?_
      refine LW.v rfl rfl (Val.fieldAddr 1 rfl Tryd.underlying44 rfl rfl Tryd.sizeOf3) ?_
      refine LW.v rfl rfl (Val.load rfl Tryd.isAgg3 (by repeat (first | exact .here | refine .there ?_)) (by rfl)) ?_
      refine LW.v rfl rfl (Val.cmp rfl rfl rfl) ?_
      refine LW.re 37 (.bool false) rfl (by simp [Evq.re, Cq.re]) ?_
      refine LW.v rfl rfl (Val.pick_f rfl rfl) ?_
      refine LW.v rfl rfl (Val.move rfl) ?_
      refine LW.v rfl rfl (Val.fieldAddr 2 rfl Tryd.underlying44 rfl rfl Tryd.sizeOf3) ?_
      refine LW.v rfl rfl (Val.load rfl Tryd.isAgg3 (by repeat (first | exact .here | refine .there ?_)) (by rfl)) ?_
      refine LW.v rfl rfl (Val.fieldAddr 2 rfl Tryd.underlying44 rfl rfl Tryd.sizeOf3) ?_
      refine LW.v rfl rfl (Val.load rfl Tryd.isAgg3 (by repeat (first | exact .here | refine .there ?_)) (by rfl)) ?_
      refine LW.v rfl rfl (Val.cmp rfl rfl rfl) ?_
      refine LW.re 44 (.bool false) rfl (by simp [Evq.re, Cq.re]) ?_
      refine LW.v rfl rfl (Val.pick_f rfl rfl) ?_
      refine LW.v rfl rfl (Val.move rfl) ?_
      refine LW.v rfl rfl (Val.fieldAddr 3 rfl Tryd.underlying44 rfl rfl Tryd.sizeOf41) ?_
      refine LW.v rfl rfl (Val.loadA (s.call.re g).cells (r := [.slice q.a q.n q.c]) rfl Tryd.isAgg41 (by repeat (first | exact .here | refine .there ?_)) (by rfl) Tryd.sizeOf41) ?_
      refine LW.v rfl rfl (Val.fieldAddr 3 rfl Tryd.underlying44 rfl rfl Tryd.sizeOf41) ?_
      refine LW.v rfl rfl (Val.loadA (s.call.re s.call.grp).cells (r := [.slice s.keep.a s.keep.n s.keep.c]) rfl Tryd.isAgg41 (by repeat (first | exact .here | refine .there ?_)) (by rfl) Tryd.sizeOf41) ?_
      refine LW.e rfl rfl (Eff.callV rfl Tryd.call38 (fun w hw => sameCall_c s.call g s.call.grp gl u1 v1 z1 m1 w (hw.slAt u2 (by simp [ids])) (hw.slAt v2 (by simp [ids])))) ?_
      intro _ _
      refine LW.v rfl rfl (Val.not rfl) ?_
      refine LW.re 52 (.bool false) rfl (by rfl) ?_
      refine LW.v rfl rfl (Val.pick_f rfl rfl) ?_
      refine LW.v rfl rfl (Val.move rfl) ?_
      refine LW.v rfl rfl (Val.fieldAddr 8 rfl Tryd.underlying44 rfl rfl Tryd.sizeOf42) ?_
      refine LW.v rfl rfl (Val.load rfl Tryd.isAgg42 (by repeat (first | exact .here | refine .there ?_)) (by rfl)) ?_
      refine LW.v rfl rfl (Val.fieldAddr 8 rfl Tryd.underlying44 rfl rfl Tryd.sizeOf42) ?_
      refine LW.v rfl rfl (Val.load rfl Tryd.isAgg42 (by repeat (first | exact .here | refine .there ?_)) (by rfl)) ?_
      refine LW.e rfl rfl (Eff.callV rfl Tryd.call39 (fun w hw => sameInts_c kl q.a s.keep.a q.n s.keep.n q.c s.keep.c u3.symm v3.symm m2 w (hw.slAt u4 (by simp [ids])) (hw.slAt v4 (by simp [ids])))) ?_
      intro _ _
      refine LW.v rfl rfl (Val.not rfl) ?_
      refine LW.re 60 (.bool false) rfl (by rfl) ?_
      refine LW.v rfl rfl (Val.pick_f rfl rfl) ?_
      refine LW.nil ?_
      refine PQ.seq ?_
      refine CW.cond_f rfl ?_
      refine CW.skip ?_
      refine PQ.in_normal ?_
      refine PQ.seq ?_
      refine CW.region ?_
      refine LW.v rfl rfl (Val.move rfl) ?_
      refine LW.v rfl rfl (Val.ar rfl rfl rfl (IntWalk.i64_in _ (by omega))) ?_
      refine LW.v rfl rfl (Val.assign rfl) ?_
      refine LW.nil ?_
      refine PQ.round (k + 1) (by omega) (by omega) (by repeat (first | exact trivial | refine ⟨rfl, ?_⟩)) (by repeat (first | exact .nil | apply Pick.cons | exact .here | apply Ext.there))
    · refine RO.e rfl rfl rfl (Eff.allocA (by exact Tryd.zeroValue44)) (fun x => ⟨_, (by repeat (first | exact .nil | apply Pick.cons | exact .here | apply Ext.there))⟩) ?_
      intro b7 _
      refine RW.e 8 rfl (by kernel_rfl) rfl rfl (Eff.allocA (by exact Tryd.zeroValue44)) (fun x => ⟨_, (by repeat (first | exact .nil | apply Pick.cons | exact .here | apply Ext.there))⟩) ?_
      intro b6 _
      first | (refine RW.eN 10 rfl (by kernel_rfl) rfl (Eff.storeW rfl rfl (by repeat (first | exact .here | apply Upd.there)) (by rfl) Tryd.sizeOf44 (by rfl)) (fun x => ⟨_, (by repeat (first | exact .nil | apply Pick.cons | exact .here | apply Ext.there))⟩) ?_) | (refine RW.eN 10 rfl (by kernel_rfl) rfl (Eff.storeA (l' := _) rfl rfl (by repeat (first | exact .here | apply Upd.there)) (by rfl) (by decide) Tryd.sizeOf44 (by rfl)) (fun x => ⟨_, (by repeat (first | exact .nil | apply Pick.cons | exact .here | apply Ext.there))⟩) ?_)
      intro _ _
      first | (refine RW.eN 11 rfl (by kernel_rfl) rfl (Eff.storeW rfl rfl (by repeat (first | exact .here | apply Upd.there)) (by rfl) Tryd.sizeOf44 (by rfl)) (fun x => ⟨_, (by repeat (first | exact .nil | apply Pick.cons | exact .here | apply Ext.there))⟩) ?_) | (refine RW.eN 11 rfl (by kernel_rfl) rfl (Eff.storeA (l' := _) rfl rfl (by repeat (first | exact .here | apply Upd.there)) (by rfl) (by decide) Tryd.sizeOf44 (by rfl)) (fun x => ⟨_, (by repeat (first | exact .nil | apply Pick.cons | exact .here | apply Ext.there))⟩) ?_)
      intro _ _
      refine RW.done (by kernel_rfl) ?_
      refine PQ.seq ?_
      refine CW.seq ?_
      refine CW.region ?_
      refine LW.v rfl rfl (Val.fieldAddr 0 rfl Tryd.underlying44 rfl rfl Tryd.sizeOf3) ?_
      refine LW.v rfl rfl (Val.load rfl Tryd.isAgg3 (by repeat (first | exact .here | refine .there ?_)) (by rfl)) ?_
      refine LW.v rfl rfl (Val.fieldAddr 0 rfl Tryd.underlying44 rfl rfl Tryd.sizeOf3) ?_
      refine LW.v rfl rfl (Val.load rfl Tryd.isAgg3 (by repeat (first | exact .here | refine .there ?_)) (by rfl)) ?_
      refine LW.v rfl rfl (Val.cmp rfl rfl rfl) ?_
      refine LW.re 31 (.bool false) rfl (by simp [Evq.re, Cq.re]) ?_
      refine LW.v rfl rfl (Val.move rfl) ?_
      refine LW.v rfl rfl (Val.fieldAddr 1 rfl Tryd.underlying44 rfl rfl Tryd.sizeOf3) ?_
      refine LW.v rfl rfl (Val.load rfl Tryd.isAgg3 (by repeat (first | exact .here | refine .there ?_)) (by rfl)) ?_
      refine LW.v rfl rfl (Val.fieldAddr 1 rfl Tryd.underlying44 rfl rfl Tryd.sizeOf3) ?_
      refine LW.v rfl rfl (Val.load rfl Tryd.isAgg3 (by repeat (first | exact .here | refine .there ?_)) (by rfl)) ?_
      refine LW.v rfl rfl (Val.cmp rfl rfl rfl) ?_
      refine LW.re 37 (.bool false) rfl (by simp [Evq.re, Cq.re]) ?_
      refine LW.v rfl rfl (Val.pick_f rfl rfl) ?_
      refine LW.v rfl rfl (Val.move rfl) ?_
      refine LW.v rfl rfl (Val.fieldAddr 2 rfl Tryd.underlying44 rfl rfl Tryd.sizeOf3) ?_
      refine LW.v rfl rfl (Val.load rfl Tryd.isAgg3 (by repeat (first | exact .here | refine .there ?_)) (by rfl)) ?_
      refine LW.v rfl rfl (Val.fieldAddr 2 rfl Tryd.underlying44 rfl rfl Tryd.sizeOf3) ?_
      refine LW.v rfl rfl (Val.load rfl Tryd.isAgg3 (by repeat (first | exact .here | refine .there ?_)) (by rfl)) ?_
      refine LW.v rfl rfl (Val.cmp rfl rfl rfl) ?_
      refine LW.re 44 (.bool false) rfl (by simp [Evq.re, Cq.re]) ?_
      refine LW.v rfl rfl (Val.pick_f rfl rfl) ?_
      refine LW.v rfl rfl (Val.move rfl) ?_
      refine LW.v rfl rfl (Val.fieldAddr 3 rfl Tryd.underlying44 rfl rfl Tryd.sizeOf41) ?_
      refine LW.v rfl rfl (Val.loadA (s.call.re g).cells (r := [.slice q.a q.n q.c]) rfl Tryd.isAgg41 (by repeat (first | exact .here | refine .there ?_)) (by rfl) Tryd.sizeOf41) ?_
      refine LW.v rfl rfl (Val.fieldAddr 3 rfl Tryd.underlying44 rfl rfl Tryd.sizeOf41) ?_
      refine LW.v rfl rfl (Val.loadA (s.call.re s.call.grp).cells (r := [.slice s.keep.a s.keep.n s.keep.c]) rfl Tryd.isAgg41 (by repeat (first | exact .here | refine .there ?_)) (by rfl) Tryd.sizeOf41) ?_
      refine LW.e rfl rfl (Eff.callV rfl Tryd.call38 (fun w hw => sameCall_c s.call g s.call.grp gl u1 v1 z1 m1 w (hw.slAt u2 (by simp [ids])) (hw.slAt v2 (by simp [ids])))) ?_
      intro _ _
      refine LW.v rfl rfl (Val.not rfl) ?_
      refine LW.re 52 (.bool false) rfl (by rfl) ?_
      refine LW.v rfl rfl (Val.pick_f rfl rfl) ?_
      refine LW.v rfl rfl (Val.move rfl) ?_
      refine LW.v rfl rfl (Val.fieldAddr 8 rfl Tryd.underlying44 rfl rfl Tryd.sizeOf42) ?_
      refine LW.v rfl rfl (Val.load rfl Tryd.isAgg42 (by repeat (first | exact .here | refine .there ?_)) (by rfl)) ?_
      refine LW.v rfl rfl (Val.fieldAddr 8 rfl Tryd.underlying44 rfl rfl Tryd.sizeOf42) ?_
      refine LW.v rfl rfl (Val.load rfl Tryd.isAgg42 (by repeat (first | exact .here | refine .there ?_)) (by rfl)) ?_
      refine LW.e rfl rfl (Eff.callV rfl Tryd.call39 (fun w hw => sameInts_c kl q.a s.keep.a q.n s.keep.n q.c s.keep.c u3.symm v3.symm m2 w (hw.slAt u4 (by simp [ids])) (hw.slAt v4 (by simp [ids])))) ?_
      intro _ _
      refine LW.v rfl rfl (Val.not rfl) ?_
      refine LW.re 60 (.bool false) rfl (by rfl) ?_
      refine LW.v rfl rfl (Val.pick_f rfl rfl) ?_
      refine LW.nil ?_
      refine PQ.seq ?_
      refine CW.cond_f rfl ?_
      refine CW.skip ?_
      refine PQ.in_normal ?_
      refine PQ.seq ?_
      refine CW.region ?_
      refine LW.v rfl rfl (Val.move rfl) ?_
      refine LW.v rfl rfl (Val.ar rfl rfl rfl (IntWalk.i64_in _ (by omega))) ?_
      refine LW.v rfl rfl (Val.assign rfl) ?_
      refine LW.nil ?_
      refine PQ.round (k + 1) (by omega) (by omega) (by repeat (first | exact trivial | refine ⟨rfl, ?_⟩)) (by repeat (first | exact .nil | apply Pick.cons | exact .here | apply Ext.there))
  · replace h16 := bF h16
    refine CW.exit ?_
    refine PQ.then_exit ?_
    refine PQ.then_exit ?_
    refine PQ.in_here ?_
    refine PQ.seq ?_
    refine CW.seq ?_
    refine CW.region ?_
    refine LW.v rfl rfl (Val.assign rfl) ?_
    refine LW.nil ?_
    refine PQ.seq ?_
    refine CW.ret ?_
    refine PQ.ret1 rfl rfl ?_
    intro w' hw; exact ⟨rfl, hw.below⟩
theorem lineF_re (e : Evq) (g k : Sl) (gl : List Cq) (kl : List Int) : lineF (e.re g k) gl kl = lineF e gl kl := rfl
theorem lineF_ne {e : Evq} {gl : List Cq} {kl : List Int} (h : (lineF e gl kl).2 = 0) : (lineF e gl kl).1 ≠ [] := by
  unfold lineF at h ⊢
  cases hP : lineP e gl kl with
  | none => rw [hP] at h; cases h
  | some q =>
    obtain ⟨nm, l, mo⟩ := q
    rw [hP] at h
    simp only [lineR] at h ⊢
    split
    · rw [jn_cons]
      have : nm ≠ [] := by
        unfold lineP at hP
        repeat' split at hP
        · simp only [Option.map_eq_some_iff] at hP
          obtain ⟨ws, _, hE⟩ := hP
          cases hE; simp
        all_goals first | (cases hP; done) | (cases hP; simp)
      simp [this]
    · rename_i hf; rw [if_neg hf] at h; cases h
theorem lineF_len {w : World} {e : Evq} {gl : List Cq} {kl : List Int} (h : EvOk w e gl kl) : (lineF e gl kl).1.length ≤ 150000000000 := by
  unfold lineF
  cases hP : lineP e gl kl with
  | none => simp [lineR]
  | some q =>
    obtain ⟨nm, l, mo⟩ := q
    simp only [lineR]
    split
    · exact lineP_len h _ _ _ hP (by assumption)
    · simp
/-- The first error. -/
def pErr : List (List UInt8 × Int) → Int
  | [] => 0
  | x :: r => if x.2 = 0 then pErr r else x.2
def pTxt (ls : List (List UInt8 × Int)) : List UInt8 := ls.flatMap fun x => x.1 ++ [10]
def printF (ls : List (List UInt8 × Int)) : List UInt8 × Int := if pErr ls = 0 then (if (pTxt ls).length ≤ 65536 then (pTxt ls, 0) else ([], 5)) else ([], pErr ls)
theorem pErr_none : ∀ {ls : List (List UInt8 × Int)}, (∀ x ∈ ls, x.2 = 0) → pErr ls = 0
  | [], _ => rfl
  | x :: r, h => by simp only [pErr]; rw [if_pos (h x (by simp))]; exact pErr_none fun y hy => h y (by simp [hy])
theorem pErr_at : ∀ {ls : List (List UInt8 × Int)} {i : Nat} {x : List UInt8 × Int}, ls[i]? = some x → x.2 ≠ 0 → (∀ y ∈ ls.take i, y.2 = 0) → pErr ls = x.2
  | [], i, x, h, _, _ => by simp at h
  | a :: r, 0, x, h, hx, _ => by simp at h; subst h; simp only [pErr]; rw [if_neg hx]
  | a :: r, i + 1, x, h, hx, hy => by
    simp only [pErr]
    rw [if_pos (hy a (by simp))]
    exact pErr_at (by simpa using h) hx fun y hy' => hy y (by simp [hy'])
theorem pTxt_snoc {ls : List (List UInt8 × Int)} {i : Nat} {x : List UInt8 × Int} (h : ls[i]? = some x) : pTxt (ls.take (i + 1)) = pTxt (ls.take i) ++ x.1 ++ [10] := by
  unfold pTxt; rw [List.take_add_one, h, List.flatMap_append]; simp
theorem zero_snoc {ls : List (List UInt8 × Int)} {i : Nat} {x : List UInt8 × Int} (h : ls[i]? = some x) (hx : x.2 = 0) (hy : ∀ y ∈ ls.take i, y.2 = 0) : ∀ y ∈ ls.take (i + 1), y.2 = 0 := fun y h8 => by
  rw [List.take_add_one, h] at h8
  rcases List.mem_append.1 h8 with h8 | h8
  · exact hy y h8
  · simp at h8; subst h8; exact hx
/-- These are the events' lines. -/
def LnsOk (w : World) (l : List Evq) (ls : List (List UInt8 × Int)) : Prop := ls.length = l.length ∧ ∀ (i : Nat) (e : Evq), l[i]? = some e → ∃ gl kl, EvOk w e gl kl ∧ ls[i]? = some (lineF e gl kl)
theorem LnsOk.hp {w0 w : World} {sg : Sg} {l : List Evq} {ls : List (List UInt8 × Int)} (h : LnsOk w0 l ls) (hw : Hp ⟨w0, []⟩ sg w) : LnsOk w l ls := ⟨h.1, fun i e he => by
  obtain ⟨gl, kl, h1, h2⟩ := h.2 i e he
  exact ⟨gl, kl, h1.hp hw, h2⟩⟩
theorem lnP_c (b : Nat) (u : Bool) (o : V.OwnO) (l : List UInt8) (hk : sbOk o l) (w : World) (hs : Sat (sbG b u o l) w) : Calls Tryd.prog 37 [.pointer (some ⟨b, 0, none⟩)].toArray w fun e w' => ∃ _u : Unit, True ∧ e = .returned (.int .i64 (l.length : Nat)) ∧ Hp ⟨w, ids (sbG b u o l)⟩ (sbG b u o l) w' := by
  refine V.calls (sbG b u o l) Tryd.func37 rfl Tryd.ntmps37 (Nat.le_of_ble_eq_true rfl) hs ?_
  refine CW.seq ?_
  refine CW.region ?_
  refine LW.v rfl rfl (Val.assign rfl) ?_
  refine LW.nil ?_
  refine PQ.seq ?_
  refine CW.seq ?_
  refine CW.region ?_
  refine LW.v rfl rfl (Val.move rfl) ?_
  refine LW.v rfl rfl (Val.nilCheck rfl) ?_
  refine LW.v rfl rfl (Val.fieldAddr 1 rfl Tryd.underlying57 rfl rfl Tryd.sizeOf55) ?_
  refine LW.v rfl rfl (Val.load (v := ownV l.length o) rfl Tryd.isAgg55 (by repeat (first | exact .here | refine .there ?_)) (by rfl)) ?_
  refine LW.v rfl rfl (Val.lenOwn rfl Tryd.underlying55 hk.1) ?_
  refine LW.v rfl rfl (Val.assign rfl) ?_
  refine LW.nil ?_
  refine PQ.seq ?_
  refine CW.ret ?_
  refine PQ.ret1 rfl rfl ?_
  intro w' hw; exact ⟨(), trivial, rfl, hw⟩
theorem print_c (ls : List (List UInt8 × Int)) (p : Option Addr) (n cap : Nat) (l : List Evq) (w : World) (hn : l.length = n) (h : V.slAt w p 9 Evq.cells l) (hm : n ≤ 100000) (hL : LnsOk w l ls) (hI : ItoaAll w) : Calls Tryd.prog 18 [.slice p n cap].toArray w fun e' w' => e' = .returned (.tuple #[str (printF ls).1, .int .i64 (printF ls).2]) ∧ Below w.heap.size w w' := by
  refine V.calls [] Tryd.func18 rfl Tryd.ntmps18 (Nat.le_of_ble_eq_true rfl) (V.sat_nil _) ?_
  refine CW.seq ?_
  refine CW.region ?_
  refine LW.v rfl rfl (Val.assign rfl) ?_
  refine LW.v rfl rfl (Val.assign rfl) ?_
  refine LW.nil ?_
  refine PQ.seq ?_
  refine CW.seq ?_
  refine CW.region ?_
  refine LW.e rfl rfl (Eff.allocA (by exact Tryd.zeroValue57)) ?_
  intro b4 _
  refine LW.nil ?_
  refine PQ.seq ?_
  refine CW.seq ?_
  refine CW.region ?_
  refine LW.v rfl rfl (Val.assign rfl) ?_
  refine LW.nil ?_
  refine PQ.seq ?_
  refine CW.seq ?_
  refine CW.seq ?_
  refine CW.region ?_
  refine LW.v rfl rfl (Val.move rfl) ?_
  refine LW.v rfl rfl (Val.lenSl rfl Tryd.underlying28) ?_
  refine LW.v rfl rfl (Val.move rfl) ?_
  refine LW.nil ?_
  refine PQ.seq ?_
  refine CW.block ?_
  refine CW.loop (γ := Nat × Bool × V.OwnO × List UInt8 × Bool) (fun k => [(4, .pointer (some ⟨b4, 0, none⟩)), (5, .bool k.2.2.2.2), (10, .slice p n cap), (11, .int .i64 (n : Nat)), (12, .int .i64 (k.1 : Nat))]) (fun k => sbG b4 k.2.1 k.2.2.1 k.2.2.2.1) (fun k => k.1 ≤ n ∧ sbOk k.2.2.1 k.2.2.2.1 ∧ k.2.2.2.2 = decide (65536 < (pTxt (ls.take k.1)).length) ∧ ((k.2.2.2.2 = false → k.2.2.2.1 = pTxt (ls.take k.1)) ∧ k.2.2.2.1.length ≤ 65536) ∧ ∀ y ∈ ls.take k.1, y.2 = 0) (fun k => n - k.1) ((0, false, none, [], false)) ⟨Nat.zero_le _, sbOk_nil, rfl, ⟨fun _ => rfl, Nat.zero_le _⟩, by simp⟩ (by repeat (first | exact trivial | refine ⟨rfl, ?_⟩)) (by repeat (first | exact .nil | apply Pick.cons | exact .here | apply Ext.there)) ?_
  intro k
  rintro ⟨hk1, hk2, hk3, hk4, hk5⟩
  refine CW.seq ?_
  refine CW.region ?_
  refine LW.v rfl rfl (Val.cmp rfl rfl rfl) ?_
  refine LW.nil ?_
  refine PQ.seq ?_
  refine CW.seq ?_
  refine CW.cond rfl (fun h13 => ?_) (fun h13 => ?_)
  · replace h13 := bT h13
    obtain ⟨b, o', e, rfl, hb, he, hr⟩ := V.slAt_at h hn (k := k.1) (by omega)
    obtain ⟨gl, kl, hok, hls⟩ := hL.2 _ _ he
    have hll := lineF_len hok
    refine CW.skip ?_
    refine PQ.seq ?_
    refine CW.seq ?_
    refine CW.block ?_
    refine CW.seq ?_
    refine CW.region ?_
    first | (refine LW.v rfl rfl (Val.indexAddrN rfl rfl Tryd.underlying28 Tryd.sizeOf44 (by omega)) ?_) | (refine LW.v rfl rfl (Val.indexAddr rfl rfl Tryd.underlying28 Tryd.sizeOf44 (by omega) (by omega)) ?_)
    refine LW.v rfl rfl (Val.loadOA rfl Tryd.isAgg44 hb (by simp [ids]) (hr _ _ he) Tryd.sizeOf44) ?_
    refine LW.e rfl rfl (Eff.allocA (by exact Tryd.zeroValue44)) ?_
    intro b7 _
    first | (refine LW.eN rfl (Eff.storeW rfl rfl (by repeat (first | exact .here | apply Upd.there)) (by rfl) Tryd.sizeOf44 (by rfl)) ?_) | (refine LW.eN rfl (Eff.storeA (l' := _) rfl rfl (by repeat (first | exact .here | apply Upd.there)) (by rfl) (by decide) Tryd.sizeOf44 (by rfl)) ?_)
    intro _ _
    refine LW.nil ?_
    refine PQ.seq ?_
    refine CW.seq ?_
    refine CW.region ?_
    first | (refine LW.v rfl rfl (Val.loadW rfl Tryd.isAgg44 (by repeat (first | exact .here | refine .there ?_)) (by exact Tryd.sizeOf44)) ?_) | (refine LW.v rfl rfl (Val.loadA [_, _, _, _, _, _, _, _, _] rfl Tryd.isAgg44 (by repeat (first | exact .here | refine .there ?_)) (by rfl) Tryd.sizeOf44) ?_)
    refine LW.e rfl rfl (Eff.callV rfl Tryd.call22 (fun w hw => line_c e gl kl w (hok.hp hw) (hI.mono hw.below) (fun nm l mo hP hf => by have := lineP_len hok nm l mo hP hf; omega))) ?_
    intro _ _
    refine LW.v rfl rfl (Val.move rfl) ?_
    refine LW.v rfl rfl (Val.extract rfl rfl) ?_
    refine LW.v rfl rfl (Val.extract rfl rfl) ?_
    refine LW.v rfl rfl (Val.assign rfl) ?_
    refine LW.v rfl rfl (Val.assign rfl) ?_
    refine LW.nil ?_
    refine PQ.seq ?_
    refine CW.seq ?_
    refine CW.seq ?_
    refine CW.region ?_
    refine LW.v rfl rfl (Val.move rfl) ?_
    refine LW.v rfl rfl (Val.cmp rfl rfl rfl) ?_
    refine LW.nil ?_
    refine PQ.seq ?_
    refine CW.cond rfl (fun h22 => ?_) (fun h22 => ?_)
    · replace h22 := bT h22
      refine CW.seq ?_
      refine CW.region ?_
      refine LW.v rfl rfl (Val.move rfl) ?_
      refine LW.v rfl rfl (Val.assign rfl) ?_
      refine LW.v rfl rfl (Val.assign rfl) ?_
      refine LW.nil ?_
      refine PQ.seq ?_
      refine CW.ret ?_
      refine PQ.then_ret ?_
      refine PQ.in_ret ?_
      refine PQ.then_ret ?_
      refine PQ.then_ret ?_
      refine PQ.in_ret ?_
      refine PQ.then_ret ?_
      refine PQ.ret2 rfl rfl rfl ?_
      intro w' hw
      have hE := pErr_at hls (by simpa using h22) hk5
      exact ⟨by unfold printF; rw [hE, if_neg (by simpa using h22)]; rfl, hw.below⟩
    · replace h22 := bF h22
      have hz : (lineF e gl kl).2 = 0 := by simpa using h22
      have hT := pTxt_snoc hls
      refine CW.skip ?_
      refine PQ.seq ?_
      refine CW.seq ?_
      refine CW.region ?_
      refine LW.v rfl rfl (Val.move rfl) ?_
      refine LW.v rfl rfl (Val.move rfl) ?_
      refine LW.split (d := 25) rfl (fun h25 => ?_) (fun h25 => ?_)
      · replace h25 := bT h25
        have hlo : k.2.2.2.2 = true := h25
        refine LW.p rfl rfl ?_
        refine LW.p rfl rfl ?_
        refine LW.p rfl rfl ?_
        refine LW.p rfl rfl ?_
        refine LW.p rfl rfl ?_
        refine LW.p rfl rfl ?_
        refine LW.v rfl rfl (Val.pick_t rfl rfl) ?_
        refine LW.v rfl rfl (Val.assign rfl) ?_
        refine LW.nil ?_
        refine PQ.seq ?_
        refine CW.seq ?_
        refine CW.region ?_
        refine LW.v rfl rfl (Val.move rfl) ?_
        refine LW.v rfl rfl (Val.not rfl) ?_
        refine LW.nil ?_
        refine PQ.seq ?_
        refine CW.cond_f rfl ?_
        refine CW.skip ?_
        refine PQ.in_normal ?_
        refine PQ.seq ?_
        refine CW.region ?_
        refine LW.v rfl rfl (Val.ar rfl rfl rfl (IntWalk.i64_in _ (by omega))) ?_
        refine LW.v rfl rfl (Val.move rfl) ?_
        refine LW.nil ?_
        refine PQ.round ((k.1 + 1, k.2.1, k.2.2.1, k.2.2.2.1, true)) ⟨by simp only; omega, hk2, by simp only; rw [eq_comm, decide_eq_true_iff, hT]; simp only [List.length_append, List.length_cons, List.length_nil]; have := hk3; rw [hlo] at this; simp at this; omega, ⟨(fun e => by cases e), hk4.2⟩, zero_snoc hls hz hk5⟩ (by simp only; omega) (by exact ⟨rfl, rfl, rfl, rfl, rfl, trivial⟩) (by repeat (first | exact .nil | apply Pick.cons | exact .here | apply Ext.there))
      · replace h25 := bF h25
        have hlo : k.2.2.2.2 = false := h25
        have hacc := hk4.1 hlo
        refine LW.e rfl rfl (Eff.callM (sbG b4 k.2.1 k.2.2.1 k.2.2.2.1) (by repeat (first | exact .nil | apply Pick.cons | exact .here | apply Ext.there)) rfl Tryd.call37 (fun w hw hs0 => lnP_c b4 k.2.1 k.2.2.1 k.2.2.2.1 hk2 w hs0)) ?_
        intro _ _
        refine LW.v rfl rfl (Val.move rfl) ?_
        refine LW.v rfl rfl (Val.lenStr rfl Tryd.underlying9) ?_
        refine LW.v rfl rfl (Val.ar rfl rfl rfl (IntWalk.i64_in _ (by have := hk4.2; omega))) ?_
        refine LW.v rfl rfl (Val.ar rfl rfl rfl (IntWalk.i64_in _ (by have := hk4.2; omega))) ?_
        refine LW.v rfl rfl (Val.cmp rfl rfl rfl) ?_
        rcases Classical.em (k.2.2.2.1.length + (lineF e gl kl).1.length + 1 ≤ 65536) with hfit | hfit
        · refine LW.re 31 (.bool false) rfl (by congr 1; simp; omega) ?_
          refine LW.v rfl rfl (Val.pick_f rfl rfl) ?_
          refine LW.v rfl rfl (Val.assign rfl) ?_
          refine LW.nil ?_
          refine PQ.seq ?_
          refine CW.seq ?_
          refine CW.region ?_
          refine LW.v rfl rfl (Val.move rfl) ?_
          refine LW.v rfl rfl (Val.not rfl) ?_
          refine LW.nil ?_
          refine PQ.seq ?_
          refine CW.cond_t rfl ?_
          refine CW.seq ?_
          refine CW.region ?_
          refine LW.v rfl rfl (Val.move rfl) ?_
          refine LW.e rfl rfl (Eff.callM (sbG b4 k.2.1 k.2.2.1 k.2.2.2.1) (by repeat (first | exact .nil | apply Pick.cons | exact .here | apply Ext.there)) rfl Tryd.call33 (fun w hw hs0 => wsP_c b4 k.2.1 k.2.2.1 k.2.2.2.1 hk2 (by have := hk4.2; omega) (lineF e gl kl).1 (by have := hk4.2; omega) (lineF_ne hz) w hs0)) ?_
          intro o8 ho8
          refine LW.nil ?_
          refine PQ.seq ?_
          refine CW.region ?_
          refine LW.e rfl rfl (Eff.callM (sbG b4 true o8 (k.2.2.2.1 ++ (lineF e gl kl).1)) (by repeat (first | exact .nil | apply Pick.cons | exact .here | apply Ext.there)) rfl Tryd.call28 (fun w hw hs0 => wbP_c b4 true o8 (k.2.2.2.1 ++ (lineF e gl kl).1) ho8 (by have := hk4.2; simp only [List.length_append]; omega) 10 w hs0)) ?_
          intro o9 ho9
          refine LW.nil ?_
          refine PQ.in_normal ?_
          refine PQ.seq ?_
          refine CW.region ?_
          refine LW.v rfl rfl (Val.ar rfl rfl rfl (IntWalk.i64_in _ (by omega))) ?_
          refine LW.v rfl rfl (Val.move rfl) ?_
          refine LW.nil ?_
          refine PQ.round ((k.1 + 1, true, o9, k.2.2.2.1 ++ (lineF e gl kl).1 ++ [10], false)) ⟨by simp only; omega, ho9, by simp only; rw [eq_comm, decide_eq_false_iff_not, hT, ← hacc]; simp only [List.length_append, List.length_cons, List.length_nil]; omega, ⟨fun _ => by rw [hT, ← hacc], by simp only [List.length_append, List.length_cons, List.length_nil]; omega⟩, zero_snoc hls hz hk5⟩ (by simp only; omega) (by exact ⟨rfl, rfl, rfl, rfl, rfl, trivial⟩) (by repeat (first | exact .nil | apply Pick.cons | exact .here | apply Ext.there))
        · refine LW.re 31 (.bool true) rfl (by congr 1; simp; omega) ?_
          refine LW.v rfl rfl (Val.pick_f rfl rfl) ?_
          refine LW.v rfl rfl (Val.assign rfl) ?_
          refine LW.nil ?_
          refine PQ.seq ?_
          refine CW.seq ?_
          refine CW.region ?_
          refine LW.v rfl rfl (Val.move rfl) ?_
          refine LW.v rfl rfl (Val.not rfl) ?_
          refine LW.nil ?_
          refine PQ.seq ?_
          refine CW.cond_f rfl ?_
          refine CW.skip ?_
          refine PQ.in_normal ?_
          refine PQ.seq ?_
          refine CW.region ?_
          refine LW.v rfl rfl (Val.ar rfl rfl rfl (IntWalk.i64_in _ (by omega))) ?_
          refine LW.v rfl rfl (Val.move rfl) ?_
          refine LW.nil ?_
          refine PQ.round ((k.1 + 1, k.2.1, k.2.2.1, k.2.2.2.1, true)) ⟨by simp only; omega, hk2, by simp only; rw [eq_comm, decide_eq_true_iff, hT, ← hacc]; simp only [List.length_append, List.length_cons, List.length_nil]; omega, ⟨(fun e => by cases e), hk4.2⟩, zero_snoc hls hz hk5⟩ (by simp only; omega) (by exact ⟨rfl, rfl, rfl, rfl, rfl, trivial⟩) (by repeat (first | exact .nil | apply Pick.cons | exact .here | apply Ext.there))
  · replace h13 := bF h13
    refine CW.exit ?_
    refine PQ.then_exit ?_
    refine PQ.then_exit ?_
    refine PQ.in_here ?_
    refine PQ.seq ?_
    refine CW.seq ?_
    refine CW.seq ?_
    refine CW.region ?_
    refine LW.v rfl rfl (Val.move rfl) ?_
    refine LW.nil ?_
    refine PQ.seq ?_
    refine CW.cond rfl (fun h39 => ?_) (fun h39 => ?_)
    · replace h39 := bT h39
      have h39b : k.2.2.2.2 = true := h39
      refine CW.seq ?_
      refine CW.region ?_
      refine LW.v rfl rfl (Val.assign rfl) ?_
      refine LW.v rfl rfl (Val.assign rfl) ?_
      refine LW.nil ?_
      refine PQ.seq ?_
      refine CW.ret ?_
      refine PQ.then_ret ?_
      refine PQ.ret2 rfl rfl rfl ?_
      intro w' hw
      have h9 : ls.take k.1 = ls := List.take_of_length_le (by have := hL.1; omega)
      rw [h9] at hk3 hk4 hk5
      have hE := pErr_none hk5
      exact ⟨by unfold printF; rw [hE, if_pos rfl, if_neg (by have := hk3; rw [h39b] at this; simp at this; omega)]; rfl, hw.below⟩
    · replace h39 := bF h39
      refine CW.skip ?_
      refine PQ.seq ?_
      refine CW.seq ?_
      refine CW.region ?_
      refine LW.e rfl rfl (Eff.callM (sbG b4 k.2.1 k.2.2.1 k.2.2.2.1) (by repeat (first | exact .nil | apply Pick.cons | exact .here | apply Ext.there)) rfl Tryd.call30 (fun w hw hs0 => stP_c b4 k.2.1 k.2.2.1 k.2.2.2.1 hk2 (by have := hk4.2; omega) w hs0)) ?_
      intro _ _
      refine LW.v rfl rfl (Val.assign rfl) ?_
      refine LW.v rfl rfl (Val.assign rfl) ?_
      refine LW.nil ?_
      refine PQ.seq ?_
      refine CW.ret ?_
      refine PQ.ret2 rfl rfl rfl ?_
      intro w' hw
      have h9 : ls.take k.1 = ls := List.take_of_length_le (by have := hL.1; omega)
      rw [h9] at hk3 hk4 hk5
      have hE := pErr_none hk5
      have hlo : k.2.2.2.2 = false := by simpa using h39
      exact ⟨by unfold printF; rw [hE, if_pos rfl, if_pos (by have := hk3; rw [hlo] at this; simp at this; omega), hk4.1 hlo], hw.below⟩
theorem rprint_c (ls : List (List UInt8 × Int)) (p : Option Addr) (n cap : Nat) (l : List Evq) (w : World) (hn : l.length = n) (h : V.slAt w p 9 Evq.cells l) (hm : n ≤ 100) (hL : LnsOk w l ls) : Calls Tryd.prog 19 [.slice p n cap].toArray w fun e' w' => e' = .returned (.tuple #[str (printF ls).1, .int .i64 (printF ls).2]) ∧ Below w.heap.size w w' := by
  refine V.calls [] Tryd.func19 rfl Tryd.ntmps19 (Nat.le_of_ble_eq_true rfl) (V.sat_nil _) ?_
  refine CW.seq ?_
  refine CW.region ?_
  refine LW.v rfl rfl (Val.assign rfl) ?_
  refine LW.v rfl rfl (Val.assign rfl) ?_
  refine LW.nil ?_
  refine PQ.seq ?_
  refine CW.seq ?_
  refine CW.region ?_
  refine LW.v rfl rfl (Val.assign rfl) ?_
  refine LW.nil ?_
  refine PQ.seq ?_
  refine CW.seq ?_
  refine CW.seq ?_
  refine CW.region ?_
  refine LW.v rfl rfl (Val.assign rfl) ?_
  refine LW.nil ?_
  refine PQ.seq ?_
  refine CW.block ?_
  refine CW.loop (γ := Nat) (fun k => [(0, .slice p n cap), (4, str (pTxt (ls.take k))), (5, .int .i64 (k : Nat))]) (fun _ => []) (fun k => k ≤ n ∧ (pTxt (ls.take k)).length ≤ 150000000001 * k ∧ ∀ y ∈ ls.take k, y.2 = 0) (fun k => n - k) (0) ⟨Nat.zero_le _, by simp [pTxt], by simp⟩ (by repeat (first | exact trivial | refine ⟨rfl, ?_⟩)) (by repeat (first | exact .nil | apply Pick.cons | exact .here | apply Ext.there)) ?_
  intro k
  rintro ⟨hk1, hk2, hk3⟩
  refine CW.seq ?_
  refine CW.seq ?_
  refine CW.region ?_
  refine LW.v rfl rfl (Val.move rfl) ?_
  refine LW.v rfl rfl (Val.move rfl) ?_
  refine LW.v rfl rfl (Val.lenSl rfl Tryd.underlying28) ?_
  refine LW.v rfl rfl (Val.cmp rfl rfl rfl) ?_
  refine LW.nil ?_
  refine PQ.seq ?_
  refine CW.cond rfl (fun h11 => ?_) (fun h11 => ?_)
  · replace h11 := bT h11
    obtain ⟨b, o', e, rfl, hb, he, hr⟩ := V.slAt_at h hn (k := k) (by omega)
    obtain ⟨gl, kl, hok, hls⟩ := hL.2 _ _ he
    have hll := lineF_len hok
    refine CW.skip ?_
    refine PQ.seq ?_
    refine CW.seq ?_
    refine CW.block ?_
    refine CW.seq ?_
    refine CW.region ?_
    refine LW.v rfl rfl (Val.move rfl) ?_
    refine LW.v rfl rfl (Val.move rfl) ?_
    first | (refine LW.v rfl rfl (Val.indexAddrN rfl rfl Tryd.underlying28 Tryd.sizeOf44 (by omega)) ?_) | (refine LW.v rfl rfl (Val.indexAddr rfl rfl Tryd.underlying28 Tryd.sizeOf44 (by omega) (by omega)) ?_)
    refine LW.v rfl rfl (Val.loadOA rfl Tryd.isAgg44 hb (by simp [ids]) (hr _ _ he) Tryd.sizeOf44) ?_
    refine LW.e rfl rfl (Eff.callV rfl Tryd.call23 (fun w hw => rline_c e gl kl w (hok.hp hw))) ?_
    intro _ _
    refine LW.v rfl rfl (Val.move rfl) ?_
    refine LW.v rfl rfl (Val.extract rfl rfl) ?_
    refine LW.v rfl rfl (Val.extract rfl rfl) ?_
    refine LW.v rfl rfl (Val.assign rfl) ?_
    refine LW.v rfl rfl (Val.assign rfl) ?_
    refine LW.nil ?_
    refine PQ.seq ?_
    refine CW.seq ?_
    refine CW.seq ?_
    refine CW.region ?_
    refine LW.v rfl rfl (Val.move rfl) ?_
    refine LW.v rfl rfl (Val.cmp rfl rfl rfl) ?_
    refine LW.nil ?_
    refine PQ.seq ?_
    refine CW.cond rfl (fun h23 => ?_) (fun h23 => ?_)
    · replace h23 := bT h23
      refine CW.seq ?_
      refine CW.region ?_
      refine LW.v rfl rfl (Val.move rfl) ?_
      refine LW.v rfl rfl (Val.assign rfl) ?_
      refine LW.v rfl rfl (Val.assign rfl) ?_
      refine LW.nil ?_
      refine PQ.seq ?_
      refine CW.ret ?_
      refine PQ.then_ret ?_
      refine PQ.in_ret ?_
      refine PQ.then_ret ?_
      refine PQ.then_ret ?_
      refine PQ.in_ret ?_
      refine PQ.then_ret ?_
      refine PQ.ret2 rfl rfl rfl ?_
      intro w' hw
      have hE := pErr_at hls (by simpa using h23) hk3
      exact ⟨by unfold printF; rw [hE, if_neg (by simpa using h23)]; rfl, hw.below⟩
    · replace h23 := bF h23
      have hz : (lineF e gl kl).2 = 0 := by simpa using h23
      have hT := pTxt_snoc hls
      refine CW.skip ?_
      refine PQ.seq ?_
      refine CW.region ?_
      refine LW.v rfl rfl (Val.move rfl) ?_
      refine LW.v rfl rfl (Val.move rfl) ?_
      refine LW.v rfl rfl (Val.catStr rfl rfl (by first | omega | (simp only [List.length_append, List.length_cons, List.length_nil]; omega))) ?_
      refine LW.v rfl rfl (Val.catStr rfl rfl (by first | omega | (simp only [List.length_append, List.length_cons, List.length_nil]; omega))) ?_
      refine LW.v rfl rfl (Val.assign rfl) ?_
      refine LW.nil ?_
      refine PQ.in_normal ?_
      refine PQ.seq ?_
      refine CW.region ?_
      refine LW.v rfl rfl (Val.move rfl) ?_
      refine LW.v rfl rfl (Val.ar rfl rfl rfl (IntWalk.i64_in _ (by omega))) ?_
      refine LW.v rfl rfl (Val.assign rfl) ?_
      refine LW.nil ?_
      refine PQ.round (k + 1) ⟨by omega, by rw [hT]; simp only [List.length_append, List.length_cons, List.length_nil]; omega, zero_snoc hls hz hk3⟩ (by omega) (by exact ⟨rfl, by rw [hT]; rfl, rfl, trivial⟩) (by repeat (first | exact .nil | apply Pick.cons | exact .here | apply Ext.there))
  · replace h11 := bF h11
    refine CW.exit ?_
    refine PQ.then_exit ?_
    refine PQ.then_exit ?_
    refine PQ.in_here ?_
    refine PQ.seq ?_
    refine CW.seq ?_
    refine CW.seq ?_
    refine CW.region ?_
    refine LW.v rfl rfl (Val.move rfl) ?_
    refine LW.v rfl rfl (Val.lenStr rfl Tryd.underlying9) ?_
    refine LW.v rfl rfl (Val.cmp rfl rfl rfl) ?_
    refine LW.nil ?_
    refine PQ.seq ?_
    refine CW.cond rfl (fun h31 => ?_) (fun h31 => ?_)
    · replace h31 := bT h31
      refine CW.seq ?_
      refine CW.region ?_
      refine LW.v rfl rfl (Val.assign rfl) ?_
      refine LW.v rfl rfl (Val.assign rfl) ?_
      refine LW.nil ?_
      refine PQ.seq ?_
      refine CW.ret ?_
      refine PQ.then_ret ?_
      refine PQ.ret2 rfl rfl rfl ?_
      intro w' hw
      have h9 : ls.take k = ls := List.take_of_length_le (by have := hL.1; omega)
      rw [h9] at hk3 h31
      have hE := pErr_none hk3
      exact ⟨by unfold printF; rw [hE, if_pos rfl, if_neg (by omega)]; rfl, hw.below⟩
    · replace h31 := bF h31
      refine CW.skip ?_
      refine PQ.seq ?_
      refine CW.seq ?_
      refine CW.region ?_
      refine LW.v rfl rfl (Val.move rfl) ?_
      refine LW.v rfl rfl (Val.assign rfl) ?_
      refine LW.v rfl rfl (Val.assign rfl) ?_
      refine LW.nil ?_
      refine PQ.seq ?_
      refine CW.ret ?_
      refine PQ.ret2 rfl rfl rfl ?_
      intro w' hw
      have h9 : ls.take k = ls := List.take_of_length_le (by have := hL.1; omega)
      rw [h9] at hk3 h31
      have hE := pErr_none hk3
      exact ⟨by unfold printF; rw [hE, if_pos rfl, if_pos (by omega), h9], hw.below⟩
theorem num_c (x : Int) (w : World) : Calls Tryd.prog 20 [.int .i64 x].toArray w fun e w' => e = .returned (.int .i64 x) ∧ Below w.heap.size w w' := by
  refine V.calls [] Tryd.func20 rfl Tryd.ntmps20 (Nat.le_of_ble_eq_true rfl) (V.sat_nil _) ?_
  refine CW.seq ?_
  refine CW.region ?_
  refine LW.v rfl rfl (Val.assign rfl) ?_
  refine LW.nil ?_
  refine PQ.seq ?_
  refine CW.seq ?_
  refine CW.region ?_
  refine LW.v rfl rfl (Val.move rfl) ?_
  refine LW.v rfl rfl (Val.assign rfl) ?_
  refine LW.nil ?_
  refine PQ.seq ?_
  refine CW.ret ?_
  refine PQ.ret1 rfl rfl ?_
  intro w' hw; exact ⟨rfl, hw.below⟩
theorem cpL_lns {w : World} {gr : Evq → List Cq} {kr : Evq → List Int} {l L : List Evq} (h : CpL w gr kr l L) (hS : ∀ e ∈ l, EvS e (gr e)) {W0 : World} (ho : ∀ e ∈ l, EvR W0 e (gr e) (kr e)) : LnsOk w L (l.map fun e => lineF e (gr e) (kr e)) := ⟨by rw [List.length_map]; exact h.1.symm, fun i e' he' => by
  have hi := (List.getElem?_eq_some_iff.1 he').1
  obtain ⟨e, he⟩ : ∃ e, l[i]? = some e := ⟨l[i]'(by have := h.1; omega), List.getElem?_eq_getElem _⟩
  obtain ⟨g, k, hre, hr⟩ := h.2 i _ e' he he'
  have hs := hS _ (List.mem_of_getElem? he)
  refine ⟨gr e, kr e, ?_, by rw [List.getElem?_map, he, hre]; rfl⟩
  exact EvS.ok ⟨by have h7 := hr.kn; have h8 := (ho _ (List.mem_of_getElem? he)).kn; have h9 := hs.1; omega, by rw [hre]; exact hs.2⟩ hr⟩
theorem scriptPrints_c (gr : Evq → List Cq) (kr : Evq → List Int) (p : Option Addr) (n cap : Nat) (l : List Evq) (W0 : World) (hn : l.length = n) (h : V.slAt W0 p 9 Evq.cells l) (ho : ∀ e ∈ l, EvR W0 e (gr e) (kr e)) (hI : ItoaAll W0) : Calls Tryd.prog 5 [.slice p n cap].toArray W0
    fun e w' => e = .returned (.bool true) ∧ Below W0.heap.size W0 w' := by
  refine V.calls [] Tryd.func5 rfl Tryd.ntmps5 (Nat.le_of_ble_eq_true rfl) (V.sat_nil _) ?_
  refine CW.seq ?_
  refine CW.region ?_
  refine LW.v rfl rfl (Val.assign rfl) ?_
  refine LW.nil ?_
  refine PQ.seq ?_
  refine CW.seq ?_
  refine CW.seq ?_
  refine CW.region ?_
  refine LW.v rfl rfl (Val.move rfl) ?_
  refine LW.e rfl rfl (Eff.callR rfl Tryd.call16 (fun w hw => heavy_c gr kr p n cap l w hn (hw.slAt h (by simp [ids])) (fun e he => (ho e he).hp hw))) ?_
  intro x hx
  refine LW.nil ?_
  refine PQ.seq ?_
  refine CW.cond rfl (fun h14 => ?_) (fun h14 => ?_)
  · replace h14 := bT h14
    refine CW.seq ?_
    refine CW.region ?_
    refine LW.e rfl rfl (Eff.callV rfl Tryd.call11 (fun w hw => awake28_c w)) ?_
    intro _ _
    refine LW.v rfl rfl (Val.assign rfl) ?_
    refine LW.nil ?_
    refine PQ.seq ?_
    refine CW.ret ?_
    refine PQ.then_ret ?_
    refine PQ.ret1 rfl rfl ?_
    intro w' hw; exact ⟨rfl, hw.below⟩
  · replace h14 := bF h14
    obtain ⟨hx1, hx2⟩ := hx h14
    have hlns : LnsOk W0 l (l.map fun e => lineF e (gr e) (kr e)) := ⟨by rw [List.length_map], fun i e he => ⟨gr e, kr e, (hx2 e (List.mem_of_getElem? he)).ok (ho e (List.mem_of_getElem? he)), by rw [List.getElem?_map, he]; rfl⟩⟩
    refine CW.skip ?_
    refine PQ.seq ?_
    refine CW.seq ?_
    refine CW.region ?_
    refine LW.v rfl rfl (Val.move rfl) ?_
    refine LW.e rfl rfl (Eff.callM ([]) .nil rfl Tryd.call17 (fun w hw hs0 => copyEvents_c gr kr p n cap l w hn (hw.slAt h (by simp [ids])) (by omega) (fun e he => (ho e he).hp hw) hx2)) ?_
    rintro ⟨o, L, G⟩ ⟨hyo, hcp, hLl, hcs⟩
    simp only at hyo hcp hLl hcs
    have hLln : L.length = n := by omega
    refine LW.v rfl rfl (Val.assign rfl) ?_
    refine LW.nil ?_
    refine PQ.seq ?_
    refine CW.seq ?_
    refine CW.region ?_
    refine LW.v rfl rfl (Val.move rfl) ?_
    refine LW.re 19 (.slice (ownSl L.length o).a L.length (ownSl L.length o).c) rfl (ownSl_v2 hyo) ?_
    refine LW.e rfl rfl (Eff.callV rfl Tryd.call18 (fun w hw => print_c (l.map fun e => lineF e (gr e) (kr e)) (ownSl L.length o).a L.length (ownSl L.length o).c L w rfl (ownSl_at ev_len hyo (hw.sat.pick (ss := [ownG 44 (L.flatMap Evq.cells) o]) (by repeat (first | exact .nil | apply Pick.cons | exact .here | apply Ext.there)))) (by omega) (cpL_lns (hcp w (hw.sat.pick (ss := [G]) (by repeat (first | exact .nil | apply Pick.cons | exact .here | apply Ext.there)))) hx2 ho) (hI.mono hw.below))) ?_
    intro _ _
    refine LW.v rfl rfl (Val.move rfl) ?_
    refine LW.v rfl rfl (Val.extract rfl rfl) ?_
    refine LW.v rfl rfl (Val.extract rfl rfl) ?_
    refine LW.v rfl rfl (Val.assign rfl) ?_
    refine LW.v rfl rfl (Val.assign rfl) ?_
    refine LW.nil ?_
    refine PQ.seq ?_
    refine CW.seq ?_
    refine CW.region ?_
    refine LW.v rfl rfl (Val.move rfl) ?_
    refine LW.e rfl rfl (Eff.callV rfl Tryd.call19 (fun w hw => rprint_c (l.map fun e => lineF e (gr e) (kr e)) p n cap l w hn (hw.slAt h (by simp [ids])) (by omega) (hlns.hp hw))) ?_
    intro _ _
    refine LW.v rfl rfl (Val.move rfl) ?_
    refine LW.v rfl rfl (Val.extract rfl rfl) ?_
    refine LW.v rfl rfl (Val.extract rfl rfl) ?_
    refine LW.v rfl rfl (Val.assign rfl) ?_
    refine LW.v rfl rfl (Val.assign rfl) ?_
    refine LW.nil ?_
    refine PQ.seq ?_
    refine CW.seq ?_
    refine CW.seq ?_
    refine CW.region ?_
    refine LW.v rfl rfl (Val.move rfl) ?_
    refine LW.v rfl rfl (Val.move rfl) ?_
    refine LW.v rfl rfl (Val.neStr rfl rfl) ?_
    refine LW.re 30 (.bool false) rfl (by simp) ?_
    refine LW.v rfl rfl (Val.move rfl) ?_
    refine LW.v rfl rfl (Val.move rfl) ?_
    refine LW.e rfl rfl (Eff.callV rfl Tryd.call20 (fun w hw => num_c _ w)) ?_
    intro _ _
    refine LW.v rfl rfl (Val.move rfl) ?_
    refine LW.v rfl rfl (Val.cmp rfl rfl rfl) ?_
    refine LW.re 35 (.bool false) rfl (by simp) ?_
    refine LW.v rfl rfl (Val.pick_f rfl rfl) ?_
    refine LW.v rfl rfl (Val.move rfl) ?_
    refine LW.v rfl rfl (Val.move rfl) ?_
    refine LW.v rfl rfl (Val.move rfl) ?_
    refine LW.re 38 (.slice (ownSl L.length o).a n (ownSl L.length o).c) rfl ((ownSl_v2 hyo).trans (congrArg (fun z => Value.slice _ z _) hLln)) ?_
    refine LW.e rfl rfl (Eff.callV rfl Tryd.call21 (fun w hw => same_c L l _ _ n _ _ hLln hn (by omega) w (ownSl_at ev_len hyo (hw.sat.pick (ss := [ownG 44 (L.flatMap Evq.cells) o]) (by repeat (first | exact .nil | apply Pick.cons | exact .here | apply Ext.there)))) (hw.slAt h (by simp [ids])) (fun i s1 s2 hs1 hs2 => by
      obtain ⟨g, k, hre, hr⟩ := (hcp w (hw.sat.pick (ss := [G]) (by repeat (first | exact .nil | apply Pick.cons | exact .here | apply Ext.there)))).2 i s2 s1 hs2 hs1
      have hs := hx2 s2 (List.mem_of_getElem? hs2)
      have hr2 := (ho s2 (List.mem_of_getElem? hs2)).hp hw
      exact ⟨gr s2, kr s2, by rw [hre]; rfl, hr, hr2, hs.2.2.1, by have := hs.2.1; omega, by have := hs.1; have := hr2.kn; omega⟩))) ?_
    intro _ _
    refine LW.v rfl rfl (Val.not rfl) ?_
    refine LW.v rfl rfl (Val.pick_f rfl rfl) ?_
    refine LW.nil ?_
    refine PQ.seq ?_
    refine CW.cond_f rfl ?_
    refine CW.skip ?_
    refine PQ.seq ?_
    refine CW.seq ?_
    refine CW.seq ?_
    refine CW.region ?_
    refine LW.v rfl rfl (Val.assign rfl) ?_
    refine LW.nil ?_
    refine PQ.seq ?_
    refine CW.block ?_
    refine CW.loop (γ := Nat) (fun k => [(0, .slice p n cap), (3, ownV L.length o), (8, .int .i64 (k : Nat))]) (fun _ => [ownG 44 (L.flatMap Evq.cells) o, G]) (fun k => k ≤ n) (fun k => n - k) (0) (Nat.zero_le _) (by repeat (first | exact trivial | refine ⟨rfl, ?_⟩)) (by repeat (first | exact .nil | apply Pick.cons | exact .here | apply Ext.there)) ?_
    intro k
    intro hJ
    refine CW.seq ?_
    refine CW.seq ?_
    refine CW.region ?_
    refine LW.v rfl rfl (Val.move rfl) ?_
    refine LW.v rfl rfl (Val.move rfl) ?_
    refine LW.v rfl rfl (Val.lenSl rfl Tryd.underlying28) ?_
    refine LW.v rfl rfl (Val.cmp rfl rfl rfl) ?_
    refine LW.nil ?_
    refine PQ.seq ?_
    refine CW.cond rfl (fun h46 => ?_) (fun h46 => ?_)
    · replace h46 := bT h46
      obtain ⟨b, o', e, rfl, hb, he, hr⟩ := V.slAt_at h hn (k := k) (by omega)
      obtain ⟨⟨g, rest, cap2⟩, rfl⟩ := own_some hyo (by omega)
      obtain ⟨e1, he1⟩ : ∃ x, L[k]? = some x := ⟨L[k]'(by omega), by simp⟩
      have hro := ho e (List.mem_of_getElem? he)
      have hSe := hx2 e (List.mem_of_getElem? he)
      obtain ⟨g1, k1, hre⟩ := hcs k e e1 he he1
      rw [V.ownG_some]
      refine CW.skip ?_
      refine PQ.seq ?_
      refine CW.seq ?_
      refine CW.block ?_
      refine CW.seq ?_
      refine CW.region ?_
      refine LW.v rfl rfl (Val.move rfl) ?_
      refine LW.v rfl rfl (Val.move rfl) ?_
      first | (refine LW.v rfl rfl (Val.indexAddrN rfl rfl Tryd.underlying28 Tryd.sizeOf44 (by omega)) ?_) | (refine LW.v rfl rfl (Val.indexAddr rfl rfl Tryd.underlying28 Tryd.sizeOf44 (by omega) (by omega)) ?_)
      refine LW.v rfl rfl (Val.loadFl (enc := Evq.cells) rfl Tryd.isAgg44 (by repeat (first | exact .here | refine .there ?_)) ev_len he1 Tryd.sizeOf44) ?_
      refine LW.e rfl rfl (Eff.callV rfl Tryd.call22 (fun w hw => by
        obtain ⟨g9, k9, hre9, hr9⟩ := (hcp w (hw.sat.pick (ss := [G]) (by repeat (first | exact .nil | apply Pick.cons | exact .here | apply Ext.there)))).2 k e e1 he he1
        have hok1 : EvOk w e1 (gr e) (kr e) := EvS.ok ⟨by have h7 := hr9.kn; have h8 := hro.kn; have h6 := hSe.1; omega, by rw [hre]; exact hSe.2⟩ hr9
        exact line_c e1 (gr e) (kr e) w hok1 (hI.mono hw.below) (fun nm l mo hP hf => by have := lineP_len hok1 nm l mo hP hf; omega))) ?_
      intro _ _
      refine LW.v rfl rfl (Val.move rfl) ?_
      refine LW.v rfl rfl (Val.extract rfl rfl) ?_
      refine LW.v rfl rfl (Val.extract rfl rfl) ?_
      refine LW.v rfl rfl (Val.assign rfl) ?_
      refine LW.v rfl rfl (Val.assign rfl) ?_
      refine LW.nil ?_
      refine PQ.seq ?_
      refine CW.seq ?_
      refine CW.region ?_
      refine LW.v rfl rfl (Val.move rfl) ?_
      refine LW.v rfl rfl (Val.move rfl) ?_
      first | (refine LW.v rfl rfl (Val.indexAddrN rfl rfl Tryd.underlying28 Tryd.sizeOf44 (by omega)) ?_) | (refine LW.v rfl rfl (Val.indexAddr rfl rfl Tryd.underlying28 Tryd.sizeOf44 (by omega) (by omega)) ?_)
      refine LW.v rfl rfl (Val.loadOA rfl Tryd.isAgg44 hb (by simp [ids]) (hr k e he) Tryd.sizeOf44) ?_
      refine LW.e rfl rfl (Eff.callV rfl Tryd.call23 (fun w hw => rline_c e (gr e) (kr e) w ((hSe.ok hro).hp hw))) ?_
      intro _ _
      refine LW.v rfl rfl (Val.move rfl) ?_
      refine LW.v rfl rfl (Val.extract rfl rfl) ?_
      refine LW.v rfl rfl (Val.extract rfl rfl) ?_
      refine LW.v rfl rfl (Val.assign rfl) ?_
      refine LW.v rfl rfl (Val.assign rfl) ?_
      refine LW.nil ?_
      refine PQ.seq ?_
      refine CW.seq ?_
      refine CW.region ?_
      refine LW.v rfl rfl (Val.move rfl) ?_
      refine LW.v rfl rfl (Val.move rfl) ?_
      refine LW.v rfl rfl (Val.neStr rfl rfl) ?_
      refine LW.re 67 (.bool false) rfl (by rw [hre, lineF_re]; simp) ?_
      refine LW.v rfl rfl (Val.move rfl) ?_
      refine LW.v rfl rfl (Val.move rfl) ?_
      refine LW.e rfl rfl (Eff.callV rfl Tryd.call20 (fun w hw => num_c _ w)) ?_
      intro _ _
      refine LW.v rfl rfl (Val.move rfl) ?_
      refine LW.v rfl rfl (Val.cmp rfl rfl rfl) ?_
      refine LW.re 72 (.bool false) rfl (by rw [hre, lineF_re]; simp) ?_
      refine LW.v rfl rfl (Val.pick_f rfl rfl) ?_
      refine LW.nil ?_
      refine PQ.seq ?_
      refine CW.cond_f rfl ?_
      refine CW.skip ?_
      refine PQ.in_normal ?_
      refine PQ.seq ?_
      refine CW.region ?_
      refine LW.v rfl rfl (Val.move rfl) ?_
      refine LW.v rfl rfl (Val.ar rfl rfl rfl (IntWalk.i64_in _ (by omega))) ?_
      refine LW.v rfl rfl (Val.assign rfl) ?_
      refine LW.nil ?_
      refine PQ.round (k + 1) (by omega) (by omega) (by repeat (first | exact trivial | refine ⟨rfl, ?_⟩)) (by repeat (first | exact .nil | apply Pick.cons | exact .here | apply Ext.there))
    · replace h46 := bF h46
      refine CW.exit ?_
      refine PQ.then_exit ?_
      refine PQ.then_exit ?_
      refine PQ.in_here ?_
      refine PQ.seq ?_
      refine CW.seq ?_
      refine CW.region ?_
      refine LW.e rfl rfl (Eff.callV rfl Tryd.call11 (fun w hw => awake28_c w)) ?_
      intro _ _
      refine LW.v rfl rfl (Val.assign rfl) ?_
      refine LW.nil ?_
      refine PQ.seq ?_
      refine CW.ret ?_
      refine PQ.ret1 rfl rfl ?_
      intro w' hw; exact ⟨rfl, hw.below⟩
end Go.Proofs.YtagliemeolngiaaDoor
