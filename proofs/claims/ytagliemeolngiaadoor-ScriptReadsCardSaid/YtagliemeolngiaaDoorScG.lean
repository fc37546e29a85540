/- The words of a call. -/
import Derived.Test.YtagliemeolngiaaDoorScF
import Derived.Test.YtagliemeolngiaaDoorV23
import Derived.Lib.Hide
namespace Go.Proofs.YtagliemeolngiaaDoor
open Go Go.RowKit V
set_option linter.unusedVariables false
set_option maxRecDepth 100000
open V (str byC ownV ownG ownS ownOk)
/-- A slice value's three parts. -/
structure Sl where
  a : Option Addr
  n : Nat
  c : Nat
/-- A call as it lies in memory. -/
structure Cq where
  ck : Int
  key : List UInt8
  val : List UInt8
  to : List UInt8
  grp : Sl
def Cq.cells (c : Cq) : List Value := [.int .i64 c.ck, str c.key, str c.val, str c.to, .slice c.grp.a c.grp.n c.grp.c]
theorem cq_len (c : Cq) : c.cells.length = 5 := rfl
theorem cq_one (c : Cq) : c.cells.all (·.oneCell') = true := rfl
def namesE : V.MI := [(0, 1, str [103, 101, 116]), (1, 2, str [112, 117, 116]), (2, 3, str [100, 101, 108]), (3, 4, str [101, 110, 113]), (4, 5, str [100, 101, 113]), (5, 6, str [115, 99, 97, 110]), (6, 7, str [103, 114, 111, 117, 112]), (7, 8, str [115, 121, 110, 99])]
def nameF (k : Int) : Option (List UInt8) := if k = 1 then some [103, 101, 116] else if k = 2 then some [112, 117, 116] else if k = 3 then some [100, 101, 108] else if k = 4 then some [101, 110, 113] else if k = 5 then some [100, 101, 113] else if k = 6 then some [115, 99, 97, 110] else if k = 7 then some [103, 114, 111, 117, 112] else if k = 8 then some [115, 121, 110, 99] else none
theorem iget_name (k : Int) : V.iget namesE k = (nameF k).map str := by
  unfold namesE nameF
  simp only [V.iget, eq_comm (b := k)]
  repeat' split
  all_goals first | rfl | (exfalso; omega) | simp_all
def offs (k : Int) : List Nat := if k = 1 ∨ k = 3 then [1] else if k = 2 then [1, 2] else if k = 4 then [2] else if k = 6 then [1, 3] else []
def Cq.fld (c : Cq) : Nat → List UInt8
  | 1 => c.key
  | 2 => c.val
  | _ => c.to
theorem offs_len (k : Int) : (offs k).length ≤ 2 := by unfold offs; (repeat' split) <;> simp
theorem offs_mem {k : Int} {o : Nat} (h : o ∈ offs k) : o = 1 ∨ o = 2 ∨ o = 3 := by
  unfold offs at h
  repeat' split at h
  all_goals simp at h
  all_goals omega
theorem fld_at {c : Cq} {k : Int} {o : Nat} (h : o ∈ offs k) : c.cells[o]? = some (str (c.fld o)) := by
  rcases offs_mem h with rfl | rfl | rfl <;> rfl
/-- The words of a call that is no group. -/
def singleF (c : Cq) : Option (List (List UInt8)) := if c.ck = 7 then none else (nameF c.ck).map fun nm => nm :: (offs c.ck).map fun o => wordF (c.fld o)
def ptrs (b : Nat) (l : List Nat) : List Value := l.map fun o => .pointer (some ⟨b, o, none⟩)
theorem ptrs_len (b : Nat) (l : List Nat) : (ptrs b l).length = l.length := by simp [ptrs]
theorem name_len {k : Int} {nm : List UInt8} (h : nameF k = some nm) : nm.length ≤ 5 := by
  unfold nameF at h
  repeat' split at h
  all_goals first | (cases h; done) | (cases h; simp)
theorem names_c (w : World) : Calls Tryd.prog 66 [].toArray w fun e w' => ∃ b : Nat, True ∧ e = .returned (.map (some b)) ∧ Hp ⟨w, []⟩ [[(b, V.imO namesE 8)]] w' := by
  refine V.calls [] Tryd.func66 rfl Tryd.ntmps66 (Nat.le_of_ble_eq_true rfl) (V.sat_nil _) ?_
  refine CW.seq ?_
  refine CW.region ?_
  refine LW.v rfl rfl (Val.assign rfl) ?_
  refine LW.nil ?_
  refine PQ.seq ?_
  refine CW.seq ?_
  refine CW.region ?_
  refine LW.e rfl rfl (Eff.imakeMap) ?_
  intro b1 _
  refine LW.eN rfl (Eff.insert rfl rfl rfl Tryd.underlying103 Tryd.underlying3 (by repeat (first | exact .here | apply Upd.there)) (by rfl)) ?_
  intro _ _
  refine LW.eN rfl (Eff.insert rfl rfl rfl Tryd.underlying103 Tryd.underlying3 (by repeat (first | exact .here | apply Upd.there)) (by rfl)) ?_
  intro _ _
  refine LW.eN rfl (Eff.insert rfl rfl rfl Tryd.underlying103 Tryd.underlying3 (by repeat (first | exact .here | apply Upd.there)) (by rfl)) ?_
  intro _ _
  refine LW.eN rfl (Eff.insert rfl rfl rfl Tryd.underlying103 Tryd.underlying3 (by repeat (first | exact .here | apply Upd.there)) (by rfl)) ?_
  intro _ _
  refine LW.eN rfl (Eff.insert rfl rfl rfl Tryd.underlying103 Tryd.underlying3 (by repeat (first | exact .here | apply Upd.there)) (by rfl)) ?_
  intro _ _
  refine LW.eN rfl (Eff.insert rfl rfl rfl Tryd.underlying103 Tryd.underlying3 (by repeat (first | exact .here | apply Upd.there)) (by rfl)) ?_
  intro _ _
  refine LW.eN rfl (Eff.insert rfl rfl rfl Tryd.underlying103 Tryd.underlying3 (by repeat (first | exact .here | apply Upd.there)) (by rfl)) ?_
  intro _ _
  refine LW.eN rfl (Eff.insert rfl rfl rfl Tryd.underlying103 Tryd.underlying3 (by repeat (first | exact .here | apply Upd.there)) (by rfl)) ?_
  intro _ _
  refine LW.v rfl rfl (Val.move rfl) ?_
  refine LW.v rfl rfl (Val.assign rfl) ?_
  refine LW.nil ?_
  refine PQ.seq ?_
  refine CW.ret ?_
  refine PQ.ret1 rfl rfl ?_
  intro w' hw; exact ⟨b1, trivial, rfl, hw⟩
theorem texts_c (b : Nat) (c : Cq) (w : World) (hs : Sat [[(b, .cells c.cells.toArray 41 (0, 0))]] w) : Calls Tryd.prog 67 [.pointer (some ⟨b, 0, none⟩)].toArray w fun e w' => ∃ o : V.OwnO, ownOk 1 (offs c.ck).length (ptrs b (offs c.ck)) o ∧ e = .returned (ownV (offs c.ck).length o) ∧ Hp ⟨w, ids [[(b, .cells c.cells.toArray 41 (0, 0))]]⟩ [[(b, .cells c.cells.toArray 41 (0, 0))], ownG 108 (ptrs b (offs c.ck)) o] w' := by
  refine V.calls [[(b, .cells c.cells.toArray 41 (0, 0))]] Tryd.func67 rfl Tryd.ntmps67 (Nat.le_of_ble_eq_true rfl) hs ?_
  refine CW.seq ?_
  refine CW.region ?_
  refine LW.v rfl rfl (Val.assign rfl) ?_
  refine LW.nil ?_
  refine PQ.seq ?_
  refine CW.seq ?_
  refine CW.seq ?_
  refine CW.region ?_
  refine LW.v rfl rfl (Val.move rfl) ?_
  refine LW.v rfl rfl (Val.nilCheck rfl) ?_
  refine LW.v rfl rfl (Val.fieldAddr 0 rfl Tryd.underlying41 rfl rfl Tryd.sizeOf3) ?_
  refine LW.v rfl rfl (Val.load rfl Tryd.isAgg3 (by repeat (first | exact .here | refine .there ?_)) (by rfl)) ?_
  refine LW.nil ?_
  refine PQ.seq ?_
  refine CW.block ?_
  refine CW.seq ?_
  refine CW.seq ?_
  refine CW.region ?_
  refine LW.v rfl rfl (Val.cmp rfl rfl rfl) ?_
  refine LW.v rfl rfl (Val.assign rfl) ?_
  refine LW.nil ?_
  refine PQ.seq ?_
  refine CW.cond rfl (fun h7 => ?_) (fun h7 => ?_)
  · replace h7 := bT h7
    refine CW.re 7 (.bool true) rfl (by simp [h7]) ?_
    refine CW.skip ?_
    refine PQ.seq ?_
    refine CW.cond_t rfl ?_
    refine CW.seq ?_
    refine CW.region ?_
    refine LW.v rfl rfl (Val.move rfl) ?_
    refine LW.v rfl rfl (Val.nilCheck rfl) ?_
    refine LW.v rfl rfl (Val.fieldAddr 1 rfl Tryd.underlying41 rfl rfl Tryd.sizeOf9) ?_
    refine LW.e rfl rfl (Eff.buildSlice (rfl) [_] Tryd.underlying105 Tryd.sizeOf108 (by exact Tryd.zeroValue108) rfl rfl rfl rfl (by rfl)) ?_
    intro b13 _
    refine LW.v rfl rfl (Val.assign rfl) ?_
    refine LW.nil ?_
    refine PQ.seq ?_
    refine CW.ret ?_
    refine PQ.in_ret ?_
    refine PQ.then_ret ?_
    refine PQ.ret1 rfl rfl ?_
    intro w' hw
    have ho : offs c.ck = [1] := by unfold offs; rw [if_pos (by omega)]
    rw [ho]
    exact ⟨some (b13, [], 1), ⟨rfl, rfl⟩, rfl, hw.perm (by simp [V.ownG_some, ptrs, List.Perm.swap]; done)⟩
  · replace h7 := bF h7
    refine CW.re 7 (.bool false) rfl (by simp [h7]) ?_
    refine CW.region ?_
    refine LW.v rfl rfl (Val.cmp rfl rfl rfl) ?_
    refine LW.v rfl rfl (Val.assign rfl) ?_
    refine LW.nil ?_
    refine PQ.seq ?_
    refine CW.cond rfl (fun h7 => ?_) (fun h7 => ?_)
    · replace h7 := bT h7
      refine CW.re 7 (.bool true) rfl (by simp [h7]) ?_
      refine CW.seq ?_
      refine CW.region ?_
      refine LW.v rfl rfl (Val.move rfl) ?_
      refine LW.v rfl rfl (Val.nilCheck rfl) ?_
      refine LW.v rfl rfl (Val.fieldAddr 1 rfl Tryd.underlying41 rfl rfl Tryd.sizeOf9) ?_
      refine LW.e rfl rfl (Eff.buildSlice (rfl) [_] Tryd.underlying105 Tryd.sizeOf108 (by exact Tryd.zeroValue108) rfl rfl rfl rfl (by rfl)) ?_
      intro b13 _
      refine LW.v rfl rfl (Val.assign rfl) ?_
      refine LW.nil ?_
      refine PQ.seq ?_
      refine CW.ret ?_
      refine PQ.in_ret ?_
      refine PQ.then_ret ?_
      refine PQ.ret1 rfl rfl ?_
      intro w' hw
      have ho : offs c.ck = [1] := by unfold offs; rw [if_pos (by omega)]
      rw [ho]
      exact ⟨some (b13, [], 1), ⟨rfl, rfl⟩, rfl, hw.perm (by simp [V.ownG_some, ptrs, List.Perm.swap]; done)⟩
    · replace h7 := bF h7
      refine CW.re 7 (.bool false) rfl (by simp [h7]) ?_
      refine CW.seq ?_
      refine CW.region ?_
      refine LW.v rfl rfl (Val.cmp rfl rfl rfl) ?_
      refine LW.v rfl rfl (Val.assign rfl) ?_
      refine LW.nil ?_
      refine PQ.seq ?_
      refine CW.cond rfl (fun h14 => ?_) (fun h14 => ?_)
      · replace h14 := bT h14
        refine CW.seq ?_
        refine CW.drawn ([[(b, .cells c.cells.toArray 41 (0, 0))]]) mixed (by repeat (first | exact .nil | apply Pick.cons | exact .here | apply Ext.there)) ?_
        refine RW.v 0 rfl (by kernel_rfl) (by kernel_rfl) (by kernel_rfl) (fun _ _ _ h => h) rfl rfl (Val.move rfl) ?_
        refine RW.v 1 rfl (by kernel_rfl) (by kernel_rfl) (by kernel_rfl) (fun _ _ _ h => h) rfl rfl (Val.nilCheck rfl) ?_
        refine RW.v 2 rfl (by kernel_rfl) (by kernel_rfl) (by kernel_rfl) (fun _ _ _ h => h) rfl rfl (Val.fieldAddr 1 rfl Tryd.underlying41 rfl rfl Tryd.sizeOf9) ?_
        refine RW.v 3 rfl (by kernel_rfl) (by kernel_rfl) (by kernel_rfl) (fun _ _ _ h => h) rfl rfl (Val.move rfl) ?_
        refine RW.v 4 rfl (by kernel_rfl) (by kernel_rfl) (by kernel_rfl) (fun _ _ _ h => h) rfl rfl (Val.nilCheck rfl) ?_
        refine RW.v 5 rfl (by kernel_rfl) (by kernel_rfl) (by kernel_rfl) (fun _ _ _ h => h) rfl rfl (Val.fieldAddr 2 rfl Tryd.underlying41 rfl rfl Tryd.sizeOf9) ?_
        refine RW.e 6 rfl (by kernel_rfl) rfl rfl (Eff.buildSlice (rfl) [_, _] Tryd.underlying105 Tryd.sizeOf108 (by exact Tryd.zeroValue108) rfl rfl rfl rfl (by rfl)) (fun x => ⟨_, (by repeat (first | exact .nil | apply Pick.cons | exact .here | apply Ext.there))⟩) ?_
        intro b22 _
        refine RW.v 7 rfl (by kernel_rfl) (by kernel_rfl) (by kernel_rfl) (fun _ _ _ h => h) rfl rfl (Val.assign rfl) ?_
        refine RW.done (by kernel_rfl) ?_
        refine PQ.seq ?_
        refine CW.ret ?_
        refine PQ.in_ret ?_
        refine PQ.then_ret ?_
        refine PQ.ret1 rfl rfl ?_
        intro w' hw
        have ho : offs c.ck = [1, 2] := by unfold offs; rw [if_neg (by omega), if_pos (by omega)]
        rw [ho]
        exact ⟨some (b22, [], 2), ⟨rfl, rfl⟩, rfl, hw.perm (by simp [V.ownG_some, ptrs, List.Perm.swap]; done)⟩
      · replace h14 := bF h14
        refine CW.seq ?_
        refine CW.region ?_
        refine LW.v rfl rfl (Val.cmp rfl rfl rfl) ?_
        refine LW.v rfl rfl (Val.assign rfl) ?_
        refine LW.nil ?_
        refine PQ.seq ?_
        refine CW.cond rfl (fun h23 => ?_) (fun h23 => ?_)
        · replace h23 := bT h23
          refine CW.seq ?_
          refine CW.region ?_
          refine LW.v rfl rfl (Val.move rfl) ?_
          refine LW.v rfl rfl (Val.nilCheck rfl) ?_
          refine LW.v rfl rfl (Val.fieldAddr 2 rfl Tryd.underlying41 rfl rfl Tryd.sizeOf9) ?_
          refine LW.e rfl rfl (Eff.buildSlice (rfl) [_] Tryd.underlying105 Tryd.sizeOf108 (by exact Tryd.zeroValue108) rfl rfl rfl rfl (by rfl)) ?_
          intro b28 _
          refine LW.v rfl rfl (Val.assign rfl) ?_
          refine LW.nil ?_
          refine PQ.seq ?_
          refine CW.ret ?_
          refine PQ.in_ret ?_
          refine PQ.then_ret ?_
          refine PQ.ret1 rfl rfl ?_
          intro w' hw
          have ho : offs c.ck = [2] := by unfold offs; rw [if_neg (by omega), if_neg (by omega), if_pos (by omega)]
          rw [ho]
          exact ⟨some (b28, [], 1), ⟨rfl, rfl⟩, rfl, hw.perm (by simp [V.ownG_some, ptrs, List.Perm.swap]; done)⟩
        · replace h23 := bF h23
          refine CW.seq ?_
          refine CW.region ?_
          refine LW.v rfl rfl (Val.cmp rfl rfl rfl) ?_
          refine LW.v rfl rfl (Val.assign rfl) ?_
          refine LW.nil ?_
          refine PQ.seq ?_
          refine CW.cond rfl (fun h29 => ?_) (fun h29 => ?_)
          · replace h29 := bT h29
            refine CW.seq ?_
            refine CW.drawn ([[(b, .cells c.cells.toArray 41 (0, 0))]]) mixed (by repeat (first | exact .nil | apply Pick.cons | exact .here | apply Ext.there)) ?_
            refine RW.v 0 rfl (by kernel_rfl) (by kernel_rfl) (by kernel_rfl) (fun _ _ _ h => h) rfl rfl (Val.move rfl) ?_
            refine RW.v 1 rfl (by kernel_rfl) (by kernel_rfl) (by kernel_rfl) (fun _ _ _ h => h) rfl rfl (Val.nilCheck rfl) ?_
            refine RW.v 2 rfl (by kernel_rfl) (by kernel_rfl) (by kernel_rfl) (fun _ _ _ h => h) rfl rfl (Val.fieldAddr 1 rfl Tryd.underlying41 rfl rfl Tryd.sizeOf9) ?_
            refine RW.v 3 rfl (by kernel_rfl) (by kernel_rfl) (by kernel_rfl) (fun _ _ _ h => h) rfl rfl (Val.move rfl) ?_
            refine RW.v 4 rfl (by kernel_rfl) (by kernel_rfl) (by kernel_rfl) (fun _ _ _ h => h) rfl rfl (Val.nilCheck rfl) ?_
            refine RW.v 5 rfl (by kernel_rfl) (by kernel_rfl) (by kernel_rfl) (fun _ _ _ h => h) rfl rfl (Val.fieldAddr 3 rfl Tryd.underlying41 rfl rfl Tryd.sizeOf9) ?_
            refine RW.e 6 rfl (by kernel_rfl) rfl rfl (Eff.buildSlice (rfl) [_, _] Tryd.underlying105 Tryd.sizeOf108 (by exact Tryd.zeroValue108) rfl rfl rfl rfl (by rfl)) (fun x => ⟨_, (by repeat (first | exact .nil | apply Pick.cons | exact .here | apply Ext.there))⟩) ?_
            intro b37 _
            refine RW.v 7 rfl (by kernel_rfl) (by kernel_rfl) (by kernel_rfl) (fun _ _ _ h => h) rfl rfl (Val.assign rfl) ?_
            refine RW.done (by kernel_rfl) ?_
            refine PQ.seq ?_
            refine CW.ret ?_
            refine PQ.in_ret ?_
            refine PQ.then_ret ?_
            refine PQ.ret1 rfl rfl ?_
            intro w' hw
            have ho : offs c.ck = [1, 3] := by unfold offs; rw [if_neg (by omega), if_neg (by omega), if_neg (by omega), if_pos (by omega)]
            rw [ho]
            exact ⟨some (b37, [], 2), ⟨rfl, rfl⟩, rfl, hw.perm (by simp [V.ownG_some, ptrs, List.Perm.swap]; done)⟩
          · replace h29 := bF h29
            refine CW.skip ?_
            refine PQ.in_normal ?_
            refine PQ.seq ?_
            refine CW.seq ?_
            refine CW.region ?_
            refine LW.v rfl rfl (Val.assign rfl) ?_
            refine LW.nil ?_
            refine PQ.seq ?_
            refine CW.ret ?_
            refine PQ.ret1 rfl rfl ?_
            intro w' hw
            have ho : offs c.ck = [] := by unfold offs; rw [if_neg (by omega), if_neg (by omega), if_neg (by omega), if_neg (by omega)]
            rw [ho]
            exact ⟨none, ⟨rfl, rfl⟩, rfl, hw.perm (.refl _)⟩
theorem singleF_len {c : Cq} {ws : List (List UInt8)} (h : singleF c = some ws) : ws.length ≤ 3 := by
  unfold singleF at h
  split at h
  · cases h
  · simp only [Option.map_eq_some_iff] at h
    obtain ⟨nm, _, rfl⟩ := h
    have := offs_len c.ck
    simp; omega
/-- So many words, of one's own. -/
def WsOk (r : Option (List (List UInt8))) (y : V.OwnO × List (List UInt8)) : Prop := ownOk 1 y.2.length (stC y.2) y.1 ∧ (∀ ws, r = some ws → y.2 = ws)
def Cq.small (c : Cq) : Prop := c.key.length ≤ 300000 ∧ c.val.length ≤ 300000 ∧ c.to.length ≤ 300000
theorem Cq.small.fld {c : Cq} (h : c.small) (o : Nat) : (c.fld o).length ≤ 300000 := by
  unfold Cq.fld; split
  · exact h.1
  · exact h.2.1
  · exact h.2.2
theorem own_some {sz n : Nat} {xs : List Value} {o : V.OwnO} (h : ownOk sz n xs o) (hn : 0 < n) : ∃ q, o = some q := by
  rcases o with _ | q
  · have h0 : n = 0 := h.2
    omega
  · exact ⟨q, rfl⟩
theorem single_c (c : Cq) (hc : c.small) (w : World) : Calls Tryd.prog 54 [.agg c.cells.toArray].toArray w fun e w' => ∃ y : V.OwnO × List (List UInt8), WsOk (singleF c) y ∧ e = .returned (.tuple #[ownV y.2.length y.1, .bool (singleF c).isSome]) ∧ Hp ⟨w, []⟩ [ownG 9 (stC y.2) y.1] w' := by
  refine V.calls [] Tryd.func54 rfl Tryd.ntmps54 (Nat.le_of_ble_eq_true rfl) (V.sat_nil _) ?_
  refine CW.seq ?_
  refine CW.region ?_
  refine LW.e rfl rfl (Eff.boxA rfl) ?_
  intro b1 _
  refine LW.v rfl rfl (Val.assign rfl) ?_
  refine LW.v rfl rfl (Val.assign rfl) ?_
  refine LW.nil ?_
  refine PQ.seq ?_
  refine CW.seq ?_
  refine CW.drawn ([[(b1, .cells c.cells.toArray 41 (0, 0))]]) mixed (by repeat (first | exact .nil | apply Pick.cons | exact .here | apply Ext.there)) ?_
  refine RW.v 1 rfl (by kernel_rfl) (by kernel_rfl) (by kernel_rfl) (fun _ _ _ h => h) rfl rfl (Val.fieldAddr 0 rfl Tryd.underlying41 rfl rfl Tryd.sizeOf3) ?_
  refine RW.v 2 rfl (by kernel_rfl) (by kernel_rfl) (by kernel_rfl) (fun _ _ _ h => h) rfl rfl (Val.load rfl Tryd.isAgg3 (by repeat (first | exact .here | refine .there ?_)) (by rfl)) ?_
  refine RW.e 0 rfl (by kernel_rfl) rfl rfl (Eff.callM ([]) .nil rfl Tryd.call66 (fun w hw hs0 => names_c w)) (fun x => ⟨_, (by repeat (first | exact .nil | apply Pick.cons | exact .here | apply Ext.there))⟩) ?_
  intro bm _
  refine RW.e 3 rfl (by kernel_rfl) rfl rfl (Eff.ofVal (Val.ilookup (z := str []) rfl rfl Tryd.underlying103 Tryd.underlying3 Tryd.zeroValue9 (by repeat (first | exact .here | refine .there ?_)))) (fun x => ⟨_, (by repeat (first | exact .nil | apply Pick.cons | exact .here | apply Ext.there))⟩) ?_
  intro _ _
  refine RW.re 13 (.tuple [str ((nameF c.ck).getD []), .bool (nameF c.ck).isSome].toArray) rfl (by rw [iget_name]; cases nameF c.ck <;> rfl) ?_
  refine RW.v 4 rfl (by kernel_rfl) (by kernel_rfl) (by kernel_rfl) (fun _ _ _ h => h) rfl rfl (Val.move rfl) ?_
  refine RW.v 5 rfl (by kernel_rfl) (by kernel_rfl) (by kernel_rfl) (fun _ _ _ h => h) rfl rfl (Val.extract rfl rfl) ?_
  refine RW.v 6 rfl (by kernel_rfl) (by kernel_rfl) (by kernel_rfl) (fun _ _ _ h => h) rfl rfl (Val.extract rfl rfl) ?_
  refine RW.v 7 rfl (by kernel_rfl) (by kernel_rfl) (by kernel_rfl) (fun _ _ _ h => h) rfl rfl (Val.assign rfl) ?_
  refine RW.v 8 rfl (by kernel_rfl) (by kernel_rfl) (by kernel_rfl) (fun _ _ _ h => h) rfl rfl (Val.assign rfl) ?_
  refine RW.done (by kernel_rfl) ?_
  refine PQ.seq ?_
  refine CW.seq ?_
  refine CW.seq ?_
  refine CW.region ?_
  refine LW.v rfl rfl (Val.move rfl) ?_
  refine LW.v rfl rfl (Val.not rfl) ?_
  refine LW.v rfl rfl (Val.move rfl) ?_
  refine LW.split (d := 18) rfl (fun h18 => ?_) (fun h18 => ?_)
  · replace h18 := bT h18
    refine LW.p rfl rfl ?_
    refine LW.p rfl rfl ?_
    refine LW.p rfl rfl ?_
    refine LW.v rfl rfl (Val.pick_t rfl rfl) ?_
    refine LW.nil ?_
    refine PQ.seq ?_
    refine CW.cond_t rfl ?_
    refine CW.seq ?_
    refine CW.region ?_
    refine LW.v rfl rfl (Val.assign rfl) ?_
    refine LW.v rfl rfl (Val.assign rfl) ?_
    refine LW.nil ?_
    refine PQ.seq ?_
    refine CW.ret ?_
    refine PQ.then_ret ?_
    refine PQ.ret2 rfl rfl rfl ?_
    intro w' hw
    have hno : singleF c = none := by
      unfold singleF
      rcases Classical.em (c.ck = 7) with h7 | h7
      · rw [if_pos h7]
      · rw [if_neg h7]
        have h8 : (nameF c.ck).isSome = false := by
          first | (simpa using h18) | (exfalso; exact h7 (by simpa using h21)) | (exfalso; exact h7 (by simpa using h22))
        rw [Option.isSome_eq_false_iff, Option.isNone_iff_eq_none] at h8
        rw [h8]; rfl
    exact ⟨(none, []), ⟨⟨rfl, rfl⟩, fun ws h => by rw [hno] at h; cases h⟩, by rw [hno]; rfl, (hw.pick (ss := []) .nil).perm (.refl _)⟩
  · replace h18 := bF h18
    refine LW.v rfl rfl (Val.fieldAddr 0 rfl Tryd.underlying41 rfl rfl Tryd.sizeOf3) ?_
    refine LW.v rfl rfl (Val.load rfl Tryd.isAgg3 (by repeat (first | exact .here | refine .there ?_)) (by rfl)) ?_
    refine LW.v rfl rfl (Val.cmp rfl rfl rfl) ?_
    refine LW.v rfl rfl (Val.pick_f rfl rfl) ?_
    refine LW.nil ?_
    refine PQ.seq ?_
    refine CW.cond rfl (fun h22 => ?_) (fun h22 => ?_)
    · replace h22 := bT h22
      refine CW.seq ?_
      refine CW.region ?_
      refine LW.v rfl rfl (Val.assign rfl) ?_
      refine LW.v rfl rfl (Val.assign rfl) ?_
      refine LW.nil ?_
      refine PQ.seq ?_
      refine CW.ret ?_
      refine PQ.then_ret ?_
      refine PQ.ret2 rfl rfl rfl ?_
      intro w' hw
      have hno : singleF c = none := by
        unfold singleF
        rcases Classical.em (c.ck = 7) with h7 | h7
        · rw [if_pos h7]
        · rw [if_neg h7]
          have h8 : (nameF c.ck).isSome = false := by
            first | (simpa using h18) | (exfalso; exact h7 (by simpa using h21)) | (exfalso; exact h7 (by simpa using h22))
          rw [Option.isSome_eq_false_iff, Option.isNone_iff_eq_none] at h8
          rw [h8]; rfl
      exact ⟨(none, []), ⟨⟨rfl, rfl⟩, fun ws h => by rw [hno] at h; cases h⟩, by rw [hno]; rfl, (hw.pick (ss := []) .nil).perm (.refl _)⟩
    · replace h22 := bF h22
      have hk7 : ¬ c.ck = 7 := by first | (simpa using h21) | (simpa using h22)
      obtain ⟨nm, hnm⟩ : ∃ nm, nameF c.ck = some nm := Option.isSome_iff_exists.1 (by simpa using h18)
      refine CW.re 4 (str nm) rfl (by rw [hnm]; rfl) ?_
      refine CW.skip ?_
      refine PQ.seq ?_
      refine CW.seq ?_
      refine CW.region ?_
      refine LW.v rfl rfl (Val.move rfl) ?_
      refine LW.e rfl rfl (Eff.buildSlice (rfl) [_] Tryd.underlying73 Tryd.sizeOf9 (by exact Tryd.zeroValue9) rfl rfl rfl rfl (by rfl)) ?_
      intro b24 _
      refine LW.v rfl rfl (Val.assign rfl) ?_
      refine LW.nil ?_
      refine PQ.seq ?_
      refine CW.seq ?_
      refine CW.seq ?_
      refine CW.region ?_
      refine LW.e rfl rfl (Eff.callM ([[(b1, .cells c.cells.toArray 41 (0, 0))]]) (by repeat (first | exact .nil | apply Pick.cons | exact .here | apply Ext.there)) rfl Tryd.call67 (fun w hw hs0 => texts_c b1 c w hs0)) ?_
      intro op hop
      refine LW.v rfl rfl (Val.lenOwn rfl Tryd.underlying105 hop) ?_
      refine LW.v rfl rfl (Val.move rfl) ?_
      refine LW.nil ?_
      refine PQ.seq ?_
      refine CW.block ?_
      refine CW.loop (γ := Nat × V.OwnO) (fun k => [(6, ownV (nm :: ((offs c.ck).take k.1).map fun o => wordF (c.fld o)).length k.2), (25, ownV (offs c.ck).length op), (26, .int .i64 ((offs c.ck).length : Nat)), (27, .int .i64 (k.1 : Nat))]) (fun k => [[(b1, .cells c.cells.toArray 41 (0, 0))], ownG 108 (ptrs b1 (offs c.ck)) op, ownG 9 (stC (nm :: ((offs c.ck).take k.1).map fun o => wordF (c.fld o))) k.2]) (fun k => k.1 ≤ (offs c.ck).length ∧ ownOk 1 (nm :: ((offs c.ck).take k.1).map fun o => wordF (c.fld o)).length (stC (nm :: ((offs c.ck).take k.1).map fun o => wordF (c.fld o))) k.2) (fun k => (offs c.ck).length - k.1) ((0, some (b24, [], 1))) ⟨Nat.zero_le _, rfl, rfl⟩ (by repeat (first | exact trivial | refine ⟨rfl, ?_⟩)) (by repeat (first | exact .nil | apply Pick.cons | exact .here | apply Ext.there)) ?_
      intro k
      rintro ⟨hk1, hk2⟩
      have hol := offs_len c.ck
      refine CW.seq ?_
      refine CW.region ?_
      refine LW.v rfl rfl (Val.cmp rfl rfl rfl) ?_
      refine LW.nil ?_
      refine PQ.seq ?_
      refine CW.seq ?_
      refine CW.cond rfl (fun h28 => ?_) (fun h28 => ?_)
      · replace h28 := bT h28
        obtain ⟨⟨g, rest, cap⟩, rfl⟩ := own_some hop (by omega)
        obtain ⟨o, ho'⟩ : ∃ o, (offs c.ck)[k.1]? = some o := ⟨(offs c.ck)[k.1]'(by omega), by simp⟩
        have ho := List.mem_of_getElem? ho'
        have hpo : (ptrs b1 (offs c.ck) ++ rest)[0 + k.1 * 1]? = some (.pointer (some ⟨b1, o, none⟩)) := by
          rw [Nat.zero_add, Nat.mul_one, List.getElem?_append_left (by rw [ptrs_len]; omega)]
          simp [ptrs, ho']
        have hk2' : ownOk 1 (k.1 + 1) (stC (nm :: ((offs c.ck).take k.1).map fun o => wordF (c.fld o))) k.2 := by
          have e := hk2
          rw [List.length_cons, List.length_map, List.length_take, Nat.min_eq_left (by omega)] at e
          exact e
        have hWL : (nm :: ((offs c.ck).take k.1).map fun o => wordF (c.fld o)).length = k.1 + 1 := by rw [List.length_cons, List.length_map, List.length_take, Nat.min_eq_left (by omega)]
        have hWle := word_len (c.fld o)
        have hfl := hc.fld o
        rw [V.ownG_some]
        refine CW.skip ?_
        refine PQ.seq ?_
        refine CW.seq ?_
        refine CW.block ?_
        refine CW.seq ?_
        refine CW.region ?_
        first | (refine LW.v rfl rfl (Val.indexAddrN rfl rfl Tryd.underlying105 Tryd.sizeOf108 (by omega)) ?_) | (refine LW.v rfl rfl (Val.indexAddr rfl rfl Tryd.underlying105 Tryd.sizeOf108 (by omega) (by omega)) ?_)
        refine LW.v rfl rfl (Val.load (T := 108) (v := .pointer (some ⟨b1, o, none⟩)) rfl Tryd.isAgg108 (by repeat (first | exact .here | refine .there ?_)) hpo) ?_
        refine LW.v rfl rfl (Val.assign rfl) ?_
        refine LW.nil ?_
        refine PQ.seq ?_
        refine CW.region ?_
        refine LW.v rfl rfl (Val.move rfl) ?_
        refine LW.re 31 (ownV (k.1 + 1) k.2) rfl (by rw [hWL]) ?_
        refine LW.v rfl rfl (Val.move rfl) ?_
        refine LW.v rfl rfl (Val.nilCheck rfl) ?_
        refine LW.v rfl rfl (Val.load (T := 41) (v := str (c.fld o)) rfl Tryd.isAgg9 (by repeat (first | exact .here | refine .there ?_)) (fld_at ho)) ?_
        refine LW.e rfl rfl (Eff.callV rfl Tryd.call14 (fun w hw => word_c (c.fld o) (hc.fld o) w)) ?_
        intro _ _
        refine LW.e rfl rfl (Eff.buildSlice (rfl) [_] Tryd.underlying73 Tryd.sizeOf9 (by exact Tryd.zeroValue9) rfl rfl rfl rfl (by rfl)) ?_
        intro b36 _
        refine LW.e rfl rfl (Eff.appendAny (stC [wordF (c.fld o)]) (sz := 1) (bytes := 16) (z := .string ⟨#[]⟩) (xs := stC (nm :: ((offs c.ck).take k.1).map fun o => wordF (c.fld o))) (m0 := (k.1 + 1)) (o := k.2) (m := 1) (pk := [ownG 9 (stC (nm :: ((offs c.ck).take k.1).map fun o => wordF (c.fld o))) k.2]) rfl rfl Tryd.underlying73 (by kernel_rfl) rfl (by omega) (by repeat (first | exact .nil | apply Pick.cons | exact .here | apply Ext.there)) (by simp) hk2' rfl (fun hm0 => ⟨b36, 0, rfl, fun w hw => V.range_of_block (o := 0) (cs := stC [wordF (c.fld o)]) (r := []) (hw.own _ (show InS (b36, .cells (stC [wordF (c.fld o)]).toArray 9 (0, 0)) _ from (by repeat (first | exact .here | refine .there ?_))).mem) rfl⟩) (stC_one _) (by omega) (by omega)) ?_
        intro o9 ho9
        refine LW.v rfl rfl (Val.assign rfl) ?_
        refine LW.nil ?_
        refine PQ.in_normal ?_
        refine PQ.seq ?_
        refine CW.region ?_
        refine LW.v rfl rfl (Val.ar rfl rfl rfl (IntWalk.i64_in _ (by omega))) ?_
        refine LW.v rfl rfl (Val.move rfl) ?_
        refine LW.nil ?_
        have hW : (nm :: ((offs c.ck).take (k.1 + 1)).map fun o => wordF (c.fld o)) = (nm :: ((offs c.ck).take k.1).map fun o => wordF (c.fld o)) ++ [wordF (c.fld o)] := by
          rw [List.take_add_one, ho']; simp
        have ho9p : ownOk 1 (k.1 + 1 + 1) (stC ((nm :: ((offs c.ck).take k.1).map fun o => wordF (c.fld o)) ++ [wordF (c.fld o)])) o9 := by rw [stC_append]; exact ho9
        refine PQ.segs (ss := [[(b1, .cells c.cells.toArray 41 (0, 0))], ownG 108 (ptrs b1 (offs c.ck)) (some (g, rest, cap)), ownG 9 (stC (nm :: ((offs c.ck).take k.1).map fun o => wordF (c.fld o)) ++ stC [wordF (c.fld o)]) o9]) ?_ (by repeat (first | exact .nil | apply Pick.cons | exact .here | apply Ext.there))
        rw [← stC_append, ← hW]
        refine PQ.round ((k.1 + 1, o9)) ⟨by simp only; omega, by simp only; rw [hW, List.length_append, hWL]; exact ho9p⟩ (by simp only; omega) (by exact ⟨by simp only; rw [hW, List.length_append, hWL]; rfl, rfl, rfl, rfl, trivial⟩) (by repeat (first | exact .nil | apply Pick.cons | exact .here | apply Ext.there))
      · replace h28 := bF h28
        refine CW.exit ?_
        refine PQ.then_exit ?_
        refine PQ.then_exit ?_
        refine PQ.in_here ?_
        refine PQ.seq ?_
        refine CW.seq ?_
        refine CW.region ?_
        refine LW.v rfl rfl (Val.move rfl) ?_
        refine LW.v rfl rfl (Val.assign rfl) ?_
        refine LW.v rfl rfl (Val.assign rfl) ?_
        refine LW.nil ?_
        refine PQ.seq ?_
        refine CW.ret ?_
        refine PQ.ret2 rfl rfl rfl ?_
        intro w' hw
        have hsF : singleF c = some (nm :: (offs c.ck).map fun o => wordF (c.fld o)) := by unfold singleF; rw [if_neg hk7, hnm]; rfl
        have e1 : (offs c.ck).take k.1 = offs c.ck := List.take_of_length_le (by omega)
        rw [e1] at hk2 hw
        exact ⟨(k.2, nm :: (offs c.ck).map fun o => wordF (c.fld o)), ⟨hk2, fun ws h => by rw [hsF] at h; cases h; rfl⟩, by rw [hsF, e1]; rfl, hw.pick (by repeat (first | exact .nil | apply Pick.cons | exact .here | apply Ext.there))⟩
end Go.Proofs.YtagliemeolngiaaDoor
