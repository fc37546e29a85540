/- What the four calls do. -/
import Derived.Test.YtipnpnkniihdjaaJn1
import Derived.Lib.Hide
namespace Go.Proofs.Ytipnpnkniihdjaa
open Go Go.RowKit V
set_option linter.unusedVariables false
set_option maxRecDepth 100000
open V (str byC ownV ownG ownS ownOk)
theorem places34 : ∀ w, ((Array.mapM (fun (f : Field) => do pure (f.offset, ← sizeOf f.type)) (Try.prog.fieldsOf 34) : Sem (Array (Nat × Nat)))).run Try.prog w = .ok [(0, 1), (1, 1), (2, 1), (3, 1), (4, 1), (5, 1)].toArray w := by
  intro w; kernel_rfl
def ansC (code : Int) (fd : Bool) (vl : List UInt8) : List Value := [.int .i64 code, .bool fd, str vl, .slice none 0 0, .slice none 0 0, .int .u64 0]
theorem do2_c (l : List Pr) (y : V.OwnO) (q : List (List UInt8)) (z : V.OwnO) (sb ab : Nat) (c : Cl) (w : World) (hy : ownOk 2 l.length (l.flatMap prC) y) (hz : ownOk 1 q.length (q.flatMap stE) z) (hl : l.length ≤ 1000 ∧ q.length ≤ 1000) (hs : Sat [[(sb, .cells [ownV l.length y, ownV q.length z].toArray 25 (0, 0))], ownG 45 (l.flatMap prC) y, ownG 9 (q.flatMap stE) z, [(ab, .cells (ansC 0 false []).toArray 34 (0, 0))]] w) :
    Calls Try.prog 37 [.pointer (some ⟨sb, 0, none⟩), .agg (clC c).toArray, .pointer (some ⟨ab, 0, none⟩)].toArray w fun e w' => ∃ r : V.OwnO × OffO × Bool × List UInt8, (ownOk 2 (putF l c.key c.val).length ((putF l c.key c.val).flatMap prC) r.1 ∧ offOk q.length r.2.1) ∧ e = .returned (.tuple #[]) ∧ Hp ⟨w, V.ids [[(sb, .cells [ownV l.length y, ownV q.length z].toArray 25 (0, 0))], ownG 45 (l.flatMap prC) y, ownG 9 (q.flatMap stE) z, [(ab, .cells (ansC 0 false []).toArray 34 (0, 0))]]⟩ [[(sb, .cells [ownV (putF l c.key c.val).length r.1, offV q.length r.2.1].toArray 25 (0, 0))], ownG 45 ((putF l c.key c.val).flatMap prC) r.1, offG 9 (q.flatMap stE) r.2.1, [(ab, .cells (ansC 0 r.2.2.1 r.2.2.2).toArray 34 (0, 0))]] w' := by
  refine V.calls [[(sb, .cells [ownV l.length y, ownV q.length z].toArray 25 (0, 0))], ownG 45 (l.flatMap prC) y, ownG 9 (q.flatMap stE) z, [(ab, .cells (ansC 0 false []).toArray 34 (0, 0))]] Try.func37 rfl Try.ntmps37 (Nat.le_of_ble_eq_true rfl) hs ?_
  refine CW.seq ?_
  refine CW.region ?_
  refine LW.e rfl rfl (Eff.boxA rfl) ?_
  intro b4 _
  refine LW.nil ?_
  refine PQ.seq ?_
  refine CW.region ?_
  refine LW.v rfl rfl (Val.move rfl) ?_
  refine LW.v rfl rfl (Val.move rfl) ?_
  refine LW.v rfl rfl (Val.fieldAddr 1 rfl Try.underlying38 rfl rfl Try.sizeOf9) ?_
  refine LW.v rfl rfl (Val.load rfl Try.isAgg9 (by repeat (first | exact .here | exact .inner .here | exact .inner (.inner .here) | refine .there ?_)) (by rfl)) ?_
  refine LW.v rfl rfl (Val.fieldAddr 2 rfl Try.underlying38 rfl rfl Try.sizeOf9) ?_
  refine LW.v rfl rfl (Val.load rfl Try.isAgg9 (by repeat (first | exact .here | exact .inner .here | exact .inner (.inner .here) | refine .there ?_)) (by rfl)) ?_
  refine LW.e rfl rfl (Eff.callM ([[(sb, .cells [ownV l.length y, ownV q.length z].toArray 25 (0, 0))], ownG 45 (l.flatMap prC) y]) (by repeat (first | exact .nil | apply Pick.cons | exact .here | apply Ext.there)) rfl Try.call38 (fun w hw hs => set_c l y (ownV q.length z) sb c.key c.val w hy hl.1 (V.ownV_one _ _) hs)) ?_
  intro y2 hy2
  refine LW.v rfl rfl (Val.nilCheck rfl) ?_
  refine LW.v rfl rfl (Val.fieldAddr 1 rfl Try.underlying34 rfl rfl Try.sizeOf4) ?_
  refine LW.eN rfl (Eff.store rfl rfl rfl (by repeat (first | exact .here | exact .inner .here | exact .inner (.inner .here) | apply Upd.there)) (by rfl) (by rfl) Try.sizeOf4) ?_
  intro _ _
  refine LW.nil ?_
  refine PQ.end0 rfl ?_
  intro w' hw
  exact ⟨(y2, offOf z, (getF l c.key).isSome, []), ⟨hy2, offOf_ok hz⟩, rfl, (by show Hp _ [[(sb, .cells [ownV (putF l c.key c.val).length y2, offV q.length (offOf z)].toArray 25 (0, 0))], ownG 45 ((putF l c.key c.val).flatMap prC) y2, offG 9 (q.flatMap stE) (offOf z), [(ab, .cells (ansC 0 (getF l c.key).isSome []).toArray 34 (0, 0))]] w'; rw [offOf_V, offOf_G]; exact hw.pick (by repeat (first | exact .nil | apply Pick.cons | exact .here | apply Ext.there)))⟩
theorem do3_c (l : List Pr) (y : V.OwnO) (q : List (List UInt8)) (z : V.OwnO) (sb ab : Nat) (c : Cl) (w : World) (hy : ownOk 2 l.length (l.flatMap prC) y) (hz : ownOk 1 q.length (q.flatMap stE) z) (hl : l.length ≤ 1000 ∧ q.length ≤ 1000) (hs : Sat [[(sb, .cells [ownV l.length y, ownV q.length z].toArray 25 (0, 0))], ownG 45 (l.flatMap prC) y, ownG 9 (q.flatMap stE) z, [(ab, .cells (ansC 0 false []).toArray 34 (0, 0))]] w) :
    Calls Try.prog 39 [.pointer (some ⟨sb, 0, none⟩), .agg (clC c).toArray, .pointer (some ⟨ab, 0, none⟩)].toArray w fun e w' => ∃ r : V.OwnO × OffO × Bool × List UInt8, (ownOk 2 (delF l c.key).length ((delF l c.key).flatMap prC) r.1 ∧ offOk q.length r.2.1) ∧ e = .returned (.tuple #[]) ∧ Hp ⟨w, V.ids [[(sb, .cells [ownV l.length y, ownV q.length z].toArray 25 (0, 0))], ownG 45 (l.flatMap prC) y, ownG 9 (q.flatMap stE) z, [(ab, .cells (ansC 0 false []).toArray 34 (0, 0))]]⟩ [[(sb, .cells [ownV (delF l c.key).length r.1, offV q.length r.2.1].toArray 25 (0, 0))], ownG 45 ((delF l c.key).flatMap prC) r.1, offG 9 (q.flatMap stE) r.2.1, [(ab, .cells (ansC 0 r.2.2.1 r.2.2.2).toArray 34 (0, 0))]] w' := by
  refine V.calls [[(sb, .cells [ownV l.length y, ownV q.length z].toArray 25 (0, 0))], ownG 45 (l.flatMap prC) y, ownG 9 (q.flatMap stE) z, [(ab, .cells (ansC 0 false []).toArray 34 (0, 0))]] Try.func39 rfl Try.ntmps39 (Nat.le_of_ble_eq_true rfl) hs ?_
  refine CW.seq ?_
  refine CW.region ?_
  refine LW.e rfl rfl (Eff.boxA rfl) ?_
  intro b4 _
  refine LW.nil ?_
  refine PQ.seq ?_
  refine CW.region ?_
  refine LW.v rfl rfl (Val.move rfl) ?_
  refine LW.v rfl rfl (Val.move rfl) ?_
  refine LW.v rfl rfl (Val.fieldAddr 1 rfl Try.underlying38 rfl rfl Try.sizeOf9) ?_
  refine LW.v rfl rfl (Val.load rfl Try.isAgg9 (by repeat (first | exact .here | exact .inner .here | exact .inner (.inner .here) | refine .there ?_)) (by rfl)) ?_
  refine LW.e rfl rfl (Eff.callM ([[(sb, .cells [ownV l.length y, ownV q.length z].toArray 25 (0, 0))], ownG 45 (l.flatMap prC) y]) (by repeat (first | exact .nil | apply Pick.cons | exact .here | apply Ext.there)) rfl Try.call40 (fun w hw hs => drop_c l y (ownV q.length z) sb c.key w hy hl.1 (V.ownV_one _ _) hs)) ?_
  intro y2 hy2
  refine LW.v rfl rfl (Val.nilCheck rfl) ?_
  refine LW.v rfl rfl (Val.fieldAddr 1 rfl Try.underlying34 rfl rfl Try.sizeOf4) ?_
  refine LW.eN rfl (Eff.store rfl rfl rfl (by repeat (first | exact .here | exact .inner .here | exact .inner (.inner .here) | apply Upd.there)) (by rfl) (by rfl) Try.sizeOf4) ?_
  intro _ _
  refine LW.nil ?_
  refine PQ.end0 rfl ?_
  intro w' hw
  exact ⟨(y2, offOf z, (decide ((delF l c.key).length < l.length)), []), ⟨hy2, offOf_ok hz⟩, rfl, (by show Hp _ [[(sb, .cells [ownV (delF l c.key).length y2, offV q.length (offOf z)].toArray 25 (0, 0))], ownG 45 ((delF l c.key).flatMap prC) y2, offG 9 (q.flatMap stE) (offOf z), [(ab, .cells (ansC 0 (decide ((delF l c.key).length < l.length)) []).toArray 34 (0, 0))]] w'; rw [offOf_V, offOf_G]; exact hw.pick (by repeat (first | exact .nil | apply Pick.cons | exact .here | apply Ext.there)))⟩
theorem do4_c (l : List Pr) (y : V.OwnO) (q : List (List UInt8)) (z : V.OwnO) (sb ab : Nat) (c : Cl) (w : World) (hy : ownOk 2 l.length (l.flatMap prC) y) (hz : ownOk 1 q.length (q.flatMap stE) z) (hl : l.length ≤ 1000 ∧ q.length ≤ 1000) (hs : Sat [[(sb, .cells [ownV l.length y, ownV q.length z].toArray 25 (0, 0))], ownG 45 (l.flatMap prC) y, ownG 9 (q.flatMap stE) z, [(ab, .cells (ansC 0 false []).toArray 34 (0, 0))]] w) :
    Calls Try.prog 41 [.pointer (some ⟨sb, 0, none⟩), .agg (clC c).toArray, .pointer (some ⟨ab, 0, none⟩)].toArray w fun e w' => ∃ r : V.OwnO × OffO × Bool × List UInt8, (ownOk 2 l.length (l.flatMap prC) r.1 ∧ offOk (q ++ [c.val]).length r.2.1) ∧ e = .returned (.tuple #[]) ∧ Hp ⟨w, V.ids [[(sb, .cells [ownV l.length y, ownV q.length z].toArray 25 (0, 0))], ownG 45 (l.flatMap prC) y, ownG 9 (q.flatMap stE) z, [(ab, .cells (ansC 0 false []).toArray 34 (0, 0))]]⟩ [[(sb, .cells [ownV l.length r.1, offV (q ++ [c.val]).length r.2.1].toArray 25 (0, 0))], ownG 45 (l.flatMap prC) r.1, offG 9 ((q ++ [c.val]).flatMap stE) r.2.1, [(ab, .cells (ansC 0 r.2.2.1 r.2.2.2).toArray 34 (0, 0))]] w' := by
  refine V.calls [[(sb, .cells [ownV l.length y, ownV q.length z].toArray 25 (0, 0))], ownG 45 (l.flatMap prC) y, ownG 9 (q.flatMap stE) z, [(ab, .cells (ansC 0 false []).toArray 34 (0, 0))]] Try.func41 rfl Try.ntmps41 (Nat.le_of_ble_eq_true rfl) hs ?_
  refine CW.seq ?_
  refine CW.region ?_
  refine LW.e rfl rfl (Eff.boxA rfl) ?_
  intro b4 _
  refine LW.nil ?_
  refine PQ.seq ?_
  refine CW.drawn ([[(b4, .cells _ 38 (0, 0))]]) mixed (by repeat (first | exact .nil | apply Pick.cons | exact .here | apply Ext.there)) ?_
  refine RW.v 0 rfl (by kernel_rfl) (by kernel_rfl) (by kernel_rfl) (fun _ _ _ h => h) rfl rfl (Val.move rfl) ?_
  refine RW.v 1 rfl (by kernel_rfl) (by kernel_rfl) (by kernel_rfl) (fun _ _ _ h => h) rfl rfl (Val.move rfl) ?_
  refine RW.v 2 rfl (by kernel_rfl) (by kernel_rfl) (by kernel_rfl) (fun _ _ _ h => h) rfl rfl (Val.nilCheck rfl) ?_
  refine RW.v 3 rfl (by kernel_rfl) (by kernel_rfl) (by kernel_rfl) (fun _ _ _ h => h) rfl rfl (Val.fieldAddr 1 rfl Try.underlying25 rfl rfl Try.sizeOf23) ?_
  refine RW.v 5 rfl (by kernel_rfl) (by kernel_rfl) (by kernel_rfl) (fun _ _ _ h => h) rfl rfl (Val.fieldAddr 2 rfl Try.underlying38 rfl rfl Try.sizeOf9) ?_
  refine RW.v 6 rfl (by kernel_rfl) (by kernel_rfl) (by kernel_rfl) (fun _ _ _ h => h) rfl rfl (Val.load rfl Try.isAgg9 (by repeat (first | exact .here | exact .inner .here | exact .inner (.inner .here) | refine .there ?_)) (by rfl)) ?_
  refine RW.any [4, 7] (by kernel_rfl) (by simp) ?_
  intro i hi
  simp only [List.mem_cons, List.not_mem_nil, or_false] at hi
  rcases hi with rfl | rfl
  · refine RO.e rfl rfl rfl (Eff.ofVal (Val.load (v := ownV q.length z) rfl Try.isAgg23 (by repeat (first | exact .here | exact .inner .here | exact .inner (.inner .here) | refine .there ?_)) (by rfl))) (fun x => ⟨_, (by repeat (first | exact .nil | apply Pick.cons | exact .here | apply Ext.there))⟩) ?_
    intro _ _
    refine RW.e 7 rfl (by kernel_rfl) rfl rfl (Eff.buildSlice (rfl) [_] Try.underlying23 Try.sizeOf9 (by exact Try.zeroValue9) rfl rfl rfl rfl (by rfl)) (fun x => ⟨_, (by repeat (first | exact .nil | apply Pick.cons | exact .here | apply Ext.there))⟩) ?_
    intro b13 _
    refine RW.e 8 rfl (by kernel_rfl) rfl rfl (Eff.appendAny (stE c.val) (sz := 1) (bytes := 16) (z := .string ⟨#[]⟩) (xs := q.flatMap stE) (m0 := q.length) (o := z) (m := 1) (pk := [ownG 9 (q.flatMap stE) z]) rfl rfl Try.underlying23 (by kernel_rfl) rfl (by omega) (by repeat (first | exact .nil | apply Pick.cons | exact .here | apply Ext.there)) (by simp) hz (by rfl) (fun hm0 => ⟨b13, 0, rfl, fun w hw => V.range_of_block (o := 0) (cs := stE c.val) (r := []) (hw.own _ (show InS (b13, .cells (stE c.val).toArray 9 (0, 0)) _ from (by repeat (first | exact .here | exact .inner .here | exact .inner (.inner .here) | refine .there ?_))).mem) rfl⟩) (by rfl) (by omega) (by omega)) (fun x => ⟨_, (by repeat (first | exact .nil | apply Pick.cons | exact .here | apply Ext.there))⟩) ?_
    intro o9 ho90
    have ho9 : ownOk 1 (q ++ [c.val]).length ((q ++ [c.val]).flatMap stE) o9 := by simpa using ho90
    rw [show q.flatMap stE ++ stE c.val = (q ++ [c.val]).flatMap stE from by simp, show q.length + 1 = (q ++ [c.val]).length from by simp]
    refine RW.v 9 rfl (by kernel_rfl) (by kernel_rfl) (by kernel_rfl) (fun _ _ _ h => h) rfl rfl (Val.nilCheck rfl) ?_
    refine RW.v 10 rfl (by kernel_rfl) (by kernel_rfl) (by kernel_rfl) (fun _ _ _ h => h) rfl rfl (Val.fieldAddr 1 rfl Try.underlying25 rfl rfl Try.sizeOf23) ?_
    refine RW.eN 11 rfl (by kernel_rfl) rfl (Eff.store rfl rfl (V.ownV_one _ _) (by repeat (first | exact .here | exact .inner .here | exact .inner (.inner .here) | apply Upd.there)) (by rfl) (by rfl) Try.sizeOf23) (fun x => ⟨_, (by repeat (first | exact .nil | apply Pick.cons | exact .here | apply Ext.there))⟩) ?_
    intro _ _
    refine RW.done (by kernel_rfl) ?_
    refine PQ.end0 rfl ?_
    intro w' hw
    exact ⟨(y, offOf o9, false, []), ⟨hy, offOf_ok ho9⟩, rfl, (by show Hp _ [[(sb, .cells [ownV l.length y, offV (q ++ [c.val]).length (offOf o9)].toArray 25 (0, 0))], ownG 45 (l.flatMap prC) y, offG 9 ((q ++ [c.val]).flatMap stE) (offOf o9), [(ab, .cells (ansC 0 false []).toArray 34 (0, 0))]] w'; rw [offOf_V, offOf_G]; exact hw.pick (by repeat (first | exact .nil | apply Pick.cons | exact .here | apply Ext.there)))⟩
  · refine RO.e rfl rfl rfl (Eff.buildSlice (rfl) [_] Try.underlying23 Try.sizeOf9 (by exact Try.zeroValue9) rfl rfl rfl rfl (by rfl)) (fun x => ⟨_, (by repeat (first | exact .nil | apply Pick.cons | exact .here | apply Ext.there))⟩) ?_
    intro b13 _
    refine RW.e 4 rfl (by kernel_rfl) rfl rfl (Eff.ofVal (Val.load (v := ownV q.length z) rfl Try.isAgg23 (by repeat (first | exact .here | exact .inner .here | exact .inner (.inner .here) | refine .there ?_)) (by rfl))) (fun x => ⟨_, (by repeat (first | exact .nil | apply Pick.cons | exact .here | apply Ext.there))⟩) ?_
    intro _ _
    refine RW.e 8 rfl (by kernel_rfl) rfl rfl (Eff.appendAny (stE c.val) (sz := 1) (bytes := 16) (z := .string ⟨#[]⟩) (xs := q.flatMap stE) (m0 := q.length) (o := z) (m := 1) (pk := [ownG 9 (q.flatMap stE) z]) rfl rfl Try.underlying23 (by kernel_rfl) rfl (by omega) (by repeat (first | exact .nil | apply Pick.cons | exact .here | apply Ext.there)) (by simp) hz (by rfl) (fun hm0 => ⟨b13, 0, rfl, fun w hw => V.range_of_block (o := 0) (cs := stE c.val) (r := []) (hw.own _ (show InS (b13, .cells (stE c.val).toArray 9 (0, 0)) _ from (by repeat (first | exact .here | exact .inner .here | exact .inner (.inner .here) | refine .there ?_))).mem) rfl⟩) (by rfl) (by omega) (by omega)) (fun x => ⟨_, (by repeat (first | exact .nil | apply Pick.cons | exact .here | apply Ext.there))⟩) ?_
    intro o9 ho90
    have ho9 : ownOk 1 (q ++ [c.val]).length ((q ++ [c.val]).flatMap stE) o9 := by simpa using ho90
    rw [show q.flatMap stE ++ stE c.val = (q ++ [c.val]).flatMap stE from by simp, show q.length + 1 = (q ++ [c.val]).length from by simp]
    refine RW.v 9 rfl (by kernel_rfl) (by kernel_rfl) (by kernel_rfl) (fun _ _ _ h => h) rfl rfl (Val.nilCheck rfl) ?_
    refine RW.v 10 rfl (by kernel_rfl) (by kernel_rfl) (by kernel_rfl) (fun _ _ _ h => h) rfl rfl (Val.fieldAddr 1 rfl Try.underlying25 rfl rfl Try.sizeOf23) ?_
    refine RW.eN 11 rfl (by kernel_rfl) rfl (Eff.store rfl rfl (V.ownV_one _ _) (by repeat (first | exact .here | exact .inner .here | exact .inner (.inner .here) | apply Upd.there)) (by rfl) (by rfl) Try.sizeOf23) (fun x => ⟨_, (by repeat (first | exact .nil | apply Pick.cons | exact .here | apply Ext.there))⟩) ?_
    intro _ _
    refine RW.done (by kernel_rfl) ?_
    refine PQ.end0 rfl ?_
    intro w' hw
    exact ⟨(y, offOf o9, false, []), ⟨hy, offOf_ok ho9⟩, rfl, (by show Hp _ [[(sb, .cells [ownV l.length y, offV (q ++ [c.val]).length (offOf o9)].toArray 25 (0, 0))], ownG 45 (l.flatMap prC) y, offG 9 ((q ++ [c.val]).flatMap stE) (offOf o9), [(ab, .cells (ansC 0 false []).toArray 34 (0, 0))]] w'; rw [offOf_V, offOf_G]; exact hw.pick (by repeat (first | exact .nil | apply Pick.cons | exact .here | apply Ext.there)))⟩
theorem do5_c (l : List Pr) (y : V.OwnO) (q : List (List UInt8)) (z : V.OwnO) (sb ab : Nat) (c : Cl) (w : World) (hy : ownOk 2 l.length (l.flatMap prC) y) (hz : ownOk 1 q.length (q.flatMap stE) z) (hl : l.length ≤ 1000 ∧ q.length ≤ 1000) (hs : Sat [[(sb, .cells [ownV l.length y, ownV q.length z].toArray 25 (0, 0))], ownG 45 (l.flatMap prC) y, ownG 9 (q.flatMap stE) z, [(ab, .cells (ansC 0 false []).toArray 34 (0, 0))]] w) :
    Calls Try.prog 42 [.pointer (some ⟨sb, 0, none⟩), .agg (clC c).toArray, .pointer (some ⟨ab, 0, none⟩)].toArray w fun e w' => ∃ r : V.OwnO × OffO × Bool × List UInt8, (ownOk 2 l.length (l.flatMap prC) r.1 ∧ offOk (q.drop 1).length r.2.1) ∧ e = .returned (.tuple #[]) ∧ Hp ⟨w, V.ids [[(sb, .cells [ownV l.length y, ownV q.length z].toArray 25 (0, 0))], ownG 45 (l.flatMap prC) y, ownG 9 (q.flatMap stE) z, [(ab, .cells (ansC 0 false []).toArray 34 (0, 0))]]⟩ [[(sb, .cells [ownV l.length r.1, offV (q.drop 1).length r.2.1].toArray 25 (0, 0))], ownG 45 (l.flatMap prC) r.1, offG 9 ((q.drop 1).flatMap stE) r.2.1, [(ab, .cells (ansC 0 r.2.2.1 r.2.2.2).toArray 34 (0, 0))]] w' := by
  refine V.calls [[(sb, .cells [ownV l.length y, ownV q.length z].toArray 25 (0, 0))], ownG 45 (l.flatMap prC) y, ownG 9 (q.flatMap stE) z, [(ab, .cells (ansC 0 false []).toArray 34 (0, 0))]] Try.func42 rfl Try.ntmps42 (Nat.le_of_ble_eq_true rfl) hs ?_
  refine CW.seq ?_
  refine CW.region ?_
  refine LW.e rfl rfl (Eff.boxA rfl) ?_
  intro b4 _
  refine LW.nil ?_
  refine PQ.seq ?_
  refine CW.region ?_
  refine LW.v rfl rfl (Val.move rfl) ?_
  refine LW.v rfl rfl (Val.move rfl) ?_
  refine LW.v rfl rfl (Val.move rfl) ?_
  refine LW.e rfl rfl (Eff.callM ([[(sb, .cells [ownV l.length y, ownV q.length z].toArray 25 (0, 0))], ownG 9 (q.flatMap stE) z]) (by repeat (first | exact .nil | apply Pick.cons | exact .here | apply Ext.there)) rfl Try.call43 (fun w hw hs => pop_c q z (ownV l.length y) sb w hz hl.2 (V.ownV_one _ _) hs)) ?_
  intro z2 hz2
  refine LW.v rfl rfl (Val.move rfl) ?_
  refine LW.v rfl rfl (Val.extract rfl rfl) ?_
  refine LW.v rfl rfl (Val.extract rfl rfl) ?_
  refine LW.v rfl rfl (Val.nilCheck rfl) ?_
  refine LW.v rfl rfl (Val.fieldAddr 2 rfl Try.underlying34 rfl rfl Try.sizeOf9) ?_
  refine LW.eN rfl (Eff.store rfl rfl rfl (by repeat (first | exact .here | exact .inner .here | exact .inner (.inner .here) | apply Upd.there)) (by rfl) (by rfl) Try.sizeOf9) ?_
  intro _ _
  refine LW.v rfl rfl (Val.nilCheck rfl) ?_
  refine LW.v rfl rfl (Val.fieldAddr 1 rfl Try.underlying34 rfl rfl Try.sizeOf4) ?_
  refine LW.eN rfl (Eff.store rfl rfl rfl (by repeat (first | exact .here | exact .inner .here | exact .inner (.inner .here) | apply Upd.there)) (by rfl) (by rfl) Try.sizeOf4) ?_
  intro _ _
  refine LW.nil ?_
  refine PQ.end0 rfl ?_
  intro w' hw
  exact ⟨(y, z2, decide (q ≠ []), (q[0]?).getD []), ⟨hy, hz2⟩, rfl, hw.pick (by repeat (first | exact .nil | apply Pick.cons | exact .here | apply Ext.there))⟩
def doE : V.MI := [(0, 1, .func (.func 35) #[] #[]), (1, 2, .func (.func 37) #[] #[]), (2, 3, .func (.func 39) #[] #[]), (3, 4, .func (.func 41) #[] #[]), (4, 5, .func (.func 42) #[] #[]), (5, 6, .func (.func 44) #[] #[]), (6, 8, .func (.func 45) #[] #[])]
theorem doings_c (w : World) : Calls Try.prog 22 [].toArray w fun e w' => ∃ b : Nat, True ∧ e = .returned (.map (some b)) ∧ Hp ⟨w, []⟩ [[(b, V.imO doE 7)]] w' := by
  refine V.calls [] Try.func22 rfl Try.ntmps22 (Nat.le_of_ble_eq_true rfl) (V.sat_nil _) ?_
  refine CW.seq ?_
  refine CW.region ?_
  refine LW.v rfl rfl (Val.assign rfl) ?_
  refine LW.nil ?_
  refine PQ.seq ?_
  refine CW.seq ?_
  refine CW.region ?_
  refine LW.e rfl rfl (Eff.imakeMap) ?_
  intro b1 _
  refine LW.eN rfl (Eff.insert rfl rfl rfl Try.underlying48 Try.underlying3 (by repeat (first | exact .here | exact .inner .here | exact .inner (.inner .here) | apply Upd.there)) (by rfl)) ?_
  intro _ _
  refine LW.eN rfl (Eff.insert rfl rfl rfl Try.underlying48 Try.underlying3 (by repeat (first | exact .here | exact .inner .here | exact .inner (.inner .here) | apply Upd.there)) (by rfl)) ?_
  intro _ _
  refine LW.eN rfl (Eff.insert rfl rfl rfl Try.underlying48 Try.underlying3 (by repeat (first | exact .here | exact .inner .here | exact .inner (.inner .here) | apply Upd.there)) (by rfl)) ?_
  intro _ _
  refine LW.eN rfl (Eff.insert rfl rfl rfl Try.underlying48 Try.underlying3 (by repeat (first | exact .here | exact .inner .here | exact .inner (.inner .here) | apply Upd.there)) (by rfl)) ?_
  intro _ _
  refine LW.eN rfl (Eff.insert rfl rfl rfl Try.underlying48 Try.underlying3 (by repeat (first | exact .here | exact .inner .here | exact .inner (.inner .here) | apply Upd.there)) (by rfl)) ?_
  intro _ _
  refine LW.eN rfl (Eff.insert rfl rfl rfl Try.underlying48 Try.underlying3 (by repeat (first | exact .here | exact .inner .here | exact .inner (.inner .here) | apply Upd.there)) (by rfl)) ?_
  intro _ _
  refine LW.eN rfl (Eff.insert rfl rfl rfl Try.underlying48 Try.underlying3 (by repeat (first | exact .here | exact .inner .here | exact .inner (.inner .here) | apply Upd.there)) (by rfl)) ?_
  intro _ _
  refine LW.v rfl rfl (Val.move rfl) ?_
  refine LW.v rfl rfl (Val.assign rfl) ?_
  refine LW.nil ?_
  refine PQ.seq ?_
  refine CW.ret ?_
  refine PQ.ret1 rfl rfl ?_
  intro w' hw; exact ⟨b1, trivial, rfl, hw⟩
end Go.Proofs.Ytipnpnkniihdjaa
