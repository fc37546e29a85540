/- strings.Builder: what its methods do to a symbolic state. -/
import Derived.Test.YtagliemeolngiaaDoorRows
import Derived.Test.YtagliemeolngiaaDoorV15
import Derived.Lib.Hide
namespace Go.Proofs.YtagliemeolngiaaDoor
open Go Go.RowKit V
set_option linter.unusedVariables false
set_option maxRecDepth 100000
theorem mixed : Tryd.prog.follows .mixedOrders = true := by kernel_rfl
open V (str byC ownV ownG ownS ownOk)
theorem x_noescape (v : Value) (w : World) : (callFunc 64 #[v]).run Tryd.prog w = .ok (.value v) w := by
  rw [run_callFunc_extern (e := Extern.AbiNoEscape.same) Tryd.func64 (by kernel_rfl) (by kernel_rfl) (by kernel_rfl) (by kernel_rfl)]
  rfl
theorem x_indexbyte (s : ByteArray) (c : Int) (w : World) : (callFunc 65 #[.string s, .int .u8 c]).run Tryd.prog w = .ok (.value (.int .i64 (Go.Lib.indexByte s.data.toList c.toNat.toUInt8))) w := by
  rw [run_callFunc_extern (e := Extern.BytealgIndexByte.indexByte) Tryd.func65 (by kernel_rfl) (by kernel_rfl) (by kernel_rfl) (by kernel_rfl), Go.Lib.run_indexByteString]
  rfl
def selfP (b : Nat) : Bool → Option Addr
  | true => some ⟨b, 0, none⟩
  | false => none
/-- A builder at b in two segments: its own block, its bytes. -/
def sbX (b : Nat) (u : Bool) (o : V.OwnO) (l : List UInt8) : Sg := [[(b, .cells [.pointer (selfP b u), ownV l.length o].toArray 57 (0, 0))], ownG 5 (byC l) o]
/-- .. as one. -/
def sbG (b : Nat) (u : Bool) (o : V.OwnO) (l : List UInt8) : Sg := [(b, .cells [.pointer (selfP b u), ownV l.length o].toArray 57 (0, 0)) :: ownG 5 (byC l) o]
def sbOk (o : V.OwnO) (l : List UInt8) : Prop := ownOk 1 l.length (byC l) o ∧ ∀ q, o = some q → 0 < q.2.2
theorem sbG_flat (b : Nat) (u : Bool) (o : V.OwnO) (l : List UInt8) : (sbG b u o l).flatten = (sbX b u o l).flatten := by simp [sbG, sbX]
theorem sbG_sat {b : Nat} {u : Bool} {o : V.OwnO} {l : List UInt8} {w : World} (h : Sat (sbG b u o l) w) : Sat (sbX b u o l) w := ⟨fun p hp => h.own p (by rw [sbG_flat]; exact hp), by have := h.nd; rwa [sbG_flat] at this⟩
theorem sbG_ids (b : Nat) (u : Bool) (o : V.OwnO) (l : List UInt8) : ids (sbG b u o l) = ids (sbX b u o l) := by unfold ids; rw [sbG_flat]
theorem sbG_hp {B : V.Base} {b : Nat} {u : Bool} {o : V.OwnO} {l : List UInt8} {w : World} (h : Hp B (sbX b u o l) w) : Hp B (sbG b u o l) w := h.perm (by rw [sbG_flat])
theorem sbOk_nil : sbOk none [] := ⟨⟨rfl, rfl⟩, fun q h => by cases h⟩
theorem sbOk_of {o : V.OwnO} {l : List UInt8} (h : ownOk 1 l.length (byC l) o) (hl : l ≠ []) : sbOk o l := ⟨h, fun q hq => by
  subst hq
  obtain ⟨g, rest, cap⟩ := q
  have h1 := h.2
  simp only at h1
  have h2 := List.length_pos_iff.2 hl
  rw [V.byC_len] at h1
  simp only; omega⟩
theorem cc_c (b : Nat) (u : Bool) (v : Value) (w : World) (hs : Sat ([[(b, .cells [.pointer (selfP b u), v].toArray 57 (0, 0))]]) w) : Calls Tryd.prog 52 [.pointer (some ⟨b, 0, none⟩)].toArray w fun e w' => ∃ _u : Unit, True ∧ e = .returned (.tuple #[]) ∧ Hp ⟨w, ids ([[(b, .cells [.pointer (selfP b u), v].toArray 57 (0, 0))]])⟩ ([[(b, .cells [.pointer (selfP b true), v].toArray 57 (0, 0))]]) w' := by
  cases u
  · refine V.calls ([[(b, .cells [.pointer (selfP b false), v].toArray 57 (0, 0))]]) Tryd.func52 rfl Tryd.ntmps52 (Nat.le_of_ble_eq_true rfl) hs ?_
    refine CW.seq ?_
    refine CW.region ?_
    refine LW.v rfl rfl (Val.move rfl) ?_
    refine LW.v rfl rfl (Val.nilCheck rfl) ?_
    refine LW.v rfl rfl (Val.fieldAddr 0 rfl Tryd.underlying57 rfl rfl Tryd.sizeOf54) ?_
    refine LW.v rfl rfl (Val.load rfl Tryd.isAgg54 (by repeat (first | exact .here | refine .there ?_)) (by rfl)) ?_
    refine LW.v rfl rfl (Val.eqP true rfl rfl Tryd.underlying54 (.inr ⟨rfl, rfl⟩)) ?_
    refine LW.nil ?_
    refine PQ.seq ?_
    refine CW.cond_t rfl ?_
    refine CW.region ?_
    refine LW.v rfl rfl (Val.move rfl) ?_
    refine LW.v rfl rfl (Val.move rfl) ?_
    refine LW.v rfl rfl (Val.toUnsafe rfl Tryd.underlying54 Tryd.underlying101 (by kernel_rfl) (cs := [.pointer (selfP b false), v]) (by repeat (first | exact .here | refine .there ?_)) (Nat.zero_lt_succ _)) ?_
    refine LW.v rfl rfl (Val.ext rfl (fun w hw => x_noescape _ w)) ?_
    refine LW.v rfl rfl (Val.fromUnsafe rfl Tryd.underlying101 Tryd.underlying54 (by kernel_rfl) (cs := [.pointer (selfP b false), v]) (by repeat (first | exact .here | refine .there ?_)) (by kernel_rfl)) ?_
    refine LW.v rfl rfl (Val.nilCheck rfl) ?_
    refine LW.v rfl rfl (Val.fieldAddr 0 rfl Tryd.underlying57 rfl rfl Tryd.sizeOf54) ?_
    refine LW.eN rfl (Eff.store rfl rfl rfl (by repeat (first | exact .here | apply Upd.there)) (by rfl) (by rfl) Tryd.sizeOf54) ?_
    intro _ _
    refine LW.nil ?_
    refine PQ.end0 rfl ?_
    intro w' hw; exact ⟨(), trivial, rfl, hw⟩
  · refine V.calls ([[(b, .cells [.pointer (selfP b true), v].toArray 57 (0, 0))]]) Tryd.func52 rfl Tryd.ntmps52 (Nat.le_of_ble_eq_true rfl) hs ?_
    refine CW.seq ?_
    refine CW.region ?_
    refine LW.v rfl rfl (Val.move rfl) ?_
    refine LW.v rfl rfl (Val.nilCheck rfl) ?_
    refine LW.v rfl rfl (Val.fieldAddr 0 rfl Tryd.underlying57 rfl rfl Tryd.sizeOf54) ?_
    refine LW.v rfl rfl (Val.load rfl Tryd.isAgg54 (by repeat (first | exact .here | refine .there ?_)) (by rfl)) ?_
    refine LW.v rfl rfl (Val.eqP false rfl rfl Tryd.underlying54 (.inr ⟨rfl, rfl⟩)) ?_
    refine LW.nil ?_
    refine PQ.seq ?_
    refine CW.cond_f rfl ?_
    refine CW.seq ?_
    refine CW.region ?_
    refine LW.v rfl rfl (Val.move rfl) ?_
    refine LW.v rfl rfl (Val.nilCheck rfl) ?_
    refine LW.v rfl rfl (Val.fieldAddr 0 rfl Tryd.underlying57 rfl rfl Tryd.sizeOf54) ?_
    refine LW.v rfl rfl (Val.load rfl Tryd.isAgg54 (by repeat (first | exact .here | refine .there ?_)) (by rfl)) ?_
    refine LW.v rfl rfl (Val.move rfl) ?_
    refine LW.v rfl rfl (Val.neSame rfl rfl Tryd.underlying54 (by kernel_rfl)) ?_
    refine LW.nil ?_
    refine PQ.seq ?_
    refine CW.cond_f rfl ?_
    refine CW.skip ?_
    refine PQ.end0 rfl ?_
    intro w' hw; exact ⟨(), trivial, rfl, hw⟩
theorem wb_c (b : Nat) (u : Bool) (o : V.OwnO) (l : List UInt8) (hk : sbOk o l) (hl : l.length ≤ 1000000) (c : UInt8) (w : World) (hs : Sat (sbX b u o l) w) : Calls Tryd.prog 28 [.pointer (some ⟨b, 0, none⟩), .int .u8 (c.toNat : Nat)].toArray w fun e w' => ∃ o' : V.OwnO, sbOk o' (l ++ [c]) ∧ e = .returned .nilIface ∧ Hp ⟨w, ids (sbX b u o l)⟩ (sbX b true o' (l ++ [c])) w' := by
  refine V.calls (sbX b u o l) Tryd.func28 rfl Tryd.ntmps28 (Nat.le_of_ble_eq_true rfl) hs ?_
  refine CW.seq ?_
  refine CW.region ?_
  refine LW.v rfl rfl (Val.assign rfl) ?_
  refine LW.nil ?_
  refine PQ.seq ?_
  refine CW.seq ?_
  refine CW.region ?_
  refine LW.v rfl rfl (Val.move rfl) ?_
  refine LW.e rfl rfl (Eff.callM ([[(b, .cells [.pointer (selfP b u), ownV l.length o].toArray 57 (0, 0))]]) (by repeat (first | exact .nil | apply Pick.cons | exact .here | apply Ext.there)) rfl Tryd.call52 (fun w hw hs0 => cc_c b u (ownV l.length o) w hs0)) ?_
  intro _ _
  refine LW.nil ?_
  refine PQ.seq ?_
  refine CW.seq ?_
  refine CW.region ?_
  refine LW.v rfl rfl (Val.move rfl) ?_
  refine LW.v rfl rfl (Val.move rfl) ?_
  refine LW.v rfl rfl (Val.nilCheck rfl) ?_
  refine LW.v rfl rfl (Val.fieldAddr 1 rfl Tryd.underlying57 rfl rfl Tryd.sizeOf55) ?_
  refine LW.v rfl rfl (Val.load rfl Tryd.isAgg55 (by repeat (first | exact .here | refine .there ?_)) (by rfl)) ?_
  refine LW.v rfl rfl (Val.move rfl) ?_
  refine LW.e rfl rfl (Eff.buildSlice (rfl) [_] Tryd.underlying55 Tryd.sizeOf5 (by exact Tryd.zeroValue5) rfl rfl rfl rfl (by rfl)) ?_
  intro b13 _
  refine LW.e rfl rfl (Eff.appendAny (byC [c]) (sz := 1) (bytes := 1) (z := .int .u8 0) (xs := byC l) (m0 := l.length) (o := o) (m := 1) (pk := [ownG 5 (byC l) o]) rfl rfl Tryd.underlying55 (by kernel_rfl) rfl (by omega) (by repeat (first | exact .nil | apply Pick.cons | exact .here | apply Ext.there)) (by simp) hk.1 rfl (fun hm0 => ⟨b13, 0, rfl, fun w hw => V.range_of_block (o := 0) (cs := byC [c]) (r := []) (hw.own _ (show InS (b13, .cells (byC [c]).toArray 5 (0, 0)) _ from (by repeat (first | exact .here | refine .there ?_))).mem) rfl⟩) (V.byC_one _) (by omega) (by omega)) ?_
  intro o2 ho2
  refine LW.v rfl rfl (Val.nilCheck rfl) ?_
  refine LW.v rfl rfl (Val.fieldAddr 1 rfl Tryd.underlying57 rfl rfl Tryd.sizeOf55) ?_
  refine LW.eN rfl (Eff.store rfl rfl (V.ownV_one _ _) (by repeat (first | exact .here | apply Upd.there)) rfl rfl Tryd.sizeOf55) ?_
  intro _ _
  refine LW.nil ?_
  refine PQ.seq ?_
  refine CW.seq ?_
  refine CW.region ?_
  refine LW.v rfl rfl (Val.assign rfl) ?_
  refine LW.nil ?_
  refine PQ.seq ?_
  refine CW.ret ?_
  refine PQ.ret1 rfl rfl ?_
  intro w' hw
  have h1 : (l ++ [c]).length = l.length + 1 := by simp
  have h2 : sbOk o2 (l ++ [c]) := sbOk_of (by rw [V.byC_append, h1]; exact ho2) (by simp)
  refine ⟨o2, h2, rfl, ?_⟩
  unfold sbX
  rw [V.byC_append, h1]
  exact hw.pick (by repeat (first | exact .nil | apply Pick.cons | exact .here | apply Ext.there))
theorem ws_c (b : Nat) (u : Bool) (o : V.OwnO) (l : List UInt8) (hk : sbOk o l) (hl : l.length ≤ 1000000) (m : List UInt8) (hm : m.length ≤ 1000000) (w : World) (hs : Sat (sbX b u o l) w) : Calls Tryd.prog 33 [.pointer (some ⟨b, 0, none⟩), str m].toArray w fun e w' => ∃ o' : V.OwnO, (m ≠ [] → sbOk o' (l ++ m)) ∧ e = .returned (.tuple #[.int .i64 (m.length : Nat), .nilIface]) ∧ Hp ⟨w, ids (sbX b u o l)⟩ (sbX b true o' (l ++ m)) w' := by
  refine V.calls (sbX b u o l) Tryd.func33 rfl Tryd.ntmps33 (Nat.le_of_ble_eq_true rfl) hs ?_
  refine CW.seq ?_
  refine CW.region ?_
  refine LW.v rfl rfl (Val.assign rfl) ?_
  refine LW.v rfl rfl (Val.assign rfl) ?_
  refine LW.nil ?_
  refine PQ.seq ?_
  refine CW.seq ?_
  refine CW.region ?_
  refine LW.v rfl rfl (Val.move rfl) ?_
  refine LW.e rfl rfl (Eff.callM ([[(b, .cells [.pointer (selfP b u), ownV l.length o].toArray 57 (0, 0))]]) (by repeat (first | exact .nil | apply Pick.cons | exact .here | apply Ext.there)) rfl Tryd.call52 (fun w hw hs0 => cc_c b u (ownV l.length o) w hs0)) ?_
  intro _ _
  refine LW.nil ?_
  refine PQ.seq ?_
  refine CW.seq ?_
  refine CW.region ?_
  refine LW.v rfl rfl (Val.move rfl) ?_
  refine LW.v rfl rfl (Val.move rfl) ?_
  refine LW.v rfl rfl (Val.nilCheck rfl) ?_
  refine LW.v rfl rfl (Val.fieldAddr 1 rfl Tryd.underlying57 rfl rfl Tryd.sizeOf55) ?_
  refine LW.v rfl rfl (Val.load rfl Tryd.isAgg55 (by repeat (first | exact .here | refine .there ?_)) (by rfl)) ?_
  refine LW.v rfl rfl (Val.move rfl) ?_
  refine LW.e rfl rfl (Eff.appendStr (l := m) (xs := byC l) (m0 := l.length) (o := o) (pk := [ownG 5 (byC l) o]) rfl rfl Tryd.underlying55 Tryd.underlying9 (by kernel_rfl) (by repeat (first | exact .nil | apply Pick.cons | exact .here | apply Ext.there)) (by simp) hk.1 (by omega)) ?_
  intro o2 ho2
  refine LW.v rfl rfl (Val.nilCheck rfl) ?_
  refine LW.v rfl rfl (Val.fieldAddr 1 rfl Tryd.underlying57 rfl rfl Tryd.sizeOf55) ?_
  refine LW.eN rfl (Eff.store rfl rfl (V.ownV_one _ _) (by repeat (first | exact .here | apply Upd.there)) rfl rfl Tryd.sizeOf55) ?_
  intro _ _
  refine LW.nil ?_
  refine PQ.seq ?_
  refine CW.seq ?_
  refine CW.region ?_
  refine LW.v rfl rfl (Val.move rfl) ?_
  refine LW.v rfl rfl (Val.lenS rfl Tryd.underlying9) ?_
  refine LW.re 18 (.int .i64 (m.length : Nat)) rfl (by rw [V.str_size]) ?_
  refine LW.v rfl rfl (Val.assign rfl) ?_
  refine LW.v rfl rfl (Val.assign rfl) ?_
  refine LW.nil ?_
  refine PQ.seq ?_
  refine CW.ret ?_
  refine PQ.ret2 rfl rfl rfl ?_
  intro w' hw
  have h1 : (l ++ m).length = l.length + m.length := by simp
  refine ⟨o2, fun hne => sbOk_of (by rw [V.byC_append, h1]; exact ho2) (by simp [hne]), rfl, ?_⟩
  unfold sbX
  rw [V.byC_append, h1]
  exact hw.pick (by repeat (first | exact .nil | apply Pick.cons | exact .here | apply Ext.there))
theorem st_c (b : Nat) (u : Bool) (o : V.OwnO) (l : List UInt8) (hk : sbOk o l) (hl : l.length ≤ 1000000) (w : World) (hs : Sat (sbX b u o l) w) : Calls Tryd.prog 30 [.pointer (some ⟨b, 0, none⟩)].toArray w fun e w' => ∃ _u : Unit, True ∧ e = .returned (str l) ∧ Hp ⟨w, ids (sbX b u o l)⟩ [] w' := by
  refine V.calls (sbX b u o l) Tryd.func30 rfl Tryd.ntmps30 (Nat.le_of_ble_eq_true rfl) hs ?_
  refine CW.seq ?_
  refine CW.region ?_
  refine LW.v rfl rfl (Val.assign rfl) ?_
  refine LW.nil ?_
  refine PQ.seq ?_
  refine CW.seq ?_
  refine CW.drawn ([[(b, .cells [.pointer (selfP b u), ownV l.length o].toArray 57 (0, 0))]]) mixed (by repeat (first | exact .nil | apply Pick.cons | exact .here | apply Ext.there)) ?_
  refine RW.v 0 rfl (by kernel_rfl) (by kernel_rfl) (by kernel_rfl) (fun _ _ _ h => h) rfl rfl (Val.move rfl) ?_
  refine RW.v 1 rfl (by kernel_rfl) (by kernel_rfl) (by kernel_rfl) (fun _ _ _ h => h) rfl rfl (Val.nilCheck rfl) ?_
  refine RW.v 2 rfl (by kernel_rfl) (by kernel_rfl) (by kernel_rfl) (fun _ _ _ h => h) rfl rfl (Val.fieldAddr 1 rfl Tryd.underlying57 rfl rfl Tryd.sizeOf55) ?_
  refine RW.v 3 rfl (by kernel_rfl) (by kernel_rfl) (by kernel_rfl) (fun _ _ _ h => h) rfl rfl (Val.load rfl Tryd.isAgg55 (by repeat (first | exact .here | refine .there ?_)) (by rfl)) ?_
  refine RW.v 4 rfl (by kernel_rfl) (by kernel_rfl) (by kernel_rfl) (fun _ _ _ h => h) rfl rfl (Val.sliceData rfl hk.2) ?_
  refine RW.v 5 rfl (by kernel_rfl) (by kernel_rfl) (by kernel_rfl) (fun _ _ _ h => h) rfl rfl (Val.move rfl) ?_
  refine RW.v 6 rfl (by kernel_rfl) (by kernel_rfl) (by kernel_rfl) (fun _ _ _ h => h) rfl rfl (Val.nilCheck rfl) ?_
  refine RW.v 7 rfl (by kernel_rfl) (by kernel_rfl) (by kernel_rfl) (fun _ _ _ h => h) rfl rfl (Val.fieldAddr 1 rfl Tryd.underlying57 rfl rfl Tryd.sizeOf55) ?_
  refine RW.v 8 rfl (by kernel_rfl) (by kernel_rfl) (by kernel_rfl) (fun _ _ _ h => h) rfl rfl (Val.load rfl Tryd.isAgg55 (by repeat (first | exact .here | refine .there ?_)) (by rfl)) ?_
  refine RW.v 9 rfl (by kernel_rfl) (by kernel_rfl) (by kernel_rfl) (fun _ _ _ h => h) rfl rfl (Val.lenOwn rfl Tryd.underlying55 hk.1) ?_
  refine RW.e 10 rfl (by kernel_rfl) rfl rfl (Eff.unsafeStr (l := l) (o := o) (pk := [ownG 5 (byC l) o]) rfl rfl Tryd.underlying93 (by kernel_rfl) hk.1 (by omega) (by repeat (first | exact .nil | apply Pick.cons | exact .here | apply Ext.there)) (by simp)) (fun x => ⟨_, (by repeat (first | exact .nil | apply Pick.cons | exact .here | apply Ext.there))⟩) ?_
  intro _ _
  refine RW.v 11 rfl (by kernel_rfl) (by kernel_rfl) (by kernel_rfl) (fun _ _ _ h => h) rfl rfl (Val.assign rfl) ?_
  refine RW.done (by kernel_rfl) ?_
  refine PQ.seq ?_
  refine CW.ret ?_
  refine PQ.ret1 rfl rfl ?_
  intro w' hw; exact ⟨(), trivial, rfl, hw.pick (ss := []) .nil⟩
end Go.Proofs.YtagliemeolngiaaDoor
