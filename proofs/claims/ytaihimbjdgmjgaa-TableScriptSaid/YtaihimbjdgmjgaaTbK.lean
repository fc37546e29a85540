/- The reference's table. -/
import Derived.Test.YtaihimbjdgmjgaaTbJ
import Derived.Test.YtaihimbjdgmjgaaV20
import Derived.Lib.Hide
namespace Go.Proofs.Ytaihimbjdgmjgaa
open Go Go.RowKit V
set_option linter.unusedVariables false
set_option maxRecDepth 100000
open V (ownV ownG ownS ownOk Stp Vis itO str byC)
theorem places58 : ∀ w, ((Array.mapM (fun (f : Field) => do pure (f.offset, ← sizeOf f.type)) (Try.prog.fieldsOf 58) : Sem (Array (Nat × Nat)))).run Try.prog w = .ok [(0, 1)].toArray w := by
  intro w; kernel_rfl
def rtG (rt : Nat) (o : V.OwnO) (L : List Lk) : Sg := [[(rt, .cells [ownV L.length o].toArray 58 (0, 0))], ownG 44 (L.flatMap lkC) o]
def lkOk (o : V.OwnO) (L : List Lk) : Prop := ownOk 5 L.length (L.flatMap lkC) o
theorem lkOk_nil : lkOk none [] := ⟨rfl, rfl⟩
theorem and1 {c : Int} (h0 : 0 ≤ c) (h1 : c < 4294967296) : decide (IntKind.u32.wrap (BitVec.ofInt IntKind.u32.bits c &&& BitVec.ofInt IntKind.u32.bits 1).toNat = 1) = !decide (c.tmod 2 = 0) := by
  obtain ⟨n, rfl⟩ := Int.eq_ofNat_of_zero_le h0
  have e1 : (BitVec.ofInt IntKind.u32.bits ((n : Nat) : Int) &&& BitVec.ofInt IntKind.u32.bits 1).toNat = n % 2 := by
    have h2 : n < 4294967296 := by omega
    show ((BitVec.ofInt 32 ((n : Nat) : Int)) &&& (BitVec.ofInt 32 1)).toNat = _
    rw [BitVec.toNat_and]
    have e2 : (BitVec.ofInt 32 ((n : Nat) : Int)).toNat = n := by rw [BitVec.ofInt_natCast, BitVec.toNat_ofNat]; omega
    have e3 : (BitVec.ofInt 32 (1 : Int)).toNat = 1 := by decide
    rw [e2, e3]
    exact Nat.and_one_is_mod n
  rw [e1, IntWalk.u32_in _ (by omega)]
  have e4 : ((n : Nat) : Int).tmod 2 = ((n % 2 : Nat) : Int) := by rw [Int.tmod_eq_emod_of_nonneg (by omega)]; omega
  rw [e4, Bool.eq_iff_iff]
  simp only [decide_eq_true_eq, Bool.not_eq_true', decide_eq_false_iff_not]
  omega
theorem halfF_in {c : Int} (h0 : 0 ≤ c) (h1 : c < 4294967296) : 0 ≤ halfF c ∧ halfF c < 4294967296 := by
  unfold halfF
  rw [Int.tdiv_eq_ediv_of_nonneg h0, IntWalk.u32_in _ (by omega)]; omega
theorem bitF_in {c : Int} (h0 : 0 ≤ c) (h1 : c < 4294967296) : 0 ≤ bitF c ∧ bitF c < 4294967296 := by
  unfold bitF
  split
  · exact halfF_in h0 h1
  · exact xorF_nonneg _ _
theorem bitsF_in {c : Int} (h0 : 0 ≤ c) (h1 : c < 4294967296) : ∀ k, 0 ≤ bitsF c k ∧ bitsF c k < 4294967296
  | 0 => ⟨h0, h1⟩
  | k + 1 => bitF_in (bitsF_in h0 h1 k).1 (bitsF_in h0 h1 k).2
theorem rstep_c (c x : Int) (w : World) : Calls Try.prog 93 [.int .u32 c, .int .u8 x].toArray w fun e w' => e = .returned (.int .u32 (stepF c x)) ∧ Below w.heap.size w w' := by
  have hx := xorF_nonneg c (IntKind.u32.wrap x)
  refine V.calls [] Try.func93 rfl Try.ntmps93 (Nat.le_of_ble_eq_true rfl) (V.sat_nil _) ?_
  refine CW.seq ?_
  refine CW.region ?_
  refine LW.v rfl rfl (Val.assign rfl) ?_
  refine LW.nil ?_
  refine PQ.seq ?_
  refine CW.seq ?_
  refine CW.region ?_
  refine LW.v rfl rfl (Val.move rfl) ?_
  refine LW.v rfl rfl (Val.move rfl) ?_
  refine LW.v rfl rfl (Val.convI rfl Try.underlying5 Try.underlying83) ?_
  refine LW.v rfl rfl (Val.xor rfl rfl) ?_
  refine LW.re 10 (.int .u32 (xorF c (IntKind.u32.wrap x))) rfl rfl ?_
  refine LW.v rfl rfl (Val.assign rfl) ?_
  refine LW.nil ?_
  refine PQ.seq ?_
  refine CW.seq ?_
  refine CW.seq ?_
  refine CW.region ?_
  refine LW.v rfl rfl (Val.assign rfl) ?_
  refine LW.nil ?_
  refine PQ.seq ?_
  refine CW.block ?_
  refine CW.loop (γ := Nat) (fun k => [(0, .int .u32 (bitsF (xorF c (IntKind.u32.wrap x)) k)), (5, .int .i64 (k : Nat))]) (fun _ => []) (fun k => k ≤ 8) (fun k => 8 - k) (0) (Nat.zero_le _) (by repeat (first | exact trivial | refine ⟨rfl, ?_⟩)) (by repeat (first | exact .nil | apply Pick.cons | exact .here | apply Ext.there)) ?_
  intro k
  intro hk
  have hb := bitsF_in hx.1 hx.2 k
  refine CW.seq ?_
  refine CW.seq ?_
  refine CW.region ?_
  refine LW.v rfl rfl (Val.move rfl) ?_
  refine LW.v rfl rfl (Val.cmp rfl rfl rfl) ?_
  refine LW.nil ?_
  refine PQ.seq ?_
  refine CW.cond rfl (fun h12 => ?_) (fun h12 => ?_)
  · replace h12 := bT h12
    refine CW.skip ?_
    refine PQ.seq ?_
    refine CW.seq ?_
    refine CW.block ?_
    refine CW.seq ?_
    refine CW.region ?_
    refine LW.v rfl rfl (Val.move rfl) ?_
    refine LW.v rfl rfl (Val.and rfl rfl) ?_
    refine LW.v rfl rfl (Val.cmp rfl rfl rfl) ?_
    refine LW.re 17 (.bool (!decide ((bitsF (xorF c (IntKind.u32.wrap x)) k).tmod 2 = 0))) rfl (congrArg Value.bool (and1 hb.1 hb.2)) ?_
    refine LW.v rfl rfl (Val.assign rfl) ?_
    refine LW.nil ?_
    refine PQ.seq ?_
    refine CW.seq ?_
    refine CW.region ?_
    refine LW.v rfl rfl (Val.move rfl) ?_
    refine LW.v rfl rfl (Val.quo rfl rfl (by omega)) ?_
    refine LW.re 19 (.int .u32 (halfF (bitsF (xorF c (IntKind.u32.wrap x)) k))) rfl rfl ?_
    refine LW.v rfl rfl (Val.assign rfl) ?_
    refine LW.nil ?_
    refine PQ.seq ?_
    refine CW.seq ?_
    refine CW.region ?_
    refine LW.v rfl rfl (Val.move rfl) ?_
    refine LW.nil ?_
    refine PQ.seq ?_
    refine CW.cond rfl (fun h20 => ?_) (fun h20 => ?_)
    · replace h20 := bT h20
      refine CW.region ?_
      refine LW.v rfl rfl (Val.move rfl) ?_
      refine LW.v rfl rfl (Val.xor rfl rfl) ?_
      refine LW.v rfl rfl (Val.assign rfl) ?_
      refine LW.nil ?_
      refine PQ.in_normal ?_
      refine PQ.seq ?_
      refine CW.region ?_
      refine LW.v rfl rfl (Val.move rfl) ?_
      refine LW.v rfl rfl (Val.ar rfl rfl rfl (IntWalk.i64_in _ (by omega))) ?_
      refine LW.v rfl rfl (Val.assign rfl) ?_
      refine LW.nil ?_
      have e2 : bitsF (xorF c (IntKind.u32.wrap x)) (k + 1) = xorF (halfF (bitsF (xorF c (IntKind.u32.wrap x)) k)) 3988292384 := if_neg h20
      refine PQ.round (k + 1) (by omega) (by omega) (by rw [e2]; repeat (first | exact trivial | refine ⟨rfl, ?_⟩)) (by repeat (first | exact .nil | apply Pick.cons | exact .here | apply Ext.there))
    · replace h20 := bF h20
      refine CW.skip ?_
      refine PQ.in_normal ?_
      refine PQ.seq ?_
      refine CW.region ?_
      refine LW.v rfl rfl (Val.move rfl) ?_
      refine LW.v rfl rfl (Val.ar rfl rfl rfl (IntWalk.i64_in _ (by omega))) ?_
      refine LW.v rfl rfl (Val.assign rfl) ?_
      refine LW.nil ?_
      have e2 : bitsF (xorF c (IntKind.u32.wrap x)) (k + 1) = halfF (bitsF (xorF c (IntKind.u32.wrap x)) k) := if_pos h20
      refine PQ.round (k + 1) (by omega) (by omega) (by rw [e2]; repeat (first | exact trivial | refine ⟨rfl, ?_⟩)) (by repeat (first | exact .nil | apply Pick.cons | exact .here | apply Ext.there))
  · replace h12 := bF h12
    refine CW.exit ?_
    refine PQ.then_exit ?_
    refine PQ.then_exit ?_
    refine PQ.in_here ?_
    refine PQ.seq ?_
    refine CW.seq ?_
    refine CW.region ?_
    refine LW.v rfl rfl (Val.move rfl) ?_
    refine LW.v rfl rfl (Val.assign rfl) ?_
    refine LW.nil ?_
    refine PQ.seq ?_
    refine CW.ret ?_
    refine PQ.ret1 rfl rfl ?_
    intro w' hw; exact ⟨by rw [show k = 8 by omega]; rfl, hw.below⟩
theorem rsumText_c (s : ByteArray) (hs : s.size ≤ 1000) (w : World) : Calls Try.prog 74 [.string s].toArray w fun e w' => e = .returned (.int .u32 (sumF s)) ∧ Below w.heap.size w w' := by
  refine V.calls [] Try.func74 rfl Try.ntmps74 (Nat.le_of_ble_eq_true rfl) (V.sat_nil _) ?_
  refine CW.seq ?_
  refine CW.region ?_
  refine LW.v rfl rfl (Val.assign rfl) ?_
  refine LW.nil ?_
  refine PQ.seq ?_
  refine CW.seq ?_
  refine CW.region ?_
  refine LW.v rfl rfl (Val.assign rfl) ?_
  refine LW.nil ?_
  refine PQ.seq ?_
  refine CW.seq ?_
  refine CW.seq ?_
  refine CW.region ?_
  refine LW.v rfl rfl (Val.assign rfl) ?_
  refine LW.nil ?_
  refine PQ.seq ?_
  refine CW.block ?_
  refine CW.loop (γ := Nat) (fun k => [(0, .string s), (3, .int .u32 (textF s k)), (4, .int .i64 (k : Nat))]) (fun _ => []) (fun k => k ≤ s.size) (fun k => s.size - k) (0) (Nat.zero_le _) (by repeat (first | exact trivial | refine ⟨rfl, ?_⟩)) (by repeat (first | exact .nil | apply Pick.cons | exact .here | apply Ext.there)) ?_
  intro k
  intro hJ
  refine CW.seq ?_
  refine CW.seq ?_
  refine CW.region ?_
  refine LW.v rfl rfl (Val.move rfl) ?_
  refine LW.v rfl rfl (Val.move rfl) ?_
  refine LW.v rfl rfl (Val.lenS rfl Try.underlying9) ?_
  refine LW.v rfl rfl (Val.cmp rfl rfl rfl) ?_
  refine LW.nil ?_
  refine PQ.seq ?_
  refine CW.cond rfl (fun h8 => ?_) (fun h8 => ?_)
  · replace h8 := bT h8
    refine CW.skip ?_
    refine PQ.seq ?_
    refine CW.seq ?_
    refine CW.block ?_
    refine CW.region ?_
    refine LW.v rfl rfl (Val.move rfl) ?_
    refine LW.v rfl rfl (Val.move rfl) ?_
    refine LW.v rfl rfl (Val.move rfl) ?_
    refine LW.v rfl rfl (Val.indexS rfl rfl Try.underlying9 (byte_at s (by omega))) ?_
    refine LW.e rfl rfl (Eff.callV rfl Try.call93 (fun w hw => rstep_c _ _ w)) ?_
    intro _ _
    refine LW.v rfl rfl (Val.assign rfl) ?_
    refine LW.nil ?_
    refine PQ.in_normal ?_
    refine PQ.seq ?_
    refine CW.region ?_
    refine LW.v rfl rfl (Val.move rfl) ?_
    refine LW.v rfl rfl (Val.ar rfl rfl rfl (IntWalk.i64_in _ (by omega))) ?_
    refine LW.v rfl rfl (Val.assign rfl) ?_
    refine LW.nil ?_
    refine PQ.round (k + 1) (by first | omega | (simp only; omega)) (by omega) (by repeat (first | exact trivial | refine ⟨rfl, ?_⟩)) (by repeat (first | exact .nil | apply Pick.cons | exact .here | apply Ext.there))
  · replace h8 := bF h8
    refine CW.exit ?_
    refine PQ.then_exit ?_
    refine PQ.then_exit ?_
    refine PQ.in_here ?_
    refine PQ.seq ?_
    refine CW.seq ?_
    refine CW.region ?_
    refine LW.v rfl rfl (Val.move rfl) ?_
    refine LW.v rfl rfl (Val.xor rfl rfl) ?_
    refine LW.v rfl rfl (Val.assign rfl) ?_
    refine LW.nil ?_
    refine PQ.seq ?_
    refine CW.ret ?_
    refine PQ.ret1 rfl rfl ?_
    intro w' hw; obtain rfl : k = s.size := by omega
    exact ⟨rfl, hw.below⟩
theorem rbucket_c (s : ByteArray) (hs : s.size ≤ 1000) (w : World) : Calls Try.prog 60 [.string s].toArray w fun e w' => e = .returned (.int .i64 (bk s : Nat)) ∧ Below w.heap.size w w' := by
  rw [← bk_eq]
  refine V.calls [] Try.func60 rfl Try.ntmps60 (Nat.le_of_ble_eq_true rfl) (V.sat_nil _) ?_
  refine CW.seq ?_
  refine CW.region ?_
  refine LW.v rfl rfl (Val.assign rfl) ?_
  refine LW.nil ?_
  refine PQ.seq ?_
  refine CW.seq ?_
  refine CW.region ?_
  refine LW.v rfl rfl (Val.move rfl) ?_
  refine LW.e rfl rfl (Eff.callV rfl Try.call74 (fun w hw => rsumText_c s hs w)) ?_
  intro _ _
  refine LW.v rfl rfl (Val.rem rfl rfl (by omega)) ?_
  refine LW.v rfl rfl (Val.convI rfl Try.underlying83 Try.underlying3) ?_
  refine LW.v rfl rfl (Val.assign rfl) ?_
  refine LW.nil ?_
  refine PQ.seq ?_
  refine CW.ret ?_
  refine PQ.ret1 rfl rfl ?_
  intro w' hw; exact ⟨rfl, hw.below⟩
theorem rget_c (rt : Nat) (o : V.OwnO) (L : List Lk) (hok : lkOk o L) {f : ByteArray → Option Lk} {n : Nat} (hA : AllOk f n L) (hkf : ∀ q x, f q = some x → x.key = q) (hn : n ≤ 1000) (key : ByteArray) (w : World) (hs : Sat (rtG rt o L) w) : Calls Try.prog 35 [.pointer (some ⟨rt, 0, none⟩), .string key].toArray w fun e w' => e = .returned (.tuple #[lkV ((f key).getD lk0), .bool (f key).isSome]) ∧ Below w.heap.size w w' := by
  have hLn := hA.len
  refine V.calls (rtG rt o L) Try.func35 rfl Try.ntmps35 (Nat.le_of_ble_eq_true rfl) hs ?_
  refine CW.seq ?_
  refine CW.region ?_
  refine LW.e rfl rfl (Eff.allocA (by exact Try.zeroValue44)) ?_
  intro b4 _
  refine LW.v rfl rfl (Val.assign rfl) ?_
  refine LW.nil ?_
  refine PQ.seq ?_
  refine CW.seq ?_
  refine CW.seq ?_
  refine CW.region ?_
  refine LW.v rfl rfl (Val.assign rfl) ?_
  refine LW.nil ?_
  refine PQ.seq ?_
  refine CW.block ?_
  refine CW.loop (γ := Nat) (fun k => [(0, .pointer (some ⟨rt, 0, none⟩)), (1, .string key), (4, .pointer (some ⟨b4, 0, none⟩)), (6, .int .i64 (k : Nat))]) (fun _ => [[(b4, .cells (lkC lk0).toArray 44 (0, 0))]] ++ rtG rt o L) (fun k => k ≤ L.length ∧ ∀ (i : Nat) (y : Lk), i < k → L[i]? = some y → y.key ≠ key) (fun k => L.length - k) (0) ⟨Nat.zero_le _, fun i y h => by omega⟩ (by repeat (first | exact trivial | refine ⟨rfl, ?_⟩)) (by repeat (first | exact .nil | apply Pick.cons | exact .here | apply Ext.there)) ?_
  intro k
  intro hJ
  have hJ1 := hJ.1
  refine CW.seq ?_
  refine CW.seq ?_
  refine CW.region ?_
  refine LW.v rfl rfl (Val.move rfl) ?_
  refine LW.v rfl rfl (Val.move rfl) ?_
  refine LW.v rfl rfl (Val.nilCheck rfl) ?_
  refine LW.v rfl rfl (Val.fieldAddr 0 rfl Try.underlying58 rfl rfl Try.sizeOf41) ?_
  refine LW.v rfl rfl (Val.load rfl Try.isAgg41 (by repeat (first | exact .here | refine .there ?_)) (by rfl)) ?_
  refine LW.v rfl rfl (Val.lenOwn rfl Try.underlying41 hok) ?_
  refine LW.v rfl rfl (Val.cmp rfl rfl rfl) ?_
  refine LW.nil ?_
  refine PQ.seq ?_
  refine CW.cond rfl (fun h13 => ?_) (fun h13 => ?_)
  · replace h13 := bT h13
    obtain ⟨⟨g, rest, capl⟩, rfl⟩ := own_some hok (by omega)
    obtain ⟨x, hx⟩ : ∃ x, L[k]? = some x := ⟨L[k]'(by omega), by simp⟩
    obtain ⟨q1, hq1⟩ := lk_drop rest hx
    refine CW.skip ?_
    refine PQ.seq ?_
    refine CW.seq ?_
    refine CW.block ?_
    refine CW.seq ?_
    refine CW.region ?_
    refine LW.v rfl rfl (Val.move rfl) ?_
    refine LW.v rfl rfl (Val.nilCheck rfl) ?_
    refine LW.v rfl rfl (Val.fieldAddr 0 rfl Try.underlying58 rfl rfl Try.sizeOf41) ?_
    refine LW.v rfl rfl (Val.load rfl Try.isAgg41 (by repeat (first | exact .here | refine .there ?_)) (by rfl)) ?_
    refine LW.v rfl rfl (Val.move rfl) ?_
    first | (refine LW.v rfl rfl (Val.indexAddrN rfl rfl Try.underlying41 Try.sizeOf44 (by omega)) ?_) | (refine LW.v rfl rfl (Val.indexAddr rfl rfl Try.underlying41 Try.sizeOf44 (by omega) (by omega)) ?_)
    refine LW.v rfl rfl (Val.fieldAddr 0 rfl Try.underlying44 rfl rfl Try.sizeOf9) ?_
    refine LW.v rfl rfl (Val.load (v := .string x.key) rfl Try.isAgg9 (show InS (g, .cells (L.flatMap lkC ++ rest).toArray 44 (0, 0)) _ from (by repeat (first | exact .here | refine .there ?_))) (cell_of_drop hq1 (j := 0) rfl)) ?_
    refine LW.v rfl rfl (Val.move rfl) ?_
    refine LW.v rfl rfl (Val.cmpS rfl rfl rfl) ?_
    refine LW.nil ?_
    refine PQ.seq ?_
    refine CW.cond rfl (fun h25 => ?_) (fun h25 => ?_)
    · replace h25 := bT h25
      refine CW.seq ?_
      refine CW.region ?_
      refine LW.v rfl rfl (Val.move rfl) ?_
      refine LW.v rfl rfl (Val.nilCheck rfl) ?_
      refine LW.v rfl rfl (Val.fieldAddr 0 rfl Try.underlying58 rfl rfl Try.sizeOf41) ?_
      refine LW.v rfl rfl (Val.load rfl Try.isAgg41 (by repeat (first | exact .here | refine .there ?_)) (by rfl)) ?_
      refine LW.v rfl rfl (Val.move rfl) ?_
      first | (refine LW.v rfl rfl (Val.indexAddrN rfl rfl Try.underlying41 Try.sizeOf44 (by omega)) ?_) | (refine LW.v rfl rfl (Val.indexAddr rfl rfl Try.underlying41 Try.sizeOf44 (by omega) (by omega)) ?_)
      refine LW.v rfl rfl (Val.loadA (cs := lkC x) rfl Try.isAgg44 (show InS (g, .cells (L.flatMap lkC ++ rest).toArray 44 (0, 0)) _ from (by repeat (first | exact .here | refine .there ?_))) hq1 (by exact Try.sizeOf44)) ?_
      first | (refine LW.eN rfl (Eff.storeW rfl rfl (by repeat (first | exact .here | apply Upd.there)) (by rfl) Try.sizeOf44 (by rfl)) ?_) | (refine LW.eN rfl (Eff.storeA (l' := _) rfl rfl (by repeat (first | exact .here | apply Upd.there)) (by rfl) (by decide) Try.sizeOf44 (by rfl)) ?_)
      intro _ _
      refine LW.v rfl rfl (Val.assign rfl) ?_
      refine LW.nil ?_
      refine PQ.seq ?_
      refine CW.ret ?_
      refine PQ.in_ret ?_
      refine PQ.then_ret ?_
      refine PQ.then_ret ?_
      refine PQ.in_ret ?_
      refine PQ.then_ret ?_
      refine PQ.retCT rfl rfl rfl (by repeat (first | exact .here | refine .there ?_)) Try.isAgg44 (by exact Try.sizeOf44) ?_
      intro w' hw
      have e1 : f key = some x := by rw [← h25]; exact hA.get x (List.mem_of_getElem? hx)
      exact ⟨by rw [e1]; rfl, (hw.ro (by repeat (first | exact .nil | apply Pick.cons | exact .here | apply Ext.there)) hs)⟩
    · replace h25 := bF h25
      refine CW.skip ?_
      refine PQ.in_normal ?_
      refine PQ.seq ?_
      refine CW.region ?_
      refine LW.v rfl rfl (Val.move rfl) ?_
      refine LW.v rfl rfl (Val.ar rfl rfl rfl (IntWalk.i64_in _ (by omega))) ?_
      refine LW.v rfl rfl (Val.assign rfl) ?_
      refine LW.nil ?_
      refine PQ.round (k + 1) ⟨by omega, fun i y hi hy => by rcases Nat.lt_or_ge i k with h1 | h1; exact hJ.2 i y h1 hy; obtain rfl : i = k := (by omega); rw [hx] at hy; cases hy; exact h25⟩ (by omega) (by repeat (first | exact trivial | refine ⟨rfl, ?_⟩)) (by repeat (first | exact .nil | apply Pick.cons | exact .here | apply Ext.there))
  · replace h13 := bF h13
    refine CW.exit ?_
    refine PQ.then_exit ?_
    refine PQ.then_exit ?_
    refine PQ.in_here ?_
    refine PQ.seq ?_
    refine CW.seq ?_
    refine CW.region ?_
    refine LW.v rfl rfl (Val.build [_, _, _, _, _] Try.zeroValue44 Try.underlying44 places44 rfl (by rfl)) ?_
    first | (refine LW.eN rfl (Eff.storeW rfl rfl (by repeat (first | exact .here | apply Upd.there)) (by rfl) Try.sizeOf44 (by rfl)) ?_) | (refine LW.eN rfl (Eff.storeA (l' := _) rfl rfl (by repeat (first | exact .here | apply Upd.there)) (by rfl) (by decide) Try.sizeOf44 (by rfl)) ?_)
    intro _ _
    refine LW.v rfl rfl (Val.assign rfl) ?_
    refine LW.nil ?_
    refine PQ.seq ?_
    refine CW.ret ?_
    refine PQ.retCT rfl rfl rfl (by repeat (first | exact .here | refine .there ?_)) Try.isAgg44 (by exact Try.sizeOf44) ?_
    intro w' hw
    have e1 : f key = none := by
      cases hf : f key with
      | none => rfl
      | some y =>
        obtain ⟨i, hi⟩ := List.mem_iff_getElem?.1 (hA.all key y hf)
        exact absurd (hkf key y hf) (hJ.2 i y (by have := (List.getElem?_eq_some_iff.1 hi).1; omega) hi)
    exact ⟨by rw [e1]; rfl, (hw.ro (by repeat (first | exact .nil | apply Pick.cons | exact .here | apply Ext.there)) hs)⟩
theorem gtr_dec2 (x pos : ByteArray) : (!(Op.bytesLess x.toList pos.toList || decide (x = pos))) = decide (bL pos < bL x) := by
  have h := gtr_dec (bL x) pos
  rw [show (⟨(bL x).toArray⟩ : ByteArray) = x from (V.str_of x).symm] at h
  exact h
/-- No earlier link is asked for. -/
def Skip (b : Int) (pos : ByteArray) (past : Bool) (y : Lk) : Prop := ((bk y.key : Nat) : Int) ≠ b ∨ (past = true ∧ ¬ bL pos < bL y.key)
theorem rnext_c (rt : Nat) (o : V.OwnO) (L : List Lk) (hok : lkOk o L) {f : ByteArray → Option Lk} {n : Nat} (hA : AllOk f n L) (hkf : ∀ q x, f q = some x → x.key = q) (hn : n ≤ 1000) (hks : ∀ q x, f q = some x → q.size ≤ 1000) (b : Int) (pos : ByteArray) (past : Bool) (w : World) (hs : Sat (rtG rt o L) w) : Calls Try.prog 36 [.pointer (some ⟨rt, 0, none⟩), .int .i64 b, .string pos, .bool past].toArray w fun e w' => ∃ r : Option Lk, NextOk f b pos past r ∧ e = .returned (.tuple #[lkV (r.getD lk0), .bool r.isSome]) ∧ Below w.heap.size w w' := by
  have hLn := hA.len
  refine V.calls (rtG rt o L) Try.func36 rfl Try.ntmps36 (Nat.le_of_ble_eq_true rfl) hs ?_
  refine CW.seq ?_
  refine CW.region ?_
  refine LW.e rfl rfl (Eff.allocA (by exact Try.zeroValue44)) ?_
  intro b8 _
  refine LW.v rfl rfl (Val.assign rfl) ?_
  refine LW.nil ?_
  refine PQ.seq ?_
  refine CW.seq ?_
  refine CW.seq ?_
  refine CW.region ?_
  refine LW.v rfl rfl (Val.assign rfl) ?_
  refine LW.nil ?_
  refine PQ.seq ?_
  refine CW.block ?_
  refine CW.loop (γ := Nat) (fun k => [(0, .pointer (some ⟨rt, 0, none⟩)), (1, .int .i64 b), (2, .string pos), (3, .bool past), (8, .pointer (some ⟨b8, 0, none⟩)), (9, .bool false), (10, .int .i64 (k : Nat))]) (fun _ => [[(b8, .cells (lkC lk0).toArray 44 (0, 0))]] ++ rtG rt o L) (fun k => k ≤ L.length ∧ ∀ (i : Nat) (y : Lk), i < k → L[i]? = some y → Skip b pos past y) (fun k => L.length - k) (0) ⟨Nat.zero_le _, fun i y h => by omega⟩ (by repeat (first | exact trivial | refine ⟨rfl, ?_⟩)) (by repeat (first | exact .nil | apply Pick.cons | exact .here | apply Ext.there)) ?_
  intro k
  intro hJ
  have hJ1 := hJ.1
  refine CW.seq ?_
  refine CW.seq ?_
  refine CW.region ?_
  refine LW.v rfl rfl (Val.move rfl) ?_
  refine LW.v rfl rfl (Val.move rfl) ?_
  refine LW.v rfl rfl (Val.nilCheck rfl) ?_
  refine LW.v rfl rfl (Val.fieldAddr 0 rfl Try.underlying58 rfl rfl Try.sizeOf41) ?_
  refine LW.v rfl rfl (Val.load rfl Try.isAgg41 (by repeat (first | exact .here | refine .there ?_)) (by rfl)) ?_
  refine LW.v rfl rfl (Val.lenOwn rfl Try.underlying41 hok) ?_
  refine LW.v rfl rfl (Val.cmp rfl rfl rfl) ?_
  refine LW.nil ?_
  refine PQ.seq ?_
  refine CW.cond rfl (fun h17 => ?_) (fun h17 => ?_)
  · replace h17 := bT h17
    obtain ⟨⟨g, rest, capl⟩, rfl⟩ := own_some hok (by omega)
    obtain ⟨x, hx⟩ : ∃ x, L[k]? = some x := ⟨L[k]'(by omega), by simp⟩
    obtain ⟨q1, hq1⟩ := lk_drop rest hx
    refine CW.skip ?_
    refine PQ.seq ?_
    refine CW.seq ?_
    refine CW.block ?_
    refine CW.seq ?_
    refine CW.region ?_
    refine LW.v rfl rfl (Val.move rfl) ?_
    refine LW.v rfl rfl (Val.nilCheck rfl) ?_
    refine LW.v rfl rfl (Val.fieldAddr 0 rfl Try.underlying58 rfl rfl Try.sizeOf41) ?_
    refine LW.v rfl rfl (Val.load rfl Try.isAgg41 (by repeat (first | exact .here | refine .there ?_)) (by rfl)) ?_
    refine LW.v rfl rfl (Val.move rfl) ?_
    first | (refine LW.v rfl rfl (Val.indexAddrN rfl rfl Try.underlying41 Try.sizeOf44 (by omega)) ?_) | (refine LW.v rfl rfl (Val.indexAddr rfl rfl Try.underlying41 Try.sizeOf44 (by omega) (by omega)) ?_)
    refine LW.v rfl rfl (Val.fieldAddr 0 rfl Try.underlying44 rfl rfl Try.sizeOf9) ?_
    refine LW.v rfl rfl (Val.load (v := .string x.key) rfl Try.isAgg9 (show InS (g, .cells (L.flatMap lkC ++ rest).toArray 44 (0, 0)) _ from (by repeat (first | exact .here | refine .there ?_))) (cell_of_drop hq1 (j := 0) rfl)) ?_
    refine LW.e rfl rfl (Eff.callV rfl Try.call60 (fun w hw => rbucket_c x.key (hks _ _ (hA.get x (List.mem_of_getElem? hx))) w)) ?_
    intro _ _
    refine LW.v rfl rfl (Val.move rfl) ?_
    refine LW.v rfl rfl (Val.cmp rfl rfl rfl) ?_
    refine LW.v rfl rfl (Val.move rfl) ?_
    refine LW.split (d := 31) rfl (fun h31 => ?_) (fun h31 => ?_)
    · replace h31 := bT h31
      refine LW.v rfl rfl (Val.move rfl) ?_
      refine LW.v rfl rfl (Val.not rfl) ?_
      refine LW.v rfl rfl (Val.move rfl) ?_
      refine LW.split (d := 34) rfl (fun h34 => ?_) (fun h34 => ?_)
      · replace h34 := bT h34
        refine LW.p rfl rfl ?_
        refine LW.p rfl rfl ?_
        refine LW.p rfl rfl ?_
        refine LW.p rfl rfl ?_
        refine LW.p rfl rfl ?_
        refine LW.p rfl rfl ?_
        refine LW.p rfl rfl ?_
        refine LW.p rfl rfl ?_
        refine LW.p rfl rfl ?_
        refine LW.p rfl rfl ?_
        refine LW.v rfl rfl (Val.pick_t rfl rfl) ?_
        refine LW.v rfl rfl (Val.pick_t rfl rfl) ?_
        refine LW.nil ?_
        refine PQ.seq ?_
        refine CW.cond_t rfl ?_
        refine CW.seq ?_
        refine CW.region ?_
        refine LW.v rfl rfl (Val.move rfl) ?_
        refine LW.v rfl rfl (Val.nilCheck rfl) ?_
        refine LW.v rfl rfl (Val.fieldAddr 0 rfl Try.underlying58 rfl rfl Try.sizeOf41) ?_
        refine LW.v rfl rfl (Val.load rfl Try.isAgg41 (by repeat (first | exact .here | refine .there ?_)) (by rfl)) ?_
        refine LW.v rfl rfl (Val.move rfl) ?_
        first | (refine LW.v rfl rfl (Val.indexAddrN rfl rfl Try.underlying41 Try.sizeOf44 (by omega)) ?_) | (refine LW.v rfl rfl (Val.indexAddr rfl rfl Try.underlying41 Try.sizeOf44 (by omega) (by omega)) ?_)
        refine LW.v rfl rfl (Val.loadA (cs := lkC x) rfl Try.isAgg44 (show InS (g, .cells (L.flatMap lkC ++ rest).toArray 44 (0, 0)) _ from (by repeat (first | exact .here | refine .there ?_))) hq1 (by exact Try.sizeOf44)) ?_
        first | (refine LW.eN rfl (Eff.storeW rfl rfl (by repeat (first | exact .here | apply Upd.there)) (by rfl) Try.sizeOf44 (by rfl)) ?_) | (refine LW.eN rfl (Eff.storeA (l' := _) rfl rfl (by repeat (first | exact .here | apply Upd.there)) (by rfl) (by decide) Try.sizeOf44 (by rfl)) ?_)
        intro _ _
        refine LW.v rfl rfl (Val.assign rfl) ?_
        refine LW.nil ?_
        refine PQ.seq ?_
        refine CW.ret ?_
        refine PQ.in_ret ?_
        refine PQ.then_ret ?_
        refine PQ.then_ret ?_
        refine PQ.in_ret ?_
        refine PQ.then_ret ?_
        refine PQ.retCT rfl rfl rfl (by repeat (first | exact .here | refine .there ?_)) Try.isAgg44 (by exact Try.sizeOf44) ?_
        have hxf := hA.get x (List.mem_of_getElem? hx)
        have hmin : ∀ q y, f q = some y → ((bk q : Nat) : Int) = b → (past = true → bL pos < bL q) → bL x.key ≤ bL q := by
          intro q y hq hb2 hpq
          obtain ⟨i, hi⟩ := List.mem_iff_getElem?.1 (hA.all q y hq)
          have hil := (List.getElem?_eq_some_iff.1 hi).1
          have hk2 := hkf q y hq
          rcases Nat.lt_trichotomy i k with h2 | h2 | h2
          · rcases hJ.2 i y h2 hi with h3 | h3
            · exact absurd (by rw [hk2]; exact hb2) h3
            · rw [hk2] at h3; exact absurd (hpq h3.1) h3.2
          · subst h2; rw [hx] at hi; cases hi; rw [hk2]; exact List.le_refl _
          · have h3 := List.pairwise_iff_getElem.1 hA.up k i (by omega) hil h2
            rw [(List.getElem?_eq_some_iff.1 hx).2, (List.getElem?_eq_some_iff.1 hi).2] at h3
            rw [← hk2]; exact List.le_of_lt h3
        intro w' hw; exact ⟨some x, ⟨hxf, h31, (fun hpt => by first | exact h46 | (rw [hpt] at h34; simp at h34)), hmin⟩, rfl, (hw.ro (by repeat (first | exact .nil | apply Pick.cons | exact .here | apply Ext.there)) hs)⟩
      · replace h34 := bF h34
        refine LW.v rfl rfl (Val.move rfl) ?_
        refine LW.v rfl rfl (Val.nilCheck rfl) ?_
        refine LW.v rfl rfl (Val.fieldAddr 0 rfl Try.underlying58 rfl rfl Try.sizeOf41) ?_
        refine LW.v rfl rfl (Val.load rfl Try.isAgg41 (by repeat (first | exact .here | refine .there ?_)) (by rfl)) ?_
        refine LW.v rfl rfl (Val.move rfl) ?_
        first | (refine LW.v rfl rfl (Val.indexAddrN rfl rfl Try.underlying41 Try.sizeOf44 (by omega)) ?_) | (refine LW.v rfl rfl (Val.indexAddr rfl rfl Try.underlying41 Try.sizeOf44 (by omega) (by omega)) ?_)
        refine LW.v rfl rfl (Val.fieldAddr 0 rfl Try.underlying44 rfl rfl Try.sizeOf9) ?_
        refine LW.v rfl rfl (Val.load (v := .string x.key) rfl Try.isAgg9 (show InS (g, .cells (L.flatMap lkC ++ rest).toArray 44 (0, 0)) _ from (by repeat (first | exact .here | refine .there ?_))) (cell_of_drop hq1 (j := 0) rfl)) ?_
        refine LW.v rfl rfl (Val.move rfl) ?_
        refine LW.v rfl rfl (Val.cmpS rfl rfl rfl) ?_
        refine LW.re 44 (.bool (decide (bL pos < bL x.key))) rfl (congrArg Value.bool (gtr_dec2 _ _)) ?_
        refine LW.v rfl rfl (Val.pick_f rfl rfl) ?_
        refine LW.v rfl rfl (Val.pick_t rfl rfl) ?_
        refine LW.nil ?_
        refine PQ.seq ?_
        refine CW.cond rfl (fun h46 => ?_) (fun h46 => ?_)
        · replace h46 := bT h46
          refine CW.seq ?_
          refine CW.region ?_
          refine LW.v rfl rfl (Val.move rfl) ?_
          refine LW.v rfl rfl (Val.nilCheck rfl) ?_
          refine LW.v rfl rfl (Val.fieldAddr 0 rfl Try.underlying58 rfl rfl Try.sizeOf41) ?_
          refine LW.v rfl rfl (Val.load rfl Try.isAgg41 (by repeat (first | exact .here | refine .there ?_)) (by rfl)) ?_
          refine LW.v rfl rfl (Val.move rfl) ?_
          first | (refine LW.v rfl rfl (Val.indexAddrN rfl rfl Try.underlying41 Try.sizeOf44 (by omega)) ?_) | (refine LW.v rfl rfl (Val.indexAddr rfl rfl Try.underlying41 Try.sizeOf44 (by omega) (by omega)) ?_)
          refine LW.v rfl rfl (Val.loadA (cs := lkC x) rfl Try.isAgg44 (show InS (g, .cells (L.flatMap lkC ++ rest).toArray 44 (0, 0)) _ from (by repeat (first | exact .here | refine .there ?_))) hq1 (by exact Try.sizeOf44)) ?_
          first | (refine LW.eN rfl (Eff.storeW rfl rfl (by repeat (first | exact .here | apply Upd.there)) (by rfl) Try.sizeOf44 (by rfl)) ?_) | (refine LW.eN rfl (Eff.storeA (l' := _) rfl rfl (by repeat (first | exact .here | apply Upd.there)) (by rfl) (by decide) Try.sizeOf44 (by rfl)) ?_)
          intro _ _
          refine LW.v rfl rfl (Val.assign rfl) ?_
          refine LW.nil ?_
          refine PQ.seq ?_
          refine CW.ret ?_
          refine PQ.in_ret ?_
          refine PQ.then_ret ?_
          refine PQ.then_ret ?_
          refine PQ.in_ret ?_
          refine PQ.then_ret ?_
          refine PQ.retCT rfl rfl rfl (by repeat (first | exact .here | refine .there ?_)) Try.isAgg44 (by exact Try.sizeOf44) ?_
          have hxf := hA.get x (List.mem_of_getElem? hx)
          have hmin : ∀ q y, f q = some y → ((bk q : Nat) : Int) = b → (past = true → bL pos < bL q) → bL x.key ≤ bL q := by
            intro q y hq hb2 hpq
            obtain ⟨i, hi⟩ := List.mem_iff_getElem?.1 (hA.all q y hq)
            have hil := (List.getElem?_eq_some_iff.1 hi).1
            have hk2 := hkf q y hq
            rcases Nat.lt_trichotomy i k with h2 | h2 | h2
            · rcases hJ.2 i y h2 hi with h3 | h3
              · exact absurd (by rw [hk2]; exact hb2) h3
              · rw [hk2] at h3; exact absurd (hpq h3.1) h3.2
            · subst h2; rw [hx] at hi; cases hi; rw [hk2]; exact List.le_refl _
            · have h3 := List.pairwise_iff_getElem.1 hA.up k i (by omega) hil h2
              rw [(List.getElem?_eq_some_iff.1 hx).2, (List.getElem?_eq_some_iff.1 hi).2] at h3
              rw [← hk2]; exact List.le_of_lt h3
          intro w' hw; exact ⟨some x, ⟨hxf, h31, (fun hpt => by first | exact h46 | (rw [hpt] at h34; simp at h34)), hmin⟩, rfl, (hw.ro (by repeat (first | exact .nil | apply Pick.cons | exact .here | apply Ext.there)) hs)⟩
        · replace h46 := bF h46
          refine CW.skip ?_
          refine PQ.in_normal ?_
          refine PQ.seq ?_
          refine CW.region ?_
          refine LW.v rfl rfl (Val.move rfl) ?_
          refine LW.v rfl rfl (Val.ar rfl rfl rfl (IntWalk.i64_in _ (by omega))) ?_
          refine LW.v rfl rfl (Val.assign rfl) ?_
          refine LW.nil ?_
          refine PQ.round (k + 1) ⟨by omega, fun i y hi hy => by rcases Nat.lt_or_ge i k with h1 | h1; exact hJ.2 i y h1 hy; obtain rfl : i = k := (by omega); rw [hx] at hy; cases hy; exact .inr ⟨by simpa using h34, h46⟩⟩ (by omega) (by repeat (first | exact trivial | refine ⟨rfl, ?_⟩)) (by repeat (first | exact .nil | apply Pick.cons | exact .here | apply Ext.there))
    · replace h31 := bF h31
      refine LW.p rfl rfl ?_
      refine LW.p rfl rfl ?_
      refine LW.p rfl rfl ?_
      refine LW.p rfl rfl ?_
      refine LW.p rfl rfl ?_
      refine LW.p rfl rfl ?_
      refine LW.p rfl rfl ?_
      refine LW.p rfl rfl ?_
      refine LW.p rfl rfl ?_
      refine LW.p rfl rfl ?_
      refine LW.p rfl rfl ?_
      refine LW.p rfl rfl ?_
      refine LW.p rfl rfl ?_
      refine LW.p rfl rfl ?_
      refine LW.v rfl rfl (Val.pick_f rfl rfl) ?_
      refine LW.nil ?_
      refine PQ.seq ?_
      refine CW.cond_f rfl ?_
      refine CW.skip ?_
      refine PQ.in_normal ?_
      refine PQ.seq ?_
      refine CW.region ?_
      refine LW.v rfl rfl (Val.move rfl) ?_
      refine LW.v rfl rfl (Val.ar rfl rfl rfl (IntWalk.i64_in _ (by omega))) ?_
      refine LW.v rfl rfl (Val.assign rfl) ?_
      refine LW.nil ?_
      refine PQ.round (k + 1) ⟨by omega, fun i y hi hy => by rcases Nat.lt_or_ge i k with h1 | h1; exact hJ.2 i y h1 hy; obtain rfl : i = k := (by omega); rw [hx] at hy; cases hy; exact .inl h31⟩ (by omega) (by repeat (first | exact trivial | refine ⟨rfl, ?_⟩)) (by repeat (first | exact .nil | apply Pick.cons | exact .here | apply Ext.there))
  · replace h17 := bF h17
    refine CW.exit ?_
    refine PQ.then_exit ?_
    refine PQ.then_exit ?_
    refine PQ.in_here ?_
    refine PQ.seq ?_
    refine CW.seq ?_
    refine CW.region ?_
    refine LW.v rfl rfl (Val.build [_, _, _, _, _] Try.zeroValue44 Try.underlying44 places44 rfl (by rfl)) ?_
    first | (refine LW.eN rfl (Eff.storeW rfl rfl (by repeat (first | exact .here | apply Upd.there)) (by rfl) Try.sizeOf44 (by rfl)) ?_) | (refine LW.eN rfl (Eff.storeA (l' := _) rfl rfl (by repeat (first | exact .here | apply Upd.there)) (by rfl) (by decide) Try.sizeOf44 (by rfl)) ?_)
    intro _ _
    refine LW.v rfl rfl (Val.assign rfl) ?_
    refine LW.nil ?_
    refine PQ.seq ?_
    refine CW.ret ?_
    refine PQ.retCT rfl rfl rfl (by repeat (first | exact .here | refine .there ?_)) Try.isAgg44 (by exact Try.sizeOf44) ?_
    intro w' hw; refine ⟨none, (fun q x hq hb => ?_), rfl, (hw.ro (by repeat (first | exact .nil | apply Pick.cons | exact .here | apply Ext.there)) hs)⟩
    obtain ⟨i, hi⟩ := List.mem_iff_getElem?.1 (hA.all q x hq)
    have hk2 := hkf q x hq
    rcases hJ.2 i x (by have := (List.getElem?_eq_some_iff.1 hi).1; omega) hi with h1 | h1
    · exact absurd (by rw [hk2]; exact hb) h1
    · rw [hk2] at h1; exact h1
def keepK (key : ByteArray) (x : Lk) : Bool := decide (x.key ≠ key)
theorem take_filter {p : Lk → Bool} {L : List Lk} {k : Nat} {x : Lk} (h : L[k]? = some x) : (L.take (k + 1)).filter p = (L.take k).filter p ++ if p x then [x] else [] := by
  have hlt := (List.getElem?_eq_some_iff.1 h).1
  rw [List.take_succ_eq_append_getElem hlt, List.filter_append]
  have := List.getElem?_eq_getElem hlt
  rw [h] at this
  rw [← Option.some.inj this]
  congr 1
  simp only [List.filter_cons, List.filter_nil]
theorem lk_snoc (L : List Lk) (x : Lk) : (L ++ [x]).flatMap lkC = L.flatMap lkC ++ lkC x := by simp
theorem lkOk_snoc {L : List Lk} {x : Lk} {o : V.OwnO} (h : ownOk 5 (L.length + 1) (L.flatMap lkC ++ lkC x) o) : lkOk o (L ++ [x]) := by
  unfold lkOk
  rw [lk_snoc, List.length_append, List.length_singleton]; exact h
theorem without_c (o : V.OwnO) (L : List Lk) (hok : lkOk o L) (hl : L.length ≤ 1000) (key : ByteArray) (w : World) (hs : Sat [ownG 44 (L.flatMap lkC) o] w) : Calls Try.prog 59 [ownV L.length o, .string key].toArray w fun e w' => ∃ o2 : V.OwnO, lkOk o2 (L.filter (keepK key)) ∧ e = .returned (ownV (L.filter (keepK key)).length o2) ∧ Hp ⟨w, []⟩ [ownG 44 ((L.filter (keepK key)).flatMap lkC) o2] w' := by
  refine V.calls [] Try.func59 rfl Try.ntmps59 (Nat.le_of_ble_eq_true rfl) (V.sat_nil _) ?_
  refine CW.seq ?_
  refine CW.region ?_
  refine LW.v rfl rfl (Val.assign rfl) ?_
  refine LW.nil ?_
  refine PQ.seq ?_
  refine CW.seq ?_
  refine CW.region ?_
  refine LW.v rfl rfl (Val.assign rfl) ?_
  refine LW.nil ?_
  refine PQ.seq ?_
  refine CW.seq ?_
  refine CW.seq ?_
  refine CW.region ?_
  refine LW.v rfl rfl (Val.assign rfl) ?_
  refine LW.nil ?_
  refine PQ.seq ?_
  refine CW.block ?_
  refine CW.perm (sg' := [ownG 44 [] none]) ?_ (.refl _)
  refine CW.loop (γ := Nat × V.OwnO) (fun k => [(0, ownV L.length o), (1, .string key), (5, ownV ((L.take k.1).filter (keepK key)).length k.2), (6, .int .i64 (k.1 : Nat))]) (fun k => [ownG 44 (((L.take k.1).filter (keepK key)).flatMap lkC) k.2]) (fun k => k.1 ≤ L.length ∧ lkOk k.2 ((L.take k.1).filter (keepK key))) (fun k => L.length - k.1) ((0, none)) ⟨Nat.zero_le _, lkOk_nil⟩ (by repeat (first | exact trivial | refine ⟨rfl, ?_⟩)) (by repeat (first | exact .nil | apply Pick.cons | exact .here | apply Ext.there)) ?_
  intro k
  rintro ⟨hkn, hk⟩
  have hfl : ((L.take k.1).filter (keepK key)).length ≤ 1000 := by have h1 := List.length_filter_le (keepK key) (L.take k.1); have h2 := List.length_take_le k.1 L; omega
  refine CW.seq ?_
  refine CW.seq ?_
  refine CW.region ?_
  refine LW.v rfl rfl (Val.move rfl) ?_
  refine LW.v rfl rfl (Val.move rfl) ?_
  refine LW.v rfl rfl (Val.lenOwn rfl Try.underlying41 hok) ?_
  refine LW.v rfl rfl (Val.cmp rfl rfl rfl) ?_
  refine LW.nil ?_
  refine PQ.seq ?_
  refine CW.cond rfl (fun h10 => ?_) (fun h10 => ?_)
  · replace h10 := bT h10
    obtain ⟨⟨g, rest, capl⟩, rfl⟩ := own_some hok (by omega)
    obtain ⟨x, hx⟩ : ∃ x, L[k.1]? = some x := ⟨L[k.1]'(by omega), by simp⟩
    obtain ⟨q1, hq1⟩ := lk_drop rest hx
    refine CW.skip ?_
    refine PQ.seq ?_
    refine CW.seq ?_
    refine CW.join (fun y : V.OwnO => lkOk y ((L.take (k.1 + 1)).filter (keepK key))) (fun y => [(0, ownV L.length (some (g, rest, capl))), (1, .string key), (5, ownV ((L.take (k.1 + 1)).filter (keepK key)).length y), (6, .int .i64 (k.1 : Nat))]) (fun y => [ownG 44 (((L.take (k.1 + 1)).filter (keepK key)).flatMap lkC) y]) ?_ ?_
    · refine CW.block ?_
      refine CW.seq ?_
      refine CW.region ?_
      refine LW.v rfl rfl (Val.move rfl) ?_
      refine LW.v rfl rfl (Val.move rfl) ?_
      first | (refine LW.v rfl rfl (Val.indexAddrN rfl rfl Try.underlying41 Try.sizeOf44 (by omega)) ?_) | (refine LW.v rfl rfl (Val.indexAddr rfl rfl Try.underlying41 Try.sizeOf44 (by omega) (by omega)) ?_)
      refine LW.v rfl rfl (Val.fieldAddr 0 rfl Try.underlying44 rfl rfl Try.sizeOf9) ?_
      refine LW.v rfl rfl (Val.loadO rfl Try.isAgg9 (hs.lt (k := g) (by simp [ownG, ownS, ids])) (by simp [ids]) (V.cell_of_block (hs.own (g, .cells (L.flatMap lkC ++ rest).toArray 44 (0, 0)) (by simp [ownG, ownS])) (cell_of_drop hq1 (j := 0) rfl))) ?_
      refine LW.v rfl rfl (Val.move rfl) ?_
      refine LW.v rfl rfl (Val.cmpS rfl rfl rfl) ?_
      refine LW.nil ?_
      refine PQ.seq ?_
      refine CW.cond rfl (fun h19 => ?_) (fun h19 => ?_)
      · replace h19 := bT h19
        refine CW.region ?_
        refine LW.v rfl rfl (Val.move rfl) ?_
        refine LW.v rfl rfl (Val.move rfl) ?_
        refine LW.v rfl rfl (Val.move rfl) ?_
        first | (refine LW.v rfl rfl (Val.indexAddrN rfl rfl Try.underlying41 Try.sizeOf44 (by omega)) ?_) | (refine LW.v rfl rfl (Val.indexAddr rfl rfl Try.underlying41 Try.sizeOf44 (by omega) (by omega)) ?_)
        refine LW.v rfl rfl (Val.loadOA (cs := lkC x) rfl Try.isAgg44 (hs.lt (k := g) (by simp [ownG, ownS, ids])) (by simp [ids]) (V.range_of_block (hs.own (g, .cells (L.flatMap lkC ++ rest).toArray 44 (0, 0)) (by simp [ownG, ownS])) hq1) (by exact Try.sizeOf44)) ?_
        refine LW.e rfl rfl (Eff.buildSlice (rfl) [_, _, _, _, _] Try.underlying41 Try.sizeOf44 (by exact Try.zeroValue44) rfl rfl rfl rfl (by rfl)) ?_
        intro b25 _
        refine LW.e rfl rfl (Eff.appendAny (lkC x) (sz := 5) (bytes := 48) (z := .agg #[.string ⟨#[]⟩, .int .u64 0, .int .u64 0, .int .i64 0, .int .i64 0]) (xs := ((L.take k.1).filter (keepK key)).flatMap lkC) (m0 := ((L.take k.1).filter (keepK key)).length) (o := k.2) (m := 1) (pk := [ownG 44 (((L.take k.1).filter (keepK key)).flatMap lkC) k.2]) rfl rfl Try.underlying41 (by kernel_rfl) rfl (by omega) (by repeat (first | exact .nil | apply Pick.cons | exact .here | apply Ext.there)) (by simp) hk rfl (fun hm0 => ⟨b25, 0, rfl, fun w hw => V.range_of_block (o := 0) (cs := lkC x) (r := []) (hw.own _ (show InS (b25, .cells (lkC x).toArray 44 (0, 0)) _ from (by repeat (first | exact .here | refine .there ?_))).mem) rfl⟩) rfl (by omega) (by omega)) ?_
        intro o2 ho2
        refine LW.v rfl rfl (Val.assign rfl) ?_
        refine LW.nil ?_
        refine PQ.in_normal ?_
        have ho3 : lkOk o2 ((L.take (k.1 + 1)).filter (keepK key)) := by rw [take_filter hx, if_pos (show keepK key x = true by simp [keepK, h19])]; exact lkOk_snoc ho2
        have e1 : ((L.take (k.1 + 1)).filter (keepK key)) = ((L.take k.1).filter (keepK key)) ++ [x] := by rw [take_filter hx, if_pos (show keepK key x = true by simp [keepK, h19])]
        have e2 : ((L.take (k.1 + 1)).filter (keepK key)).length = ((L.take k.1).filter (keepK key)).length + 1 := by rw [e1]; simp
        rw [← lk_snoc, ← e1, ← e2]
        refine PQ.joinedC (o2) (ho3) (by repeat (first | exact trivial | refine ⟨rfl, ?_⟩)) (by repeat (first | exact .nil | apply Pick.cons | exact .here | apply Ext.there))
      · replace h19 := bF h19
        refine CW.skip ?_
        refine PQ.in_normal ?_
        have e1 : ((L.take (k.1 + 1)).filter (keepK key)) = ((L.take k.1).filter (keepK key)) := by rw [take_filter hx, if_neg (show ¬ keepK key x = true by simp [keepK, h19])]; simp
        have ho3 : lkOk k.2 ((L.take (k.1 + 1)).filter (keepK key)) := by rw [e1]; exact hk
        rw [← e1]
        refine PQ.joinedC (k.2) (ho3) (by repeat (first | exact trivial | refine ⟨rfl, ?_⟩)) (by repeat (first | exact .nil | apply Pick.cons | exact .here | apply Ext.there))
    · intro y hy
      refine PQ.seq ?_
      refine CW.region ?_
      refine LW.v rfl rfl (Val.move rfl) ?_
      refine LW.v rfl rfl (Val.ar rfl rfl rfl (IntWalk.i64_in _ (by omega))) ?_
      refine LW.v rfl rfl (Val.assign rfl) ?_
      refine LW.nil ?_
      refine PQ.round ((k.1 + 1, y)) ⟨by simp only; omega, hy⟩ (by simp only; omega) (by repeat (first | exact trivial | refine ⟨rfl, ?_⟩)) (by repeat (first | exact .nil | apply Pick.cons | exact .here | apply Ext.there))
  · replace h10 := bF h10
    refine CW.exit ?_
    refine PQ.then_exit ?_
    refine PQ.then_exit ?_
    refine PQ.in_here ?_
    refine PQ.seq ?_
    refine CW.seq ?_
    refine CW.region ?_
    refine LW.v rfl rfl (Val.move rfl) ?_
    refine LW.v rfl rfl (Val.assign rfl) ?_
    refine LW.nil ?_
    refine PQ.seq ?_
    refine CW.ret ?_
    refine PQ.ret1 rfl rfl ?_
    intro w' hw
    have e1 : L.take k.1 = L := List.take_of_length_le (by omega)
    rw [e1] at hk hw ⊢
    exact ⟨k.2, hk, rfl, hw⟩
theorem allOk_del {f : ByteArray → Option Lk} {n : Nat} {L : List Lk} (hA : AllOk f n L) (hkf : ∀ q x, f q = some x → x.key = q) (key : ByteArray) : AllOk (fdel f key) (L.filter (keepK key)).length (L.filter (keepK key)) := by
  refine ⟨rfl, fun x hx => ?_, fun q x hq => ?_, hA.up.sublist List.filter_sublist⟩
  · obtain ⟨h1, h2⟩ := List.mem_filter.1 hx
    have h3 : x.key ≠ key := by simpa [keepK] using h2
    show (if x.key = key then none else f x.key) = _
    rw [if_neg h3]; exact hA.get x h1
  · have h1 : (if q = key then none else f q) = some x := hq
    split at h1
    · cases h1
    · rename_i h2
      exact List.mem_filter.2 ⟨hA.all q x h1, by simp [keepK, hkf q x h1, h2]⟩
theorem allOk_set {f : ByteArray → Option Lk} {n : Nat} {L out : List Lk} (hA : AllOk f n L) (hkf : ∀ q x, f q = some x → x.key = q) (x : Lk) (hm : ∀ y, y ∈ out ↔ y ∈ L.filter (keepK x.key) ∨ y = x) (hu : out.Pairwise fun a b => kL a < kL b) : AllOk (fset f x) out.length out := by
  refine ⟨rfl, fun y hy => ?_, fun q y hq => ?_, hu⟩
  · show (if y.key = x.key then some x else f y.key) = _
    rcases (hm y).1 hy with h | rfl
    · obtain ⟨h1, h2⟩ := List.mem_filter.1 h
      have h3 : y.key ≠ x.key := by simpa [keepK] using h2
      rw [if_neg h3]; exact hA.get y h1
    · rw [if_pos rfl]
  · have h1 : (if q = x.key then some x else f q) = some y := hq
    split at h1
    · cases h1; exact (hm _).2 (.inr rfl)
    · rename_i h2
      exact (hm y).2 (.inl (List.mem_filter.2 ⟨hA.all q y h1, by simp [keepK, hkf q y h1, h2]⟩))
theorem rdrop_c (rt : Nat) (o : V.OwnO) (L : List Lk) (hok : lkOk o L) {f : ByteArray → Option Lk} {n : Nat} (hA : AllOk f n L) (hkf : ∀ q x, f q = some x → x.key = q) (hn : n ≤ 1000) (key : ByteArray) (w : World) (hs : Sat (rtG rt o L) w) : Calls Try.prog 34 [.pointer (some ⟨rt, 0, none⟩), .string key].toArray w fun e w' => ∃ y : V.OwnO × List Lk, (lkOk y.1 y.2 ∧ AllOk (fdel f key) y.2.length y.2) ∧ e = .returned (.tuple #[lkV ((f key).getD lk0), .bool (f key).isSome]) ∧ Hp ⟨w, ids (rtG rt o L)⟩ (rtG rt y.1 y.2) w' := by
  have hLn := hA.len
  refine V.calls (rtG rt o L) Try.func34 rfl Try.ntmps34 (Nat.le_of_ble_eq_true rfl) hs ?_
  refine CW.seq ?_
  refine CW.region ?_
  refine LW.e rfl rfl (Eff.allocA (by exact Try.zeroValue44)) ?_
  intro b4 _
  refine LW.v rfl rfl (Val.assign rfl) ?_
  refine LW.nil ?_
  refine PQ.seq ?_
  refine CW.seq ?_
  refine CW.region ?_
  refine LW.v rfl rfl (Val.move rfl) ?_
  refine LW.v rfl rfl (Val.move rfl) ?_
  refine LW.e rfl rfl (Eff.callV rfl Try.call35 (fun w hw => rget_c rt o L hok hA hkf hn key w (hw.sat.pick (ss := rtG rt o L) (by repeat (first | exact .nil | apply Pick.cons | exact .here | apply Ext.there))))) ?_
  intro _ _
  refine LW.v rfl rfl (Val.move rfl) ?_
  refine LW.v rfl rfl (Val.extract rfl rfl) ?_
  refine LW.v rfl rfl (Val.extract rfl rfl) ?_
  refine LW.e rfl rfl (Eff.allocA (by exact Try.zeroValue44)) ?_
  intro b6 _
  first | (refine LW.eN rfl (Eff.storeW rfl rfl (by repeat (first | exact .here | apply Upd.there)) (by rfl) Try.sizeOf44 (by rfl)) ?_) | (refine LW.eN rfl (Eff.storeA (l' := _) rfl rfl (by repeat (first | exact .here | apply Upd.there)) (by rfl) (by decide) Try.sizeOf44 (by rfl)) ?_)
  intro _ _
  refine LW.v rfl rfl (Val.assign rfl) ?_
  refine LW.nil ?_
  refine PQ.seq ?_
  refine CW.seq ?_
  refine CW.region ?_
  refine LW.v rfl rfl (Val.move rfl) ?_
  refine LW.v rfl rfl (Val.move rfl) ?_
  refine LW.v rfl rfl (Val.nilCheck rfl) ?_
  refine LW.v rfl rfl (Val.fieldAddr 0 rfl Try.underlying58 rfl rfl Try.sizeOf41) ?_
  refine LW.v rfl rfl (Val.load rfl Try.isAgg41 (by repeat (first | exact .here | refine .there ?_)) (by rfl)) ?_
  refine LW.v rfl rfl (Val.move rfl) ?_
  refine LW.e rfl rfl (Eff.callM ([]) (by repeat (first | exact .nil | apply Pick.cons | exact .here | apply Ext.there)) rfl Try.call59 (fun w hw hs0 => without_c o L hok (by omega) key w (hw.sat.pick (ss := [ownG 44 (L.flatMap lkC) o]) (by repeat (first | exact .nil | apply Pick.cons | exact .here | apply Ext.there))))) ?_
  intro o2 ho2
  refine LW.v rfl rfl (Val.nilCheck rfl) ?_
  refine LW.v rfl rfl (Val.fieldAddr 0 rfl Try.underlying58 rfl rfl Try.sizeOf41) ?_
  refine LW.eN rfl (Eff.store rfl rfl (V.ownV_one _ _) (by repeat (first | exact .here | apply Upd.there)) rfl rfl Try.sizeOf41) ?_
  intro _ _
  refine LW.nil ?_
  refine PQ.seq ?_
  refine CW.seq ?_
  refine CW.region ?_
  first | (refine LW.v rfl rfl (Val.loadW rfl Try.isAgg44 (by repeat (first | exact .here | refine .there ?_)) (by exact Try.sizeOf44)) ?_) | (refine LW.v rfl rfl (Val.loadA [_, _, _, _, _] rfl Try.isAgg44 (by repeat (first | exact .here | refine .there ?_)) (by rfl) Try.sizeOf44) ?_)
  refine LW.v rfl rfl (Val.move rfl) ?_
  first | (refine LW.eN rfl (Eff.storeW rfl rfl (by repeat (first | exact .here | apply Upd.there)) (by rfl) Try.sizeOf44 (by rfl)) ?_) | (refine LW.eN rfl (Eff.storeA (l' := _) rfl rfl (by repeat (first | exact .here | apply Upd.there)) (by rfl) (by decide) Try.sizeOf44 (by rfl)) ?_)
  intro _ _
  refine LW.v rfl rfl (Val.assign rfl) ?_
  refine LW.nil ?_
  refine PQ.seq ?_
  refine CW.ret ?_
  refine PQ.retCT rfl rfl rfl (by repeat (first | exact .here | refine .there ?_)) Try.isAgg44 (by exact Try.sizeOf44) ?_
  intro w' hw; exact ⟨(o2, L.filter (keepK key)), ⟨ho2, allOk_del hA hkf key⟩, rfl, hw.pick (by repeat (first | exact .nil | apply Pick.cons | exact .here | apply Ext.there))⟩
/-- The insertion under way: i links gone through, x among them or not. -/
structure IJ (L : List Lk) (x : Lk) (i : Nat) (inn : Bool) (out : List Lk) : Prop where
  up : out.Pairwise fun a b => kL a < kL b
  mem : ∀ y, y ∈ out ↔ y ∈ L.take i ∨ (inn = true ∧ y = x)
  no : inn = false → ∀ y ∈ L.take i, kL y < kL x
  yes : inn = true → ∀ (j : Nat) (y : Lk), i ≤ j → L[j]? = some y → kL x < kL y
  len : out.length ≤ i + 1
theorem IJ.nil (L : List Lk) (x : Lk) : IJ L x 0 false [] := ⟨.nil, by simp, by simp, (fun h => by cases h), by simp⟩
theorem mem_take_succ {L : List Lk} {i : Nat} {y : Lk} (h : L[i]? = some y) (z : Lk) : z ∈ L.take (i + 1) ↔ z ∈ L.take i ∨ z = y := by
  have hlt := (List.getElem?_eq_some_iff.1 h).1
  rw [List.take_succ_eq_append_getElem hlt]
  have := List.getElem?_eq_getElem hlt
  rw [h] at this
  rw [← Option.some.inj this]; simp
theorem take_lt {L : List Lk} (hu : L.Pairwise fun a b => kL a < kL b) {i : Nat} {y : Lk} (h : L[i]? = some y) : ∀ z ∈ L.take i, kL z < kL y := fun z hz => by
  obtain ⟨j, hj⟩ := List.mem_iff_getElem?.1 hz
  have hji : j < i := by have := (List.getElem?_eq_some_iff.1 hj).1; simp at this; omega
  rw [List.getElem?_take_of_lt hji] at hj
  have h1 := List.pairwise_iff_getElem.1 hu j i (List.getElem?_eq_some_iff.1 hj).1 (List.getElem?_eq_some_iff.1 h).1 hji
  rwa [(List.getElem?_eq_some_iff.1 hj).2, (List.getElem?_eq_some_iff.1 h).2] at h1
theorem IJ.plain {L : List Lk} {x : Lk} {i : Nat} {inn : Bool} {out : List Lk} (h : IJ L x i inn out) (hu : L.Pairwise fun a b => kL a < kL b) {y : Lk} (hy : L[i]? = some y) (hn : inn = false → kL y < kL x) : IJ L x (i + 1) inn (out ++ [y]) := by
  have hlast : ∀ z ∈ out, kL z < kL y := fun z hz => by
    rcases (h.mem z).1 hz with h1 | ⟨h1, rfl⟩
    · exact take_lt hu hy z h1
    · exact h.yes h1 i y (Nat.le_refl _) hy
  refine ⟨List.pairwise_append.2 ⟨h.up, by simp, fun a ha b hb => by simp at hb; subst hb; exact hlast a ha⟩, fun z => ?_, fun h1 z hz => ?_, fun h1 j z hj hz => h.yes h1 j z (by omega) hz, by have := h.len; simp; omega⟩
  · rw [List.mem_append, h.mem, mem_take_succ hy, List.mem_singleton]
    constructor
    · rintro ((h1 | h1) | h1)
      · exact .inl (.inl h1)
      · exact .inr h1
      · exact .inl (.inr h1)
    · rintro ((h1 | h1) | h1)
      · exact .inl (.inl h1)
      · exact .inr h1
      · exact .inl (.inr h1)
  · rcases (mem_take_succ hy z).1 hz with h2 | rfl
    · exact h.no h1 z h2
    · exact hn h1
theorem IJ.ins {L : List Lk} {x : Lk} {i : Nat} {out : List Lk} (h : IJ L x i false out) (hu : L.Pairwise fun a b => kL a < kL b) {y : Lk} (hy : L[i]? = some y) (hxy : kL x < kL y) : IJ L x (i + 1) true ((out ++ [x]) ++ [y]) := by
  have h0 : IJ L x i true (out ++ [x]) ∨ True := .inr trivial
  have hx : ∀ z ∈ out, kL z < kL x := fun z hz => by
    rcases (h.mem z).1 hz with h1 | ⟨h1, _⟩
    · exact h.no rfl z h1
    · cases h1
  have hl : ∀ z ∈ out, kL z < kL y := fun z hz => List.lt_trans (hx z hz) hxy
  refine ⟨?_, fun z => ?_, (fun h1 => by cases h1), fun _ j z hj hz => ?_, by
    have h1 : out.length ≤ i := by
      have h2 := h.len
      have h3 : out.length ≤ (L.take i).length := V.len_le_of_nodup ((List.pairwise_map.1 (up_nodup h.up)).imp fun {a b} hab e => hab (by rw [e])) (fun z hz => by
        rcases (h.mem z).1 hz with h4 | ⟨h4, _⟩
        · exact h4
        · cases h4)
      have h4 := List.length_take_le i L; omega
    simp; omega⟩
  · refine List.pairwise_append.2 ⟨List.pairwise_append.2 ⟨h.up, by simp, fun a ha b hb => by simp at hb; subst hb; exact hx a ha⟩, by simp, fun a ha b hb => ?_⟩
    simp at hb; subst hb
    rcases List.mem_append.1 ha with h1 | h1
    · exact hl a h1
    · simp at h1; subst h1; exact hxy
  · rw [List.mem_append, List.mem_append, h.mem, mem_take_succ hy, List.mem_singleton, List.mem_singleton]
    constructor
    · rintro (((h1 | ⟨h1, _⟩) | h1) | h1)
      · exact .inl (.inl h1)
      · cases h1
      · exact .inr ⟨rfl, h1⟩
      · exact .inl (.inr h1)
    · rintro ((h1 | h1) | ⟨_, h1⟩)
      · exact .inl (.inl (.inl h1))
      · exact .inr h1
      · exact .inl (.inr h1)
  · have h2 : i < j ∨ i = j := by omega
    rcases h2 with h2 | rfl
    · have h3 := List.pairwise_iff_getElem.1 hu i j (List.getElem?_eq_some_iff.1 hy).1 (List.getElem?_eq_some_iff.1 hz).1 h2
      rw [(List.getElem?_eq_some_iff.1 hy).2, (List.getElem?_eq_some_iff.1 hz).2] at h3
      exact List.lt_trans hxy h3
    · rw [hy] at hz; cases hz; exact hxy
theorem not_gt_lt {x y : Lk} (h : ¬ bL x.key < bL y.key) (hne : y.key ≠ x.key) : kL y < kL x := by
  rcases Classical.em (kL y < kL x) with h1 | h1
  · exact h1
  · exact absurd (kL_inj (List.le_antisymm (List.not_lt.1 h) (List.not_lt.1 h1))) hne
theorem rset_c (rt : Nat) (o : V.OwnO) (L : List Lk) (hok : lkOk o L) {f : ByteArray → Option Lk} {n : Nat} (hA : AllOk f n L) (hkf : ∀ q x, f q = some x → x.key = q) (hn : n ≤ 1000) (x : Lk) (w : World) (hs : Sat (rtG rt o L) w) : Calls Try.prog 32 [.pointer (some ⟨rt, 0, none⟩), .agg (lkC x).toArray].toArray w fun e w' => ∃ y : V.OwnO × List Lk, (lkOk y.1 y.2 ∧ AllOk (fset f x) y.2.length y.2) ∧ e = .returned (.bool (f x.key).isSome) ∧ Hp ⟨w, ids (rtG rt o L)⟩ (rtG rt y.1 y.2) w' := by
  have hLn := hA.len
  obtain ⟨L1, hL1⟩ : ∃ L1, L1 = L.filter (keepK x.key) := ⟨_, rfl⟩
  have hu1 : L1.Pairwise fun a b => kL a < kL b := by rw [hL1]; exact (allOk_del hA hkf x.key).up
  have hne1 : ∀ y ∈ L1, y.key ≠ x.key := fun y hy => by rw [hL1] at hy; have := (List.mem_filter.1 hy).2; simpa [keepK] using this
  have hl1 : L1.length ≤ 1000 := by rw [hL1]; have := List.length_filter_le (keepK x.key) L; omega
  refine V.calls (rtG rt o L) Try.func32 rfl Try.ntmps32 (Nat.le_of_ble_eq_true rfl) hs ?_
  refine CW.seq ?_
  refine CW.region ?_
  refine LW.e rfl rfl (Eff.boxA rfl) ?_
  intro b3 _
  refine LW.v rfl rfl (Val.assign rfl) ?_
  refine LW.nil ?_
  refine PQ.seq ?_
  refine CW.seq ?_
  refine CW.region ?_
  refine LW.v rfl rfl (Val.move rfl) ?_
  refine LW.v rfl rfl (Val.fieldAddr 0 rfl Try.underlying44 rfl rfl Try.sizeOf9) ?_
  refine LW.v rfl rfl (Val.load rfl Try.isAgg9 (by repeat (first | exact .here | refine .there ?_)) (by rfl)) ?_
  refine LW.e rfl rfl (Eff.callV rfl Try.call35 (fun w hw => rget_c rt o L hok hA hkf hn x.key w (hw.sat.pick (ss := rtG rt o L) (by repeat (first | exact .nil | apply Pick.cons | exact .here | apply Ext.there))))) ?_
  intro _ _
  refine LW.v rfl rfl (Val.move rfl) ?_
  refine LW.v rfl rfl (Val.extract rfl rfl) ?_
  refine LW.v rfl rfl (Val.extract rfl rfl) ?_
  refine LW.e rfl rfl (Eff.allocA (by exact Try.zeroValue44)) ?_
  intro b5 _
  first | (refine LW.eN rfl (Eff.storeW rfl rfl (by repeat (first | exact .here | apply Upd.there)) (by rfl) Try.sizeOf44 (by rfl)) ?_) | (refine LW.eN rfl (Eff.storeA (l' := _) rfl rfl (by repeat (first | exact .here | apply Upd.there)) (by rfl) (by decide) Try.sizeOf44 (by rfl)) ?_)
  intro _ _
  refine LW.v rfl rfl (Val.assign rfl) ?_
  refine LW.nil ?_
  refine PQ.seq ?_
  refine CW.seq ?_
  refine CW.region ?_
  refine LW.v rfl rfl (Val.assign rfl) ?_
  refine LW.nil ?_
  refine PQ.seq ?_
  refine CW.seq ?_
  refine CW.region ?_
  refine LW.v rfl rfl (Val.assign rfl) ?_
  refine LW.nil ?_
  refine PQ.seq ?_
  refine CW.seq ?_
  refine CW.drawn ([[(b3, .cells (lkC x).toArray 44 (0, 0))]] ++ rtG rt o L) mixedT (by repeat (first | exact .nil | apply Pick.cons | exact .here | apply Ext.there)) ?_
  refine RW.v 0 rfl (by kernel_rfl) (by kernel_rfl) (by kernel_rfl) (fun _ _ _ h => h) rfl rfl (Val.move rfl) ?_
  refine RW.v 1 rfl (by kernel_rfl) (by kernel_rfl) (by kernel_rfl) (fun _ _ _ h => h) rfl rfl (Val.nilCheck rfl) ?_
  refine RW.v 2 rfl (by kernel_rfl) (by kernel_rfl) (by kernel_rfl) (fun _ _ _ h => h) rfl rfl (Val.fieldAddr 0 rfl Try.underlying58 rfl rfl Try.sizeOf41) ?_
  refine RW.v 3 rfl (by kernel_rfl) (by kernel_rfl) (by kernel_rfl) (fun _ _ _ h => h) rfl rfl (Val.load rfl Try.isAgg41 (by repeat (first | exact .here | refine .there ?_)) (by rfl)) ?_
  refine RW.v 4 rfl (by kernel_rfl) (by kernel_rfl) (by kernel_rfl) (fun _ _ _ h => h) rfl rfl (Val.fieldAddr 0 rfl Try.underlying44 rfl rfl Try.sizeOf9) ?_
  refine RW.v 5 rfl (by kernel_rfl) (by kernel_rfl) (by kernel_rfl) (fun _ _ _ h => h) rfl rfl (Val.load rfl Try.isAgg9 (by repeat (first | exact .here | refine .there ?_)) (by rfl)) ?_
  refine RW.e 6 rfl (by kernel_rfl) rfl rfl (Eff.callM ([]) (by repeat (first | exact .nil | apply Pick.cons | exact .here | apply Ext.there)) rfl Try.call59 (fun w hw hs0 => without_c o L hok (by omega) x.key w (hw.sat.pick (ss := [ownG 44 (L.flatMap lkC) o]) (by repeat (first | exact .nil | apply Pick.cons | exact .here | apply Ext.there))))) (fun x => ⟨_, (by repeat (first | exact .nil | apply Pick.cons | exact .here | apply Ext.there))⟩) ?_
  rw [← hL1]
  intro o1 ho1
  refine RW.v 7 rfl (by kernel_rfl) (by kernel_rfl) (by kernel_rfl) (fun _ _ _ h => h) rfl rfl (Val.assign rfl) ?_
  refine RW.done (by kernel_rfl) ?_
  refine PQ.seq ?_
  refine CW.seq ?_
  refine CW.seq ?_
  refine CW.region ?_
  refine LW.v rfl rfl (Val.assign rfl) ?_
  refine LW.nil ?_
  refine PQ.seq ?_
  refine CW.block ?_
  refine V.CW.addOwn 44 ?_
  refine CW.loop (γ := Nat × Bool × V.OwnO × List Lk) (fun k => [(0, .pointer (some ⟨rt, 0, none⟩)), (3, .pointer (some ⟨b3, 0, none⟩)), (6, .bool (f x.key).isSome), (7, ownV k.2.2.2.length k.2.2.1), (8, .bool k.2.1), (9, ownV L1.length o1), (10, .int .i64 (k.1 : Nat))]) (fun k => [[(b3, .cells (lkC x).toArray 44 (0, 0))]] ++ rtG rt o L ++ [ownG 44 (L1.flatMap lkC) o1] ++ [ownG 44 (k.2.2.2.flatMap lkC) k.2.2.1]) (fun k => k.1 ≤ L1.length ∧ IJ L1 x k.1 k.2.1 k.2.2.2 ∧ lkOk k.2.2.1 k.2.2.2) (fun k => L1.length - k.1) ((0, false, none, [])) ⟨Nat.zero_le _, IJ.nil _ _, lkOk_nil⟩ (by repeat (first | exact trivial | refine ⟨rfl, ?_⟩)) (by repeat (first | exact .nil | apply Pick.cons | exact .here | apply Ext.there)) ?_
  intro k
  rintro ⟨hkn, hI, hk3⟩
  have hIl := hI.len
  refine CW.seq ?_
  refine CW.seq ?_
  refine CW.region ?_
  refine LW.v rfl rfl (Val.move rfl) ?_
  refine LW.v rfl rfl (Val.move rfl) ?_
  refine LW.v rfl rfl (Val.lenOwn rfl Try.underlying41 ho1) ?_
  refine LW.v rfl rfl (Val.cmp rfl rfl rfl) ?_
  refine LW.nil ?_
  refine PQ.seq ?_
  refine CW.cond rfl (fun h28 => ?_) (fun h28 => ?_)
  · replace h28 := bT h28
    obtain ⟨⟨g, rest, capl⟩, rfl⟩ := own_some ho1 (by omega)
    obtain ⟨y, hy⟩ : ∃ y, L1[k.1]? = some y := ⟨L1[k.1]'(by omega), by simp⟩
    obtain ⟨q1, hq1⟩ := lk_drop rest hy
    refine CW.skip ?_
    refine PQ.seq ?_
    refine CW.seq ?_
    refine CW.block ?_
    refine CW.seq ?_
    refine CW.seq ?_
    refine CW.quiet mixedT (by kernel_rfl) ?_
    refine QW.v rfl rfl (Val.move rfl) ?_
    refine QW.v rfl rfl (Val.not rfl) ?_
    refine QW.v rfl rfl (Val.move rfl) ?_
    refine QW.split (d := 33) rfl (fun h33 => ?_) (fun h33 => ?_)
    · replace h33 := bT h33
      refine QW.v rfl rfl (Val.move rfl) ?_
      refine QW.v rfl rfl (Val.move rfl) ?_
      first | (refine QW.v rfl rfl (Val.indexAddrN rfl rfl Try.underlying41 Try.sizeOf44 (by omega)) ?_) | (refine QW.v rfl rfl (Val.indexAddr rfl rfl Try.underlying41 Try.sizeOf44 (by omega) (by omega)) ?_)
      refine QW.v rfl rfl (Val.fieldAddr 0 rfl Try.underlying44 rfl rfl Try.sizeOf9) ?_
      refine QW.v rfl rfl (Val.load (v := .string y.key) rfl Try.isAgg9 (show InS (g, .cells (L1.flatMap lkC ++ rest).toArray 44 (0, 0)) _ from (by repeat (first | exact .here | refine .there ?_))) (cell_of_drop hq1 (j := 0) rfl)) ?_
      refine QW.v rfl rfl (Val.fieldAddr 0 rfl Try.underlying44 rfl rfl Try.sizeOf9) ?_
      refine QW.v rfl rfl (Val.load (l := lkC x) (v := .string x.key) rfl Try.isAgg9 (by repeat (first | exact .here | refine .there ?_)) rfl) ?_
      refine QW.v rfl rfl (Val.cmpS rfl rfl rfl) ?_
      refine QW.re 41 (.bool (decide (bL x.key < bL y.key))) rfl (congrArg Value.bool (gtr_dec2 _ _)) ?_
      refine QW.v rfl rfl (Val.pick_t rfl rfl) ?_
      refine QW.nil ?_
      refine PQ.seq ?_
      refine CW.cond rfl (fun h42 => ?_) (fun h42 => ?_)
      · replace h42 := bT h42
        refine CW.seq ?_
        refine CW.region ?_
        refine LW.v rfl rfl (Val.move rfl) ?_
        refine LW.v rfl rfl (Val.loadW (l := lkC x) rfl Try.isAgg44 (by repeat (first | exact .here | refine .there ?_)) (by exact Try.sizeOf44)) ?_
        refine LW.e rfl rfl (Eff.buildSlice (rfl) [_, _, _, _, _] Try.underlying41 Try.sizeOf44 (by exact Try.zeroValue44) rfl rfl rfl rfl (by rfl)) ?_
        intro b45 _
        refine LW.e rfl rfl (Eff.appendAny (lkC x) (sz := 5) (bytes := 48) (z := .agg #[.string ⟨#[]⟩, .int .u64 0, .int .u64 0, .int .i64 0, .int .i64 0]) (xs := k.2.2.2.flatMap lkC) (m0 := k.2.2.2.length) (o := k.2.2.1) (m := 1) (pk := [ownG 44 (k.2.2.2.flatMap lkC) k.2.2.1]) rfl rfl Try.underlying41 (by kernel_rfl) rfl (by omega) (by repeat (first | exact .nil | apply Pick.cons | exact .here | apply Ext.there)) (by simp) hk3 rfl (fun hm0 => ⟨b45, 0, rfl, fun w hw => V.range_of_block (o := 0) (cs := lkC x) (r := []) (hw.own _ (show InS (b45, .cells (lkC x).toArray 44 (0, 0)) _ from (by repeat (first | exact .here | refine .there ?_))).mem) rfl⟩) rfl (by omega) (by omega)) ?_
        intro o2 ho2
        refine LW.v rfl rfl (Val.assign rfl) ?_
        refine LW.nil ?_
        refine PQ.seq ?_
        refine CW.region ?_
        refine LW.v rfl rfl (Val.assign rfl) ?_
        refine LW.nil ?_
        refine PQ.seq ?_
        refine CW.region ?_
        refine LW.v rfl rfl (Val.move rfl) ?_
        refine LW.v rfl rfl (Val.move rfl) ?_
        refine LW.v rfl rfl (Val.move rfl) ?_
        first | (refine LW.v rfl rfl (Val.indexAddrN rfl rfl Try.underlying41 Try.sizeOf44 (by omega)) ?_) | (refine LW.v rfl rfl (Val.indexAddr rfl rfl Try.underlying41 Try.sizeOf44 (by omega) (by omega)) ?_)
        refine LW.v rfl rfl (Val.loadA (cs := lkC y) rfl Try.isAgg44 (show InS (g, .cells (L1.flatMap lkC ++ rest).toArray 44 (0, 0)) _ from (by repeat (first | exact .here | refine .there ?_))) hq1 (by exact Try.sizeOf44)) ?_
        refine LW.e rfl rfl (Eff.buildSlice (rfl) [_, _, _, _, _] Try.underlying41 Try.sizeOf44 (by exact Try.zeroValue44) rfl rfl rfl rfl (by rfl)) ?_
        intro b52 _
        refine LW.e rfl rfl (Eff.appendAny (lkC y) (sz := 5) (bytes := 48) (z := .agg #[.string ⟨#[]⟩, .int .u64 0, .int .u64 0, .int .i64 0, .int .i64 0]) (xs := k.2.2.2.flatMap lkC ++ lkC x) (m0 := k.2.2.2.length + 1) (o := o2) (m := 1) (pk := [ownG 44 (k.2.2.2.flatMap lkC ++ lkC x) o2]) rfl rfl Try.underlying41 (by kernel_rfl) rfl (by omega) (by repeat (first | exact .nil | apply Pick.cons | exact .here | apply Ext.there)) (by simp) ho2 rfl (fun hm0 => ⟨b52, 0, rfl, fun w hw => V.range_of_block (o := 0) (cs := lkC y) (r := []) (hw.own _ (show InS (b52, .cells (lkC y).toArray 44 (0, 0)) _ from (by repeat (first | exact .here | refine .there ?_))).mem) rfl⟩) rfl (by omega) (by omega)) ?_
        intro o3 ho3
        refine LW.v rfl rfl (Val.assign rfl) ?_
        refine LW.nil ?_
        refine PQ.in_normal ?_
        refine PQ.seq ?_
        refine CW.region ?_
        refine LW.v rfl rfl (Val.move rfl) ?_
        refine LW.v rfl rfl (Val.ar rfl rfl rfl (IntWalk.i64_in _ (by omega))) ?_
        refine LW.v rfl rfl (Val.assign rfl) ?_
        refine LW.nil ?_
        have hinn : k.2.1 = false := by simpa using h33
        have e1 : ((k.2.2.2 ++ [x]) ++ [y]).flatMap lkC = k.2.2.2.flatMap lkC ++ lkC x ++ lkC y := by simp
        have e2 : ((k.2.2.2 ++ [x]) ++ [y]).length = k.2.2.2.length + 1 + 1 := by simp
        rw [← e1, ← e2]
        refine PQ.round ((k.1 + 1, true, o3, (k.2.2.2 ++ [x]) ++ [y])) ⟨by simp only; omega, (by have hI2 := hI; rw [hinn] at hI2; exact hI2.ins hu1 hy h42), lkOk_snoc (L := k.2.2.2 ++ [x]) (by rw [lk_snoc, List.length_append, List.length_singleton]; exact ho3)⟩ (by simp only; omega) (by repeat (first | exact trivial | refine ⟨rfl, ?_⟩)) (by repeat (first | exact .nil | apply Pick.cons | exact .here | apply Ext.there))
      · replace h42 := bF h42
        refine CW.skip ?_
        refine PQ.seq ?_
        refine CW.region ?_
        refine LW.v rfl rfl (Val.move rfl) ?_
        refine LW.v rfl rfl (Val.move rfl) ?_
        refine LW.v rfl rfl (Val.move rfl) ?_
        first | (refine LW.v rfl rfl (Val.indexAddrN rfl rfl Try.underlying41 Try.sizeOf44 (by omega)) ?_) | (refine LW.v rfl rfl (Val.indexAddr rfl rfl Try.underlying41 Try.sizeOf44 (by omega) (by omega)) ?_)
        refine LW.v rfl rfl (Val.loadA (cs := lkC y) rfl Try.isAgg44 (show InS (g, .cells (L1.flatMap lkC ++ rest).toArray 44 (0, 0)) _ from (by repeat (first | exact .here | refine .there ?_))) hq1 (by exact Try.sizeOf44)) ?_
        refine LW.e rfl rfl (Eff.buildSlice (rfl) [_, _, _, _, _] Try.underlying41 Try.sizeOf44 (by exact Try.zeroValue44) rfl rfl rfl rfl (by rfl)) ?_
        intro b52 _
        refine LW.e rfl rfl (Eff.appendAny (lkC y) (sz := 5) (bytes := 48) (z := .agg #[.string ⟨#[]⟩, .int .u64 0, .int .u64 0, .int .i64 0, .int .i64 0]) (xs := k.2.2.2.flatMap lkC) (m0 := k.2.2.2.length) (o := k.2.2.1) (m := 1) (pk := [ownG 44 (k.2.2.2.flatMap lkC) k.2.2.1]) rfl rfl Try.underlying41 (by kernel_rfl) rfl (by omega) (by repeat (first | exact .nil | apply Pick.cons | exact .here | apply Ext.there)) (by simp) hk3 rfl (fun hm0 => ⟨b52, 0, rfl, fun w hw => V.range_of_block (o := 0) (cs := lkC y) (r := []) (hw.own _ (show InS (b52, .cells (lkC y).toArray 44 (0, 0)) _ from (by repeat (first | exact .here | refine .there ?_))).mem) rfl⟩) rfl (by omega) (by omega)) ?_
        intro o2 ho2
        refine LW.v rfl rfl (Val.assign rfl) ?_
        refine LW.nil ?_
        refine PQ.in_normal ?_
        refine PQ.seq ?_
        refine CW.region ?_
        refine LW.v rfl rfl (Val.move rfl) ?_
        refine LW.v rfl rfl (Val.ar rfl rfl rfl (IntWalk.i64_in _ (by omega))) ?_
        refine LW.v rfl rfl (Val.assign rfl) ?_
        refine LW.nil ?_
        have e2 : (k.2.2.2 ++ [y]).length = k.2.2.2.length + 1 := by simp
        rw [← lk_snoc, ← e2]
        refine PQ.round ((k.1 + 1, k.2.1, o2, k.2.2.2 ++ [y])) ⟨by simp only; omega, hI.plain hu1 hy (fun _ => not_gt_lt h42 (hne1 y (List.mem_of_getElem? hy))), lkOk_snoc ho2⟩ (by simp only; omega) (by repeat (first | exact trivial | refine ⟨rfl, ?_⟩)) (by repeat (first | exact .nil | apply Pick.cons | exact .here | apply Ext.there))
    · replace h33 := bF h33
      refine QW.p rfl rfl ?_
      refine QW.p rfl rfl ?_
      refine QW.p rfl rfl ?_
      refine QW.p rfl rfl ?_
      refine QW.p rfl rfl ?_
      refine QW.p rfl rfl ?_
      refine QW.p rfl rfl ?_
      refine QW.p rfl rfl ?_
      refine QW.v rfl rfl (Val.pick_f rfl rfl) ?_
      refine QW.nil ?_
      refine PQ.seq ?_
      refine CW.cond_f rfl ?_
      refine CW.skip ?_
      refine PQ.seq ?_
      refine CW.region ?_
      refine LW.v rfl rfl (Val.move rfl) ?_
      refine LW.v rfl rfl (Val.move rfl) ?_
      refine LW.v rfl rfl (Val.move rfl) ?_
      first | (refine LW.v rfl rfl (Val.indexAddrN rfl rfl Try.underlying41 Try.sizeOf44 (by omega)) ?_) | (refine LW.v rfl rfl (Val.indexAddr rfl rfl Try.underlying41 Try.sizeOf44 (by omega) (by omega)) ?_)
      refine LW.v rfl rfl (Val.loadA (cs := lkC y) rfl Try.isAgg44 (show InS (g, .cells (L1.flatMap lkC ++ rest).toArray 44 (0, 0)) _ from (by repeat (first | exact .here | refine .there ?_))) hq1 (by exact Try.sizeOf44)) ?_
      refine LW.e rfl rfl (Eff.buildSlice (rfl) [_, _, _, _, _] Try.underlying41 Try.sizeOf44 (by exact Try.zeroValue44) rfl rfl rfl rfl (by rfl)) ?_
      intro b52 _
      refine LW.e rfl rfl (Eff.appendAny (lkC y) (sz := 5) (bytes := 48) (z := .agg #[.string ⟨#[]⟩, .int .u64 0, .int .u64 0, .int .i64 0, .int .i64 0]) (xs := k.2.2.2.flatMap lkC) (m0 := k.2.2.2.length) (o := k.2.2.1) (m := 1) (pk := [ownG 44 (k.2.2.2.flatMap lkC) k.2.2.1]) rfl rfl Try.underlying41 (by kernel_rfl) rfl (by omega) (by repeat (first | exact .nil | apply Pick.cons | exact .here | apply Ext.there)) (by simp) hk3 rfl (fun hm0 => ⟨b52, 0, rfl, fun w hw => V.range_of_block (o := 0) (cs := lkC y) (r := []) (hw.own _ (show InS (b52, .cells (lkC y).toArray 44 (0, 0)) _ from (by repeat (first | exact .here | refine .there ?_))).mem) rfl⟩) rfl (by omega) (by omega)) ?_
      intro o2 ho2
      refine LW.v rfl rfl (Val.assign rfl) ?_
      refine LW.nil ?_
      refine PQ.in_normal ?_
      refine PQ.seq ?_
      refine CW.region ?_
      refine LW.v rfl rfl (Val.move rfl) ?_
      refine LW.v rfl rfl (Val.ar rfl rfl rfl (IntWalk.i64_in _ (by omega))) ?_
      refine LW.v rfl rfl (Val.assign rfl) ?_
      refine LW.nil ?_
      have e2 : (k.2.2.2 ++ [y]).length = k.2.2.2.length + 1 := by simp
      rw [← lk_snoc, ← e2]
      refine PQ.round ((k.1 + 1, k.2.1, o2, k.2.2.2 ++ [y])) ⟨by simp only; omega, hI.plain hu1 hy (fun h9 => by rw [h9] at h33; cases h33), lkOk_snoc ho2⟩ (by simp only; omega) (by repeat (first | exact trivial | refine ⟨rfl, ?_⟩)) (by repeat (first | exact .nil | apply Pick.cons | exact .here | apply Ext.there))
  · replace h28 := bF h28
    refine CW.exit ?_
    refine PQ.then_exit ?_
    refine PQ.then_exit ?_
    refine PQ.in_here ?_
    refine PQ.seq ?_
    refine CW.seq ?_
    refine CW.seq ?_
    refine CW.region ?_
    refine LW.v rfl rfl (Val.move rfl) ?_
    refine LW.v rfl rfl (Val.not rfl) ?_
    refine LW.nil ?_
    refine PQ.seq ?_
    refine CW.cond rfl (fun h55 => ?_) (fun h55 => ?_)
    · replace h55 := bT h55
      refine CW.region ?_
      refine LW.v rfl rfl (Val.move rfl) ?_
      refine LW.v rfl rfl (Val.loadW (l := lkC x) rfl Try.isAgg44 (by repeat (first | exact .here | refine .there ?_)) (by exact Try.sizeOf44)) ?_
      refine LW.e rfl rfl (Eff.buildSlice (rfl) [_, _, _, _, _] Try.underlying41 Try.sizeOf44 (by exact Try.zeroValue44) rfl rfl rfl rfl (by rfl)) ?_
      intro b58 _
      refine LW.e rfl rfl (Eff.appendAny (lkC x) (sz := 5) (bytes := 48) (z := .agg #[.string ⟨#[]⟩, .int .u64 0, .int .u64 0, .int .i64 0, .int .i64 0]) (xs := k.2.2.2.flatMap lkC) (m0 := k.2.2.2.length) (o := k.2.2.1) (m := 1) (pk := [ownG 44 (k.2.2.2.flatMap lkC) k.2.2.1]) rfl rfl Try.underlying41 (by kernel_rfl) rfl (by omega) (by repeat (first | exact .nil | apply Pick.cons | exact .here | apply Ext.there)) (by simp) hk3 rfl (fun hm0 => ⟨b58, 0, rfl, fun w hw => V.range_of_block (o := 0) (cs := lkC x) (r := []) (hw.own _ (show InS (b58, .cells (lkC x).toArray 44 (0, 0)) _ from (by repeat (first | exact .here | refine .there ?_))).mem) rfl⟩) rfl (by omega) (by omega)) ?_
      intro o2 ho2
      refine LW.v rfl rfl (Val.assign rfl) ?_
      refine LW.nil ?_
      refine PQ.seq ?_
      refine CW.seq ?_
      refine CW.region ?_
      refine LW.v rfl rfl (Val.move rfl) ?_
      refine LW.v rfl rfl (Val.move rfl) ?_
      refine LW.v rfl rfl (Val.nilCheck rfl) ?_
      refine LW.v rfl rfl (Val.fieldAddr 0 rfl Try.underlying58 rfl rfl Try.sizeOf41) ?_
      refine LW.eN rfl (Eff.store rfl rfl (V.ownV_one _ _) (by repeat (first | exact .here | apply Upd.there)) rfl rfl Try.sizeOf41) ?_
      intro _ _
      refine LW.nil ?_
      refine PQ.seq ?_
      refine CW.seq ?_
      refine CW.region ?_
      refine LW.v rfl rfl (Val.move rfl) ?_
      refine LW.v rfl rfl (Val.assign rfl) ?_
      refine LW.nil ?_
      refine PQ.seq ?_
      refine CW.ret ?_
      refine PQ.ret1 rfl rfl ?_
      have ek : L1.take k.1 = L1 := List.take_of_length_le (by omega)
      intro w' hw
      have hinn : k.2.1 = false := by simpa using h55
      rw [← lk_snoc] at hw
      have e2 : (k.2.2.2 ++ [x]).length = k.2.2.2.length + 1 := by simp
      rw [← e2] at hw
      refine ⟨(o2, k.2.2.2 ++ [x]), ⟨lkOk_snoc ho2, allOk_set hA hkf x (fun z => ?_) (List.pairwise_append.2 ⟨hI.up, by simp, fun a ha b hb => ?_⟩)⟩, rfl, hw.pick (by repeat (first | exact .nil | apply Pick.cons | exact .here | apply Ext.there))⟩
      · rw [List.mem_append, hI.mem, ek, ← hL1, List.mem_singleton, hinn]
        simp
      · simp only [List.mem_singleton] at hb
        rw [hb]
        rcases (hI.mem a).1 ha with h1 | ⟨h1, _⟩
        · exact hI.no hinn a h1
        · rw [hinn] at h1; cases h1
    · replace h55 := bF h55
      refine CW.skip ?_
      refine PQ.seq ?_
      refine CW.seq ?_
      refine CW.region ?_
      refine LW.v rfl rfl (Val.move rfl) ?_
      refine LW.v rfl rfl (Val.move rfl) ?_
      refine LW.v rfl rfl (Val.nilCheck rfl) ?_
      refine LW.v rfl rfl (Val.fieldAddr 0 rfl Try.underlying58 rfl rfl Try.sizeOf41) ?_
      refine LW.eN rfl (Eff.store rfl rfl (V.ownV_one _ _) (by repeat (first | exact .here | apply Upd.there)) rfl rfl Try.sizeOf41) ?_
      intro _ _
      refine LW.nil ?_
      refine PQ.seq ?_
      refine CW.seq ?_
      refine CW.region ?_
      refine LW.v rfl rfl (Val.move rfl) ?_
      refine LW.v rfl rfl (Val.assign rfl) ?_
      refine LW.nil ?_
      refine PQ.seq ?_
      refine CW.ret ?_
      refine PQ.ret1 rfl rfl ?_
      have ek : L1.take k.1 = L1 := List.take_of_length_le (by omega)
      intro w' hw
      have hinn : k.2.1 = true := by simpa using h55
      refine ⟨(k.2.2.1, k.2.2.2), ⟨hk3, allOk_set hA hkf x (fun z => ?_) hI.up⟩, rfl, hw.pick (by repeat (first | exact .nil | apply Pick.cons | exact .here | apply Ext.there))⟩
      rw [hI.mem, ek, ← hL1, hinn]; simp
end Go.Proofs.Ytaihimbjdgmjgaa
