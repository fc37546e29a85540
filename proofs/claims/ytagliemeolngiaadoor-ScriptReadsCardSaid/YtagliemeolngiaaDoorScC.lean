/- Word, of the program and of the document. -/
import Derived.Test.YtagliemeolngiaaDoorScB
import Derived.Lib.Hide
namespace Go.Proofs.YtagliemeolngiaaDoor
open Go Go.RowKit V
set_option linter.unusedVariables false
set_option maxRecDepth 100000
open V (str byC ownV ownG ownS ownOk)
theorem and15 (c : UInt8) : IntKind.u8.wrap ((BitVec.ofInt IntKind.u8.bits ((c.toNat : Nat) : Int) &&& BitVec.ofInt IntKind.u8.bits 15).toNat : Nat) = ((c.toNat % 16 : Nat) : Int) := by
  have key : ∀ n : Fin 256, IntKind.u8.wrap ((BitVec.ofInt IntKind.u8.bits ((n.val : Nat) : Int) &&& BitVec.ofInt IntKind.u8.bits 15).toNat : Nat) = ((n.val % 16 : Nat) : Int) := by decide +kernel
  exact key ⟨c.toNat, c.toNat_lt⟩
theorem shr4 (c : UInt8) : (((c.toNat : Nat) : Int).fdiv (2 ^ (min (4 : Int).toNat IntKind.u8.bits))) = ((c.toNat / 16 : Nat) : Int) := by
  have : (2 : Int) ^ (min (4 : Int).toNat IntKind.u8.bits) = 16 := by decide
  rw [this, Int.fdiv_eq_ediv_of_nonneg _ (by decide)]; omega
theorem quo16 (c : UInt8) : IntKind.u8.wrap (((c.toNat : Nat) : Int).tdiv 16) = ((c.toNat / 16 : Nat) : Int) := by
  have := c.toNat_lt
  rw [Int.tdiv_eq_ediv_of_nonneg (by omega), IntWalk.u8_in _ (by omega)]; omega
theorem rem16 (c : UInt8) : ((c.toNat : Nat) : Int).tmod 16 = ((c.toNat % 16 : Nat) : Int) := by
  rw [Int.tmod_eq_emod_of_nonneg (by omega)]; omega
def rB (d : Bool) (c : UInt8) : List UInt8 := if (plainB c && !d) = true then [c] else escB c
theorem wordF_r (l : List UInt8) (h : l ≠ []) : wordF l = l.flatMap (rB (decide (l = [45]))) := by
  unfold wordF
  rw [if_neg h]
  by_cases hd : l = [45]
  · subst hd; decide
  · rw [if_neg hd]
    have : decide (l = [45]) = false := by simpa using hd
    rw [this]
    congr 1
    funext c
    simp [rB, wB]
theorem rB_len (d : Bool) (c : UInt8) : (rB d c).length ≤ 3 := by unfold rB escB; split <;> simp
theorem flat_rB_len (d : Bool) (s : List UInt8) : (s.flatMap (rB d)).length ≤ 3 * s.length := by
  induction s with
  | nil => simp
  | cons c r ih => simp only [List.flatMap_cons, List.length_append, List.length_cons]; have := rB_len d c; omega
theorem take_rB {d : Bool} {s : List UInt8} {k : Nat} {c : UInt8} (h : s[k]? = some c) : (s.take (k + 1)).flatMap (rB d) = (s.take k).flatMap (rB d) ++ rB d c := by
  have hlt := (List.getElem?_eq_some_iff.1 h).1
  rw [List.take_succ_eq_append_getElem hlt, List.flatMap_append]
  have := List.getElem?_eq_getElem hlt
  rw [h] at this
  simp [(Option.some.inj this).symm]
theorem word_c (l : List UInt8) (hl : l.length ≤ 300000) (w : World) : Calls Tryd.prog 14 [str l].toArray w fun e w' => e = .returned (str (wordF l)) ∧ Below w.heap.size w w' := by
  refine V.calls [] Tryd.func14 rfl Tryd.ntmps14 (Nat.le_of_ble_eq_true rfl) (V.sat_nil _) ?_
  refine CW.seq ?_
  refine CW.region ?_
  refine LW.v rfl rfl (Val.assign rfl) ?_
  refine LW.nil ?_
  refine PQ.seq ?_
  refine CW.seq ?_
  refine CW.seq ?_
  refine CW.region ?_
  refine LW.v rfl rfl (Val.move rfl) ?_
  refine LW.nil ?_
  refine PQ.seq ?_
  refine CW.block ?_
  refine CW.seq ?_
  refine CW.region ?_
  refine LW.v rfl rfl (Val.eqStr rfl rfl) ?_
  refine LW.v rfl rfl (Val.assign rfl) ?_
  refine LW.nil ?_
  refine PQ.seq ?_
  refine CW.cond rfl (fun h7 => ?_) (fun h7 => ?_)
  · replace h7 := bT h7
    refine CW.seq ?_
    refine CW.region ?_
    refine LW.v rfl rfl (Val.assign rfl) ?_
    refine LW.nil ?_
    refine PQ.seq ?_
    refine CW.ret ?_
    refine PQ.in_ret ?_
    refine PQ.then_ret ?_
    refine PQ.ret1 rfl rfl ?_
    intro w' hw; exact ⟨by rw [show wordF l = [45] from if_pos h7]; rfl, hw.below⟩
  · replace h7 := bF h7
    refine CW.seq ?_
    refine CW.region ?_
    refine LW.v rfl rfl (Val.eqStr rfl rfl) ?_
    refine LW.v rfl rfl (Val.assign rfl) ?_
    refine LW.nil ?_
    refine PQ.seq ?_
    refine CW.cond rfl (fun h9 => ?_) (fun h9 => ?_)
    · replace h9 := bT h9
      refine CW.seq ?_
      refine CW.region ?_
      refine LW.v rfl rfl (Val.assign rfl) ?_
      refine LW.nil ?_
      refine PQ.seq ?_
      refine CW.ret ?_
      refine PQ.in_ret ?_
      refine PQ.then_ret ?_
      refine PQ.ret1 rfl rfl ?_
      intro w' hw; exact ⟨by rw [show wordF l = [37, 50, 100] from (if_neg h7).trans (if_pos h9)]; rfl, hw.below⟩
    · replace h9 := bF h9
      refine CW.skip ?_
      refine PQ.in_normal ?_
      refine PQ.seq ?_
      refine CW.seq ?_
      refine CW.region ?_
      refine LW.e rfl rfl (Eff.allocA (by exact Tryd.zeroValue57)) ?_
      intro b3 _
      refine LW.nil ?_
      refine PQ.seq ?_
      refine CW.seq ?_
      refine CW.seq ?_
      refine CW.region ?_
      refine LW.v rfl rfl (Val.move rfl) ?_
      refine LW.v rfl rfl (Val.lenStr rfl Tryd.underlying9) ?_
      refine LW.v rfl rfl (Val.move rfl) ?_
      refine LW.nil ?_
      refine PQ.seq ?_
      refine CW.block ?_
      refine CW.loop (γ := Nat × Bool × V.OwnO) (fun k => [(0, str l), (3, .pointer (some ⟨b3, 0, none⟩)), (12, .int .i64 (l.length : Nat)), (13, .int .i64 (k.1 : Nat))]) (fun k => sbG b3 k.2.1 k.2.2 ((l.take k.1).flatMap wB)) (fun k => k.1 ≤ l.length ∧ sbOk k.2.2 ((l.take k.1).flatMap wB)) (fun k => l.length - k.1) ((0, false, none)) ⟨Nat.zero_le _, sbOk_nil⟩ (by repeat (first | exact trivial | refine ⟨rfl, ?_⟩)) (by repeat (first | exact .nil | apply Pick.cons | exact .here | apply Ext.there)) ?_
      intro k
      rintro ⟨hkn, hk⟩
      have hA : ((l.take k.1).flatMap wB).length ≤ 900000 := by have h1 := flat_wB_len (l.take k.1); have h2 := List.length_take_le k.1 l; omega
      refine CW.seq ?_
      refine CW.region ?_
      refine LW.v rfl rfl (Val.cmp rfl rfl rfl) ?_
      refine LW.nil ?_
      refine PQ.seq ?_
      refine CW.seq ?_
      refine CW.cond rfl (fun h14 => ?_) (fun h14 => ?_)
      · replace h14 := bT h14
        obtain ⟨c, hc⟩ : ∃ c, l[k.1]? = some c := ⟨l[k.1]'(by omega), by simp⟩
        have hc256 := u8_lt c
        refine CW.skip ?_
        refine PQ.seq ?_
        refine CW.seq ?_
        refine CW.join (fun y : V.OwnO => sbOk y (((l.take k.1).flatMap wB) ++ wB c)) (fun y => [(0, str l), (3, .pointer (some ⟨b3, 0, none⟩)), (12, .int .i64 (l.length : Nat)), (13, .int .i64 (k.1 : Nat))]) (fun y => sbG b3 true y (((l.take k.1).flatMap wB) ++ wB c)) ?_ ?_
        · refine CW.block ?_
          refine CW.seq ?_
          refine CW.region ?_
          refine LW.v rfl rfl (Val.move rfl) ?_
          refine LW.v rfl rfl (Val.assign rfl) ?_
          refine LW.nil ?_
          refine PQ.seq ?_
          refine CW.seq ?_
          refine CW.region ?_
          refine LW.v rfl rfl (Val.move rfl) ?_
          refine LW.v rfl rfl (Val.move rfl) ?_
          refine LW.v rfl rfl (Val.indexStr (l := l) rfl rfl Tryd.underlying9 hc) ?_
          refine LW.v rfl rfl (Val.assign rfl) ?_
          refine LW.nil ?_
          refine PQ.seq ?_
          refine CW.seq ?_
          refine CW.region ?_
          refine LW.v rfl rfl (Val.move rfl) ?_
          refine LW.e rfl rfl (Eff.callV rfl Tryd.call32 (fun w hw => plain_c c w)) ?_
          intro _ _
          refine LW.nil ?_
          refine PQ.seq ?_
          refine CW.cond rfl (fun h20 => ?_) (fun h20 => ?_)
          · replace h20 := bT h20
            refine CW.region ?_
            refine LW.v rfl rfl (Val.move rfl) ?_
            refine LW.e rfl rfl (Eff.callM (sbG b3 k.2.1 k.2.2 ((l.take k.1).flatMap wB)) (by repeat (first | exact .nil | apply Pick.cons | exact .here | apply Ext.there)) rfl Tryd.call28 (fun w hw hs0 => wbP_c b3 k.2.1 k.2.2 ((l.take k.1).flatMap wB) hk (by omega) c w hs0)) ?_
            intro o2 ho2
            refine LW.nil ?_
            refine PQ.in_normal ?_
            have hwB : wB c = [c] := if_pos h20
            rw [← hwB] at ho2 ⊢
            refine PQ.joinedC (o2) (ho2) (by repeat (first | exact trivial | refine ⟨rfl, ?_⟩)) (by repeat (first | exact .nil | apply Pick.cons | exact .here | apply Ext.there))
          · replace h20 := bF h20
            refine CW.drawn ([]) mixed (by repeat (first | exact .nil | apply Pick.cons | exact .here | apply Ext.there)) ?_
            refine RW.v 0 rfl (by kernel_rfl) (by kernel_rfl) (by kernel_rfl) (fun _ _ _ h => h) rfl rfl (Val.move rfl) ?_
            refine RW.v 1 rfl (by kernel_rfl) (by kernel_rfl) (by kernel_rfl) (fun _ _ _ h => h) rfl rfl (Val.shr rfl rfl (by omega)) ?_
            refine RW.re 24 (.int .u8 ((c.toNat / 16 : Nat) : Int)) rfl (by rw [shr4]) ?_
            refine RW.v 2 rfl (by kernel_rfl) (by kernel_rfl) (by kernel_rfl) (fun _ _ _ h => h) rfl rfl (Val.move rfl) ?_
            refine RW.v 3 rfl (by kernel_rfl) (by kernel_rfl) (by kernel_rfl) (fun _ _ _ h => h) rfl rfl (Val.shr rfl rfl (by omega)) ?_
            refine RW.re 26 (.int .u8 ((c.toNat / 16 : Nat) : Int)) rfl (by rw [shr4]) ?_
            refine RW.v 4 rfl (by kernel_rfl) (by kernel_rfl) (by kernel_rfl) (fun _ _ _ h => h) rfl rfl (Val.ar rfl rfl rfl (IntWalk.u8_in _ (by omega))) ?_
            refine RW.re 27 (.int .u8 ((c.toNat / 16 + 1 : Nat) : Int)) rfl (by simp) ?_
            refine RW.v 5 rfl (by kernel_rfl) (by kernel_rfl) (by kernel_rfl) (fun _ _ _ h => h) rfl rfl (Val.sliceStr (l := hexL) (c.toNat / 16) (c.toNat / 16 + 1) rfl Tryd.underlying9 ⟨_, rfl⟩ ⟨_, rfl⟩ (by omega) (by show _ ≤ 16; omega)) ?_
            refine RW.re 28 (str [hexD (c.toNat / 16)]) rfl (by rw [hex_at (by omega)]) ?_
            refine RW.v 6 rfl (by kernel_rfl) (by kernel_rfl) (by kernel_rfl) (fun _ _ _ h => h) rfl rfl (Val.catStr rfl rfl (by first | omega | (simp only [List.length_append, List.length_cons, List.length_nil]; omega))) ?_
            refine RW.v 7 rfl (by kernel_rfl) (by kernel_rfl) (by kernel_rfl) (fun _ _ _ h => h) rfl rfl (Val.move rfl) ?_
            refine RW.v 8 rfl (by kernel_rfl) (by kernel_rfl) (by kernel_rfl) (fun _ _ _ h => h) rfl rfl (Val.and rfl rfl) ?_
            refine RW.re 31 (.int .u8 ((c.toNat % 16 : Nat) : Int)) rfl (by rw [and15]) ?_
            refine RW.v 9 rfl (by kernel_rfl) (by kernel_rfl) (by kernel_rfl) (fun _ _ _ h => h) rfl rfl (Val.move rfl) ?_
            refine RW.v 10 rfl (by kernel_rfl) (by kernel_rfl) (by kernel_rfl) (fun _ _ _ h => h) rfl rfl (Val.and rfl rfl) ?_
            refine RW.re 33 (.int .u8 ((c.toNat % 16 : Nat) : Int)) rfl (by rw [and15]) ?_
            refine RW.v 11 rfl (by kernel_rfl) (by kernel_rfl) (by kernel_rfl) (fun _ _ _ h => h) rfl rfl (Val.ar rfl rfl rfl (IntWalk.u8_in _ (by omega))) ?_
            refine RW.re 34 (.int .u8 ((c.toNat % 16 + 1 : Nat) : Int)) rfl (by simp) ?_
            refine RW.v 12 rfl (by kernel_rfl) (by kernel_rfl) (by kernel_rfl) (fun _ _ _ h => h) rfl rfl (Val.sliceStr (l := hexL) (c.toNat % 16) (c.toNat % 16 + 1) rfl Tryd.underlying9 ⟨_, rfl⟩ ⟨_, rfl⟩ (by omega) (by show _ ≤ 16; omega)) ?_
            refine RW.re 35 (str [hexD (c.toNat % 16)]) rfl (by rw [hex_at (by omega)]) ?_
            refine RW.v 13 rfl (by kernel_rfl) (by kernel_rfl) (by kernel_rfl) (fun _ _ _ h => h) rfl rfl (Val.catStr rfl rfl (by first | omega | (simp only [List.length_append, List.length_cons, List.length_nil]; omega))) ?_
            refine RW.re 36 (str (escB c)) rfl rfl ?_
            refine RW.e 14 rfl (by kernel_rfl) rfl rfl (Eff.callM (sbG b3 k.2.1 k.2.2 ((l.take k.1).flatMap wB)) (by repeat (first | exact .nil | apply Pick.cons | exact .here | apply Ext.there)) rfl Tryd.call33 (fun w hw hs0 => wsP_c b3 k.2.1 k.2.2 ((l.take k.1).flatMap wB) hk (by omega) (escB c) (by unfold escB; simp) (by unfold escB; simp) w hs0)) (fun x => ⟨_, (by repeat (first | exact .nil | apply Pick.cons | exact .here | apply Ext.there))⟩) ?_
            intro o2 ho2
            refine RW.done (by kernel_rfl) ?_
            refine PQ.in_normal ?_
            have hwB : wB c = escB c := if_neg (by rw [h20]; decide)
            rw [← hwB] at ho2 ⊢
            refine PQ.joinedC (o2) (ho2) (by repeat (first | exact trivial | refine ⟨rfl, ?_⟩)) (by repeat (first | exact .nil | apply Pick.cons | exact .here | apply Ext.there))
        · intro y hy
          refine PQ.seq ?_
          refine CW.region ?_
          refine LW.v rfl rfl (Val.ar rfl rfl rfl (IntWalk.i64_in _ (by omega))) ?_
          refine LW.v rfl rfl (Val.move rfl) ?_
          refine LW.nil ?_
          rw [← take_wB hc] at hy ⊢
          refine PQ.round ((k.1 + 1, true, y)) ⟨by simp only; omega, hy⟩ (by simp only; omega) (by repeat (first | exact trivial | refine ⟨rfl, ?_⟩)) (by repeat (first | exact .nil | apply Pick.cons | exact .here | apply Ext.there))
      · replace h14 := bF h14
        refine CW.exit ?_
        refine PQ.then_exit ?_
        refine PQ.then_exit ?_
        refine PQ.in_here ?_
        refine PQ.seq ?_
        refine CW.seq ?_
        refine CW.region ?_
        refine LW.e rfl rfl (Eff.callM (sbG b3 k.2.1 k.2.2 ((l.take k.1).flatMap wB)) (by repeat (first | exact .nil | apply Pick.cons | exact .here | apply Ext.there)) rfl Tryd.call30 (fun w hw hs0 => stP_c b3 k.2.1 k.2.2 ((l.take k.1).flatMap wB) hk (by omega) w hs0)) ?_
        intro _ _
        refine LW.v rfl rfl (Val.assign rfl) ?_
        refine LW.nil ?_
        refine PQ.seq ?_
        refine CW.ret ?_
        refine PQ.ret1 rfl rfl ?_
        intro w' hw; refine ⟨?_, hw.below⟩
        have e1 : l.take k.1 = l := List.take_of_length_le (by omega)
        rw [e1, show wordF l = l.flatMap wB from (if_neg h7).trans (if_neg h9)]
theorem rword_c (l : List UInt8) (hl : l.length ≤ 300000) (w : World) : Calls Tryd.prog 15 [str l].toArray w fun e w' => e = .returned (str (wordF l)) ∧ Below w.heap.size w w' := by
  refine V.calls [] Tryd.func15 rfl Tryd.ntmps15 (Nat.le_of_ble_eq_true rfl) (V.sat_nil _) ?_
  refine CW.seq ?_
  refine CW.region ?_
  refine LW.v rfl rfl (Val.assign rfl) ?_
  refine LW.nil ?_
  refine PQ.seq ?_
  refine CW.seq ?_
  refine CW.seq ?_
  refine CW.region ?_
  refine LW.v rfl rfl (Val.move rfl) ?_
  refine LW.v rfl rfl (Val.eqStr rfl rfl) ?_
  refine LW.nil ?_
  refine PQ.seq ?_
  refine CW.cond rfl (fun h6 => ?_) (fun h6 => ?_)
  · replace h6 := bT h6
    refine CW.seq ?_
    refine CW.region ?_
    refine LW.v rfl rfl (Val.assign rfl) ?_
    refine LW.nil ?_
    refine PQ.seq ?_
    refine CW.ret ?_
    refine PQ.then_ret ?_
    refine PQ.ret1 rfl rfl ?_
    intro w' hw; exact ⟨by rw [show wordF l = [45] from if_pos h6]; rfl, hw.below⟩
  · replace h6 := bF h6
    refine CW.skip ?_
    refine PQ.seq ?_
    refine CW.seq ?_
    refine CW.region ?_
    refine LW.v rfl rfl (Val.assign rfl) ?_
    refine LW.nil ?_
    refine PQ.seq ?_
    refine CW.seq ?_
    refine CW.seq ?_
    refine CW.region ?_
    refine LW.v rfl rfl (Val.assign rfl) ?_
    refine LW.nil ?_
    refine PQ.seq ?_
    refine CW.block ?_
    refine CW.loop (γ := Nat) (fun k => [(0, str l), (3, str ((l.take k).flatMap (rB (decide (l = [45]))))), (4, .int .i64 (k : Nat))]) (fun _ => []) (fun k => k ≤ l.length) (fun k => l.length - k) (0) (Nat.zero_le _) (by repeat (first | exact trivial | refine ⟨rfl, ?_⟩)) (by repeat (first | exact .nil | apply Pick.cons | exact .here | apply Ext.there)) ?_
    intro k
    intro hkn
    have hA : ((l.take k).flatMap (rB (decide (l = [45])))).length ≤ 900000 := by have h1 := flat_rB_len (decide (l = [45])) (l.take k); have h2 := List.length_take_le k l; omega
    refine CW.seq ?_
    refine CW.seq ?_
    refine CW.region ?_
    refine LW.v rfl rfl (Val.move rfl) ?_
    refine LW.v rfl rfl (Val.move rfl) ?_
    refine LW.v rfl rfl (Val.lenStr rfl Tryd.underlying9) ?_
    refine LW.v rfl rfl (Val.cmp rfl rfl rfl) ?_
    refine LW.nil ?_
    refine PQ.seq ?_
    refine CW.cond rfl (fun h10 => ?_) (fun h10 => ?_)
    · replace h10 := bT h10
      obtain ⟨c, hc⟩ : ∃ c, l[k]? = some c := ⟨l[k]'(by omega), by simp⟩
      have hc256 := u8_lt c
      refine CW.skip ?_
      refine PQ.seq ?_
      refine CW.seq ?_
      refine CW.block ?_
      refine CW.seq ?_
      refine CW.region ?_
      refine LW.v rfl rfl (Val.move rfl) ?_
      refine LW.v rfl rfl (Val.move rfl) ?_
      refine LW.v rfl rfl (Val.indexStr (l := l) rfl rfl Tryd.underlying9 hc) ?_
      refine LW.e rfl rfl (Eff.callV rfl Tryd.call34 (fun w hw => rplain_c c w)) ?_
      intro _ _
      refine LW.v rfl rfl (Val.move rfl) ?_
      refine LW.split (d := 17) rfl (fun h17 => ?_) (fun h17 => ?_)
      · replace h17 := bT h17
        refine LW.v rfl rfl (Val.move rfl) ?_
        refine LW.v rfl rfl (Val.neStr rfl rfl) ?_
        refine LW.v rfl rfl (Val.pick_t rfl rfl) ?_
        refine LW.nil ?_
        refine PQ.seq ?_
        refine CW.cond rfl (fun h20 => ?_) (fun h20 => ?_)
        · replace h20 := bT h20
          refine CW.region ?_
          refine LW.v rfl rfl (Val.move rfl) ?_
          refine LW.v rfl rfl (Val.move rfl) ?_
          refine LW.v rfl rfl (Val.move rfl) ?_
          refine LW.v rfl rfl (Val.move rfl) ?_
          refine LW.v rfl rfl (Val.ar rfl rfl rfl (IntWalk.i64_in _ (by omega))) ?_
          refine LW.re 25 (.int .i64 ((k + 1 : Nat) : Int)) rfl (by simp) ?_
          refine LW.v rfl rfl (Val.sliceStr (l := l) k (k + 1) rfl Tryd.underlying9 ⟨_, rfl⟩ ⟨_, rfl⟩ (by omega) (by omega)) ?_
          refine LW.re 26 (str [c]) rfl (by rw [V.take_one hc]) ?_
          refine LW.v rfl rfl (Val.catStr rfl rfl (by first | omega | (simp only [List.length_append, List.length_cons, List.length_nil]; omega))) ?_
          refine LW.v rfl rfl (Val.assign rfl) ?_
          refine LW.nil ?_
          refine PQ.in_normal ?_
          refine PQ.seq ?_
          refine CW.region ?_
          refine LW.v rfl rfl (Val.move rfl) ?_
          refine LW.v rfl rfl (Val.ar rfl rfl rfl (IntWalk.i64_in _ (by omega))) ?_
          refine LW.v rfl rfl (Val.assign rfl) ?_
          refine LW.nil ?_
          have hwB : rB (decide (l = [45])) c = [c] := if_pos (by simp [h17, h20])
          rw [← hwB, ← take_rB hc]
          refine PQ.round (k + 1) (by omega) (by omega) (by repeat (first | exact trivial | refine ⟨rfl, ?_⟩)) (by repeat (first | exact .nil | apply Pick.cons | exact .here | apply Ext.there))
        · replace h20 := bF h20
          refine CW.quiet mixed (by kernel_rfl) ?_
          refine QW.v rfl rfl (Val.move rfl) ?_
          refine QW.v rfl rfl (Val.catStr rfl rfl (by first | omega | (simp only [List.length_append, List.length_cons, List.length_nil]; omega))) ?_
          refine QW.v rfl rfl (Val.move rfl) ?_
          refine QW.v rfl rfl (Val.move rfl) ?_
          refine QW.v rfl rfl (Val.indexStr (l := l) rfl rfl Tryd.underlying9 hc) ?_
          refine QW.v rfl rfl (Val.quo rfl rfl (by omega)) ?_
          refine QW.re 33 (.int .u8 ((c.toNat / 16 : Nat) : Int)) rfl (by rw [quo16]) ?_
          refine QW.v rfl rfl (Val.move rfl) ?_
          refine QW.v rfl rfl (Val.move rfl) ?_
          refine QW.v rfl rfl (Val.indexStr (l := l) rfl rfl Tryd.underlying9 hc) ?_
          refine QW.v rfl rfl (Val.quo rfl rfl (by omega)) ?_
          refine QW.re 37 (.int .u8 ((c.toNat / 16 : Nat) : Int)) rfl (by rw [quo16]) ?_
          refine QW.v rfl rfl (Val.ar rfl rfl rfl (IntWalk.u8_in _ (by omega))) ?_
          refine QW.re 38 (.int .u8 ((c.toNat / 16 + 1 : Nat) : Int)) rfl (by simp) ?_
          refine QW.v rfl rfl (Val.sliceStr (l := hexL) (c.toNat / 16) (c.toNat / 16 + 1) rfl Tryd.underlying9 ⟨_, rfl⟩ ⟨_, rfl⟩ (by omega) (by show _ ≤ 16; omega)) ?_
          refine QW.re 39 (str [hexD (c.toNat / 16)]) rfl (by rw [hex_at (by omega)]) ?_
          refine QW.v rfl rfl (Val.catStr rfl rfl (by first | omega | (simp only [List.length_append, List.length_cons, List.length_nil]; omega))) ?_
          refine QW.v rfl rfl (Val.move rfl) ?_
          refine QW.v rfl rfl (Val.move rfl) ?_
          refine QW.v rfl rfl (Val.indexStr (l := l) rfl rfl Tryd.underlying9 hc) ?_
          refine QW.v rfl rfl (Val.rem rfl rfl (by omega)) ?_
          refine QW.re 44 (.int .u8 ((c.toNat % 16 : Nat) : Int)) rfl (by rw [rem16]) ?_
          refine QW.v rfl rfl (Val.move rfl) ?_
          refine QW.v rfl rfl (Val.move rfl) ?_
          refine QW.v rfl rfl (Val.indexStr (l := l) rfl rfl Tryd.underlying9 hc) ?_
          refine QW.v rfl rfl (Val.rem rfl rfl (by omega)) ?_
          refine QW.re 48 (.int .u8 ((c.toNat % 16 : Nat) : Int)) rfl (by rw [rem16]) ?_
          refine QW.v rfl rfl (Val.ar rfl rfl rfl (IntWalk.u8_in _ (by omega))) ?_
          refine QW.re 49 (.int .u8 ((c.toNat % 16 + 1 : Nat) : Int)) rfl (by simp) ?_
          refine QW.v rfl rfl (Val.sliceStr (l := hexL) (c.toNat % 16) (c.toNat % 16 + 1) rfl Tryd.underlying9 ⟨_, rfl⟩ ⟨_, rfl⟩ (by omega) (by show _ ≤ 16; omega)) ?_
          refine QW.re 50 (str [hexD (c.toNat % 16)]) rfl (by rw [hex_at (by omega)]) ?_
          refine QW.v rfl rfl (Val.catStr rfl rfl (by first | omega | (simp only [List.length_append, List.length_cons, List.length_nil]; omega))) ?_
          refine QW.re 51 (str (((l.take k).flatMap (rB (decide (l = [45])))) ++ escB c)) rfl (by unfold escB; simp) ?_
          refine QW.v rfl rfl (Val.assign rfl) ?_
          refine QW.nil ?_
          refine PQ.in_normal ?_
          refine PQ.seq ?_
          refine CW.region ?_
          refine LW.v rfl rfl (Val.move rfl) ?_
          refine LW.v rfl rfl (Val.ar rfl rfl rfl (IntWalk.i64_in _ (by omega))) ?_
          refine LW.v rfl rfl (Val.assign rfl) ?_
          refine LW.nil ?_
          have hwB : rB (decide (l = [45])) c = escB c := if_neg (by simp [h17, h20])
          rw [← hwB, ← take_rB hc]
          refine PQ.round (k + 1) (by omega) (by omega) (by repeat (first | exact trivial | refine ⟨rfl, ?_⟩)) (by repeat (first | exact .nil | apply Pick.cons | exact .here | apply Ext.there))
      · replace h17 := bF h17
        refine LW.p rfl rfl ?_
        refine LW.p rfl rfl ?_
        refine LW.v rfl rfl (Val.pick_f rfl rfl) ?_
        refine LW.nil ?_
        refine PQ.seq ?_
        refine CW.cond_f rfl ?_
        refine CW.quiet mixed (by kernel_rfl) ?_
        refine QW.v rfl rfl (Val.move rfl) ?_
        refine QW.v rfl rfl (Val.catStr rfl rfl (by first | omega | (simp only [List.length_append, List.length_cons, List.length_nil]; omega))) ?_
        refine QW.v rfl rfl (Val.move rfl) ?_
        refine QW.v rfl rfl (Val.move rfl) ?_
        refine QW.v rfl rfl (Val.indexStr (l := l) rfl rfl Tryd.underlying9 hc) ?_
        refine QW.v rfl rfl (Val.quo rfl rfl (by omega)) ?_
        refine QW.re 33 (.int .u8 ((c.toNat / 16 : Nat) : Int)) rfl (by rw [quo16]) ?_
        refine QW.v rfl rfl (Val.move rfl) ?_
        refine QW.v rfl rfl (Val.move rfl) ?_
        refine QW.v rfl rfl (Val.indexStr (l := l) rfl rfl Tryd.underlying9 hc) ?_
        refine QW.v rfl rfl (Val.quo rfl rfl (by omega)) ?_
        refine QW.re 37 (.int .u8 ((c.toNat / 16 : Nat) : Int)) rfl (by rw [quo16]) ?_
        refine QW.v rfl rfl (Val.ar rfl rfl rfl (IntWalk.u8_in _ (by omega))) ?_
        refine QW.re 38 (.int .u8 ((c.toNat / 16 + 1 : Nat) : Int)) rfl (by simp) ?_
        refine QW.v rfl rfl (Val.sliceStr (l := hexL) (c.toNat / 16) (c.toNat / 16 + 1) rfl Tryd.underlying9 ⟨_, rfl⟩ ⟨_, rfl⟩ (by omega) (by show _ ≤ 16; omega)) ?_
        refine QW.re 39 (str [hexD (c.toNat / 16)]) rfl (by rw [hex_at (by omega)]) ?_
        refine QW.v rfl rfl (Val.catStr rfl rfl (by first | omega | (simp only [List.length_append, List.length_cons, List.length_nil]; omega))) ?_
        refine QW.v rfl rfl (Val.move rfl) ?_
        refine QW.v rfl rfl (Val.move rfl) ?_
        refine QW.v rfl rfl (Val.indexStr (l := l) rfl rfl Tryd.underlying9 hc) ?_
        refine QW.v rfl rfl (Val.rem rfl rfl (by omega)) ?_
        refine QW.re 44 (.int .u8 ((c.toNat % 16 : Nat) : Int)) rfl (by rw [rem16]) ?_
        refine QW.v rfl rfl (Val.move rfl) ?_
        refine QW.v rfl rfl (Val.move rfl) ?_
        refine QW.v rfl rfl (Val.indexStr (l := l) rfl rfl Tryd.underlying9 hc) ?_
        refine QW.v rfl rfl (Val.rem rfl rfl (by omega)) ?_
        refine QW.re 48 (.int .u8 ((c.toNat % 16 : Nat) : Int)) rfl (by rw [rem16]) ?_
        refine QW.v rfl rfl (Val.ar rfl rfl rfl (IntWalk.u8_in _ (by omega))) ?_
        refine QW.re 49 (.int .u8 ((c.toNat % 16 + 1 : Nat) : Int)) rfl (by simp) ?_
        refine QW.v rfl rfl (Val.sliceStr (l := hexL) (c.toNat % 16) (c.toNat % 16 + 1) rfl Tryd.underlying9 ⟨_, rfl⟩ ⟨_, rfl⟩ (by omega) (by show _ ≤ 16; omega)) ?_
        refine QW.re 50 (str [hexD (c.toNat % 16)]) rfl (by rw [hex_at (by omega)]) ?_
        refine QW.v rfl rfl (Val.catStr rfl rfl (by first | omega | (simp only [List.length_append, List.length_cons, List.length_nil]; omega))) ?_
        refine QW.re 51 (str (((l.take k).flatMap (rB (decide (l = [45])))) ++ escB c)) rfl (by unfold escB; simp) ?_
        refine QW.v rfl rfl (Val.assign rfl) ?_
        refine QW.nil ?_
        refine PQ.in_normal ?_
        refine PQ.seq ?_
        refine CW.region ?_
        refine LW.v rfl rfl (Val.move rfl) ?_
        refine LW.v rfl rfl (Val.ar rfl rfl rfl (IntWalk.i64_in _ (by omega))) ?_
        refine LW.v rfl rfl (Val.assign rfl) ?_
        refine LW.nil ?_
        have hwB : rB (decide (l = [45])) c = escB c := if_neg (by simp [h17])
        rw [← hwB, ← take_rB hc]
        refine PQ.round (k + 1) (by omega) (by omega) (by repeat (first | exact trivial | refine ⟨rfl, ?_⟩)) (by repeat (first | exact .nil | apply Pick.cons | exact .here | apply Ext.there))
    · replace h10 := bF h10
      refine CW.exit ?_
      refine PQ.then_exit ?_
      refine PQ.then_exit ?_
      refine PQ.in_here ?_
      refine PQ.seq ?_
      refine CW.seq ?_
      refine CW.region ?_
      refine LW.v rfl rfl (Val.move rfl) ?_
      refine LW.v rfl rfl (Val.assign rfl) ?_
      refine LW.nil ?_
      refine PQ.seq ?_
      refine CW.ret ?_
      refine PQ.ret1 rfl rfl ?_
      intro w' hw; refine ⟨?_, hw.below⟩
      have e1 : l.take k = l := List.take_of_length_le (by omega)
      rw [e1, wordF_r l h6]
end Go.Proofs.YtagliemeolngiaaDoor
