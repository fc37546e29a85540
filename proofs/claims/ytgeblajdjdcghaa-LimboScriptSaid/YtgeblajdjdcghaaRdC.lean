/- ReaderScript: the walk of the law. -/
import Derived.Test.YtgeblajdjdcghaaRdB
import Derived.Lib.Hide
namespace Go.Proofs.Ytgeblajdjdcghaa
open Go Go.RowKit V
set_option linter.unusedVariables false
set_option maxRecDepth 100000
/-- An act as it lies in memory: two cells. -/
structure Ac8 where
  d : Int
  t : Int
def Ac8.cells (s : Ac8) : List Value := [.int .i64 s.d, .int .i64 s.t]
def Inv8 (n k : Nat) (now : Int) (l : List Int) : Prop := l.length = n ∧ (∀ x ∈ l, 0 ≤ x) ∧ 1 ≤ now ∧ now ≤ 1 + k
theorem Inv8.start (n : Nat) : Inv8 n 0 1 (List.replicate n 0) := ⟨by simp, fun x hx => by simp at hx; omega, by omega, by omega⟩
theorem Inv8.en {n k : Nat} {now : Int} {l : List Int} (h : Inv8 n k now l) (t : Int) : Inv8 n (k + 1) now (enF now l t).1 := ⟨by rw [en_length]; exact h.1, en_nonneg h.2.1 (by have := h.2.2.1; omega) t, h.2.2.1, by have := h.2.2.2; omega⟩
theorem Inv8.le {n k : Nat} {now : Int} {l : List Int} (h : Inv8 n k now l) (t : Int) : Inv8 n (k + 1) now (leF l t).1 := ⟨by rw [le_length]; exact h.1, le_nonneg h.2.1 t, h.2.2.1, by have := h.2.2.2; omega⟩
theorem Inv8.adv {n k : Nat} {now : Int} {l : List Int} (h : Inv8 n k now l) : Inv8 n (k + 1) (now + 1) l := ⟨h.1, h.2.1, by have := h.2.2.1; omega, by have := h.2.2.2; omega⟩
theorem Inv8.id {n k : Nat} {now : Int} {l : List Int} (h : Inv8 n k now l) : Inv8 n (k + 1) now l := ⟨h.1, h.2.1, h.2.2.1, by have := h.2.2.2; omega⟩
theorem readerScript_c (thr : Int) (p : Option Addr) (n cap : Nat) (acts : List Ac8) (e0 : Int) (w : World) (hn : acts.length = n) (h : V.slAt w p 2 Ac8.cells acts) : Calls Try.prog 6 [.int .i64 thr, .slice p n cap, .int .u64 e0].toArray w fun e w' => e = .returned (.bool true) ∧ Below w.heap.size w w' := by
  by_cases hthr : thr < 1 ∨ 4 < thr
  · refine V.calls [] Try.func6 rfl Try.ntmps6 (Nat.le_of_ble_eq_true rfl) (V.sat_nil _) ?_
    refine CW.seq ?_
    refine CW.region ?_
    refine LW.v rfl rfl (Val.assign rfl) ?_
    refine LW.nil ?_
    refine PQ.seq ?_
    refine CW.seq ?_
    refine CW.seq ?_
    refine CW.region ?_
    refine LW.v rfl rfl (Val.move rfl) ?_
    refine LW.v rfl rfl (Val.lenSl rfl Try.underlying48) ?_
    refine LW.v rfl rfl (Val.cmp rfl rfl rfl) ?_
    refine LW.nil ?_
    refine PQ.seq ?_
    refine CW.cond rfl (fun h19 => ?_) (fun h19 => ?_)
    · replace h19 := bT h19
      refine CW.seq ?_
      refine CW.region ?_
      refine LW.e rfl rfl (Eff.callV rfl Try.call25 (fun w hw => awake8_c w)) ?_
      intro _ _
      refine LW.v rfl rfl (Val.assign rfl) ?_
      refine LW.nil ?_
      refine PQ.seq ?_
      refine CW.ret ?_
      refine PQ.then_ret ?_
      refine PQ.ret1 rfl rfl ?_
      intro w hw; exact ⟨rfl, hw.below⟩
    · replace h19 := bF h19
      refine CW.skip ?_
      refine PQ.seq ?_
      refine CW.seq ?_
      refine CW.region ?_
      refine LW.v rfl rfl (Val.move rfl) ?_
      refine LW.e rfl rfl (Eff.callV rfl Try.call26 (fun w hw => newBad_c thr w hthr)) ?_
      intro _ _
      refine LW.v rfl rfl (Val.move rfl) ?_
      refine LW.v rfl rfl (Val.extract rfl rfl) ?_
      refine LW.v rfl rfl (Val.extract rfl rfl) ?_
      refine LW.v rfl rfl (Val.assign rfl) ?_
      refine LW.v rfl rfl (Val.assign rfl) ?_
      refine LW.nil ?_
      refine PQ.seq ?_
      refine CW.seq ?_
      refine CW.region ?_
      refine LW.v rfl rfl (Val.move rfl) ?_
      refine LW.e rfl rfl (Eff.callV rfl Try.call27 (fun w hw => refNewBad_c thr w hthr)) ?_
      intro _ _
      refine LW.v rfl rfl (Val.move rfl) ?_
      refine LW.v rfl rfl (Val.extract rfl rfl) ?_
      refine LW.v rfl rfl (Val.extract rfl rfl) ?_
      refine LW.v rfl rfl (Val.assign rfl) ?_
      refine LW.v rfl rfl (Val.assign rfl) ?_
      refine LW.nil ?_
      refine PQ.seq ?_
      refine CW.seq ?_
      refine CW.seq ?_
      refine CW.region ?_
      refine LW.v rfl rfl (Val.move rfl) ?_
      refine LW.e rfl rfl (Eff.callV rfl Try.call28 (fun w hw => num_c 2 w)) ?_
      intro _ _
      refine LW.v rfl rfl (Val.move rfl) ?_
      refine LW.v rfl rfl (Val.cmp rfl rfl rfl) ?_
      refine LW.re 34 (.bool false) rfl (by rfl) ?_
      refine LW.v rfl rfl (Val.move rfl) ?_
      refine LW.v rfl rfl (Val.move rfl) ?_
      refine LW.v rfl rfl (Val.eqP true rfl rfl Try.underlying49 (.inr ⟨rfl, rfl⟩)) ?_
      refine LW.v rfl rfl (Val.move rfl) ?_
      refine LW.v rfl rfl (Val.eqP true rfl rfl Try.underlying52 (.inr ⟨rfl, rfl⟩)) ?_
      refine LW.v rfl rfl (Val.neB rfl rfl Try.underlying4) ?_
      refine LW.re 40 (.bool false) rfl (by rfl) ?_
      refine LW.v rfl rfl (Val.pick_f rfl rfl) ?_
      refine LW.nil ?_
      refine PQ.seq ?_
      refine CW.cond_f rfl ?_
      refine CW.skip ?_
      refine PQ.seq ?_
      refine CW.seq ?_
      refine CW.seq ?_
      refine CW.region ?_
      refine LW.v rfl rfl (Val.move rfl) ?_
      refine LW.v rfl rfl (Val.eqP true rfl rfl Try.underlying52 (.inr ⟨rfl, rfl⟩)) ?_
      refine LW.nil ?_
      refine PQ.seq ?_
      refine CW.cond_t rfl ?_
      refine CW.seq ?_
      refine CW.region ?_
      refine LW.e rfl rfl (Eff.callV rfl Try.call25 (fun w hw => awake8_c w)) ?_
      intro _ _
      refine LW.v rfl rfl (Val.assign rfl) ?_
      refine LW.nil ?_
      refine PQ.seq ?_
      refine CW.ret ?_
      refine PQ.then_ret ?_
      refine PQ.ret1 rfl rfl ?_
      intro w hw; exact ⟨rfl, hw.below⟩
  · obtain ⟨m, rfl⟩ := Int.eq_ofNat_of_zero_le (show 0 ≤ thr by omega)
    refine V.calls [] Try.func6 rfl Try.ntmps6 (Nat.le_of_ble_eq_true rfl) (V.sat_nil _) ?_
    refine CW.seq ?_
    refine CW.region ?_
    refine LW.v rfl rfl (Val.assign rfl) ?_
    refine LW.nil ?_
    refine PQ.seq ?_
    refine CW.seq ?_
    refine CW.seq ?_
    refine CW.region ?_
    refine LW.v rfl rfl (Val.move rfl) ?_
    refine LW.v rfl rfl (Val.lenSl rfl Try.underlying48) ?_
    refine LW.v rfl rfl (Val.cmp rfl rfl rfl) ?_
    refine LW.nil ?_
    refine PQ.seq ?_
    refine CW.cond rfl (fun h19 => ?_) (fun h19 => ?_)
    · replace h19 := bT h19
      refine CW.seq ?_
      refine CW.region ?_
      refine LW.e rfl rfl (Eff.callV rfl Try.call25 (fun w hw => awake8_c w)) ?_
      intro _ _
      refine LW.v rfl rfl (Val.assign rfl) ?_
      refine LW.nil ?_
      refine PQ.seq ?_
      refine CW.ret ?_
      refine PQ.then_ret ?_
      refine PQ.ret1 rfl rfl ?_
      intro w hw; exact ⟨rfl, hw.below⟩
    · replace h19 := bF h19
      refine CW.skip ?_
      refine PQ.seq ?_
      refine CW.seq ?_
      refine CW.region ?_
      refine LW.v rfl rfl (Val.move rfl) ?_
      refine LW.e rfl rfl (Eff.callM ([]) (by repeat (first | exact .nil | apply Pick.cons | exact .here | apply Ext.there)) rfl Try.call26 (fun w hw hs => new_c m w (by omega))) ?_
      rintro ⟨b, a⟩ _
      refine LW.v rfl rfl (Val.move rfl) ?_
      refine LW.v rfl rfl (Val.extract rfl rfl) ?_
      refine LW.v rfl rfl (Val.extract rfl rfl) ?_
      refine LW.v rfl rfl (Val.assign rfl) ?_
      refine LW.v rfl rfl (Val.assign rfl) ?_
      refine LW.nil ?_
      refine PQ.seq ?_
      refine CW.seq ?_
      refine CW.region ?_
      refine LW.v rfl rfl (Val.move rfl) ?_
      refine LW.e rfl rfl (Eff.callM ([]) (by repeat (first | exact .nil | apply Pick.cons | exact .here | apply Ext.there)) rfl Try.call27 (fun w hw hs => refNew_c m w (by omega))) ?_
      rintro ⟨c, d⟩ _
      refine LW.v rfl rfl (Val.move rfl) ?_
      refine LW.v rfl rfl (Val.extract rfl rfl) ?_
      refine LW.v rfl rfl (Val.extract rfl rfl) ?_
      refine LW.v rfl rfl (Val.assign rfl) ?_
      refine LW.v rfl rfl (Val.assign rfl) ?_
      refine LW.nil ?_
      refine PQ.seq ?_
      refine CW.seq ?_
      refine CW.seq ?_
      refine CW.region ?_
      refine LW.v rfl rfl (Val.move rfl) ?_
      refine LW.e rfl rfl (Eff.callV rfl Try.call28 (fun w hw => num_c 0 w)) ?_
      intro _ _
      refine LW.v rfl rfl (Val.move rfl) ?_
      refine LW.v rfl rfl (Val.cmp rfl rfl rfl) ?_
      refine LW.re 34 (.bool false) rfl (by rfl) ?_
      refine LW.v rfl rfl (Val.move rfl) ?_
      refine LW.v rfl rfl (Val.move rfl) ?_
      refine LW.v rfl rfl (Val.eqP false rfl rfl Try.underlying49 (.inr ⟨rfl, rfl⟩)) ?_
      refine LW.v rfl rfl (Val.move rfl) ?_
      refine LW.v rfl rfl (Val.eqP false rfl rfl Try.underlying52 (.inr ⟨rfl, rfl⟩)) ?_
      refine LW.v rfl rfl (Val.neB rfl rfl Try.underlying4) ?_
      refine LW.re 40 (.bool false) rfl (by rfl) ?_
      refine LW.v rfl rfl (Val.pick_f rfl rfl) ?_
      refine LW.nil ?_
      refine PQ.seq ?_
      refine CW.cond_f rfl ?_
      refine CW.skip ?_
      refine PQ.seq ?_
      refine CW.seq ?_
      refine CW.seq ?_
      refine CW.region ?_
      refine LW.v rfl rfl (Val.move rfl) ?_
      refine LW.v rfl rfl (Val.eqP false rfl rfl Try.underlying52 (.inr ⟨rfl, rfl⟩)) ?_
      refine LW.nil ?_
      refine PQ.seq ?_
      refine CW.cond_f rfl ?_
      refine CW.skip ?_
      refine PQ.seq ?_
      refine CW.seq ?_
      refine CW.seq ?_
      refine CW.region ?_
      refine LW.v rfl rfl (Val.assign rfl) ?_
      refine LW.nil ?_
      refine PQ.seq ?_
      refine CW.block ?_
      refine CW.loop (γ := Nat × Int × List Int) (fun k => [(1, .slice p n cap), (2, .int .u64 e0), (7, .pointer (some ⟨b, 0, none⟩)), (9, .pointer (some ⟨c, 0, none⟩)), (11, .int .i64 (k.1 : Nat))]) (fun k => rdG b a k.2.1 k.2.2 ++ rfG c d k.2.1 k.2.2) (fun k => k.1 ≤ n ∧ Inv8 m k.1 k.2.1 k.2.2) (fun k => n - k.1) ((0, 1, List.replicate m 0)) ⟨Nat.zero_le _, Inv8.start m⟩ (by repeat (first | exact trivial | refine ⟨rfl, ?_⟩)) (by repeat (first | exact .nil | apply Pick.cons | exact .here | apply Ext.there)) ?_
      intro k
      rintro ⟨hk, hI⟩
      refine CW.seq ?_
      refine CW.seq ?_
      refine CW.region ?_
      refine LW.v rfl rfl (Val.move rfl) ?_
      refine LW.v rfl rfl (Val.move rfl) ?_
      refine LW.v rfl rfl (Val.lenSl rfl Try.underlying48) ?_
      refine LW.v rfl rfl (Val.cmp rfl rfl rfl) ?_
      refine LW.nil ?_
      refine PQ.seq ?_
      refine CW.cond rfl (fun h48 => ?_) (fun h48 => ?_)
      · replace h48 := bT h48
        refine CW.skip ?_
        refine PQ.seq ?_
        refine CW.seq ?_
        refine CW.block ?_
        refine CW.seq ?_
        refine CW.region ?_
        refine LW.v rfl rfl (Val.move rfl) ?_
        refine LW.v rfl rfl (Val.move rfl) ?_
        obtain ⟨bb, oo, s, rfl, hb, hs, h⟩ := V.slAt_at h hn (k := k.1) (by omega)
        first | (refine LW.v rfl rfl (Val.indexAddrN rfl rfl Try.underlying48 Try.sizeOf57 (by omega)) ?_) | (refine LW.v rfl rfl (Val.indexAddr rfl rfl Try.underlying48 Try.sizeOf57 (by omega) (by omega)) ?_)
        refine LW.v rfl rfl (Val.fieldAddr 1 rfl Try.underlying57 rfl rfl Try.sizeOf3) ?_
        refine LW.v rfl rfl (Val.loadO rfl Try.isAgg3 hb (by simp [ids]) (h k.1 s hs 1 _ rfl)) ?_
        refine LW.v rfl rfl (Val.assign rfl) ?_
        refine LW.nil ?_
        refine PQ.seq ?_
        refine CW.seq ?_
        refine CW.join (fun x : Int × List Int => Inv8 m (k.1 + 1) x.1 x.2) (fun x => [(1, .slice (some ⟨bb, oo, none⟩) n cap), (2, .int .u64 e0), (7, .pointer (some ⟨b, 0, none⟩)), (9, .pointer (some ⟨c, 0, none⟩)), (11, .int .i64 (k.1 : Nat))]) (fun x => rdG b a x.1 x.2 ++ rfG c d x.1 x.2) ?_ ?_
        · refine CW.seq ?_
          refine CW.region ?_
          refine LW.v rfl rfl (Val.move rfl) ?_
          refine LW.v rfl rfl (Val.move rfl) ?_
          first | (refine LW.v rfl rfl (Val.indexAddrN rfl rfl Try.underlying48 Try.sizeOf57 (by omega)) ?_) | (refine LW.v rfl rfl (Val.indexAddr rfl rfl Try.underlying48 Try.sizeOf57 (by omega) (by omega)) ?_)
          refine LW.v rfl rfl (Val.fieldAddr 0 rfl Try.underlying57 rfl rfl Try.sizeOf3) ?_
          refine LW.v rfl rfl (Val.loadO rfl Try.isAgg3 hb (by simp [ids]) (h k.1 s hs 0 _ rfl)) ?_
          refine LW.nil ?_
          refine PQ.seq ?_
          refine CW.block ?_
          refine CW.seq ?_
          refine CW.region ?_
          refine LW.v rfl rfl (Val.cmp rfl rfl rfl) ?_
          refine LW.v rfl rfl (Val.assign rfl) ?_
          refine LW.nil ?_
          refine PQ.seq ?_
          refine CW.cond rfl (fun h61 => ?_) (fun h61 => ?_)
          · replace h61 := bT h61
            refine CW.seq ?_
            refine CW.region ?_
            refine LW.v rfl rfl (Val.move rfl) ?_
            refine LW.v rfl rfl (Val.move rfl) ?_
            refine LW.e rfl rfl (Eff.callM (rdG b a k.2.1 k.2.2) (by repeat (first | exact .nil | apply Pick.cons | exact .here | apply Ext.there)) rfl Try.call29 (fun w hw hs => enter_c b a k.2.1 k.2.2 s.t w hs)) ?_
            intro _ _
            refine LW.v rfl rfl (Val.move rfl) ?_
            refine LW.v rfl rfl (Val.extract rfl rfl) ?_
            refine LW.v rfl rfl (Val.extract rfl rfl) ?_
            refine LW.v rfl rfl (Val.assign rfl) ?_
            refine LW.v rfl rfl (Val.assign rfl) ?_
            refine LW.nil ?_
            refine PQ.seq ?_
            refine CW.seq ?_
            refine CW.region ?_
            refine LW.v rfl rfl (Val.move rfl) ?_
            refine LW.v rfl rfl (Val.move rfl) ?_
            refine LW.e rfl rfl (Eff.callM (rfG c d k.2.1 k.2.2) (by repeat (first | exact .nil | apply Pick.cons | exact .here | apply Ext.there)) rfl Try.call30 (fun w hw hs => refEnter_c c d k.2.1 k.2.2 s.t w hs hI.2.1)) ?_
            intro _ _
            refine LW.v rfl rfl (Val.move rfl) ?_
            refine LW.v rfl rfl (Val.extract rfl rfl) ?_
            refine LW.v rfl rfl (Val.extract rfl rfl) ?_
            refine LW.v rfl rfl (Val.assign rfl) ?_
            refine LW.v rfl rfl (Val.assign rfl) ?_
            refine LW.nil ?_
            refine PQ.seq ?_
            refine CW.seq ?_
            refine CW.region ?_
            refine LW.v rfl rfl (Val.move rfl) ?_
            refine LW.v rfl rfl (Val.move rfl) ?_
            refine LW.v rfl rfl (Val.cmp rfl rfl rfl) ?_
            refine LW.re 77 (.bool false) rfl (by simp) ?_
            refine LW.v rfl rfl (Val.move rfl) ?_
            refine LW.v rfl rfl (Val.move rfl) ?_
            refine LW.e rfl rfl (Eff.callV rfl Try.call28 (fun w hw => num_c _ w)) ?_
            intro _ _
            refine LW.v rfl rfl (Val.move rfl) ?_
            refine LW.v rfl rfl (Val.cmp rfl rfl rfl) ?_
            refine LW.re 82 (.bool false) rfl (by simp) ?_
            refine LW.v rfl rfl (Val.pick_f rfl rfl) ?_
            refine LW.nil ?_
            refine PQ.seq ?_
            refine CW.cond_f rfl ?_
            refine CW.skip ?_
            refine PQ.in_normal ?_
            refine PQ.joinedC ((k.2.1, (enF k.2.1 k.2.2 s.t).1)) (hI.en s.t) (by repeat (first | exact trivial | refine ⟨rfl, ?_⟩)) (by repeat (first | exact .nil | apply Pick.cons | exact .here | apply Ext.there))
          · replace h61 := bF h61
            refine CW.seq ?_
            refine CW.region ?_
            refine LW.v rfl rfl (Val.cmp rfl rfl rfl) ?_
            refine LW.v rfl rfl (Val.assign rfl) ?_
            refine LW.nil ?_
            refine PQ.seq ?_
            refine CW.cond rfl (fun h84 => ?_) (fun h84 => ?_)
            · replace h84 := bT h84
              refine CW.seq ?_
              refine CW.region ?_
              refine LW.v rfl rfl (Val.move rfl) ?_
              refine LW.v rfl rfl (Val.move rfl) ?_
              refine LW.e rfl rfl (Eff.callM (rdG b a k.2.1 k.2.2) (by repeat (first | exact .nil | apply Pick.cons | exact .here | apply Ext.there)) rfl Try.call31 (fun w hw hs => leave_c b a k.2.1 k.2.2 s.t w hs)) ?_
              intro _ _
              refine LW.e rfl rfl (Eff.callV rfl Try.call28 (fun w hw => num_c _ w)) ?_
              intro _ _
              refine LW.v rfl rfl (Val.move rfl) ?_
              refine LW.v rfl rfl (Val.move rfl) ?_
              refine LW.e rfl rfl (Eff.callM (rfG c d k.2.1 k.2.2) (by repeat (first | exact .nil | apply Pick.cons | exact .here | apply Ext.there)) rfl Try.call32 (fun w hw hs => refLeave_c c d k.2.1 k.2.2 s.t w hs)) ?_
              intro _ _
              refine LW.v rfl rfl (Val.cmp rfl rfl rfl) ?_
              refine LW.re 93 (.bool false) rfl (by simp) ?_
              refine LW.nil ?_
              refine PQ.seq ?_
              refine CW.cond_f rfl ?_
              refine CW.skip ?_
              refine PQ.in_normal ?_
              refine PQ.joinedC ((k.2.1, (leF k.2.2 s.t).1)) (hI.le s.t) (by repeat (first | exact trivial | refine ⟨rfl, ?_⟩)) (by repeat (first | exact .nil | apply Pick.cons | exact .here | apply Ext.there))
            · replace h84 := bF h84
              refine CW.seq ?_
              refine CW.region ?_
              refine LW.v rfl rfl (Val.cmp rfl rfl rfl) ?_
              refine LW.v rfl rfl (Val.assign rfl) ?_
              refine LW.nil ?_
              refine PQ.seq ?_
              refine CW.cond rfl (fun h94 => ?_) (fun h94 => ?_)
              · replace h94 := bT h94
                refine CW.seq ?_
                refine CW.region ?_
                refine LW.v rfl rfl (Val.move rfl) ?_
                refine LW.e rfl rfl (Eff.callM (rdG b a k.2.1 k.2.2) (by repeat (first | exact .nil | apply Pick.cons | exact .here | apply Ext.there)) rfl Try.call33 (fun w hw hs => adv_c b a k.2.1 k.2.2 w hs ⟨by have := hI.2.2.1; omega, by have := hI.2.2.2; omega⟩)) ?_
                intro _ _
                refine LW.v rfl rfl (Val.move rfl) ?_
                refine LW.e rfl rfl (Eff.callM (rfG c d k.2.1 k.2.2) (by repeat (first | exact .nil | apply Pick.cons | exact .here | apply Ext.there)) rfl Try.call34 (fun w hw hs => refAdv_c c d k.2.1 k.2.2 w hs ⟨by have := hI.2.2.1; omega, by have := hI.2.2.2; omega⟩)) ?_
                intro _ _
                refine LW.v rfl rfl (Val.cmp rfl rfl rfl) ?_
                refine LW.re 100 (.bool false) rfl (by simp) ?_
                refine LW.nil ?_
                refine PQ.seq ?_
                refine CW.cond_f rfl ?_
                refine CW.skip ?_
                refine PQ.in_normal ?_
                refine PQ.joinedC ((k.2.1 + 1, k.2.2)) (hI.adv) (by repeat (first | exact trivial | refine ⟨rfl, ?_⟩)) (by repeat (first | exact .nil | apply Pick.cons | exact .here | apply Ext.there))
              · replace h94 := bF h94
                refine CW.skip ?_
                refine PQ.in_normal ?_
                refine PQ.joinedC ((k.2.1, k.2.2)) (hI.id) (by repeat (first | exact trivial | refine ⟨rfl, ?_⟩)) (by repeat (first | exact .nil | apply Pick.cons | exact .here | apply Ext.there))
        · intro x hx
          refine PQ.seq ?_
          refine CW.seq ?_
          refine CW.region ?_
          refine LW.v rfl rfl (Val.move rfl) ?_
          refine LW.v rfl rfl (Val.move rfl) ?_
          refine LW.v rfl rfl (Val.move rfl) ?_
          refine LW.e rfl rfl (Eff.callV rfl Try.call35 (fun w hw => alike_c b a c d x.1 x.2 e0 w (hw.sat.pick (ss := rdG b a x.1 x.2 ++ rfG c d x.1 x.2) (by repeat (first | exact .nil | apply Pick.cons | exact .here | apply Ext.there))) hx.2.1 (by have := hx.1; omega))) ?_
          intro _ _
          refine LW.v rfl rfl (Val.not rfl) ?_
          refine LW.nil ?_
          refine PQ.seq ?_
          refine CW.cond_f rfl ?_
          refine CW.skip ?_
          refine PQ.in_normal ?_
          refine PQ.seq ?_
          refine CW.region ?_
          refine LW.v rfl rfl (Val.move rfl) ?_
          refine LW.v rfl rfl (Val.ar rfl rfl rfl (IntWalk.i64_in _ (by omega))) ?_
          refine LW.v rfl rfl (Val.assign rfl) ?_
          refine LW.nil ?_
          refine PQ.round ((k.1 + 1, x.1, x.2)) ⟨by simp only; omega, hx⟩ (by simp only; omega) (by repeat (first | exact trivial | refine ⟨rfl, ?_⟩)) (by repeat (first | exact .nil | apply Pick.cons | exact .here | apply Ext.there))
      · replace h48 := bF h48
        refine CW.exit ?_
        refine PQ.then_exit ?_
        refine PQ.then_exit ?_
        refine PQ.in_here ?_
        refine PQ.seq ?_
        refine CW.seq ?_
        refine CW.region ?_
        refine LW.v rfl rfl (Val.move rfl) ?_
        refine LW.v rfl rfl (Val.move rfl) ?_
        refine LW.v rfl rfl (Val.move rfl) ?_
        refine LW.e rfl rfl (Eff.callV rfl Try.call35 (fun w hw => alike_c b a c d k.2.1 k.2.2 e0 w (hw.sat.pick (ss := rdG b a k.2.1 k.2.2 ++ rfG c d k.2.1 k.2.2) (by repeat (first | exact .nil | apply Pick.cons | exact .here | apply Ext.there))) hI.2.1 (by have := hI.1; omega))) ?_
        intro _ _
        refine LW.v rfl rfl (Val.move rfl) ?_
        refine LW.e rfl rfl (Eff.callV rfl Try.call25 (fun w hw => awake8_c w)) ?_
        intro _ _
        refine LW.v rfl rfl (Val.pick_t rfl rfl) ?_
        refine LW.v rfl rfl (Val.assign rfl) ?_
        refine LW.nil ?_
        refine PQ.seq ?_
        refine CW.ret ?_
        refine PQ.ret1 rfl rfl ?_
        intro w hw; exact ⟨rfl, hw.below⟩
end Go.Proofs.Ytgeblajdjdcghaa
