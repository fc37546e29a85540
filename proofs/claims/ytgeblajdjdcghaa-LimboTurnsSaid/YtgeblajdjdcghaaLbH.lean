/- LimboTurns: the walk of the law. -/
import Derived.Test.YtgeblajdjdcghaaLbI
import Derived.Lib.Hide
namespace Go.Proofs.Ytgeblajdjdcghaa
open Go Go.RowKit V
set_option linter.unusedVariables false
set_option maxRecDepth 100000
def iC (x : Int) : List Value := [.int .i64 x]
def bitI (a : Int) : Int := IntKind.i64.wrap (BitVec.ofInt IntKind.i64.bits a &&& BitVec.ofInt IntKind.i64.bits 1).toNat
def bitU (a : Int) : Int := IntKind.u64.wrap (bitI a)
theorem bitU_range (a : Int) : 0 ≤ bitU a ∧ bitU a ≤ 1 := by
  have h : (BitVec.ofInt IntKind.i64.bits a &&& BitVec.ofInt IntKind.i64.bits 1).toNat ≤ 1 := by
    rw [BitVec.toNat_and]
    exact Nat.le_trans Nat.and_le_right (by decide)
  unfold bitU bitI
  rw [IntWalk.i64_in _ (by omega), IntWalk.u64_in _ (by omega)]
  omega
def Rise (l : List En) : Prop := l.Pairwise fun y z => y.r ≤ z.r ∧ y.d ≤ z.d
structure Tin (i : Nat) (l : List En) (x : En) : Prop where
  len : l.length = i
  may : x.cls = 0 ∧ x.anti = -1
  r : 1 ≤ x.r ∧ x.r ≤ 1 + i
  d : 1 ≤ x.d ∧ x.d ≤ 1 + i
  at_ : ∀ (j : Nat) (y : En), l[j]? = some y → y.line = 2 + (j : Int)
  le : ∀ y ∈ l, y.r ≤ x.r ∧ y.d ≤ x.d
  rise : Rise l
theorem Tin.step {i : Nat} {l : List En} {x : En} (h : Tin i l x) {s u : Int} (hs : 0 ≤ s ∧ s ≤ 1) (hu : 0 ≤ u ∧ u ≤ 1) : Tin (i + 1) (l ++ [⟨2 + (i : Int), x.cls, x.r + s, x.d + u, x.anti⟩]) ⟨2 + (i : Int), x.cls, x.r + s, x.d + u, x.anti⟩ := by
  have hr := h.r
  have hd := h.d
  refine ⟨by simp [h.len], h.may, by simp only; omega, by simp only; omega, fun j y hy => ?_, fun y hy => ?_, ?_⟩
  · rw [List.getElem?_append] at hy
    split at hy
    · exact h.at_ j y hy
    · rename_i hj
      have hj2 : j - l.length = 0 := by
        have := (List.getElem?_eq_some_iff.1 hy).1
        simp at this; omega
      rw [hj2] at hy
      simp at hy
      subst hy
      have := h.len
      simp only; omega
  · simp only [List.mem_append, List.mem_singleton] at hy
    rcases hy with hy | rfl
    · have := h.le y hy; simp only; omega
    · simp only; omega
  · refine List.pairwise_append.2 ⟨h.rise, by simp, fun y hy z hz => ?_⟩
    simp only [List.mem_singleton] at hz
    subst hz
    have := h.le y hy
    simp only; omega
structure Tout (n m : Nat) (l : List En) : Prop where
  len : l.length + m = n
  at_ : ∀ (j : Nat) (y : En), l[j]? = some y → y.line = 2 + (m : Int) + j
  rise : Rise l
theorem quF_le {rl : List Int} {a b : Int} (h : a ≤ b) (hq : quF rl b = true) : quF rl a = true := by
  unfold quF at *
  rw [List.all_eq_true] at *
  intro x hx
  have := hq x hx
  simp at this ⊢
  omega
theorem rdy_le {rl : List Int} {du : Int} {y z : En} (h : y.r ≤ z.r ∧ y.d ≤ z.d) (hz : rdy rl du z = true) : rdy rl du y = true := by
  unfold rdy at *
  simp only [Bool.and_eq_true, decide_eq_true_eq] at *
  exact ⟨by omega, quF_le h.1 hz.2⟩
theorem turns_pop {n m : Nat} {l l' : List En} {rl : List Int} {du : Int} {r : Option En} (h : Tout n m l) (hp : PopR rl du l r l') : (r = none ∧ l' = l) ∨ ∃ x, r = some x ∧ l = x :: l' := by
  rcases hp with ⟨h1, h2, _⟩ | ⟨A, x, C, h1, h2, h3, h4, h5⟩
  · exact .inl ⟨h1, h2⟩
  · cases A with
    | nil => exact .inr ⟨x, h2, by rw [h1, h3]; rfl⟩
    | cons y A =>
      have hr := h.rise
      rw [h1] at hr
      have hyx := (List.pairwise_cons.1 hr).1 x (by simp)
      have := rdy_le hyx h4
      rw [h5 y (by simp)] at this
      cases this
theorem Tout.tail {n m : Nat} {x : En} {l : List En} (h : Tout n m (x :: l)) : Tout n (m + 1) l := by
  refine ⟨by have := h.len; simp at this; omega, fun j y hy => ?_, (List.pairwise_cons.1 h.rise).2⟩
  have := h.at_ (j + 1) y (by simpa using hy)
  omega
theorem Tout.hd {n m : Nat} {x : En} {l : List En} (h : Tout n m (x :: l)) : x.line = 2 + (m : Int) := by
  have := h.at_ 0 x rfl
  omega
theorem Tin.out {n : Nat} {l : List En} {x : En} (h : Tin n l x) : Tout n 0 l := ⟨by simp [h.len], fun j y hy => by have := h.at_ j y hy; omega, h.rise⟩
theorem limboTurns_c (p1 : Option Addr) (n1 c1 : Nat) (steps : List Int) (p2 : Option Addr) (n2 c2 : Nat) (pops : List Int) (w : World) (hn1 : steps.length = n1) (h1 : V.slAt w p1 1 iC steps) (hn2 : pops.length = n2) (h2 : V.slAt w p2 1 iC pops) : Calls Try.prog 12 [.slice p1 n1 c1, .slice p2 n2 c2].toArray w fun e w' => e = .returned (.bool true) ∧ Below w.heap.size w w' := by
  refine V.calls [] Try.func12 rfl Try.ntmps12 (Nat.le_of_ble_eq_true rfl) (V.sat_nil _) ?_
  refine CW.seq ?_
  refine CW.region ?_
  refine LW.v rfl rfl (Val.assign rfl) ?_
  refine LW.nil ?_
  refine PQ.seq ?_
  refine CW.seq ?_
  refine CW.seq ?_
  refine CW.region ?_
  refine LW.v rfl rfl (Val.move rfl) ?_
  refine LW.v rfl rfl (Val.lenSl rfl Try.underlying89) ?_
  refine LW.v rfl rfl (Val.cmp rfl rfl rfl) ?_
  refine LW.v rfl rfl (Val.move rfl) ?_
  refine LW.split (d := 17) rfl (fun h17 => ?_) (fun h17 => ?_)
  · replace h17 := bT h17
    refine LW.p rfl rfl ?_
    refine LW.p rfl rfl ?_
    refine LW.p rfl rfl ?_
    refine LW.v rfl rfl (Val.pick_t rfl rfl) ?_
    refine LW.nil ?_
    refine PQ.seq ?_
    refine CW.cond_t rfl ?_
    refine CW.seq ?_
    refine CW.region ?_
    refine LW.e rfl rfl (Eff.callV rfl Try.call45 (fun w hw => awake10_c w)) ?_
    intro _ _
    refine LW.v rfl rfl (Val.assign rfl) ?_
    refine LW.nil ?_
    refine PQ.seq ?_
    refine CW.ret ?_
    refine PQ.then_ret ?_
    refine PQ.ret1 rfl rfl ?_
    intro w' hw; exact ⟨rfl, hw.below⟩
  · replace h17 := bF h17
    refine LW.v rfl rfl (Val.move rfl) ?_
    refine LW.v rfl rfl (Val.lenSl rfl Try.underlying89) ?_
    refine LW.v rfl rfl (Val.cmp rfl rfl rfl) ?_
    refine LW.v rfl rfl (Val.pick_f rfl rfl) ?_
    refine LW.nil ?_
    refine PQ.seq ?_
    refine CW.cond rfl (fun h21 => ?_) (fun h21 => ?_)
    · replace h21 := bT h21
      refine CW.seq ?_
      refine CW.region ?_
      refine LW.e rfl rfl (Eff.callV rfl Try.call45 (fun w hw => awake10_c w)) ?_
      intro _ _
      refine LW.v rfl rfl (Val.assign rfl) ?_
      refine LW.nil ?_
      refine PQ.seq ?_
      refine CW.ret ?_
      refine PQ.then_ret ?_
      refine PQ.ret1 rfl rfl ?_
      intro w' hw; exact ⟨rfl, hw.below⟩
    · replace h21 := bF h21
      refine CW.skip ?_
      refine PQ.seq ?_
      refine CW.seq ?_
      refine CW.region ?_
      refine LW.e rfl rfl (Eff.callM ([]) (by repeat (first | exact .nil | apply Pick.cons | exact .here | apply Ext.there)) rfl Try.call41 (fun w hw hs => lnewP_c w)) ?_
      intro b _
      refine LW.v rfl rfl (Val.assign rfl) ?_
      refine LW.nil ?_
      refine PQ.seq ?_
      refine CW.seq ?_
      refine CW.region ?_
      refine LW.e rfl rfl (Eff.callM ([]) (by repeat (first | exact .nil | apply Pick.cons | exact .here | apply Ext.there)) rfl Try.call26 (fun w hw hs => new_c 2 w (by omega))) ?_
      rintro ⟨rb, ra⟩ _
      refine LW.v rfl rfl (Val.move rfl) ?_
      refine LW.v rfl rfl (Val.extract rfl rfl) ?_
      refine LW.v rfl rfl (Val.extract rfl rfl) ?_
      refine LW.v rfl rfl (Val.assign rfl) ?_
      refine LW.v rfl rfl (Val.assign rfl) ?_
      refine LW.nil ?_
      refine PQ.seq ?_
      refine CW.seq ?_
      refine CW.seq ?_
      refine CW.region ?_
      refine LW.v rfl rfl (Val.move rfl) ?_
      refine LW.v rfl rfl (Val.eqP false rfl rfl Try.underlying76 (.inr ⟨rfl, rfl⟩)) ?_
      refine LW.v rfl rfl (Val.move rfl) ?_
      refine LW.v rfl rfl (Val.move rfl) ?_
      refine LW.v rfl rfl (Val.cmp rfl rfl rfl) ?_
      refine LW.v rfl rfl (Val.pick_f rfl rfl) ?_
      refine LW.nil ?_
      refine PQ.seq ?_
      refine CW.cond_f rfl ?_
      refine CW.skip ?_
      refine PQ.seq ?_
      refine CW.seq ?_
      refine CW.region ?_
      refine LW.e rfl rfl (Eff.callV rfl Try.call43 (fun w hw => plain_c 1 1 w)) ?_
      intro _ _
      refine LW.e rfl rfl (Eff.allocA (by exact Try.zeroValue80)) ?_
      intro b8 _
      first | (refine LW.eN rfl (Eff.storeW rfl rfl (by repeat (first | exact .here | apply Upd.there)) (by rfl) Try.sizeOf80 (by rfl)) ?_) | (refine LW.eN rfl (Eff.storeA (l' := _) rfl rfl (by repeat (first | exact .here | apply Upd.there)) (by rfl) (by decide) Try.sizeOf80 (by rfl)) ?_)
      intro _ _
      refine LW.nil ?_
      refine PQ.seq ?_
      refine CW.seq ?_
      refine CW.seq ?_
      refine CW.region ?_
      refine LW.v rfl rfl (Val.assign rfl) ?_
      refine LW.nil ?_
      refine PQ.seq ?_
      refine CW.block ?_
      refine CW.loop (γ := Nat × Option (Nat × List Value × Nat) × List En × En) (fun k => [(0, .slice p1 n1 c1), (1, .slice p2 n2 c2), (5, .pointer (some ⟨b, 0, none⟩)), (6, .pointer (some ⟨rb, 0, none⟩)), (8, .pointer (some ⟨b8, 0, none⟩)), (9, .int .i64 (k.1 : Nat))]) (fun k => bgP 124 b k.2.1 k.2.2.1 ++ [[(b8, .cells (enC k.2.2.2).toArray 80 (0, 0))]] ++ rdG rb ra 1 (List.replicate 2 0)) (fun k => k.1 ≤ n1 ∧ bgOk k.2.1 k.2.2.1 ∧ Tin k.1 k.2.2.1 k.2.2.2) (fun k => n1 - k.1) ((0, none, [], plE 1 1)) ⟨Nat.zero_le _, rfl, rfl, ⟨rfl, rfl⟩, by simp [plE], by simp [plE], by simp, by simp, List.Pairwise.nil⟩ (by repeat (first | exact trivial | refine ⟨rfl, ?_⟩)) (by repeat (first | exact .nil | apply Pick.cons | exact .here | apply Ext.there)) ?_
      intro k
      rintro ⟨hkn, hk, hT⟩
      refine CW.seq ?_
      refine CW.seq ?_
      refine CW.region ?_
      refine LW.v rfl rfl (Val.move rfl) ?_
      refine LW.v rfl rfl (Val.move rfl) ?_
      refine LW.v rfl rfl (Val.lenSl rfl Try.underlying89) ?_
      refine LW.v rfl rfl (Val.cmp rfl rfl rfl) ?_
      refine LW.nil ?_
      refine PQ.seq ?_
      refine CW.cond rfl (fun h38 => ?_) (fun h38 => ?_)
      · replace h38 := bT h38
        refine CW.skip ?_
        refine PQ.seq ?_
        refine CW.seq ?_
        refine CW.block ?_
        refine CW.seq ?_
        refine CW.drawn ([]) mixed (by repeat (first | exact .nil | apply Pick.cons | exact .here | apply Ext.there)) ?_
        refine RW.v 0 rfl (by kernel_rfl) (by kernel_rfl) (by kernel_rfl) (fun _ _ _ h => h) rfl rfl (Val.fieldAddr 2 rfl Try.underlying80 rfl rfl Try.sizeOf28) ?_
        refine RW.v 2 rfl (by kernel_rfl) (by kernel_rfl) (by kernel_rfl) (fun _ _ _ h => h) rfl rfl (Val.move rfl) ?_
        obtain ⟨bb, oo, sv, rfl, hb, hsv, hh⟩ := V.slAt_at h1 hn1 (k := k.1) (by omega)
        have hb1 := bitU_range sv
        have hb2 := bitU_range (sv.fdiv (2 ^ (min (1 : Int).toNat IntKind.i64.bits)))
        have hTr := hT.r
        have hTd := hT.d
        refine RW.v 3 rfl (by kernel_rfl) (by kernel_rfl) (by kernel_rfl) (fun _ _ _ h => h) rfl rfl (Val.move rfl) ?_
        first | (refine RW.v 4 rfl (by kernel_rfl) (by kernel_rfl) (by kernel_rfl) (fun _ _ _ h => h) rfl rfl (Val.indexAddrN rfl rfl Try.underlying89 Try.sizeOf3 (by omega)) ?_) | (refine RW.v 4 rfl (by kernel_rfl) (by kernel_rfl) (by kernel_rfl) (fun _ _ _ h => h) rfl rfl (Val.indexAddr rfl rfl Try.underlying89 Try.sizeOf3 (by omega) (by omega)) ?_)
        refine RW.v 5 rfl (by kernel_rfl) (by kernel_rfl) (by kernel_rfl) (fun _ _ _ h => h) rfl rfl (Val.loadO rfl Try.isAgg3 hb (by simp [ids]) (hh k.1 sv hsv 0 _ rfl)) ?_
        refine RW.v 6 rfl (by kernel_rfl) (by kernel_rfl) (by kernel_rfl) (fun _ _ _ h => h) rfl rfl (Val.and rfl rfl) ?_
        refine RW.v 7 rfl (by kernel_rfl) (by kernel_rfl) (by kernel_rfl) (fun _ _ _ h => h) rfl rfl (Val.convI rfl Try.underlying3 Try.underlying28) ?_
        refine RW.re 48 (.int .u64 (bitU sv)) rfl rfl ?_
        refine RW.e 1 rfl (by kernel_rfl) rfl rfl (Eff.ofVal (Val.load rfl Try.isAgg28 (by repeat (first | exact .here | refine .there ?_)) (by rfl))) (fun x => ⟨_, (by repeat (first | exact .nil | apply Pick.cons | exact .here | apply Ext.there))⟩) ?_
        intro _ _
        refine RW.v 8 rfl (by kernel_rfl) (by kernel_rfl) (by kernel_rfl) (fun _ _ _ h => h) rfl rfl (Val.ar rfl rfl rfl (IntWalk.u64_in _ (by omega))) ?_
        refine RW.v 9 rfl (by kernel_rfl) (by kernel_rfl) (by kernel_rfl) (fun _ _ _ h => h) rfl rfl (Val.fieldAddr 2 rfl Try.underlying80 rfl rfl Try.sizeOf28) ?_
        refine RW.eN 10 rfl (by kernel_rfl) rfl (Eff.store rfl rfl rfl (by repeat (first | exact .here | apply Upd.there)) (by rfl) (by rfl) Try.sizeOf28) (fun x => ⟨_, (by repeat (first | exact .nil | apply Pick.cons | exact .here | apply Ext.there))⟩) ?_
        intro _ _
        refine RW.done (by kernel_rfl) ?_
        refine PQ.seq ?_
        refine CW.seq ?_
        refine CW.drawn ([]) mixed (by repeat (first | exact .nil | apply Pick.cons | exact .here | apply Ext.there)) ?_
        refine RW.v 0 rfl (by kernel_rfl) (by kernel_rfl) (by kernel_rfl) (fun _ _ _ h => h) rfl rfl (Val.fieldAddr 3 rfl Try.underlying80 rfl rfl Try.sizeOf28) ?_
        refine RW.v 2 rfl (by kernel_rfl) (by kernel_rfl) (by kernel_rfl) (fun _ _ _ h => h) rfl rfl (Val.move rfl) ?_
        refine RW.v 3 rfl (by kernel_rfl) (by kernel_rfl) (by kernel_rfl) (fun _ _ _ h => h) rfl rfl (Val.move rfl) ?_
        first | (refine RW.v 4 rfl (by kernel_rfl) (by kernel_rfl) (by kernel_rfl) (fun _ _ _ h => h) rfl rfl (Val.indexAddrN rfl rfl Try.underlying89 Try.sizeOf3 (by omega)) ?_) | (refine RW.v 4 rfl (by kernel_rfl) (by kernel_rfl) (by kernel_rfl) (fun _ _ _ h => h) rfl rfl (Val.indexAddr rfl rfl Try.underlying89 Try.sizeOf3 (by omega) (by omega)) ?_)
        refine RW.v 5 rfl (by kernel_rfl) (by kernel_rfl) (by kernel_rfl) (fun _ _ _ h => h) rfl rfl (Val.loadO rfl Try.isAgg3 hb (by simp [ids]) (hh k.1 sv hsv 0 _ rfl)) ?_
        refine RW.v 6 rfl (by kernel_rfl) (by kernel_rfl) (by kernel_rfl) (fun _ _ _ h => h) rfl rfl (Val.shr rfl rfl (by omega)) ?_
        refine RW.v 7 rfl (by kernel_rfl) (by kernel_rfl) (by kernel_rfl) (fun _ _ _ h => h) rfl rfl (Val.and rfl rfl) ?_
        refine RW.v 8 rfl (by kernel_rfl) (by kernel_rfl) (by kernel_rfl) (fun _ _ _ h => h) rfl rfl (Val.convI rfl Try.underlying3 Try.underlying28) ?_
        refine RW.re 59 (.int .u64 (bitU (sv.fdiv (2 ^ (min (1 : Int).toNat IntKind.i64.bits))))) rfl rfl ?_
        refine RW.e 1 rfl (by kernel_rfl) rfl rfl (Eff.ofVal (Val.load rfl Try.isAgg28 (by repeat (first | exact .here | refine .there ?_)) (by rfl))) (fun x => ⟨_, (by repeat (first | exact .nil | apply Pick.cons | exact .here | apply Ext.there))⟩) ?_
        intro _ _
        refine RW.v 9 rfl (by kernel_rfl) (by kernel_rfl) (by kernel_rfl) (fun _ _ _ h => h) rfl rfl (Val.ar rfl rfl rfl (IntWalk.u64_in _ (by omega))) ?_
        refine RW.v 10 rfl (by kernel_rfl) (by kernel_rfl) (by kernel_rfl) (fun _ _ _ h => h) rfl rfl (Val.fieldAddr 3 rfl Try.underlying80 rfl rfl Try.sizeOf28) ?_
        refine RW.eN 11 rfl (by kernel_rfl) rfl (Eff.store rfl rfl rfl (by repeat (first | exact .here | apply Upd.there)) (by rfl) (by rfl) Try.sizeOf28) (fun x => ⟨_, (by repeat (first | exact .nil | apply Pick.cons | exact .here | apply Ext.there))⟩) ?_
        intro _ _
        refine RW.done (by kernel_rfl) ?_
        refine PQ.seq ?_
        refine CW.seq ?_
        refine CW.region ?_
        refine LW.v rfl rfl (Val.move rfl) ?_
        refine LW.v rfl rfl (Val.ar rfl rfl rfl (IntWalk.i64_in _ (by omega))) ?_
        refine LW.v rfl rfl (Val.fieldAddr 0 rfl Try.underlying80 rfl rfl Try.sizeOf3) ?_
        refine LW.eN rfl (Eff.store rfl rfl rfl (by repeat (first | exact .here | apply Upd.there)) (by rfl) (by rfl) Try.sizeOf3) ?_
        intro _ _
        refine LW.nil ?_
        refine PQ.seq ?_
        refine CW.seq ?_
        refine CW.region ?_
        refine LW.v rfl rfl (Val.move rfl) ?_
        first | (refine LW.v rfl rfl (Val.loadW rfl Try.isAgg80 (by repeat (first | exact .here | refine .there ?_)) (by exact Try.sizeOf80)) ?_) | (refine LW.v rfl rfl (Val.loadA [_, _, _, _, _] rfl Try.isAgg80 (by repeat (first | exact .here | refine .there ?_)) (by rfl) Try.sizeOf80) ?_)
        refine LW.e rfl rfl (Eff.callM (bgP 124 b k.2.1 k.2.2.1) (by repeat (first | exact .nil | apply Pick.cons | exact .here | apply Ext.there)) rfl Try.call42 (fun w hw hs => putOk_c b k.2.1 k.2.2.1 hk (by have := hT.len; omega) ⟨2 + (k.1 : Int), k.2.2.2.cls, k.2.2.2.r + bitU sv, k.2.2.2.d + bitU (sv.fdiv (2 ^ (min (1 : Int).toNat IntKind.i64.bits))), k.2.2.2.anti⟩ ⟨by simp only; omega, by simp only; omega, by simp only; have := hT.may; omega, by simp only; have := hT.may; omega, by simp only; have := hT.may; omega, by simp only; have := hT.may; omega⟩ w hs)) ?_
        intro o2 ho2
        refine LW.v rfl rfl (Val.cmp rfl rfl rfl) ?_
        refine LW.nil ?_
        refine PQ.seq ?_
        refine CW.cond_f rfl ?_
        refine CW.skip ?_
        refine PQ.in_normal ?_
        refine PQ.seq ?_
        refine CW.region ?_
        refine LW.v rfl rfl (Val.move rfl) ?_
        refine LW.v rfl rfl (Val.ar rfl rfl rfl (IntWalk.i64_in _ (by omega))) ?_
        refine LW.v rfl rfl (Val.assign rfl) ?_
        refine LW.nil ?_
        refine PQ.round ((k.1 + 1, o2, k.2.2.1 ++ [⟨2 + (k.1 : Int), k.2.2.2.cls, k.2.2.2.r + bitU sv, k.2.2.2.d + bitU (sv.fdiv (2 ^ (min (1 : Int).toNat IntKind.i64.bits))), k.2.2.2.anti⟩], ⟨2 + (k.1 : Int), k.2.2.2.cls, k.2.2.2.r + bitU sv, k.2.2.2.d + bitU (sv.fdiv (2 ^ (min (1 : Int).toNat IntKind.i64.bits))), k.2.2.2.anti⟩)) ⟨by simp only; omega, ho2, hT.step hb1 hb2⟩ (by simp only; omega) (by repeat (first | exact trivial | refine ⟨rfl, ?_⟩)) (by repeat (first | exact .nil | apply Pick.cons | exact .here | apply Ext.there))
      · replace h38 := bF h38
        refine CW.exit ?_
        refine PQ.then_exit ?_
        refine PQ.then_exit ?_
        refine PQ.in_here ?_
        refine PQ.seq ?_
        refine CW.seq ?_
        refine CW.region ?_
        refine LW.v rfl rfl (Val.assign rfl) ?_
        refine LW.nil ?_
        refine PQ.seq ?_
        refine CW.seq ?_
        refine CW.seq ?_
        refine CW.region ?_
        refine LW.v rfl rfl (Val.assign rfl) ?_
        refine LW.nil ?_
        refine PQ.seq ?_
        refine CW.block ?_
        have e1 : k.1 = n1 := by omega
        rw [e1] at hT
        have hT0 := hT.out
        refine CW.loop (γ := Nat × Int × List Int × Option (Nat × List Value × Nat) × List En × Nat) (fun k => [(0, .slice p1 n1 c1), (1, .slice p2 n2 c2), (5, .pointer (some ⟨b, 0, none⟩)), (6, .pointer (some ⟨rb, 0, none⟩)), (10, .int .i64 ((2 + k.2.2.2.2.2 : Nat) : Int)), (11, .int .i64 (k.1 : Nat))]) (fun k => bgP 124 b k.2.2.2.1 k.2.2.2.2.1 ++ rdG rb ra k.2.1 k.2.2.1) (fun k => k.1 ≤ n2 ∧ Inv8 2 k.1 k.2.1 k.2.2.1 ∧ bgOk k.2.2.2.1 k.2.2.2.2.1 ∧ Tout n1 k.2.2.2.2.2 k.2.2.2.2.1) (fun k => n2 - k.1) ((0, 1, List.replicate 2 0, k.2.1, k.2.2.1, 0)) ⟨Nat.zero_le _, Inv8.start 2, hk, hT0⟩ (by repeat (first | exact trivial | refine ⟨rfl, ?_⟩)) (by repeat (first | exact .nil | apply Pick.cons | exact .here | apply Ext.there)) ?_
        intro k
        rintro ⟨hkn, hI, hk, hT⟩
        have hTl := hT.len
        refine CW.seq ?_
        refine CW.seq ?_
        refine CW.region ?_
        refine LW.v rfl rfl (Val.move rfl) ?_
        refine LW.v rfl rfl (Val.move rfl) ?_
        refine LW.v rfl rfl (Val.lenSl rfl Try.underlying89) ?_
        refine LW.v rfl rfl (Val.cmp rfl rfl rfl) ?_
        refine LW.nil ?_
        refine PQ.seq ?_
        refine CW.cond rfl (fun h72 => ?_) (fun h72 => ?_)
        · replace h72 := bT h72
          refine CW.skip ?_
          refine PQ.seq ?_
          refine CW.seq ?_
          refine CW.block ?_
          refine CW.seq ?_
          refine CW.join (fun y : Int × List Int => Inv8 2 (k.1 + 1) y.1 y.2) (fun y => [(0, .slice p1 n1 c1), (1, .slice p2 n2 c2), (5, .pointer (some ⟨b, 0, none⟩)), (6, .pointer (some ⟨rb, 0, none⟩)), (10, .int .i64 ((2 + k.2.2.2.2.2 : Nat) : Int)), (11, .int .i64 (k.1 : Nat))]) (fun y => bgP 124 b k.2.2.2.1 k.2.2.2.2.1 ++ rdG rb ra y.1 y.2) ?_ ?_
          · refine CW.seq ?_
            refine CW.region ?_
            refine LW.v rfl rfl (Val.move rfl) ?_
            obtain ⟨bb, oo, sv, rfl, hb, hsv, hh⟩ := V.slAt_at h2 hn2 (k := k.1) (by omega)
            refine LW.v rfl rfl (Val.move rfl) ?_
            first | (refine LW.v rfl rfl (Val.indexAddrN rfl rfl Try.underlying89 Try.sizeOf3 (by omega)) ?_) | (refine LW.v rfl rfl (Val.indexAddr rfl rfl Try.underlying89 Try.sizeOf3 (by omega) (by omega)) ?_)
            refine LW.v rfl rfl (Val.loadO rfl Try.isAgg3 hb (by simp [ids]) (hh k.1 sv hsv 0 _ rfl)) ?_
            refine LW.v rfl rfl (Val.and rfl rfl) ?_
            refine LW.nil ?_
            refine PQ.seq ?_
            refine CW.block ?_
            refine CW.seq ?_
            refine CW.region ?_
            refine LW.v rfl rfl (Val.cmp rfl rfl rfl) ?_
            refine LW.v rfl rfl (Val.assign rfl) ?_
            refine LW.nil ?_
            refine PQ.seq ?_
            refine CW.cond rfl (fun h80 => ?_) (fun h80 => ?_)
            · replace h80 := bT h80
              refine CW.region ?_
              refine LW.v rfl rfl (Val.move rfl) ?_
              refine LW.e rfl rfl (Eff.callM (rdG rb ra k.2.1 k.2.2.1) (by repeat (first | exact .nil | apply Pick.cons | exact .here | apply Ext.there)) rfl Try.call33 (fun w hw hs => adv_c rb ra k.2.1 k.2.2.1 w hs ⟨by have := hI.2.2.1; omega, by have := hI.2.2.2; omega⟩)) ?_
              intro _ _
              refine LW.nil ?_
              refine PQ.in_normal ?_
              refine PQ.joinedC ((k.2.1 + 1, k.2.2.1)) (hI.adv) (by repeat (first | exact trivial | refine ⟨rfl, ?_⟩)) (by repeat (first | exact .nil | apply Pick.cons | exact .here | apply Ext.there))
            · replace h80 := bF h80
              refine CW.seq ?_
              refine CW.region ?_
              refine LW.v rfl rfl (Val.cmp rfl rfl rfl) ?_
              refine LW.v rfl rfl (Val.assign rfl) ?_
              refine LW.nil ?_
              refine PQ.seq ?_
              refine CW.cond rfl (fun h84 => ?_) (fun h84 => ?_)
              · replace h84 := bT h84
                refine CW.region ?_
                refine LW.v rfl rfl (Val.move rfl) ?_
                refine LW.v rfl rfl (Val.move rfl) ?_
                refine LW.v rfl rfl (Val.move rfl) ?_
                first | (refine LW.v rfl rfl (Val.indexAddrN rfl rfl Try.underlying89 Try.sizeOf3 (by omega)) ?_) | (refine LW.v rfl rfl (Val.indexAddr rfl rfl Try.underlying89 Try.sizeOf3 (by omega) (by omega)) ?_)
                refine LW.v rfl rfl (Val.loadO rfl Try.isAgg3 hb (by simp [ids]) (hh k.1 sv hsv 0 _ rfl)) ?_
                refine LW.v rfl rfl (Val.shr rfl rfl (by omega)) ?_
                refine LW.v rfl rfl (Val.and rfl rfl) ?_
                refine LW.re 92 (.int .i64 (bitI (sv.fdiv (2 ^ (min (2 : Int).toNat IntKind.i64.bits))))) rfl rfl ?_
                refine LW.e rfl rfl (Eff.callM (rdG rb ra k.2.1 k.2.2.1) (by repeat (first | exact .nil | apply Pick.cons | exact .here | apply Ext.there)) rfl Try.call29 (fun w hw hs => enter_c rb ra k.2.1 k.2.2.1 (bitI (sv.fdiv (2 ^ (min (2 : Int).toNat IntKind.i64.bits)))) w hs)) ?_
                intro _ _
                refine LW.nil ?_
                refine PQ.in_normal ?_
                refine PQ.joinedC ((k.2.1, (enF k.2.1 k.2.2.1 (bitI (sv.fdiv (2 ^ (min (2 : Int).toNat IntKind.i64.bits))))).1)) (hI.en _) (by repeat (first | exact trivial | refine ⟨rfl, ?_⟩)) (by repeat (first | exact .nil | apply Pick.cons | exact .here | apply Ext.there))
              · replace h84 := bF h84
                refine CW.seq ?_
                refine CW.region ?_
                refine LW.v rfl rfl (Val.cmp rfl rfl rfl) ?_
                refine LW.v rfl rfl (Val.assign rfl) ?_
                refine LW.nil ?_
                refine PQ.seq ?_
                refine CW.cond rfl (fun h94 => ?_) (fun h94 => ?_)
                · replace h94 := bT h94
                  refine CW.region ?_
                  refine LW.v rfl rfl (Val.move rfl) ?_
                  refine LW.v rfl rfl (Val.move rfl) ?_
                  refine LW.v rfl rfl (Val.move rfl) ?_
                  first | (refine LW.v rfl rfl (Val.indexAddrN rfl rfl Try.underlying89 Try.sizeOf3 (by omega)) ?_) | (refine LW.v rfl rfl (Val.indexAddr rfl rfl Try.underlying89 Try.sizeOf3 (by omega) (by omega)) ?_)
                  refine LW.v rfl rfl (Val.loadO rfl Try.isAgg3 hb (by simp [ids]) (hh k.1 sv hsv 0 _ rfl)) ?_
                  refine LW.v rfl rfl (Val.shr rfl rfl (by omega)) ?_
                  refine LW.v rfl rfl (Val.and rfl rfl) ?_
                  refine LW.re 102 (.int .i64 (bitI (sv.fdiv (2 ^ (min (2 : Int).toNat IntKind.i64.bits))))) rfl rfl ?_
                  refine LW.e rfl rfl (Eff.callM (rdG rb ra k.2.1 k.2.2.1) (by repeat (first | exact .nil | apply Pick.cons | exact .here | apply Ext.there)) rfl Try.call31 (fun w hw hs => leave_c rb ra k.2.1 k.2.2.1 (bitI (sv.fdiv (2 ^ (min (2 : Int).toNat IntKind.i64.bits)))) w hs)) ?_
                  intro _ _
                  refine LW.nil ?_
                  refine PQ.in_normal ?_
                  refine PQ.joinedC ((k.2.1, (leF k.2.2.1 (bitI (sv.fdiv (2 ^ (min (2 : Int).toNat IntKind.i64.bits))))).1)) (hI.le _) (by repeat (first | exact trivial | refine ⟨rfl, ?_⟩)) (by repeat (first | exact .nil | apply Pick.cons | exact .here | apply Ext.there))
                · replace h94 := bF h94
                  refine CW.skip ?_
                  refine PQ.in_normal ?_
                  refine PQ.joinedC ((k.2.1, k.2.2.1)) (hI.id) (by repeat (first | exact trivial | refine ⟨rfl, ?_⟩)) (by repeat (first | exact .nil | apply Pick.cons | exact .here | apply Ext.there))
          · intro y hy
            refine PQ.seq ?_
            refine CW.seq ?_
            refine CW.region ?_
            refine LW.v rfl rfl (Val.move rfl) ?_
            refine LW.v rfl rfl (Val.move rfl) ?_
            refine LW.v rfl rfl (Val.move rfl) ?_
            obtain ⟨bb, oo, sv, rfl, hb, hsv, hh⟩ := V.slAt_at h2 hn2 (k := k.1) (by omega)
            refine LW.v rfl rfl (Val.move rfl) ?_
            first | (refine LW.v rfl rfl (Val.indexAddrN rfl rfl Try.underlying89 Try.sizeOf3 (by omega)) ?_) | (refine LW.v rfl rfl (Val.indexAddr rfl rfl Try.underlying89 Try.sizeOf3 (by omega) (by omega)) ?_)
            refine LW.v rfl rfl (Val.loadO rfl Try.isAgg3 hb (by simp [ids]) (hh k.1 sv hsv 0 _ rfl)) ?_
            refine LW.v rfl rfl (Val.shr rfl rfl (by omega)) ?_
            refine LW.e rfl rfl (Eff.callR rfl Try.call37 (fun w hw => low_c _ 64 (by omega) w)) ?_
            intro lv hlv
            refine LW.v rfl rfl (Val.convI rfl Try.underlying3 Try.underlying28) ?_
            refine LW.e rfl rfl (Eff.callM (bgP 124 b k.2.2.2.1 k.2.2.2.2.1 ++ rdG rb ra y.1 y.2) (by repeat (first | exact .nil | apply Pick.cons | exact .here | apply Ext.there)) rfl Try.call47 (fun w hw hs => popP_c b k.2.2.2.1 k.2.2.2.2.1 rb ra y.1 y.2 hk (by have := hT.len; omega) hy.2.1 (by have := hy.1; omega) _ w hs)) ?_
            rintro ⟨r, o2, l2⟩ ⟨hP, hk2⟩
            have hz := turns_pop hT hP
            simp only at hz hk2
            refine LW.v rfl rfl (Val.move rfl) ?_
            refine LW.v rfl rfl (Val.extract rfl rfl) ?_
            refine LW.v rfl rfl (Val.extract rfl rfl) ?_
            refine LW.e rfl rfl (Eff.allocA (by exact Try.zeroValue80)) ?_
            intro b12 _
            first | (refine LW.eN rfl (Eff.storeW rfl rfl (by repeat (first | exact .here | apply Upd.there)) (by rfl) Try.sizeOf80 (by rfl)) ?_) | (refine LW.eN rfl (Eff.storeA (l' := _) rfl rfl (by repeat (first | exact .here | apply Upd.there)) (by rfl) (by decide) Try.sizeOf80 (by rfl)) ?_)
            intro _ _
            refine LW.v rfl rfl (Val.assign rfl) ?_
            refine LW.nil ?_
            refine PQ.seq ?_
            refine CW.seq ?_
            refine CW.seq ?_
            refine CW.region ?_
            refine LW.v rfl rfl (Val.move rfl) ?_
            refine LW.v rfl rfl (Val.move rfl) ?_
            refine LW.split (d := 118) rfl (fun h118 => ?_) (fun h118 => ?_)
            · replace h118 := bT h118
              refine LW.v rfl rfl (Val.fieldAddr 0 rfl Try.underlying80 rfl rfl Try.sizeOf3) ?_
              refine LW.v rfl rfl (Val.load rfl Try.isAgg3 (by repeat (first | exact .here | refine .there ?_)) (by rfl)) ?_
              refine LW.v rfl rfl (Val.move rfl) ?_
              refine LW.v rfl rfl (Val.cmp rfl rfl rfl) ?_
              refine LW.re 122 (.bool false) rfl (by rcases hz with ⟨hz1, hz2⟩ | ⟨x, hz1, hz2⟩; (rw [hz1] at h118; cases h118); rw [hz1]; rw [hz2] at hT; have := hT.hd; simp [this]) ?_
              refine LW.v rfl rfl (Val.pick_t rfl rfl) ?_
              refine LW.nil ?_
              refine PQ.seq ?_
              refine CW.cond_f rfl ?_
              refine CW.skip ?_
              refine PQ.seq ?_
              refine CW.seq ?_
              refine CW.region ?_
              refine LW.v rfl rfl (Val.move rfl) ?_
              refine LW.nil ?_
              refine PQ.seq ?_
              refine CW.cond rfl (fun h124 => ?_) (fun h124 => ?_)
              · replace h124 := bT h124
                refine CW.region ?_
                refine LW.v rfl rfl (Val.move rfl) ?_
                refine LW.v rfl rfl (Val.ar rfl rfl rfl (IntWalk.i64_in _ (by omega))) ?_
                refine LW.v rfl rfl (Val.assign rfl) ?_
                refine LW.nil ?_
                refine PQ.in_normal ?_
                refine PQ.seq ?_
                refine CW.region ?_
                refine LW.v rfl rfl (Val.move rfl) ?_
                refine LW.v rfl rfl (Val.ar rfl rfl rfl (IntWalk.i64_in _ (by omega))) ?_
                refine LW.v rfl rfl (Val.assign rfl) ?_
                refine LW.nil ?_
                rcases hz with ⟨hz1, hz2⟩ | ⟨x, hz1, hz2⟩
                · exact absurd h124 (by simp [hz1])
                rw [hz2] at hT
                refine PQ.round (k.1 + 1, y.1, y.2, o2, l2, k.2.2.2.2.2 + 1) ⟨by simp only; omega, hy, hk2, hT.tail⟩ (by simp only; omega) (by repeat (first | exact trivial | refine ⟨rfl, ?_⟩)) (by repeat (first | exact .nil | apply Pick.cons | exact .here | apply Ext.there))
              · replace h124 := bF h124
                refine CW.skip ?_
                refine PQ.in_normal ?_
                refine PQ.seq ?_
                refine CW.region ?_
                refine LW.v rfl rfl (Val.move rfl) ?_
                refine LW.v rfl rfl (Val.ar rfl rfl rfl (IntWalk.i64_in _ (by omega))) ?_
                refine LW.v rfl rfl (Val.assign rfl) ?_
                refine LW.nil ?_
                exact absurd h118 (by simp [h124])
            · replace h118 := bF h118
              refine LW.p rfl rfl ?_
              refine LW.p rfl rfl ?_
              refine LW.p rfl rfl ?_
              refine LW.p rfl rfl ?_
              refine LW.v rfl rfl (Val.pick_f rfl rfl) ?_
              refine LW.nil ?_
              refine PQ.seq ?_
              refine CW.cond_f rfl ?_
              refine CW.skip ?_
              refine PQ.seq ?_
              refine CW.seq ?_
              refine CW.region ?_
              refine LW.v rfl rfl (Val.move rfl) ?_
              refine LW.nil ?_
              refine PQ.seq ?_
              refine CW.cond rfl (fun h124 => ?_) (fun h124 => ?_)
              · replace h124 := bT h124
                refine CW.region ?_
                refine LW.v rfl rfl (Val.move rfl) ?_
                refine LW.v rfl rfl (Val.ar rfl rfl rfl (IntWalk.i64_in _ (by omega))) ?_
                refine LW.v rfl rfl (Val.assign rfl) ?_
                refine LW.nil ?_
                refine PQ.in_normal ?_
                refine PQ.seq ?_
                refine CW.region ?_
                refine LW.v rfl rfl (Val.move rfl) ?_
                refine LW.v rfl rfl (Val.ar rfl rfl rfl (IntWalk.i64_in _ (by omega))) ?_
                refine LW.v rfl rfl (Val.assign rfl) ?_
                refine LW.nil ?_
                exact absurd h124 (by simp [h118])
              · replace h124 := bF h124
                refine CW.skip ?_
                refine PQ.in_normal ?_
                refine PQ.seq ?_
                refine CW.region ?_
                refine LW.v rfl rfl (Val.move rfl) ?_
                refine LW.v rfl rfl (Val.ar rfl rfl rfl (IntWalk.i64_in _ (by omega))) ?_
                refine LW.v rfl rfl (Val.assign rfl) ?_
                refine LW.nil ?_
                rcases hz with ⟨hz1, hz2⟩ | ⟨x, hz1, hz2⟩
                · rw [← hz2] at hT
                  refine PQ.round (k.1 + 1, y.1, y.2, o2, l2, k.2.2.2.2.2) ⟨by simp only; omega, hy, hk2, hT⟩ (by simp only; omega) (by repeat (first | exact trivial | refine ⟨rfl, ?_⟩)) (by repeat (first | exact .nil | apply Pick.cons | exact .here | apply Ext.there))
                · exact absurd h124 (by simp [hz1])
        · replace h72 := bF h72
          refine CW.exit ?_
          refine PQ.then_exit ?_
          refine PQ.then_exit ?_
          refine PQ.in_here ?_
          refine PQ.seq ?_
          refine CW.seq ?_
          refine CW.region ?_
          refine LW.v rfl rfl (Val.move rfl) ?_
          refine LW.e rfl rfl (Eff.callV rfl Try.call44 (fun w hw => blenP_c b k.2.2.2.1 k.2.2.2.2.1 hk w (hw.sat.pick (ss := bgP 124 b k.2.2.2.1 k.2.2.2.2.1) (by repeat (first | exact .nil | apply Pick.cons | exact .here | apply Ext.there))))) ?_
          intro _ _
          refine LW.v rfl rfl (Val.move rfl) ?_
          refine LW.v rfl rfl (Val.lenSl rfl Try.underlying89) ?_
          refine LW.v rfl rfl (Val.move rfl) ?_
          refine LW.v rfl rfl (Val.ar rfl rfl rfl (IntWalk.i64_in _ (by omega))) ?_
          refine LW.v rfl rfl (Val.ar rfl rfl rfl (IntWalk.i64_in _ (by omega))) ?_
          refine LW.v rfl rfl (Val.cmp rfl rfl rfl) ?_
          refine LW.re 134 (.bool true) rfl (by have := hT.len; simp; omega) ?_
          refine LW.v rfl rfl (Val.move rfl) ?_
          refine LW.e rfl rfl (Eff.callV rfl Try.call45 (fun w hw => awake10_c w)) ?_
          intro _ _
          refine LW.v rfl rfl (Val.pick_t rfl rfl) ?_
          refine LW.v rfl rfl (Val.assign rfl) ?_
          refine LW.nil ?_
          refine PQ.seq ?_
          refine CW.ret ?_
          refine PQ.ret1 rfl rfl ?_
          intro w' hw; exact ⟨rfl, hw.below⟩
end Go.Proofs.Ytgeblajdjdcghaa
