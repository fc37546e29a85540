/- Lines compared; the calls that make one line another one. -/
import Derived.Test.YtipnpnkniihdjaaTwC
import Derived.Lib.Hide
namespace Go.Proofs.Ytipnpnkniihdjaa
open Go Go.RowKit V
set_option linter.unusedVariables false
set_option maxRecDepth 100000
open V (str byC ownV ownG ownS ownOk)
theorem equal_c (l1 l2 : List (List UInt8)) (p1 p2 : Option Addr) (n1 n2 c1 c2 : Nat) (hn1 : n1 = l1.length) (hn2 : n2 = l2.length) (hl : l1.length ≤ 100000) (w : World) (h1 : V.slAt w p1 1 stE l1) (h2 : V.slAt w p2 1 stE l2) : Calls Try.prog 33 [.slice p1 n1 c1, .slice p2 n2 c2].toArray w fun e w' => e = .returned (.bool (decide (l1 = l2))) ∧ Below w.heap.size w w' := by
  subst hn1; subst hn2
  refine V.calls [] Try.func33 rfl Try.ntmps33 (Nat.le_of_ble_eq_true rfl) (V.sat_nil _) ?_
  refine CW.seq ?_
  refine CW.region ?_
  refine LW.v rfl rfl (Val.assign rfl) ?_
  refine LW.nil ?_
  refine PQ.seq ?_
  refine CW.seq ?_
  refine CW.seq ?_
  refine CW.region ?_
  refine LW.v rfl rfl (Val.move rfl) ?_
  refine LW.v rfl rfl (Val.lenSl rfl Try.underlying23) ?_
  refine LW.v rfl rfl (Val.move rfl) ?_
  refine LW.v rfl rfl (Val.lenSl rfl Try.underlying23) ?_
  refine LW.v rfl rfl (Val.cmp rfl rfl rfl) ?_
  refine LW.nil ?_
  refine PQ.seq ?_
  refine CW.cond rfl (fun h10 => ?_) (fun h10 => ?_)
  · replace h10 := bT h10
    refine CW.seq ?_
    refine CW.region ?_
    refine LW.v rfl rfl (Val.assign rfl) ?_
    refine LW.nil ?_
    refine PQ.seq ?_
    refine CW.ret ?_
    refine PQ.then_ret ?_
    refine PQ.ret1 rfl rfl ?_
    intro w' hw; exact ⟨by rw [decide_eq_false (fun e => h10 (by rw [e]))], hw.below⟩
  · replace h10 := bF h10
    refine CW.skip ?_
    refine PQ.seq ?_
    refine CW.seq ?_
    refine CW.seq ?_
    refine CW.region ?_
    refine LW.v rfl rfl (Val.move rfl) ?_
    refine LW.v rfl rfl (Val.lenSl rfl Try.underlying23) ?_
    refine LW.v rfl rfl (Val.move rfl) ?_
    refine LW.nil ?_
    refine PQ.seq ?_
    refine CW.block ?_
    refine CW.loop (γ := Nat) (fun k => [(0, .slice p1 l1.length c1), (1, .slice p2 l2.length c2), (12, .int .i64 (l1.length : Nat)), (13, .int .i64 (k : Nat))]) (fun _ => []) (fun k => k ≤ l1.length ∧ l1.take k = l2.take k) (fun k => l1.length - k) (0) ⟨Nat.zero_le _, rfl⟩ (by repeat (first | exact trivial | refine ⟨rfl, ?_⟩)) (by repeat (first | exact .nil | apply Pick.cons | exact .here | apply Ext.there)) ?_
    intro k
    rintro ⟨hk1, hk2⟩
    refine CW.seq ?_
    refine CW.region ?_
    refine LW.v rfl rfl (Val.cmp rfl rfl rfl) ?_
    refine LW.nil ?_
    refine PQ.seq ?_
    refine CW.seq ?_
    refine CW.cond rfl (fun h14 => ?_) (fun h14 => ?_)
    · replace h14 := bT h14
      obtain ⟨b1, o1, x, rfl, hb1, hx1, hr1⟩ := V.slAt_at h1 rfl (k := k) (by omega)
      obtain ⟨b2, o2, y, rfl, hb2, hx2, hr2⟩ := V.slAt_at h2 rfl (k := k) (by omega)
      refine CW.skip ?_
      refine PQ.seq ?_
      refine CW.seq ?_
      refine CW.block ?_
      refine CW.seq ?_
      refine CW.region ?_
      refine LW.v rfl rfl (Val.move rfl) ?_
      refine LW.v rfl rfl (Val.assign rfl) ?_
      refine LW.nil ?_
      refine PQ.seq ?_
      refine CW.seq ?_
      refine CW.quiet mixed (by kernel_rfl) ?_
      refine QW.v rfl rfl (Val.move rfl) ?_
      refine QW.v rfl rfl (Val.move rfl) ?_
      first | (refine QW.v rfl rfl (Val.indexAddrN rfl rfl Try.underlying23 Try.sizeOf9 (by omega)) ?_) | (refine QW.v rfl rfl (Val.indexAddr rfl rfl Try.underlying23 Try.sizeOf9 (by omega) (by omega)) ?_)
      refine QW.v rfl rfl (Val.loadO rfl Try.isAgg9 hb1 (by simp [ids]) (hr1 k x hx1 0 _ rfl)) ?_
      refine QW.v rfl rfl (Val.move rfl) ?_
      refine QW.v rfl rfl (Val.move rfl) ?_
      first | (refine QW.v rfl rfl (Val.indexAddrN rfl rfl Try.underlying23 Try.sizeOf9 (by omega)) ?_) | (refine QW.v rfl rfl (Val.indexAddr rfl rfl Try.underlying23 Try.sizeOf9 (by omega) (by omega)) ?_)
      refine QW.v rfl rfl (Val.loadO rfl Try.isAgg9 hb2 (by simp [ids]) (hr2 k y hx2 0 _ rfl)) ?_
      refine QW.v rfl rfl (Val.neStr rfl rfl) ?_
      refine QW.nil ?_
      refine PQ.seq ?_
      refine CW.cond rfl (fun h24 => ?_) (fun h24 => ?_)
      · replace h24 := bT h24
        have h24 : x ≠ y := h24
        refine CW.seq ?_
        refine CW.region ?_
        refine LW.v rfl rfl (Val.assign rfl) ?_
        refine LW.nil ?_
        refine PQ.seq ?_
        refine CW.ret ?_
        refine PQ.in_ret ?_
        refine PQ.then_ret ?_
        refine PQ.then_ret ?_
        refine PQ.in_ret ?_
        refine PQ.then_ret ?_
        refine PQ.ret1 rfl rfl ?_
        intro w' hw; exact ⟨by rw [decide_eq_false (ne_at hx1 hx2 h24)], hw.below⟩
      · replace h24 := bF h24
        have h24 : x = y := h24
        subst h24
        refine CW.skip ?_
        refine PQ.in_normal ?_
        refine PQ.seq ?_
        refine CW.region ?_
        refine LW.v rfl rfl (Val.ar rfl rfl rfl (IntWalk.i64_in _ (by omega))) ?_
        refine LW.v rfl rfl (Val.move rfl) ?_
        refine LW.nil ?_
        refine PQ.round (k + 1) ⟨by omega, take_step hk2 hx1 hx2⟩ (by omega) (by repeat (first | exact trivial | refine ⟨rfl, ?_⟩)) (by repeat (first | exact .nil | apply Pick.cons | exact .here | apply Ext.there))
    · replace h14 := bF h14
      refine CW.exit ?_
      refine PQ.then_exit ?_
      refine PQ.then_exit ?_
      refine PQ.in_here ?_
      refine PQ.seq ?_
      refine CW.seq ?_
      refine CW.region ?_
      refine LW.v rfl rfl (Val.assign rfl) ?_
      refine LW.nil ?_
      refine PQ.seq ?_
      refine CW.ret ?_
      refine PQ.ret1 rfl rfl ?_
      intro w' hw; exact ⟨by rw [decide_eq_true (take_end hk2 (by omega) (by omega))], hw.below⟩
theorem begins_c (l1 l2 : List (List UInt8)) (p1 p2 : Option Addr) (n1 n2 c1 c2 : Nat) (hn1 : n1 = l1.length) (hn2 : n2 = l2.length) (hl : l1.length ≤ 100000) (w : World) (h1 : V.slAt w p1 1 stE l1) (h2 : V.slAt w p2 1 stE l2) : Calls Try.prog 27 [.slice p1 n1 c1, .slice p2 n2 c2].toArray w fun e w' => e = .returned (.bool (decide (l2 = l1.take l2.length))) ∧ Below w.heap.size w w' := by
  subst hn1; subst hn2
  refine V.calls [] Try.func27 rfl Try.ntmps27 (Nat.le_of_ble_eq_true rfl) (V.sat_nil _) ?_
  refine CW.seq ?_
  refine CW.region ?_
  refine LW.v rfl rfl (Val.assign rfl) ?_
  refine LW.nil ?_
  refine PQ.seq ?_
  refine CW.seq ?_
  refine CW.seq ?_
  refine CW.region ?_
  refine LW.v rfl rfl (Val.move rfl) ?_
  refine LW.v rfl rfl (Val.lenSl rfl Try.underlying23) ?_
  refine LW.v rfl rfl (Val.move rfl) ?_
  refine LW.v rfl rfl (Val.lenSl rfl Try.underlying23) ?_
  refine LW.v rfl rfl (Val.cmp rfl rfl rfl) ?_
  refine LW.nil ?_
  refine PQ.seq ?_
  refine CW.cond rfl (fun h10 => ?_) (fun h10 => ?_)
  · replace h10 := bT h10
    refine CW.seq ?_
    refine CW.region ?_
    refine LW.v rfl rfl (Val.assign rfl) ?_
    refine LW.nil ?_
    refine PQ.seq ?_
    refine CW.ret ?_
    refine PQ.then_ret ?_
    refine PQ.ret1 rfl rfl ?_
    intro w' hw; exact ⟨by rw [decide_eq_false (fun e => by have h8 := congrArg List.length e; rw [List.length_take] at h8; omega)], hw.below⟩
  · replace h10 := bF h10
    refine CW.skip ?_
    refine PQ.seq ?_
    refine CW.seq ?_
    refine CW.seq ?_
    refine CW.region ?_
    refine LW.v rfl rfl (Val.assign rfl) ?_
    refine LW.nil ?_
    refine PQ.seq ?_
    refine CW.block ?_
    refine CW.loop (γ := Nat) (fun k => [(0, .slice p1 l1.length c1), (1, .slice p2 l2.length c2), (5, .int .i64 (k : Nat))]) (fun _ => []) (fun k => k ≤ l2.length ∧ l1.take k = l2.take k) (fun k => l2.length - k) (0) ⟨Nat.zero_le _, rfl⟩ (by repeat (first | exact trivial | refine ⟨rfl, ?_⟩)) (by repeat (first | exact .nil | apply Pick.cons | exact .here | apply Ext.there)) ?_
    intro k
    rintro ⟨hk1, hk2⟩
    refine CW.seq ?_
    refine CW.seq ?_
    refine CW.region ?_
    refine LW.v rfl rfl (Val.move rfl) ?_
    refine LW.v rfl rfl (Val.move rfl) ?_
    refine LW.v rfl rfl (Val.lenSl rfl Try.underlying23) ?_
    refine LW.v rfl rfl (Val.cmp rfl rfl rfl) ?_
    refine LW.nil ?_
    refine PQ.seq ?_
    refine CW.cond rfl (fun h14 => ?_) (fun h14 => ?_)
    · replace h14 := bT h14
      obtain ⟨b1, o1, x, rfl, hb1, hx1, hr1⟩ := V.slAt_at h1 rfl (k := k) (by omega)
      obtain ⟨b2, o2, y, rfl, hb2, hx2, hr2⟩ := V.slAt_at h2 rfl (k := k) (by omega)
      refine CW.skip ?_
      refine PQ.seq ?_
      refine CW.seq ?_
      refine CW.block ?_
      refine CW.seq ?_
      refine CW.quiet mixed (by kernel_rfl) ?_
      refine QW.v rfl rfl (Val.move rfl) ?_
      refine QW.v rfl rfl (Val.move rfl) ?_
      first | (refine QW.v rfl rfl (Val.indexAddrN rfl rfl Try.underlying23 Try.sizeOf9 (by omega)) ?_) | (refine QW.v rfl rfl (Val.indexAddr rfl rfl Try.underlying23 Try.sizeOf9 (by omega) (by omega)) ?_)
      refine QW.v rfl rfl (Val.loadO rfl Try.isAgg9 hb1 (by simp [ids]) (hr1 k x hx1 0 _ rfl)) ?_
      refine QW.v rfl rfl (Val.move rfl) ?_
      refine QW.v rfl rfl (Val.move rfl) ?_
      first | (refine QW.v rfl rfl (Val.indexAddrN rfl rfl Try.underlying23 Try.sizeOf9 (by omega)) ?_) | (refine QW.v rfl rfl (Val.indexAddr rfl rfl Try.underlying23 Try.sizeOf9 (by omega) (by omega)) ?_)
      refine QW.v rfl rfl (Val.loadO rfl Try.isAgg9 hb2 (by simp [ids]) (hr2 k y hx2 0 _ rfl)) ?_
      refine QW.v rfl rfl (Val.neStr rfl rfl) ?_
      refine QW.nil ?_
      refine PQ.seq ?_
      refine CW.cond rfl (fun h25 => ?_) (fun h25 => ?_)
      · replace h25 := bT h25
        have h25 : x ≠ y := h25
        refine CW.seq ?_
        refine CW.region ?_
        refine LW.v rfl rfl (Val.assign rfl) ?_
        refine LW.nil ?_
        refine PQ.seq ?_
        refine CW.ret ?_
        refine PQ.in_ret ?_
        refine PQ.then_ret ?_
        refine PQ.then_ret ?_
        refine PQ.in_ret ?_
        refine PQ.then_ret ?_
        refine PQ.ret1 rfl rfl ?_
        intro w' hw; exact ⟨by rw [decide_eq_false (ne_at (k := k) hx2 (by rw [List.getElem?_take_of_lt (by omega)]; exact hx1) (Ne.symm h25))], hw.below⟩
      · replace h25 := bF h25
        have h25 : x = y := h25
        subst h25
        refine CW.skip ?_
        refine PQ.in_normal ?_
        refine PQ.seq ?_
        refine CW.region ?_
        refine LW.v rfl rfl (Val.move rfl) ?_
        refine LW.v rfl rfl (Val.ar rfl rfl rfl (IntWalk.i64_in _ (by omega))) ?_
        refine LW.v rfl rfl (Val.assign rfl) ?_
        refine LW.nil ?_
        refine PQ.round (k + 1) ⟨by omega, take_step hk2 hx1 hx2⟩ (by omega) (by repeat (first | exact trivial | refine ⟨rfl, ?_⟩)) (by repeat (first | exact .nil | apply Pick.cons | exact .here | apply Ext.there))
    · replace h14 := bF h14
      refine CW.exit ?_
      refine PQ.then_exit ?_
      refine PQ.then_exit ?_
      refine PQ.in_here ?_
      refine PQ.seq ?_
      refine CW.seq ?_
      refine CW.region ?_
      refine LW.v rfl rfl (Val.assign rfl) ?_
      refine LW.nil ?_
      refine PQ.seq ?_
      refine CW.ret ?_
      refine PQ.ret1 rfl rfl ?_
      intro w' hw; exact ⟨by rw [decide_eq_true]; rw [show l2.length = k by omega, hk2]; exact (List.take_of_length_le (by omega)).symm, hw.below⟩
/-- How many of a line are taken away, till what is left begins another one. -/
def lnN : List (List UInt8) → List (List UInt8) → Nat
  | [], _ => 0
  | x :: r, b => if x :: r = b.take (r.length + 1) then 0 else lnN r b + 1
def lnF (a b : List (List UInt8)) : List Cl := List.replicate (lnN a b) dqC ++ (b.drop (a.length - lnN a b)).map enC
theorem lnN_le : ∀ (a b : List (List UInt8)), lnN a b ≤ a.length
  | [], _ => Nat.le_refl _
  | x :: r, b => by
    simp only [lnN, List.length_cons]
    have := lnN_le r b
    split <;> omega
theorem lnN_at {a b : List (List UInt8)} {n : Nat} (hn : n ≤ a.length) (h : a.drop n = b.take (a.length - n)) (h0 : lnN a b = n + lnN (a.drop n) b) : lnN a b = n := by
  rw [h0]
  cases hd : a.drop n with
  | nil => rfl
  | cons x r =>
    have hl : r.length + 1 = a.length - n := by have := congrArg List.length hd; simpa using this.symm
    simp only [lnN]
    rw [hl, ← h, hd, if_pos rfl, Nat.add_zero]
theorem lnN_no {a b : List (List UInt8)} {n : Nat} (hn : n < a.length) (h : ¬ a.drop n = b.take (a.length - n)) (h0 : lnN a b = n + lnN (a.drop n) b) : lnN a b = n + 1 + lnN (a.drop (n + 1)) b := by
  have hd : a.drop n = a[n] :: a.drop (n + 1) := List.drop_eq_getElem_cons hn
  rw [h0, hd]
  simp only [lnN]
  rw [if_neg]
  · omega
  · rw [← hd, List.length_drop, show a.length - (n + 1) + 1 = a.length - n by omega]
    exact h
theorem lnN_fit {a b : List (List UInt8)} : a.length - lnN a b ≤ b.length := by
  induction a with
  | nil => simp
  | cons x r ih =>
    simp only [lnN]
    split
    · rename_i h
      have := congrArg List.length h
      rw [List.length_take, List.length_cons] at this
      simp only [List.length_cons]; omega
    · simp only [List.length_cons]; omega
theorem en_take {b : List (List UInt8)} {j k : Nat} {x : List UInt8} (h : b[j + k]? = some x) : ((b.drop j).take (k + 1)).map enC = ((b.drop j).take k).map enC ++ [enC x] := by
  rw [List.take_add_one, List.getElem?_drop, h]; simp
theorem line_c (a b : List (List UInt8)) (pa pb : Option Addr) (na nb ca cb : Nat) (hna : na = a.length) (hnb : nb = b.length) (hca : na ≤ ca) (hcb : nb ≤ cb) (hl : a.length ≤ 40 ∧ b.length ≤ 40) (w : World) (h1 : V.slAt w pa 1 stE a) (h2 : V.slAt w pb 1 stE b) : Calls Try.prog 20 [.slice pa na ca, .slice pb nb cb].toArray w fun e w' => ∃ o : V.OwnO, ownOk 5 (lnF a b).length ((lnF a b).flatMap clC) o ∧ e = .returned (ownV (lnF a b).length o) ∧ Hp ⟨w, []⟩ [ownG 38 ((lnF a b).flatMap clC) o] w' := by
  subst hna; subst hnb
  refine V.calls [] Try.func20 rfl Try.ntmps20 (Nat.le_of_ble_eq_true rfl) (V.sat_nil _) ?_
  refine CW.seq ?_
  refine CW.region ?_
  refine LW.v rfl rfl (Val.assign rfl) ?_
  refine LW.nil ?_
  refine PQ.seq ?_
  refine CW.seq ?_
  refine CW.region ?_
  refine LW.v rfl rfl (Val.assign rfl) ?_
  refine LW.nil ?_
  refine PQ.seq ?_
  refine CW.seq ?_
  refine CW.join (fun n : Nat => n ≤ a.length ∧ lnN a b = n) (fun n => [(0, .slice pa a.length ca), (1, .slice pb b.length cb), (5, .int .i64 (n : Nat))]) (fun _ => []) ?_ ?_
  · refine CW.block ?_
    refine CW.loop (γ := Nat) (fun k => [(0, .slice pa a.length ca), (1, .slice pb b.length cb), (5, .int .i64 (k : Nat))]) (fun _ => []) (fun k => k ≤ a.length ∧ lnN a b = k + lnN (a.drop k) b) (fun k => a.length - k) (0) ⟨Nat.zero_le _, by simp⟩ (by repeat (first | exact trivial | refine ⟨rfl, ?_⟩)) (by repeat (first | exact .nil | apply Pick.cons | exact .here | apply Ext.there)) ?_
    intro k
    rintro ⟨hk1, hk2⟩
    refine CW.seq ?_
    refine CW.seq ?_
    refine CW.quiet mixed (by kernel_rfl) ?_
    refine QW.v rfl rfl (Val.move rfl) ?_
    refine QW.v rfl rfl (Val.move rfl) ?_
    refine QW.v rfl rfl (Val.lenSl rfl Try.underlying23) ?_
    refine QW.v rfl rfl (Val.cmp rfl rfl rfl) ?_
    refine QW.v rfl rfl (Val.move rfl) ?_
    refine QW.split (d := 13) rfl (fun h13 => ?_) (fun h13 => ?_)
    · replace h13 := bT h13
      refine QW.v rfl rfl (Val.move rfl) ?_
      refine QW.v rfl rfl (Val.lenSl rfl Try.underlying23) ?_
      refine QW.v rfl rfl (Val.move rfl) ?_
      refine QW.v rfl rfl (Val.ar rfl rfl rfl (IntWalk.i64_in _ (by omega))) ?_
      refine QW.re 17 (.int .i64 ((a.length - k : Nat) : Int)) rfl (by congr 1 <;> omega) ?_
      refine QW.v rfl rfl (Val.move rfl) ?_
      refine QW.v rfl rfl (Val.lenSl rfl Try.underlying23) ?_
      refine QW.v rfl rfl (Val.cmp rfl rfl rfl) ?_
      refine QW.v rfl rfl (Val.move rfl) ?_
      refine QW.split (d := 21) rfl (fun h21 => ?_) (fun h21 => ?_)
      · replace h21 := bT h21
        refine QW.v rfl rfl (Val.move rfl) ?_
        refine QW.v rfl rfl (Val.move rfl) ?_
        refine QW.v rfl rfl (Val.sliceG k a.length ca rfl Try.underlying23 Try.sizeOf9 ⟨_, rfl⟩ rfl rfl (fun _ => rfl) (by omega) hca (Nat.le_refl _)) ?_
        refine QW.v rfl rfl (Val.move rfl) ?_
        refine QW.v rfl rfl (Val.move rfl) ?_
        refine QW.v rfl rfl (Val.lenSl rfl Try.underlying23) ?_
        refine QW.v rfl rfl (Val.move rfl) ?_
        refine QW.v rfl rfl (Val.ar rfl rfl rfl (IntWalk.i64_in _ (by omega))) ?_
        refine QW.re 29 (.int .i64 ((a.length - k : Nat) : Int)) rfl (by congr 1 <;> omega) ?_
        refine QW.v rfl rfl (Val.sliceG 0 (a.length - k) cb rfl Try.underlying23 Try.sizeOf9 rfl ⟨_, rfl⟩ rfl (fun h => by cases h) (by omega) (by omega) (Nat.le_refl _)) ?_
        refine QW.c rfl rfl (Qcall.of rfl Try.call33 (fun w hw => equal_c (a.drop k) (b.take (a.length - k)) _ _ _ _ _ _ (by rw [List.length_drop]) (by rw [List.length_take]; omega) (by rw [List.length_drop]; omega) w (V.slAt_drop (hw.slAt h1 (by simp [ids])) (by omega) hca) (by have h8 := V.slAt_part (c := cb) (k := 0) (hw.slAt h2 (by simp [ids])) (by omega) hcb (a.length - k); rw [List.drop_zero] at h8; exact h8))) ?_
        refine QW.v rfl rfl (Val.pick_t rfl rfl) ?_
        refine QW.v rfl rfl (Val.not rfl) ?_
        refine QW.v rfl rfl (Val.pick_t rfl rfl) ?_
        refine QW.nil ?_
        refine PQ.seq ?_
        refine CW.cond rfl (fun h34 => ?_) (fun h34 => ?_)
        · replace h34 := bT h34
          refine CW.skip ?_
          refine PQ.seq ?_
          refine CW.block ?_
          refine CW.region ?_
          refine LW.v rfl rfl (Val.move rfl) ?_
          refine LW.v rfl rfl (Val.ar rfl rfl rfl (IntWalk.i64_in _ (by omega))) ?_
          refine LW.v rfl rfl (Val.assign rfl) ?_
          refine LW.nil ?_
          refine PQ.in_normal ?_
          refine PQ.round (k + 1) ⟨by omega, lnN_no (by omega) (by first | exact h34 | simpa using h34) hk2⟩ (by omega) (by repeat (first | exact trivial | refine ⟨rfl, ?_⟩)) (by repeat (first | exact .nil | apply Pick.cons | exact .here | apply Ext.there))
        · replace h34 := bF h34
          refine CW.exit ?_
          refine PQ.then_exit ?_
          refine PQ.then_exit ?_
          refine PQ.in_here ?_
          refine PQ.joinedC (k) (⟨hk1, lnN_at hk1 (by first | exact h34 | simpa using h34) hk2⟩) (by repeat (first | exact trivial | refine ⟨rfl, ?_⟩)) (by repeat (first | exact .nil | apply Pick.cons | exact .here | apply Ext.there))
      · replace h21 := bF h21
        refine QW.p rfl rfl ?_
        refine QW.p rfl rfl ?_
        refine QW.p rfl rfl ?_
        refine QW.p rfl rfl ?_
        refine QW.p rfl rfl ?_
        refine QW.p rfl rfl ?_
        refine QW.p rfl rfl ?_
        refine QW.p rfl rfl ?_
        refine QW.p rfl rfl ?_
        refine QW.p rfl rfl ?_
        refine QW.v rfl rfl (Val.pick_f rfl rfl) ?_
        refine QW.v rfl rfl (Val.not rfl) ?_
        refine QW.v rfl rfl (Val.pick_t rfl rfl) ?_
        refine QW.nil ?_
        refine PQ.seq ?_
        refine CW.cond_t rfl ?_
        refine CW.skip ?_
        refine PQ.seq ?_
        refine CW.block ?_
        refine CW.region ?_
        refine LW.v rfl rfl (Val.move rfl) ?_
        refine LW.v rfl rfl (Val.ar rfl rfl rfl (IntWalk.i64_in _ (by omega))) ?_
        refine LW.v rfl rfl (Val.assign rfl) ?_
        refine LW.nil ?_
        refine PQ.in_normal ?_
        refine PQ.round (k + 1) ⟨by omega, lnN_no (by omega) (fun e => by have h8 := congrArg List.length e; rw [List.length_drop, List.length_take] at h8; omega) hk2⟩ (by omega) (by repeat (first | exact trivial | refine ⟨rfl, ?_⟩)) (by repeat (first | exact .nil | apply Pick.cons | exact .here | apply Ext.there))
    · replace h13 := bF h13
      refine QW.p rfl rfl ?_
      refine QW.p rfl rfl ?_
      refine QW.p rfl rfl ?_
      refine QW.p rfl rfl ?_
      refine QW.p rfl rfl ?_
      refine QW.p rfl rfl ?_
      refine QW.p rfl rfl ?_
      refine QW.p rfl rfl ?_
      refine QW.p rfl rfl ?_
      refine QW.p rfl rfl ?_
      refine QW.p rfl rfl ?_
      refine QW.p rfl rfl ?_
      refine QW.p rfl rfl ?_
      refine QW.p rfl rfl ?_
      refine QW.p rfl rfl ?_
      refine QW.p rfl rfl ?_
      refine QW.p rfl rfl ?_
      refine QW.p rfl rfl ?_
      refine QW.p rfl rfl ?_
      refine QW.p rfl rfl ?_
      refine QW.v rfl rfl (Val.pick_f rfl rfl) ?_
      refine QW.nil ?_
      refine PQ.seq ?_
      refine CW.cond_f rfl ?_
      refine CW.exit ?_
      refine PQ.then_exit ?_
      refine PQ.then_exit ?_
      refine PQ.in_here ?_
      refine PQ.joinedC (k) (⟨hk1, lnN_at hk1 (by rw [List.drop_eq_nil_iff.2 (by omega), show a.length - k = 0 by omega]; simp) hk2⟩) (by repeat (first | exact trivial | refine ⟨rfl, ?_⟩)) (by repeat (first | exact .nil | apply Pick.cons | exact .here | apply Ext.there))
  · rintro n ⟨hn1, hn2⟩
    refine PQ.seq ?_
    refine CW.seq ?_
    refine CW.region ?_
    refine LW.v rfl rfl (Val.build [_, _, _, _, _] Try.zeroValue38 Try.underlying38 places38 rfl (by rfl)) ?_
    refine LW.e rfl rfl (Eff.buildSlice (rfl) [_, _, _, _, _] Try.underlying28 Try.sizeOf38 (by exact Try.zeroValue38) rfl rfl rfl rfl (by rfl)) ?_
    intro b38 _
    refine LW.v rfl rfl (Val.move rfl) ?_
    refine LW.e rfl rfl (Eff.callM ([]) .nil rfl Try.call34 (fun w hw hs0 => repeat_c _ n (by have := lnN_le a b; omega) w (.inr ⟨b38, 0, rfl, V.lt_of_some (hw.own _ (show InS (b38, .cells (clC dqC).toArray 38 (0, 0)) _ from (by repeat (first | exact .here | exact .inner .here | exact .inner (.inner .here) | refine .there ?_))).mem), fun i x hx => by
      cases i with
      | zero => simp at hx; subst hx; exact V.range_of_block (o := 0) (cs := clC dqC) (r := []) (hw.own _ (show InS (b38, .cells (clC dqC).toArray 38 (0, 0)) _ from (by repeat (first | exact .here | exact .inner .here | exact .inner (.inner .here) | refine .there ?_))).mem) rfl
      | succ i => simp at hx⟩))) ?_
    intro o ho
    have hfit := lnN_fit (a := a) (b := b)
    rw [hn2] at hfit
    have hle := lnN_le a b
    rw [hn2] at hle
    have hdl : (b.drop (a.length - n)).length = b.length - (a.length - n) := by rw [List.length_drop]
    refine LW.v rfl rfl (Val.assign rfl) ?_
    refine LW.nil ?_
    refine PQ.seq ?_
    refine CW.seq ?_
    refine CW.seq ?_
    obtain ⟨q46, hq46⟩ : ∃ q : Option Addr, q = (if cb = a.length - n then pb else pb.map (·.add ((a.length - n) * 1))) := ⟨_, rfl⟩
    have hs46 : V.slAt w q46 1 stE (b.drop (a.length - n)) := by rw [hq46]; exact V.slAt_drop h2 hfit hcb
    refine CW.region ?_
    refine LW.v rfl rfl (Val.move rfl) ?_
    refine LW.v rfl rfl (Val.move rfl) ?_
    refine LW.v rfl rfl (Val.lenSl rfl Try.underlying23) ?_
    refine LW.v rfl rfl (Val.move rfl) ?_
    refine LW.v rfl rfl (Val.ar rfl rfl rfl (IntWalk.i64_in _ (by omega))) ?_
    refine LW.re 45 (.int .i64 ((a.length - n : Nat) : Int)) rfl (by congr 1 <;> omega) ?_
    refine LW.v rfl rfl (Val.sliceG (a.length - n) b.length cb rfl Try.underlying23 Try.sizeOf9 ⟨_, rfl⟩ rfl rfl (fun _ => rfl) hfit hcb (Nat.le_refl _)) ?_
    refine LW.re 46 (.slice q46 (b.drop (a.length - n)).length (cb - (a.length - n))) rfl (by rw [List.length_drop, hq46]) ?_
    refine LW.v rfl rfl (Val.lenSl rfl Try.underlying23) ?_
    refine LW.v rfl rfl (Val.move rfl) ?_
    refine LW.nil ?_
    refine PQ.seq ?_
    refine CW.block ?_
    refine CW.re 6 (ownV ((List.replicate n dqC ++ ((b.drop (a.length - n)).take 0).map enC)).length o) rfl (by simp) ?_
    refine V.CW.perm (sg' := [ownG 38 ((List.replicate n dqC ++ ((b.drop (a.length - n)).take 0).map enC).flatMap clC) o, [(b38, .cells (clC dqC).toArray 38 (0, 0))]]) ?_ (by simp only [List.take_zero, List.map_nil, List.append_nil]; exact .refl _)
    refine CW.loop (γ := Nat × V.OwnO) (fun k => [(6, ownV ((List.replicate n dqC ++ ((b.drop (a.length - n)).take k.1).map enC)).length k.2), (46, .slice q46 (b.drop (a.length - n)).length (cb - (a.length - n))), (47, .int .i64 ((b.drop (a.length - n)).length : Nat)), (48, .int .i64 (k.1 : Nat))]) (fun k => [ownG 38 (((List.replicate n dqC ++ ((b.drop (a.length - n)).take k.1).map enC)).flatMap clC) k.2]) (fun k => k.1 ≤ (b.drop (a.length - n)).length ∧ ownOk 5 ((List.replicate n dqC ++ ((b.drop (a.length - n)).take k.1).map enC)).length (((List.replicate n dqC ++ ((b.drop (a.length - n)).take k.1).map enC)).flatMap clC) k.2) (fun k => (b.drop (a.length - n)).length - k.1) ((0, o)) ⟨Nat.zero_le _, by simpa using ho⟩ (by exact ⟨by simp; rfl, rfl, rfl, rfl, trivial⟩) (by repeat (first | exact .nil | apply Pick.cons | exact .here | apply Ext.there)) ?_
    intro k
    rintro ⟨hk1, hk2⟩
    have hxl : ((List.replicate n dqC ++ ((b.drop (a.length - n)).take k.1).map enC)).length ≤ 80 := by simp only [List.length_append, List.length_replicate, List.length_map, List.length_take]; omega
    refine CW.seq ?_
    refine CW.region ?_
    refine LW.v rfl rfl (Val.cmp rfl rfl rfl) ?_
    refine LW.nil ?_
    refine PQ.seq ?_
    refine CW.seq ?_
    refine CW.cond rfl (fun h49 => ?_) (fun h49 => ?_)
    · replace h49 := bT h49
      obtain ⟨b3, o3, x, hq3, hb3, hx3, hr3⟩ := V.slAt_at hs46 rfl (k := k.1) (by omega)
      subst hq3
      have htk : ((List.replicate n dqC ++ ((b.drop (a.length - n)).take (k.1 + 1)).map enC)) = ((List.replicate n dqC ++ ((b.drop (a.length - n)).take k.1).map enC)) ++ [enC x] := by rw [en_take (by rw [← List.getElem?_drop]; exact hx3)]; simp
      refine CW.skip ?_
      refine PQ.seq ?_
      refine CW.seq ?_
      refine CW.block ?_
      refine CW.seq ?_
      refine CW.region ?_
      first | (refine LW.v rfl rfl (Val.indexAddrN rfl rfl Try.underlying23 Try.sizeOf9 (by omega)) ?_) | (refine LW.v rfl rfl (Val.indexAddr rfl rfl Try.underlying23 Try.sizeOf9 (by omega) (by omega)) ?_)
      refine LW.v rfl rfl (Val.loadO rfl Try.isAgg9 hb3 (by simp [ids]) (hr3 k.1 x hx3 0 _ rfl)) ?_
      refine LW.v rfl rfl (Val.assign rfl) ?_
      refine LW.nil ?_
      refine PQ.seq ?_
      refine CW.region ?_
      refine LW.v rfl rfl (Val.move rfl) ?_
      refine LW.v rfl rfl (Val.move rfl) ?_
      refine LW.v rfl rfl (Val.build [_, _, _, _, _] Try.zeroValue38 Try.underlying38 places38 rfl (by rfl)) ?_
      refine LW.e rfl rfl (Eff.buildSlice (rfl) [_, _, _, _, _] Try.underlying28 Try.sizeOf38 (by exact Try.zeroValue38) rfl rfl rfl rfl (by rfl)) ?_
      intro b55 _
      refine LW.e rfl rfl (Eff.appendAny (clC (enC x)) (sz := 5) (bytes := 80) (z := .agg #[.int .i64 0, .string ⟨#[]⟩, .string ⟨#[]⟩, .string ⟨#[]⟩, .slice none 0 0]) (xs := ((List.replicate n dqC ++ ((b.drop (a.length - n)).take k.1).map enC)).flatMap clC) (m0 := ((List.replicate n dqC ++ ((b.drop (a.length - n)).take k.1).map enC)).length) (o := k.2) (m := 1) (pk := [ownG 38 (((List.replicate n dqC ++ ((b.drop (a.length - n)).take k.1).map enC)).flatMap clC) k.2]) rfl rfl Try.underlying28 (by kernel_rfl) rfl (by omega) (by repeat (first | exact .nil | apply Pick.cons | exact .here | apply Ext.there)) (by simp) hk2 (by rfl) (fun hm0 => ⟨b55, 0, rfl, fun w hw => V.range_of_block (o := 0) (cs := clC (enC x)) (r := []) (hw.own _ (show InS (b55, .cells (clC (enC x)).toArray 38 (0, 0)) _ from (by repeat (first | exact .here | exact .inner .here | exact .inner (.inner .here) | refine .there ?_))).mem) rfl⟩) (by rfl) (by omega) (by omega)) ?_
      intro o9 ho9
      refine LW.v rfl rfl (Val.assign rfl) ?_
      refine LW.nil ?_
      refine PQ.in_normal ?_
      refine PQ.seq ?_
      refine CW.region ?_
      refine LW.v rfl rfl (Val.ar rfl rfl rfl (IntWalk.i64_in _ (by omega))) ?_
      refine LW.v rfl rfl (Val.move rfl) ?_
      refine LW.nil ?_
      rw [show ((List.replicate n dqC ++ ((b.drop (a.length - n)).take k.1).map enC)).flatMap clC ++ clC (enC x) = ((List.replicate n dqC ++ ((b.drop (a.length - n)).take (k.1 + 1)).map enC)).flatMap clC from by rw [htk]; simp, show ((List.replicate n dqC ++ ((b.drop (a.length - n)).take k.1).map enC)).length + 1 = ((List.replicate n dqC ++ ((b.drop (a.length - n)).take (k.1 + 1)).map enC)).length from by rw [htk]; simp [Nat.add_assoc]]
      refine PQ.round ((k.1 + 1, o9)) ⟨by simp only; omega, by simp only; rw [htk, List.flatMap_append, List.length_append]; simpa using ho9⟩ (by simp only; omega) (by repeat (first | exact trivial | refine ⟨rfl, ?_⟩)) (by repeat (first | exact .nil | apply Pick.cons | exact .here | apply Ext.there))
    · replace h49 := bF h49
      refine CW.exit ?_
      refine PQ.then_exit ?_
      refine PQ.then_exit ?_
      refine PQ.in_here ?_
      refine PQ.seq ?_
      refine CW.seq ?_
      refine CW.region ?_
      refine LW.v rfl rfl (Val.move rfl) ?_
      refine LW.v rfl rfl (Val.assign rfl) ?_
      refine LW.nil ?_
      refine PQ.seq ?_
      refine CW.ret ?_
      refine PQ.ret1 rfl rfl ?_
      have hke : k.1 = (b.drop (a.length - n)).length := by omega
      have hxe : ((List.replicate n dqC ++ ((b.drop (a.length - n)).take k.1).map enC)) = lnF a b := by unfold lnF; rw [hn2, List.take_of_length_le (by omega)]
      rw [hxe] at hk2
      rw [hxe]
      intro w' hw
      exact ⟨k.2, hk2, rfl, hw⟩
end Go.Proofs.Ytipnpnkniihdjaa
