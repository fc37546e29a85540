/- A reader of words. -/
import Derived.Test.YtagliemeolngiaaDoorScL
import Derived.Test.YtagliemeolngiaaDoorV24
import Derived.Test.YtagliemeolngiaaDoorSh
import Derived.Lib.Hide
import Derived.Lib.AtoiTie
namespace Go.Proofs.YtagliemeolngiaaDoor
open Go Go.RowKit V
set_option linter.unusedVariables false
set_option maxRecDepth 100000
open V (str byC ownV ownG ownS ownOk)
def cutF (c : UInt8) : List UInt8 → List UInt8 × List UInt8 × Bool
  | [] => ([], [], false)
  | x :: r => if x = c then ([], r, true) else (x :: (cutF c r).1, (cutF c r).2.1, (cutF c r).2.2)
def spl (c : UInt8) : List UInt8 → List (List UInt8)
  | [] => [[]]
  | x :: r => if x = c then [] :: spl c r else match spl c r with
    | [] => [[x]]
    | a :: t => (x :: a) :: t
theorem spl_ne (c : UInt8) : ∀ s, spl c s ≠ []
  | [] => by simp [spl]
  | x :: r => by
    simp only [spl]
    split
    · simp
    · split <;> simp
theorem spl_cut (c : UInt8) : ∀ s, spl c s = (cutF c s).1 :: (if (cutF c s).2.2 = true then spl c (cutF c s).2.1 else [])
  | [] => rfl
  | x :: r => by
    have ih := spl_cut c r
    by_cases h : x = c
    · simp [spl, cutF, h]
    · simp only [spl, if_neg h]
      rw [ih]
      simp [cutF, h]
theorem cutF_len (c : UInt8) : ∀ s, (cutF c s).1.length ≤ s.length ∧ (cutF c s).2.1.length ≤ s.length
  | [] => by simp [cutF]
  | x :: r => by
    have ih := cutF_len c r
    simp only [cutF]
    split
    · simp
    · simp; omega
theorem cutF_lt (c : UInt8) : ∀ s, s ≠ [] → (cutF c s).2.1.length < s.length
  | [], h => absurd rfl h
  | x :: r, _ => by
    have ih := (cutF_len c r).2
    simp only [cutF]
    split
    · simp
    · simp; omega
theorem cutF_no (c : UInt8) : ∀ s, Go.Lib.indexByte s c = -1 → cutF c s = (s, [], false)
  | [], _ => rfl
  | x :: r, h => by
    simp only [Go.Lib.indexByte] at h
    split at h
    · cases h
    · rename_i hx
      have hx' : ¬ x = c := by simpa using hx
      split at h
      · rename_i h1
        simp only [cutF]
        rw [if_neg hx', cutF_no c r (by simpa using h1)]
      · rename_i h1
        have := Go.Lib.indexByte_ge r c
        exfalso; simp at h1; omega
theorem cutF_at (c : UInt8) : ∀ (s : List UInt8) (i : Nat), Go.Lib.indexByte s c = (i : Nat) → cutF c s = (s.take i, s.drop (i + 1), true) ∧ i < s.length
  | [], i, h => by simp [Go.Lib.indexByte] at h
  | x :: r, i, h => by
    simp only [Go.Lib.indexByte] at h
    split at h
    · rename_i hx
      have hx' : x = c := by simpa using hx
      have : i = 0 := by omega
      subst this
      simp [cutF, hx']
    · rename_i hx
      have hx' : ¬ x = c := by simpa using hx
      split at h
      · omega
      · have := Go.Lib.indexByte_ge r c
        rename_i h1
        have h2 : Go.Lib.indexByte r c ≠ -1 := by simpa using h1
        obtain ⟨j, hj⟩ : ∃ j : Nat, i = j + 1 := ⟨i - 1, by omega⟩
        subst hj
        obtain ⟨h3, h4⟩ := cutF_at c r j (by omega)
        simp only [cutF]
        rw [if_neg hx', h3]
        exact ⟨by simp, Nat.succ_lt_succ h4⟩
theorem lcut_c (s : List UInt8) (c : UInt8) (hs : s.length ≤ 1000000) (w : World) : Calls Tryd.prog 57 [str s, str [c]].toArray w fun e w' => e = .returned (.tuple #[str (cutF c s).1, str (cutF c s).2.1, .bool (cutF c s).2.2]) ∧ Below w.heap.size w w' := by
  have hge := Go.Lib.indexByte_ge s c
  refine V.calls [] Tryd.func57 rfl Tryd.ntmps57 (Nat.le_of_ble_eq_true rfl) (V.sat_nil _) ?_
  refine CW.seq ?_
  refine CW.region ?_
  refine LW.v rfl rfl (Val.assign rfl) ?_
  refine LW.v rfl rfl (Val.assign rfl) ?_
  refine LW.v rfl rfl (Val.assign rfl) ?_
  refine LW.nil ?_
  refine PQ.seq ?_
  refine CW.seq ?_
  refine CW.seq ?_
  refine CW.region ?_
  refine LW.v rfl rfl (Val.move rfl) ?_
  refine LW.v rfl rfl (Val.move rfl) ?_
  refine LW.e rfl rfl (Eff.callV rfl Tryd.call70 (fun w hw => (Tryd.stringslite_Index_one ⟨s.toArray⟩ c w).mono fun e w' ⟨h1, h2⟩ => ⟨by rw [h1], h2 ▸ Below.refl _ _⟩)) ?_
  intro _ _
  refine LW.re 10 (.int .i64 (Go.Lib.indexByte s c)) rfl rfl ?_
  refine LW.v rfl rfl (Val.assign rfl) ?_
  refine LW.nil ?_
  refine PQ.seq ?_
  refine CW.seq ?_
  refine CW.region ?_
  refine LW.v rfl rfl (Val.move rfl) ?_
  refine LW.v rfl rfl (Val.cmp rfl rfl rfl) ?_
  refine LW.nil ?_
  refine PQ.seq ?_
  refine CW.cond rfl (fun h12 => ?_) (fun h12 => ?_)
  · replace h12 := bT h12
    obtain ⟨i, hi⟩ : ∃ i : Nat, Go.Lib.indexByte s c = (i : Nat) := ⟨(Go.Lib.indexByte s c).toNat, by omega⟩
    obtain ⟨_, hil⟩ := cutF_at c s i hi
    refine CW.re 7 (.int .i64 (i : Nat)) rfl (by rw [← hi]) ?_
    refine CW.seq ?_
    refine CW.quiet mixed (by kernel_rfl) ?_
    refine QW.v rfl rfl (Val.move rfl) ?_
    refine QW.v rfl rfl (Val.move rfl) ?_
    refine QW.v rfl rfl (Val.sliceStr (l := s) 0 i rfl Tryd.underlying9 rfl ⟨_, rfl⟩ (by omega) (by omega)) ?_
    refine QW.v rfl rfl (Val.move rfl) ?_
    refine QW.v rfl rfl (Val.move rfl) ?_
    refine QW.v rfl rfl (Val.move rfl) ?_
    refine QW.v rfl rfl (Val.lenStr rfl Tryd.underlying9) ?_
    refine QW.v rfl rfl (Val.ar (r := ((i + 1 : Nat) : Int)) rfl rfl (by rfl) (IntWalk.i64_in _ (by omega))) ?_
    refine QW.v rfl rfl (Val.sliceStr (l := s) (i + 1) s.length rfl Tryd.underlying9 ⟨_, rfl⟩ rfl (by omega) (by omega)) ?_
    refine QW.v rfl rfl (Val.assign rfl) ?_
    refine QW.v rfl rfl (Val.assign rfl) ?_
    refine QW.v rfl rfl (Val.assign rfl) ?_
    refine QW.nil ?_
    refine PQ.seq ?_
    refine CW.ret ?_
    refine PQ.then_ret ?_
    refine PQ.ret3 rfl rfl rfl rfl ?_
    intro w' hw
    obtain ⟨h8, h9⟩ := cutF_at c s i hi
    have e1 : (s.drop (i + 1)).take (s.length - (i + 1)) = s.drop (i + 1) := List.take_of_length_le (by simp)
    exact ⟨by rw [h8, e1]; simp [str], hw.below⟩
  · replace h12 := bF h12
    refine CW.skip ?_
    refine PQ.seq ?_
    refine CW.seq ?_
    refine CW.region ?_
    refine LW.v rfl rfl (Val.move rfl) ?_
    refine LW.v rfl rfl (Val.assign rfl) ?_
    refine LW.v rfl rfl (Val.assign rfl) ?_
    refine LW.v rfl rfl (Val.assign rfl) ?_
    refine LW.nil ?_
    refine PQ.seq ?_
    refine CW.ret ?_
    refine PQ.ret3 rfl rfl rfl rfl ?_
    intro w' hw
    have h8 := cutF_no c s (by omega)
    exact ⟨by rw [h8]; rfl, hw.below⟩
theorem cut_c (s : List UInt8) (c : UInt8) (hs : s.length ≤ 1000000) (w : World) : Calls Tryd.prog 46 [str s, str [c]].toArray w fun e w' => e = .returned (.tuple #[str (cutF c s).1, str (cutF c s).2.1, .bool (cutF c s).2.2]) ∧ Below w.heap.size w w' := by
  refine V.calls [] Tryd.func46 rfl Tryd.ntmps46 (Nat.le_of_ble_eq_true rfl) (V.sat_nil _) ?_
  refine CW.seq ?_
  refine CW.region ?_
  refine LW.v rfl rfl (Val.assign rfl) ?_
  refine LW.v rfl rfl (Val.assign rfl) ?_
  refine LW.v rfl rfl (Val.assign rfl) ?_
  refine LW.nil ?_
  refine PQ.seq ?_
  refine CW.seq ?_
  refine CW.region ?_
  refine LW.v rfl rfl (Val.move rfl) ?_
  refine LW.v rfl rfl (Val.move rfl) ?_
  refine LW.e rfl rfl (Eff.callV rfl Tryd.call57 (fun w hw => lcut_c s c hs w)) ?_
  intro _ _
  refine LW.v rfl rfl (Val.extract rfl rfl) ?_
  refine LW.v rfl rfl (Val.extract rfl rfl) ?_
  refine LW.v rfl rfl (Val.extract rfl rfl) ?_
  refine LW.v rfl rfl (Val.assign rfl) ?_
  refine LW.v rfl rfl (Val.assign rfl) ?_
  refine LW.v rfl rfl (Val.assign rfl) ?_
  refine LW.nil ?_
  refine PQ.seq ?_
  refine CW.ret ?_
  refine PQ.ret3 rfl rfl rfl rfl ?_
  intro w' hw; exact ⟨rfl, hw.below⟩
/-- A reader at r: the words' function, and whether something was at fault; what the function remembers lies at m and s. -/
def rdS (r m s : Nat) (q : Bool × List UInt8) (bad : Bool) : V.Seg := [(r, .cells [.func (.func 58) #[] #[.pointer (some ⟨m, 0, none⟩), .pointer (some ⟨s, 0, none⟩)], .bool bad].toArray 87 (0, 0)), (m, .cells [.bool q.1].toArray 4 (0, 0)), (s, .cells [str q.2].toArray 9 (0, 0))]
/-- The words that are left. -/
def wl (q : Bool × List UInt8) : List (List UInt8) := if q.1 = true then spl 32 q.2 else []
def QOk (q : Bool × List UInt8) : Prop := q.2.length ≤ 70000
def nxq (q : Bool × List UInt8) : Bool × List UInt8 := if q.1 = true then ((cutF 32 q.2).2.2, (cutF 32 q.2).2.1) else q
theorem nxq_ok {q : Bool × List UInt8} (h : QOk q) : QOk (nxq q) := by
  unfold nxq QOk at *
  split
  · have := (cutF_len 32 q.2).2; simp only; omega
  · exact h
theorem nxq_wl (q : Bool × List UInt8) : wl (nxq q) = (wl q).tail := by
  unfold nxq wl
  by_cases h : q.1 = true
  · rw [if_pos h, if_pos h, spl_cut 32 q.2]; simp
  · rw [if_neg h]; simp [h]
theorem wl_hd {q : Bool × List UInt8} (h : q.1 = true) : (wl q).headD [] = (cutF 32 q.2).1 ∧ (wl q).isEmpty = false := by
  unfold wl
  rw [if_pos h, spl_cut 32 q.2]; simp
theorem wl_no {q : Bool × List UInt8} (h : q.1 = false) : wl q = [] := by unfold wl; rw [h]; rfl
theorem wl_len {q : Bool × List UInt8} (h : QOk q) : ((wl q).headD []).length ≤ 70000 := by
  cases hq : q.1 with
  | false => rw [wl_no hq]; simp
  | true => rw [(wl_hd hq).1]; have := (cutF_len 32 q.2).1; unfold QOk at h; omega
theorem next_c (r m s : Nat) (q : Bool × List UInt8) (bad : Bool) (hq : QOk q) (w : World) (hs : Sat [rdS r m s q bad] w) : Calls Tryd.prog 58 [.pointer (some ⟨m, 0, none⟩), .pointer (some ⟨s, 0, none⟩)].toArray w fun e w' => ∃ _u : Unit, True ∧ e = .returned (.tuple #[str ((wl q).headD []), .bool (!(wl q).isEmpty)]) ∧ Hp ⟨w, ids [rdS r m s q bad]⟩ [rdS r m s (nxq q) bad] w' := by
  refine V.calls [rdS r m s q bad] Tryd.func58 rfl Tryd.ntmps58 (Nat.le_of_ble_eq_true rfl) hs ?_
  refine CW.seq ?_
  refine CW.region ?_
  refine LW.v rfl rfl (Val.assign rfl) ?_
  refine LW.v rfl rfl (Val.assign rfl) ?_
  refine LW.nil ?_
  refine PQ.seq ?_
  refine CW.seq ?_
  refine CW.seq ?_
  refine CW.region ?_
  refine LW.v rfl rfl (Val.load rfl Tryd.isAgg4 (by repeat (first | exact .here | exact .inner .here | exact .inner (.inner .here) | refine .there ?_)) (by rfl)) ?_
  refine LW.v rfl rfl (Val.not rfl) ?_
  refine LW.nil ?_
  refine PQ.seq ?_
  refine CW.cond rfl (fun h6 => ?_) (fun h6 => ?_)
  · replace h6 := bT h6
    have hq1 : q.1 = false := by simpa using h6
    refine CW.seq ?_
    refine CW.region ?_
    refine LW.v rfl rfl (Val.assign rfl) ?_
    refine LW.v rfl rfl (Val.assign rfl) ?_
    refine LW.nil ?_
    refine PQ.seq ?_
    refine CW.ret ?_
    refine PQ.then_ret ?_
    refine PQ.ret2 rfl rfl rfl ?_
    intro w' hw
    have e1 : nxq q = q := by unfold nxq; rw [hq1]; rfl
    rw [e1]
    exact ⟨(), trivial, by rw [wl_no hq1]; rfl, hw⟩
  · replace h6 := bF h6
    have hq1 : q.1 = true := by simpa using h6
    refine CW.skip ?_
    refine PQ.seq ?_
    refine CW.seq ?_
    refine CW.region ?_
    refine LW.v rfl rfl (Val.assign rfl) ?_
    refine LW.nil ?_
    refine PQ.seq ?_
    refine CW.seq ?_
    refine CW.region ?_
    refine LW.v rfl rfl (Val.load rfl Tryd.isAgg9 (by repeat (first | exact .here | exact .inner .here | exact .inner (.inner .here) | refine .there ?_)) (by rfl)) ?_
    refine LW.e rfl rfl (Eff.callV rfl Tryd.call46 (fun w hw => cut_c q.2 32 (by unfold QOk at hq; omega) w)) ?_
    intro _ _
    refine LW.v rfl rfl (Val.move rfl) ?_
    refine LW.v rfl rfl (Val.extract rfl rfl) ?_
    refine LW.v rfl rfl (Val.extract rfl rfl) ?_
    refine LW.v rfl rfl (Val.extract rfl rfl) ?_
    refine LW.v rfl rfl (Val.assign rfl) ?_
    refine LW.eN rfl (Eff.store rfl rfl rfl (by repeat (first | exact .here | exact .inner .here | exact .inner (.inner .here) | apply Upd.there)) (by rfl) (by rfl) Tryd.sizeOf9) ?_
    intro _ _
    refine LW.eN rfl (Eff.store rfl rfl rfl (by repeat (first | exact .here | exact .inner .here | exact .inner (.inner .here) | apply Upd.there)) (by rfl) (by rfl) Tryd.sizeOf4) ?_
    intro _ _
    refine LW.nil ?_
    refine PQ.seq ?_
    refine CW.seq ?_
    refine CW.region ?_
    refine LW.v rfl rfl (Val.move rfl) ?_
    refine LW.v rfl rfl (Val.assign rfl) ?_
    refine LW.v rfl rfl (Val.assign rfl) ?_
    refine LW.nil ?_
    refine PQ.seq ?_
    refine CW.ret ?_
    refine PQ.ret2 rfl rfl rfl ?_
    intro w' hw
    have e1 : nxq q = ((cutF 32 q.2).2.2, (cutF 32 q.2).2.1) := by unfold nxq; rw [if_pos hq1]
    rw [e1]
    exact ⟨(), trivial, by rw [(wl_hd hq1).1, (wl_hd hq1).2]; rfl, hw⟩
theorem rword2_c (r m s : Nat) (q : Bool × List UInt8) (bad : Bool) (hq : QOk q) (w : World) (hs : Sat [rdS r m s q bad] w) : Calls Tryd.prog 59 [.pointer (some ⟨r, 0, none⟩)].toArray w fun e w' => ∃ _u : Unit, True ∧ e = .returned (str ((wl q).headD [])) ∧ Hp ⟨w, ids [rdS r m s q bad]⟩ [rdS r m s (nxq q) (bad || (wl q).isEmpty)] w' := by
  refine V.calls [rdS r m s q bad] Tryd.func59 rfl Tryd.ntmps59 (Nat.le_of_ble_eq_true rfl) hs ?_
  refine CW.seq ?_
  refine CW.region ?_
  refine LW.v rfl rfl (Val.assign rfl) ?_
  refine LW.nil ?_
  refine PQ.seq ?_
  refine CW.seq ?_
  refine CW.region ?_
  refine LW.v rfl rfl (Val.move rfl) ?_
  refine LW.v rfl rfl (Val.nilCheck rfl) ?_
  refine LW.v rfl rfl (Val.fieldAddr 0 rfl Tryd.underlying87 rfl rfl Tryd.sizeOf84) ?_
  refine LW.v rfl rfl (Val.load rfl Tryd.isAgg84 (by repeat (first | exact .here | exact .inner .here | exact .inner (.inner .here) | refine .there ?_)) (by rfl)) ?_
  refine LW.e rfl rfl (Eff.callFM (f := 58) (caps := [.pointer (some ⟨m, 0, none⟩), .pointer (some ⟨s, 0, none⟩)]) ([rdS r m s q bad]) (by repeat (first | exact .nil | apply Pick.cons | exact .here | apply Ext.there)) rfl rfl Tryd.call58 (fun w hw hs0 => next_c r m s q bad hq w hs0)) ?_
  intro _ _
  refine LW.v rfl rfl (Val.move rfl) ?_
  refine LW.v rfl rfl (Val.extract rfl rfl) ?_
  refine LW.v rfl rfl (Val.extract rfl rfl) ?_
  refine LW.v rfl rfl (Val.assign rfl) ?_
  refine LW.v rfl rfl (Val.assign rfl) ?_
  refine LW.nil ?_
  refine PQ.seq ?_
  refine CW.seq ?_
  refine CW.region ?_
  refine LW.v rfl rfl (Val.move rfl) ?_
  refine LW.v rfl rfl (Val.move rfl) ?_
  refine LW.v rfl rfl (Val.nilCheck rfl) ?_
  refine LW.v rfl rfl (Val.fieldAddr 1 rfl Tryd.underlying87 rfl rfl Tryd.sizeOf4) ?_
  refine LW.v rfl rfl (Val.load rfl Tryd.isAgg4 (by repeat (first | exact .here | exact .inner .here | exact .inner (.inner .here) | refine .there ?_)) (by rfl)) ?_
  refine LW.v rfl rfl (Val.move rfl) ?_
  refine LW.split (d := 18) rfl (fun h18 => ?_) (fun h18 => ?_)
  · replace h18 := bT h18
    refine LW.p rfl rfl ?_
    refine LW.p rfl rfl ?_
    refine LW.v rfl rfl (Val.pick_t rfl rfl) ?_
    refine LW.re 21 (.bool (bad || (wl q).isEmpty)) rfl (by first | (simp_all; done) | (rw [h18]; rfl) | (cases bad <;> simp_all)) ?_
    refine LW.v rfl rfl (Val.nilCheck rfl) ?_
    refine LW.v rfl rfl (Val.fieldAddr 1 rfl Tryd.underlying87 rfl rfl Tryd.sizeOf4) ?_
    refine LW.eN rfl (Eff.store rfl rfl rfl (by repeat (first | exact .here | exact .inner .here | exact .inner (.inner .here) | apply Upd.there)) (by rfl) (by rfl) Tryd.sizeOf4) ?_
    intro _ _
    refine LW.nil ?_
    refine PQ.seq ?_
    refine CW.seq ?_
    refine CW.region ?_
    refine LW.v rfl rfl (Val.move rfl) ?_
    refine LW.v rfl rfl (Val.assign rfl) ?_
    refine LW.nil ?_
    refine PQ.seq ?_
    refine CW.ret ?_
    refine PQ.ret1 rfl rfl ?_
    intro w' hw
    exact ⟨(), trivial, rfl, hw.perm (by first | exact .refl _ | (simp_all; done))⟩
  · replace h18 := bF h18
    refine LW.v rfl rfl (Val.move rfl) ?_
    refine LW.v rfl rfl (Val.not rfl) ?_
    refine LW.v rfl rfl (Val.pick_f rfl rfl) ?_
    refine LW.re 21 (.bool (bad || (wl q).isEmpty)) rfl (by first | (simp_all; done) | (rw [h18]; rfl) | (cases bad <;> simp_all)) ?_
    refine LW.v rfl rfl (Val.nilCheck rfl) ?_
    refine LW.v rfl rfl (Val.fieldAddr 1 rfl Tryd.underlying87 rfl rfl Tryd.sizeOf4) ?_
    refine LW.eN rfl (Eff.store rfl rfl rfl (by repeat (first | exact .here | exact .inner .here | exact .inner (.inner .here) | apply Upd.there)) (by rfl) (by rfl) Tryd.sizeOf4) ?_
    intro _ _
    refine LW.nil ?_
    refine PQ.seq ?_
    refine CW.seq ?_
    refine CW.region ?_
    refine LW.v rfl rfl (Val.move rfl) ?_
    refine LW.v rfl rfl (Val.assign rfl) ?_
    refine LW.nil ?_
    refine PQ.seq ?_
    refine CW.ret ?_
    refine PQ.ret1 rfl rfl ?_
    intro w' hw
    exact ⟨(), trivial, rfl, hw.perm (by first | exact .refl _ | (simp_all; done))⟩
theorem rtext2_c (r m s : Nat) (q : Bool × List UInt8) (bad : Bool) (hq : QOk q) (w : World) (hs : Sat [rdS r m s q bad] w) : Calls Tryd.prog 81 [.pointer (some ⟨r, 0, none⟩)].toArray w fun e w' => ∃ _u : Unit, True ∧ e = .returned (str ((textF ((wl q).headD [])).getD [])) ∧ Hp ⟨w, ids [rdS r m s q bad]⟩ [rdS r m s (nxq q) (bad || (wl q).isEmpty || (textF ((wl q).headD [])).isNone)] w' := by
  have hwl := wl_len hq
  refine V.calls [rdS r m s q bad] Tryd.func81 rfl Tryd.ntmps81 (Nat.le_of_ble_eq_true rfl) hs ?_
  refine CW.seq ?_
  refine CW.region ?_
  refine LW.v rfl rfl (Val.assign rfl) ?_
  refine LW.nil ?_
  refine PQ.seq ?_
  refine CW.seq ?_
  refine CW.region ?_
  refine LW.v rfl rfl (Val.move rfl) ?_
  refine LW.e rfl rfl (Eff.callM ([rdS r m s q bad]) (by repeat (first | exact .nil | apply Pick.cons | exact .here | apply Ext.there)) rfl Tryd.call59 (fun w hw hs0 => rword2_c r m s q bad hq w hs0)) ?_
  intro _ _
  refine LW.e rfl rfl (Eff.callV rfl Tryd.call12 (fun w hw => text_c ((wl q).headD []) (by omega) w)) ?_
  intro _ _
  refine LW.re 8 (.tuple [str ((textF ((wl q).headD [])).getD []), .bool (textF ((wl q).headD [])).isSome].toArray) rfl rfl ?_
  refine LW.v rfl rfl (Val.move rfl) ?_
  refine LW.v rfl rfl (Val.extract rfl rfl) ?_
  refine LW.v rfl rfl (Val.extract rfl rfl) ?_
  refine LW.v rfl rfl (Val.assign rfl) ?_
  refine LW.v rfl rfl (Val.assign rfl) ?_
  refine LW.nil ?_
  refine PQ.seq ?_
  refine CW.seq ?_
  refine CW.region ?_
  refine LW.v rfl rfl (Val.move rfl) ?_
  refine LW.v rfl rfl (Val.move rfl) ?_
  refine LW.v rfl rfl (Val.nilCheck rfl) ?_
  refine LW.v rfl rfl (Val.fieldAddr 1 rfl Tryd.underlying87 rfl rfl Tryd.sizeOf4) ?_
  refine LW.v rfl rfl (Val.load rfl Tryd.isAgg4 (by repeat (first | exact .here | exact .inner .here | exact .inner (.inner .here) | refine .there ?_)) (by rfl)) ?_
  refine LW.v rfl rfl (Val.move rfl) ?_
  refine LW.split (d := 16) rfl (fun h16 => ?_) (fun h16 => ?_)
  · replace h16 := bT h16
    refine LW.p rfl rfl ?_
    refine LW.p rfl rfl ?_
    refine LW.v rfl rfl (Val.pick_t rfl rfl) ?_
    refine LW.re 19 (.bool (bad || (wl q).isEmpty || (textF ((wl q).headD [])).isNone)) rfl (by first | (rw [← Option.not_isSome]; simp_all; done) | (simp_all; done) | (cases hh : textF ((wl q).headD []) <;> simp_all)) ?_
    refine LW.v rfl rfl (Val.nilCheck rfl) ?_
    refine LW.v rfl rfl (Val.fieldAddr 1 rfl Tryd.underlying87 rfl rfl Tryd.sizeOf4) ?_
    refine LW.eN rfl (Eff.store rfl rfl rfl (by repeat (first | exact .here | exact .inner .here | exact .inner (.inner .here) | apply Upd.there)) (by rfl) (by rfl) Tryd.sizeOf4) ?_
    intro _ _
    refine LW.nil ?_
    refine PQ.seq ?_
    refine CW.seq ?_
    refine CW.region ?_
    refine LW.v rfl rfl (Val.move rfl) ?_
    refine LW.v rfl rfl (Val.assign rfl) ?_
    refine LW.nil ?_
    refine PQ.seq ?_
    refine CW.ret ?_
    refine PQ.ret1 rfl rfl ?_
    intro w' hw
    exact ⟨(), trivial, rfl, hw⟩
  · replace h16 := bF h16
    refine LW.v rfl rfl (Val.move rfl) ?_
    refine LW.v rfl rfl (Val.not rfl) ?_
    refine LW.v rfl rfl (Val.pick_f rfl rfl) ?_
    refine LW.re 19 (.bool (bad || (wl q).isEmpty || (textF ((wl q).headD [])).isNone)) rfl (by first | (rw [← Option.not_isSome]; simp_all; done) | (simp_all; done) | (cases hh : textF ((wl q).headD []) <;> simp_all)) ?_
    refine LW.v rfl rfl (Val.nilCheck rfl) ?_
    refine LW.v rfl rfl (Val.fieldAddr 1 rfl Tryd.underlying87 rfl rfl Tryd.sizeOf4) ?_
    refine LW.eN rfl (Eff.store rfl rfl rfl (by repeat (first | exact .here | exact .inner .here | exact .inner (.inner .here) | apply Upd.there)) (by rfl) (by rfl) Tryd.sizeOf4) ?_
    intro _ _
    refine LW.nil ?_
    refine PQ.seq ?_
    refine CW.seq ?_
    refine CW.region ?_
    refine LW.v rfl rfl (Val.move rfl) ?_
    refine LW.v rfl rfl (Val.assign rfl) ?_
    refine LW.nil ?_
    refine PQ.seq ?_
    refine CW.ret ?_
    refine PQ.ret1 rfl rfl ?_
    intro w' hw
    exact ⟨(), trivial, rfl, hw⟩
/-- A word's number. -/
def numF (w : List UInt8) : Option Nat := (Go.Lib.decNat w).bind fun n => if w = decN n ∧ n ≤ 999999999 then some n else none
theorem numF_some {w : List UInt8} {n : Nat} (h : numF w = some n) : w = decN n ∧ n ≤ 999999999 := by
  unfold numF at h
  rw [Option.bind_eq_some_iff] at h
  obtain ⟨m, _, h2⟩ := h
  split at h2
  · cases h2; assumption
  · cases h2
theorem decFrom_app : ∀ (l : List UInt8) (acc n d : Nat) (b : UInt8), Go.Lib.decFrom acc l = some n → Go.Lib.digitVal b = some d → Go.Lib.decFrom acc (l ++ [b]) = some (n * 10 + d)
  | [], acc, n, d, b, h, hb => by
    simp only [Go.Lib.decFrom] at h
    cases h
    simp only [List.nil_append, Go.Lib.decFrom, hb]
  | x :: r, acc, n, d, b, h, hb => by
    simp only [Go.Lib.decFrom, List.cons_append] at h ⊢
    cases hx : Go.Lib.digitVal x with
    | none => rw [hx] at h; cases h
    | some v => rw [hx] at h; exact decFrom_app r _ n d b h hb
theorem dig_val {d : Nat} (h : d < 10) : Go.Lib.digitVal (UInt8.ofNat (48 + d)) = some d := by
  have : ∀ d : Fin 10, Go.Lib.digitVal (UInt8.ofNat (48 + d.val)) = some d.val := by decide
  exact this ⟨d, h⟩
theorem decFrom_decN (n : Nat) : Go.Lib.decFrom 0 (decN n) = some n := by
  induction n using Nat.strongRecOn with
  | ind n ih =>
    by_cases h : n < 10
    · rw [decN_lt h]
      simp only [Go.Lib.decFrom, dig_val h]; simp
    · rw [decN_ge h, decN_lt (n := n % 10) (by omega)]
      rw [decFrom_app _ _ _ _ _ (ih (n / 10) (by omega)) (dig_val (by omega))]
      congr 1; omega
theorem decN_ne (n : Nat) : decN n ≠ [] := by
  by_cases h : n < 10
  · rw [decN_lt h]; simp
  · rw [decN_ge h, decN_lt (n := n % 10) (by omega)]; simp
theorem decN_lo : ∀ k n : Nat, 10 ^ k ≤ n → k + 1 ≤ (decN n).length
  | 0, n, _ => by have := List.length_pos_iff.2 (decN_ne n); omega
  | k + 1, n, h => by
    have h2 : 10 ≤ n := Nat.le_trans (by rw [Nat.pow_succ]; have := Nat.pow_pos (n := k) (by decide : 0 < 10); omega) h
    rw [decN_ge (by omega), List.length_append, decN_lt (n := n % 10) (by omega)]
    have := decN_lo k (n / 10) (by rw [Nat.pow_succ] at h; omega)
    simp only [List.length_cons, List.length_nil]; omega
theorem decNat_decN (n : Nat) : Go.Lib.decNat (decN n) = some n := by
  unfold Go.Lib.decNat
  rw [if_neg (by simp [decN_ne]), decFrom_decN]
theorem numF_decN {n : Nat} (h : n ≤ 999999999) : numF (decN n) = some n := by
  unfold numF
  rw [decNat_decN]
  simp [h]
theorem decN_hd (n : Nat) : ∃ c r, decN n = c :: r ∧ c.toNat ≠ 43 ∧ c.toNat ≠ 45 := by
  induction n using Nat.strongRecOn with
  | ind n ih =>
    by_cases h : n < 10
    · refine ⟨UInt8.ofNat (48 + n), [], decN_lt h, ?_⟩
      have : ∀ d : Fin 10, (UInt8.ofNat (48 + d.val)).toNat ≠ 43 ∧ (UInt8.ofNat (48 + d.val)).toNat ≠ 45 := by decide
      exact this ⟨n, h⟩
    · obtain ⟨c, r, h1, h2⟩ := ih (n / 10) (by omega)
      exact ⟨c, r ++ decN (n % 10), by rw [decN_ge h, h1]; rfl, h2⟩
theorem atoiAll_decN {n : Nat} (h : n ≤ 999999999) : Go.Lib.atoiAll (decN n) = .ok (n : Int) := by
  obtain ⟨c, r, h1, h2, h3⟩ := decN_hd n
  have hl : (decN n).length ≤ 9 := decN_len 8 n (by omega)
  have hp := Go.Lib.parseMag_short (decN n) (by omega)
  rw [decNat_decN] at hp
  unfold Go.Lib.atoiAll
  rw [h1] at hp ⊢
  simp only
  rw [if_neg (by omega), hp]
  simp only [Go.Lib.NumEnd.ofOption]
  rw [if_neg (by omega), if_neg (by omega), if_neg h3]
theorem atoiAll_small {l : List UInt8} {v : Int} (hl : l.length ≤ 9) (h : Go.Lib.atoiAll l = .ok v) : -1000000000000000000 < v ∧ v < 1000000000000000000 := by
  unfold Go.Lib.atoiAll at h
  cases l with
  | nil => cases h
  | cons c r =>
    simp only at h
    have key : ∀ u, Go.Lib.parseMag (if c.toNat = 43 ∨ c.toNat = 45 then r else c :: r) = .ok u → u < 1000000000000000000 := fun u hu => by
      rw [Go.Lib.parseMag_short _ (by split <;> simp at hl ⊢ <;> omega)] at hu
      cases hd : Go.Lib.decNat (if c.toNat = 43 ∨ c.toNat = 45 then r else c :: r) with
      | none => rw [hd] at hu; cases hu
      | some m =>
        rw [hd] at hu
        cases hu
        exact Go.Lib.decFrom_lt18 (Go.Lib.decNat_some hd).2 (by split <;> simp at hl ⊢ <;> omega)
    split at h
    · cases h
    · cases h
    · rename_i u hu
      have := key u hu
      split at h
      · cases h
      · split at h
        · cases h
        · simp only [Go.Lib.NumEnd.ok.injEq] at h
          split at h <;> omega
/-- What the library's numbers do, in whatever memory whose first blocks are as W's. -/
structure NumLib (W : World) : Prop where
  atoi : ∀ w, (∀ b, b < W.heap.size → w.heap[b]? = W.heap[b]?) → ∀ l : List UInt8, l.length ≤ 1000000 → Calls Tryd.prog 71 [str l].toArray w fun e w' => ∃ y : Int × Value, ((y.2 = .nilIface ∧ Go.Lib.atoiAll l = .ok y.1) ∨ ((∃ u p, y.2 = .iface u p) ∧ ∀ v, Go.Lib.atoiAll l ≠ .ok v)) ∧ e = .returned (.tuple #[.int .i64 y.1, y.2]) ∧ Below w.heap.size w w'
  itoa : ∀ w, (∀ b, b < W.heap.size → w.heap[b]? = W.heap[b]?) → ∀ x : Int, -1000000000000000000 ≤ x → x ≤ 1000000000000000000 → Calls Tryd.prog 55 [.int .i64 x].toArray w fun e w' => e = .returned (str (Go.Lib.itoa x)) ∧ Below w.heap.size w w'
/-- w lies over W. -/
def Ov (W w : World) : Prop := W.heap.size ≤ w.heap.size ∧ ∀ b, b < W.heap.size → w.heap[b]? = W.heap[b]?
theorem Ov.hp {W w0 w : World} {F : List Nat} {sg : Sg} (h : Ov W w0) (hF : ∀ b ∈ F, W.heap.size ≤ b) (hw : Hp ⟨w0, F⟩ sg w) : Ov W w := ⟨Nat.le_trans h.1 hw.size, fun b hb => by
  rw [hw.old b (Nat.lt_of_lt_of_le hb h.1) (fun h8 => by have := hF b h8; omega)]; exact h.2 b hb⟩
theorem number_c {W : World} (hN : NumLib W) (r m s : Nat) (q : Bool × List UInt8) (bad : Bool) (u : List UInt8) (hu : u.length ≤ 1000000) (w : World) (hO : Ov W w) (hR : ∀ b ∈ ids [rdS r m s q bad], W.heap.size ≤ b) (hs : Sat [rdS r m s q bad] w) : Calls Tryd.prog 60 [.pointer (some ⟨r, 0, none⟩), str u].toArray w fun e w' => ∃ _u : Unit, True ∧ e = .returned (.int .i64 (((numF u).getD 0 : Nat) : Int)) ∧ Hp ⟨w, ids [rdS r m s q bad]⟩ [rdS r m s q (bad || (numF u).isNone)] w' := by
  refine V.calls [rdS r m s q bad] Tryd.func60 rfl Tryd.ntmps60 (Nat.le_of_ble_eq_true rfl) hs ?_
  refine CW.seq ?_
  refine CW.region ?_
  refine LW.v rfl rfl (Val.assign rfl) ?_
  refine LW.nil ?_
  refine PQ.seq ?_
  refine CW.seq ?_
  refine CW.region ?_
  refine LW.v rfl rfl (Val.move rfl) ?_
  refine LW.e rfl rfl (Eff.callR rfl Tryd.call71 (fun w hw => hN.atoi w (hO.hp hR hw).2 u hu)) ?_
  intro y hy
  obtain ⟨nb, hnb⟩ : ∃ nb : Bool, ((y.2 = .nilIface ∧ nb = false) ∨ ((∃ u p, y.2 = .iface u p) ∧ nb = true)) := by
    rcases hy with ⟨h8, _⟩ | ⟨h8, _⟩
    · exact ⟨false, .inl ⟨h8, rfl⟩⟩
    · exact ⟨true, .inr ⟨h8, rfl⟩⟩
  refine LW.v rfl rfl (Val.move rfl) ?_
  refine LW.v rfl rfl (Val.extract rfl rfl) ?_
  refine LW.v rfl rfl (Val.extract rfl rfl) ?_
  refine LW.v rfl rfl (Val.assign rfl) ?_
  refine LW.v rfl rfl (Val.assign rfl) ?_
  refine LW.nil ?_
  refine PQ.seq ?_
  refine CW.seq ?_
  refine CW.seq ?_
  refine CW.region ?_
  refine LW.v rfl rfl (Val.move rfl) ?_
  refine LW.e rfl rfl (Eff.ofVal (Val.neIface nb rfl Tryd.underlying59 hnb)) ?_
  intro _ _
  refine LW.v rfl rfl (Val.move rfl) ?_
  refine LW.split (d := 14) rfl (fun h14 => ?_) (fun h14 => ?_)
  · replace h14 := bT h14
    have hyn : ¬ y.2 = .nilIface := by
      rcases hnb with ⟨_, z1⟩ | ⟨⟨a, b, z2⟩, _⟩
      · rw [z1] at h14; cases h14
      · rw [z2]; intro z3; cases z3
    refine LW.p rfl rfl ?_
    refine LW.p rfl rfl ?_
    refine LW.p rfl rfl ?_
    refine LW.v rfl rfl (Val.pick_t rfl rfl) ?_
    refine LW.v rfl rfl (Val.move rfl) ?_
    refine LW.p rfl rfl ?_
    refine LW.p rfl rfl ?_
    refine LW.p rfl rfl ?_
    refine LW.p rfl rfl ?_
    refine LW.v rfl rfl (Val.pick_t rfl rfl) ?_
    refine LW.v rfl rfl (Val.move rfl) ?_
    refine LW.p rfl rfl ?_
    refine LW.p rfl rfl ?_
    refine LW.v rfl rfl (Val.pick_t rfl rfl) ?_
    refine LW.nil ?_
    refine PQ.seq ?_
    refine CW.cond_t rfl ?_
    refine CW.seq ?_
    refine CW.region ?_
    refine LW.v rfl rfl (Val.move rfl) ?_
    refine LW.v rfl rfl (Val.nilCheck rfl) ?_
    refine LW.v rfl rfl (Val.fieldAddr 1 rfl Tryd.underlying87 rfl rfl Tryd.sizeOf4) ?_
    refine LW.eN rfl (Eff.store rfl rfl rfl (by repeat (first | exact .here | exact .inner .here | exact .inner (.inner .here) | apply Upd.there)) (by rfl) (by rfl) Tryd.sizeOf4) ?_
    intro _ _
    refine LW.nil ?_
    refine PQ.seq ?_
    refine CW.seq ?_
    refine CW.region ?_
    refine LW.v rfl rfl (Val.assign rfl) ?_
    refine LW.nil ?_
    refine PQ.seq ?_
    refine CW.ret ?_
    refine PQ.then_ret ?_
    refine PQ.ret1 rfl rfl ?_
    intro w' hw
    have hno : numF u = none := by
      cases hh : numF u with
      | none => rfl
      | some n =>
        exfalso
        obtain ⟨z8, z9⟩ := numF_some hh
        have z10 := atoiAll_decN z9
        have z11 : (decN n).length ≤ 9 := decN_len 8 n (by omega)
        rw [← z8] at z10 z11
        rcases hy with ⟨z12, z13⟩ | ⟨_, z13⟩
        · rw [z13] at z10
          have z14 : y.1 = (n : Int) := by injection z10
          have z15 : Go.Lib.itoa y.1 = u := by rw [z14, z8]; unfold Go.Lib.itoa decN; rw [if_neg (by omega)]; rfl
          first | omega | exact hyn z12 | exact h25 z15 | (simp_all; done)
        · exact z13 _ z10
    rw [hno, show (bad || (none : Option Nat).isNone) = true from by simp]
    exact ⟨(), trivial, rfl, hw⟩
  · replace h14 := bF h14
    have hyn : y.2 = .nilIface := by
      rcases hnb with ⟨z1, _⟩ | ⟨_, z1⟩
      · exact z1
      · rw [z1] at h14; cases h14
    refine LW.v rfl rfl (Val.move rfl) ?_
    refine LW.v rfl rfl (Val.lenStr rfl Tryd.underlying9) ?_
    refine LW.v rfl rfl (Val.cmp rfl rfl rfl) ?_
    refine LW.v rfl rfl (Val.pick_f rfl rfl) ?_
    refine LW.v rfl rfl (Val.move rfl) ?_
    refine LW.split (d := 19) rfl (fun h19 => ?_) (fun h19 => ?_)
    · replace h19 := bT h19
      refine LW.p rfl rfl ?_
      refine LW.p rfl rfl ?_
      refine LW.p rfl rfl ?_
      refine LW.p rfl rfl ?_
      refine LW.v rfl rfl (Val.pick_t rfl rfl) ?_
      refine LW.v rfl rfl (Val.move rfl) ?_
      refine LW.p rfl rfl ?_
      refine LW.p rfl rfl ?_
      refine LW.v rfl rfl (Val.pick_t rfl rfl) ?_
      refine LW.nil ?_
      refine PQ.seq ?_
      refine CW.cond_t rfl ?_
      refine CW.seq ?_
      refine CW.region ?_
      refine LW.v rfl rfl (Val.move rfl) ?_
      refine LW.v rfl rfl (Val.nilCheck rfl) ?_
      refine LW.v rfl rfl (Val.fieldAddr 1 rfl Tryd.underlying87 rfl rfl Tryd.sizeOf4) ?_
      refine LW.eN rfl (Eff.store rfl rfl rfl (by repeat (first | exact .here | exact .inner .here | exact .inner (.inner .here) | apply Upd.there)) (by rfl) (by rfl) Tryd.sizeOf4) ?_
      intro _ _
      refine LW.nil ?_
      refine PQ.seq ?_
      refine CW.seq ?_
      refine CW.region ?_
      refine LW.v rfl rfl (Val.assign rfl) ?_
      refine LW.nil ?_
      refine PQ.seq ?_
      refine CW.ret ?_
      refine PQ.then_ret ?_
      refine PQ.ret1 rfl rfl ?_
      intro w' hw
      have hno : numF u = none := by
        cases hh : numF u with
        | none => rfl
        | some n =>
          exfalso
          obtain ⟨z8, z9⟩ := numF_some hh
          have z10 := atoiAll_decN z9
          have z11 : (decN n).length ≤ 9 := decN_len 8 n (by omega)
          rw [← z8] at z10 z11
          rcases hy with ⟨z12, z13⟩ | ⟨_, z13⟩
          · rw [z13] at z10
            have z14 : y.1 = (n : Int) := by injection z10
            have z15 : Go.Lib.itoa y.1 = u := by rw [z14, z8]; unfold Go.Lib.itoa decN; rw [if_neg (by omega)]; rfl
            first | omega | exact hyn z12 | exact h25 z15 | (simp_all; done)
          · exact z13 _ z10
      rw [hno, show (bad || (none : Option Nat).isNone) = true from by simp]
      exact ⟨(), trivial, rfl, hw⟩
    · replace h19 := bF h19
      refine LW.v rfl rfl (Val.move rfl) ?_
      have hl9 : u.length ≤ 9 := by first | omega | (have h8 := h19; simp at h8; omega)
      have hok : Go.Lib.atoiAll u = .ok y.1 := by
        rcases hy with ⟨_, h8⟩ | ⟨⟨a, b, h8⟩, _⟩
        · exact h8
        · rw [hyn] at h8; cases h8
      have hvv := atoiAll_small hl9 hok
      have hv0 : -1000000000000000000 ≤ y.1 := by omega
      have hv1 : y.1 ≤ 1000000000000000000 := by omega
      refine LW.e rfl rfl (Eff.callV rfl Tryd.call55 (fun w hw => hN.itoa w (hO.hp hR hw).2 y.1 hv0 hv1)) ?_
      intro _ _
      refine LW.v rfl rfl (Val.move rfl) ?_
      refine LW.v rfl rfl (Val.neStr rfl rfl) ?_
      refine LW.v rfl rfl (Val.pick_f rfl rfl) ?_
      refine LW.v rfl rfl (Val.move rfl) ?_
      refine LW.split (d := 25) rfl (fun h25 => ?_) (fun h25 => ?_)
      · replace h25 := bT h25
        refine LW.p rfl rfl ?_
        refine LW.p rfl rfl ?_
        refine LW.v rfl rfl (Val.pick_t rfl rfl) ?_
        refine LW.nil ?_
        refine PQ.seq ?_
        refine CW.cond_t rfl ?_
        refine CW.seq ?_
        refine CW.region ?_
        refine LW.v rfl rfl (Val.move rfl) ?_
        refine LW.v rfl rfl (Val.nilCheck rfl) ?_
        refine LW.v rfl rfl (Val.fieldAddr 1 rfl Tryd.underlying87 rfl rfl Tryd.sizeOf4) ?_
        refine LW.eN rfl (Eff.store rfl rfl rfl (by repeat (first | exact .here | exact .inner .here | exact .inner (.inner .here) | apply Upd.there)) (by rfl) (by rfl) Tryd.sizeOf4) ?_
        intro _ _
        refine LW.nil ?_
        refine PQ.seq ?_
        refine CW.seq ?_
        refine CW.region ?_
        refine LW.v rfl rfl (Val.assign rfl) ?_
        refine LW.nil ?_
        refine PQ.seq ?_
        refine CW.ret ?_
        refine PQ.then_ret ?_
        refine PQ.ret1 rfl rfl ?_
        intro w' hw
        have hno : numF u = none := by
          cases hh : numF u with
          | none => rfl
          | some n =>
            exfalso
            obtain ⟨z8, z9⟩ := numF_some hh
            have z10 := atoiAll_decN z9
            have z11 : (decN n).length ≤ 9 := decN_len 8 n (by omega)
            rw [← z8] at z10 z11
            rcases hy with ⟨z12, z13⟩ | ⟨_, z13⟩
            · rw [z13] at z10
              have z14 : y.1 = (n : Int) := by injection z10
              have z15 : Go.Lib.itoa y.1 = u := by rw [z14, z8]; unfold Go.Lib.itoa decN; rw [if_neg (by omega)]; rfl
              first | omega | exact hyn z12 | exact h25 z15 | (simp_all; done)
            · exact z13 _ z10
        rw [hno, show (bad || (none : Option Nat).isNone) = true from by simp]
        exact ⟨(), trivial, rfl, hw⟩
      · replace h25 := bF h25
        refine LW.v rfl rfl (Val.move rfl) ?_
        refine LW.v rfl rfl (Val.cmp rfl rfl rfl) ?_
        refine LW.v rfl rfl (Val.pick_f rfl rfl) ?_
        refine LW.nil ?_
        refine PQ.seq ?_
        refine CW.cond rfl (fun h28 => ?_) (fun h28 => ?_)
        · replace h28 := bT h28
          refine CW.seq ?_
          refine CW.region ?_
          refine LW.v rfl rfl (Val.move rfl) ?_
          refine LW.v rfl rfl (Val.nilCheck rfl) ?_
          refine LW.v rfl rfl (Val.fieldAddr 1 rfl Tryd.underlying87 rfl rfl Tryd.sizeOf4) ?_
          refine LW.eN rfl (Eff.store rfl rfl rfl (by repeat (first | exact .here | exact .inner .here | exact .inner (.inner .here) | apply Upd.there)) (by rfl) (by rfl) Tryd.sizeOf4) ?_
          intro _ _
          refine LW.nil ?_
          refine PQ.seq ?_
          refine CW.seq ?_
          refine CW.region ?_
          refine LW.v rfl rfl (Val.assign rfl) ?_
          refine LW.nil ?_
          refine PQ.seq ?_
          refine CW.ret ?_
          refine PQ.then_ret ?_
          refine PQ.ret1 rfl rfl ?_
          intro w' hw
          have hno : numF u = none := by
            cases hh : numF u with
            | none => rfl
            | some n =>
              exfalso
              obtain ⟨z8, z9⟩ := numF_some hh
              have z10 := atoiAll_decN z9
              have z11 : (decN n).length ≤ 9 := decN_len 8 n (by omega)
              rw [← z8] at z10 z11
              rcases hy with ⟨z12, z13⟩ | ⟨_, z13⟩
              · rw [z13] at z10
                have z14 : y.1 = (n : Int) := by injection z10
                have z15 : Go.Lib.itoa y.1 = u := by rw [z14, z8]; unfold Go.Lib.itoa decN; rw [if_neg (by omega)]; rfl
                first | omega | exact hyn z12 | exact h25 z15 | (simp_all; done)
              · exact z13 _ z10
          rw [hno, show (bad || (none : Option Nat).isNone) = true from by simp]
          exact ⟨(), trivial, rfl, hw⟩
        · replace h28 := bF h28
          obtain ⟨n, hn⟩ : ∃ n : Nat, y.1 = (n : Int) := ⟨y.1.toNat, by omega⟩
          have hit : Go.Lib.itoa y.1 = u := by first | exact h25 | (simpa using h25)
          have hdec : u = decN n := by rw [← hit, hn]; unfold Go.Lib.itoa decN; rw [if_neg (by omega)]; rfl
          have hn9 : n ≤ 999999999 := by
            rcases Nat.lt_or_ge 999999999 n with z1 | z1
            · have z2 := decN_lo 9 n (by omega)
              rw [← hdec] at z2; omega
            · exact z1
          have hyes : numF u = some n := by rw [hdec]; exact numF_decN hn9
          refine CW.skip ?_
          refine PQ.seq ?_
          refine CW.seq ?_
          refine CW.region ?_
          refine LW.v rfl rfl (Val.move rfl) ?_
          refine LW.v rfl rfl (Val.assign rfl) ?_
          refine LW.nil ?_
          refine PQ.seq ?_
          refine CW.ret ?_
          refine PQ.ret1 rfl rfl ?_
          intro w' hw
          rw [hyes, show (bad || (some n : Option Nat).isNone) = bad from by simp]
          exact ⟨(), trivial, by rw [hn]; rfl, hw⟩
end Go.Proofs.YtagliemeolngiaaDoor
