import Derived.Test.YtcnjjefbnlgdjaaGreatQb5
import Derived.Lib.Hide
import Derived.DataShut
import Derived.ProofKit
import Derived.OpenShut
import Derived.Shelf.SlGeneric
import Derived.Shelf.Small.Strs
import Derived.Ground.SlsfProg
import Derived.Shelf.SlSortCmp.WholeK
import Derived.Shelf.SlSortCmp.NoneTotal
import Derived.Test.YtcnjjefbnlgdjaaGreatProg
import Derived.WalkKit
/- A revival: the device behind it. -/
namespace Go.Proofs.YtcnjjefbnlgdjaaGreat
open Go Go.RowKit V
set_option linter.unusedVariables false
set_option maxRecDepth 100000
namespace G
open V (str byC ownV ownG ownS ownOk)
theorem look_line (D : List Ce) (line c kd : Int) : (lookF D line c kd).line = line := by
  unfold lookF
  split
  · split <;> rfl
  · rfl
theorem dec_may {l : List UInt8} {b : Blk} (h : decF l = some b) : mayF b = true := by
  unfold decF at h
  split at h
  · cases h
  · split at h
    · rename_i hh
      simp only [Option.some.injEq] at h
      rw [← h]; exact hh.2.2.1
    · cases h
theorem look_span (D : List Ce) (line : Int) {c kd : Int} (h : spanF c ≠ 0) : spanF (lookF D line c kd).b.cls ≠ 0 := by
  unfold lookF
  split
  · split
    · rename_i b hb; exact may_span (dec_may hb)
    · exact h
  · exact h
theorem scN_line {D : List Ce} {nx : Int} {f : Fnd} (h : scN D nx = some f) : f.line = 2 + nx := by
  unfold scN at h
  split at h
  · cases h
  · split at h
    · cases h
    · simp only [Option.some.injEq] at h
      rw [← h]; exact look_line _ _ _ _
theorem scN_span {D : List Ce} {nx : Int} {f : Fnd} (h : scN D nx = some f) : spanF f.b.cls ≠ 0 := by
  unfold scN at h
  split at h
  · cases h
  · rename_i c kd hh
    split at h
    · cases h
    · simp only [Option.some.injEq] at h
      rw [← h]; exact look_span _ _ (head_some hh).2.1
theorem scN_none {D : List Ce} {nx : Int} (h : scN D nx = none) {c kd : Nat} (hh : headF (nowL D (2 + nx)) = some (c, kd)) : kd = 0 := by
  unfold scN at h
  rw [hh] at h
  simp only at h
  split at h
  · assumption
  · cases h
theorem fds_mem {D : List Ce} {m : Int} {f : Fnd} : f ∈ fds D m ↔ ∃ i : Nat, i < m.toNat ∧ scN D (i : Nat) = some f := by
  unfold fds
  rw [List.mem_filterMap]
  simp only [List.mem_range]
theorem fds_one {D : List Ce} {m : Int} {f g : Fnd} (hf : f ∈ fds D m) (hg : g ∈ fds D m) (h : f.line = g.line) : f = g := by
  obtain ⟨i, _, hi⟩ := fds_mem.1 hf
  obtain ⟨j, _, hj⟩ := fds_mem.1 hg
  have h1 := scN_line hi
  have h2 := scN_line hj
  have e : i = j := by omega
  subst e
  rw [hi] at hj
  exact Option.some.inj hj
theorem draft_head {c : Int} (h : spanF c ≠ 0) : (headF (draftL c)).map Prod.snd = some 0 := by
  rcases spanF_cases c with ⟨a, _⟩ | ⟨a, _⟩ | ⟨a, _⟩ | ⟨a, _⟩ | ⟨a, e⟩
  · subst a; decide +kernel
  · subst a; decide +kernel
  · subst a; decide +kernel
  · subst a; decide +kernel
  · exact absurd e h
def Calm (D : List Ce) : Prop := ∀ c ∈ D, c.kept = c.now ∧ c.sent = false
theorem keep_not {e : Int} {fd : List Fnd} {f : Fnd} (h : keepF e fd f = true) : scrubF e fd f = false ∧ antiF e f = false := by
  have ha : antiF e f = false := by
    unfold keepF payF at h
    unfold antiF
    simp only [Bool.and_eq_true, decide_eq_true_eq] at h
    rw [decide_eq_false h.1.2, Bool.and_false]
  exact ⟨by unfold scrubF; rw [h]; simp, ha⟩
theorem fen_at {D : List Ce} {i : Nat} {c' : Ce} (h : (D.map fenB)[i]? = some c') : ∃ c, D[i]? = some c ∧ c' = fenB c := by
  rw [List.getElem?_map, Option.map_eq_some_iff] at h
  obtain ⟨c, h1, h2⟩ := h
  exact ⟨c, h1, h2.symm⟩
/-- A line behind the wipes and their fence: as it was, or a draft in both copies. -/
theorem wiped_at {D : List Ce} {fs : List Fnd} {i : Nat} {c' : Ce} (hc : Calm D) (hl : ∀ f ∈ fs, spanF f.b.cls ≠ 0) (h : ((wl D fs).map fenB)[i]? = some c') : (D[i]? = some c' ∧ ∀ f ∈ fs, f.line ≠ (i : Nat)) ∨ (c'.kept = c'.now ∧ c'.sent = false ∧ ∃ f ∈ fs, f.line = (i : Nat) ∧ c'.now.1 = draftL f.b.cls) := by
  obtain ⟨c, h1, rfl⟩ := fen_at h
  rcases wl_at (fun f hf => draftL_len (hl f hf)) h1 with ⟨h2, h3⟩ | ⟨f, hf, h2, h3, h4, h5⟩
  · have h8 := hc c (List.mem_of_getElem? h2)
    have e : fenB c = c := by unfold fenB; rw [if_neg (by rw [h8.2]; decide)]
    rw [e]
    exact .inl ⟨h2, h3⟩
  · right
    unfold fenB
    rw [if_pos h5]
    exact ⟨h4, rfl, f, hf, h2, h3⟩
theorem wiped_calm {D : List Ce} {fs : List Fnd} (hc : Calm D) (hl : ∀ f ∈ fs, spanF f.b.cls ≠ 0) : Calm ((wl D fs).map fenB) := by
  intro c hcm
  obtain ⟨i, hi⟩ := List.mem_iff_getElem?.1 hcm
  rcases wiped_at hc hl hi with ⟨h1, _⟩ | ⟨h1, h2, _⟩
  · exact hc c (List.mem_of_getElem? h1)
  · exact ⟨h1, h2⟩
/-- The device behind a revival. -/
theorem clean_end {n : Nat} {D0 : List Ce} {v : Dev} {c : Cor} (h : Cln D0 v c) (hI : Inv n v c) (hc : Calm D0) (hp : c.ph = 6) {i : Nat} {c' : Ce} (hi : v.D[i]? = some c') : c'.kept = c'.now ∧ ((∀ f ∈ c.kp, f.line ≠ (i : Nat)) → (2 ≤ i ∧ (i : Int) < 2 + slabsF D0.length * 8) → ∀ a kd, headF c'.now.1 = some (a, kd) → kd = 0) ∧ (∀ f ∈ c.kp, f.line = (i : Nat) → D0[i]? = some c') := by
  have hv := h.p5 (by omega) (by omega)
  have hfd := h.f2 (by omega) (by omega)
  have hkp := (hI.kp (by omega) (by omega)).1
  have hsp : ∀ f ∈ c.fd, spanF f.b.cls ≠ 0 := fun f hf => by
    rw [hfd] at hf
    obtain ⟨j, _, hj⟩ := fds_mem.1 hf
    exact scN_span hj
  have hs1 : ∀ f ∈ c.fd.filter (scrubF c.e c.fd), spanF f.b.cls ≠ 0 := fun f hf => hsp f (List.mem_filter.1 hf).1
  have hs2 : ∀ f ∈ c.fd.filter (antiF c.e), spanF f.b.cls ≠ 0 := fun f hf => hsp f (List.mem_filter.1 hf).1
  have hc1 := wiped_calm hc hs1
  have hc2 := wiped_calm hc1 hs2
  rw [hv] at hi
  have hk := (hc2 c' (List.mem_of_getElem? hi)).1
  have hone : ∀ f ∈ c.kp, ∀ g ∈ c.fd, f.line = (i : Nat) → g.line = (i : Nat) → scrubF c.e c.fd g = false ∧ antiF c.e g = false := fun f hf g hg h1 h2 => by
    rw [hkp] at hf
    have h3 := List.mem_filter.1 hf
    have e : f = g := fds_one (by rw [← hfd]; exact h3.1) (by rw [← hfd]; exact hg) (h1.trans h2.symm)
    rw [← e]
    exact keep_not h3.2
  have hdr : ∀ f ∈ c.fd, c'.now.1 = draftL f.b.cls → ∀ a kd, headF c'.now.1 = some (a, kd) → kd = 0 := fun f hf h1 a kd h2 => by
    have h3 := draft_head (hsp f hf)
    rw [← h1, h2] at h3
    simpa using h3
  rcases wiped_at hc1 hs2 hi with ⟨h1, h2⟩ | ⟨h1, h2, f, hf, h3, h4⟩
  · rcases wiped_at hc hs1 h1 with ⟨h5, h6⟩ | ⟨h5, h6, f, hf, h7, h8⟩
    · refine ⟨hk, fun hno hin a kd hh => ?_, fun f hf hfl => h5⟩
      have hsl := slabs_lt D0.length
      cases hs : scN D0 ((i - 2 : Nat) : Int) with
      | none =>
        refine scN_none hs (c := a) (kd := kd) ?_
        rw [show (2 : Int) + ((i - 2 : Nat) : Int) = (i : Nat) by omega, nowL_of h5]
        exact hh
      | some f =>
        exfalso
        have hfm : f ∈ c.fd := by rw [hfd]; exact fds_mem.2 ⟨i - 2, by omega, hs⟩
        have hfl : f.line = (i : Nat) := by rw [scN_line hs]; omega
        have hna : antiF c.e f = false := by
          cases e : antiF c.e f with
          | false => rfl
          | true => exact absurd hfl (h2 f (List.mem_filter.2 ⟨hfm, e⟩))
        have hns : scrubF c.e c.fd f = false := by
          cases e : scrubF c.e c.fd f with
          | false => rfl
          | true => exact absurd hfl (h6 f (List.mem_filter.2 ⟨hfm, e⟩))
        have hkf : keepF c.e c.fd f = true := by
          unfold scrubF at hns
          rw [hna] at hns
          simpa using hns
        exact hno f (by rw [hkp]; exact List.mem_filter.2 ⟨hfm, hkf⟩) hfl
    · refine ⟨hk, fun _ _ => hdr f (List.mem_filter.1 hf).1 h8, fun g hg hgl => ?_⟩
      have h9 := List.mem_filter.1 hf
      have := (hone g hg f h9.1 hgl h7).1
      rw [h9.2] at this; cases this
  · refine ⟨hk, fun _ _ => hdr f (List.mem_filter.1 hf).1 h4, fun g hg hgl => ?_⟩
    have h9 := List.mem_filter.1 hf
    have := (hone g hg f h9.1 hgl h3).2
    rw [h9.2] at this; cases this
end G
end Go.Proofs.YtcnjjefbnlgdjaaGreat

/- A revival to its end. -/
namespace Go.Proofs.YtcnjjefbnlgdjaaGreat
open Go Go.RowKit V
set_option linter.unusedVariables false
set_option maxRecDepth 100000
namespace G
open V (str byC ownV ownG ownS ownOk)
theorem phase_g (rb db : Nat) (r : Rvl) (w : World) (hB : w.heap[rb]? = some (.cells (rvC db r).toArray 113 (0, 0))) : Calls Tryz.prog 25 [.pointer (some ⟨rb, 0, none⟩)].toArray w fun e w' => e = .returned (.int .i64 r.ph) ∧ Below w.heap.size w w' := by
  refine V.calls [] Tryz.func25 rfl Tryz.ntmps25 (Nat.le_of_ble_eq_true rfl) (V.sat_nil _) <| Sq <| Rg <| Lv Av <| Nl <| Ps <| Sq <| Sq <| Rg <| Lv Mv <| Lv EP <| Nl <| Ps <| Cf <| Sk <| Ps <| Sq <| Rg <| Lv Mv <| Lv Nz <| Lv (Fa 2 3) <| Lv (Val.loadO rfl Tryz.isAgg3 (V.lt_of_some hB) (by simp [ids]) (V.cell_of_block hB rfl)) <| Lv Av <| Nl <| Ps <| Rt <| Rt1 ?_
  intro w' hw; exact ⟨rfl, hw.below⟩
theorem epoch_g (rb db : Nat) (r : Rvl) (w : World) (hB : w.heap[rb]? = some (.cells (rvC db r).toArray 113 (0, 0))) : Calls Tryz.prog 21 [.pointer (some ⟨rb, 0, none⟩)].toArray w fun e w' => e = .returned (.int .u64 r.e) ∧ Below w.heap.size w w' := by
  refine V.calls [] Tryz.func21 rfl Tryz.ntmps21 (Nat.le_of_ble_eq_true rfl) (V.sat_nil _) <| Sq <| Rg <| Lv Av <| Nl <| Ps <| Sq <| Sq <| Rg <| Lv Mv <| Lv EP <| Nl <| Ps <| Cf <| Sk <| Ps <| Sq <| Rg <| Lv Mv <| Lv Nz <| Lv (Fa 3 22) <| Lv (Val.loadO rfl Tryz.isAgg22 (V.lt_of_some hB) (by simp [ids]) (V.cell_of_block hB rfl)) <| Lv Av <| Nl <| Ps <| Rt <| Rt1 ?_
  intro w' hw; exact ⟨rfl, hw.below⟩
def runN (v : Dev) (c : Cor) : Nat → Dev × Cor
  | 0 => (v, c)
  | k + 1 => ((stp (runN v c k).1 (runN v c k).2).1, (stp (runN v c k).1 (runN v c k).2).2.1)
def cor0 : Cor := ⟨0, 0, 0, [], []⟩
theorem inv0 (v : Dev) (h : 0 < v.D.length ∧ v.D.length ≤ 1000) : Inv v.D.length v cor0 := ⟨rfl, h, by decide, fun h8 => absurd h8 (by decide), by decide, fun _ => rfl, fun h8 => absurd h8 (by decide), by decide, fun f hf => (by cases hf), fun h8 => absurd h8 (by decide), fun h8 => absurd h8 (by decide), fun h8 => absurd h8 (by decide)⟩
theorem cln0 (v : Dev) : Cln v.D v cor0 := ⟨fun _ => rfl, fun h8 => absurd h8 (by decide), fun h8 => absurd h8 (by decide), fun h8 => absurd h8 (by decide), fun h8 => absurd h8 (by decide), fun h8 => absurd h8 (by decide)⟩
theorem rvx0 (th n : Nat) : RvX th n (rv0 (th : Nat)) none := ⟨rfl, ⟨rfl, rfl⟩, ⟨rfl, rfl⟩, fun _ => ⟨rfl, rfl⟩, rfl, fun y h => by cases h⟩
theorem cor_rv0 (th : Int) : corOf (rv0 th) = cor0 := rfl
theorem runN_inv {v : Dev} (h : 0 < v.D.length ∧ v.D.length ≤ 1000) : ∀ k, Inv v.D.length (runN v cor0 k).1 (runN v cor0 k).2 ∧ Cln v.D (runN v cor0 k).1 (runN v cor0 k).2
  | 0 => ⟨inv0 v h, cln0 v⟩
  | k + 1 => by
    obtain ⟨h1, h2⟩ := runN_inv h k
    exact ⟨h1.step, h2.step h1 rfl⟩
end G
end Go.Proofs.YtcnjjefbnlgdjaaGreat

/- A revival to its end: the law's own function. -/
namespace Go.Proofs.YtcnjjefbnlgdjaaGreat
open Go Go.RowKit V
set_option linter.unusedVariables false
set_option maxRecDepth 100000
namespace G
open V (str byC ownV ownG ownS ownOk)
instance : Cal Tryz.prog 17 := ⟨Tryz.call17⟩
instance : Cal Tryz.prog 19 := ⟨Tryz.call19⟩
instance : Cal Tryz.prog 25 := ⟨Tryz.call25⟩
instance : Cal Tryz.prog 32 := ⟨Tryz.call32⟩
theorem arena2_g (rb db : Nat) (r : Rvl) (w : World) (hB : w.heap[rb]? = some (.cells (rvC db r).toArray 113 (0, 0))) : Calls Tryz.prog 32 [.pointer (some ⟨rb, 0, none⟩)].toArray w fun e w' => e = .returned (.tuple #[if r.ph = 6 then r.st else .pointer none, .bool (decide (r.ph = 6))]) ∧ Below w.heap.size w w' := by
  refine V.calls [] Tryz.func32 rfl Tryz.ntmps32 (Nat.le_of_ble_eq_true rfl) (V.sat_nil _) <| Sq <| Rg <| Lv Av <| Lv Av <| Nl <| Ps <| Sq <| Sq <| Rg <| Lv Mv <| Lv EP <| Lv Mv <| Lv Mv <| Lv Nz <| Lv (Fa 2 3) <| Lv (Val.loadO rfl Tryz.isAgg3 (V.lt_of_some hB) (by simp [ids]) (V.cell_of_block hB rfl)) <| Lv Cm <| Lv Pf <| Nl <| Ps ?_
  refine CW.cond rfl (fun h12 => ?_) (fun h12 => ?_)
  · replace h12 := bT h12
    have h12 : ¬ r.ph = 6 := h12
    refine Sq <| Rg <| Lv Av <| Lv Av <| Nl <| Ps <| Rt <| Tr <| Rt2 ?_
    rw [if_neg h12, decide_eq_false h12]
    intro w' hw; exact ⟨rfl, hw.below⟩
  · replace h12 := bF h12
    have h12 : r.ph = 6 := by simpa using h12
    refine Sk <| Ps <| Sq <| Rg <| Lv Mv <| Lv Nz <| Lv (Fa 10 30) <| Lv (Val.loadO rfl Tryz.isAgg30 (V.lt_of_some hB) (by simp [ids]) (V.cell_of_block hB rfl)) <| Lv Av <| Lv Av <| Nl <| Ps <| Rt <| Rt2 ?_
    rw [if_pos h12, decide_eq_true h12]
    intro w' hw; exact ⟨rfl, hw.below⟩
theorem step_gN (rb : Nat) (x : DvR) (v : Dev) (k : Nat) (r : Rvl) (hL : 0 < v.D.length ∧ v.D.length ≤ 1000) (hc : corOf r = (runN v cor0 k).2) (hX : RvX 2 v.D.length r none) (w : World) (hs : Sat (rvS rb x.db r ++ vS x (runN v cor0 k).1) w) : Calls Tryz.prog 19 [.pointer (some ⟨rb, 0, none⟩)].toArray w fun e w' => ∃ q : Rvl × Option (ArR × ArS), (corOf q.1 = (runN v cor0 (k + 1)).2 ∧ RvX 2 v.D.length q.1 q.2) ∧ e = .returned (.int .i64 (stp (runN v cor0 k).1 (corOf r)).2.2) ∧ Hp ⟨w, V.ids (rvS rb x.db r ++ vS x (runN v cor0 k).1)⟩ (rvG rb x (runN v cor0 (k + 1)).1 q.1 q.2) w' := by
  have hi := (runN_inv hL k).1
  have hl := hi.len
  rw [← hc] at hi
  have h8 := step_g rb x (runN v cor0 k).1 r none 2 (by omega) (by omega) (by rw [hl]; exact hi) (by rw [hl]; exact hX) w hs
  rw [hl, hc] at h8
  rw [hc]
  exact h8
theorem stepN_pot {v : Dev} {k : Nat} {r : Rvl} (hL : 0 < v.D.length ∧ v.D.length ≤ 1000) (hc : corOf r = (runN v cor0 k).2) (h6 : r.ph < 6) : pot v.D.length (runN v cor0 (k + 1)).2 + 1 ≤ pot v.D.length (corOf r) := by
  have hi := (runN_inv hL k).1
  rw [← hc] at hi
  have h8 := hi.pot_step h6
  rw [hc] at h8 ⊢
  exact h8
theorem to22_g (x : DvR) (v : Dev) (hL : 0 < v.D.length ∧ v.D.length ≤ 1000) (hpo : pot v.D.length cor0 ≤ 600) (w : World) (hs : Sat (vS x v) w) : Calls Tryz.prog 10 [.pointer (some ⟨x.db, 0, none⟩)].toArray w fun e w' => ∃ z : Nat × Nat × Rvl × Option (ArR × ArS), (6 ≤ z.2.2.1.ph ∧ corOf z.2.2.1 = (runN v cor0 z.2.1).2 ∧ RvX 2 v.D.length z.2.2.1 z.2.2.2) ∧ e = .returned (.tuple #[.pointer (some ⟨z.1, 0, none⟩), (if z.2.2.1.ph = 6 then z.2.2.1.st else .pointer none), .bool (decide (z.2.2.1.ph = 6))]) ∧ Hp ⟨w, V.ids ((vS x v))⟩ (rvG z.1 x (runN v cor0 z.2.1).1 z.2.2.1 z.2.2.2) w' := by
  refine V.calls (vS x v) Tryz.func10 rfl Tryz.ntmps10 (Nat.le_of_ble_eq_true rfl) hs <| Sq <| Rg <| Lv Av <| Lv Av <| Lv Av <| Nl <| Ps <| Sq <| Rg <| Lv Mv <| Le (CM [] fun w hw hs0 => rnew2_g x.db 2 (by omega) w) fun rb _ => Lv Mv <| Lv Ex <| Lv Ex <| Lv Av <| Lv Av <| Nl <| Ps <| Sq <| Sq <| Rg <| Lv Mv <| Lv Cm <| Lv Mv <| Lv Mv <| Lv EP <| Lv Pf <| LW.re 20 (.bool false) rfl (by rfl) <| Nl <| Ps <| Cf <| Sk <| Ps <| Sq <| Sq <| Rg <| Lv Av <| Nl <| Ps <| Bk <| loopA (γ := Nat × Rvl × Option (ArR × ArS)) (fun z => [(5, .pointer (some ⟨rb, 0, none⟩)), (7, .int .i64 (z.1 : Nat))]) (fun z => rvG rb x (runN v cor0 z.1).1 z.2.1 z.2.2) (fun z => corOf z.2.1 = (runN v cor0 z.1).2 ∧ RvX 2 v.D.length z.2.1 z.2.2 ∧ (z.1 : Int) + pot v.D.length (corOf z.2.1) ≤ 600) (fun z => 600 - z.1) ((0, rv0 2, none)) ⟨rfl, rvx0 2 _, by show ((0 : Nat) : Int) + pot v.D.length cor0 ≤ 600; omega⟩ fun z => ?_
  rintro ⟨hc, hX, hpt⟩
  refine Sq <| Sq <| Rg <| Lv Mv <| Lv Cm <| Lv Mv ?_
  refine LW.split (d := 23) rfl (fun h23 => ?_) (fun h23 => ?_)
  · replace h23 := bT h23
    have h22 : z.1 < 600 := by omega
    refine Lv Mv <| Le (CV fun w hw => phase_g rb x.db z.2.1 w hw.at) fun _ _ => Lv Cm <| Lv Pt <| Nl <| Ps ?_
    refine CW.cond rfl (fun h27 => ?_) (fun h27 => ?_)
    · replace h27 := bT h27
      obtain ⟨k, r, ar⟩ := z
      have h26 : r.ph < 6 := h27
      obtain rfl : ar = none := by
        cases ar with
        | none => rfl
        | some y => have h8 := hX.has; rw [decide_eq_false (by simp only at h26 ⊢; omega)] at h8; cases h8
      refine Sk <| Ps <| Sq <| Bk <| Rg <| Lv Mv <| Le (CM ((rvS rb x.db r ++ vS x (runN v cor0 k).1)) fun w hw hs0 => step_gN rb x v k r hL hc hX w hs0) fun q hq => ?_
      obtain ⟨r2, ar2⟩ := q
      obtain ⟨hq1, hq2⟩ := hq
      rcases ar2 with _ | y
      · skip
        refine Nl <| Bn <| Ps <| Rg <| Lv Mv <| Lv Ar <| Lv Av <| Nl ?_
        exact roundA ((k + 1, r2, _)) ⟨hq1, hq2, by have := stepN_pot hL hc h26; rw [hq1]; simp only at hpt this ⊢; omega⟩ (by simp only; omega)
      · skip
        refine Nl <| Bn <| Ps <| Rg <| Lv Mv <| Lv Ar <| Lv Av <| Nl ?_
        exact roundA ((k + 1, r2, _)) ⟨hq1, hq2, by have := stepN_pot hL hc h26; rw [hq1]; simp only at hpt this ⊢; omega⟩ (by simp only; omega)
    · replace h27 := bF h27
      refine Xt <| Te <| Te <| Bh <| Ps <| Sq <| Rg <| Lv Mv <| Le (CV fun w hw => arena2_g rb x.db z.2.1 w hw.at) fun _ _ => Lv Mv <| Lv Ex <| Lv Ex <| Lv Av <| Lv Av <| Nl <| Ps <| Sq <| Rg <| Lv Mv <| Lv Mv <| Lv Mv <| Lv Mv ?_
      refine LW.split (d := 40) rfl (fun h40 => ?_) (fun h40 => ?_)
      · replace h40 := bT h40
        obtain ⟨y, hy⟩ : ∃ y, z.2.2 = some y := by
          have h8 := hX.has
          rw [decide_eq_true h40] at h8
          exact Option.isSome_iff_exists.1 h8
        have hst := (hX.got y hy).2
        refine Lv Mv <| LW.re 41 (.pointer (some ⟨y.1.a, 0, none⟩)) rfl (by rw [if_pos h40, hst]) <| Lv NP <| Lv Pt <| Lv Av <| Lv Av <| Lv Av <| Nl <| Ps <| Rt <| Rt3 ?_
        have hi := (runN_inv hL z.1).1
        rw [← hc] at hi
        have hpn := hi.pot_nn
        have h9 : (corOf z.2.1).ph = z.2.1.ph := rfl
        have hend : 6 ≤ z.2.1.ph := by
          have h8 := hpn.2
          rw [h9] at h8
          by_cases e : z.1 < 600
          · omega
          · exact h8 (by omega)
        intro w' hw; exact ⟨(rb, z.1, z.2.1, z.2.2), ⟨hend, hc, hX⟩, by simp only [decide_eq_true h40], hw⟩
      · replace h40 := bF h40
        refine Lp <| Lp <| Lv Pf <| Lv Av <| Lv Av <| Lv Av <| Nl <| Ps <| Rt <| Rt3 ?_
        have hi := (runN_inv hL z.1).1
        rw [← hc] at hi
        have hpn := hi.pot_nn
        have h9 : (corOf z.2.1).ph = z.2.1.ph := rfl
        have hend : 6 ≤ z.2.1.ph := by
          have h8 := hpn.2
          rw [h9] at h8
          by_cases e : z.1 < 600
          · omega
          · exact h8 (by omega)
        intro w' hw; exact ⟨(rb, z.1, z.2.1, z.2.2), ⟨hend, hc, hX⟩, by simp only [decide_eq_false h40], hw⟩
  · replace h23 := bF h23
    refine Lp <| Lp <| Lp <| Lv Pf <| Nl <| Ps <| Cf <| Xt <| Te <| Te <| Bh <| Ps <| Sq <| Rg <| Lv Mv <| Le (CV fun w hw => arena2_g rb x.db z.2.1 w hw.at) fun _ _ => Lv Mv <| Lv Ex <| Lv Ex <| Lv Av <| Lv Av <| Nl <| Ps <| Sq <| Rg <| Lv Mv <| Lv Mv <| Lv Mv <| Lv Mv ?_
    refine LW.split (d := 40) rfl (fun h40 => ?_) (fun h40 => ?_)
    · replace h40 := bT h40
      obtain ⟨y, hy⟩ : ∃ y, z.2.2 = some y := by
        have h8 := hX.has
        rw [decide_eq_true h40] at h8
        exact Option.isSome_iff_exists.1 h8
      have hst := (hX.got y hy).2
      refine Lv Mv <| LW.re 41 (.pointer (some ⟨y.1.a, 0, none⟩)) rfl (by rw [if_pos h40, hst]) <| Lv NP <| Lv Pt <| Lv Av <| Lv Av <| Lv Av <| Nl <| Ps <| Rt <| Rt3 ?_
      have hi := (runN_inv hL z.1).1
      rw [← hc] at hi
      have hpn := hi.pot_nn
      have h9 : (corOf z.2.1).ph = z.2.1.ph := rfl
      have hend : 6 ≤ z.2.1.ph := by
        have h8 := hpn.2
        rw [h9] at h8
        by_cases e : z.1 < 600
        · omega
        · exact h8 (by omega)
      intro w' hw; exact ⟨(rb, z.1, z.2.1, z.2.2), ⟨hend, hc, hX⟩, by simp only [decide_eq_true h40], hw⟩
    · replace h40 := bF h40
      refine Lp <| Lp <| Lv Pf <| Lv Av <| Lv Av <| Lv Av <| Nl <| Ps <| Rt <| Rt3 ?_
      have hi := (runN_inv hL z.1).1
      rw [← hc] at hi
      have hpn := hi.pot_nn
      have h9 : (corOf z.2.1).ph = z.2.1.ph := rfl
      have hend : 6 ≤ z.2.1.ph := by
        have h8 := hpn.2
        rw [h9] at h8
        by_cases e : z.1 < 600
        · omega
        · exact h8 (by omega)
      intro w' hw; exact ⟨(rb, z.1, z.2.1, z.2.2), ⟨hend, hc, hX⟩, by simp only [decide_eq_false h40], hw⟩
end G
end Go.Proofs.YtcnjjefbnlgdjaaGreat

/- What is kept, told; bytes alike. -/
namespace Go.Proofs.YtcnjjefbnlgdjaaGreat
open Go Go.RowKit V
set_option linter.unusedVariables false
set_option maxRecDepth 100000
namespace G
open V (str byC ownV ownG ownS ownOk)
instance : Cal Tryz.prog 40 := ⟨Tryz.call40⟩
instance : Inhabited Fnd := ⟨fd0⟩
theorem fd_oneF (l : List Fnd) : (l.flatMap fdC).all (·.oneCell') = true := by
  induction l with
  | nil => rfl
  | cons f r ih => rw [List.flatMap_cons, List.all_append, ih]; rfl
theorem cloneFd_c (l : List Fnd) (p : Option Addr) (c : Nat) (hl : l.length ≤ 1000) (w : World) (h : V.slAt w p 9 fdC l) : Calls Tryz.prog 40 [.slice p l.length c].toArray w fun e w' => ∃ o : V.OwnO, ownOk 9 l.length (l.flatMap fdC) o ∧ e = .returned (ownV l.length o) ∧ Hp ⟨w, []⟩ [ownG 45 (l.flatMap fdC) o] w' := by
  refine V.calls [] Tryz.func40 rfl Tryz.ntmps40 (Nat.le_of_ble_eq_true rfl) (V.sat_nil _) <| Sq <| Rg <| Lv Av <| Nl <| Ps <| Sq <| Sq <| Rg <| Lv Mv <| Lv (Val.eqSlNil rfl rfl Tryz.underlying33) <| Nl <| Ps ?_
  refine CW.cond rfl (fun h4 => ?_) (fun h4 => ?_)
  · replace h4 := bT h4
    have hpn : p = none := by cases p with | none => rfl | some q => simp at h4
    obtain rfl : l = [] := by
      rcases h with h | ⟨b, o, h, _⟩
      · exact h
      · rw [hpn] at h; cases h
    refine Sq <| Rg <| Lv Av <| Nl <| Ps <| Rt <| Tr <| Rt1 ?_
    intro w' hw; exact ⟨none, ⟨rfl, rfl⟩, rfl, hw.perm (.refl _)⟩
  · replace h4 := bF h4
    refine Sk <| Ps <| Sq <| Rg <| Le (Eff.buildSlice0 Tryz.underlying33 Tryz.sizeOf45) fun b5 _ => Lv Mv <| Le (Eff.appendAny (l.flatMap fdC) (sz := 9) (bytes := 88) (z := .agg #[.int .i64 0, .bool false, .int .i64 0, .int .i64 0, .int .u64 0, .int .u64 0, .int .u64 0, .string ⟨#[]⟩, .string ⟨#[]⟩]) (xs := []) (m0 := 0) (o := some (b5, [], 0)) (m := l.length) (pk := [ownG 45 [] (some (b5, [], 0))]) rfl rfl Tryz.underlying33 (by kernel_rfl) rfl (by omega) (by repeat (first | exact .nil | apply Pick.cons | exact .here | apply Ext.there)) (by simp) ⟨rfl, rfl⟩ (V.flatMap_len fdC_len _) (fun hm0 => by obtain ⟨b8, o8, h8, h9⟩ := sl_range (F := []) fdC_len h hm0 (by simp); exact ⟨b8, o8, h8, fun w1 hw1 => h9 w1 hw1⟩) (fd_oneF l) (by omega) (by omega)) fun o2 ho2 => ?_
    have h2 : ownOk 9 l.length (l.flatMap fdC) o2 := by simpa using ho2
    rw [List.nil_append, Nat.zero_add]
    refine Lv Av <| Nl <| Ps <| Rt <| Rt1 ?_
    intro w' hw; exact ⟨o2, h2, rfl, hw.pick (by repeat (first | exact .nil | apply Pick.cons | exact .here | apply Ext.there))⟩
theorem kept_g (rb db : Nat) (r : Rvl) (hk : ownOk 9 r.kp.length (r.kp.flatMap fdC) r.ko) (hl : r.kp.length ≤ 1000) (w : World) (hs : Sat ([rvO rb db r] :: [ownG 45 (r.kp.flatMap fdC) r.ko]) w) : Calls Tryz.prog 11 [.pointer (some ⟨rb, 0, none⟩)].toArray w fun e w' => ∃ o : V.OwnO, ownOk 9 r.kp.length (r.kp.flatMap fdC) o ∧ e = .returned (ownV r.kp.length o) ∧ Hp ⟨w, V.ids (([rvO rb db r] :: [ownG 45 (r.kp.flatMap fdC) r.ko]))⟩ ([ownG 45 (r.kp.flatMap fdC) o, [rvO rb db r], ownG 45 (r.kp.flatMap fdC) r.ko]) w' := by
  obtain ⟨pd, cd, hvd, hsd⟩ := own_slF r.kp r.ko hk
  refine V.calls ([rvO rb db r] :: [ownG 45 (r.kp.flatMap fdC) r.ko]) Tryz.func11 rfl Tryz.ntmps11 (Nat.le_of_ble_eq_true rfl) hs <| Sq <| Rg <| Lv Av <| Nl <| Ps <| Sq <| Sq <| Rg <| Lv Mv <| Lv EP <| Nl <| Ps <| Cf <| Sk <| Ps <| Sq <| Rg <| Lv Mv <| Lv Nz <| Lv (Fa 6 33) <| Lv (Ld (v := ownV r.kp.length r.ko)) <| LW.re 8 (.slice pd r.kp.length cd) rfl hvd <| Le (CM [] fun w hw hs => cloneFd_c r.kp pd cd hl w (hsd hw (by repeat (first | exact .nil | apply Pick.cons | exact .here | apply Ext.there)))) fun o ho => Lv Av <| Nl <| Ps <| Rt <| Rt1 ?_
  intro w' hw; exact ⟨o, ho, rfl, hw.pick (by repeat (first | exact .nil | apply Pick.cons | exact .here | apply Ext.there))⟩
end G
end Go.Proofs.YtcnjjefbnlgdjaaGreat

/- Bytes alike. -/
namespace Go.Proofs.YtcnjjefbnlgdjaaGreat
open Go Go.RowKit V
set_option linter.unusedVariables false
set_option maxRecDepth 100000
namespace G
open V (str byC ownV ownG ownS ownOk)
theorem same_g (a b : List UInt8) (p q : Option Addr) (c d : Nat) (w : World) (ha : V.slAt w p 1 byE a) (hb : V.slAt w q 1 byE b) : Calls Tryz.prog 14 [.slice p a.length c, .slice q b.length d].toArray w fun e w' => e = .returned (.bool (decide (a = b))) ∧ Below w.heap.size w w' := by
  refine V.calls [] Tryz.func14 rfl Tryz.ntmps14 (Nat.le_of_ble_eq_true rfl) (V.sat_nil _) <| Sq <| Rg <| Lv Av <| Nl <| Ps <| Sq <| Rg <| Lv Mv <| Lv (Val.convSl (l := a) rfl Tryz.underlying35 Tryz.underlying5 Tryz.underlying9 (fun w hw => hw.slAt ha (by simp [ids]))) <| Lv Mv <| Lv (Val.convSl (l := b) rfl Tryz.underlying35 Tryz.underlying5 Tryz.underlying9 (fun w hw => hw.slAt hb (by simp [ids]))) <| Lv ES <| Lv Av <| Nl <| Ps <| Rt <| Rt1 ?_
  intro w' hw; exact ⟨by first | rfl | (congr 2), hw.below⟩
end G
end Go.Proofs.YtcnjjefbnlgdjaaGreat

/- The law of the device behind a revival: how much is laid. -/
namespace Go.Proofs.YtcnjjefbnlgdjaaGreat
open Go Go.RowKit V
set_option linter.unusedVariables false
set_option maxRecDepth 100000
namespace G
open V (str byC ownV ownG ownS ownOk)
instance : Und Tryz.prog 23 (dOf Tryz.underlying23) := ⟨Tryz.underlying23⟩
instance : Siz Tryz.prog 23 (kOf Tryz.sizeOf23) := ⟨Tryz.sizeOf23⟩
instance : AgF Tryz.prog 23 := ⟨Tryz.isAgg23⟩
instance : Zer Tryz.prog 23 (zOf Tryz.zeroValue23) := ⟨Tryz.zeroValue23⟩
instance : Und Tryz.prog 72 (dOf Tryz.underlying72) := ⟨Tryz.underlying72⟩
instance : Siz Tryz.prog 72 (kOf Tryz.sizeOf72) := ⟨Tryz.sizeOf72⟩
instance : AgT Tryz.prog 72 := ⟨Tryz.isAgg72⟩
instance : Zer Tryz.prog 72 (zOf Tryz.zeroValue72) := ⟨Tryz.zeroValue72⟩
/-- What is laid: a line, a block, raw bytes (where they lie), where they begin. -/
structure Laid where
  line : Int
  b : Blk
  rp : Option Addr
  raw : List UInt8
  rc : Nat
  at_ : Int
def ldC (x : Laid) : List Value := [.int .i64 x.line, .int .i64 x.b.cls, .int .i64 x.b.kind, .int .u64 x.b.id, .int .u64 x.b.ver, .int .u64 x.b.ep, str x.b.key, str x.b.val, .slice x.rp x.raw.length x.rc, .int .i64 x.at_]
theorem ldC_len (x : Laid) : (ldC x).length = 10 := rfl
/-- What is laid lies there. -/
def LdR (w : World) (p : Option Addr) (l : List Laid) : Prop := V.slAt w p 10 ldC l ∧ ∀ x ∈ l, V.slAt w x.rp 1 byE x.raw
def largeF (l : List Laid) : Bool := decide (30 < l.length) || l.any fun x => decide (500 < x.b.key.length) || decide (500 < x.b.val.length) || decide (64 < x.raw.length)
theorem any_at {l : List Laid} {q : Laid → Bool} {k : Nat} {x : Laid} (hx : l[k]? = some x) (h : q x = true) : l.any q = true := List.any_eq_true.2 ⟨x, List.mem_of_getElem? hx, h⟩
theorem any_up {l : List Laid} {q : Laid → Bool} {k : Nat} {x : Laid} (h : (l.take k).any q = false) (hx : l[k]? = some x) (hq : q x = false) : (l.take (k + 1)).any q = false := by
  rw [List.take_add_one, hx, Option.toList_some, List.any_append, h]; simp [hq]
abbrev ldB (x : Laid) : Bool := decide (500 < x.b.key.length) || decide (500 < x.b.val.length) || decide (64 < x.raw.length)
theorem large_g (l : List Laid) (p : Option Addr) (c : Nat) (w : World) (hp : LdR w p l) : Calls Tryz.prog 6 [.slice p l.length c].toArray w fun e w' => e = .returned (.bool (largeF l)) ∧ Below w.heap.size w w' := by
  refine V.calls [] Tryz.func6 rfl Tryz.ntmps6 (Nat.le_of_ble_eq_true rfl) (V.sat_nil _) <| Sq <| Rg <| Lv Av <| Nl <| Ps <| Sq <| Sq <| Rg <| Lv Mv <| Lv Ln <| Lv Cm <| Nl <| Ps ?_
  refine CW.cond rfl (fun h6 => ?_) (fun h6 => ?_)
  · replace h6 := bT h6
    refine Sq <| Rg <| Lv Av <| Nl <| Ps <| Rt <| Tr <| Rt1 ?_
    intro w' hw; exact ⟨by congr 1; unfold largeF; rw [decide_eq_true (by omega), Bool.true_or], hw.below⟩
  · replace h6 := bF h6
    refine Sk <| Ps <| Sq <| Sq <| Rg <| Lv Av <| Nl <| Ps <| Bk <| loopA (γ := Nat) (fun k => [(0, .slice p l.length c), (3, .int .i64 (k : Nat))]) (fun _ => []) (fun k => k ≤ l.length ∧ l.length ≤ 30 ∧ (l.take k).any ldB = false) (fun k => l.length - k) (0) ⟨Nat.zero_le _, by omega, by simp⟩ fun k => ?_
    rintro ⟨hk1, hk2, hk3⟩
    refine Sq <| Sq <| Rg <| Lv Mv <| Lv Mv <| Lv Ln <| Lv Cm <| Nl <| Ps ?_
    refine CW.cond rfl (fun h10 => ?_) (fun h10 => ?_)
    · replace h10 := bT h10
      have hk9 : k < l.length := by omega
      obtain ⟨bb1, o1, y, rfl, hb1, hx1, hr1⟩ := V.slAt_at hp.1 rfl (k := k) hk9
      refine Sk <| Ps <| Sq <| Bk <| Sq <| Rg <| Lv Mv <| Lv Mv <| Lv Ix <| Lv (Fa 1 43) <| Lv (Fa 5 9) <| Lv (Val.loadO rfl Tryz.isAgg9 hb1 (by simp [ids]) (hr1 k y hx1 6 _ rfl)) <| Lv LnS <| Lv Cm <| Lv Mv ?_
      refine LW.split (d := 21) rfl (fun h21 => ?_) (fun h21 => ?_)
      · replace h21 := bT h21
        refine Lp <| Lp <| Lp <| Lp <| Lp <| Lp <| Lp <| Lp <| Lv Pt <| Lv Mv <| Lp <| Lp <| Lp <| Lp <| Lp <| Lp <| Lp <| Lv Pt <| Nl <| Ps <| Ct <| Sq <| Rg <| Lv Av <| Nl <| Ps <| Rt <| Br <| Tr <| Tr <| Br <| Tr <| Rt1 ?_
        have h8 : l.any ldB = true := any_at hx1 (by simp only [ldB]; simp; omega)
        intro w' hw; exact ⟨by congr 1; unfold largeF; rw [h8, Bool.or_true], hw.below⟩
      · replace h21 := bF h21
        refine Lv Mv <| Lv Mv <| Lv Ix <| Lv (Fa 1 43) <| Lv (Fa 6 9) <| Lv (Val.loadO rfl Tryz.isAgg9 hb1 (by simp [ids]) (hr1 k y hx1 7 _ rfl)) <| Lv LnS <| Lv Cm <| Lv Pf <| Lv Mv ?_
        refine LW.split (d := 31) rfl (fun h31 => ?_) (fun h31 => ?_)
        · replace h31 := bT h31
          refine Lp <| Lp <| Lp <| Lp <| Lp <| Lp <| Lp <| Lv Pt <| Nl <| Ps <| Ct <| Sq <| Rg <| Lv Av <| Nl <| Ps <| Rt <| Br <| Tr <| Tr <| Br <| Tr <| Rt1 ?_
          have h8 : l.any ldB = true := any_at hx1 (by simp only [ldB]; simp; omega)
          intro w' hw; exact ⟨by congr 1; unfold largeF; rw [h8, Bool.or_true], hw.below⟩
        · replace h31 := bF h31
          refine Lv Mv <| Lv Mv <| Lv Ix <| Lv (Fa 8 35) <| Lv (Val.loadO rfl Tryz.isAgg35 hb1 (by simp [ids]) (hr1 k y hx1 8 _ rfl)) <| Lv Ln <| Lv Cm <| Lv Pf <| Nl <| Ps ?_
          refine CW.cond rfl (fun h39 => ?_) (fun h39 => ?_)
          · replace h39 := bT h39
            refine Sq <| Rg <| Lv Av <| Nl <| Ps <| Rt <| Br <| Tr <| Tr <| Br <| Tr <| Rt1 ?_
            have h8 : l.any ldB = true := any_at hx1 (by simp only [ldB]; simp; omega)
            intro w' hw; exact ⟨by congr 1; unfold largeF; rw [h8, Bool.or_true], hw.below⟩
          · replace h39 := bF h39
            refine Sk <| Bn <| Ps <| Rg <| Lv Mv <| Lv Ar <| Lv Av <| Nl ?_
            exact roundA (k + 1) ⟨by omega, hk2, any_up hk3 hx1 (by simp only [ldB]; simp; omega)⟩ (by omega)
    · replace h10 := bF h10
      refine Xt <| Te <| Te <| Bh <| Ps <| Sq <| Rg <| Lv Av <| Nl <| Ps <| Rt <| Rt1 ?_
      have h8 : l.any ldB = false := by rw [List.take_of_length_le (by omega)] at hk3; exact hk3
      intro w' hw; exact ⟨by congr 1; unfold largeF; rw [h8, decide_eq_false (by omega), Bool.or_false], hw.below⟩
end G
end Go.Proofs.YtcnjjefbnlgdjaaGreat

/- The law of the device behind a revival: the device. -/
namespace Go.Proofs.YtcnjjefbnlgdjaaGreat
open Go Go.RowKit V
set_option linter.unusedVariables false
set_option maxRecDepth 100000
namespace G
open V (str byC ownV ownG ownS ownOk)
/-- So many lines of a text stored, one behind the other. -/
def layN (v : Dev) (line : Int) (bs : List UInt8) : Nat → Dev
  | 0 => v
  | k + 1 => (layN v line bs k).store (IntKind.i64.wrap (line + (k : Nat))) 0 ((bs.drop (64 * k)).take 64)
def layV (v : Dev) (x : Laid) : Dev := if mayF x.b = true then layN v x.line (encL x.b) (spanF x.b.cls) else v.store x.line x.at_ x.raw
def backN (v : Dev) : Nat → Dev
  | 0 => v
  | k + 1 => (backN v k).back (k : Nat)
/-- The device with what is laid on it. -/
def devF (n : Nat) (clk : Int) (l : List Laid) : Dev := backN (l.foldl layV ((fmtV ⟨List.replicate n ce0, ct0⟩).store 1 0 (clockL clk))) n
theorem layN_len (v : Dev) (line : Int) (bs : List UInt8) : ∀ k, (layN v line bs k).D.length = v.D.length
  | 0 => rfl
  | k + 1 => by rw [layN, Dev.store_len, layN_len v line bs k]
theorem layV_len (v : Dev) (x : Laid) : (layV v x).D.length = v.D.length := by
  unfold layV
  split
  · exact layN_len _ _ _ _
  · exact Dev.store_len _ _ _ _
theorem lay_len : ∀ (l : List Laid) (v : Dev), (l.foldl layV v).D.length = v.D.length
  | [], _ => rfl
  | x :: r, v => (lay_len r (layV v x)).trans (layV_len v x)
theorem backN_len (v : Dev) : ∀ k, (backN v k).D.length = v.D.length
  | 0 => rfl
  | k + 1 => by rw [backN, Dev.back_len, backN_len v k]
theorem devF_len (n : Nat) (clk : Int) (l : List Laid) : (devF n clk l).D.length = n := by
  unfold devF
  rw [backN_len, lay_len, Dev.store_len, fmtV_len, List.length_replicate]
theorem backN_at (v : Dev) : ∀ (k : Nat) {i : Nat} {c : Ce}, i < k → (backN v k).D[i]? = some c → c.kept = c.now ∧ c.sent = false
  | 0, i, c, h, _ => absurd h (by omega)
  | k + 1, i, c, h, hc => by
    have hc2 : (upD (backN v k).D (k : Nat) (fun c => { c with kept := c.now, sent := false }))[i]? = some c := hc
    by_cases hk : k < (backN v k).D.length
    · have hD : (backN v k).D[k]? = some (backN v k).D[k] := List.getElem?_eq_getElem hk
      rw [upD_set hD] at hc2
      by_cases e : k = i
      · subst e
        rw [List.getElem?_set_self hk, Option.some.injEq] at hc2
        rw [← hc2]; exact ⟨rfl, rfl⟩
      · rw [List.getElem?_set_ne e] at hc2
        exact backN_at v k (by omega) hc2
    · rw [upD_out (by omega)] at hc2
      have hi := (List.getElem?_eq_some_iff.1 hc2).1
      exact backN_at v k (by omega) hc2
theorem devF_calm (n : Nat) (clk : Int) (l : List Laid) : Calm (devF n clk l).D := by
  intro c hc
  obtain ⟨i, hi⟩ := List.mem_iff_getElem?.1 hc
  have hlt := (List.getElem?_eq_some_iff.1 hi).1
  rw [devF_len] at hlt
  exact backN_at _ n hlt hi
end G
end Go.Proofs.YtcnjjefbnlgdjaaGreat

/- Blocks that are laid by hand came in: their cells. -/
namespace Go.Proofs.YtcnjjefbnlgdjaaGreat
open Go Go.RowKit V
set_option linter.unusedVariables false
set_option maxRecDepth 100000
namespace G
open V (str byC ownV ownG ownS ownOk)
theorem cellsOf3 : Tryz.prog.cellsOf 3 = 1 := by kernel_rfl
theorem cellsOf5 : Tryz.prog.cellsOf 5 = 1 := by kernel_rfl
theorem cellsOf9 : Tryz.prog.cellsOf 9 = 1 := by kernel_rfl
theorem cellsOf22 : Tryz.prog.cellsOf 22 = 1 := by kernel_rfl
theorem cellsOf35 : Tryz.prog.cellsOf 35 = 1 := by kernel_rfl
theorem cellsOf43 : Tryz.prog.cellsOf 43 = 7 := by kernel_rfl
theorem cellsOf72 : Tryz.prog.cellsOf 72 = 10 := by kernel_rfl
theorem open72 {H : Type} {enc : TypeId × Value → H} {w : World} {base : Nat} {spare : Nat → Bool} {held : Bool} {fuel : Nat} {cs : List Value} {x : DataW H × List MemPlace} (h : DataW.trod enc Tryz.prog w base spare held fuel 72 cs = some x) :
    ∃ (v0 : Int) (v1 : Int) (v2 : Int) (v3 : Int) (v4 : Int) (v5 : Int) (v6 : ByteArray) (v7 : ByteArray) (p8 : Option Addr) (n8 : Nat) (q8 : Nat) (l8 : List (List Value)) (v9 : Int), cs = [.int .i64 v0, .int .i64 v1, .int .i64 v2, .int .u64 v3, .int .u64 v4, .int .u64 v5, .string v6, .string v7, .slice p8 n8 q8, .int .i64 v9] ∧ (Lit.int .i64 v0).wf = true ∧ (Lit.int .i64 v1).wf = true ∧ (Lit.int .i64 v2).wf = true ∧ (Lit.int .u64 v3).wf = true ∧ (Lit.int .u64 v4).wf = true ∧ (Lit.int .u64 v5).wf = true ∧ v6.size ≤ maxLen ∧ v7.size ≤ maxLen ∧ n8 = l8.length ∧ n8 ≤ maxLen ∧ V.slAt w p8 1 id l8 ∧ (∀ c ∈ l8, ∃ m y, DataW.trod enc Tryz.prog w base spare held m 5 c = some y) ∧ (Lit.int .i64 v9).wf = true := by
  have hlen := (V.trod_fields Tryz.underlying72 h).1
  rw [cellsOf72] at hlen
  match cs, hlen with
  | [c0, c1, c2, c3, c4, c5, c6, c7, c8, c9], _ =>
    obtain ⟨_, m0, g0⟩ := V.trod_fields Tryz.underlying72 h
    obtain ⟨y0_0, f0_0⟩ := g0 0 _ rfl 3 0 1 rfl rfl cellsOf3
    simp only [List.drop, List.take] at f0_0
    obtain ⟨v0, e0, _, w0⟩ := DataW.trod_int Tryz.underlying3 f0_0
    simp only [List.cons.injEq, and_true] at e0; subst e0
    obtain ⟨y0_1, f0_1⟩ := g0 1 _ rfl 43 1 7 rfl rfl cellsOf43
    simp only [List.drop, List.take] at f0_1
    obtain ⟨_, m1, g1⟩ := V.trod_fields Tryz.underlying43 f0_1
    obtain ⟨y1_0, f1_0⟩ := g1 0 _ rfl 3 0 1 rfl rfl cellsOf3
    simp only [List.drop, List.take] at f1_0
    obtain ⟨v1, e1, _, w1⟩ := DataW.trod_int Tryz.underlying3 f1_0
    simp only [List.cons.injEq, and_true] at e1; subst e1
    obtain ⟨y1_1, f1_1⟩ := g1 1 _ rfl 3 1 1 rfl rfl cellsOf3
    simp only [List.drop, List.take] at f1_1
    obtain ⟨v2, e2, _, w2⟩ := DataW.trod_int Tryz.underlying3 f1_1
    simp only [List.cons.injEq, and_true] at e2; subst e2
    obtain ⟨y1_2, f1_2⟩ := g1 2 _ rfl 22 2 1 rfl rfl cellsOf22
    simp only [List.drop, List.take] at f1_2
    obtain ⟨v3, e3, _, w3⟩ := DataW.trod_int Tryz.underlying22 f1_2
    simp only [List.cons.injEq, and_true] at e3; subst e3
    obtain ⟨y1_3, f1_3⟩ := g1 3 _ rfl 22 3 1 rfl rfl cellsOf22
    simp only [List.drop, List.take] at f1_3
    obtain ⟨v4, e4, _, w4⟩ := DataW.trod_int Tryz.underlying22 f1_3
    simp only [List.cons.injEq, and_true] at e4; subst e4
    obtain ⟨y1_4, f1_4⟩ := g1 4 _ rfl 22 4 1 rfl rfl cellsOf22
    simp only [List.drop, List.take] at f1_4
    obtain ⟨v5, e5, _, w5⟩ := DataW.trod_int Tryz.underlying22 f1_4
    simp only [List.cons.injEq, and_true] at e5; subst e5
    obtain ⟨y1_5, f1_5⟩ := g1 5 _ rfl 9 5 1 rfl rfl cellsOf9
    simp only [List.drop, List.take] at f1_5
    obtain ⟨v6, e6, _, w6⟩ := DataW.trod_string Tryz.underlying9 f1_5
    simp only [List.cons.injEq, and_true] at e6; subst e6
    obtain ⟨y1_6, f1_6⟩ := g1 6 _ rfl 9 6 1 rfl rfl cellsOf9
    simp only [List.drop, List.take] at f1_6
    obtain ⟨v7, e7, _, w7⟩ := DataW.trod_string Tryz.underlying9 f1_6
    simp only [List.cons.injEq, and_true] at e7; subst e7
    obtain ⟨y0_2, f0_2⟩ := g0 2 _ rfl 35 8 1 rfl rfl cellsOf35
    simp only [List.drop, List.take] at f0_2
    obtain ⟨p8, n8, q8, l8, e8, z8, x8, s8, t8⟩ := V.open_sl (sz := 1) Tryz.underlying35 cellsOf5 (by decide) f0_2
    simp only [List.cons.injEq, and_true] at e8; subst e8
    obtain ⟨y0_3, f0_3⟩ := g0 3 _ rfl 3 9 1 rfl rfl cellsOf3
    simp only [List.drop, List.take] at f0_3
    obtain ⟨v9, e9, _, w9⟩ := DataW.trod_int Tryz.underlying3 f0_3
    simp only [List.cons.injEq, and_true] at e9; subst e9
    exact ⟨v0, v1, v2, v3, v4, v5, v6, v7, p8, n8, q8, l8, v9, rfl, w0, w1, w2, w3, w4, w5, w6, w7, z8, x8, s8, t8, w9⟩
section
variable {H : Type} {enc : TypeId × Value → H} {w : World} {base : Nat} {spare : Nat → Bool} {held : Bool} {fuel : Nat} {cs : List Value} {x : DataW H × List MemPlace}
theorem open_by (h : DataW.trod enc Tryz.prog w base spare held fuel 5 cs = some x) : ∃ u : UInt8, cs = byE u ∧ True := by
  obtain ⟨v, e, _, hw⟩ := DataW.trod_int Tryz.underlying5 h
  rw [Lit.wf_int_iff] at hw
  have h1 : (0 : Int) ≤ v := hw.1
  have h2 : v ≤ (255 : Int) := hw.2
  refine ⟨UInt8.ofNat v.toNat, ?_, trivial⟩
  rw [e]
  show [Value.int .u8 v] = [Value.int .u8 (((UInt8.ofNat v.toNat).toNat : Nat) : Int)]
  rw [UInt8.toNat_ofNat', Nat.mod_eq_of_lt (by omega)]
  congr 2; omega
theorem open_in (h : DataW.trod enc Tryz.prog w base spare held fuel 3 cs = some x) : ∃ z : Int, cs = inI z ∧ True := by
  obtain ⟨v, e, _⟩ := DataW.trod_int Tryz.underlying3 h
  exact ⟨v, e, trivial⟩
theorem open_ld (h : DataW.trod enc Tryz.prog w base spare held fuel 72 cs = some x) : ∃ y : Laid, cs = ldC y ∧ V.slAt w y.rp 1 byE y.raw := by
  obtain ⟨v0, v1, v2, v3, v4, v5, v6, v7, p8, n8, q8, l8, v9, rfl, w0, w1, w2, w3, w4, w5, w6, w7, z8, x8, s8, t8, w9⟩ := open72 h
  obtain ⟨gl, hgl, _⟩ := V.list_choice (enc' := byE) (p := fun _ => True) (l := l8) (fun c hc => by
    obtain ⟨m, y, hy⟩ := t8 c hc
    exact open_by hy)
  have e1 : n8 = gl.length := by simp [z8, hgl]
  exact ⟨⟨v0, ⟨v1, v2, v3, v4, v5, v6.data.toList, v7.data.toList⟩, p8, gl, q8, v9⟩, by subst e1; rfl, V.slAt_map s8 hgl⟩
theorem open_laid {p : Option Addr} {l : List (List Value)} (hs : V.slAt w p 10 id l) (ht : ∀ c ∈ l, ∃ m y, DataW.trod enc Tryz.prog w base spare held m 72 c = some y) : ∃ m : List Laid, l.length = m.length ∧ LdR w p m := by
  obtain ⟨m, hm, ho⟩ := V.list_choice (enc' := ldC) (p := fun y => V.slAt w y.rp 1 byE y.raw) (l := l) (fun c hc => by
    obtain ⟨k, y, hy⟩ := ht c hc
    exact open_ld hy)
  exact ⟨m, by simp [hm], V.slAt_map hs hm, ho⟩
theorem open_ints {p : Option Addr} {l : List (List Value)} (hs : V.slAt w p 1 id l) (ht : ∀ c ∈ l, ∃ m y, DataW.trod enc Tryz.prog w base spare held m 3 c = some y) : ∃ m : List Int, l.length = m.length ∧ V.slAt w p 1 inI m := by
  obtain ⟨m, hm, _⟩ := V.list_choice (enc' := inI) (p := fun _ => True) (l := l) (fun c hc => by
    obtain ⟨k, y, hy⟩ := ht c hc
    exact open_in hy)
  exact ⟨m, by simp [hm], V.slAt_map hs hm⟩
end
end G
end Go.Proofs.YtcnjjefbnlgdjaaGreat

/- The law of the device behind a revival: the device is made. -/
namespace Go.Proofs.YtcnjjefbnlgdjaaGreat
open Go Go.RowKit V
set_option linter.unusedVariables false
set_option maxRecDepth 100000
namespace G
open V (str byC ownV ownG ownS ownOk)
instance : Cal Tryz.prog 30 := ⟨Tryz.call30⟩
instance : Cal Tryz.prog 31 := ⟨Tryz.call31⟩
instance : Cal Tryz.prog 36 := ⟨Tryz.call36⟩
theorem large_no {l : List Laid} (h : largeF l = false) : l.length ≤ 30 ∧ ∀ x ∈ l, x.b.key.length ≤ 500 ∧ x.b.val.length ≤ 500 ∧ x.raw.length ≤ 64 := by
  unfold largeF at h
  rw [Bool.or_eq_false_iff] at h
  obtain ⟨h1, h2⟩ := h
  rw [decide_eq_false_iff_not] at h1
  rw [List.any_eq_false] at h2
  refine ⟨by omega, fun x hx => ?_⟩
  have h3 := h2 x hx
  simp only [Bool.or_eq_true, decide_eq_true_eq] at h3
  omega
theorem lo_not {w0 w : World} {sg r : V.Sg} {x : DvR} {v : Dev} {b : Nat} (hw : Hp ⟨w0, []⟩ sg w) (hp : Pick (vS x v) sg r) (hb : b < w0.heap.size) : b ∉ V.ids (vS x v) := by
  intro hm
  have h1 : b ∈ ((vS x v).flatten.map Prod.fst) := hm
  obtain ⟨q, hq, rfl⟩ := List.mem_map.1 h1
  rcases (hw.pick hp).lo q hq with h2 | h2
  · simp only at h2; omega
  · cases h2
theorem sl_at {w : World} {p : Option Addr} {l : List UInt8} (h : V.slAt w p 1 byE l) (h0 : 0 < l.length) {b o : Nat} (hb : p = some ⟨b, o, none⟩) : b < w.heap.size := by
  rcases h with h | ⟨b2, o2, h2, h3, _⟩
  · rw [h] at h0; exact absurd h0 (by simp)
  · rw [hb] at h2
    simp only [Option.some.injEq, Addr.mk.injEq] at h2
    rw [h2.1]; exact h3
theorem enc_part {v : Dev} {line : Int} {x : Blk} {k : Nat} (hm : mayF x = true) (hk : k < spanF x.cls) : (((encL x).drop (64 * k)).take 64).length = 64 := by
  rw [List.length_take, List.length_drop, encL_len hm]; omega
theorem lay_yes {v : Dev} {x : Laid} (h : mayF x.b = true) {k : Nat} (hk : k = spanF x.b.cls) : layV v x = layN v x.line (encL x.b) k := by unfold layV; rw [if_pos h, hk]
theorem lay_no {v : Dev} {x : Laid} (h : ¬ mayF x.b = true) : layV v x = v.store x.line x.at_ x.raw := by unfold layV; rw [if_neg h]
theorem fold_up {l : List Laid} {v : Dev} {i : Nat} {x : Laid} (h : l[i]? = some x) : (l.take (i + 1)).foldl layV v = layV ((l.take i).foldl layV v) x := by rw [List.take_add_one, h, Option.toList_some, List.foldl_append]; rfl
theorem store_v (x : DvR) (v : Dev) (line at_ : Int) (bs : List UInt8) (p : Option Addr) (cp : Nat) (hl : bs.length ≤ 100000) (w : World) (hs : Sat (vS x v) w) (hp : V.slAt w p 1 byE bs) (hpd : 0 < bs.length → ∀ b o, p = some ⟨b, o, none⟩ → b ∉ V.ids (vS x v)) : Calls Tryz.prog 33 [.pointer (some ⟨x.db, 0, none⟩), .int .i64 line, .int .i64 at_, .slice p bs.length cp].toArray w fun e w' => ∃ _u : Unit, True ∧ e = .returned (.int .i64 (er2 (thB v.D.length line at_ bs.length))) ∧ Hp ⟨w, V.ids (vS x v)⟩ (vS x (v.store line at_ bs)) w' :=
  store_gc x v.D v.k line at_ bs p cp hl w hs hp hpd
theorem back_v (x : DvR) (v : Dev) (line : Int) (w : World) (hs : Sat (vS x v) w) : Calls Tryz.prog 36 [.pointer (some ⟨x.db, 0, none⟩), .int .i64 line].toArray w fun e w' => ∃ _u : Unit, True ∧ e = .returned (.int .i64 (er2 (inD v.D.length line))) ∧ Hp ⟨w, V.ids (vS x v)⟩ (vS x (v.back line)) w' :=
  back_g x v.D v.k line w hs
theorem store_part (x : DvR) (v : Dev) (line : Int) (b : Blk) (k : Nat) (hm : mayF b = true) (hk : k < spanF b.cls) (be ce : Nat) (hce : (encL b).length ≤ ce) (w : World) (hs : Sat (vS x (layN v line (encL b) k)) w) (hsl : V.slAt w (some ⟨be, 0, none⟩) 1 byE (encL b)) (hnd : be ∉ V.ids (vS x (layN v line (encL b) k))) : Calls Tryz.prog 33 [.pointer (some ⟨x.db, 0, none⟩), .int .i64 (IntKind.i64.wrap (line + (k : Nat))), .int .i64 0, .slice (some ⟨be, 64 * k, none⟩) 64 (ce - 64 * k)].toArray w fun e w' => ∃ _u : Unit, True ∧ e = .returned (.int .i64 (er2 (thB (layN v line (encL b) k).D.length (IntKind.i64.wrap (line + (k : Nat))) 0 64))) ∧ Hp ⟨w, V.ids (vS x (layN v line (encL b) k))⟩ (vS x (layN v line (encL b) (k + 1))) w' := by
  have hel := encL_len hm
  have hpl := enc_part (v := v) (line := 0) hm hk
  have h7 := V.slAt_part hsl (k := 64 * k) (by omega) hce 64
  rw [if_neg (by omega)] at h7
  have h6 : V.slAt w (some ⟨be, 64 * k, none⟩) 1 byE (((encL b).drop (64 * k)).take 64) := by simpa [Addr.add_mid] using h7
  have h8 := store_v x (layN v line (encL b) k) (IntKind.i64.wrap (line + (k : Nat))) 0 (((encL b).drop (64 * k)).take 64) (some ⟨be, 64 * k, none⟩) (ce - 64 * k) (by rw [hpl]; omega) w hs h6 (fun _ b q hb => by simp only [Option.some.injEq, Addr.mk.injEq] at hb; obtain ⟨rfl, _⟩ := hb; exact hnd)
  rw [hpl] at h8
  exact h8
theorem store_raw (x : DvR) (v : Dev) (y : Laid) (hm : ¬ mayF y.b = true) (hl : y.raw.length ≤ 64) (w : World) (hs : Sat (vS x v) w) (hsl : V.slAt w y.rp 1 byE y.raw) (hnd : ∀ b o, 0 < y.raw.length → y.rp = some ⟨b, o, none⟩ → b ∉ V.ids (vS x v)) : Calls Tryz.prog 33 [.pointer (some ⟨x.db, 0, none⟩), .int .i64 y.line, .int .i64 y.at_, .slice y.rp y.raw.length y.rc].toArray w fun e w' => ∃ _u : Unit, True ∧ e = .returned (.int .i64 (er2 (thB v.D.length y.line y.at_ y.raw.length))) ∧ Hp ⟨w, V.ids (vS x v)⟩ (vS x (layV v y)) w' := by
  rw [lay_no hm]
  exact store_v x v y.line y.at_ y.raw y.rp y.rc (by omega) w hs hsl (fun h0 b o hb => hnd b o h0 hb)
theorem device_g (n : Nat) (hn : 10 ≤ n ∧ n ≤ 258) (clk : Int) (l : List Laid) (p : Option Addr) (c : Nat) (hl : largeF l = false) (w : World) (hp : LdR w p l) : Calls Tryz.prog 8 [.int .i64 (n : Nat), .int .u64 clk, .slice p l.length c].toArray w fun e w' => ∃ y : DvR, True ∧ e = .returned (.pointer (some ⟨y.db, 0, none⟩)) ∧ Hp ⟨w, []⟩ (vS y (devF n clk l)) w' := by
  obtain ⟨hl1, hl2⟩ := large_no hl
  refine V.calls [] Tryz.func8 rfl Tryz.ntmps8 (Nat.le_of_ble_eq_true rfl) (V.sat_nil _) <| Sq <| Rg <| Lv Av <| Nl <| Ps <| Sq <| Rg <| Lv Mv <| Le (CM [] fun w hw hs0 => newDev_g n (by omega) (by omega) w) fun x _ => Lv Mv <| Lv Ex <| Lv Ex <| Lv Av <| Lv Av <| Nl <| Ps <| Sq <| Sq <| Rg <| Lv Mv <| Lv Cm <| Lv Mv <| Lv Mv <| Lv EP <| Lv Pf <| Nl <| Ps <| Cf <| Sk <| Ps <| Sq <| Rg <| Lv Mv <| Le (CM (vS x (⟨List.replicate n ce0, ct0⟩ : Dev)) fun w hw hs0 => format_g x (⟨List.replicate n ce0, ct0⟩ : Dev) (by show 10 ≤ (List.replicate n ce0).length ∧ (List.replicate n ce0).length ≤ 258; rw [List.length_replicate]; exact hn) w hs0) fun _ _ => Nl <| Ps <| Sq <| Rg <| Lv Mv <| Lv Mv <| Le (CM [] fun w hw hs0 => Clock_c clk w) fun b1 _ => Le (CM (vS x (fmtV (⟨List.replicate n ce0, ct0⟩ : Dev))) fun w hw hs0 => by have h8 := store_v x (fmtV (⟨List.replicate n ce0, ct0⟩ : Dev)) 1 0 (clockL clk) (some ⟨b1, 0, none⟩) 64 (by rw [clockL_len]; omega) w hs0 (byE_of (hw.own _ (show InS (b1, .cells (byC (clockL clk)).toArray 158 (0, 0)) _ from (by repeat (first | exact .here | exact .inner .here | exact .inner (.inner .here) | refine .there ?_))).mem)) (fun _ b o hb => by simp only [Option.some.injEq, Addr.mk.injEq] at hb; obtain ⟨rfl, _⟩ := hb; exact not_in hw (show Pick (vS x (fmtV (⟨List.replicate n ce0, ct0⟩ : Dev))) _ _ from (by repeat (first | exact .nil | apply Pick.cons | exact .here | apply Ext.there))) (show InS (b1, .cells (byC (clockL clk)).toArray 158 (0, 0)) _ from (by repeat (first | exact .here | exact .inner .here | exact .inner (.inner .here) | refine .there ?_)))); rw [clockL_len] at h8; exact h8) fun _ _ => Nl <| Ps <| Sq <| Sq <| Rg <| Lv Av <| Nl <| Ps <| Bk ?_
  generalize hV1 : (fmtV (⟨List.replicate n ce0, ct0⟩ : Dev)).store 1 0 (clockL clk) = v1
  refine loopA (γ := Nat) (fun i => [(0, .int .i64 (n : Nat)), (2, .slice p l.length c), (7, .pointer (some ⟨x.db, 0, none⟩)), (9, .int .i64 (i : Nat))]) (fun i => vS x ((l.take i).foldl layV v1)) (fun i => i ≤ l.length) (fun i => l.length - i) (0) (Nat.zero_le _) fun i hi1 => Sq <| Sq <| Rg <| Lv Mv <| Lv Mv <| Lv Ln <| Lv Cm <| Nl <| Ps ?_
  refine CW.cond rfl (fun h34 => ?_) (fun h34 => ?_)
  · replace h34 := bT h34
    have hi9 : i < l.length := by omega
    obtain ⟨bb1, o1, y, hpe, hb1, hx1, hr1⟩ := V.slAt_at hp.1 rfl (k := i) hi9
    subst hpe
    have hyl := hl2 y (List.mem_of_getElem? hx1)
    have hyr := hp.2 y (List.mem_of_getElem? hx1)
    have hyb := V.rangeAt_sub (hr1 i y hx1) 1 (show (ldC y).drop 1 = blC y.b ++ [.slice y.rp y.raw.length y.rc, .int .i64 y.at_] from rfl)
    refine Sk <| Ps <| Sq <| Bk <| Sq <| Rg <| Lv Mv <| Lv Mv <| Lv Ix <| Lv (Fa 1 43) <| Lv (Val.loadOA (cs := blC y.b) rfl Tryz.isAgg43 hb1 (by simp [ids]) hyb (by exact Tryz.sizeOf43)) <| Le (CM [] fun w hw hs0 => encode_c y.b ⟨by omega, by omega⟩ w) fun o ho => ?_
    obtain ⟨pe, ce, hve, hce, hsrc, hse⟩ := own_src ho
    by_cases hm : mayF y.b = true
    · have hE : encR y.b = encL y.b := by unfold encR; rw [if_pos hm]
      have hel := encL_len hm
      have hsp8 := may_span hm
      have hsp9 := span_le y.b.cls
      rw [hE] at hve hce hsrc hse ⊢
      obtain ⟨be, hbe, _⟩ := hsrc (by omega)
      subst hbe
      rw [if_pos hm]
      refine Lv Mv <| Lv Ex <| LW.re 44 (.slice (some ⟨be, 0, none⟩) (encL y.b).length ce) rfl hve <| Lv Ex <| Lv Av <| Lv Av <| Nl <| Ps <| Sq <| Sq <| Rg <| Lv Av <| Nl <| Ps <| Bk <| loopA (γ := Nat) (fun k => [(0, .int .i64 (n : Nat)), (2, .slice (some ⟨bb1, o1, none⟩) l.length c), (7, .pointer (some ⟨x.db, 0, none⟩)), (9, .int .i64 (i : Nat)), (10, .slice (some ⟨be, 0, none⟩) (encL y.b).length ce), (11, .int .i64 0), (12, .int .i64 (k : Nat))]) (fun k => ownG 5 (byC (encL y.b)) o :: vS x (layN ((l.take i).foldl layV v1) y.line (encL y.b) k)) (fun k => k ≤ spanF y.b.cls) (fun k => spanF y.b.cls - k) (0) (Nat.zero_le _) fun k hk1 => Sq <| Sq <| Rg <| Lv Mv <| Lv Cm <| Lv Mv <| Lv Mv <| Lv Ar <| Lv Mv <| Lv Ln <| Lv Cm <| Lv Pt <| Nl <| Ps ?_
      refine CW.cond rfl (fun h54 => ?_) (fun h54 => ?_)
      · replace h54 := bT h54
        have hpl := enc_part (v := ((l.take i).foldl layV v1)) (line := 0) hm (k := k) (by omega)
        refine Sk <| Ps <| Sq <| Bk <| Dr ([]) <| Rv 0 rfl Mv <| Rv 1 rfl Mv <| Rv 2 rfl Mv <| Rv 3 rfl Ix <| Rv 4 rfl (Fa 0 3) <| Rv 5 rfl (Val.loadO rfl Tryz.isAgg3 hb1 (by simp [ids]) (hr1 i y hx1 0 _ rfl)) <| Rv 6 rfl Mv <| Rv 7 rfl (Val.arw rfl rfl rfl) <| Rv 8 rfl Mv <| Rv 9 rfl Mv <| Rv 10 rfl Ar <| Rv 11 rfl Mv <| Rv 12 rfl Ar <| Rv 13 rfl Ar <| Rv 14 rfl (Val.slice (64 * k) (64 * k + 64) ce rfl Tryz.underlying35 Tryz.sizeOf5 ⟨_, rfl⟩ ⟨_, rfl⟩ rfl (by simp) (by omega) (by omega) (by omega)) <| RW.re 71 (.slice (some ⟨be, 64 * k, none⟩) 64 (ce - 64 * k)) rfl (by rw [if_neg (by omega)]; simp) <| Re 15 rfl (CM (vS x (layN ((l.take i).foldl layV v1) y.line (encL y.b) k)) fun w hw hs0 => store_part x ((l.take i).foldl layV v1) y.line y.b k hm (by omega) be ce hce w hs0 (hse hw (show Pick [ownG 5 (byC (encL y.b)) o] _ _ from (by repeat (first | exact .nil | apply Pick.cons | exact .here | apply Ext.there)))) (own_not hw hve (show Pick (ownG 5 (byC (encL y.b)) o :: vS x (layN ((l.take i).foldl layV v1) y.line (encL y.b) k)) _ _ from (by repeat (first | exact .nil | apply Pick.cons | exact .here | apply Ext.there))) be 0 rfl)) fun _ _ => Rd <| Bn <| Ps <| Rg <| Lv Mv <| Lv Ar <| Lv Av <| Nl ?_
        exact roundA (k + 1) (by omega) (by omega)
      · replace h54 := bF h54
        refine Xt <| Te <| Te <| Bh <| Ps <| Sq <| Rg <| Lv Mv <| Lv Cm <| Nl <| Ps <| Cf <| Sk <| Bn <| Ps <| Rg <| Lv Mv <| Lv Ar <| Lv Av <| Nl ?_
        have e9 := (fold_up (v := v1) hx1).trans (lay_yes hm (k := k) (by omega))
        rw [← e9]
        exact roundA (i + 1) (by omega) (by omega)
    · rw [if_neg hm]
      refine Lv Mv <| Lv Ex <| LW.re 44 (.slice pe (encR y.b).length ce) rfl hve <| Lv Ex <| Lv Av <| Lv Av <| Nl <| Ps <| Sq <| Sq <| Rg <| Lv Av <| Nl <| Ps <| Bk <| CW.loopU 0 <| Sq <| Sq <| Rg <| Lv Mv <| Lv Cm <| Lv Mv <| Lp <| Lp <| Lp <| Lp <| Lp <| Lv Pf <| Nl <| Ps <| Cf <| Xt <| Te <| Te <| Bh <| Ps <| Sq <| Rg <| Lv Mv <| Lv Cm <| Nl <| Ps <| Ct <| Dr ([]) <| Rv 0 rfl Mv <| Rv 1 rfl Mv <| Rv 2 rfl Mv <| Rv 3 rfl Ix <| Rv 4 rfl (Fa 0 3) <| Rv 5 rfl (Val.loadO rfl Tryz.isAgg3 hb1 (by simp [ids]) (hr1 i y hx1 0 _ rfl)) <| Rv 6 rfl Mv <| Rv 7 rfl Mv <| Rv 8 rfl Ix <| Rv 9 rfl (Fa 9 3) <| Rv 10 rfl (Val.loadO rfl Tryz.isAgg3 hb1 (by simp [ids]) (hr1 i y hx1 9 _ rfl)) <| Rv 11 rfl Mv <| Rv 12 rfl Mv <| Rv 13 rfl Ix <| Rv 14 rfl (Fa 8 35) <| Rv 15 rfl (Val.loadO rfl Tryz.isAgg35 hb1 (by simp [ids]) (hr1 i y hx1 8 _ rfl)) <| Re 16 rfl (CM (vS x ((l.take i).foldl layV v1)) fun w hw hs0 => store_raw x ((l.take i).foldl layV v1) y hm (by omega) w hs0 (hw.slAt hyr (by simp [ids])) (fun b q h0 hb => lo_not hw (show Pick (vS x ((l.take i).foldl layV v1)) _ _ from (by repeat (first | exact .nil | apply Pick.cons | exact .here | apply Ext.there))) (sl_at hyr h0 hb))) fun _ _ => Rd <| Bn <| Ps <| Rg <| Lv Mv <| Lv Ar <| Lv Av <| Nl ?_
      rw [← fold_up (v := v1) hx1]
      exact roundA (i + 1) (by omega) (by omega)
  · replace h34 := bF h34
    refine Xt <| Te <| Te <| Bh <| Ps <| Sq <| Sq <| Rg <| Lv Av <| Nl <| Ps <| Bk ?_
    obtain rfl : i = l.length := by omega
    rw [List.take_length]
    refine loopA (γ := Nat) (fun j => [(0, .int .i64 (n : Nat)), (7, .pointer (some ⟨x.db, 0, none⟩)), (13, .int .i64 (j : Nat))]) (fun j => vS x (backN (l.foldl layV v1) j)) (fun j => j ≤ n) (fun j => n - j) (0) (Nat.zero_le _) fun j hj1 => Sq <| Sq <| Rg <| Lv Mv <| Lv Mv <| Lv Cm <| Nl <| Ps ?_
    refine CW.cond rfl (fun h94 => ?_) (fun h94 => ?_)
    · replace h94 := bT h94
      refine Sk <| Ps <| Sq <| Bk <| Rg <| Lv Mv <| Lv Mv <| Le (CM (vS x (backN (l.foldl layV v1) j)) fun w hw hs0 => back_v x (backN (l.foldl layV v1) j) (j : Nat) w hs0) fun _ _ => Nl <| Bn <| Ps <| Rg <| Lv Mv <| Lv Ar <| Lv Av <| Nl ?_
      exact roundA (j + 1) (by omega) (by omega)
    · replace h94 := bF h94
      refine Xt <| Te <| Te <| Bh <| Ps <| Sq <| Rg <| Lv Mv <| Lv Av <| Nl <| Ps <| Rt <| Rt1 ?_
      obtain rfl : j = n := by omega
      have e8 : devF j clk l = backN (l.foldl layV v1) j := by unfold devF; rw [hV1]
      rw [e8]
      intro w' hw; exact ⟨x, trivial, rfl, hw.pick (by repeat (first | exact .nil | apply Pick.cons | exact .here | apply Ext.there))⟩
end G
end Go.Proofs.YtcnjjefbnlgdjaaGreat

/- The law of revivals: awake. -/
namespace Go.Proofs.YtcnjjefbnlgdjaaGreat
open Go Go.RowKit V
set_option linter.unusedVariables false
set_option maxRecDepth 100000
namespace G
open V (str byC ownV ownG ownS ownOk)
instance : Cal Tryz.prog 11 := ⟨Tryz.call11⟩
theorem aw_len : ((fmtV ⟨List.replicate 10 ce0, ct0⟩)).D.length = 10 := by rw [fmtV_len]; rfl
theorem aw_st : ∀ k < 13, (runN (fmtV ⟨List.replicate 10 ce0, ct0⟩) cor0 k).2.ph < 6 ∧ (stp (runN (fmtV ⟨List.replicate 10 ce0, ct0⟩) cor0 k).1 (runN (fmtV ⟨List.replicate 10 ce0, ct0⟩) cor0 k).2).2.2 = 0 := by decide +kernel
theorem aw_end : (runN (fmtV ⟨List.replicate 10 ce0, ct0⟩) cor0 13).2.ph = 6 ∧ (runN (fmtV ⟨List.replicate 10 ce0, ct0⟩) cor0 13).2.kp.length = 0 := by decide +kernel
theorem step_gT (rb : Nat) (x : DvR) (v : Dev) (k : Nat) (r : Rvl) (th : Nat) (h1 : 1 ≤ th) (h4 : th ≤ 4) (hL : 0 < v.D.length ∧ v.D.length ≤ 1000) (hc : corOf r = (runN v cor0 k).2) (ar : Option (ArR × ArS)) (hX : RvX th v.D.length r ar) (w : World) (hs : Sat (rvG rb x (runN v cor0 k).1 r ar) w) : Calls Tryz.prog 19 [.pointer (some ⟨rb, 0, none⟩)].toArray w fun e w' => ∃ q : Rvl × Option (ArR × ArS), (corOf q.1 = (runN v cor0 (k + 1)).2 ∧ RvX th v.D.length q.1 q.2) ∧ e = .returned (.int .i64 (stp (runN v cor0 k).1 (runN v cor0 k).2).2.2) ∧ Hp ⟨w, V.ids (rvG rb x (runN v cor0 k).1 r ar)⟩ (rvG rb x (runN v cor0 (k + 1)).1 q.1 q.2) w' := by
  have hi := (runN_inv hL k).1
  have hl := hi.len
  rw [← hc] at hi
  have h8 := step_g rb x (runN v cor0 k).1 r ar th h1 h4 (by rw [hl]; exact hi) (by rw [hl]; exact hX) w hs
  rw [hl, hc] at h8
  exact h8
theorem awake_g (w : World) : Calls Tryz.prog 7 [].toArray w fun e w' => e = .returned (.bool true) ∧ Below w.heap.size w w' := by
  refine V.calls [] Tryz.func7 rfl Tryz.ntmps7 (Nat.le_of_ble_eq_true rfl) (V.sat_nil _) <| Sq <| Rg <| Lv Av <| Nl <| Ps <| Sq <| Rg <| Le (CM [] fun w hw hs0 => newDev_g 10 (by omega) (by omega) w) fun x _ => Lv Mv <| Lv Ex <| Lv Ex <| Lv Av <| Lv Av <| Nl <| Ps <| Sq <| Sq <| Rg <| Lv Mv <| Lv Cm <| Lv Mv <| Lv Mv <| Lv EP <| Lv Pf <| Lv Mv <| Lv Mv <| Le (CM (vS x (⟨List.replicate 10 ce0, ct0⟩ : Dev)) fun w hw hs0 => format_g x (⟨List.replicate 10 ce0, ct0⟩ : Dev) (by show 10 ≤ (List.replicate 10 ce0).length ∧ (List.replicate 10 ce0).length ≤ 258; rw [List.length_replicate]; omega) w hs0) fun _ _ => Lv Cm <| Lv Pf <| Nl <| Ps <| Cf <| Sk <| Ps <| Sq <| Rg <| Lv Mv <| Le (CM [] fun w hw hs0 => rnew2_g x.db 1 (by omega) w) fun rb _ => Lv Mv <| Lv Ex <| Lv Ex <| Lv Av <| Lv Av <| Nl <| Ps <| Sq <| Sq <| Rg <| Lv Mv <| Lv Cm <| Lv Mv <| Lv Mv <| Lv EP <| Lv Pf <| Nl <| Ps <| Cf <| Sk <| Ps <| Sq <| Sq <| Rg <| Lv Av <| Nl <| Ps <| Bk <| loopA (γ := Nat × Rvl × Option (ArR × ArS)) (fun z => [(3, .pointer (some ⟨rb, 0, none⟩)), (5, .int .i64 (z.1 : Nat))]) (fun z => rvG rb x (runN (fmtV ⟨List.replicate 10 ce0, ct0⟩) cor0 z.1).1 z.2.1 z.2.2) (fun z => z.1 ≤ 13 ∧ corOf z.2.1 = (runN (fmtV ⟨List.replicate 10 ce0, ct0⟩) cor0 z.1).2 ∧ RvX 1 ((fmtV ⟨List.replicate 10 ce0, ct0⟩)).D.length z.2.1 z.2.2) (fun z => 13 - z.1) ((0, rv0 1, none)) ⟨Nat.zero_le _, rfl, rvx0 1 _⟩ fun z => ?_
  rintro ⟨hz, hc, hX⟩
  refine Sq <| Sq <| Rg <| Lv Mv <| Lv Cm <| Nl <| Ps ?_
  refine CW.cond rfl (fun h35 => ?_) (fun h35 => ?_)
  · replace h35 := bT h35
    have hst := aw_st z.1 (by omega)
    obtain ⟨k, r, ar⟩ := z
    obtain ⟨hst1, hst⟩ := hst
    have h26 : r.ph < 6 := by have h8 : (corOf r).ph < 6 := by rw [hc]; exact hst1
                              exact h8
    obtain rfl : ar = none := by
      cases ar with
      | none => rfl
      | some y => have h8 := hX.has; rw [decide_eq_false (by simp only at h26 ⊢; omega)] at h8; cases h8
    refine Sk <| Ps <| Sq <| Bk <| Sq <| Rg <| Lv Mv <| Le (CM ((rvS rb x.db r ++ vS x (runN (fmtV ⟨List.replicate 10 ce0, ct0⟩) cor0 k).1)) fun w hw hs0 => step_gT rb x (fmtV ⟨List.replicate 10 ce0, ct0⟩) k r 1 (by omega) (by omega) ⟨by rw [aw_len]; omega, by rw [aw_len]; omega⟩ hc none hX w hs0) fun q hq => ?_
    obtain ⟨r2, ar2⟩ := q
    obtain ⟨hq1, hq2⟩ := hq
    refine LW.re 39 (.int .i64 0) rfl (by rw [hst]) ?_
    rcases ar2 with _ | y
    · skip
      refine Lv Cm <| Nl <| Ps <| Cf <| Sk <| Bn <| Ps <| Rg <| Lv Mv <| Lv Ar <| Lv Av <| Nl ?_
      exact roundA ((k + 1, r2, _)) ⟨by simp only; omega, hq1, hq2⟩ (by simp only; omega)
    · skip
      refine Lv Cm <| Nl <| Ps <| Cf <| Sk <| Bn <| Ps <| Rg <| Lv Mv <| Lv Ar <| Lv Av <| Nl ?_
      exact roundA ((k + 1, r2, _)) ⟨by simp only; omega, hq1, hq2⟩ (by simp only; omega)
  · replace h35 := bF h35
    have hz9 : z.1 = 13 := by omega
    have hend := aw_end
    rw [← hz9, ← hc] at hend
    obtain ⟨h6', hk0'⟩ := hend
    have h6 : z.2.1.ph = 6 := h6'
    have hk0 : z.2.1.kp.length = 0 := hk0'
    refine Xt <| Te <| Te <| Bh <| Ps <| Sq <| Rg <| Lv Mv <| Le (CV fun w hw => arena2_g rb x.db z.2.1 w hw.at) fun _ _ => Lv Mv <| Lv Ex <| Lv Ex <| LW.re 45 (.bool true) rfl (by rw [decide_eq_true h6]) <| Lv Av <| Lv Av <| Nl <| Ps <| Sq <| Rg <| Lv Mv <| Lv Mv <| Lv Mv <| Le (CV fun w hw => phase_g rb x.db z.2.1 w hw.at) fun _ _ => LW.re 49 (.int .i64 6) rfl (by rw [h6]) <| Lv Cm <| Lv Pt <| Lv Mv <| Lv Mv <| Le (CM (([rvO rb x.db z.2.1] :: [ownG 45 (z.2.1.kp.flatMap fdC) z.2.1.ko])) fun w hw hs0 => kept_g rb x.db z.2.1 hX.kp (by omega) w hs0) fun o ho => ?_
    obtain ⟨pd, cd, hvd, _⟩ := own_slF z.2.1.kp o ho
    refine LW.re 54 (.slice pd 0 cd) rfl (by rw [hvd, hk0]) <| Lv Ln <| Lv Cm <| Lv Pt <| Lv Av <| Nl <| Ps <| Rt <| Rt1 ?_
    intro w' hw; exact ⟨rfl, hw.below⟩
end G
end Go.Proofs.YtcnjjefbnlgdjaaGreat

/- ReviveClean: the law walked. -/
namespace Go.Proofs.YtcnjjefbnlgdjaaGreat
open Go Go.RowKit V
set_option linter.unusedVariables false
set_option maxRecDepth 100000
namespace G
open V (str byC ownV ownG ownS ownOk)
instance : Cal Tryz.prog 6 := ⟨Tryz.call6⟩
instance : Cal Tryz.prog 7 := ⟨Tryz.call7⟩
instance : Cal Tryz.prog 8 := ⟨Tryz.call8⟩
instance : Cal Tryz.prog 9 := ⟨Tryz.call9⟩
instance : Cal Tryz.prog 10 := ⟨Tryz.call10⟩
instance : Cal Tryz.prog 13 := ⟨Tryz.call13⟩
instance : Cal Tryz.prog 14 := ⟨Tryz.call14⟩
instance : Cal Tryz.prog 16 := ⟨Tryz.call16⟩
theorem ldr_up {w0 w : World} {sg : V.Sg} {p : Option Addr} {l : List Laid} (hw : Hp ⟨w0, []⟩ sg w) (h : LdR w0 p l) : LdR w p l := ⟨hw.slAt h.1 (by simp [ids]), fun x hx => hw.slAt (h.2 x hx) (by simp [ids])⟩
theorem loose_calm {D : List Ce} (h : ∀ c ∈ D, c.kept = c.now) : looseTo D D.length = [] := by
  unfold looseTo
  rw [List.map_eq_nil_iff, List.filter_eq_nil_iff]
  intro i _
  cases e : D[i]? with
  | none => simp
  | some c =>
    have h8 := h c (List.mem_of_getElem? e)
    simp only [Option.map_some, Option.getD_some]
    unfold looseB
    rw [decide_eq_true h8.symm]; decide
theorem pot34 (clk : Int) (l : List Laid) : pot (devF 34 clk l).D.length cor0 ≤ 600 := by rw [devF_len]; decide
theorem len34 (clk : Int) (l : List Laid) : 0 < (devF 34 clk l).D.length ∧ (devF 34 clk l).D.length ≤ 1000 := by rw [devF_len]; omega
theorem any_tk {l : List Fnd} {q : Nat} {f : Fnd} (g : Fnd → Bool) (h : l[q]? = some f) : (l.take (q + 1)).any g = ((l.take q).any g || g f) := by
  rw [List.take_add_one, h, Option.toList_some, List.any_append]; simp
theorem fd_at {l : List Fnd} {q : Nat} {f : Fnd} (h : l[q]? = some f) (r : List Value) : (l.flatMap fdC ++ r)[q * 9]? = some (.int .i64 f.line) := by
  obtain ⟨r2, h2⟩ := V.drop_flatMap fdC_len l q f h
  have hlt := (List.getElem?_eq_some_iff.1 h).1
  have hl := V.flatMap_len fdC_len l
  rw [List.getElem?_append_left (by rw [hl]; omega)]
  have h3 := congrArg (fun z => z[0]?) h2
  simpa [fdC] using h3
theorem len34v {v : Dev} (h : v.D.length = 34) : 0 < v.D.length ∧ v.D.length ≤ 1000 := by rw [h]; omega
theorem pot34v {v : Dev} (h : v.D.length = 34) : pot v.D.length cor0 ≤ 600 := by rw [h]; decide
/-- What the law asks of a line, of the device behind a revival. -/
theorem clean_at {v : Dev} (hln : v.D.length = 34) (hcm : Calm v.D) {k : Nat} {r : Rvl} (hc : corOf r = (runN v cor0 k).2) (h6 : r.ph = 6) {m : Nat} (hm : 2 ≤ m ∧ m < 34) : nowL (runN v cor0 k).1.D (m : Nat) = keptL (runN v cor0 k).1.D (m : Nat) ∧ ((r.kp.any fun f => decide (f.line = ((m : Nat) : Int))) = false → ∀ a kd, headF (nowL (runN v cor0 k).1.D (m : Nat)) = some (a, kd) → kd = 0) ∧ ((r.kp.any fun f => decide (f.line = ((m : Nat) : Int))) = true → nowL (runN v cor0 k).1.D (m : Nat) = nowL v.D (m : Nat)) := by
  obtain ⟨hi, hcl⟩ := runN_inv (len34v hln) k
  have hlen := hi.len
  rw [hln] at hlen
  obtain ⟨c', hc'⟩ : ∃ c', (runN v cor0 k).1.D[m]? = some c' := ⟨_, List.getElem?_eq_getElem (by omega)⟩
  have hph : (runN v cor0 k).2.ph = 6 := by rw [← hc]; exact h6
  have hkp : (runN v cor0 k).2.kp = r.kp := by rw [← hc]; rfl
  obtain ⟨h1, h2, h3⟩ := clean_end hcl hi hcm hph hc'
  rw [hkp] at h2 h3
  refine ⟨by rw [nowL_of hc', keptL_of hc', h1], fun hb => ?_, fun hb => ?_⟩
  · rw [nowL_of hc']
    rw [List.any_eq_false] at hb
    refine h2 (fun f hf e => hb f hf (by simpa using e)) ⟨hm.1, ?_⟩
    rw [hln]
    show (m : Int) < 2 + slabsF ((34 : Nat) : Int) * 8
    rw [show slabsF ((34 : Nat) : Int) = 4 by decide]; omega
  · rw [List.any_eq_true] at hb
    obtain ⟨f, hf, he⟩ := hb
    rw [nowL_of hc', nowL_of (h3 f hf (by simpa using he))]
theorem kp_le {v : Dev} (hln : v.D.length = 34) (hcm : Calm v.D) {k : Nat} {r : Rvl} (hc : corOf r = (runN v cor0 k).2) (h6 : r.ph = 6) : r.kp.length ≤ 1000 := by
  have hi := (runN_inv (len34v hln) k).1
  rw [← hc] at hi
  have h1 : r.kp = decK r.e r.fd := (hi.kp (by show (3 : Int) ≤ r.ph; omega) (by show r.ph ≤ 6; omega)).1
  have h2 : r.fd.length ≤ 256 := hi.fl
  have h3 := List.length_filter_le (keepF r.e r.fd) r.fd
  rw [h1]; unfold decK; omega
theorem clean_lo {v : Dev} (hln : v.D.length = 34) (hcm : Calm v.D) {k : Nat} {r : Rvl} (hc : corOf r = (runN v cor0 k).2) (h6 : r.ph = 6) : looseTo (runN v cor0 k).1.D (runN v cor0 k).1.D.length = [] := by
  obtain ⟨hi, hcl⟩ := runN_inv (len34v hln) k
  have hph : (runN v cor0 k).2.ph = 6 := by rw [← hc]; exact h6
  refine loose_calm fun c hcx => ?_
  obtain ⟨i, hi2⟩ := List.mem_iff_getElem?.1 hcx
  exact (clean_end hcl hi hcm hph hi2).1
theorem clean_c (clk : Int) (l : List Laid) (p : Option Addr) (c : Nat) (w : World) (hp : LdR w p l) : Calls Tryz.prog 3 [.int .u64 clk, .slice p l.length c].toArray w fun e w' => e = .returned (.bool true) ∧ Below w.heap.size w w' := by
  refine V.calls [] Tryz.func3 rfl Tryz.ntmps3 (Nat.le_of_ble_eq_true rfl) (V.sat_nil _) <| Sq <| Rg <| Lv Av <| Nl <| Ps <| Sq <| Sq <| Rg <| Lv Mv <| Le (CV fun w hw => large_g l p c w (ldr_up hw hp)) fun _ _ => Nl <| Ps ?_
  refine CW.cond rfl (fun h24 => ?_) (fun h24 => ?_)
  · replace h24 := bT h24
    refine Sq <| Rg <| Le (CV fun w hw => awake_g w) fun _ _ => Lv Av <| Nl <| Ps <| Rt <| Tr <| Rt1 ?_
    intro w' hw; exact ⟨rfl, hw.below⟩
  · replace h24 := bF h24
    refine Sk <| Ps <| Sq <| Rg <| Lv Mv <| Lv Mv <| Le (CM [] fun w hw hs0 => device_g 34 ⟨by omega, by omega⟩ clk l p c h24 w (ldr_up hw hp)) fun x _ => ?_
    have hln := devF_len 34 clk l
    have hcm := devF_calm 34 clk l
    generalize devF 34 clk l = vD at hln hcm ⊢
    refine Lv Av <| Nl <| Ps <| Sq <| Sq <| Rg <| Lv Mv <| Lv EP <| Nl <| Ps <| Cf <| Sk <| Ps <| Sq <| Rg <| Lv Mv <| Le (CM [] fun w hw hs0 => copy_g x vD.D vD.k (len34v hln).1 (len34v hln).2 w (hw.sat.pick (ss := vS x vD) (by repeat (first | exact .nil | apply Pick.cons | exact .here | apply Ext.there)))) fun y _ => Lv Av <| Nl <| Ps <| Sq <| Rg <| Lv Mv <| Le (CM (vS x vD) fun w hw hs0 => to22_g x vD (len34v hln) (pot34v hln) w hs0) fun z hz => ?_
    obtain ⟨rb, k, r, ar⟩ := z
    obtain ⟨h6p, hc, hX⟩ := hz
    simp only at h6p hc hX ⊢
    refine Lv Mv <| Lv Ex <| Lv Ex <| Lv Ex <| Lv Av <| Lv Av <| Lv Av <| Nl <| Ps <| Sq <| Sq <| Rg <| Lv Mv <| Lv Nt <| Nl <| Ps ?_
    refine CW.cond rfl (fun h40 => ?_) (fun h40 => ?_)
    · replace h40 := bT h40
      refine Sq <| Rg <| Lv Mv <| Lv NP <| Lv Mv <| Le (CV fun w hw => awake_g w) fun _ _ => Lv Pt <| Lv Av <| Nl <| Ps <| Rt <| Tr <| Rt1 ?_
      intro w' hw; exact ⟨rfl, hw.below⟩
    · replace h40 := bF h40
      have h6 : r.ph = 6 := by simpa using h40
      obtain ⟨y2, rfl⟩ : ∃ y2, ar = some y2 := by
        have h8 := hX.has
        rw [decide_eq_true h6] at h8
        exact Option.isSome_iff_exists.1 h8
      have hVE := (runN_inv (len34v hln) k).1.len
      have hkl := kp_le hln hcm hc h6
      have hlo := clean_lo hln hcm hc h6
      have hat0 := fun m hm => clean_at hln hcm hc h6 (m := m) hm
      generalize (runN vD cor0 k).1 = vE at hVE hlo hat0 ⊢
      refine Sk <| Ps <| Sq <| Rg <| Lv Mv <| Le (CM (([rvO rb x.db r] :: [ownG 45 (r.kp.flatMap fdC) r.ko])) fun w hw hs0 => kept_g rb x.db r hX.kp (by omega) w hs0) fun o ho => ?_
      obtain ⟨pd, cd, hvd, hsd⟩ := own_slF r.kp o ho
      refine LW.re 47 (.slice pd r.kp.length cd) rfl hvd <| Lv Av <| Nl <| Ps <| Sq <| Sq <| Rg <| Lv Av <| Nl <| Ps <| Bk <| loopA (γ := Nat) (fun m => [(5, .pointer (some ⟨x.db, 0, none⟩)), (6, .pointer (some ⟨y.db, 0, none⟩)), (10, .slice pd r.kp.length cd), (11, .int .i64 (m : Nat))]) (fun m => ownG 45 (r.kp.flatMap fdC) o :: vS x vE ++ vS y vD) (fun m => 2 ≤ m ∧ m ≤ 34) (fun m => 34 - m) (2) ⟨by omega, by omega⟩ fun m => ?_
      rintro ⟨hm1, hm2⟩
      refine Sq <| Sq <| Rg <| Lv Mv <| Lv Cm <| Nl <| Ps ?_
      refine CW.cond rfl (fun h49 => ?_) (fun h49 => ?_)
      · replace h49 := bT h49
        have hat := hat0 m ⟨by omega, by omega⟩
        have hn64 := nowL_le vE.D (m : Nat)
        refine Sk <| Ps <| Sq <| Bk <| Sq <| Rg <| Lv Mv <| Lv Mv <| Le (CM [] fun w hw hs0 => load_g x vE.D vE.k (m : Nat) w (hw.sat.pick (ss := vS x vE) (by repeat (first | exact .nil | apply Pick.cons | exact .here | apply Ext.there)))) fun o1 ho1 => ?_
        obtain ⟨p1, c1, hv1, hc1, _, hs1⟩ := own_src ho1
        refine Lv Mv <| Lv Ex <| LW.re 56 (.slice p1 (nowL vE.D (m : Nat)).length c1) rfl hv1 <| Lv Ex <| Lv Av <| Lv Av <| Nl <| Ps <| Sq <| Rg <| Lv Mv <| Lv Mv <| Le (CM [] fun w hw hs0 => dur_g x vE.D vE.k (m : Nat) w (hw.sat.pick (ss := vS x vE) (by repeat (first | exact .nil | apply Pick.cons | exact .here | apply Ext.there)))) fun o2 ho2 => ?_
        obtain ⟨p2, c2, hv2, hc2, _, hs2⟩ := own_src ho2
        refine Lv Mv <| Lv Ex <| LW.re 62 (.slice p2 (keptL vE.D (m : Nat)).length c2) rfl hv2 <| Lv Ex <| Lv Av <| Lv Av <| Nl <| Ps <| Sq <| Rg <| Lv Mv <| Lv Mv <| Le (CM [] fun w hw hs0 => load_g y vD.D vD.k (m : Nat) w (hw.sat.pick (ss := vS y vD) (by repeat (first | exact .nil | apply Pick.cons | exact .here | apply Ext.there)))) fun o3 ho3 => ?_
        obtain ⟨p3, c3, hv3, hc3, _, hs3⟩ := own_src ho3
        refine Lv Mv <| Lv Ex <| LW.re 68 (.slice p3 (nowL vD.D (m : Nat)).length c3) rfl hv3 <| Lv Ex <| Lv Av <| Lv Av <| Nl <| Ps <| Sq <| Sq <| Rg <| Lv Mv <| Lv Mv <| Le (CV fun w hw => same_g (nowL vE.D (m : Nat)) (keptL vE.D (m : Nat)) p1 p2 c1 c2 w (hs1 hw (by repeat (first | exact .nil | apply Pick.cons | exact .here | apply Ext.there))) (hs2 hw (by repeat (first | exact .nil | apply Pick.cons | exact .here | apply Ext.there)))) fun _ _ => LW.re 72 (.bool true) rfl (by rw [decide_eq_true hat.1]) <| Lv Nt <| Nl <| Ps <| Cf <| Sk <| Ps <| Sq <| Rg <| Lv Mv <| Le (CV fun w hw => Head_c (nowL vE.D (m : Nat)) p1 c1 (by omega) w (hs1 hw (by repeat (first | exact .nil | apply Pick.cons | exact .here | apply Ext.there)))) fun _ _ => ?_
        rcases hh : headF (nowL vE.D (m : Nat)) with _ | ⟨a, kd⟩
        · skip
          refine Lv Mv <| Lv Ex <| Lv Ex <| Lv Ex <| Lv Av <| Lv Av <| Lv Av <| Nl <| Ps <| Sq <| Rg <| Lv Av <| Nl <| Ps <| Sq <| Sq <| Rg <| Lv Av <| Nl <| Ps <| Bk <| loopA (γ := Nat) (fun q => [(5, .pointer (some ⟨x.db, 0, none⟩)), (6, .pointer (some ⟨y.db, 0, none⟩)), (10, .slice pd r.kp.length cd), (11, .int .i64 (m : Nat)), (12, .slice p1 (nowL vE.D (m : Nat)).length c1), (16, .slice p3 (nowL vD.D (m : Nat)).length c3), (20, .bool false), (21, .bool ((r.kp.take q).any fun f => decide (f.line = ((m : Nat) : Int)))), (22, .int .i64 (q : Nat))]) (fun q => ownG 5 (byC (nowL vE.D (m : Nat))) o1 :: ownG 5 (byC (nowL vD.D (m : Nat))) o3 :: ownG 45 (r.kp.flatMap fdC) o :: vS x vE ++ vS y vD) (fun q => q ≤ r.kp.length) (fun q => r.kp.length - q) (0) (Nat.zero_le _) fun q hq => Sq <| Sq <| Rg <| Lv Mv <| Lv Mv <| Lv Ln <| Lv Cm <| Nl <| Ps ?_
          refine CW.cond rfl (fun h83 => ?_) (fun h83 => ?_)
          · replace h83 := bT h83
            obtain ⟨f, hf⟩ : ∃ f, r.kp[q]? = some f := ⟨r.kp[q]'(by omega), by simp⟩
            rcases o with _ | ⟨g, rest, cap⟩
            · exact absurd ho.2 (by omega)
            have hpd : pd = some ⟨g, 0, none⟩ := by
              have h8 : ownV r.kp.length (some (g, rest, cap)) = .slice (some ⟨g, 0, none⟩) r.kp.length cap := rfl
              rw [h8] at hvd
              injection hvd with h9
              exact h9.symm
            subst hpd
            refine Sk <| Ps <| Sq <| Bk <| Rg <| Lv Mv <| Lv Mv ?_
            refine LW.split (d := 87) rfl (fun h87 => ?_) (fun h87 => ?_)
            · replace h87 := bT h87
              refine Lp <| Lp <| Lp <| Lp <| Lp <| Lp <| Lp <| Lv Pt <| Lv Av <| Nl <| Bn <| Ps <| Rg <| Lv Mv <| Lv Ar <| Lv Av <| Nl ?_
              have hst : true = ((r.kp.take (q + 1)).any fun f => decide (f.line = ((m : Nat) : Int))) := by rw [any_tk _ hf, h87]; rfl
              refine PQ.round (q + 1) (by omega) (by omega) (by exact ⟨rfl, rfl, rfl, rfl, rfl, rfl, rfl, congrArg (fun z => some (Value.bool z)) hst, rfl, trivial⟩) (by repeat (first | exact .nil | apply Pick.cons | exact .here | apply Ext.there))
            · replace h87 := bF h87
              refine Lv Mv <| Lv Mv <| Lv (Val.indexAddrN (i := q) rfl rfl Tryz.underlying33 Tryz.sizeOf45 (by omega)) <| Lv (Fa 0 3) <| Lv (Ld (v := .int .i64 f.line) (hl := by have h8 := fd_at hf rest; simpa using h8)) <| Lv Mv <| Lv Cm <| Lv Pf <| Lv Av <| Nl <| Bn <| Ps <| Rg <| Lv Mv <| Lv Ar <| Lv Av <| Nl ?_
              have hst : decide (f.line = ((m : Nat) : Int)) = ((r.kp.take (q + 1)).any fun f => decide (f.line = ((m : Nat) : Int))) := by rw [any_tk _ hf, h87]; rfl
              refine PQ.round (q + 1) (by omega) (by omega) (by exact ⟨rfl, rfl, rfl, rfl, rfl, rfl, rfl, congrArg (fun z => some (Value.bool z)) hst, rfl, trivial⟩) (by repeat (first | exact .nil | apply Pick.cons | exact .here | apply Ext.there))
          · replace h83 := bF h83
            obtain rfl : q = r.kp.length := by omega
            rw [List.take_length]
            refine Xt <| Te <| Te <| Bh <| Ps <| Sq <| Rg <| Lv Mv ?_
            cases hbg : (r.kp.any fun f => decide (f.line = ((m : Nat) : Int)))
            · skip
              refine Lv Mv <| Lp <| Lp <| Lp <| Lp <| Lv Pf <| Lv Mv <| Lv Mv <| Lv Nt <| Lv Mv <| Lv Mv <| Lv Pt <| Lv Mv <| Lp <| Lp <| Lv Pf <| Lv Pf <| Nl <| Ps <| Cf <| Sk <| Bn <| Ps <| Rg <| Lv Mv <| Lv Ar <| Lv Av <| Nl ?_
              exact roundA (m + 1) ⟨by omega, by omega⟩ (by omega)
            · skip
              refine Lv Mv <| Lv Mv <| Lv Mv <| Le (CV fun w hw => same_g (nowL vE.D (m : Nat)) (nowL vD.D (m : Nat)) p1 p3 c1 c3 w (hs1 hw (by repeat (first | exact .nil | apply Pick.cons | exact .here | apply Ext.there))) (hs3 hw (by repeat (first | exact .nil | apply Pick.cons | exact .here | apply Ext.there)))) fun _ _ => LW.re 100 (.bool true) rfl (by rw [decide_eq_true (hat.2.2 hbg)]) <| Lv Nt <| Lv Pt <| Lv Mv <| Lv Mv <| Lv Nt <| Lv Mv <| Lp <| Lv Pf <| Lv Mv <| Lp <| Lp <| Lv Pf <| Lv Pf <| Nl <| Ps <| Cf <| Sk <| Bn <| Ps <| Rg <| Lv Mv <| Lv Ar <| Lv Av <| Nl ?_
              exact roundA (m + 1) ⟨by omega, by omega⟩ (by omega)
        · skip
          refine Lv Mv <| Lv Ex <| Lv Ex <| Lv Ex <| Lv Av <| Lv Av <| Lv Av <| Nl <| Ps <| Sq <| Rg <| Lv Av <| Nl <| Ps <| Sq <| Sq <| Rg <| Lv Av <| Nl <| Ps <| Bk <| loopA (γ := Nat) (fun q => [(5, .pointer (some ⟨x.db, 0, none⟩)), (6, .pointer (some ⟨y.db, 0, none⟩)), (10, .slice pd r.kp.length cd), (11, .int .i64 (m : Nat)), (12, .slice p1 (nowL vE.D (m : Nat)).length c1), (16, .slice p3 (nowL vD.D (m : Nat)).length c3), (19, .int .i64 (kd : Nat)), (20, .bool true), (21, .bool ((r.kp.take q).any fun f => decide (f.line = ((m : Nat) : Int)))), (22, .int .i64 (q : Nat))]) (fun q => ownG 5 (byC (nowL vE.D (m : Nat))) o1 :: ownG 5 (byC (nowL vD.D (m : Nat))) o3 :: ownG 45 (r.kp.flatMap fdC) o :: vS x vE ++ vS y vD) (fun q => q ≤ r.kp.length) (fun q => r.kp.length - q) (0) (Nat.zero_le _) fun q hq => Sq <| Sq <| Rg <| Lv Mv <| Lv Mv <| Lv Ln <| Lv Cm <| Nl <| Ps ?_
          refine CW.cond rfl (fun h83 => ?_) (fun h83 => ?_)
          · replace h83 := bT h83
            obtain ⟨f, hf⟩ : ∃ f, r.kp[q]? = some f := ⟨r.kp[q]'(by omega), by simp⟩
            rcases o with _ | ⟨g, rest, cap⟩
            · exact absurd ho.2 (by omega)
            have hpd : pd = some ⟨g, 0, none⟩ := by
              have h8 : ownV r.kp.length (some (g, rest, cap)) = .slice (some ⟨g, 0, none⟩) r.kp.length cap := rfl
              rw [h8] at hvd
              injection hvd with h9
              exact h9.symm
            subst hpd
            refine Sk <| Ps <| Sq <| Bk <| Rg <| Lv Mv <| Lv Mv ?_
            refine LW.split (d := 87) rfl (fun h87 => ?_) (fun h87 => ?_)
            · replace h87 := bT h87
              refine Lp <| Lp <| Lp <| Lp <| Lp <| Lp <| Lp <| Lv Pt <| Lv Av <| Nl <| Bn <| Ps <| Rg <| Lv Mv <| Lv Ar <| Lv Av <| Nl ?_
              have hst : true = ((r.kp.take (q + 1)).any fun f => decide (f.line = ((m : Nat) : Int))) := by rw [any_tk _ hf, h87]; rfl
              refine PQ.round (q + 1) (by omega) (by omega) (by exact ⟨rfl, rfl, rfl, rfl, rfl, rfl, rfl, rfl, congrArg (fun z => some (Value.bool z)) hst, rfl, trivial⟩) (by repeat (first | exact .nil | apply Pick.cons | exact .here | apply Ext.there))
            · replace h87 := bF h87
              refine Lv Mv <| Lv Mv <| Lv (Val.indexAddrN (i := q) rfl rfl Tryz.underlying33 Tryz.sizeOf45 (by omega)) <| Lv (Fa 0 3) <| Lv (Ld (v := .int .i64 f.line) (hl := by have h8 := fd_at hf rest; simpa using h8)) <| Lv Mv <| Lv Cm <| Lv Pf <| Lv Av <| Nl <| Bn <| Ps <| Rg <| Lv Mv <| Lv Ar <| Lv Av <| Nl ?_
              have hst : decide (f.line = ((m : Nat) : Int)) = ((r.kp.take (q + 1)).any fun f => decide (f.line = ((m : Nat) : Int))) := by rw [any_tk _ hf, h87]; rfl
              refine PQ.round (q + 1) (by omega) (by omega) (by exact ⟨rfl, rfl, rfl, rfl, rfl, rfl, rfl, rfl, congrArg (fun z => some (Value.bool z)) hst, rfl, trivial⟩) (by repeat (first | exact .nil | apply Pick.cons | exact .here | apply Ext.there))
          · replace h83 := bF h83
            obtain rfl : q = r.kp.length := by omega
            rw [List.take_length]
            refine Xt <| Te <| Te <| Bh <| Ps <| Sq <| Rg <| Lv Mv ?_
            cases hbg : (r.kp.any fun f => decide (f.line = ((m : Nat) : Int)))
            · skip
              refine Lv Mv <| Lp <| Lp <| Lp <| Lp <| Lv Pf <| Lv Mv <| Lv Mv <| Lv Nt <| Lv Mv <| Lv Mv <| Lv Pt <| Lv Mv <| Lv Mv <| Lv Cm <| LW.re 111 (.bool false) rfl (by rw [hat.2.1 hbg _ _ hh]; rfl) <| Lv Pt <| Lv Pf <| Nl <| Ps <| Cf <| Sk <| Bn <| Ps <| Rg <| Lv Mv <| Lv Ar <| Lv Av <| Nl ?_
              exact roundA (m + 1) ⟨by omega, by omega⟩ (by omega)
            · skip
              refine Lv Mv <| Lv Mv <| Lv Mv <| Le (CV fun w hw => same_g (nowL vE.D (m : Nat)) (nowL vD.D (m : Nat)) p1 p3 c1 c3 w (hs1 hw (by repeat (first | exact .nil | apply Pick.cons | exact .here | apply Ext.there))) (hs3 hw (by repeat (first | exact .nil | apply Pick.cons | exact .here | apply Ext.there)))) fun _ _ => LW.re 100 (.bool true) rfl (by rw [decide_eq_true (hat.2.2 hbg)]) <| Lv Nt <| Lv Pt <| Lv Mv <| Lv Mv <| Lv Nt <| Lv Mv <| Lp <| Lv Pf <| Lv Mv <| Lp <| Lp <| Lv Pf <| Lv Pf <| Nl <| Ps <| Cf <| Sk <| Bn <| Ps <| Rg <| Lv Mv <| Lv Ar <| Lv Av <| Nl ?_
              exact roundA (m + 1) ⟨by omega, by omega⟩ (by omega)
      · replace h49 := bF h49
        refine Xt <| Te <| Te <| Bh <| Ps <| Sq <| Rg <| Lv Mv <| Le (CM [] fun w hw hs0 => Loose_g x vE.D vE.k (by omega) w (hw.sat.pick (ss := vS x vE) (by repeat (first | exact .nil | apply Pick.cons | exact .here | apply Ext.there)))) fun oL hoL => ?_
        obtain ⟨pL, cL, hvL, _⟩ := own_slg (e := 3) inI_len _ oL hoL
        have hlz := hlo
        refine LW.re 115 (.slice pL 0 cL) rfl (by rw [hvL, hlz]; rfl) <| Lv Ln <| Lv Cm <| Lv Mv <| Le (CV fun w hw => awake_g w) fun _ _ => Lv Pt <| Lv Av <| Nl <| Ps <| Rt <| Rt1 ?_
        intro w' hw; exact ⟨rfl, hw.below⟩
end G
end Go.Proofs.YtcnjjefbnlgdjaaGreat

/- A revival that was cut off: what the next one finds. -/
namespace Go.Proofs.YtcnjjefbnlgdjaaGreat
open Go Go.RowKit V
set_option linter.unusedVariables false
set_option maxRecDepth 100000
namespace G
open V (str byC ownV ownG ownS ownOk)
theorem tail_two (dt : List UInt8) : ∀ k, 28 + 63 * k ≤ dt.length → ∀ j, j < k → (tailL dt k)[64 * j]? = some 2
  | 0, _, j, hj => absurd hj (by omega)
  | k + 1, h, j, hj => by
    have hl := tailL_len dt k (by omega)
    rw [tailL_succ]
    by_cases e : j < k
    · rw [List.getElem?_append_left (by omega)]
      exact tail_two dt k (by omega) j e
    · obtain rfl : j = k := by omega
      rw [List.getElem?_append_right (by omega), hl, Nat.sub_self]; rfl
theorem enc_two {x : Blk} (h : mayF x = true) {j : Nat} (h1 : 1 ≤ j) (h2 : j < spanF x.cls) : (encL x)[64 * j]? = some 2 := by
  have h3 := dataB_len h
  have h4 := capN_span (may_span h)
  unfold encL
  have hh := headL_len x (dt := dataB x) (by omega)
  rw [List.getElem?_append_right (by omega), hh, show 64 * j - 64 = 64 * (j - 1) by omega]
  exact tail_two _ _ (by omega) _ (by omega)
/-- Lines that are whole are of 64 bytes each. -/
theorem lines_full {D : List Ce} {line : Int} : ∀ {n : Nat}, (linesL D line n).length = 64 * n → ∀ j, j < n → (nowL D (line + (j : Nat))).length = 64
  | 0, _, j, hj => absurd hj (by omega)
  | n + 1, h, j, hj => by
    rw [linesL_succ, List.length_append] at h
    have h1 := linesL_le D line n
    have h2 := nowL_le D (line + (n : Nat))
    by_cases e : j < n
    · exact lines_full (by omega) j e
    · obtain rfl : j = n := by omega
      omega
theorem lines_at {D : List Ce} {line : Int} : ∀ {n : Nat}, (linesL D line n).length = 64 * n → ∀ j, j < n → (linesL D line n)[64 * j]? = (nowL D (line + (j : Nat)))[0]?
  | 0, _, j, hj => absurd hj (by omega)
  | n + 1, h, j, hj => by
    have hf := lines_full h
    rw [linesL_succ, List.length_append] at h
    have h1 := linesL_le D line n
    have h2 := nowL_le D (line + (n : Nat))
    rw [linesL_succ]
    by_cases e : j < n
    · rw [List.getElem?_append_left (by omega)]
      exact lines_at (by omega) j e
    · obtain rfl : j = n := by omega
      rw [List.getElem?_append_right (by omega), show 64 * j - (linesL D line j).length = 0 by omega]
theorem head_one {l : List UInt8} {p : Nat × Nat} (h : headF l = some p) : l[0]? = some 1 := by
  unfold headF at h
  split at h
  · rename_i hh; exact hh.2.1
  · cases h
theorem dec_len {l : List UInt8} {b : Blk} {c kd : Nat} (hh : headF (l.take 64) = some (c, kd)) (h : decF l = some b) : b = decX l c kd ∧ l.length = spanF c * 64 ∧ mayF b = true ∧ encL b = l := by
  unfold decF at h
  rw [hh] at h
  simp only at h
  split at h
  · rename_i h8
    simp only [Option.some.injEq] at h
    subst h
    exact ⟨rfl, h8.1, h8.2.2⟩
  · cases h
theorem lines_take {D : List Ce} {line : Int} {n : Nat} (hn : 1 ≤ n) (h : (nowL D line).length = 64) : (linesL D line n).take 64 = nowL D line := by
  obtain ⟨m, rfl⟩ : ∃ m, n = m + 1 := ⟨n - 1, by omega⟩
  have e : linesL D line (m + 1) = nowL D line ++ (List.range m).flatMap fun i : Nat => nowL D (line + ((i + 1 : Nat) : Int)) := by
    unfold linesL
    rw [List.range_succ_eq_map, List.flatMap_cons, List.flatMap_map]
    congr 1
    simp
  rw [e, List.take_append_of_le_length (by omega), List.take_of_length_le (by omega)]
/-- A block's further lines are no heads. -/
theorem dec_cont {D : List Ce} {line : Int} {c kd : Nat} {b : Blk} (hh : headF (nowL D line) = some (c, kd)) (h : decF (linesL D line (spanF c)) = some b) {j : Nat} (h1 : 1 ≤ j) (h2 : j < spanF c) : headF (nowL D (line + (j : Nat))) = none := by
  have hl := (head_some hh).1
  have hs := (head_some hh).2.1
  have ht := lines_take (D := D) (line := line) (n := spanF c) (by omega) hl
  obtain ⟨hb, hlen, hm, he⟩ := dec_len (by rw [ht]; exact hh) h
  have h3 := lines_at (D := D) (line := line) (n := spanF c) (by omega) j h2
  rw [← he, enc_two hm h1 (by rw [hb]; exact h2)] at h3
  cases e : headF (nowL D (line + (j : Nat))) with
  | none => rfl
  | some p =>
    rw [head_one e] at h3
    cases h3
/-- Of one device and another: what lies on the other is the first one's, but for heads that were wiped. -/
structure Wl (D D' : List Ce) (L : List Fnd) : Prop where
  len : D'.length = D.length
  sm : ∀ i : Int, (∀ f ∈ L, f.line ≠ i) → nowL D' i = nowL D i
  wp : ∀ f ∈ L, ∃ g ∈ L, g.line = f.line ∧ nowL D' f.line = draftL g.b.cls
theorem Wl.refl (D : List Ce) : Wl D D [] := ⟨rfl, fun _ _ => rfl, fun f hf => by cases hf⟩
theorem Wl.app {D D1 D2 : List Ce} {L M : List Fnd} (h : Wl D D1 L) (k : Wl D1 D2 M) : Wl D D2 (L ++ M) := by
  refine ⟨k.len.trans h.len, fun i hi => ?_, fun f hf => ?_⟩
  · rw [k.sm i fun f hf => hi f (List.mem_append_right _ hf), h.sm i fun f hf => hi f (List.mem_append_left _ hf)]
  · by_cases e : ∃ g ∈ M, g.line = f.line
    · obtain ⟨g, hg, hgl⟩ := e
      obtain ⟨u, hu, h1, h2⟩ := k.wp g hg
      exact ⟨u, List.mem_append_right _ hu, h1.trans hgl, by rw [← hgl]; exact h2⟩
    · have hfL : f ∈ L := by
        rcases List.mem_append.1 hf with h8 | h8
        · exact h8
        · exact absurd ⟨f, h8, rfl⟩ e
      obtain ⟨u, hu, h1, h2⟩ := h.wp f hfL
      refine ⟨u, List.mem_append_left _ hu, h1, ?_⟩
      rw [k.sm f.line fun g hg e2 => e ⟨g, hg, e2⟩]
      exact h2
theorem lines_eq {D D' : List Ce} {line : Int} : ∀ {n : Nat}, (∀ j : Nat, j < n → nowL D' (line + (j : Nat)) = nowL D (line + (j : Nat))) → linesL D' line n = linesL D line n
  | 0, _ => rfl
  | n + 1, h => by rw [linesL_succ, linesL_succ, lines_eq fun j hj => h j (by omega), h n (by omega)]
theorem scN_head {D : List Ce} {nx : Int} {f : Fnd} (h : scN D nx = some f) : ∃ c kd : Nat, headF (nowL D (2 + nx)) = some (c, kd) ∧ kd ≠ 0 ∧ f = lookF D (2 + nx) (c : Nat) (kd : Nat) := by
  unfold scN at h
  split at h
  · cases h
  · rename_i c kd hh
    split at h
    · cases h
    · rename_i hk
      simp only [Option.some.injEq] at h
      exact ⟨c, kd, hh, hk, h.symm⟩
theorem look_none {D : List Ce} {line c kd : Int} (h : decF (linesL D line (spanF c)) = none) : lookF D line c kd = ⟨line, false, ⟨c, kd, 0, 0, 0, [], []⟩⟩ := by
  unfold lookF
  rw [h]; simp
theorem look_eq {D D' : List Ce} {line c kd : Int} (h : linesL D line (spanF c) = linesL D' line (spanF c)) : lookF D line c kd = lookF D' line c kd := by
  unfold lookF
  rw [h]
/-- What is found behind wipes. -/
theorem scN_wl {D D' : List Ce} {M : Int} {L : List Fnd} (hw : Wl D D' L) (hL : ∀ f ∈ L, f ∈ fds D M) {i : Nat} (hi : (i : Int) < M) : scN D' (i : Nat) = (scN D (i : Nat)).filter fun f => !decide (f ∈ L) := by
  by_cases hx : ∃ f ∈ L, f.line = 2 + (i : Nat)
  · obtain ⟨f, hf, hfl⟩ := hx
    obtain ⟨g, hg, hgl, hd⟩ := hw.wp f hf
    obtain ⟨j, _, hj⟩ := fds_mem.1 (hL g hg)
    have hjl := scN_line hj
    have hij : j = i := by omega
    subst hij
    have hdr := draft_head (scN_span hj)
    rw [hj]
    simp only [Option.filter, decide_eq_true hg]
    rw [hfl] at hd
    unfold scN
    rw [hd]
    cases e : headF (draftL g.b.cls) with
    | none => rfl
    | some p =>
      rw [e] at hdr
      obtain ⟨a, kd⟩ := p
      simp only [Option.map_some, Option.some.injEq] at hdr
      simp [hdr]
  · have hsm := hw.sm (2 + (i : Nat)) fun f hf e => hx ⟨f, hf, e⟩
    have hno : ∀ f, scN D (i : Nat) = some f → decide (f ∈ L) = false := fun f h => by
      rw [decide_eq_false_iff_not]
      intro hf
      exact hx ⟨f, hf, scN_line h⟩
    have e2 : (scN D (i : Nat)).filter (fun f => !decide (f ∈ L)) = scN D (i : Nat) := by
      cases e : scN D (i : Nat) with
      | none => rfl
      | some f => simp [Option.filter, hno f e]
    rw [e2]
    unfold scN
    rw [hsm]
    cases hh : headF (nowL D (2 + (i : Nat))) with
    | none => rfl
    | some p =>
      obtain ⟨c, kd⟩ := p
      simp only
      by_cases hk : kd = 0
      · rw [if_pos hk, if_pos hk]
      · rw [if_neg hk, if_neg hk]
        congr 1
        by_cases hin : ∃ j : Nat, 1 ≤ j ∧ j < spanF c ∧ ∃ f ∈ L, f.line = 2 + (i : Nat) + (j : Nat)
        · obtain ⟨j, hj1, hj2, f, hf, hfl⟩ := hin
          obtain ⟨m, _, hm⟩ := fds_mem.1 (hL f hf)
          have hml := scN_line hm
          obtain ⟨c2, k2, hh2, _, _⟩ := scN_head hm
          have n1 : decF (linesL D (2 + (i : Nat)) (spanF c)) = none := by
            cases e : decF (linesL D (2 + (i : Nat)) (spanF c)) with
            | none => rfl
            | some b =>
              have h8 := dec_cont hh e hj1 hj2
              rw [show (2 : Int) + (i : Nat) + (j : Nat) = 2 + (m : Nat) by omega, hh2] at h8
              cases h8
          have n2 : decF (linesL D' (2 + (i : Nat)) (spanF c)) = none := by
            cases e : decF (linesL D' (2 + (i : Nat)) (spanF c)) with
            | none => rfl
            | some b =>
              have h8 := dec_cont (by rw [hsm]; exact hh) e hj1 hj2
              obtain ⟨g, hg, hgl, hd⟩ := hw.wp f hf
              obtain ⟨q, _, hq⟩ := fds_mem.1 (hL g hg)
              have hdr := draft_head (scN_span hq)
              rw [← hfl, hd] at h8
              rw [h8] at hdr
              cases hdr
          rw [look_none n1, look_none n2]
        · refine look_eq <| lines_eq fun j hj => ?_
          by_cases hj0 : j = 0
          · subst hj0
            simpa using hsm
          · exact hw.sm _ fun f hf e => hin ⟨j, by omega, hj, f, hf, e⟩
theorem fm_filter {α β : Type} {f f' : α → Option β} {p : β → Bool} : ∀ {l : List α}, (∀ i ∈ l, f' i = (f i).filter p) → l.filterMap f' = (l.filterMap f).filter p
  | [], _ => rfl
  | a :: l, h => by
    have h1 := fm_filter (l := l) fun i hi => h i (List.mem_cons_of_mem _ hi)
    have h2 := h a List.mem_cons_self
    rw [List.filterMap_cons, List.filterMap_cons, h2]
    cases e : f a with
    | none => exact h1
    | some x =>
      by_cases hp : p x = true
      · simp [Option.filter, hp, h1]
      · simp [Option.filter, hp, h1]
theorem fds_wl {D D' : List Ce} {M : Int} {L : List Fnd} (hw : Wl D D' L) (hL : ∀ f ∈ L, f ∈ fds D M) : fds D' M = (fds D M).filter fun f => !decide (f ∈ L) := by
  unfold fds
  refine fm_filter fun i hi => ?_
  rw [List.mem_range] at hi
  exact scN_wl hw hL (by omega)
theorem new_irr (e : Int) (f : Fnd) : newF e f f = false := by unfold newF; simp
theorem new_tr {e : Int} {z y x : Fnd} (h1 : newF e z y = true) (h2 : newF e y x = true) : newF e z x = true := by
  unfold newF at *
  simp only [Bool.and_eq_true, Bool.or_eq_true, decide_eq_true_eq] at *
  obtain ⟨⟨a1, a2⟩, a3⟩ := h1
  obtain ⟨⟨b1, b2⟩, b3⟩ := h2
  refine ⟨⟨a1, a2.trans b2⟩, ?_⟩
  rcases a3 with a3 | ⟨⟨a3, a4⟩, a5⟩ <;> rcases b3 with b3 | ⟨⟨b3, b4⟩, b5⟩
  · left; omega
  · left; omega
  · left; omega
  · right; exact ⟨⟨a3, by omega⟩, by omega⟩
theorem new_max {e : Int} {x : Fnd} : ∀ {L : List Fnd}, (∃ y ∈ L, newF e y x = true) → ∃ y ∈ L, newF e y x = true ∧ ∀ z ∈ L, newF e z y = false
  | [], h => by obtain ⟨y, hy, _⟩ := h; cases hy
  | a :: L, h => by
    by_cases h1 : ∃ y ∈ L, newF e y x = true
    · obtain ⟨m, hm, hmx, hmm⟩ := new_max h1
      by_cases ha : newF e a m = true
      · refine ⟨a, List.mem_cons_self, new_tr ha hmx, fun z hz => ?_⟩
        rcases List.mem_cons.1 hz with rfl | hz
        · exact new_irr _ _
        · cases e1 : newF e z a with
          | false => rfl
          | true =>
            have h8 := hmm z hz
            rw [new_tr e1 ha] at h8
            exact h8
      · refine ⟨m, List.mem_cons_of_mem _ hm, hmx, fun z hz => ?_⟩
        rcases List.mem_cons.1 hz with rfl | hz
        · simpa using ha
        · exact hmm z hz
    · obtain ⟨y, hy, hyx⟩ := h
      have hya : y = a := by
        rcases List.mem_cons.1 hy with h8 | h8
        · exact h8
        · exact absurd ⟨y, h8, hyx⟩ h1
      subst hya
      refine ⟨y, List.mem_cons_self, hyx, fun z hz => ?_⟩
      rcases List.mem_cons.1 hz with rfl | hz
      · exact new_irr _ _
      · cases e1 : newF e z y with
        | false => rfl
        | true => exact absurd ⟨z, hz, new_tr e1 hyx⟩ h1
theorem keep_pay {e : Int} {F : List Fnd} {f : Fnd} (h : keepF e F f = true) : payF e f = true ∧ ∀ y ∈ F, newF e y f = false := by
  unfold keepF at h
  simp only [Bool.and_eq_true, Bool.not_eq_true'] at h
  exact ⟨h.1, fun y hy => by simpa using List.any_eq_false.1 h.2 y hy⟩
theorem keep_of {e : Int} {F : List Fnd} {f : Fnd} (h : payF e f = true) (hn : ∀ y ∈ F, newF e y f = false) : keepF e F f = true := by
  unfold keepF
  rw [h, List.any_eq_false.2 fun y hy => by rw [hn y hy]; decide]; rfl
theorem keep_off {e : Int} {F : List Fnd} {f : Fnd} (h : payF e f = true) (hk : keepF e F f = false) : ∃ y ∈ F, newF e y f = true := by
  unfold keepF at hk
  rw [h, Bool.true_and] at hk
  have h8 : (F.any fun g => newF e g f) = true := by simpa using hk
  rw [List.any_eq_true] at h8
  exact h8
/-- What is kept when some of what was found is not there. -/
theorem keep_wl {e : Int} {F : List Fnd} {W : Fnd → Bool} (h1 : ∀ f ∈ F, W f = true → keepF e F f = false) (h2 : ∀ f ∈ F, payF e f = true → keepF e F f = false → W f = false → ∃ y ∈ F, newF e y f = true ∧ W y = false) : decK e (F.filter fun f => !W f) = decK e F := by
  unfold decK
  rw [List.filter_filter]
  refine List.filter_congr fun f hf => ?_
  cases hk : keepF e F f with
  | true =>
    obtain ⟨a, b⟩ := keep_pay hk
    have hW : W f = false := by
      cases hW : W f with
      | false => rfl
      | true => rw [h1 f hf hW] at hk; cases hk
    rw [keep_of a fun y hy => b y (List.mem_filter.1 hy).1, hW]; rfl
  | false =>
    cases hW : W f with
    | true => simp
    | false =>
      have h8 : keepF e (F.filter fun f => !W f) f = false := by
        cases hp : payF e f with
        | false => unfold keepF; rw [hp]; rfl
        | true =>
          obtain ⟨y, hy, hn, hWy⟩ := h2 f hf hp hk hW
          unfold keepF
          rw [List.any_eq_true.2 ⟨y, List.mem_filter.2 ⟨hy, by rw [hWy]; rfl⟩, hn⟩]; simp
      rw [h8]; rfl
theorem pay_anti {e : Int} {f : Fnd} (h : payF e f = true) : antiF e f = false := by
  unfold payF at h
  unfold antiF
  simp only [Bool.and_eq_true, decide_eq_true_eq] at h
  rw [decide_eq_false h.2, Bool.and_false]
theorem sound_or {e : Int} {f : Fnd} (h : soundF e f = true) : payF e f = true ∨ antiF e f = true := by
  unfold payF antiF
  rw [h]
  by_cases hk : f.b.kind = 3
  · right; simp [hk]
  · left; simp [hk]
theorem scrub_keep {e : Int} {F : List Fnd} {f : Fnd} (h : scrubF e F f = true) : keepF e F f = false ∧ antiF e f = false := by
  unfold scrubF at h
  simpa [and_comm] using h
theorem keepA {e : Int} {F : List Fnd} {W : Fnd → Bool} (h : ∀ f ∈ F, W f = true → scrubF e F f = true) : decK e (F.filter fun f => !W f) = decK e F := by
  refine keep_wl (fun f hf hW => (scrub_keep (h f hf hW)).1) fun f hf hp hk _ => ?_
  obtain ⟨y, hy, hyn, hm⟩ := new_max (keep_off hp hk)
  refine ⟨y, hy, hyn, ?_⟩
  cases hW : W y with
  | false => rfl
  | true =>
    exfalso
    obtain ⟨a, b⟩ := scrub_keep (h y hy hW)
    have hs : soundF e y = true := by
      unfold newF at hyn
      simp only [Bool.and_eq_true] at hyn
      exact hyn.1.1
    rcases sound_or hs with h8 | h8
    · rw [keep_of h8 hm] at a; cases a
    · rw [h8] at b; cases b
theorem keepB {e : Int} {F : List Fnd} {W : Fnd → Bool} (h1 : ∀ f ∈ F, W f = true → scrubF e F f = true ∨ antiF e f = true) (h2 : ∀ f ∈ F, scrubF e F f = true → W f = true) : decK e (F.filter fun f => !W f) = decK e F := by
  refine keep_wl (fun f hf hW => ?_) fun f hf hp hk hW => ?_
  · rcases h1 f hf hW with h8 | h8
    · exact (scrub_keep h8).1
    · cases hk : keepF e F f with
      | false => rfl
      | true => rw [(keep_not hk).2] at h8; cases h8
  · have h8 : scrubF e F f = true := by unfold scrubF; rw [pay_anti hp, hk]; rfl
    rw [h2 f hf h8] at hW; cases hW
end G
end Go.Proofs.YtcnjjefbnlgdjaaGreat

/- A revival that was cut off: the next one keeps the same. -/
namespace Go.Proofs.YtcnjjefbnlgdjaaGreat
open Go Go.RowKit V
set_option linter.unusedVariables false
set_option maxRecDepth 100000
namespace G
open V (str byC ownV ownG ownS ownOk)
abbrev fdA (D : List Ce) : List Fnd := fds D (slabsF D.length * 8)
/-- What a device keeps. -/
abbrev kpA (D : List Ce) : List Fnd := decK (openF D).1 (fdA D)
theorem upD_kept {D : List Ce} {line : Int} {g : Ce → Ce} {i : Nat} {c' : Ce} (h : (upD D line g)[i]? = some c') (hg : ∀ c, (g c).kept = c.kept) : ∃ c0, D[i]? = some c0 ∧ c'.kept = c0.kept := by
  unfold upD at h
  split at h
  · rw [List.getElem?_modify] at h
    rw [Option.map_eq_map, Option.map_eq_some_iff] at h
    obtain ⟨c0, h1, h2⟩ := h
    refine ⟨c0, h1, ?_⟩
    rw [← h2]
    split
    · exact hg c0
    · rfl
  · exact ⟨c', h, rfl⟩
theorem wip1_kept {D : List Ce} {f : Fnd} {i : Nat} {c' : Ce} (h : (wip1 D f)[i]? = some c') : ∃ c0, D[i]? = some c0 ∧ c'.kept = c0.kept := by
  unfold wip1 at h
  obtain ⟨c1, h1, h2⟩ := upD_kept h fun c => rfl
  unfold stD at h1
  split at h1
  · obtain ⟨c0, h3, h4⟩ := upD_kept h1 fun c => rfl
    exact ⟨c0, h3, h2.trans h4⟩
  · exact ⟨c1, h1, h2⟩
theorem wl_kept : ∀ {fs : List Fnd} {D : List Ce} {i : Nat} {c' : Ce}, (wl D fs)[i]? = some c' → ∃ c0, D[i]? = some c0 ∧ c'.kept = c0.kept
  | [], D, i, c', h => ⟨c', h, rfl⟩
  | f :: r, D, i, c', h => by
    have h8 : (wl (wip1 D f) r)[i]? = some c' := h
    obtain ⟨c1, h1, h2⟩ := wl_kept h8
    obtain ⟨c0, h3, h4⟩ := wip1_kept h1
    exact ⟨c0, h3, h2.trans h4⟩
theorem wip1_len (D : List Ce) (f : Fnd) : (wip1 D f).length = D.length := by unfold wip1; rw [upD_len, stD_len]
theorem wl_len : ∀ (fs : List Fnd) (D : List Ce), (wl D fs).length = D.length
  | [], _ => rfl
  | f :: r, D => (wl_len r (wip1 D f)).trans (wip1_len D f)
theorem now_out {D D' : List Ce} (hl : D'.length = D.length) {i : Int} (h : ¬ (0 ≤ i ∧ i < D.length)) : nowL D' i = nowL D i := by
  rw [nowL_out h, nowL_out (by rw [hl]; exact h)]
/-- What may be wiped: heads that lie on the device. -/
def InD (D : List Ce) (L : List Fnd) : Prop := ∀ f ∈ L, spanF f.b.cls ≠ 0 ∧ 0 ≤ f.line ∧ f.line < D.length
theorem fds_in (D : List Ce) (M : Int) : InD D (fds D M) := by
  intro f hf
  obtain ⟨i, _, hi⟩ := fds_mem.1 hf
  obtain ⟨c, kd, hh, _, _⟩ := scN_head hi
  have hl := scN_line hi
  refine ⟨scN_span hi, ?_⟩
  by_cases e : 0 ≤ f.line ∧ f.line < D.length
  · exact e
  · rw [← hl, nowL_out e] at hh
    have h8 := (head_some hh).1
    cases h8
theorem fen_wl {D : List Ce} {S : List Fnd} (hc : Calm D) (hS : InD D S) : Wl D ((wl D S).map fenB) S := by
  have hlen : ((wl D S).map fenB).length = D.length := by rw [List.length_map, wl_len]
  refine ⟨hlen, fun i hi => ?_, fun f hf => ?_⟩
  · by_cases h : 0 ≤ i ∧ i < D.length
    · obtain ⟨j, rfl⟩ : ∃ j : Nat, i = j := ⟨i.toNat, by omega⟩
      obtain ⟨c', hc'⟩ : ∃ c', ((wl D S).map fenB)[j]? = some c' := ⟨_, List.getElem?_eq_getElem (by omega)⟩
      rcases wiped_at hc (fun f hf => (hS f hf).1) hc' with ⟨h1, _⟩ | ⟨_, _, f, hf, h3, _⟩
      · rw [nowL_of hc', nowL_of h1]
      · exact absurd h3 (hi f hf)
    · exact now_out hlen h
  · obtain ⟨hs, h0, hlt⟩ := hS f hf
    obtain ⟨j, hj⟩ : ∃ j : Nat, f.line = j := ⟨f.line.toNat, by omega⟩
    obtain ⟨c', hc'⟩ : ∃ c', ((wl D S).map fenB)[j]? = some c' := ⟨_, List.getElem?_eq_getElem (by omega)⟩
    rcases wiped_at hc (fun f hf => (hS f hf).1) hc' with ⟨_, h1⟩ | ⟨_, _, g, hg, h3, h4⟩
    · exact absurd hj (h1 f hf)
    · exact ⟨g, hg, h3.trans hj.symm, by rw [hj, nowL_of hc', h4]⟩
theorem cut_calm {D : List Ce} (hc : Calm D) (keep : List Int) : cutD D keep = D := by
  apply List.ext_getElem?
  intro i
  cases e : D[i]? with
  | none =>
    rw [List.getElem?_eq_none_iff] at e ⊢
    rw [cutD_len]; exact e
  | some c =>
    rw [cutD_at e]
    obtain ⟨h1, h2⟩ := hc c (List.mem_of_getElem? e)
    unfold cutC
    obtain ⟨a, b, w, s⟩ := c
    simp only at h1 h2 ⊢
    rw [h1, h2]; simp
theorem cut_is (D : List Ce) (keep : List Int) : Calm (cutD D keep) := by
  intro c hc
  obtain ⟨i, hi⟩ := List.mem_iff_getElem?.1 hc
  have hlt : i < D.length := by
    have := (List.getElem?_eq_some_iff.1 hi).1
    rwa [cutD_len] at this
  rw [cutD_at (List.getElem?_eq_getElem hlt), Option.some.injEq] at hi
  rw [← hi]
  exact ⟨rfl, rfl⟩
theorem cut_wl {D : List Ce} {L : List Fnd} (hc : Calm D) (hS : InD D L) (keep : List Int) : Wl D (cutD (wl D L) keep) (L.filter fun f => decide (f.line ∈ keep)) := by
  have hlen : (cutD (wl D L) keep).length = D.length := by rw [cutD_len, wl_len]
  have hdl : ∀ f ∈ L, (draftL f.b.cls).length = 64 := fun f hf => draftL_len (hS f hf).1
  refine ⟨hlen, fun i hi => ?_, fun f hf => ?_⟩
  · by_cases h : 0 ≤ i ∧ i < D.length
    · obtain ⟨j, rfl⟩ : ∃ j : Nat, i = j := ⟨i.toNat, by omega⟩
      obtain ⟨c, hcj⟩ : ∃ c, (wl D L)[j]? = some c := ⟨_, List.getElem?_eq_getElem (by rw [wl_len]; omega)⟩
      rw [nowL_of (cutD_at hcj)]
      obtain ⟨c0, h1, h2⟩ := wl_kept hcj
      obtain ⟨h3, _⟩ := hc c0 (List.mem_of_getElem? h1)
      rw [nowL_of h1]
      unfold cutC
      simp only
      rcases wl_at hdl hcj with ⟨h4, _⟩ | ⟨f, hf, h4, _⟩
      · rw [h1, Option.some.injEq] at h4
        subst h4
        split
        · rfl
        · rw [h3]
      · rw [if_neg fun hk => hi f (List.mem_filter.2 ⟨hf, by rw [h4]; exact decide_eq_true hk⟩) h4, h2, h3]
    · exact now_out hlen h
  · obtain ⟨hf1, hf2⟩ := List.mem_filter.1 hf
    obtain ⟨hs, h0, hlt⟩ := hS f hf1
    obtain ⟨j, hj⟩ : ∃ j : Nat, f.line = j := ⟨f.line.toNat, by omega⟩
    obtain ⟨c, hcj⟩ : ∃ c, (wl D L)[j]? = some c := ⟨_, List.getElem?_eq_getElem (by rw [wl_len]; omega)⟩
    have hk : ((j : Nat) : Int) ∈ keep := by rw [← hj]; simpa using hf2
    rcases wl_at hdl hcj with ⟨_, h4⟩ | ⟨g, hg, h4, h5, _⟩
    · exact absurd hj (h4 f hf1)
    · refine ⟨g, List.mem_filter.2 ⟨hg, by rw [h4]; exact decide_eq_true hk⟩, h4.trans hj.symm, ?_⟩
      rw [hj, nowL_of (cutD_at hcj)]
      unfold cutC
      simp only
      rw [if_pos hk, h5]
theorem open_wl {D D' : List Ce} {L : List Fnd} (hw : Wl D D' L) (hL : ∀ f ∈ L, 2 ≤ f.line) : openF D' = openF D := by
  have h : ∀ i : Nat, i < 2 → D'[i]?.map Ce.now = D[i]?.map Ce.now := fun i hi => by
    have hs := hw.sm (i : Nat) fun f hf e => by have := hL f hf; omega
    cases e : D[i]? with
    | none =>
      rw [List.getElem?_eq_none_iff] at e
      rw [List.getElem?_eq_none (by rw [hw.len]; exact e)]
    | some c =>
      have hlt := (List.getElem?_eq_some_iff.1 e).1
      have e2 : D'[i]? = some (D'[i]'(by rw [hw.len]; exact hlt)) := List.getElem?_eq_getElem _
      rw [nowL_of e, nowL_of e2] at hs
      rw [e2]
      simp only [Option.map_some]
      rw [Subtype.ext hs]
  have h0 := h 0 (by omega)
  have h1 := h 1 (by omega)
  unfold openF
  rw [hw.len]
  cases e0 : D[0]? with
  | none =>
    rw [e0] at h0
    cases e0' : D'[0]? with
    | none => rfl
    | some c => rw [e0'] at h0; cases h0
  | some c0 =>
    rw [e0] at h0
    cases e0' : D'[0]? with
    | none => rw [e0'] at h0; cases h0
    | some c0' =>
      rw [e0'] at h0
      simp only [Option.map_some, Option.some.injEq] at h0
      simp only
      rw [h0]
      cases e1 : D[1]? with
      | none =>
        rw [e1] at h1
        cases e1' : D'[1]? with
        | none => rfl
        | some c => rw [e1'] at h1; cases h1
      | some c1 =>
        rw [e1] at h1
        cases e1' : D'[1]? with
        | none => rw [e1'] at h1; cases h1
        | some c1' =>
          rw [e1'] at h1
          simp only [Option.map_some, Option.some.injEq] at h1
          simp only
          rw [h1]
/-- Another device, of which a revival makes the same. -/
structure Same (D D' : List Ce) : Prop where
  len : D'.length = D.length
  calm : Calm D'
  op : openF D' = openF D
  kp : kpA D' = kpA D
theorem Same.refl {D : List Ce} (h : Calm D) : Same D D := ⟨rfl, h, rfl, rfl⟩
theorem Same.trans {D D1 D2 : List Ce} (h : Same D D1) (k : Same D1 D2) : Same D D2 := ⟨k.len.trans h.len, k.calm, k.op.trans h.op, k.kp.trans h.kp⟩
theorem fds_two {D : List Ce} {M : Int} {f : Fnd} (h : f ∈ fds D M) : 2 ≤ f.line := by
  obtain ⟨i, _, hi⟩ := fds_mem.1 h
  have := scN_line hi
  omega
theorem same_wl {D D' : List Ce} {L : List Fnd} (hw : Wl D D' L) (hc : Calm D') (hL : ∀ f ∈ L, f ∈ fdA D) (hk : decK (openF D).1 ((fdA D).filter fun f => !decide (f ∈ L)) = kpA D) : Same D D' := by
  have ho := open_wl hw fun f hf => fds_two (hL f hf)
  refine ⟨hw.len, hc, ho, ?_⟩
  unfold kpA fdA
  rw [ho, hw.len, fds_wl hw hL]
  exact hk
/-- What holds of a run from its beginning on. -/
structure Run (D0 : List Ce) (v : Dev) (c : Cor) : Prop where
  p7 : c.ph ≤ 7
  q : c.ph ≤ 2 ∨ c.ph = 7 → v.D = D0
  e : 1 ≤ c.ph → c.ph ≤ 6 → (openF D0).2 = 0 ∧ c.e = (openF D0).1
  k : 3 ≤ c.ph → c.ph ≤ 6 → ovE D0.length (kpA D0) = 0
  b : c.ph = 7 → (openF D0).2 ≠ 0 ∨ ovE D0.length (kpA D0) ≠ 0
theorem scC_e (D : List Ce) (c : Cor) : (scC D c).e = c.e := by unfold scC; split <;> rfl
theorem wpC_e (q : Fnd → Bool) (c : Cor) (p : Int) : (wpC q c p).e = c.e := by unfold wpC; split <;> rfl
theorem run0 (v : Dev) : Run v.D v cor0 := ⟨by decide, fun _ => rfl, fun h => absurd h (by decide), fun h => absurd h (by decide), fun h => absurd h (by decide)⟩
theorem Run.step {n : Nat} {D0 : List Ce} {v : Dev} {c : Cor} (h : Run D0 v c) (hC : Cln D0 v c) (hI : Inv n v c) (hn : D0.length = n) : Run D0 (stp v c).1 (stp v c).2.1 := by
  have hp := hI.ph
  have hnx := hI.nx
  have hlen := hI.len
  unfold stp
  by_cases h0 : c.ph = 0
  · rw [if_pos h0]
    have hv := h.q (.inl (by omega))
    simp only
    split
    · rename_i ho
      rw [hv] at ho
      exact ⟨by simp, fun _ => hv, fun _ _ => ⟨ho, by rw [hv]⟩, fun h8 => absurd h8 (by simp), fun h8 => absurd h8 (by simp)⟩
    · rename_i ho
      rw [hv] at ho
      exact ⟨by simp, fun _ => hv, fun _ h8 => absurd h8 (by simp), fun _ h8 => absurd h8 (by simp), fun _ => .inl ho⟩
  rw [if_neg h0]
  by_cases h1 : c.ph = 1
  · rw [if_pos h1]
    have hv := h.q (.inl (by omega))
    have he := h.e (by omega) (by omega)
    simp only
    have h9 : (scC v.D c).ph = 1 ∨ (scC v.D c).ph = 2 := by
      rcases scC_cases v.D c with ⟨_, h8, _⟩ | ⟨_, h8, _⟩ <;> omega
    exact ⟨by omega, fun _ => hv, fun _ _ => ⟨he.1, (scC_e _ _).trans he.2⟩, fun h8 => absurd h8 (by omega), fun h8 => absurd h8 (by omega)⟩
  rw [if_neg h1]
  by_cases h2 : c.ph = 2
  · rw [if_pos h2]
    have hv := h.q (.inl (by omega))
    have he := h.e (by omega) (by omega)
    have hf := hC.f2 (by omega) (by omega)
    have hk : decK c.e c.fd = kpA D0 := by rw [he.2, hf]
    simp only
    split
    · rename_i ho
      rw [hk, hlen, ← hn] at ho
      exact ⟨by simp, fun h8 => absurd h8 (by simp), fun _ _ => he, fun _ _ => ho, fun h8 => absurd h8 (by simp)⟩
    · rename_i ho
      rw [hk, hlen, ← hn] at ho
      exact ⟨by simp, fun _ => hv, fun _ h8 => absurd h8 (by simp), fun _ h8 => absurd h8 (by simp), fun _ => .inr ho⟩
  rw [if_neg h2]
  by_cases h3 : c.ph = 3
  · rw [if_pos h3]
    have he := h.e (by omega) (by omega)
    have hk := h.k (by omega) (by omega)
    simp only
    have h9 : (wpC (scrubF c.e c.fd) c 4).ph = 3 ∨ (wpC (scrubF c.e c.fd) c 4).ph = 4 := by
      rcases wpC_cases (scrubF c.e c.fd) c 4 hnx with ⟨h8, _⟩ | ⟨h8, _⟩ <;> omega
    exact ⟨by omega, fun h8 => absurd h8 (by omega), fun _ _ => ⟨he.1, (wpC_e _ _ _).trans he.2⟩, fun _ _ => hk, fun h8 => absurd h8 (by omega)⟩
  rw [if_neg h3]
  by_cases h4 : c.ph = 4
  · rw [if_pos h4]
    have he := h.e (by omega) (by omega)
    have hk := h.k (by omega) (by omega)
    simp only
    have h9 : (wpC (antiF c.e) c 5).ph = 4 ∨ (wpC (antiF c.e) c 5).ph = 5 := by
      rcases wpC_cases (antiF c.e) c 5 hnx with ⟨h8, _⟩ | ⟨h8, _⟩ <;> omega
    exact ⟨by omega, fun h8 => absurd h8 (by omega), fun _ _ => ⟨he.1, (wpC_e _ _ _).trans he.2⟩, fun _ _ => hk, fun h8 => absurd h8 (by omega)⟩
  rw [if_neg h4]
  by_cases h5 : c.ph = 5
  · rw [if_pos h5]
    have he := h.e (by omega) (by omega)
    have hk := h.k (by omega) (by omega)
    exact ⟨by simp, fun h8 => absurd h8 (by simp), fun _ _ => he, fun _ _ => hk, fun h8 => absurd h8 (by simp)⟩
  rw [if_neg h5]
  exact h
theorem runN_run {v : Dev} (h : 0 < v.D.length ∧ v.D.length ≤ 1000) : ∀ k, Run v.D (runN v cor0 k).1 (runN v cor0 k).2
  | 0 => run0 v
  | k + 1 => (runN_run h k).step (runN_inv h k).2 (runN_inv h k).1 rfl
/-- A cut, wherever a revival is: the next one makes the same. -/
theorem cut_same {v : Dev} (hc : Calm v.D) (hL : 0 < v.D.length ∧ v.D.length ≤ 1000) (k : Nat) (keep : List Int) : Same v.D (cutD (runN v cor0 k).1.D keep) := by
  obtain ⟨hI, hC⟩ := runN_inv hL k
  have hR := runN_run hL k
  have hp := hI.ph
  have hp7 := hR.p7
  generalize (runN v cor0 k).1 = u at hI hC hR
  generalize (runN v cor0 k).2 = c at hI hC hR hp hp7
  by_cases h2 : c.ph ≤ 2 ∨ c.ph = 7
  · rw [hR.q h2, cut_calm hc]
    exact .refl hc
  have hfd := hC.f2 (by omega) (by omega)
  have hfA : fdA v.D = c.fd := hfd.symm
  have he := hR.e (by omega) (by omega)
  have hin := fds_in v.D (slabsF v.D.length * 8)
  rw [← hfd] at hin
  have hS : InD v.D (c.fd.filter (scrubF c.e c.fd)) := fun f hf => hin f (List.mem_filter.1 hf).1
  have hA : InD v.D (c.fd.filter (antiF c.e)) := fun f hf => hin f (List.mem_filter.1 hf).1
  by_cases h3 : c.ph = 3
  · rw [hC.p3 h3]
    have hsub : ∀ f ∈ (c.fd.take c.nx.toNat).filter (scrubF c.e c.fd), f ∈ c.fd ∧ scrubF c.e c.fd f = true := fun f hf => by
      obtain ⟨a, b⟩ := List.mem_filter.1 hf
      exact ⟨List.mem_of_mem_take a, b⟩
    refine same_wl (cut_wl hc (fun f hf => hin f (hsub f hf).1) keep) (cut_is _ _) (fun f hf => ?_) ?_
    · rw [hfA]; exact (hsub f (List.mem_filter.1 hf).1).1
    · unfold kpA fdA
      rw [← hfd, ← he.2]
      refine keepA fun f hf hW => ?_
      rw [decide_eq_true_eq] at hW
      exact (hsub f (List.mem_filter.1 hW).1).2
  have hw1 := fen_wl hc hS
  have hc1 := wiped_calm hc fun f hf => (hS f hf).1
  have hA1 : InD ((wl v.D (c.fd.filter (scrubF c.e c.fd))).map fenB) (c.fd.filter (antiF c.e)) := fun f hf => by rw [hw1.len]; exact hA f hf
  have hB : ∀ L : List Fnd, (∀ f ∈ L, f ∈ c.fd ∧ antiF c.e f = true) → ∀ (f : Fnd), f ∈ c.fd → (decide (f ∈ c.fd.filter (scrubF c.e c.fd) ++ L) = true → scrubF c.e c.fd f = true ∨ antiF c.e f = true) ∧ (scrubF c.e c.fd f = true → decide (f ∈ c.fd.filter (scrubF c.e c.fd) ++ L) = true) := fun L hL f hf => by
    constructor
    · intro h8
      rw [decide_eq_true_eq] at h8
      rcases List.mem_append.1 h8 with h9 | h9
      · exact .inl (List.mem_filter.1 h9).2
      · exact .inr (hL f h9).2
    · intro h8
      rw [decide_eq_true_eq]
      exact List.mem_append_left _ (List.mem_filter.2 ⟨hf, h8⟩)
  by_cases h4 : c.ph = 4
  · rw [hC.p4 h4]
    have hsub : ∀ f ∈ (c.fd.take c.nx.toNat).filter (antiF c.e), f ∈ c.fd ∧ antiF c.e f = true := fun f hf => by
      obtain ⟨a, b⟩ := List.mem_filter.1 hf
      exact ⟨List.mem_of_mem_take a, b⟩
    have hsub2 : ∀ f ∈ ((c.fd.take c.nx.toNat).filter (antiF c.e)).filter (fun f => decide (f.line ∈ keep)), f ∈ c.fd ∧ antiF c.e f = true := fun f hf => hsub f (List.mem_filter.1 hf).1
    refine same_wl (hw1.app (cut_wl hc1 (fun f hf => hA1 f (List.mem_filter.2 (hsub f hf))) keep)) (cut_is _ _) (fun f hf => ?_) ?_
    · rw [hfA]
      rcases List.mem_append.1 hf with h8 | h8
      · exact (List.mem_filter.1 h8).1
      · exact (hsub2 f h8).1
    · unfold kpA fdA
      rw [← hfd, ← he.2]
      exact keepB (fun f hf => (hB _ hsub2 f hf).1) fun f hf => (hB _ hsub2 f hf).2
  · rw [hC.p5 (by omega) (by omega)]
    have hw2 := hw1.app (fen_wl hc1 hA1)
    have hc2 := wiped_calm hc1 fun f hf => (hA f hf).1
    have hsub : ∀ f ∈ c.fd.filter (antiF c.e), f ∈ c.fd ∧ antiF c.e f = true := fun f hf => List.mem_filter.1 hf
    rw [cut_calm hc2]
    refine same_wl hw2 hc2 (fun f hf => ?_) ?_
    · rw [hfA]
      rcases List.mem_append.1 hf with h8 | h8
      · exact (List.mem_filter.1 h8).1
      · exact (hsub f h8).1
    · unfold kpA fdA
      rw [← hfd, ← he.2]
      exact keepB (fun f hf => (hB _ hsub f hf).1) fun f hf => (hB _ hsub f hf).2
/-- The end of a run: it is done just if the device can be opened and what is kept makes an arena. -/
theorem run_end {v : Dev} (hL : 0 < v.D.length ∧ v.D.length ≤ 1000) {k : Nat} (h6 : 6 ≤ (runN v cor0 k).2.ph) : ((runN v cor0 k).2.ph = 6 ↔ (openF v.D).2 = 0 ∧ ovE v.D.length (kpA v.D) = 0) ∧ ((runN v cor0 k).2.ph = 6 → (runN v cor0 k).2.e = (openF v.D).1 ∧ (runN v cor0 k).2.kp = kpA v.D ∧ (runN v cor0 k).2.fd = fdA v.D) := by
  obtain ⟨hI, hC⟩ := runN_inv hL k
  have hR := runN_run hL k
  have hp7 := hR.p7
  refine ⟨⟨fun h => ⟨(hR.e (by omega) (by omega)).1, hR.k (by omega) (by omega)⟩, fun h => ?_⟩, fun h => ?_⟩
  · by_cases h7 : (runN v cor0 k).2.ph = 7
    · rcases hR.b h7 with h8 | h8
      · exact absurd h.1 h8
      · exact absurd h.2 h8
    · omega
  · have he := (hR.e (by omega) (by omega)).2
    have hf := hC.f2 (by omega) (by omega)
    refine ⟨he, ?_, hf⟩
    rw [(hI.kp (by omega) (by omega)).1, he, hf]
theorem same_run {v u : Dev} (hs : Same v.D u.D) (hL : 0 < v.D.length ∧ v.D.length ≤ 1000) {k m : Nat} (hk : (runN v cor0 k).2.ph = 6) (hm : 6 ≤ (runN u cor0 m).2.ph) : (runN u cor0 m).2.ph = 6 ∧ (runN u cor0 m).2.e = (runN v cor0 k).2.e ∧ (runN u cor0 m).2.kp = (runN v cor0 k).2.kp := by
  obtain ⟨h1, h2⟩ := run_end hL (k := k) (by omega)
  obtain ⟨h3, h4⟩ := run_end (v := u) (by rw [hs.len]; exact hL) hm
  have h5 := h1.1 hk
  have h6 := h3.2 ⟨by rw [hs.op]; exact h5.1, by rw [hs.len, hs.kp]; exact h5.2⟩
  exact ⟨h6, by rw [(h4 h6).1, (h2 hk).1, hs.op], by rw [(h4 h6).2.1, (h2 hk).2.1, hs.kp]⟩
/-- Behind a revival, and a cut: what the next one finds is what was kept. -/
theorem again_found {v : Dev} (hc : Calm v.D) (hL : 0 < v.D.length ∧ v.D.length ≤ 1000) {k : Nat} (hk : (runN v cor0 k).2.ph = 6) (keep : List Int) : fdA (cutD (runN v cor0 k).1.D keep) = kpA v.D := by
  obtain ⟨hI, hC⟩ := runN_inv hL k
  have hR := runN_run hL k
  generalize (runN v cor0 k).1 = u at hI hC hR
  generalize (runN v cor0 k).2 = c at hI hC hR hk
  have hfd := hC.f2 (by omega) (by omega)
  have hfA : fdA v.D = c.fd := hfd.symm
  have he := hR.e (by omega) (by omega)
  have hin := fds_in v.D (slabsF v.D.length * 8)
  rw [← hfd] at hin
  have hS : InD v.D (c.fd.filter (scrubF c.e c.fd)) := fun f hf => hin f (List.mem_filter.1 hf).1
  have hA : InD v.D (c.fd.filter (antiF c.e)) := fun f hf => hin f (List.mem_filter.1 hf).1
  have hw1 := fen_wl hc hS
  have hc1 := wiped_calm hc fun f hf => (hS f hf).1
  have hA1 : InD ((wl v.D (c.fd.filter (scrubF c.e c.fd))).map fenB) (c.fd.filter (antiF c.e)) := fun f hf => by rw [hw1.len]; exact hA f hf
  have hw2 := hw1.app (fen_wl hc1 hA1)
  have hc2 := wiped_calm hc1 fun f hf => (hA f hf).1
  rw [hC.p5 (by omega) (by omega), cut_calm hc2]
  unfold fdA kpA
  rw [hw2.len, fds_wl (M := slabsF v.D.length * 8) hw2 (fun f hf => by
    rw [← hfd]
    rcases List.mem_append.1 hf with h8 | h8 <;> exact (List.mem_filter.1 h8).1)]
  unfold decK
  rw [← he.2]
  unfold fdA
  rw [← hfd]
  refine List.filter_congr fun f hf => ?_
  cases hkf : keepF c.e c.fd f with
  | true =>
    obtain ⟨a, b⟩ := keep_not hkf
    rw [decide_eq_false]
    · rfl
    · intro h8
      rcases List.mem_append.1 h8 with h9 | h9
      · rw [(List.mem_filter.1 h9).2] at a; cases a
      · rw [(List.mem_filter.1 h9).2] at b; cases b
  | false =>
    rw [decide_eq_true]
    · rfl
    · cases ha : antiF c.e f with
      | true => exact List.mem_append_right _ (List.mem_filter.2 ⟨hf, ha⟩)
      | false => exact List.mem_append_left _ (List.mem_filter.2 ⟨hf, by unfold scrubF; rw [ha, hkf]; rfl⟩)
/-- A block that is kept lies on the device. -/
theorem kp_dec {D : List Ce} {f : Fnd} (h : f ∈ kpA D) : f.good = true ∧ decF (linesL D f.line (spanF f.b.cls)) = some f.b := by
  obtain ⟨h1, h2⟩ := List.mem_filter.1 h
  have hg : f.good = true := by
    have h3 := (keep_pay h2).1
    unfold payF soundF at h3
    simp only [Bool.and_eq_true] at h3
    exact h3.1.1
  refine ⟨hg, ?_⟩
  obtain ⟨i, _, hi⟩ := fds_mem.1 h1
  obtain ⟨c, kd, hh, _, hf⟩ := scN_head hi
  have hl := scN_line hi
  unfold lookF at hf
  split at hf
  · cases hd : decF (linesL D (2 + (i : Nat)) (spanF ((c : Nat) : Int))) with
    | none => rw [hd] at hf; rw [hf] at hg; cases hg
    | some b =>
      rw [hd] at hf
      have hb : f.b = b := by rw [hf]
      have h8 := lines_take (D := D) (line := 2 + (i : Nat)) (n := spanF (c : Nat)) (by have := (head_some hh).2.1; omega) (head_some hh).1
      have h9 := (dec_len (by rw [h8]; exact hh) hd).1
      have hc : f.b.cls = (c : Nat) := by rw [hb, h9]; rfl
      rw [hc, hl, hb]; exact hd
  · rw [hf] at hg; cases hg
end G
end Go.Proofs.YtcnjjefbnlgdjaaGreat

/-
  DERIVED: THE SHELF's CONTRACTS AT THIS DUMP, IN PLAIN WORDS (tools/lay-plain.mjs out of 'TryzShelf.lean', which tools/lay-shelf.mjs wrote): THE SAME DECLARATIONS UNDER THE SAME NAMES: 'import', 'namespace', 'open', 'def', 'theorem' AND NOTHING ELSE: no command of the shelf's: FOR A HAND-IN. Each laying: the table of numbers ('.._ren') and one theorem, a field a fact of the dump's own or the kernel's comparison; each contract: ONE APPLICATION.
-/
namespace Go.Proofs
open Go.Shelf
def Tryz.lays213_ren : Go.Shelf.Ren := ⟨fun | 213 => 105 | 265 => 141 | n => n, fun | 9 => 9 | 3 => 3 | n => n, fun | n => n⟩
theorem Tryz.lays213 : Go.Proofs.Lays.n213 Tryz.prog Tryz.lays213_ren := {
  mixed := by kernel_rfl
  f213 := Tryz.func105.trans (congrArg some (by kernel_rfl))
  f265 := Tryz.func141.trans (congrArg some (by kernel_rfl))
  t3 := Tryz.underlying3
  a3 := Tryz.isAgg3
  z3 := Tryz.sizeOf3
  v3 := Tryz.zeroValue3
  t9 := Tryz.underlying9
  a9 := Tryz.isAgg9
  z9 := Tryz.sizeOf9
  v9 := Tryz.zeroValue9 }
open Go.RowKit in
/-- internal/bytealg.CompareString (what strings.Compare calls): IT RETURNS 'Lib.compareBytes a b'; the world is as it was. (LAID: no walk: one application.) -/
theorem Tryz.bytealg_CompareString (a b : ByteArray) (w : World) :
    Calls Tryz.prog 105 #[.string a, .string b] w fun e w' => e = .returned (.int .i64 (Lib.compareBytes a.data.toList b.data.toList)) ∧ w' = w := Any.bytealg_CompareString Tryz.lays213 a b w
def Tryz.lays106_ren : Go.Shelf.Ren := ⟨fun | 106 => 78 | 213 => 105 | 265 => 141 | n => n, fun | 9 => 9 | 3 => 3 | n => n, fun | n => n⟩
theorem Tryz.lays106 : Go.Proofs.Lays.n106 Tryz.prog Tryz.lays106_ren := {
  mixed := by kernel_rfl
  f106 := Tryz.func78.trans (congrArg some (by kernel_rfl))
  f213 := Tryz.func105.trans (congrArg some (by kernel_rfl))
  f265 := Tryz.func141.trans (congrArg some (by kernel_rfl))
  t3 := Tryz.underlying3
  a3 := Tryz.isAgg3
  z3 := Tryz.sizeOf3
  v3 := Tryz.zeroValue3
  t9 := Tryz.underlying9
  a9 := Tryz.isAgg9
  z9 := Tryz.sizeOf9
  v9 := Tryz.zeroValue9 }
open Go.RowKit in
/-- strings.Compare: "Compare returns an integer comparing two strings lexicographically. The result will be 0 if a == b, -1 if a < b, and +1 if a > b.": IT RETURNS 'Lib.compareBytes a b'; the world is as it was. (LAID: no walk: one application.) -/
theorem Tryz.strings_Compare (a b : ByteArray) (w : World) :
    Calls Tryz.prog 78 #[.string a, .string b] w fun e w' => e = .returned (.int .i64 (Lib.compareBytes a.data.toList b.data.toList)) ∧ w' = w := Any.strings_Compare Tryz.lays106 a b w
def Tryz.sortF76_ren : Go.Shelf.Ren := ⟨fun | 6 => 76 | 15 => 104 | 14 => 103 | 28 => 139 | 29 => 140 | 20 => 131 | 21 => 132 | 22 => 133 | 23 => 134 | 24 => 135 | 25 => 136 | 26 => 137 | 27 => 138 | 46 => 166 | 47 => 167 | 48 => 168 | 49 => 169 | 50 => 170 | 57 => 182 | n => n, fun | 22 => 128 | 24 => 133 | 25 => 175 | 3 => 3 | 39 => 119 | 0 => 0 | 53 => 103 | 55 => 22 | 4 => 4 | 46 => 224 | 45 => 223 | 50 => 208 | 5 => 5 | 9 => 9 | 66 => 264 | 70 => 267 | 76 => 287 | 77 => 288 | n => n, fun | n => n⟩
theorem Tryz.sortF76 : Go.Proofs.SlLaysF0.n6 Tryz.prog Tryz.sortF76_ren := {
  mixed := by kernel_rfl
  f6 := ⟨Tryz.f76.name, by decide, Tryz.func76.trans (congrArg some (by kernel_rfl))⟩
  f14 := ⟨Tryz.f103.name, by decide, Tryz.func103.trans (congrArg some (by kernel_rfl))⟩
  f15 := Tryz.func104.trans (congrArg some (by kernel_rfl))
  f20 := ⟨Tryz.f131.name, by decide, Tryz.func131.trans (congrArg some (by kernel_rfl))⟩
  f21 := ⟨Tryz.f132.name, by decide, Tryz.func132.trans (congrArg some (by kernel_rfl))⟩
  f22 := ⟨Tryz.f133.name, by decide, Tryz.func133.trans (congrArg some (by kernel_rfl))⟩
  f23 := ⟨Tryz.f134.name, by decide, Tryz.func134.trans (congrArg some (by kernel_rfl))⟩
  f24 := ⟨Tryz.f135.name, by decide, Tryz.func135.trans (congrArg some (by kernel_rfl))⟩
  f25 := ⟨Tryz.f136.name, by decide, Tryz.func136.trans (congrArg some (by kernel_rfl))⟩
  f26 := ⟨Tryz.f137.name, by decide, Tryz.func137.trans (congrArg some (by kernel_rfl))⟩
  f27 := ⟨Tryz.f138.name, by decide, Tryz.func138.trans (congrArg some (by kernel_rfl))⟩
  f28 := Tryz.func139.trans (congrArg some (by kernel_rfl))
  f29 := Tryz.func140.trans (congrArg some (by kernel_rfl))
  f46 := ⟨Tryz.f166.name, by decide, Tryz.func166.trans (congrArg some (by kernel_rfl))⟩
  f47 := Tryz.func167.trans (congrArg some (by kernel_rfl))
  f48 := Tryz.func168.trans (congrArg some (by kernel_rfl))
  f49 := ⟨Tryz.f169.name, by decide, Tryz.func169.trans (congrArg some (by kernel_rfl))⟩
  f50 := ⟨Tryz.f170.name, by decide, Tryz.func170.trans (congrArg some (by kernel_rfl))⟩
  f57 := ⟨Tryz.f182.name, by decide, Tryz.func182.trans (congrArg some (by kernel_rfl))⟩
  t0 := Tryz.underlying0
  a0 := Tryz.isAgg0
  z0 := Tryz.sizeOf0
  v0 := Tryz.zeroValue0
  t3 := Tryz.underlying3
  a3 := Tryz.isAgg3
  z3 := Tryz.sizeOf3
  v3 := Tryz.zeroValue3
  t4 := Tryz.underlying4
  a4 := Tryz.isAgg4
  z4 := Tryz.sizeOf4
  v4 := Tryz.zeroValue4
  t5 := Tryz.underlying5
  a5 := Tryz.isAgg5
  z5 := Tryz.sizeOf5
  v5 := Tryz.zeroValue5
  t9 := Tryz.underlying9
  a9 := Tryz.isAgg9
  z9 := Tryz.sizeOf9
  v9 := Tryz.zeroValue9
  t22 := Tryz.underlying128
  a22 := Tryz.isAgg128
  z22 := Tryz.sizeOf128
  v22 := Tryz.zeroValue128
  t25 := Tryz.underlying175
  a25 := Tryz.isAgg175
  z25 := Tryz.sizeOf175
  v25 := Tryz.zeroValue175
  t39 := Tryz.underlying119
  a39 := Tryz.isAgg119
  z39 := Tryz.sizeOf119
  v39 := Tryz.zeroValue119
  t45 := Tryz.underlying223
  a45 := Tryz.isAgg223
  z45 := Tryz.sizeOf223
  v45 := Tryz.zeroValue223
  t46 := Tryz.underlying224
  a46 := Tryz.isAgg224
  z46 := Tryz.sizeOf224
  v46 := Tryz.zeroValue224
  t50 := Tryz.underlying208
  a50 := Tryz.isAgg208
  z50 := Tryz.sizeOf208
  v50 := Tryz.zeroValue208
  t53 := Tryz.underlying103
  a53 := Tryz.isAgg103
  z53 := Tryz.sizeOf103
  v53 := Tryz.zeroValue103
  t55 := Tryz.underlying22
  a55 := Tryz.isAgg22
  z55 := Tryz.sizeOf22
  v55 := Tryz.zeroValue22
  t66 := Tryz.underlying264
  a66 := Tryz.isAgg264
  z66 := Tryz.sizeOf264
  v66 := Tryz.zeroValue264
  t70 := Tryz.underlying267
  a70 := Tryz.isAgg267
  z70 := Tryz.sizeOf267
  v70 := Tryz.zeroValue267
  t76 := Tryz.underlying287
  a76 := Tryz.isAgg287
  z76 := Tryz.sizeOf287
  v76 := Tryz.zeroValue287
  t77 := Tryz.underlying288
  a77 := Tryz.isAgg288
  z77 := Tryz.sizeOf288
  v77 := Tryz.zeroValue288 }
end Go.Proofs

/- The table by text: all links, by rising keys. -/
namespace Go.Proofs.YtcnjjefbnlgdjaaGreat
open Go Go.RowKit V
set_option linter.unusedVariables false
set_option maxRecDepth 100000
namespace G
open V (str byC ownV ownG ownS ownOk)
instance : Cal Tryz.prog 76 := ⟨Tryz.call76⟩
instance : Inhabited Lk := ⟨lk0⟩
theorem cmpB_lt : ∀ a b : List UInt8, Go.Lib.compareBytes a b < 0 ↔ a < b
  | [], [] => by simp [Go.Lib.compareBytes]
  | [], _ :: _ => by simp [Go.Lib.compareBytes]
  | _ :: _, [] => by simp [Go.Lib.compareBytes]
  | a :: x, b :: y => by
    have ih := cmpB_lt x y
    unfold Go.Lib.compareBytes
    rw [List.cons_lt_cons_iff]
    by_cases h1 : a < b
    · simp [h1]
    · by_cases h2 : b < a
      · have h3 : a ≠ b := fun e => by subst e; exact UInt8.lt_irrefl a h2
        simp [h1, h2, h3]
      · have h3 : a = b := UInt8.toNat_inj.1 (by rw [UInt8.lt_iff_toNat_lt] at h1 h2; omega)
        subst h3
        simp [h1, ih]
def cfL (x y : Lk) : Int := Go.Lib.compareBytes (byK x.key).data.toList (byK y.key).data.toList
theorem lt_cfL (x y : Lk) : Go.Proofs.ltOf cfL x y = decide (x.key < y.key) := by
  unfold Go.Proofs.ltOf
  exact decide_eq_decide.2 (cmpB_lt x.key y.key)
theorem swoL : Go.Sort.SWO (Go.Proofs.ltOf cfL) where
  irrefl x := by rw [lt_cfL]; simp
  trans x y z h1 h2 := by
    rw [lt_cfL] at *
    simp only [decide_eq_true_eq] at *
    exact List.lt_trans h1 h2
  ntrans x y z h1 h2 := by
    rw [lt_cfL] at *
    simp only [decide_eq_false_iff_not, List.not_lt] at *
    exact List.le_trans h2 h1
set_option maxHeartbeats 1000000 in
theorem cmp77_c (x y : Lk) (W : World) : Calls Tryz.prog 77 #[.agg #[.string (byK x.key), .int .u64 x.id, .int .u64 x.ver, .int .i64 x.line, .int .i64 x.cls], .agg #[.string (byK y.key), .int .u64 y.id, .int .u64 y.ver, .int .i64 y.line, .int .i64 y.cls]] W fun e w' => e = .returned (.int .i64 (cfL x y)) ∧ ∃ q os', w' = Go.Sort.grow (W.drewN q) os' := by
  have hcon := fun W' => Tryz.strings_Compare (byK x.key) (byK y.key) W'
  unfold cfL
  generalize Go.Lib.compareBytes (byK x.key).data.toList (byK y.key).data.toList = r at hcon ⊢
  go_enter Tryz.func77, Tryz.ntmps77
  go_wp2_with (go_at_call 78; refine (hcon _).mono ?_; rintro e w' ⟨rfl, rfl⟩)
  go_ret
  exact ⟨rfl, 0, _, by rw [Go.Sort.alloc_eq_grow, Go.Sort.alloc_eq_grow, Go.Sort.grow_grow]; rfl⟩
def UpL (L : List Lk) : Prop := L.Pairwise fun a b => ¬ b.key < a.key
theorem upL_of {L : List Lk} (h : Go.Sort.SortedIn (Go.Proofs.ltOf cfL) 0 L.length L.toArray) : UpL L := by
  refine List.pairwise_iff_getElem.2 fun i j hi hj hij => ?_
  have := h i j (Nat.zero_le _) hij hj
  rw [lt_cfL] at this
  simp only [decide_eq_false_iff_not] at this
  have e1 : (L.toArray[i]! : Lk) = L[i] := by simp [hi]
  have e2 : (L.toArray[j]! : Lk) = L[j] := by simp [hj]
  rwa [e1, e2] at this
theorem sortL_c (o : V.OwnO) (L : List Lk) (hok : ownOk 5 L.length (L.flatMap lkC) o) (hl : L.length ≤ 100000) (w : World) (hs : Sat [ownG 133 (L.flatMap lkC) o] w) : Calls Tryz.prog 76 [ownV L.length o, .func (.func 77) #[] #[]].toArray w fun e w' => ∃ L' : List Lk, (L'.Perm L ∧ UpL L') ∧ e = .returned (.tuple #[]) ∧ Hp ⟨w, ids [ownG 133 (L.flatMap lkC) o]⟩ [ownG 133 (L'.flatMap lkC) o] w' := by
  rcases o with _ | ⟨g, rest, cap⟩
  · have h0 : L.length = 0 := hok.2
    have : L = [] := List.length_eq_zero_iff.1 h0
    subst this
    refine (AnyF.slices_SortFunc_none Tryz.sortF76 none 0 (.func (.func 77) #[] #[]) w).mono fun e w' ⟨h1, h2⟩ => ⟨[], ⟨.refl _, .nil⟩, h1, ?_⟩
    subst h2
    exact ⟨rfl, rfl, rfl, Nat.le_refl _, fun _ _ _ => rfl, by simp [ownG, V.ownS], by simp [ownG, V.ownS], by simp [ownG, V.ownS]⟩
  · have hown : w.heap[g]? = some (.cells (L.flatMap lkC ++ rest).toArray 133 (0, 0)) := hs.own (g, .cells (L.flatMap lkC ++ rest).toArray 133 (0, 0)) (by simp [ownG, V.ownS])
    have eg : ∀ args w, (callFunc 77 args).run Tryz.prog w = .ok (.enter 77 args) w := enters_of Tryz.func77 (by kernel_rfl) rfl
    have hcon := AnyQ.slices_SortFunc Tryz.sortF76 5 Tryz.isAgg133 Tryz.sizeOf133 lkC (fun _ => rfl) (fun x v hv => by simp [lkC] at hv; rcases hv with rfl | rfl | rfl | rfl | rfl <;> rfl) cfL swoL 77 #[] g 0 cap L.toArray w eg (fun _ _ _ _ x y => cmp77_c x y _) (V.holdsK_own (enc := lkC) (k := 5) (fun _ => rfl) L rest hown) (V.lt_of_some hown) (by simp; omega)
    change Calls Tryz.prog 76 _ _ _ at hcon
    refine hcon.mono fun e w' ⟨h1, d', m, os, hp, hso, hw⟩ => ?_
    obtain ⟨h2, _, h4⟩ := hp
    simp only [List.size_toArray] at h2 h4 hso
    have h5 : d'.toList.length = L.length := by simpa using h2
    have h6 : d'.toList.Perm L := by
      have e1 : d'.extract 0 L.length = d' := by rw [← h2]; simp
      have e2 : L.toArray.extract 0 L.length = L.toArray := by simp
      rw [e1, e2] at h4
      simpa using h4
    refine ⟨d'.toList, ⟨h6, upL_of (by rw [h5]; simpa using hso)⟩, h1, ?_⟩
    subst hw
    have h7 := V.sorted_hp (enc := lkC) (k := 5) (T := 133) (g := g) (m := m) (fun _ => rfl) L d'.toList h5 rest os hown
    simp only [Array.toArray_toList] at h7
    simpa [ownG, V.ownS, ids] using h7
/-- The links of a table, bucket by bucket. -/
def tLinks (Tz : Tbl) : List Lk := Tz.flatMap fun p => p.1.map (·.2)
/-- Its stamps. -/
def tStp (Tz : Tbl) : Prop := ∀ p ∈ Tz, V.Stp (me p.1) p.2
def unW (v : Value) : Lk := match v with
  | .agg a => match a.toList with
    | [.string k, .int _ i, .int _ v, .int _ l, .int _ c] => ⟨k.data.toList, i, v, l, c⟩
    | _ => lk0
  | _ => lk0
theorem unW_lk (x : Lk) : unW (lkW x) = x := rfl
theorem me_un (E : LE) : (me E).map (fun e => unW e.2.2) = E.map (·.2) := by
  unfold me
  rw [List.map_map]
  exact List.map_congr_left fun e _ => unW_lk e.2
theorem me_app (E F : LE) : me (E ++ F) = me E ++ me F := by unfold me; exact List.map_append
theorem tLinks_take {Tz : Tbl} {k : Nat} {p : LE × Nat} (h : Tz[k]? = some p) : tLinks (Tz.take (k + 1)) = tLinks (Tz.take k) ++ p.1.map (·.2) := by
  unfold tLinks
  rw [List.take_add_one, h, Option.toList_some, List.flatMap_append, List.flatMap_singleton]
theorem tLinks_le {Tz : Tbl} (k : Nat) : (tLinks (Tz.take k)).length ≤ (tLinks Tz).length := by
  have e : tLinks Tz = tLinks (Tz.take k) ++ tLinks (Tz.drop k) := by
    unfold tLinks
    rw [← List.flatMap_append, List.take_append_drop]
  rw [e, List.length_append]; omega
theorem tbC_len (ms : List Nat) : (tbC ms).length = ms.length := by unfold tbC; rw [List.length_map]
theorem tbC_get {ms : List Nat} {i m : Nat} (h : ms[i]? = some m) : (tbC ms)[i]? = some (.map (some m)) := by
  have h8 := tbC_at h
  simpa using h8
theorem all_g (tb : Nat) (ms : List Nat) (Tz : Tbl) (hT : tbOk ms Tz) (hst : tStp Tz) (hn : (tLinks Tz).length ≤ 1000) (w : World) (hs : Sat (tbS tb ms Tz) w) : Calls Tryz.prog 52 [.pointer (some ⟨tb, 0, none⟩)].toArray w fun e w' => ∃ y : V.OwnO × List Lk, (y.2.Perm (tLinks Tz) ∧ UpL y.2 ∧ ownOk 5 y.2.length (y.2.flatMap lkC) y.1) ∧ e = .returned (ownV y.2.length y.1) ∧ Hp ⟨w, V.ids ((tbS tb ms Tz))⟩ (ownG 133 (y.2.flatMap lkC) y.1 :: tbS tb ms Tz) w' := by
  refine V.calls (tbS tb ms Tz) Tryz.func52 rfl Tryz.ntmps52 (Nat.le_of_ble_eq_true rfl) hs <| Sq <| Rg <| Lv Av <| Nl <| Ps <| Sq <| Rg <| Lv Av <| Nl <| Ps <| Sq <| Sq <| Rg <| Lv Mv <| Lv EP <| Nl <| Ps <| Cf <| Sk <| Ps <| Sq <| Sq <| Rg <| Lv Mv <| Lv Nz <| Lv (Fa 0 170) <| Lv (La (tbC ms) (r := []) (hl := by simp) (hs := by rw [tbC_len, hT.1]; exact Tryz.sizeOf170)) <| Lv Mv <| Nl <| Ps <| Bk ?_
  refine V.CW.perm (sg' := ownG 133 ([].flatMap lkC) none :: tbS tb ms Tz) ?_ (by simp [V.ownG_none])
  refine loopA (γ := Nat × V.OwnO × List Lk) (fun k => [(3, ownV k.2.2.length k.2.1), (14, .agg (tbC ms).toArray), (15, .int .i64 (k.1 : Nat))]) (fun k => ownG 133 (k.2.2.flatMap lkC) k.2.1 :: tbS tb ms Tz) (fun k => k.1 ≤ 8 ∧ k.2.2.Perm (tLinks (Tz.take k.1)) ∧ ownOk 5 k.2.2.length (k.2.2.flatMap lkC) k.2.1) (fun k => 8 - k.1) ((0, none, [])) ⟨Nat.zero_le _, by simp [tLinks], ⟨rfl, rfl⟩⟩ fun k => ?_
  rintro ⟨hk1, hk2, hk3⟩
  refine Sq <| Rg <| Lv Cm <| Nl <| Ps <| Sq ?_
  refine CW.cond rfl (fun h16 => ?_) (fun h16 => ?_)
  · replace h16 := bT h16
    have hbk : k.1 < 8 := by omega
    obtain ⟨m, hm⟩ : ∃ m, ms[k.1]? = some m := ⟨ms[k.1]'(by rw [hT.1]; omega), by simp⟩
    obtain ⟨p, hp⟩ : ∃ p, Tz[k.1]? = some p := ⟨Tz[k.1]'(by rw [hT.2]; omega), by simp⟩
    have hsp := hst p (List.mem_of_getElem? hp)
    have htk := tLinks_take hp
    have htl := tLinks_le (Tz := Tz) (k.1 + 1)
    refine Sk <| Ps <| Sq <| Bk <| Sq <| Rg <| Lv (Val.indexArr (i := k.1) rfl rfl Tryz.underlying170 Tryz.sizeOf169 Tryz.isAgg169 (by omega) (tbC_get hm)) <| Lv Av <| Nl <| Ps <| Sq <| Rg <| Lv Mv <| Le (Eff.range (E := me p.1) (c := p.2) rfl Tryz.underlying169 (by repeat (first | exact InS.nth (tbM_at hm hp) | refine .there ?_))) fun b19 _ => Nl <| Ps <| Bk <| loopA (γ := V.OwnO × List Lk × LE) (fun j => [(3, ownV j.2.1.length j.1), (14, .agg (tbC ms).toArray), (15, .int .i64 (k.1 : Nat)), (19, .pointer (some ⟨b19, 0, none⟩))]) (fun j => ownG 133 (j.2.1.flatMap lkC) j.1 :: [(b19, V.itO m p.2 (me j.2.2))] :: tbS tb ms Tz) (fun j => V.Vis (me p.1) (me j.2.2) ∧ j.2.1 = k.2.2 ++ j.2.2.map (·.2) ∧ ownOk 5 j.2.1.length (j.2.1.flatMap lkC) j.1) (fun j => (me p.1).length - (me j.2.2).length) ((k.2.1, k.2.2, [])) ⟨V.Vis.nil _, by simp, hk3⟩ fun j => ?_
    rintro ⟨hv, hjv, hj3⟩
    have hjl : j.2.1.length ≤ 2000 := by
      have h1 := congrArg List.length hjv
      have h2 := hk2.length_eq
      have h3 := tLinks_le (Tz := Tz) k.1
      have h4 := hv.le
      have h5 := congrArg List.length htk
      simp only [me, List.length_map, List.length_append] at h1 h4 h5
      omega
    refine Sq <| Rg <| Le (Eff.next (E := me p.1) (D := me j.2.2) rfl (by repeat (first | exact InS.nth (tbM_at hm hp) | refine .there ?_)) hsp (fun e => (by repeat (first | exact .here | exact .inner .here | exact .inner (.inner .here) | apply Upd.there)))) fun oe he => ?_
    rcases oe with _ | e
    · dsimp only at he ⊢
      refine Lv Ex <| Nl <| Ps <| Sq <| Cf <| Xt <| Te <| Te <| Bh <| Bn <| Ps <| Rg <| Lv Ar <| Lv Mv <| Nl ?_
      exact roundA ((k.1 + 1, j.1, j.2.1)) ⟨by simp only; omega, by simp only; rw [htk, hjv]; refine hk2.append ?_; have h8 := (hv.perm hsp.nd he).map fun e => unW e.2.2; rw [me_un, me_un] at h8; exact h8, hj3⟩ (by simp only; omega)
    · dsimp only at he ⊢
      obtain ⟨x, hx1, hx2⟩ := List.mem_map.1 (show e ∈ List.map _ p.1 from he.1)
      have hvl := hv.lt he.1 he.2
      subst hx2
      refine Lv Ex <| Nl <| Ps <| Sq <| Ct <| Sk <| Ps <| Bk <| Sq <| Rg <| Lv (Val.entry rfl (by repeat (first | exact .here | exact .inner .here | exact .inner (.inner .here) | refine .there ?_)) (by repeat (first | exact InS.nth (tbM_at hm hp) | refine .there ?_)) he.1 hsp.nd) <| Lv Ex <| LW.re 23 (.agg (lkC x.2).toArray) rfl (by rfl) <| Le AA fun b7 _ => LeN StW fun _ _ => Nl <| Ps <| Rg <| Lv Mv <| Lv Lw <| Le (Eff.buildSlice (rfl) [_, _, _, _, _] Tryz.underlying128 Tryz.sizeOf133 (by exact Tryz.zeroValue133) rfl rfl rfl rfl (by rfl)) fun b26 _ => Le (Eff.appendAny (lkC x.2) (sz := 5) (bytes := 48) (z := .agg #[.string ⟨#[]⟩, .int .u64 0, .int .u64 0, .int .i64 0, .int .i64 0]) (xs := j.2.1.flatMap lkC) (m0 := j.2.1.length) (o := j.1) (m := 1) (pk := [ownG 133 (j.2.1.flatMap lkC) (j.1)]) rfl rfl Tryz.underlying128 (by kernel_rfl) rfl (by omega) (by repeat (first | exact .nil | apply Pick.cons | exact .here | apply Ext.there)) (by simp) hj3 (by rfl) (fun hm0 => ⟨b26, 0, rfl, fun w hw => V.range_of_block (o := 0) (cs := lkC x.2) (r := []) (hw.own _ (show InS (b26, .cells (lkC x.2).toArray 133 (0, 0)) _ from (by repeat (first | exact .here | exact .inner .here | exact .inner (.inner .here) | refine .there ?_))).mem) rfl⟩) (by rfl) (by omega) (by omega)) fun o2 ho2 => Lv Av <| Nl <| Bn ?_
      have e1 : (j.2.1 ++ [x.2]).flatMap lkC = j.2.1.flatMap lkC ++ lkC x.2 := by simp
      have e2 : (j.2.1 ++ [x.2]).length = j.2.1.length + 1 := by simp
      have e3 : me (j.2.2 ++ [x]) = me j.2.2 ++ [(x.1, byK x.2.key, lkW x.2)] := me_app _ _
      rw [← e1, ← e2, ← e3]
      exact roundA ((o2, j.2.1 ++ [x.2], j.2.2 ++ [x])) ⟨by rw [me_app]; exact hv.snoc he.1 he.2, by simp only; rw [hjv]; simp, by simpa using ho2⟩ (by simp only [me_app, List.length_append]; simp only [me, List.map_cons, List.map_nil, List.length_singleton] at hvl ⊢; omega)
  · replace h16 := bF h16
    refine Xt <| Te <| Te <| Bh <| Ps <| Sq <| Rg <| Lv Mv <| Le (CM ([ownG 133 (k.2.2.flatMap lkC) k.2.1]) fun w hw hs0 => sortL_c k.2.1 k.2.2 hk3 (by have h2 := hk2.length_eq; have h3 := tLinks_le (Tz := Tz) k.1; omega) w hs0) fun L2 hL2 => Nl <| Ps <| Sq <| Rg <| Lv Mv <| Lv Av <| Nl <| Ps <| Rt <| Rt1 fun w' hw => ?_
    have hk8 : k.1 = 8 := by omega
    rw [hk8, List.take_of_length_le (by rw [hT.2]; omega)] at hk2
    have hll := hL2.1.length_eq
    refine ⟨(k.2.1, L2), ⟨hL2.1.trans hk2, hL2.2, ⟨by rw [V.flatMap_len (k := 5) (fun _ => rfl)], ?_⟩⟩, by rw [hll], ?_⟩
    · have h1 := hk3.2
      have h2 := hk3.1
      rw [V.flatMap_len (enc := lkC) (k := 5) (fun _ => rfl) L2, hll]
      rw [h2] at h1
      exact h1
    · exact hw.pick (by repeat (first | exact .nil | apply Pick.cons | exact .here | apply Ext.there))
end G
end Go.Proofs.YtcnjjefbnlgdjaaGreat

/- An arena: what it holds. -/
namespace Go.Proofs.YtcnjjefbnlgdjaaGreat
open Go Go.RowKit V
set_option linter.unusedVariables false
set_option maxRecDepth 100000
namespace G
open V (str byC ownV ownG ownS ownOk)
theorem places137 : ∀ w, ((Array.mapM (fun (f : Field) => do pure (f.offset, ← sizeOf f.type)) (Tryz.prog.fieldsOf 137) : Sem (Array (Nat × Nat)))).run Tryz.prog w = .ok [(0, 1), (1, 1)].toArray w := by
  intro w; kernel_rfl
instance : Und Tryz.prog 58 (dOf Tryz.underlying58) := ⟨Tryz.underlying58⟩
instance : Siz Tryz.prog 58 (kOf Tryz.sizeOf58) := ⟨Tryz.sizeOf58⟩
instance : AgF Tryz.prog 58 := ⟨Tryz.isAgg58⟩
instance : Zer Tryz.prog 58 (zOf Tryz.zeroValue58) := ⟨Tryz.zeroValue58⟩
instance : Und Tryz.prog 59 (dOf Tryz.underlying59) := ⟨Tryz.underlying59⟩
instance : Siz Tryz.prog 59 (kOf Tryz.sizeOf59) := ⟨Tryz.sizeOf59⟩
instance : AgF Tryz.prog 59 := ⟨Tryz.isAgg59⟩
instance : Zer Tryz.prog 59 (zOf Tryz.zeroValue59) := ⟨Tryz.zeroValue59⟩
instance : Und Tryz.prog 61 (dOf Tryz.underlying61) := ⟨Tryz.underlying61⟩
instance : Siz Tryz.prog 61 (kOf Tryz.sizeOf61) := ⟨Tryz.sizeOf61⟩
instance : AgT Tryz.prog 61 := ⟨Tryz.isAgg61⟩
instance : Zer Tryz.prog 61 (zOf Tryz.zeroValue61) := ⟨Tryz.zeroValue61⟩
instance : Und Tryz.prog 137 (dOf Tryz.underlying137) := ⟨Tryz.underlying137⟩
instance : Siz Tryz.prog 137 (kOf Tryz.sizeOf137) := ⟨Tryz.sizeOf137⟩
instance : AgT Tryz.prog 137 := ⟨Tryz.isAgg137⟩
instance : Zer Tryz.prog 137 (zOf Tryz.zeroValue137) := ⟨Tryz.zeroValue137⟩
instance : Plc Tryz.prog 137 (fOf Tryz.underlying137) (lOf (P := Tryz.prog) places137) := ⟨places137, Tryz.underlying137⟩
instance : Cal Tryz.prog 51 := ⟨Tryz.call51⟩
instance : Cal Tryz.prog 52 := ⟨Tryz.call52⟩
instance : Cal Tryz.prog 53 := ⟨Tryz.call53⟩
instance : Cal Tryz.prog 54 := ⟨Tryz.call54⟩
instance : Cal Tryz.prog 55 := ⟨Tryz.call55⟩
instance : Cal Tryz.prog 80 := ⟨Tryz.call80⟩
instance : Cal Tryz.prog 108 := ⟨Tryz.call108⟩
theorem atable_g (x : ArR) (s : ArS) (w : World) (ha : w.heap[x.a]? = some (.cells (arC x s).toArray 151 (0, 0))) : Calls Tryz.prog 51 [.pointer (some ⟨x.a, 0, none⟩)].toArray w fun e w' => e = .returned (.pointer (some ⟨x.tb, 0, none⟩)) ∧ Below w.heap.size w w' := by
  refine V.calls [] Tryz.func51 rfl Tryz.ntmps51 (Nat.le_of_ble_eq_true rfl) (V.sat_nil _) <| Sq <| Rg <| Lv Av <| Nl <| Ps <| Sq <| Sq <| Rg <| Lv Mv <| Lv EP <| Nl <| Ps <| Cf <| Sk <| Ps <| Sq <| Rg <| Lv Mv <| Lv Nz <| Lv (Fa 5 129) <| Lv (Val.loadO rfl Tryz.isAgg129 (V.lt_of_some ha) (by simp [ids]) (V.cell_of_block ha rfl)) <| Lv Av <| Nl <| Ps <| Rt <| Rt1 ?_
  intro w' hw; exact ⟨rfl, hw.below⟩
theorem aline_g (x : ArR) (s : ArS) (w : World) (ha : w.heap[x.a]? = some (.cells (arC x s).toArray 151 (0, 0))) : Calls Tryz.prog 54 [.pointer (some ⟨x.a, 0, none⟩)].toArray w fun e w' => e = .returned (.pointer (some ⟨x.fb, 0, none⟩)) ∧ Below w.heap.size w w' := by
  refine V.calls [] Tryz.func54 rfl Tryz.ntmps54 (Nat.le_of_ble_eq_true rfl) (V.sat_nil _) <| Sq <| Rg <| Lv Av <| Nl <| Ps <| Sq <| Sq <| Rg <| Lv Mv <| Lv EP <| Nl <| Ps <| Cf <| Sk <| Ps <| Sq <| Rg <| Lv Mv <| Lv Nz <| Lv (Fa 7 138) <| Lv (Val.loadO rfl Tryz.isAgg138 (V.lt_of_some ha) (by simp [ids]) (V.cell_of_block ha rfl)) <| Lv Av <| Nl <| Ps <| Rt <| Rt1 ?_
  intro w' hw; exact ⟨rfl, hw.below⟩
theorem apool_g (x : ArR) (s : ArS) (w : World) (ha : w.heap[x.a]? = some (.cells (arC x s).toArray 151 (0, 0))) : Calls Tryz.prog 28 [.pointer (some ⟨x.a, 0, none⟩)].toArray w fun e w' => e = .returned (.pointer (some ⟨x.pb, 0, none⟩)) ∧ Below w.heap.size w w' := by
  refine V.calls [] Tryz.func28 rfl Tryz.ntmps28 (Nat.le_of_ble_eq_true rfl) (V.sat_nil _) <| Sq <| Rg <| Lv Av <| Nl <| Ps <| Sq <| Sq <| Rg <| Lv Mv <| Lv EP <| Nl <| Ps <| Cf <| Sk <| Ps <| Sq <| Rg <| Lv Mv <| Lv Nz <| Lv (Fa 1 67) <| Lv (Val.loadO rfl Tryz.isAgg67 (V.lt_of_some ha) (by simp [ids]) (V.cell_of_block ha rfl)) <| Lv Av <| Nl <| Ps <| Rt <| Rt1 ?_
  intro w' hw; exact ⟨rfl, hw.below⟩
theorem adev_g (x : ArR) (s : ArS) (db : Nat) (w : World) (ha : w.heap[x.a]? = some (.cells (arC x s).toArray 151 (0, 0))) (hd : w.heap[x.dv]? = some (.cells (avC db s).toArray 233 (0, 0))) : Calls Tryz.prog 108 [.pointer (some ⟨x.a, 0, none⟩)].toArray w fun e w' => e = .returned (.pointer (some ⟨db, 0, none⟩)) ∧ Below w.heap.size w w' := by
  refine V.calls [] Tryz.func108 rfl Tryz.ntmps108 (Nat.le_of_ble_eq_true rfl) (V.sat_nil _) <| Sq <| Rg <| Lv Av <| Nl <| Ps <| Sq <| Sq <| Rg <| Lv Mv <| Lv EP <| Lv Mv <| Lv Mv <| Lv Nz <| Lv (Fa 0 142) <| Lv (Val.loadO rfl Tryz.isAgg142 (V.lt_of_some ha) (by simp [ids]) (V.cell_of_block ha rfl)) <| Lv EP <| Lv Pf <| Nl <| Ps <| Cf <| Sk <| Ps <| Sq <| Rg <| Lv Mv <| Lv Nz <| Lv (Fa 0 142) <| Lv (Val.loadO rfl Tryz.isAgg142 (V.lt_of_some ha) (by simp [ids]) (V.cell_of_block ha rfl)) <| Lv Nz <| Lv (Fa 0 26) <| Lv (Val.loadO rfl Tryz.isAgg26 (V.lt_of_some hd) (by simp [ids]) (V.cell_of_block hd rfl)) <| Lv Av <| Nl <| Ps <| Rt <| Rt1 ?_
  intro w' hw; exact ⟨rfl, hw.below⟩
theorem abytes_g (x : ArR) (s : ArS) (xd : DvR) (D : List Ce) (k : Cnt) (line c : Int) (hl : -1000000 ≤ line ∧ line ≤ 1000000) (w : World) (hs : Sat ([(x.a, .cells (arC x s).toArray 151 (0, 0))] :: [(x.dv, .cells (avC xd.db s).toArray 233 (0, 0))] :: dvS xd D k) w) : Calls Tryz.prog 80 [.pointer (some ⟨x.a, 0, none⟩), .int .i64 line, .int .i64 c].toArray w fun e w' => ∃ o : V.OwnO, ownOk 1 (linesL D line (spanF c)).length (byC (linesL D line (spanF c))) o ∧ e = .returned (ownV (linesL D line (spanF c)).length o) ∧ Hp ⟨w, V.ids (([(x.a, .cells (arC x s).toArray 151 (0, 0))] :: [(x.dv, .cells (avC xd.db s).toArray 233 (0, 0))] :: dvS xd D k))⟩ (ownG 5 (byC (linesL D line (spanF c))) o :: ([(x.a, .cells (arC x s).toArray 151 (0, 0))] :: [(x.dv, .cells (avC xd.db s).toArray 233 (0, 0))] :: dvS xd D k)) w' := by
  have hsp8 := span_le c
  refine V.calls ([(x.a, .cells (arC x s).toArray 151 (0, 0))] :: [(x.dv, .cells (avC xd.db s).toArray 233 (0, 0))] :: dvS xd D k) Tryz.func80 rfl Tryz.ntmps80 (Nat.le_of_ble_eq_true rfl) hs <| Sq <| Rg <| Lv Av <| Nl <| Ps <| Sq <| Rg <| Lv Av <| Nl <| Ps <| Sq <| Sq <| Rg <| Lv Mv <| Le (CV fun w hw => span_c c w) fun _ _ => Lv Mv <| Nl <| Ps <| Bk ?_
  refine V.CW.perm (sg' := ownG 5 (byC (linesL D line 0)) none :: ([(x.a, .cells (arC x s).toArray 151 (0, 0))] :: [(x.dv, .cells (avC xd.db s).toArray 233 (0, 0))] :: dvS xd D k)) ?_ (.refl _)
  refine loopA (γ := Nat × V.OwnO) (fun j => [(0, .pointer (some ⟨x.a, 0, none⟩)), (1, .int .i64 line), (7, ownV (linesL D line j.1).length j.2), (12, .int .i64 (spanF c : Nat)), (13, .int .i64 (j.1 : Nat))]) (fun j => ownG 5 (byC (linesL D line j.1)) j.2 :: ([(x.a, .cells (arC x s).toArray 151 (0, 0))] :: [(x.dv, .cells (avC xd.db s).toArray 233 (0, 0))] :: dvS xd D k)) (fun j => j.1 ≤ spanF c ∧ ownOk 1 (linesL D line j.1).length (byC (linesL D line j.1)) j.2) (fun j => spanF c - j.1) ((0, none)) ⟨Nat.zero_le _, rfl, rfl⟩ fun j => ?_
  rintro ⟨hj1, hj2⟩
  have hjl := linesL_le D line j.1
  refine Sq <| Rg <| Lv Cm <| Nl <| Ps <| Sq ?_
  refine CW.cond rfl (fun h14 => ?_) (fun h14 => ?_)
  · replace h14 := bT h14
    refine Sk <| Ps <| Sq <| Bk <| Sq <| Rg <| Lv Mv <| Lv Av <| Nl <| Ps <| Sq <| Rg <| Lv Mv <| Le (CV fun w hw => adev_g x s xd.db w hw.at hw.at) fun _ _ => Lv Mv <| Lv Mv <| Lv Ar <| Le (CM [] fun w hw hs0 => load_g xd D k (line + (j.1 : Nat)) w (hw.sat.pick (ss := dvS xd D k) (by repeat (first | exact .nil | apply Pick.cons | exact .here | apply Ext.there)))) fun o2 ho2 => ?_
    obtain ⟨p2, c2, hv2, hc2, hsrc, hsl2⟩ := own_src ho2
    have hn64 := nowL_le D (line + (j.1 : Nat))
    refine Lv Mv <| Lv Ex <| LW.re 23 (.slice p2 (nowL D (line + (j.1 : Nat))).length c2) rfl hv2 <| Lv Ex <| Lv Av <| Lv Av <| Nl <| Ps <| Rg <| Lv Mv <| Lv Mv <| Le (Eff.appendAny (byC ((nowL D (line + (j.1 : Nat))))) (sz := 1) (bytes := 1) (z := .int .u8 0) (xs := byC ((linesL D line j.1))) (m0 := (linesL D line j.1).length) (o := j.2) (m := (nowL D (line + (j.1 : Nat))).length) (pk := [ownG 5 (byC ((linesL D line j.1))) (j.2)]) rfl rfl Tryz.underlying35 (by kernel_rfl) rfl (by omega) (by repeat (first | exact .nil | apply Pick.cons | exact .here | apply Ext.there)) (by simp) hj2 (by rw [V.byC_len]; omega) (fun hm0 => by obtain ⟨bq, hbq, hrq⟩ := hsrc hm0; exact ⟨bq, 0, hbq, fun w hw => hrq hw (by repeat (first | exact .nil | apply Pick.cons | exact .here | apply Ext.there))⟩) (V.byC_one _) (by omega) (by omega)) fun o3 ho3 => ?_
    rw [← V.byC_append, ← linesL_succ] at *
    refine Lv Av <| Nl <| Bn <| Ps <| Rg <| Lv Ar <| Lv Mv <| Nl ?_
    refine PQ.round ((j.1 + 1, o3)) ⟨by simp only; omega, by simp only; rw [show (linesL D line (j.1 + 1)).length = (linesL D line j.1).length + (nowL D (line + (j.1 : Nat))).length by rw [linesL_succ, List.length_append]]; exact ho3⟩ (by simp only; omega) (by exact ⟨rfl, rfl, congrArg (fun z => some (ownV z o3)) (by simp only; rw [linesL_succ, List.length_append]), rfl, rfl, trivial⟩) (by repeat (first | exact .nil | apply Pick.cons | exact .here | apply Ext.there))
  · replace h14 := bF h14
    have hj9 : j.1 = spanF c := by omega
    obtain ⟨j1, o⟩ := j
    simp only at hj9 hj2
    subst hj9
    refine Xt <| Te <| Te <| Bh <| Ps <| Sq <| Rg <| Lv Mv <| Lv Av <| Nl <| Ps <| Rt <| Rt1 ?_
    intro w' hw; exact ⟨o, hj2, rfl, hw.pick (by repeat (first | exact .nil | apply Pick.cons | exact .here | apply Ext.there))⟩
/-- The block of a link, as it lies on the device; is it the link's? -/
def valB (D : List Ce) (l : Lk) : Blk := (decF (linesL D l.line (spanF l.cls))).getD blk0
def valK (D : List Ce) (l : Lk) (kind : Int) : Bool := (decF (linesL D l.line (spanF l.cls))).isSome && decide ((valB D l).kind = kind) && decide ((valB D l).id = l.id) && decide ((valB D l).ver = l.ver) && decide ((valB D l).key = l.key)
theorem avalue_g (x : ArR) (s : ArS) (xd : DvR) (D : List Ce) (k : Cnt) (l : Lk) (kind : Int) (hl : -1000000 ≤ l.line ∧ l.line ≤ 1000000) (w : World) (hs : Sat ([(x.a, .cells (arC x s).toArray 151 (0, 0))] :: [(x.dv, .cells (avC xd.db s).toArray 233 (0, 0))] :: dvS xd D k) w) : Calls Tryz.prog 53 [.pointer (some ⟨x.a, 0, none⟩), .agg (lkC l).toArray, .int .i64 kind].toArray w fun e w' => e = .returned (.tuple #[str (valB D l).val, .bool (valK D l kind)]) ∧ Below w.heap.size w w' := by
  have hsp8 := span_le l.cls
  have hll8 := linesL_le D l.line (spanF l.cls)
  refine V.calls ([(x.a, .cells (arC x s).toArray 151 (0, 0))] :: [(x.dv, .cells (avC xd.db s).toArray 233 (0, 0))] :: dvS xd D k) Tryz.func53 rfl Tryz.ntmps53 (Nat.le_of_ble_eq_true rfl) hs <| Sq <| Rg <| Le XA fun b4 _ => Lv Av <| Lv Av <| Nl <| Ps <| Sq <| Rg <| Lv Mv <| Lv (Fa 3 3) <| Lv (Ld (v := .int .i64 l.line)) <| Lv (Fa 4 3) <| Lv (Ld (v := .int .i64 l.cls)) <| Le (CM (([(x.a, .cells (arC x s).toArray 151 (0, 0))] :: [(x.dv, .cells (avC xd.db s).toArray 233 (0, 0))] :: dvS xd D k)) fun w hw hs0 => abytes_g x s xd D k l.line l.cls hl w hs0) fun o ho => ?_
  obtain ⟨pd, cd, hvd, hcd, _, hsd⟩ := own_src ho
  refine LW.re 16 (.slice pd (linesL D l.line (spanF l.cls)).length cd) rfl hvd <| Le (CV fun w hw => decode_c (linesL D l.line (spanF l.cls)) pd cd (by omega) hcd w (hsd hw (by repeat (first | exact .nil | apply Pick.cons | exact .here | apply Ext.there)))) fun _ _ => Lv Mv <| Lv Ex <| LW.re 18 (.agg (blC (valB D l)).toArray) rfl (by rfl) <| Lv Ex <| Le AA fun b8 _ => LeN StW fun _ _ => Lv Av <| Nl <| Ps <| Sq <| Qt <| Qv (Fa 6 9) <| Qv (Ld (v := str (valB D l).val)) <| Qv Mv <| Qv Mv ?_
  refine QW.split (d := 23) rfl (fun h23 => ?_) (fun h23 => ?_)
  · replace h23 := bT h23
    refine Qv (Fa 1 3) <| Qv (Ld (v := .int .i64 (valB D l).kind)) <| Qv Mv <| Qv Cm <| Qv Pt <| Qv Mv ?_
    refine QW.split (d := 29) rfl (fun h29 => ?_) (fun h29 => ?_)
    · replace h29 := bT h29
      refine Qv (Fa 2 22) <| Qv (Ld (v := .int .u64 (valB D l).id)) <| Qv (Fa 1 22) <| Qv (Ld (v := .int .u64 l.id)) <| Qv Cm <| Qv Pt <| Qv Mv ?_
      refine QW.split (d := 36) rfl (fun h36 => ?_) (fun h36 => ?_)
      · replace h36 := bT h36
        refine Qv (Fa 3 22) <| Qv (Ld (v := .int .u64 (valB D l).ver)) <| Qv (Fa 2 22) <| Qv (Ld (v := .int .u64 l.ver)) <| Qv Cm <| Qv Pt <| Qv Mv ?_
        refine QW.split (d := 43) rfl (fun h43 => ?_) (fun h43 => ?_)
        · replace h43 := bT h43
          refine Qv (Fa 5 9) <| Qv (Ld (v := str (valB D l).key)) <| Qv (Fa 0 9) <| Qv (Ld (v := str l.key)) <| Qv ES <| Qv Pt <| Qv Av <| Qv Av <| Ql <| Ps <| Rt <| Rt2 ?_
          intro w' hw; exact ⟨by unfold valK; simp_all, hw.ro (by repeat (first | exact .nil | apply Pick.cons | exact .here | apply Ext.there)) hs⟩
        · replace h43 := bF h43
          refine Qp <| Qp <| Qp <| Qp <| Qp <| Qv Pf <| Qv Av <| Qv Av <| Ql <| Ps <| Rt <| Rt2 ?_
          intro w' hw; exact ⟨by unfold valK; simp_all, hw.ro (by repeat (first | exact .nil | apply Pick.cons | exact .here | apply Ext.there)) hs⟩
      · replace h36 := bF h36
        refine Qp <| Qp <| Qp <| Qp <| Qp <| Qv Pf <| Qv Mv <| Qp <| Qp <| Qp <| Qp <| Qp <| Qv Pf <| Qv Av <| Qv Av <| Ql <| Ps <| Rt <| Rt2 ?_
        intro w' hw; exact ⟨by unfold valK; simp_all, hw.ro (by repeat (first | exact .nil | apply Pick.cons | exact .here | apply Ext.there)) hs⟩
    · replace h29 := bF h29
      refine Qp <| Qp <| Qp <| Qp <| Qp <| Qv Pf <| Qv Mv <| Qp <| Qp <| Qp <| Qp <| Qp <| Qv Pf <| Qv Mv <| Qp <| Qp <| Qp <| Qp <| Qp <| Qv Pf <| Qv Av <| Qv Av <| Ql <| Ps <| Rt <| Rt2 ?_
      intro w' hw; exact ⟨by unfold valK; simp_all, hw.ro (by repeat (first | exact .nil | apply Pick.cons | exact .here | apply Ext.there)) hs⟩
  · replace h23 := bF h23
    refine Qp <| Qp <| Qp <| Qp <| Qv Pf <| Qv Mv <| Qp <| Qp <| Qp <| Qp <| Qp <| Qv Pf <| Qv Mv <| Qp <| Qp <| Qp <| Qp <| Qp <| Qv Pf <| Qv Mv <| Qp <| Qp <| Qp <| Qp <| Qp <| Qv Pf <| Qv Av <| Qv Av <| Ql <| Ps <| Rt <| Rt2 ?_
    intro w' hw; exact ⟨by unfold valK; simp_all, hw.ro (by repeat (first | exact .nil | apply Pick.cons | exact .here | apply Ext.there)) hs⟩
/-- The pairs that links stand for; the texts. -/
def pairsOf (D : List Ce) (L : List Lk) : List (List UInt8 × List UInt8) := L.filterMap fun l => if valK D l 1 = true then some (l.key, (valB D l).val) else none
def textsOf (D : List Ce) (L : List Lk) : List (List UInt8) := L.filterMap fun l => if valK D l 2 = true then some (valB D l).val else none
def prC (p : List UInt8 × List UInt8) : List Value := [str p.1, str p.2]
def txC (p : List UInt8) : List Value := [str p]
theorem prC_len (p : List UInt8 × List UInt8) : (prC p).length = 2 := rfl
theorem txC_len (p : List UInt8) : (txC p).length = 1 := rfl
theorem fm_take {α β : Type} {f : α → Option β} {L : List α} {i : Nat} {x : α} (h : L[i]? = some x) : (L.take (i + 1)).filterMap f = (L.take i).filterMap f ++ (f x).toList := by
  have e : List.filterMap f [x] = (f x).toList := by cases h8 : f x <;> simp [h8]
  rw [List.take_add_one, h, Option.toList_some, List.filterMap_append, e]
theorem fm_le {α β : Type} {f : α → Option β} (L : List α) (i : Nat) : ((L.take i).filterMap f).length ≤ L.length := by
  have h1 := List.length_filterMap_le f (L.take i)
  rw [List.length_take] at h1
  omega
theorem nilSeg {P : _} {n : _} {B : _} {Q : _} {e : _} {ks : _} {sg : V.Sg} (h : V.CW P n B Q e ks ([] :: sg)) : V.CW P n B Q e ks sg := V.CW.perm h (.refl _)
theorem ashelf_g (x : ArR) (s : ArS) (xd : DvR) (D : List Ce) (k : Cnt) (th : Nat) (hA : ArOk th D.length x s) (hst : tStp s.Tz) (hn : (tLinks s.Tz).length ≤ 1000) (hq : (rgQ s.rg).length ≤ 1000) (hln : (∀ l ∈ tLinks s.Tz, -1000000 ≤ l.line ∧ l.line ≤ 1000000) ∧ (∀ l ∈ rgQ s.rg, -1000000 ≤ l.line ∧ l.line ≤ 1000000)) (w : World) (hs : Sat (arS x s xd.db ++ dvS xd D k) w) : Calls Tryz.prog 24 [.pointer (some ⟨x.a, 0, none⟩)].toArray w fun e w' => ∃ y : List Lk × V.OwnO × V.OwnO, ((y.1.Perm (tLinks s.Tz) ∧ UpL y.1) ∧ ownOk 2 (pairsOf D y.1).length ((pairsOf D y.1).flatMap prC) y.2.1 ∧ ownOk 1 (textsOf D (rgQ s.rg)).length ((textsOf D (rgQ s.rg)).flatMap txC) y.2.2) ∧ e = .returned (.agg #[ownV (pairsOf D y.1).length y.2.1, ownV (textsOf D (rgQ s.rg)).length y.2.2]) ∧ Hp ⟨w, V.ids ((arS x s xd.db ++ dvS xd D k))⟩ (ownG 137 ((pairsOf D y.1).flatMap prC) y.2.1 :: ownG 9 ((textsOf D (rgQ s.rg)).flatMap txC) y.2.2 :: arS x s xd.db ++ dvS xd D k) w' := by
  refine V.calls (arS x s xd.db ++ dvS xd D k) Tryz.func24 rfl Tryz.ntmps24 (Nat.le_of_ble_eq_true rfl) hs <| Sq <| Rg <| Le AA fun b2 _ => Nl <| Ps <| Sq <| Rg <| Le AA fun b3 _ => Nl <| Ps <| Sq <| Sq <| Rg <| Lv Mv <| Le (CV fun w hw => atable_g x s w hw.at) fun _ _ => Le (CM (tbS x.tb x.ms s.Tz) fun w hw hs0 => all_g x.tb x.ms s.Tz hA.tb hst hn w hs0) fun y hy => ?_
  obtain ⟨oL, L⟩ := y
  have hLp : L.Perm (tLinks s.Tz) ∧ UpL L ∧ ownOk 5 L.length (L.flatMap lkC) oL := hy
  clear hy
  have hLl : L.length = (tLinks s.Tz).length := hLp.1.length_eq
  obtain ⟨pL, cL, hvL, _, _⟩ := own_slg (e := 133) lkC_len L oL hLp.2.2
  refine LW.re 14 (.slice pL L.length cL) rfl hvL <| Lv Ln <| Lv Mv <| Nl <| Ps <| Bk <| nilSeg <| loopA (γ := Nat × V.OwnO) (fun i => [(0, .pointer (some ⟨x.a, 0, none⟩)), (2, .pointer (some ⟨b2, 0, none⟩)), (3, .pointer (some ⟨b3, 0, none⟩)), (14, .slice pL L.length cL), (15, .int .i64 (L.length : Nat)), (16, .int .i64 (i.1 : Nat))]) (fun i => [(b3, .cells [ownV (pairsOf D (L.take i.1)).length i.2, ownV ([] : List (List UInt8)).length none].toArray 61 (0, 0))] :: ownG 137 ((pairsOf D (L.take i.1)).flatMap prC) i.2 :: [(b2, .cells [.slice none 0 0, .slice none 0 0].toArray 61 (0, 0))] :: ownG 133 (L.flatMap lkC) oL :: (arS x s xd.db ++ dvS xd D k)) (fun i => i.1 ≤ L.length ∧ ownOk 2 (pairsOf D (L.take i.1)).length ((pairsOf D (L.take i.1)).flatMap prC) i.2) (fun i => L.length - i.1) ((0, none)) ⟨Nat.zero_le _, rfl, rfl⟩ fun i => ?_
  rintro ⟨hi1, hi2⟩
  refine Sq <| Rg <| Lv Cm <| Nl <| Ps <| Sq ?_
  refine CW.cond rfl (fun h17 => ?_) (fun h17 => ?_)
  · replace h17 := bT h17
    have hik : i.1 < L.length := by omega
    obtain ⟨l, hl⟩ : ∃ l, L[i.1]? = some l := ⟨L[i.1]'hik, by simp⟩
    have hll := hln.1 l (hLp.1.subset (List.mem_of_getElem? hl))
    obtain ⟨g, rest, cap, hoL⟩ : ∃ g r2 c, oL = some (g, r2, c) := by
      rcases oL with _ | ⟨g, r2, c⟩
      · exact absurd hLp.2.2.2 (by omega)
      · exact ⟨g, r2, c, rfl⟩
    subst hoL
    have hpL : pL = some ⟨g, 0, none⟩ := by
      have h8 : ownV L.length (some (g, rest, cap)) = .slice (some ⟨g, 0, none⟩) L.length cap := rfl
      rw [h8] at hvL
      injection hvL with h9
      exact h9.symm
    subst hpL
    obtain ⟨r9, hr9⟩ := V.drop_flatMap lkC_len L i.1 l hl
    have hr8 : (L.flatMap lkC ++ rest).drop (i.1 * 5) = lkC l ++ (r9 ++ rest) := by
      rw [List.drop_append_of_le_length (by rw [V.flatMap_len lkC_len]; omega), hr9, List.append_assoc]
    refine Sk <| Ps <| Sq <| Bk <| Sq <| Rg <| Lv (Val.indexAddrN (i := i.1) rfl rfl Tryz.underlying128 Tryz.sizeOf133 (by omega)) <| LW.re 18 (.pointer (some ⟨g, i.1 * 5, none⟩)) rfl (by simp) <| Lv (La (lkC l) (hl := hr8)) <| Le AA fun b5 _ => LeN StW fun _ _ => Nl <| Ps <| Sq <| Rg <| Lv Mv <| Lv (Lw (l := lkC l)) <| Le (CV fun w hw => avalue_g x s xd D k l 1 hll w (hw.sat.pick (ss := ([(x.a, .cells (arC x s).toArray 151 (0, 0))] :: [(x.dv, .cells (avC xd.db s).toArray 233 (0, 0))] :: dvS xd D k)) (by repeat (first | exact .nil | apply Pick.cons | exact .here | apply Ext.there)))) fun _ _ => Lv Mv <| Lv Ex <| Lv Ex <| Lv Av <| Lv Av <| Nl <| Ps <| Sq <| Rg <| Lv Mv <| Nl <| Ps ?_
    refine CW.cond rfl (fun h26 => ?_) (fun h26 => ?_)
    · replace h26 := bT h26
      have h26 : valK D l 1 = true := h26
      have hst2 : pairsOf D (L.take (i.1 + 1)) = (pairsOf D (L.take i.1)) ++ [(l.key, (valB D l).val)] := by unfold pairsOf; rw [fm_take hl, if_pos h26]; rfl
      have hle := fm_le (f := fun l => if valK D l 1 = true then some (l.key, (valB D l).val) else none) L i.1
      replace hle : (pairsOf D (L.take i.1)).length ≤ L.length := hle
      refine Rg <| Lv (Fa 0 58) <| Lv (Ld (v := ownV (pairsOf D (L.take i.1)).length i.2)) <| Lv (Fa 0 9) <| Lv (Ld (v := str l.key)) <| Lv Mv <| Lv (Bd (prC (l.key, (valB D l).val))) <| Le (Eff.buildSlice (rfl) [_, _] Tryz.underlying58 Tryz.sizeOf137 (by exact Tryz.zeroValue137) rfl rfl rfl rfl (by rfl)) fun b33 _ => Le (Eff.appendAny (prC (l.key, (valB D l).val)) (sz := 2) (bytes := 32) (z := .agg #[.string ⟨#[]⟩, .string ⟨#[]⟩]) (xs := (pairsOf D (L.take i.1)).flatMap prC) (m0 := (pairsOf D (L.take i.1)).length) (o := i.2) (m := 1) (pk := [ownG 137 ((pairsOf D (L.take i.1)).flatMap prC) (i.2)]) rfl rfl Tryz.underlying58 (by kernel_rfl) rfl (by omega) (by repeat (first | exact .nil | apply Pick.cons | exact .here | apply Ext.there)) (by simp) hi2 (by rfl) (fun hm0 => ⟨b33, 0, rfl, fun w hw => V.range_of_block (o := 0) (cs := prC (l.key, (valB D l).val)) (r := []) (hw.own _ (show InS (b33, .cells (prC (l.key, (valB D l).val)).toArray 137 (0, 0)) _ from (by repeat (first | exact .here | exact .inner .here | exact .inner (.inner .here) | refine .there ?_))).mem) rfl⟩) (by rfl) (by omega) (by omega)) fun o2 ho2 => Lv (Fa 0 58) <| LeN (Eff.store (l' := [ownV ((pairsOf D (L.take i.1)).length + 1) o2, ownV ([] : List (List UInt8)).length none]) rfl rfl (V.ownV_one _ _) (by repeat (first | exact .here | exact .inner .here | exact .inner (.inner .here) | apply Upd.there)) (by rfl) (by rfl) Tryz.sizeOf58) fun _ _ => Nl <| Bn <| Ps <| Rg <| Lv Ar <| Lv Mv <| Nl ?_
      rw [← show (pairsOf D (L.take (i.1 + 1))).flatMap prC = (pairsOf D (L.take i.1)).flatMap prC ++ prC (l.key, (valB D l).val) by rw [hst2, List.flatMap_append]; rfl]
      rw [← show (pairsOf D (L.take (i.1 + 1))).length = (pairsOf D (L.take i.1)).length + 1 by rw [hst2, List.length_append]; rfl]
      exact roundA ((i.1 + 1, o2)) ⟨by simp only; omega, by simp only; rw [hst2, List.flatMap_append, List.length_append]; exact ho2⟩ (by simp only; omega)
    · replace h26 := bF h26
      have h26 : valK D l 1 = false := h26
      have hst2 : pairsOf D (L.take (i.1 + 1)) = (pairsOf D (L.take i.1)) := by unfold pairsOf; rw [fm_take hl, if_neg (by rw [h26]; decide)]; simp
      refine Sk <| Bn <| Ps <| Rg <| Lv Ar <| Lv Mv <| Nl ?_
      rw [← hst2]
      exact roundA ((i.1 + 1, i.2)) ⟨by simp only; omega, by simp only; rw [hst2]; exact hi2⟩ (by simp only; omega)
  · replace h17 := bF h17
    obtain ⟨i1, po⟩ := i
    have hi9 : i1 = L.length := by simp only at hi1 h17; omega
    subst hi9
    replace hi2 : ownOk 2 (pairsOf D L).length ((pairsOf D L).flatMap prC) po := by have h8 := hi2; simp only [List.take_length] at h8; exact h8
    have hi0 := hi2
    simp only [List.take_length]
    refine Xt <| Te <| Te <| Bh <| Ps <| Sq <| Sq <| Rg <| Lv Mv <| Le (CV fun w hw => aline_g x s w hw.at) fun _ _ => Le (CM (rgS 182 x.fb s.rg s.ro) fun w hw hs0 => lall_c x.fb s.rg s.ro hA.rg w hs0) fun oQ hQ => ?_
    obtain ⟨pQ, cQ, hvQ, _, _⟩ := own_slg (e := 133) lkC_len (rgQ s.rg) oQ hQ
    refine LW.re 39 (.slice pQ (rgQ s.rg).length cQ) rfl hvQ <| Lv Ln <| Lv Mv <| Nl <| Ps <| Bk <| nilSeg <| loopA (γ := Nat × V.OwnO) (fun i => [(0, .pointer (some ⟨x.a, 0, none⟩)), (2, .pointer (some ⟨b2, 0, none⟩)), (3, .pointer (some ⟨b3, 0, none⟩)), (39, .slice pQ (rgQ s.rg).length cQ), (40, .int .i64 ((rgQ s.rg).length : Nat)), (41, .int .i64 (i.1 : Nat))]) (fun i => [(b3, .cells [ownV (pairsOf D L).length po, ownV (textsOf D ((rgQ s.rg).take i.1)).length i.2].toArray 61 (0, 0))] :: ownG 9 ((textsOf D ((rgQ s.rg).take i.1)).flatMap txC) i.2 :: ownG 137 ((pairsOf D L).flatMap prC) po :: [(b2, .cells [.slice none 0 0, .slice none 0 0].toArray 61 (0, 0))] :: ownG 133 ((rgQ s.rg).flatMap lkC) oQ :: (arS x s xd.db ++ dvS xd D k)) (fun i => i.1 ≤ (rgQ s.rg).length ∧ ownOk 1 (textsOf D ((rgQ s.rg).take i.1)).length ((textsOf D ((rgQ s.rg).take i.1)).flatMap txC) i.2) (fun i => (rgQ s.rg).length - i.1) ((0, none)) ⟨Nat.zero_le _, rfl, rfl⟩ fun i => ?_
    rintro ⟨hi1, hi2⟩
    refine Sq <| Rg <| Lv Cm <| Nl <| Ps <| Sq ?_
    refine CW.cond rfl (fun h42 => ?_) (fun h42 => ?_)
    · replace h42 := bT h42
      have hik : i.1 < (rgQ s.rg).length := by omega
      obtain ⟨l, hl⟩ : ∃ l, (rgQ s.rg)[i.1]? = some l := ⟨(rgQ s.rg)[i.1]'hik, by simp⟩
      have hll := hln.2 l (List.mem_of_getElem? hl)
      obtain ⟨g, rest, cap, hoQ⟩ : ∃ g r2 c, oQ = some (g, r2, c) := by
        rcases oQ with _ | ⟨g, r2, c⟩
        · exact absurd hQ.2 (by omega)
        · exact ⟨g, r2, c, rfl⟩
      subst hoQ
      have hpQ : pQ = some ⟨g, 0, none⟩ := by
        have h8 : ownV (rgQ s.rg).length (some (g, rest, cap)) = .slice (some ⟨g, 0, none⟩) (rgQ s.rg).length cap := rfl
        rw [h8] at hvQ
        injection hvQ with h9
        exact h9.symm
      subst hpQ
      obtain ⟨r9, hr9⟩ := V.drop_flatMap lkC_len (rgQ s.rg) i.1 l hl
      have hr8 : ((rgQ s.rg).flatMap lkC ++ rest).drop (i.1 * 5) = lkC l ++ (r9 ++ rest) := by
        rw [List.drop_append_of_le_length (by rw [V.flatMap_len lkC_len]; omega), hr9, List.append_assoc]
      refine Sk <| Ps <| Sq <| Bk <| Sq <| Rg <| Lv (Val.indexAddrN (i := i.1) rfl rfl Tryz.underlying128 Tryz.sizeOf133 (by omega)) <| LW.re 43 (.pointer (some ⟨g, i.1 * 5, none⟩)) rfl (by simp) <| Lv (La (lkC l) (hl := hr8)) <| Le AA fun b9 _ => LeN StW fun _ _ => Nl <| Ps <| Sq <| Rg <| Lv Mv <| Lv (Lw (l := lkC l)) <| Le (CV fun w hw => avalue_g x s xd D k l 2 hll w (hw.sat.pick (ss := ([(x.a, .cells (arC x s).toArray 151 (0, 0))] :: [(x.dv, .cells (avC xd.db s).toArray 233 (0, 0))] :: dvS xd D k)) (by repeat (first | exact .nil | apply Pick.cons | exact .here | apply Ext.there)))) fun _ _ => Lv Mv <| Lv Ex <| Lv Ex <| Lv Av <| Lv Av <| Nl <| Ps <| Sq <| Rg <| Lv Mv <| Nl <| Ps ?_
      refine CW.cond rfl (fun h51 => ?_) (fun h51 => ?_)
      · replace h51 := bT h51
        have h51 : valK D l 2 = true := h51
        have hst2 : textsOf D ((rgQ s.rg).take (i.1 + 1)) = (textsOf D ((rgQ s.rg).take i.1)) ++ [(valB D l).val] := by unfold textsOf; rw [fm_take hl, if_pos h51]; rfl
        have hle := fm_le (f := fun l => if valK D l 2 = true then some (valB D l).val else none) (rgQ s.rg) i.1
        replace hle : (textsOf D ((rgQ s.rg).take i.1)).length ≤ (rgQ s.rg).length := hle
        refine Rg <| Lv (Fa 1 59) <| Lv (Ld (v := ownV (textsOf D ((rgQ s.rg).take i.1)).length i.2)) <| Lv Mv <| Le (Eff.buildSlice (rfl) [_] Tryz.underlying59 Tryz.sizeOf9 (by exact Tryz.zeroValue9) rfl rfl rfl rfl (by rfl)) fun b55 _ => Le (Eff.appendAny (txC (valB D l).val) (sz := 1) (bytes := 16) (z := .string ⟨#[]⟩) (xs := (textsOf D ((rgQ s.rg).take i.1)).flatMap txC) (m0 := (textsOf D ((rgQ s.rg).take i.1)).length) (o := i.2) (m := 1) (pk := [ownG 9 ((textsOf D ((rgQ s.rg).take i.1)).flatMap txC) (i.2)]) rfl rfl Tryz.underlying59 (by kernel_rfl) rfl (by omega) (by repeat (first | exact .nil | apply Pick.cons | exact .here | apply Ext.there)) (by simp) hi2 (by rfl) (fun hm0 => ⟨b55, 0, rfl, fun w hw => V.range_of_block (o := 0) (cs := txC (valB D l).val) (r := []) (hw.own _ (show InS (b55, .cells (txC (valB D l).val).toArray 9 (0, 0)) _ from (by repeat (first | exact .here | exact .inner .here | exact .inner (.inner .here) | refine .there ?_))).mem) rfl⟩) (by rfl) (by omega) (by omega)) fun o2 ho2 => Lv (Fa 1 59) <| LeN (Eff.store (l' := [ownV (pairsOf D L).length po, ownV ((textsOf D ((rgQ s.rg).take i.1)).length + 1) o2]) rfl rfl (V.ownV_one _ _) (by repeat (first | exact .here | exact .inner .here | exact .inner (.inner .here) | apply Upd.there)) (by rfl) (by rfl) Tryz.sizeOf59) fun _ _ => Nl <| Bn <| Ps <| Rg <| Lv Ar <| Lv Mv <| Nl ?_
        rw [← show (textsOf D ((rgQ s.rg).take (i.1 + 1))).flatMap txC = (textsOf D ((rgQ s.rg).take i.1)).flatMap txC ++ txC (valB D l).val by rw [hst2, List.flatMap_append]; rfl]
        rw [← show (textsOf D ((rgQ s.rg).take (i.1 + 1))).length = (textsOf D ((rgQ s.rg).take i.1)).length + 1 by rw [hst2, List.length_append]; rfl]
        exact roundA ((i.1 + 1, o2)) ⟨by simp only; omega, by simp only; rw [hst2, List.flatMap_append, List.length_append]; exact ho2⟩ (by simp only; omega)
      · replace h51 := bF h51
        have h51 : valK D l 2 = false := h51
        have hst2 : textsOf D ((rgQ s.rg).take (i.1 + 1)) = (textsOf D ((rgQ s.rg).take i.1)) := by unfold textsOf; rw [fm_take hl, if_neg (by rw [h51]; decide)]; simp
        refine Sk <| Bn <| Ps <| Rg <| Lv Ar <| Lv Mv <| Nl ?_
        rw [← hst2]
        exact roundA ((i.1 + 1, i.2)) ⟨by simp only; omega, by simp only; rw [hst2]; exact hi2⟩ (by simp only; omega)
    · replace h42 := bF h42
      obtain ⟨i1, qo⟩ := i
      have hi9 : i1 = (rgQ s.rg).length := by simp only at hi1 h42; omega
      subst hi9
      replace hi2 : ownOk 1 (textsOf D (rgQ s.rg)).length ((textsOf D (rgQ s.rg)).flatMap txC) qo := by have h8 := hi2; simp only [List.take_length] at h8; exact h8
      simp only [List.take_length]
      refine Xt <| Te <| Te <| Bh <| Ps <| Sq <| Rg <| Lv (Lw (l := [ownV (pairsOf D L).length po, ownV (textsOf D (rgQ s.rg)).length qo])) <| LeN (StW (cs := [ownV (pairsOf D L).length po, ownV (textsOf D (rgQ s.rg)).length qo]) (h1 := by simp [V.ownV_one])) fun _ _ => Nl <| Ps <| Rt <| PQ.retC (l := [ownV (pairsOf D L).length po, ownV (textsOf D (rgQ s.rg)).length qo]) rfl rfl (by repeat (first | exact .here | exact .inner .here | exact .inner (.inner .here) | refine .there ?_)) Tryz.isAgg61 (by exact Tryz.sizeOf61) ?_
      intro w' hw; exact ⟨(L, po, qo), ⟨⟨hLp.1, hLp.2.1⟩, hi0, hi2⟩, rfl, hw.pick (by repeat (first | exact .nil | apply Pick.cons | exact .here | apply Ext.there))⟩
end G
end Go.Proofs.YtcnjjefbnlgdjaaGreat

/- A small calculus of symbolic states, part 44: a struct with a struct within against itself. No program in sight. -/
namespace Go.Proofs.YtcnjjefbnlgdjaaGreat.V
open Go Go.RowKit
set_option linter.unusedVariables false
section
variable {P : Program} {n : Nat} {B : Base} {ks : Ks} {sg : Sg} {d : Option Tmp} {ty : TypeId} {pos : String} {aft : Array Edge} {g : Option (Nat × Bool)}
/-- Cells of a struct, each of which is equal to itself. -/
inductive SelfF (P : Program) : Nat → List Field → List Value → Prop
  | nil {o : Nat} : SelfF P o [] []
  | int {o : Nat} {f : Field} {fs : List Field} {k k' : IntKind} {i : Int} {l : List Value} (hn : (f.name == "_") = false) (ho : f.offset = o) (ha : ∀ w, (isAgg f.type).run P w = .ok false w) (hu : P.underlying f.type = some (.int k'))
      (h : SelfF P (o + 1) fs l) : SelfF P o (f :: fs) (.int k i :: l)
  | bool {o : Nat} {f : Field} {fs : List Field} {i : Bool} {l : List Value} (hn : (f.name == "_") = false) (ho : f.offset = o) (ha : ∀ w, (isAgg f.type).run P w = .ok false w) (hu : P.underlying f.type = some .bool)
      (h : SelfF P (o + 1) fs l) : SelfF P o (f :: fs) (.bool i :: l)
  | agg {o sz : Nat} {f : Field} {fs : List Field} {cs l : List Value} {gs : Array Field} {r : Bool} (hn : (f.name == "_") = false) (ho : f.offset = o) (ha : ∀ w, (isAgg f.type).run P w = .ok true w) (hz : ∀ w, (sizeOf f.type).run P w = .ok sz w) (hc : cs.length = sz)
      (hu : P.underlying f.type = some (.struct gs)) (hp : P.stoodInHeld f.type = false) (hi : EqF P 0 gs.toList cs cs r) (hr : r = true) (h : SelfF P (o + sz) fs l) : SelfF P o (f :: fs) (cs ++ l)
theorem run_part_agg {t : TypeId} {xs : Array Value} {o sz : Nat} {cs l : List Value} (ha : ∀ w, (isAgg t).run P w = .ok true w) (hz : ∀ w, (sizeOf t).run P w = .ok sz w) (hc : cs.length = sz) (h : xs.toList.drop o = cs ++ l) (w : World) : (part t xs o).run P w = .ok (.agg cs.toArray) w := by
  have e : xs.extract o (o + sz) = cs.toArray := by
    apply Array.ext'
    rw [Array.toList_extract]
    simp only [List.extract]
    rw [h, Nat.add_sub_cancel_left, ← hc]
    simp
  simp [part, Sem.run_bind, ha, hz, e]
theorem run_selfFields {xs : Array Value} (dd : Nat) (w : World) {o : Nat} {fs : List Field} {l : List Value} (h : SelfF P o fs l) : xs.toList.drop o = l → (Op.eqFields (dd + 2) xs xs fs).run P w = .ok true w := by
  induction h with
  | nil => intro _; rfl
  | int hn ho ha hu h ih =>
    intro hx
    subst ho
    have hn' := by simpa using hn
    simp only [Op.eqFields, hn', ne_eq, not_false_eq_true, if_true, Sem.run_bind, run_part_cell ha hx, Result.andThen_ok, run_equalIn_int w (dd + 1) _ _ _ _ _ hu, Sem.run_ite]
    simp [ih (drop_tail hx)]
  | bool hn ho ha hu h ih =>
    intro hx
    subst ho
    have hn' := by simpa using hn
    simp only [Op.eqFields, hn', ne_eq, not_false_eq_true, if_true, Sem.run_bind, run_part_cell ha hx, Result.andThen_ok, run_equalIn_bool' w (dd + 1) _ _ _ hu, Sem.run_ite]
    simp [ih (drop_tail hx)]
  | @agg o sz f fs cs l gs r hn ho ha hz hc hu hp hi hr h ih =>
    intro hx
    subst ho
    have hn' := by simpa using hn
    have hf : P.fieldsOf f.type = gs := by simp [Program.fieldsOf, hu]
    have he : (Op.equalIn (dd + 2) f.type (.agg cs.toArray) (.agg cs.toArray)).run P w = .ok true w := by
      rw [run_equalIn_struct w (dd + 1) f.type _ _ (by rw [hf]; exact hu) hp, hf]
      rw [← hr]
      exact run_eqFields dd w hi (by simp) (by simp)
    have ht : xs.toList.drop (f.offset + sz) = l := by
      rw [← List.drop_drop, hx, ← hc]; simp
    simp only [Op.eqFields, hn', ne_eq, not_false_eq_true, if_true, Sem.run_bind, run_part_agg ha hz hc hx, Result.andThen_ok, he, Sem.run_ite]
    simp [ih ht]
theorem Val.neSelf {t t' : TypeId} {x y : Operand} {fs : Array Field} {xs : List Value} (hx : ev ks x = some (.agg xs.toArray)) (hy : ev ks y = some (.agg xs.toArray)) (hm : P.eqGuardType P.depth t = false) (hu : P.underlying t = some (.struct fs)) (hp : P.stoodInHeld t = false)
    (h : SelfF P 0 fs.toList xs) : Val P n B ⟨d, .binOp .neq t x y t', ty, pos, aft, g⟩ ks sg (.bool false) := Val.bin hx hy fun w => by
  have hf : P.fieldsOf t = fs := by simp [Program.fieldsOf, hu]
  have he : (Op.equalIn 10000 t (.agg xs.toArray) (.agg xs.toArray)).run P w = .ok true w := by
    rw [run_equalIn_struct w 9999 t _ _ (by rw [hf]; exact hu) hp, hf]
    exact run_selfFields 9997 w h (by simp)
  rw [Sem.run_bind, run_eqGuard_agg w .neq t x y _ _ hm]
  simp only [Result.andThen_ok]
  rw [run_neq_struct, he]; rfl
end
end Go.Proofs.YtcnjjefbnlgdjaaGreat.V

/- Lists alike; found blocks told. -/
namespace Go.Proofs.YtcnjjefbnlgdjaaGreat
open Go Go.RowKit V
set_option linter.unusedVariables false
set_option maxRecDepth 100000
namespace G
open V (str byC ownV ownG ownS ownOk)
instance : Und Tryz.prog 66 (dOf Tryz.underlying66) := ⟨Tryz.underlying66⟩
instance : Siz Tryz.prog 66 (kOf Tryz.sizeOf66) := ⟨Tryz.sizeOf66⟩
instance : AgF Tryz.prog 66 := ⟨Tryz.isAgg66⟩
instance : Zer Tryz.prog 66 (zOf Tryz.zeroValue66) := ⟨Tryz.zeroValue66⟩
instance : Und Tryz.prog 141 (dOf Tryz.underlying141) := ⟨Tryz.underlying141⟩
instance : Siz Tryz.prog 141 (kOf Tryz.sizeOf141) := ⟨Tryz.sizeOf141⟩
instance : AgT Tryz.prog 141 := ⟨Tryz.isAgg141⟩
instance : Zer Tryz.prog 141 (zOf Tryz.zeroValue141) := ⟨Tryz.zeroValue141⟩
instance : Cal Tryz.prog 49 := ⟨Tryz.call49⟩
instance : Cal Tryz.prog 50 := ⟨Tryz.call50⟩
/-- A block that is taken: its line, its class. -/
def tkC (p : Int × Int) : List Value := [.int .i64 p.1, .int .i64 p.2]
theorem tkC_len (p : Int × Int) : (tkC p).length = 2 := rfl
theorem sameFound_c (l : List Fnd) (hl : l.length ≤ 100000) (p q : Option Addr) (c d : Nat) (w : World) (ha : V.slAt w p 9 fdC l) (hb : V.slAt w q 9 fdC l) : Calls Tryz.prog 22 [.slice p l.length c, .slice q l.length d].toArray w fun e w' => e = .returned (.bool true) ∧ Below w.heap.size w w' := by
  refine V.calls [] Tryz.func22 rfl Tryz.ntmps22 (Nat.le_of_ble_eq_true rfl) (V.sat_nil _) <| Sq <| Rg <| Lv Av <| Nl <| Ps <| Sq <| Sq <| Rg <| Lv Mv <| Lv Ln <| Lv Mv <| Lv Ln <| Lv Cm <| LW.re 10 (.bool false) rfl (by simp) <| Nl <| Ps <| Cf <| Sk <| Ps <| Sq <| Sq <| Rg <| Lv Av <| Nl <| Ps <| Bk <| loopA (γ := Nat) (fun k => [(0, .slice p l.length c), (1, .slice q l.length d), (5, .int .i64 (k : Nat))]) (fun _ => []) (fun k => k ≤ l.length) (fun k => l.length - k) (0) (Nat.zero_le _) fun k hk1 => Sq <| Sq <| Rg <| Lv Mv <| Lv Mv <| Lv Ln <| Lv Cm <| Nl <| Ps ?_
  refine CW.cond rfl (fun h14 => ?_) (fun h14 => ?_)
  · replace h14 := bT h14
    have hk9 : k < l.length := by omega
    obtain ⟨bb1, o1, y, rfl, hb1, hy, hr1⟩ := V.slAt_at ha rfl (k := k) hk9
    obtain ⟨bb2, o2, y2, rfl, hb2, hy2, hr2⟩ := V.slAt_at hb rfl (k := k) hk9
    obtain rfl : y = y2 := by rw [hy] at hy2; exact Option.some.inj hy2
    refine Sk <| Ps <| Sq <| Bk <| Sq <| Qt <| Qv Mv <| Qv Mv <| Qv Ix <| Qv (Val.loadOA (cs := fdC y) rfl Tryz.isAgg45 hb1 (by simp [ids]) (hr1 k y hy) (by exact Tryz.sizeOf45)) <| Qv Mv <| Qv Mv <| Qv Ix <| Qv (Val.loadOA (cs := fdC y) rfl Tryz.isAgg45 hb2 (by simp [ids]) (hr2 k y hy) (by exact Tryz.sizeOf45)) <| Qv (Val.neSelf rfl rfl (by kernel_rfl) Tryz.underlying45 (by kernel_rfl) (by exact (.int rfl rfl Tryz.isAgg3 Tryz.underlying3 (.bool rfl rfl Tryz.isAgg4 Tryz.underlying4 (.agg (cs := blC y.b) (l := []) rfl rfl Tryz.isAgg43 Tryz.sizeOf43 rfl Tryz.underlying43 (by kernel_rfl) (.int rfl rfl Tryz.isAgg3 Tryz.underlying3 (.int rfl rfl Tryz.isAgg3 Tryz.underlying3 (.int rfl rfl Tryz.isAgg22 Tryz.underlying22 (.int rfl rfl Tryz.isAgg22 Tryz.underlying22 (.int rfl rfl Tryz.isAgg22 Tryz.underlying22 (.str rfl rfl Tryz.isAgg9 Tryz.underlying9 (.str rfl rfl Tryz.isAgg9 Tryz.underlying9 .nil))))))) (by simp) .nil))))) <| QW.re 25 (.bool false) rfl (by simp) <| Ql <| Ps <| Cf <| Sk <| Bn <| Ps <| Rg <| Lv Mv <| Lv Ar <| Lv Av <| Nl ?_
    exact roundA (k + 1) (by omega) (by omega)
  · replace h14 := bF h14
    refine Xt <| Te <| Te <| Bh <| Ps <| Sq <| Rg <| Lv Av <| Nl <| Ps <| Rt <| Rt1 ?_
    intro w' hw; exact ⟨rfl, hw.below⟩
theorem samePairs_c (l : List (List UInt8 × List UInt8)) (hl : l.length ≤ 100000) (p q : Option Addr) (c d : Nat) (w : World) (ha : V.slAt w p 2 prC l) (hb : V.slAt w q 2 prC l) : Calls Tryz.prog 49 [.slice p l.length c, .slice q l.length d].toArray w fun e w' => e = .returned (.bool true) ∧ Below w.heap.size w w' := by
  refine V.calls [] Tryz.func49 rfl Tryz.ntmps49 (Nat.le_of_ble_eq_true rfl) (V.sat_nil _) <| Sq <| Rg <| Lv Av <| Nl <| Ps <| Sq <| Sq <| Rg <| Lv Mv <| Lv Ln <| Lv Mv <| Lv Ln <| Lv Cm <| LW.re 10 (.bool false) rfl (by simp) <| Nl <| Ps <| Cf <| Sk <| Ps <| Sq <| Sq <| Rg <| Lv Av <| Nl <| Ps <| Bk <| loopA (γ := Nat) (fun k => [(0, .slice p l.length c), (1, .slice q l.length d), (5, .int .i64 (k : Nat))]) (fun _ => []) (fun k => k ≤ l.length) (fun k => l.length - k) (0) (Nat.zero_le _) fun k hk1 => Sq <| Sq <| Rg <| Lv Mv <| Lv Mv <| Lv Ln <| Lv Cm <| Nl <| Ps ?_
  refine CW.cond rfl (fun h14 => ?_) (fun h14 => ?_)
  · replace h14 := bT h14
    have hk9 : k < l.length := by omega
    obtain ⟨bb1, o1, y, rfl, hb1, hy, hr1⟩ := V.slAt_at ha rfl (k := k) hk9
    obtain ⟨bb2, o2, y2, rfl, hb2, hy2, hr2⟩ := V.slAt_at hb rfl (k := k) hk9
    obtain rfl : y = y2 := by rw [hy] at hy2; exact Option.some.inj hy2
    refine Sk <| Ps <| Sq <| Bk <| Sq <| Qt <| Qv Mv <| Qv Mv <| Qv Ix <| Qv (Val.loadOA (cs := prC y) rfl Tryz.isAgg137 hb1 (by simp [ids]) (hr1 k y hy) (by exact Tryz.sizeOf137)) <| Qv Mv <| Qv Mv <| Qv Ix <| Qv (Val.loadOA (cs := prC y) rfl Tryz.isAgg137 hb2 (by simp [ids]) (hr2 k y hy) (by exact Tryz.sizeOf137)) <| Qv (Val.neA rfl rfl (by kernel_rfl) Tryz.underlying137 (by kernel_rfl) (by exact (.str rfl rfl Tryz.isAgg9 Tryz.underlying9 (.str rfl rfl Tryz.isAgg9 Tryz.underlying9 .nil)))) <| QW.re 25 (.bool false) rfl (by simp) <| Ql <| Ps <| Cf <| Sk <| Bn <| Ps <| Rg <| Lv Mv <| Lv Ar <| Lv Av <| Nl ?_
    exact roundA (k + 1) (by omega) (by omega)
  · replace h14 := bF h14
    refine Xt <| Te <| Te <| Bh <| Ps <| Sq <| Rg <| Lv Av <| Nl <| Ps <| Rt <| Rt1 ?_
    intro w' hw; exact ⟨rfl, hw.below⟩
theorem sameTexts_c (l : List (List UInt8)) (hl : l.length ≤ 100000) (p q : Option Addr) (c d : Nat) (w : World) (ha : V.slAt w p 1 txC l) (hb : V.slAt w q 1 txC l) : Calls Tryz.prog 50 [.slice p l.length c, .slice q l.length d].toArray w fun e w' => e = .returned (.bool true) ∧ Below w.heap.size w w' := by
  refine V.calls [] Tryz.func50 rfl Tryz.ntmps50 (Nat.le_of_ble_eq_true rfl) (V.sat_nil _) <| Sq <| Rg <| Lv Av <| Nl <| Ps <| Sq <| Sq <| Rg <| Lv Mv <| Lv Ln <| Lv Mv <| Lv Ln <| Lv Cm <| LW.re 10 (.bool false) rfl (by simp) <| Nl <| Ps <| Cf <| Sk <| Ps <| Sq <| Sq <| Rg <| Lv Av <| Nl <| Ps <| Bk <| loopA (γ := Nat) (fun k => [(0, .slice p l.length c), (1, .slice q l.length d), (5, .int .i64 (k : Nat))]) (fun _ => []) (fun k => k ≤ l.length) (fun k => l.length - k) (0) (Nat.zero_le _) fun k hk1 => Sq <| Sq <| Rg <| Lv Mv <| Lv Mv <| Lv Ln <| Lv Cm <| Nl <| Ps ?_
  refine CW.cond rfl (fun h14 => ?_) (fun h14 => ?_)
  · replace h14 := bT h14
    have hk9 : k < l.length := by omega
    obtain ⟨bb1, o1, y, rfl, hb1, hy, hr1⟩ := V.slAt_at ha rfl (k := k) hk9
    obtain ⟨bb2, o2, y2, rfl, hb2, hy2, hr2⟩ := V.slAt_at hb rfl (k := k) hk9
    obtain rfl : y = y2 := by rw [hy] at hy2; exact Option.some.inj hy2
    refine Sk <| Ps <| Sq <| Bk <| Sq <| Qt <| Qv Mv <| Qv Mv <| Qv Ix <| Qv (Val.loadO rfl Tryz.isAgg9 hb1 (by simp [ids]) (hr1 k y hy 0 _ rfl)) <| Qv Mv <| Qv Mv <| Qv Ix <| Qv (Val.loadO rfl Tryz.isAgg9 hb2 (by simp [ids]) (hr2 k y hy 0 _ rfl)) <| Qv NS <| QW.re 25 (.bool false) rfl (by simp) <| Ql <| Ps <| Cf <| Sk <| Bn <| Ps <| Rg <| Lv Mv <| Lv Ar <| Lv Av <| Nl ?_
    exact roundA (k + 1) (by omega) (by omega)
  · replace h14 := bF h14
    refine Xt <| Te <| Te <| Bh <| Ps <| Sq <| Rg <| Lv Av <| Nl <| Ps <| Rt <| Rt1 ?_
    intro w' hw; exact ⟨rfl, hw.below⟩
theorem sameTaken_c (l : List (Int × Int)) (hl : l.length ≤ 100000) (p q : Option Addr) (c d : Nat) (w : World) (ha : V.slAt w p 2 tkC l) (hb : V.slAt w q 2 tkC l) : Calls Tryz.prog 27 [.slice p l.length c, .slice q l.length d].toArray w fun e w' => e = .returned (.bool true) ∧ Below w.heap.size w w' := by
  refine V.calls [] Tryz.func27 rfl Tryz.ntmps27 (Nat.le_of_ble_eq_true rfl) (V.sat_nil _) <| Sq <| Rg <| Lv Av <| Nl <| Ps <| Sq <| Sq <| Rg <| Lv Mv <| Lv Ln <| Lv Mv <| Lv Ln <| Lv Cm <| LW.re 10 (.bool false) rfl (by simp) <| Nl <| Ps <| Cf <| Sk <| Ps <| Sq <| Sq <| Rg <| Lv Av <| Nl <| Ps <| Bk <| loopA (γ := Nat) (fun k => [(0, .slice p l.length c), (1, .slice q l.length d), (5, .int .i64 (k : Nat))]) (fun _ => []) (fun k => k ≤ l.length) (fun k => l.length - k) (0) (Nat.zero_le _) fun k hk1 => Sq <| Sq <| Rg <| Lv Mv <| Lv Mv <| Lv Ln <| Lv Cm <| Nl <| Ps ?_
  refine CW.cond rfl (fun h14 => ?_) (fun h14 => ?_)
  · replace h14 := bT h14
    have hk9 : k < l.length := by omega
    obtain ⟨bb1, o1, y, rfl, hb1, hy, hr1⟩ := V.slAt_at ha rfl (k := k) hk9
    obtain ⟨bb2, o2, y2, rfl, hb2, hy2, hr2⟩ := V.slAt_at hb rfl (k := k) hk9
    obtain rfl : y = y2 := by rw [hy] at hy2; exact Option.some.inj hy2
    refine Sk <| Ps <| Sq <| Bk <| Sq <| Qt <| Qv Mv <| Qv Mv <| Qv Ix <| Qv (Val.loadOA (cs := tkC y) rfl Tryz.isAgg141 hb1 (by simp [ids]) (hr1 k y hy) (by exact Tryz.sizeOf141)) <| Qv Mv <| Qv Mv <| Qv Ix <| Qv (Val.loadOA (cs := tkC y) rfl Tryz.isAgg141 hb2 (by simp [ids]) (hr2 k y hy) (by exact Tryz.sizeOf141)) <| Qv (Val.neA rfl rfl (by kernel_rfl) Tryz.underlying141 (by kernel_rfl) (by exact (.int rfl rfl Tryz.isAgg3 Tryz.underlying3 (.int rfl rfl Tryz.isAgg3 Tryz.underlying3 .nil)))) <| QW.re 25 (.bool false) rfl (by simp) <| Ql <| Ps <| Cf <| Sk <| Bn <| Ps <| Rg <| Lv Mv <| Lv Ar <| Lv Av <| Nl ?_
    exact roundA (k + 1) (by omega) (by omega)
  · replace h14 := bF h14
    refine Xt <| Te <| Te <| Bh <| Ps <| Sq <| Rg <| Lv Av <| Nl <| Ps <| Rt <| Rt1 ?_
    intro w' hw; exact ⟨rfl, hw.below⟩
theorem sameShelf_c (P : List (List UInt8 × List UInt8)) (Q : List (List UInt8)) (hP : P.length ≤ 100000) (hQ : Q.length ≤ 100000) (p q r s : Option Addr) (c d e f : Nat) (w : World) (ha : V.slAt w p 2 prC P) (hb : V.slAt w q 1 txC Q) (hc : V.slAt w r 2 prC P) (hd : V.slAt w s 1 txC Q) : Calls Tryz.prog 23 [.agg #[.slice p P.length c, .slice q Q.length d], .agg #[.slice r P.length e, .slice s Q.length f]].toArray w fun e w' => e = .returned (.bool true) ∧ Below w.heap.size w w' := by
  refine V.calls [] Tryz.func23 rfl Tryz.ntmps23 (Nat.le_of_ble_eq_true rfl) (V.sat_nil _) <| Sq <| Rg <| Le XA fun b2 _ => Le XA fun b3 _ => Lv Av <| Nl <| Ps <| Sq <| Rg <| Lv (Fa 0 58) <| Lv (Ld (v := .slice p P.length c)) <| Lv (Fa 0 58) <| Lv (Ld (v := .slice r P.length e)) <| Le (CV fun w hw => samePairs_c P hP p r c e w (hw.slAt ha (by simp [ids])) (hw.slAt hc (by simp [ids]))) fun _ _ => Lv Mv <| Lv (Fa 1 59) <| Lv (Ld (v := .slice q Q.length d)) <| Lv (Fa 1 59) <| Lv (Ld (v := .slice s Q.length f)) <| Le (CV fun w hw => sameTexts_c Q hQ q s d f w (hw.slAt hb (by simp [ids])) (hw.slAt hd (by simp [ids]))) fun _ _ => Lv Pt <| Lv Av <| Nl <| Ps <| Rt <| Rt1 ?_
  intro w' hw; exact ⟨rfl, hw.below⟩
theorem u64_nn (a : Int) : 0 ≤ IntKind.u64.wrap a := by
  have h := Int.emod_nonneg a (show (18446744073709551616 : Int) ≠ 0 by decide)
  have e : IntKind.u64.wrap a = a % 18446744073709551616 := by first | rfl | (simp [IntKind.wrap]; done) | (unfold IntKind.wrap; rfl)
  rw [e]; exact h
theorem low_g (a m : Int) (hm : 0 < m ∧ m ≤ 1000) (w : World) : ∃ v : Nat, v < m ∧ Calls Tryz.prog 18 [.int .i64 a, .int .i64 m].toArray w fun e w' => e = .returned (.int .i64 (v : Nat)) ∧ Below w.heap.size w w' := by
  have hm1 : IntKind.u64.wrap m = m := IntWalk.u64_in _ (by omega)
  have h0 := u64_nn a
  have h1 : 0 ≤ (IntKind.u64.wrap a).tmod m := Int.tmod_nonneg m h0
  have h2 : (IntKind.u64.wrap a).tmod m < m := Int.tmod_lt_of_pos _ hm.1
  refine ⟨((IntKind.u64.wrap a).tmod m).toNat, by omega, ?_⟩
  have h3 : IntKind.i64.wrap ((IntKind.u64.wrap a).tmod m) = (((IntKind.u64.wrap a).tmod m).toNat : Nat) := by rw [IntWalk.i64_in _ (by omega)]; omega
  rw [← h3]
  refine V.calls [] Tryz.func18 rfl Tryz.ntmps18 (Nat.le_of_ble_eq_true rfl) (V.sat_nil _) <| Sq <| Rg <| Lv Av <| Nl <| Ps <| Sq <| Rg <| Lv Mv <| Lv Cv <| Lv Mv <| Lv Cv <| LW.re 8 (.int .u64 m) rfl (by rw [hm1]) <| Lv (Val.rem rfl rfl (by omega)) <| Lv Cv <| Lv Av <| Nl <| Ps <| Rt <| Rt1 ?_
  intro w' hw; exact ⟨rfl, hw.below⟩
theorem found_g (rb db : Nat) (r : Rvl) (hk : ownOk 9 r.fd.length (r.fd.flatMap fdC) r.fo) (hl : r.fd.length ≤ 1000) (w : World) (hs : Sat ([rvO rb db r] :: [ownG 45 (r.fd.flatMap fdC) r.fo]) w) : Calls Tryz.prog 26 [.pointer (some ⟨rb, 0, none⟩)].toArray w fun e w' => ∃ o : V.OwnO, ownOk 9 r.fd.length (r.fd.flatMap fdC) o ∧ e = .returned (ownV r.fd.length o) ∧ Hp ⟨w, V.ids (([rvO rb db r] :: [ownG 45 (r.fd.flatMap fdC) r.fo]))⟩ ([ownG 45 (r.fd.flatMap fdC) o, [rvO rb db r], ownG 45 (r.fd.flatMap fdC) r.fo]) w' := by
  obtain ⟨pd, cd, hvd, hsd⟩ := own_slF r.fd r.fo hk
  refine V.calls ([rvO rb db r] :: [ownG 45 (r.fd.flatMap fdC) r.fo]) Tryz.func26 rfl Tryz.ntmps26 (Nat.le_of_ble_eq_true rfl) hs <| Sq <| Rg <| Lv Av <| Nl <| Ps <| Sq <| Sq <| Rg <| Lv Mv <| Lv EP <| Nl <| Ps <| Cf <| Sk <| Ps <| Sq <| Rg <| Lv Mv <| Lv Nz <| Lv (Fa 5 33) <| Lv (Ld (v := ownV r.fd.length r.fo)) <| LW.re 8 (.slice pd r.fd.length cd) rfl hvd <| Le (CM [] fun w hw hs => cloneFd_c r.fd pd cd hl w (hsd hw (by repeat (first | exact .nil | apply Pick.cons | exact .here | apply Ext.there)))) fun o ho => Lv Av <| Nl <| Ps <| Rt <| Rt1 ?_
  intro w' hw; exact ⟨o, ho, rfl, hw.pick (by repeat (first | exact .nil | apply Pick.cons | exact .here | apply Ext.there))⟩
end G
end Go.Proofs.YtcnjjefbnlgdjaaGreat

/- Two arenas over the same blocks hold the same. -/
namespace Go.Proofs.YtcnjjefbnlgdjaaGreat
open Go Go.RowKit V
set_option linter.unusedVariables false
set_option maxRecDepth 100000
namespace G
open V (str byC ownV ownG ownS ownOk)
/-- Of a table: good stamps, links in their buckets, each key once. -/
structure tInv (Tz : Tbl) : Prop where
  len : Tz.length = 8
  st : tStp Tz
  bk : ∀ i p, Tz[i]? = some p → ∀ e ∈ p.1, bkF e.2.key = i
  nd : ((tLinks Tz).map (·.key)).Nodup
theorem tb0_inv : tInv tb0 := by
  refine ⟨rfl, fun p hp => ?_, fun i p hp e he => ?_, ?_⟩
  · obtain rfl := List.eq_of_mem_replicate hp
    exact V.Stp.nil _
  · obtain rfl := List.eq_of_mem_replicate (List.mem_of_getElem? hp)
    cases he
  · decide
theorem lget_none {E : LE} {k : List UInt8} (h : lget E k = none) : ∀ e ∈ E, e.2.key ≠ k := by
  intro e he hk
  unfold lget at h
  rw [Option.map_eq_none_iff, List.find?_eq_none] at h
  exact h e he (by simpa using hk)
theorem tLinks_set {Tz : Tbl} {i : Nat} {p q : LE × Nat} {x : Lk} (hp : Tz[i]? = some p) (hq : q.1.map (·.2) = p.1.map (·.2) ++ [x]) : (tLinks (Tz.set i q)).Perm (tLinks Tz ++ [x]) := by
  obtain ⟨hi, hv⟩ := List.getElem?_eq_some_iff.1 hp
  have e1 : Tz = Tz.take i ++ p :: Tz.drop (i + 1) := by
    have h8 := List.take_append_drop i Tz
    rw [List.drop_eq_getElem_cons hi, hv] at h8
    exact h8.symm
  have e2 : Tz.set i q = Tz.take i ++ q :: Tz.drop (i + 1) := by
    rw [List.set_eq_take_append_cons_drop, if_pos hi]
  have e3 : tLinks Tz = tLinks (Tz.take i) ++ (p.1.map (·.2) ++ tLinks (Tz.drop (i + 1))) := by
    conv => lhs; rw [e1]
    unfold tLinks
    rw [List.flatMap_append, List.flatMap_cons]
  have e4 : tLinks (Tz.set i q) = tLinks (Tz.take i) ++ ((p.1.map (·.2) ++ [x]) ++ tLinks (Tz.drop (i + 1))) := by
    rw [e2]
    unfold tLinks
    rw [List.flatMap_append, List.flatMap_cons, hq]
  rw [e3, e4, List.append_assoc, List.append_assoc, List.append_assoc]
  exact (List.perm_append_comm.append_left _).append_left _
theorem tSet_inv {Tz : Tbl} {x : Lk} (h : tInv Tz) (hg : (tGet Tz x.key).isSome = false) : tInv (tSet Tz x) ∧ (tLinks (tSet Tz x)).Perm (tLinks Tz ++ [x]) := by
  have hb := bkF_lt x.key
  obtain ⟨p, hp⟩ : ∃ p, Tz[bkF x.key]? = some p := ⟨Tz[bkF x.key]'(by rw [h.len]; omega), by simp⟩
  have hl : lget p.1 x.key = none := by
    unfold tGet at hg
    rw [hp] at hg
    simpa using hg
  have e : tSet Tz x = Tz.set (bkF x.key) (lput p.1 x p.2, lclk p.1 x.key p.2) := by unfold tSet; rw [hp]
  have e2 : lput p.1 x p.2 = p.1 ++ [(p.2, x)] := by unfold lput; rw [hl]; rfl
  have hperm : (tLinks (tSet Tz x)).Perm (tLinks Tz ++ [x]) := by
    rw [e]
    exact tLinks_set hp (by rw [e2]; simp)
  have hpi := List.getElem?_eq_some_iff.1 hp
  refine ⟨⟨?_, fun q hq => ?_, fun i q hq e' he => ?_, ?_⟩, hperm⟩
  · rw [tSet_len]; exact h.len
  · rw [e] at hq
    rcases List.mem_or_eq_of_mem_set hq with h8 | h8
    · exact h.st q h8
    · rw [h8, ← mput_me, ← mclk_me]
      exact (h.st p (List.mem_of_getElem? hp)).put _ _
  · rw [e, List.getElem?_set] at hq
    split at hq
    · rename_i hi
      split at hq
      · simp only [Option.some.injEq] at hq
        subst hq
        rw [e2] at he
        rcases List.mem_append.1 he with h8 | h8
        · rw [← hi]; exact h.bk _ p hp e' h8
        · rw [List.mem_singleton] at h8
          rw [h8]; exact hi
      · cases hq
    · exact h.bk i q hq e' he
  · have h9 : ((tLinks (tSet Tz x)).map (·.key)).Perm ((tLinks Tz).map (·.key) ++ [x.key]) := by
      have := hperm.map (·.key)
      simpa using this
    rw [h9.nodup_iff, List.nodup_append]
    refine ⟨h.nd, by simp, fun a ha b hb2 => ?_⟩
    rw [List.mem_singleton] at hb2
    obtain ⟨l, hlm, rfl⟩ := List.mem_map.1 ha
    unfold tLinks at hlm
    rw [List.mem_flatMap] at hlm
    obtain ⟨q, hq, hlq⟩ := hlm
    obtain ⟨e', he', rfl⟩ := List.mem_map.1 hlq
    obtain ⟨j, hj⟩ := List.mem_iff_getElem?.1 hq
    intro hk
    rw [hb2] at hk
    have h10 := h.bk j q hj e' he'
    rw [hk] at h10
    subst h10
    rw [hp, Option.some.injEq] at hj
    subst hj
    exact lget_none hl e' he' hk
/-- What an arena gets of blocks. -/
structure OvI (Fs : List Fnd) (c : OvC) : Prop where
  ti : tInv c.Tz
  tl : ∀ l ∈ tLinks c.Tz, ∃ f ∈ Fs, l = lkOf f
  tn : (tLinks c.Tz).length ≤ Fs.length
  ql : ∀ l ∈ c.q, ∃ f ∈ Fs, l = lkOf f
  qn : c.q.length ≤ Fs.length
theorem ov1_inv {Fs : List Fnd} {c c' : OvC} {f : Fnd} (h : OvI Fs c) (ho : ov1 c f = some c') : OvI (Fs ++ [f]) c' := by
  have hup : ∀ {P : Fnd → Prop}, (∃ g ∈ Fs, P g) → ∃ g ∈ Fs ++ [f], P g := fun ⟨g, hg, hp⟩ => ⟨g, List.mem_append_left _ hg, hp⟩
  unfold ov1 at ho
  split at ho
  · cases ho
  · split at ho
    · simp only [Option.some.injEq] at ho
      subst ho
      refine ⟨h.ti, fun l hl => hup (h.tl l hl), by simp only [List.length_append]; have := h.tn; omega, fun l hl => ?_, by simp only [List.length_append, List.length_singleton]; have := h.qn; omega⟩
      rcases List.mem_append.1 hl with h8 | h8
      · exact hup (h.ql l h8)
      · rw [List.mem_singleton] at h8
        exact ⟨f, by simp, h8⟩
    · split at ho
      · cases ho
      · rename_i hg
        simp only [Option.some.injEq] at ho
        subst ho
        obtain ⟨h1, h2⟩ := tSet_inv (x := lkOf f) h.ti (by show (tGet c.Tz f.b.key).isSome = false; simpa using hg)
        refine ⟨h1, fun l hl => ?_, ?_, fun l hl => hup (h.ql l hl), by simp only [List.length_append]; have := h.qn; omega⟩
        · have h8 := h2.subset hl
          rcases List.mem_append.1 h8 with h9 | h9
          · exact hup (h.tl l h9)
          · rw [List.mem_singleton] at h9
            exact ⟨f, by simp, h9⟩
        · have h8 := h2.length_eq
          have h9 := h.tn
          simp only [List.length_append, List.length_singleton] at h8 ⊢
          omega
theorem ovAll_inv : ∀ {Gs Fs : List Fnd} {c c' : OvC}, OvI Fs c → ovAll c Gs = some c' → OvI (Fs ++ Gs) c'
  | [], Fs, c, c', h, ho => by
    simp only [ovAll, Option.some.injEq] at ho
    subst ho
    simpa using h
  | f :: r, Fs, c, c', h, ho => by
    unfold ovAll at ho
    split at ho
    · cases ho
    · rename_i c1 h1
      have h8 := ovAll_inv (ov1_inv h h1) ho
      simpa using h8
theorem ovC0_inv (n : Nat) : OvI [] (ovC0 n) := by
  have e : tLinks tb0 = [] := rfl
  exact ⟨tb0_inv, fun l hl => (by have h8 : l ∈ tLinks tb0 := hl; rw [e] at h8; cases h8), (by show (tLinks tb0).length ≤ 0; rw [e]; exact Nat.le_refl _), fun l hl => (by cases hl), Nat.le_refl _⟩
theorem sta_mem {a b : List Lk} (h : Stb.Sta Lk.ver a b) {x : Lk} (hx : x ∈ b) : x ∈ a := by
  have h8 : x ∈ b.filter fun y => Lk.ver y == Lk.ver x := List.mem_filter.2 ⟨hx, by simp⟩
  rw [h.2] at h8
  exact (List.mem_filter.1 h8).1
/-- What an arena over blocks holds. -/
theorem ova_sh {th n : Nat} {e0 : Int} {Fs : List Fnd} {y : ArR × ArS} (h : OvA th n e0 Fs y) : ArOk th n y.1 y.2 ∧ tStp y.2.Tz ∧ ((tLinks y.2.Tz).map (·.key)).Nodup ∧ (tLinks y.2.Tz).length ≤ Fs.length ∧ (rgQ y.2.rg).length ≤ Fs.length ∧ (∀ l ∈ tLinks y.2.Tz, ∃ f ∈ Fs, l = lkOf f) ∧ ∀ l ∈ rgQ y.2.rg, ∃ f ∈ Fs, l = lkOf f := by
  obtain ⟨c, hc, Lz, rg, ro, hs, _, hsta, _, hok⟩ := h.get y.1 y.2 rfl
  have hi := ovAll_inv (ovC0_inv n) hc
  rw [List.nil_append] at hi
  have e1 : y.2.Tz = c.Tz := by rw [hs]; rfl
  have e2 : y.2.rg = rg := by rw [hs]; rfl
  rw [e1, e2]
  refine ⟨hok, hi.ti.st, hi.ti.nd, hi.tn, ?_, hi.tl, fun l hl => hi.ql l (sta_mem hsta hl)⟩
  rw [hsta.1]; exact hi.qn
theorem ova_eq {th n : Nat} {e0 : Int} {Fs : List Fnd} {y z : ArR × ArS} (h : OvA th n e0 Fs y) (k : OvA th n e0 Fs z) : y.2.Tz = z.2.Tz ∧ rgQ y.2.rg = rgQ z.2.rg ∧ y.2.L = z.2.L := by
  obtain ⟨c, hc, Lz, rg, ro, hs, _, hsta, hup, _⟩ := h.get y.1 y.2 rfl
  obtain ⟨d, hd, Mz, sg, so, ht, _, hstb, hvp, _⟩ := k.get z.1 z.2 rfl
  rw [hc, Option.some.injEq] at hd
  subst hd
  refine ⟨by rw [hs, ht]; rfl, ?_, by rw [hs, ht]; rfl⟩
  rw [hs, ht]
  show rgQ rg = rgQ sg
  exact Stb.sta_uniq (Stb.Sta.trans ⟨hsta.1.symm, fun k => (hsta.2 k).symm⟩ hstb) hup hvp
theorem key_inj : ∀ {M : List Lk}, (M.map (·.key)).Nodup → ∀ {a b : Lk}, a ∈ M → b ∈ M → a.key = b.key → a = b
  | [], _, a, b, ha, _, _ => by cases ha
  | x :: M, h, a, b, ha, hb, e => by
    rw [List.map_cons, List.nodup_cons] at h
    rcases List.mem_cons.1 ha with ha' | ha'
    · rcases List.mem_cons.1 hb with hb' | hb'
      · rw [ha', hb']
      · exact absurd (List.mem_map_of_mem (f := (·.key)) hb') (by rw [← ha', e] at h; exact h.1)
    · rcases List.mem_cons.1 hb with hb' | hb'
      · exact absurd (List.mem_map_of_mem (f := (·.key)) ha') (by rw [← hb', ← e] at h; exact h.1)
      · exact key_inj h.2 ha' hb' e
theorem upL_uniq : ∀ {A B M : List Lk}, A.Perm B → UpL A → UpL B → (∀ a ∈ A, a ∈ M) → (M.map (·.key)).Nodup → A = B
  | [], B, M, hp, _, _, _, _ => (List.nil_perm.1 hp).symm
  | a :: A, [], M, hp, _, _, _, _ => by have := hp.length_eq; simp at this
  | a :: A, b :: B, M, hp, ha, hb, hM, hn => by
    have hbA : b ∈ a :: A := hp.symm.subset List.mem_cons_self
    have haB : a ∈ b :: B := hp.subset List.mem_cons_self
    have h1 : ¬ b.key < a.key := by
      rcases List.mem_cons.1 hbA with rfl | h8
      · exact List.lt_irrefl _
      · exact (List.pairwise_cons.1 ha).1 b h8
    have h2 : ¬ a.key < b.key := by
      rcases List.mem_cons.1 haB with rfl | h8
      · exact List.lt_irrefl _
      · exact (List.pairwise_cons.1 hb).1 a h8
    have he : a = b := key_inj hn (hM a List.mem_cons_self) (hM b hbA) (List.le_antisymm (List.not_lt.1 h1) (List.not_lt.1 h2))
    subst he
    rw [upL_uniq ((List.perm_cons a).1 hp) (List.pairwise_cons.1 ha).2 (List.pairwise_cons.1 hb).2 (fun x hx => hM x (List.mem_cons_of_mem _ hx)) hn]
theorem fm_congr {α β : Type} {f g : α → Option β} : ∀ {l : List α}, (∀ x ∈ l, f x = g x) → l.filterMap f = l.filterMap g
  | [], _ => rfl
  | a :: l, h => by
    rw [List.filterMap_cons, List.filterMap_cons, h a List.mem_cons_self, fm_congr fun x hx => h x (List.mem_cons_of_mem _ hx)]
/-- A block as it lies on a device. -/
theorem val_of {D : List Ce} {f : Fnd} (h : decF (linesL D f.line (spanF f.b.cls)) = some f.b) : decF (linesL D (lkOf f).line (spanF (lkOf f).cls)) = some f.b := h
theorem val_eq {D E : List Ce} {Fs : List Fnd} (hD : ∀ f ∈ Fs, decF (linesL D f.line (spanF f.b.cls)) = some f.b) (hE : ∀ f ∈ Fs, decF (linesL E f.line (spanF f.b.cls)) = some f.b) {L : List Lk} (hL : ∀ l ∈ L, ∃ f ∈ Fs, l = lkOf f) : pairsOf D L = pairsOf E L ∧ textsOf D L = textsOf E L := by
  have hb : ∀ l ∈ L, valB D l = valB E l ∧ ∀ k, valK D l k = valK E l k := fun l hl => by
    obtain ⟨f, hf, rfl⟩ := hL l hl
    have h1 := val_of (hD f hf)
    have h2 := val_of (hE f hf)
    have e : valB D (lkOf f) = valB E (lkOf f) := by unfold valB; rw [h1, h2]
    exact ⟨e, fun k => by unfold valK; rw [e, h1, h2]⟩
  constructor
  · unfold pairsOf
    refine fm_congr fun l hl => ?_
    obtain ⟨e1, e2⟩ := hb l hl
    rw [e1, e2]
  · unfold textsOf
    refine fm_congr fun l hl => ?_
    obtain ⟨e1, e2⟩ := hb l hl
    rw [e1, e2]
/-- Behind a revival the device keeps the same. -/
theorem end_same {v : Dev} (hc : Calm v.D) (hL : 0 < v.D.length ∧ v.D.length ≤ 1000) {k : Nat} (h6 : (runN v cor0 k).2.ph = 6) : Same v.D (runN v cor0 k).1.D ∧ ∀ f ∈ (runN v cor0 k).2.kp, f.good = true ∧ decF (linesL (runN v cor0 k).1.D f.line (spanF f.b.cls)) = some f.b ∧ 2 ≤ f.line ∧ f.line < v.D.length := by
  obtain ⟨hI, hC⟩ := runN_inv hL k
  have hcal : Calm (runN v cor0 k).1.D := by
    rw [hC.p5 (by omega) (by omega)]
    have hfd := hC.f2 (by omega) (by omega)
    have hin := fds_in v.D (slabsF v.D.length * 8)
    rw [← hfd] at hin
    exact wiped_calm (wiped_calm hc fun f hf => (hin f (List.mem_filter.1 hf).1).1) fun f hf => (hin f (List.mem_filter.1 hf).1).1
  have hs := cut_same hc hL k []
  rw [cut_calm hcal] at hs
  refine ⟨hs, fun f hf => ?_⟩
  have hkp := (run_end hL (k := k) (by omega)).2 h6
  rw [hkp.2.1] at hf
  have hf2 : f ∈ kpA (runN v cor0 k).1.D := by rw [hs.kp]; exact hf
  obtain ⟨h1, h2⟩ := kp_dec hf2
  have h3 : f ∈ fdA v.D := (List.mem_filter.1 hf).1
  exact ⟨h1, h2, fds_two h3, (fds_in _ _ f h3).2.2⟩
end G
end Go.Proofs.YtcnjjefbnlgdjaaGreat

/- What two revivals tell alike. -/
namespace Go.Proofs.YtcnjjefbnlgdjaaGreat
open Go Go.RowKit V
set_option linter.unusedVariables false
set_option maxRecDepth 100000
namespace G
open V (str byC ownV ownG ownS ownOk)
/-- Blocks lie on a device of 34 lines. -/
def GoodD (D : List Ce) (kp : List Fnd) : Prop := D.length = 34 ∧ ∀ f ∈ kp, decF (linesL D f.line (spanF f.b.cls)) = some f.b
theorem ex_P (D : List Ce) (T : List Lk) (hn : (T.map (·.key)).Nodup) : ∃ P, P.length ≤ T.length ∧ ∀ L : List Lk, L.Perm T → UpL L → pairsOf D L = P := by
  by_cases h : ∃ L : List Lk, L.Perm T ∧ UpL L
  · obtain ⟨L0, h1, h2⟩ := h
    refine ⟨pairsOf D L0, ?_, fun L h3 h4 => ?_⟩
    · have := fm_le (f := fun l => if valK D l 1 = true then some (l.key, (valB D l).val) else none) L0 L0.length
      rw [List.take_length] at this
      have h8 := h1.length_eq
      unfold pairsOf; omega
    · rw [upL_uniq (h3.trans h1.symm) h4 h2 (fun a ha => h3.subset ha) hn]
  · exact ⟨[], Nat.zero_le _, fun L h1 h2 => absurd ⟨L, h1, h2⟩ h⟩
/-- What an arena over these blocks tells, wherever it and its device lie. -/
structure ShP (D : List Ce) (z : ArR × ArS) (P : List (List UInt8 × List UInt8)) (Q : List (List UInt8)) : Prop where
  ok : ArOk 2 D.length z.1 z.2
  stp : tStp z.2.Tz
  tn : (tLinks z.2.Tz).length ≤ 1000
  qn : (rgQ z.2.rg).length ≤ 1000
  ln : (∀ l ∈ tLinks z.2.Tz, -1000000 ≤ l.line ∧ l.line ≤ 1000000) ∧ ∀ l ∈ rgQ z.2.rg, -1000000 ≤ l.line ∧ l.line ≤ 1000000
  pP : ∀ L : List Lk, L.Perm (tLinks z.2.Tz) → UpL L → pairsOf D L = P
  pQ : textsOf D (rgQ z.2.rg) = Q
  pn : P.length ≤ 1000
  qm : Q.length ≤ 1000
theorem shP_ex {e : Int} {kp : List Fnd} {y : ArR × ArS} {D0 : List Ce} (hy : OvA 2 34 e kp y) (hg : GoodD D0 kp) (hl : kp.length ≤ 1000) (hr : ∀ f ∈ kp, 2 ≤ f.line ∧ f.line < 34) : ∃ P Q, ∀ D, GoodD D kp → ∀ z, OvA 2 34 e kp z → ShP D z P Q := by
  obtain ⟨_, _, h3, h4, h5, h6, h7⟩ := ova_sh hy
  obtain ⟨P, hP1, hP2⟩ := ex_P D0 (tLinks y.2.Tz) h3
  refine ⟨P, textsOf D0 (rgQ y.2.rg), fun D hD z hz => ?_⟩
  obtain ⟨k1, k2, k3, k4, k5, k6, k7⟩ := ova_sh hz
  obtain ⟨e1, e2, _⟩ := ova_eq hz hy
  have hq : (textsOf D0 (rgQ y.2.rg)).length ≤ (rgQ y.2.rg).length := by
    have := fm_le (f := fun l => if valK D0 l 2 = true then some (valB D0 l).val else none) (rgQ y.2.rg) (rgQ y.2.rg).length
    rw [List.take_length] at this
    exact this
  refine ⟨by rw [hD.1]; exact k1, k2, by omega, by omega, ⟨fun l hl => ?_, fun l hl => ?_⟩, fun L hL1 hL2 => ?_, ?_, by omega, by omega⟩
  · obtain ⟨f, hf, rfl⟩ := k6 l hl
    have h8 := hr f hf
    have h9 : (lkOf f).line = f.line := rfl
    omega
  · obtain ⟨f, hf, rfl⟩ := k7 l hl
    have h8 := hr f hf
    have h9 : (lkOf f).line = f.line := rfl
    omega
  · rw [← hP2 L (by rw [← e1]; exact hL1) hL2]
    exact (val_eq hD.2 hg.2 fun l hl => k6 l (hL1.subset hl)).1
  · rw [e2]
    exact (val_eq hD.2 hg.2 fun l hl => h7 l hl).2
/-- The end of a revival of a device of 34 lines. -/
theorem fin_of {v : Dev} (hcm : Calm v.D) (hln : v.D.length = 34) {k : Nat} {r : Rvl} {y : ArR × ArS} (hc : corOf r = (runN v cor0 k).2) (h6 : r.ph = 6) (hX : RvX 2 v.D.length r (some y)) : OvA 2 34 r.e r.kp y ∧ GoodD (runN v cor0 k).1.D r.kp ∧ r.kp.length ≤ 1000 ∧ (∀ f ∈ r.kp, 2 ≤ f.line ∧ f.line < 34) ∧ r.fd.length ≤ 1000 ∧ Same v.D (runN v cor0 k).1.D := by
  have hph : (runN v cor0 k).2.ph = 6 := by rw [← hc]; exact h6
  have hkp : (runN v cor0 k).2.kp = r.kp := by rw [← hc]; rfl
  obtain ⟨h1, h2⟩ := end_same hcm (len34v hln) hph
  rw [hkp] at h2
  have h8 := (hX.got y rfl).1
  rw [hln] at h8
  have hi := (runN_inv (len34v hln) k).1
  rw [← hc] at hi
  have hfl : r.fd.length ≤ 256 := hi.fl
  exact ⟨h8, ⟨h1.len.trans hln, fun f hf => (h2 f hf).2.1⟩, kp_le hln hcm hc h6, fun f hf => ⟨(h2 f hf).2.2.1, by have := (h2 f hf).2.2.2; omega⟩, by omega, h1⟩
/-- Two revivals, the second one of what the first one's device may be behind cuts. -/
theorem fin_two {v u : Dev} (hln : v.D.length = 34) (hs : Same v.D u.D) {k m : Nat} {r q : Rvl} (hc : corOf r = (runN v cor0 k).2) (h6 : r.ph = 6) (hq : corOf q = (runN u cor0 m).2) (hm : 6 ≤ q.ph) : q.ph = 6 ∧ q.e = r.e ∧ q.kp = r.kp := by
  have h8 := same_run hs (len34v hln) (k := k) (m := m) (by rw [← hc]; exact h6) (by rw [← hq]; exact hm)
  rw [← hq, ← hc] at h8
  exact h8
theorem kp_good {v : Dev} (hcm : Calm v.D) (hln : v.D.length = 34) {k : Nat} {r : Rvl} (hc : corOf r = (runN v cor0 k).2) (h6 : r.ph = 6) {D : List Ce} (hs : Same v.D D) : GoodD D r.kp := by
  have hph : (runN v cor0 k).2.ph = 6 := by rw [← hc]; exact h6
  have hkp : (runN v cor0 k).2.kp = r.kp := by rw [← hc]; rfl
  have h2 := (run_end (len34v hln) (k := k) (by omega)).2 hph
  rw [hkp] at h2
  refine ⟨hs.len.trans hln, fun f hf => ?_⟩
  rw [h2.2.1, ← hs.kp] at hf
  exact (kp_dec hf).2
def lowF (a m : Int) : Nat := ((IntKind.u64.wrap a).tmod m).toNat
theorem low_lt {a m : Int} (hm : 0 < m) : (lowF a m : Int) < m := by
  have h1 : 0 ≤ (IntKind.u64.wrap a).tmod m := Int.tmod_nonneg m (u64_nn a)
  have h2 : (IntKind.u64.wrap a).tmod m < m := Int.tmod_lt_of_pos _ hm
  unfold lowF; omega
theorem lowF_g (a m : Int) (hm : 0 < m ∧ m ≤ 1000) (w : World) : Calls Tryz.prog 18 [.int .i64 a, .int .i64 m].toArray w fun e w' => e = .returned (.int .i64 (lowF a m : Nat)) ∧ Below w.heap.size w w' := by
  have hm1 : IntKind.u64.wrap m = m := IntWalk.u64_in _ (by omega)
  have h0 := u64_nn a
  have h1 : 0 ≤ (IntKind.u64.wrap a).tmod m := Int.tmod_nonneg m h0
  have h2 : (IntKind.u64.wrap a).tmod m < m := Int.tmod_lt_of_pos _ hm.1
  have h3 : IntKind.i64.wrap ((IntKind.u64.wrap a).tmod m) = ((lowF a m : Nat) : Int) := by unfold lowF; rw [IntWalk.i64_in _ (by omega)]; omega
  rw [← h3]
  refine V.calls [] Tryz.func18 rfl Tryz.ntmps18 (Nat.le_of_ble_eq_true rfl) (V.sat_nil _) <| Sq <| Rg <| Lv Av <| Nl <| Ps <| Sq <| Rg <| Lv Mv <| Lv Cv <| Lv Mv <| Lv Cv <| LW.re 8 (.int .u64 m) rfl (by rw [hm1]) <| Lv (Val.rem rfl rfl (by omega)) <| Lv Cv <| Lv Av <| Nl <| Ps <| Rt <| Rt1 ?_
  intro w' hw; exact ⟨rfl, hw.below⟩
theorem kept_e (rb db : Nat) (r : Rvl) (kp : List Fnd) (hkp : r.kp = kp) (hk : ownOk 9 r.kp.length (r.kp.flatMap fdC) r.ko) (hl : r.kp.length ≤ 1000) (w : World) (hs : Sat ([rvO rb db r] :: [ownG 45 (r.kp.flatMap fdC) r.ko]) w) : Calls Tryz.prog 11 [.pointer (some ⟨rb, 0, none⟩)].toArray w fun e w' => ∃ o : V.OwnO, ownOk 9 kp.length (kp.flatMap fdC) o ∧ e = .returned (ownV kp.length o) ∧ Hp ⟨w, V.ids (([rvO rb db r] :: [ownG 45 (r.kp.flatMap fdC) r.ko]))⟩ ([ownG 45 (kp.flatMap fdC) o, [rvO rb db r], ownG 45 (r.kp.flatMap fdC) r.ko]) w' := by
  subst hkp
  exact kept_g rb db r hk hl w hs
theorem ashelf_e (z : ArR × ArS) (xd : DvR) (v : Dev) (P : List (List UInt8 × List UInt8)) (Q : List (List UInt8)) (h : ShP v.D z P Q) (w : World) (hs : Sat (arS z.1 z.2 xd.db ++ vS xd v) w) : Calls Tryz.prog 24 [.pointer (some ⟨z.1.a, 0, none⟩)].toArray w fun e w' => ∃ y : V.OwnO × V.OwnO, (ownOk 2 P.length (P.flatMap prC) y.1 ∧ ownOk 1 Q.length (Q.flatMap txC) y.2) ∧ e = .returned (.agg #[ownV P.length y.1, ownV Q.length y.2]) ∧ Hp ⟨w, V.ids ((arS z.1 z.2 xd.db ++ vS xd v))⟩ (ownG 137 (P.flatMap prC) y.1 :: ownG 9 (Q.flatMap txC) y.2 :: arS z.1 z.2 xd.db ++ vS xd v) w' := by
  refine (ashelf_g z.1 z.2 xd v.D v.k 2 h.ok h.stp h.tn h.qn h.ln w hs).mono fun e w' ⟨y, ⟨⟨h1, h2⟩, h3, h4⟩, he, hw⟩ => ?_
  rw [h.pP y.1 h1 h2] at h3 he hw
  rw [h.pQ] at h4 he hw
  exact ⟨y.2, ⟨h3, h4⟩, he, hw⟩
theorem sl_up {α : Type} {w0 : World} {F : List Nat} {sg : V.Sg} {w : World} {p : Option Addr} {sz : Nat} {enc : α → List Value} {l : List α} (hw : Hp ⟨w0, F⟩ sg w) (h : V.slAt w0 p sz enc l) (hf : 0 < l.length → ∀ b o, p = some ⟨b, o, none⟩ → b ∉ F) : V.slAt w p sz enc l := by
  by_cases h0 : 0 < l.length
  · exact hw.slAt h (hf h0)
  · exact .inl (List.length_eq_zero_iff.1 (by omega))
theorem sl_in {α : Type} {w : World} {p : Option Addr} {sz : Nat} {enc : α → List Value} {l : List α} (h : V.slAt w p sz enc l) (h0 : 0 < l.length) {b o : Nat} (hb : p = some ⟨b, o, none⟩) : b < w.heap.size := by
  rcases h with h | ⟨b2, o2, h2, h3, _⟩
  · rw [h] at h0; exact absurd h0 (by simp)
  · rw [hb] at h2
    simp only [Option.some.injEq, Addr.mk.injEq] at h2
    rw [h2.1]; exact h3
theorem cut_gc (x : DvR) (D : List Ce) (k : Cnt) (keep : List Int) (p : Option Addr) (cp : Nat) (hD : D.length ≤ 100000) (hkl : keep.length ≤ 100000) (w : World) (hs : Sat (dvS x D k) w) (hk : V.slAt w p 1 inI keep) (hkd : 0 < keep.length → ∀ b o, p = some ⟨b, o, none⟩ → b ∉ V.ids (dvS x D k)) : Calls Tryz.prog 20 [.pointer (some ⟨x.db, 0, none⟩), .slice p keep.length cp].toArray w fun e w' => ∃ o : V.OwnO, ownOk 1 (lostTo D keep D.length).length ((lostTo D keep D.length).flatMap inI) o ∧ e = .returned (.tuple #[ownV (lostTo D keep D.length).length o, .int .i64 0]) ∧ Hp ⟨w, V.ids ((dvS x D k))⟩ (ownG 3 ((lostTo D keep D.length).flatMap inI) o :: dvS x (cutD D keep) { k with e := IntKind.i64.wrap (k.e + 1) }) w' := by
  refine V.calls (dvS x D k) Tryz.func20 rfl Tryz.ntmps20 (Nat.le_of_ble_eq_true rfl) hs <| Sq <| Rg <| Lv Av <| Lv Av <| Nl <| Ps <| Sq <| Sq <| Rg <| Lv Mv <| Lv EP <| Nl <| Ps <| Cf <| Sk <| Ps <| Sq <| Rg <| Lv Av <| Nl <| Ps <| Sq <| Sq <| Rg <| Lv Mv <| Lv Nz <| Lv (Fa 0 82) <| Lv (Ld (v := .slice (some ⟨x.cb, 0, none⟩) D.length x.cap)) <| Lv Ln <| Lv Mv <| Nl <| Ps <| Bk ?_
  refine V.CW.perm (sg' := [ownG 3 ((lostTo D keep 0).flatMap inI) none, [(x.db, .cells (dxC x D k).toArray 96 (0, 0))], [(x.cb, .cells (cxC x (mixTo (cutD D keep) D 0)).toArray 87 (0, 0))]]) ?_ (by unfold mixTo lostTo; simp [V.ownG, V.ownS])
  refine loopA (γ := Nat × V.OwnO) (fun j => [(0, .pointer (some ⟨x.db, 0, none⟩)), (1, .slice p keep.length cp), (15, .int .i64 (D.length : Nat)), (6, ownV (lostTo D keep j.1).length j.2), (16, .int .i64 (j.1 : Nat))]) (fun j => [ownG 3 ((lostTo D keep j.1).flatMap inI) j.2, [(x.db, .cells (dxC x D k).toArray 96 (0, 0))], [(x.cb, .cells (cxC x (mixTo (cutD D keep) D j.1)).toArray 87 (0, 0))]]) (fun j => j.1 ≤ D.length ∧ ownOk 1 (lostTo D keep j.1).length ((lostTo D keep j.1).flatMap inI) j.2) (fun j => D.length - j.1) ((0, none)) ⟨Nat.zero_le _, ⟨rfl, rfl⟩⟩ fun j => ?_
  rintro ⟨hj1, hj2⟩
  refine Sq <| Rg <| Lv Cm <| Nl <| Ps <| Sq ?_
  refine CW.cond rfl (fun h17 => ?_) (fun h17 => ?_)
  · replace h17 := bT h17
    have hi : j.1 < D.length := by omega
    have hmul := Nat.mul_le_mul_right 193 (show j.1 + 1 ≤ D.length from hi)
    have hml := cutD_len D keep
    have hmx := mix_len hml j.1
    have hll := lostTo_len D keep j.1
    obtain ⟨c, hc⟩ : ∃ c, D[j.1]? = some c := ⟨_, List.getElem?_eq_getElem hi⟩
    have hst := lostTo_succ (keep := keep) hc
    refine Sk <| Ps <| Sq <| Bk <| Sq <| Rg <| Lv Mv <| Lv Av <| Nl <| Ps <| Sq <| Rg <| Lv Mv <| Lv Nz <| Lv (Fa 0 82) <| Lv (Ld (v := .slice (some ⟨x.cb, 0, none⟩) D.length x.cap)) <| Lv Mv <| Lv (Val.indexAddrN rfl rfl Tryz.underlying82 Tryz.sizeOf87 hi) <| LW.re 24 (.pointer (some ⟨x.cb, j.1 * 193, none⟩)) rfl (by simp) <| Lv Av <| Nl <| Ps <| Sq <| Sq <| Rg <| Lv Mv <| Lv Nz <| Lv (La (ceC c) (r := (cx_all (x := x) (mix_at hml hc)).choose) (hl := by simpa using (cx_all (x := x) (mix_at hml hc)).choose_spec) (hs := by rw [ceC_len]; exact Tryz.sizeOf87)) <| Le (CV fun w hw => loose_g c w) fun _ _ => Nl <| Ps ?_
    refine CW.cond rfl (fun h28 => ?_) (fun h28 => ?_)
    · replace h28 := bT h28
      have h28 : looseB c = true := h28
      refine Sq <| Rg <| Lv Mv <| Lv Mv <| Le (CV fun w hw => contains_g keep p cp ((j.1 : Nat) : Int) hkl w (sl_up hw hk hkd)) fun _ _ => Nl <| Ps ?_
      refine CW.cond rfl (fun h31 => ?_) (fun h31 => ?_)
      · replace h31 := bT h31
        have h31 : ((j.1 : Nat) : Int) ∈ keep := by simpa using h31
        rw [if_neg (by simp [h31]), List.append_nil] at hst
        have hc3 : ((mixTo (cutD D keep) D j.1).set j.1 (Ce.mk c.now c.now c.way c.sent))[j.1]? = some (Ce.mk c.now c.now c.way c.sent) := List.getElem?_set_self (by rw [hmx]; omega)
        refine Rg <| Lv Mv <| Lv Mv <| Lv Nz <| Lv (Fa 0 85) <| Lv (La (byC c.now.1) (r := (cx_now (x := x) (mix_at hml hc)).choose) (hl := by simpa using (cx_now (x := x) (mix_at hml hc)).choose_spec) (hs := by rw [byC64]; exact Tryz.sizeOf85)) <| Lv Nz <| Lv (Fa 64 85) <| LeN (Eff.storeA (cs := byC c.now.1) (l := cxC x (mixTo (cutD D keep) D j.1)) (l' := cxC x ((mixTo (cutD D keep) D j.1).set j.1 (Ce.mk c.now c.now c.way c.sent))) rfl rfl (by repeat (first | exact .here | exact .inner .here | exact .inner (.inner .here) | apply Upd.there)) (by have h8 := cx_in (x := x) (mix_at hml hc) 64 (byC c.now.1) (c' := (Ce.mk c.now c.now c.way c.sent)) (ce_kept c c.now) (by simp [byC64]); simpa using h8) (by rw [cx_len]; simp [byC64, hmx]; omega) (by rw [byC64]; exact Tryz.sizeOf85) (V.byC_one _)) fun _ _ => Nl <| Ps <| Rg <| Lv Mv <| Lv Mv <| Lv Mv <| Lv Nz <| Lv (Fa 64 85) <| Lv (La (byC (Ce.mk c.now c.now c.way c.sent).kept.1) (r := (cx_kept (x := x) hc3).choose) (hl := (cx_kept (x := x) hc3).choose_spec) (hs := by rw [byC64]; exact Tryz.sizeOf85)) <| Lv Nz <| Lv (Fa 0 85) <| LeN (Eff.storeA (cs := byC (Ce.mk c.now c.now c.way c.sent).kept.1) (l := cxC x ((mixTo (cutD D keep) D j.1).set j.1 (Ce.mk c.now c.now c.way c.sent))) (l' := cxC x ((mixTo (cutD D keep) D j.1).set j.1 (Ce.mk (Ce.mk c.now c.now c.way c.sent).kept (Ce.mk c.now c.now c.way c.sent).kept (Ce.mk c.now c.now c.way c.sent).way (Ce.mk c.now c.now c.way c.sent).sent))) rfl rfl (by repeat (first | exact .here | exact .inner .here | exact .inner (.inner .here) | apply Upd.there)) (by have h8 := cx_in (x := x) hc3 0 (byC (Ce.mk c.now c.now c.way c.sent).kept.1) (c' := (Ce.mk (Ce.mk c.now c.now c.way c.sent).kept (Ce.mk c.now c.now c.way c.sent).kept (Ce.mk c.now c.now c.way c.sent).way (Ce.mk c.now c.now c.way c.sent).sent)) (ce_now (Ce.mk c.now c.now c.way c.sent) (Ce.mk c.now c.now c.way c.sent).kept) (by simp [byC64]); rw [List.set_set] at h8; simpa using h8) (by rw [cx_len]; simp [byC64, hmx]; omega) (by rw [byC64]; exact Tryz.sizeOf85) (V.byC_one _)) ?_
        intro _ _
        refine Lv Nz <| Lv (Fa 192 4) ?_
        refine LW.eN rfl (Eff.storeX (v := .bool false) (l := cxC x ((mixTo (cutD D keep) D j.1).set j.1 (Ce.mk (Ce.mk c.now c.now c.way c.sent).kept (Ce.mk c.now c.now c.way c.sent).kept (Ce.mk c.now c.now c.way c.sent).way (Ce.mk c.now c.now c.way c.sent).sent))) (l' := cxC x ((mixTo (cutD D keep) D j.1).set j.1 (Ce.mk (Ce.mk c.now c.now c.way c.sent).kept (Ce.mk c.now c.now c.way c.sent).kept (Ce.mk c.now c.now c.way c.sent).way false))) rfl rfl rfl (by repeat (first | exact .here | exact .inner .here | exact .inner (.inner .here) | apply Upd.there)) (by have h8 := cx_in (x := x) (c := (Ce.mk (Ce.mk c.now c.now c.way c.sent).kept (Ce.mk c.now c.now c.way c.sent).kept (Ce.mk c.now c.now c.way c.sent).way (Ce.mk c.now c.now c.way c.sent).sent)) (c' := (Ce.mk (Ce.mk c.now c.now c.way c.sent).kept (Ce.mk c.now c.now c.way c.sent).kept (Ce.mk c.now c.now c.way c.sent).way false)) (List.getElem?_set_self (by rw [hmx]; omega)) 192 [.bool false] (ce_sent (Ce.mk (Ce.mk c.now c.now c.way c.sent).kept (Ce.mk c.now c.now c.way c.sent).kept (Ce.mk c.now c.now c.way c.sent).way (Ce.mk c.now c.now c.way c.sent).sent) false) (by simp); rw [List.set_set] at h8; simpa [V.splice] using h8) (by rw [cx_len]; simp [hmx]; omega) Tryz.sizeOf4) ?_
        intro _ _
        refine Nl <| Bn <| Ps <| Rg <| Lv Ar <| Lv Mv <| Nl ?_
        have e8 : (Ce.mk (Ce.mk c.now c.now c.way c.sent).kept (Ce.mk c.now c.now c.way c.sent).kept (Ce.mk c.now c.now c.way c.sent).way false) = cutC keep j.1 c := by
          unfold cutC; simp [h31]
        rw [e8, mix_step hml hc (cutD_at hc)]
        rw [← hst]
        refine PQ.round ((j.1 + 1, j.2)) ⟨by simp only; omega, by simp only; rw [hst]; exact hj2⟩ (by simp only; omega) (by exact ⟨rfl, rfl, rfl, by rw [hst]; rfl, rfl, trivial⟩) (by repeat (first | exact .nil | apply Pick.cons | exact .here | apply Ext.there))
      · replace h31 := bF h31
        have h31 : ¬ ((j.1 : Nat) : Int) ∈ keep := by simpa using h31
        rw [if_pos (by simp [h28, h31])] at hst
        refine Rg <| Lv Mv <| Lv Mv <| Le (Eff.buildSlice (rfl) [_] Tryz.underlying46 Tryz.sizeOf3 (by exact Tryz.zeroValue3) rfl rfl rfl rfl (by rfl)) fun b41 _ => Le (Eff.appendAny (inI ((j.1 : Nat) : Int)) (sz := 1) (bytes := 8) (z := .int .i64 0) (xs := (lostTo D keep j.1).flatMap inI) (m0 := (lostTo D keep j.1).length) (o := j.2) (m := 1) (pk := [ownG 3 ((lostTo D keep j.1).flatMap inI) (j.2)]) rfl rfl Tryz.underlying46 (by kernel_rfl) rfl (by omega) (by repeat (first | exact .nil | apply Pick.cons | exact .here | apply Ext.there)) (by simp) hj2 (by rfl) (fun hm0 => ⟨b41, 0, rfl, fun w hw => V.range_of_block (o := 0) (cs := inI ((j.1 : Nat) : Int)) (r := []) (hw.own _ (show InS (b41, .cells (inI ((j.1 : Nat) : Int)).toArray 3 (0, 0)) _ from (by repeat (first | exact .here | exact .inner .here | exact .inner (.inner .here) | refine .there ?_))).mem) rfl⟩) (by rfl) (by omega) (by omega)) fun o2 ho2 => Lv Av <| Nl <| Ps <| Rg <| Lv Mv <| Lv Mv <| Lv Mv <| Lv Nz <| Lv (Fa 64 85) <| Lv (La (byC c.kept.1) (r := (cx_kept (x := x) (mix_at hml hc)).choose) (hl := (cx_kept (x := x) (mix_at hml hc)).choose_spec) (hs := by rw [byC64]; exact Tryz.sizeOf85)) <| Lv Nz <| Lv (Fa 0 85) <| LeN (Eff.storeA (cs := byC c.kept.1) (l := cxC x (mixTo (cutD D keep) D j.1)) (l' := cxC x ((mixTo (cutD D keep) D j.1).set j.1 (Ce.mk c.kept c.kept c.way c.sent))) rfl rfl (by repeat (first | exact .here | exact .inner .here | exact .inner (.inner .here) | apply Upd.there)) (by have h8 := cx_in (x := x) (mix_at hml hc) 0 (byC c.kept.1) (c' := (Ce.mk c.kept c.kept c.way c.sent)) (ce_now c c.kept) (by simp [byC64]);  simpa using h8) (by rw [cx_len]; simp [byC64, hmx]; omega) (by rw [byC64]; exact Tryz.sizeOf85) (V.byC_one _)) fun _ _ => Lv Nz <| Lv (Fa 192 4) ?_
        refine LW.eN rfl (Eff.storeX (v := .bool false) (l := cxC x ((mixTo (cutD D keep) D j.1).set j.1 (Ce.mk c.kept c.kept c.way c.sent))) (l' := cxC x ((mixTo (cutD D keep) D j.1).set j.1 (Ce.mk c.kept c.kept c.way false))) rfl rfl rfl (by repeat (first | exact .here | exact .inner .here | exact .inner (.inner .here) | apply Upd.there)) (by have h8 := cx_in (x := x) (c := (Ce.mk c.kept c.kept c.way c.sent)) (c' := (Ce.mk c.kept c.kept c.way false)) (List.getElem?_set_self (by rw [hmx]; omega)) 192 [.bool false] (ce_sent (Ce.mk c.kept c.kept c.way c.sent) false) (by simp); rw [List.set_set] at h8; simpa [V.splice] using h8) (by rw [cx_len]; simp [hmx]; omega) Tryz.sizeOf4) ?_
        intro _ _
        refine Nl <| Bn <| Ps <| Rg <| Lv Ar <| Lv Mv <| Nl ?_
        have e8 : (Ce.mk c.kept c.kept c.way false) = cutC keep j.1 c := by
          unfold cutC; simp [h31]
        rw [e8, mix_step hml hc (cutD_at hc)]
        rw [← show (lostTo D keep (j.1 + 1)).flatMap inI = (lostTo D keep j.1).flatMap inI ++ inI ((j.1 : Nat) : Int) by rw [hst, List.flatMap_append]; rfl]
        refine PQ.round ((j.1 + 1, o2)) ⟨by simp only; omega, by simp only; rw [hst, List.flatMap_append, List.length_append]; exact ho2⟩ (by simp only; omega) (by exact ⟨rfl, rfl, rfl, by rw [hst, List.length_append]; rfl, rfl, trivial⟩) (by repeat (first | exact .nil | apply Pick.cons | exact .here | apply Ext.there))
    · replace h28 := bF h28
      have h28 : looseB c = false := h28
      rw [if_neg (by simp [h28]), List.append_nil] at hst
      refine Sk <| Ps <| Rg <| Lv Mv <| Lv Mv <| Lv Mv <| Lv Nz <| Lv (Fa 64 85) <| Lv (La (byC c.kept.1) (r := (cx_kept (x := x) (mix_at hml hc)).choose) (hl := (cx_kept (x := x) (mix_at hml hc)).choose_spec) (hs := by rw [byC64]; exact Tryz.sizeOf85)) <| Lv Nz <| Lv (Fa 0 85) <| LeN (Eff.storeA (cs := byC c.kept.1) (l := cxC x (mixTo (cutD D keep) D j.1)) (l' := cxC x ((mixTo (cutD D keep) D j.1).set j.1 (Ce.mk c.kept c.kept c.way c.sent))) rfl rfl (by repeat (first | exact .here | exact .inner .here | exact .inner (.inner .here) | apply Upd.there)) (by have h8 := cx_in (x := x) (mix_at hml hc) 0 (byC c.kept.1) (c' := (Ce.mk c.kept c.kept c.way c.sent)) (ce_now c c.kept) (by simp [byC64]);  simpa using h8) (by rw [cx_len]; simp [byC64, hmx]; omega) (by rw [byC64]; exact Tryz.sizeOf85) (V.byC_one _)) fun _ _ => Lv Nz <| Lv (Fa 192 4) ?_
      refine LW.eN rfl (Eff.storeX (v := .bool false) (l := cxC x ((mixTo (cutD D keep) D j.1).set j.1 (Ce.mk c.kept c.kept c.way c.sent))) (l' := cxC x ((mixTo (cutD D keep) D j.1).set j.1 (Ce.mk c.kept c.kept c.way false))) rfl rfl rfl (by repeat (first | exact .here | exact .inner .here | exact .inner (.inner .here) | apply Upd.there)) (by have h8 := cx_in (x := x) (c := (Ce.mk c.kept c.kept c.way c.sent)) (c' := (Ce.mk c.kept c.kept c.way false)) (List.getElem?_set_self (by rw [hmx]; omega)) 192 [.bool false] (ce_sent (Ce.mk c.kept c.kept c.way c.sent) false) (by simp); rw [List.set_set] at h8; simpa [V.splice] using h8) (by rw [cx_len]; simp [hmx]; omega) Tryz.sizeOf4) ?_
      intro _ _
      refine Nl <| Bn <| Ps <| Rg <| Lv Ar <| Lv Mv <| Nl ?_
      have e8 : (Ce.mk c.kept c.kept c.way false) = cutC keep j.1 c := by
        have e7 : c.now = c.kept := by simpa [looseB] using h28
        unfold cutC; simp [e7]
      rw [e8, mix_step hml hc (cutD_at hc)]
      rw [← hst]
      refine PQ.round ((j.1 + 1, j.2)) ⟨by simp only; omega, by simp only; rw [hst]; exact hj2⟩ (by simp only; omega) (by exact ⟨rfl, rfl, rfl, by rw [hst]; rfl, rfl, trivial⟩) (by repeat (first | exact .nil | apply Pick.cons | exact .here | apply Ext.there))
  · replace h17 := bF h17
    have hj9 : j.1 = D.length := by omega
    have hend : (mixTo (cutD D keep) D j.1) = cutD D keep := by unfold mixTo; rw [hj9, List.take_of_length_le (by rw [cutD_len]; omega), List.drop_eq_nil_iff.2 (by omega), List.append_nil]
    rw [hend]
    refine Xt <| Te <| Te <| Bh <| Ps <| Sq <| Rg <| Lv Mv <| Lv Nz <| Lv (Fa 1 94) <| Lv (Fa 4 92) <| Le (CM ([[(x.db, .cells (dxC x D k).toArray 96 (0, 0))]]) fun w hw hs => addI_c x.db 5 (dxC x D k) 96 k.e 1 w rfl hs) fun _ _ => Nl <| Ps <| Sq <| Rg <| Lv Mv <| Lv Av <| Lv Av <| Nl <| Ps <| Rt <| Rt2 ?_
    obtain ⟨j1, jo⟩ := j
    simp only at hj9 hj1 hj2
    subst hj9
    intro w' hw
    exact ⟨jo, hj2, rfl, by unfold dvS dxC; rw [cutD_len]; exact hw.pick (by repeat (first | exact .nil | apply Pick.cons | exact .here | apply Ext.there))⟩
theorem cut_v (x : DvR) (v : Dev) (keep : List Int) (p : Option Addr) (cp : Nat) (hD : v.D.length ≤ 100000) (hkl : keep.length ≤ 100000) (w : World) (hs : Sat (vS x v) w) (hk : V.slAt w p 1 inI keep) (hkd : 0 < keep.length → ∀ b o, p = some ⟨b, o, none⟩ → b ∉ V.ids (vS x v)) : Calls Tryz.prog 20 [.pointer (some ⟨x.db, 0, none⟩), .slice p keep.length cp].toArray w fun e w' => ∃ o : V.OwnO, ownOk 1 (lostTo v.D keep v.D.length).length ((lostTo v.D keep v.D.length).flatMap inI) o ∧ e = .returned (.tuple #[ownV (lostTo v.D keep v.D.length).length o, .int .i64 0]) ∧ Hp ⟨w, V.ids ((vS x v))⟩ (ownG 3 ((lostTo v.D keep v.D.length).flatMap inI) o :: vS x (v.cut keep)) w' :=
  cut_gc x v.D v.k keep p cp hD hkl w hs hk hkd
end G
end Go.Proofs.YtcnjjefbnlgdjaaGreat

/- ReviveCuts: the law walked. -/
namespace Go.Proofs.YtcnjjefbnlgdjaaGreat
open Go Go.RowKit V
set_option linter.unusedVariables false
set_option maxRecDepth 100000
namespace G
open V (str byC ownV ownG ownS ownOk)
instance : Cal Tryz.prog 18 := ⟨Tryz.call18⟩
instance : Cal Tryz.prog 20 := ⟨Tryz.call20⟩
instance : Cal Tryz.prog 21 := ⟨Tryz.call21⟩
instance : Cal Tryz.prog 22 := ⟨Tryz.call22⟩
instance : Cal Tryz.prog 23 := ⟨Tryz.call23⟩
instance : Cal Tryz.prog 24 := ⟨Tryz.call24⟩
theorem cuts_c (clk : Int) (l : List Laid) (p : Option Addr) (c : Nat) (cs : List Int) (pc : Option Addr) (cc : Nat) (ks : List Int) (pk : Option Addr) (ck : Nat) (w : World) (hp : LdR w p l) (hcs : V.slAt w pc 1 inI cs) (hks : V.slAt w pk 1 inI ks) : Calls Tryz.prog 4 [.int .u64 clk, .slice p l.length c, .slice pc cs.length cc, .slice pk ks.length ck].toArray w fun e w' => e = .returned (.bool true) ∧ Below w.heap.size w w' := by
  refine V.calls [] Tryz.func4 rfl Tryz.ntmps4 (Nat.le_of_ble_eq_true rfl) (V.sat_nil _) <| Sq <| Rg <| Lv Av <| Nl <| Ps <| Sq <| Sq <| Rg <| Lv Mv <| Le (CV fun w hw => large_g l p c w (ldr_up hw hp)) fun _ _ => Lv Mv ?_
  refine LW.split (d := 23) rfl (fun h23 => ?_) (fun h23 => ?_)
  · replace h23 := bT h23
    refine Lp <| Lp <| Lp <| Lv Pt <| Lv Mv <| Lp <| Lp <| Lp <| Lv Pt <| Nl <| Ps <| Ct <| Sq <| Rg <| Le (CV fun w hw => awake_g w) fun _ _ => Lv Av <| Nl <| Ps <| Rt <| Tr <| Rt1 ?_
    intro w' hw; exact ⟨rfl, hw.below⟩
  · replace h23 := bF h23
    refine Lv Mv <| Lv Ln <| Lv Cm <| Lv Pf <| Lv Mv ?_
    refine LW.split (d := 28) rfl (fun h28 => ?_) (fun h28 => ?_)
    · replace h28 := bT h28
      refine Lp <| Lp <| Lp <| Lv Pt <| Nl <| Ps <| Ct <| Sq <| Rg <| Le (CV fun w hw => awake_g w) fun _ _ => Lv Av <| Nl <| Ps <| Rt <| Tr <| Rt1 ?_
      intro w' hw; exact ⟨rfl, hw.below⟩
    · replace h28 := bF h28
      refine Lv Mv <| Lv Ln <| Lv Cm <| Lv Pf <| Nl <| Ps ?_
      refine CW.cond rfl (fun h32 => ?_) (fun h32 => ?_)
      · replace h32 := bT h32
        refine Sq <| Rg <| Le (CV fun w hw => awake_g w) fun _ _ => Lv Av <| Nl <| Ps <| Rt <| Tr <| Rt1 ?_
        intro w' hw; exact ⟨rfl, hw.below⟩
      · replace h32 := bF h32
        refine Sk <| Ps <| Sq <| Rg <| Lv Mv <| Lv Mv <| Le (CM [] fun w hw hs0 => device_g 34 ⟨by omega, by omega⟩ clk l p c h23 w (ldr_up hw hp)) fun x _ => ?_
        have hln := devF_len 34 clk l
        have hcm := devF_calm 34 clk l
        generalize devF 34 clk l = vD at hln hcm ⊢
        refine Lv Av <| Nl <| Ps <| Sq <| Sq <| Rg <| Lv Mv <| Lv EP <| Nl <| Ps <| Cf <| Sk <| Ps <| Sq <| Rg <| Lv Mv <| Le (CM [] fun w hw hs0 => copy_g x vD.D vD.k (len34v hln).1 (len34v hln).2 w (hw.sat.pick (ss := vS x vD) (by repeat (first | exact .nil | apply Pick.cons | exact .here | apply Ext.there)))) fun y _ => Lv Av <| Nl <| Ps <| Sq <| Rg <| Lv Mv <| Le (CM (vS y vD) fun w hw hs0 => to22_g y vD (len34v hln) (pot34v hln) w hs0) fun z hz => ?_
        obtain ⟨rb, k, r, ar⟩ := z
        obtain ⟨h6p, hc, hX⟩ := hz
        simp only at h6p hc hX ⊢
        refine Lv Mv <| Lv Ex <| Lv Ex <| Lv Ex <| Lv Av <| Lv Av <| Lv Av <| Nl <| Ps <| Sq <| Sq <| Rg <| Lv Mv <| Lv Nt <| Nl <| Ps ?_
        refine CW.cond rfl (fun h48 => ?_) (fun h48 => ?_)
        · replace h48 := bT h48
          refine Sq <| Rg <| Lv Mv <| Lv NP <| Lv Mv <| Le (CV fun w hw => awake_g w) fun _ _ => Lv Pt <| Lv Av <| Nl <| Ps <| Rt <| Tr <| Rt1 ?_
          intro w' hw; exact ⟨rfl, hw.below⟩
        · replace h48 := bF h48
          have h6 : r.ph = 6 := by simpa using h48
          obtain ⟨y1, rfl⟩ : ∃ y1, ar = some y1 := by
            have h8 := hX.has
            rw [decide_eq_true h6] at h8
            exact Option.isSome_iff_exists.1 h8
          have hst1 := (hX.got y1 rfl).2
          obtain ⟨hO1, hg1, hkl, hrn, _, _⟩ := fin_of hcm hln hc h6 hX
          obtain ⟨P, Q, hPQ⟩ := shP_ex hO1 hg1 hkl hrn
          have hsh1 := hPQ _ hg1 y1 hO1
          generalize (runN vD cor0 k).1 = vE at hg1 hsh1 ⊢
          rw [if_pos h6, hst1]
          refine Sk <| Ps <| Sq <| Sq <| Rg <| Lv Av <| Nl <| Ps <| Bk <| loopA (γ := Nat × Dev) (fun a => [(2, .slice pc cs.length cc), (3, .slice pk ks.length ck), (9, .pointer (some ⟨x.db, 0, none⟩)), (11, .pointer (some ⟨rb, 0, none⟩)), (12, .pointer (some ⟨y1.1.a, 0, none⟩)), (14, .int .i64 (a.1 : Nat))]) (fun a => vS x a.2 ++ (rvS rb y.db r ++ (arS y1.1 y1.2 y.db ++ vS y vE))) (fun a => a.1 ≤ cs.length ∧ Same vD.D a.2.D) (fun a => cs.length - a.1) ((0, vD)) ⟨Nat.zero_le _, Same.refl hcm⟩ fun a => ?_
          rintro ⟨ha1, hsa⟩
          refine Sq <| Sq <| Rg <| Lv Mv <| Lv Mv <| Lv Ln <| Lv Cm <| Nl <| Ps ?_
          refine CW.cond rfl (fun h57 => ?_) (fun h57 => ?_)
          · replace h57 := bT h57
            have hik : a.1 < cs.length := by omega
            obtain ⟨bc, oc, cv, hpc, hbc, hcv, hrc⟩ := V.slAt_at hcs rfl (k := a.1) hik
            subst hpc
            have hln2 := hsa.len.trans hln
            refine Sk <| Ps <| Sq <| Bk <| Sq <| Rg <| Lv Mv <| Le (CM [] fun w hw hs0 => rnew2_g x.db 2 (by omega) w) fun qb _ => Lv Mv <| Lv Ex <| Lv Ex <| Lv Av <| Lv Av <| Nl <| Ps <| Sq <| Sq <| Rg <| Lv Mv <| Lv Cm <| Lv Mv <| Lv Mv <| Lv EP <| Lv Pf <| Nl <| Ps <| Cf <| Sk <| Ps <| Sq <| Sq <| Rg <| Lv Av <| Nl <| Ps <| Bk <| loopA (γ := Nat × Rvl × Option (ArR × ArS)) (fun b => [(2, .slice (some ⟨bc, oc, none⟩) cs.length cc), (3, .slice pk ks.length ck), (9, .pointer (some ⟨x.db, 0, none⟩)), (11, .pointer (some ⟨rb, 0, none⟩)), (12, .pointer (some ⟨y1.1.a, 0, none⟩)), (14, .int .i64 (a.1 : Nat)), (15, .pointer (some ⟨qb, 0, none⟩)), (17, .int .i64 (b.1 : Nat))]) (fun b => rvG qb x (runN a.2 cor0 b.1).1 b.2.1 b.2.2 ++ (rvS rb y.db r ++ (arS y1.1 y1.2 y.db ++ vS y vE))) (fun b => b.1 ≤ 90 ∧ corOf b.2.1 = (runN a.2 cor0 b.1).2 ∧ RvX 2 a.2.D.length b.2.1 b.2.2) (fun b => 90 - b.1) ((0, rv0 2, none)) ⟨by omega, rfl, rvx0 2 _⟩ fun b => ?_
            rintro ⟨hb1, hbc1, hbX⟩
            refine Sq <| Sq <| Rg <| Lv Mv <| Lv Mv <| Lv Mv <| Lv Ix <| Lv (Val.loadO rfl Tryz.isAgg3 hbc (by simp [ids]) (hrc a.1 cv hcv 0 _ rfl)) <| Le (CV fun w hw => lowF_g cv 90 ⟨by omega, by omega⟩ w) fun _ _ => Lv Cm <| Nl <| Ps ?_
            refine CW.cond rfl (fun h77 => ?_) (fun h77 => ?_)
            · replace h77 := bT h77
              have hlw := low_lt (a := cv) (m := 90) (by omega)
              obtain ⟨bk, br, bar⟩ := b
              simp only at hb1 hbc1 hbX h77 ⊢
              refine Sk <| Ps <| Sq <| Bk <| Rg <| Lv Mv ?_
              rcases bar with _ | yb
              · skip
                refine Le (CM ((rvS qb x.db br ++ vS x (runN a.2 cor0 bk).1)) fun w hw hs0 => step_gT qb x a.2 bk br 2 (by omega) (by omega) (len34v hln2) hbc1 none hbX w hs0) fun q hq => ?_
                obtain ⟨r2, ar2⟩ := q
                obtain ⟨hq1, hq2⟩ := hq
                rcases ar2 with _ | ya
                · skip
                  refine Nl <| Bn <| Ps <| Rg <| Lv Mv <| Lv Ar <| Lv Av <| Nl ?_
                  exact roundA ((bk + 1, r2, _)) ⟨by simp only; omega, hq1, hq2⟩ (by simp only; omega)
                · skip
                  refine Nl <| Bn <| Ps <| Rg <| Lv Mv <| Lv Ar <| Lv Av <| Nl ?_
                  exact roundA ((bk + 1, r2, _)) ⟨by simp only; omega, hq1, hq2⟩ (by simp only; omega)
              · skip
                refine Le (CM ((rvS qb x.db br ++ (arS yb.1 yb.2 x.db ++ vS x (runN a.2 cor0 bk).1))) fun w hw hs0 => step_gT qb x a.2 bk br 2 (by omega) (by omega) (len34v hln2) hbc1 (some yb) hbX w hs0) fun q hq => ?_
                obtain ⟨r2, ar2⟩ := q
                obtain ⟨hq1, hq2⟩ := hq
                rcases ar2 with _ | ya
                · skip
                  refine Nl <| Bn <| Ps <| Rg <| Lv Mv <| Lv Ar <| Lv Av <| Nl ?_
                  exact roundA ((bk + 1, r2, _)) ⟨by simp only; omega, hq1, hq2⟩ (by simp only; omega)
                · skip
                  refine Nl <| Bn <| Ps <| Rg <| Lv Mv <| Lv Ar <| Lv Av <| Nl ?_
                  exact roundA ((bk + 1, r2, _)) ⟨by simp only; omega, hq1, hq2⟩ (by simp only; omega)
            · replace h77 := bF h77
              refine Xt <| Te <| Te <| Bh <| Ps <| Rg <| Lv Mv ?_
              obtain ⟨bk, br, bar⟩ := b
              simp only at hb1 hbc1 hbX ⊢
              have hcs2 := cut_same hsa.calm (len34v hln2) bk ks
              have hlu := (runN_inv (len34v hln2) bk).1.len
              generalize (runN a.2 cor0 bk).1 = u at hcs2 hlu ⊢
              rcases bar with _ | yb
              · skip
                refine Lv Mv <| Le (CM (vS x u) fun w hw hs0 => cut_v x u ks pk ck (by omega) (by omega) w hs0 (hw.slAt hks (by simp [ids])) (fun h0 b q hb => lo_not hw (show Pick (vS x u) _ _ from (by repeat (first | exact .nil | apply Pick.cons | exact .here | apply Ext.there))) (sl_in hks h0 hb))) fun oL _ => Nl <| Bn <| Ps <| Rg <| Lv Mv <| Lv Ar <| Lv Av <| Nl ?_
                exact roundA ((a.1 + 1, u.cut ks)) ⟨by simp only; omega, hsa.trans hcs2⟩ (by simp only; omega)
              · skip
                refine Lv Mv <| Le (CM (vS x u) fun w hw hs0 => cut_v x u ks pk ck (by omega) (by omega) w hs0 (hw.slAt hks (by simp [ids])) (fun h0 b q hb => lo_not hw (show Pick (vS x u) _ _ from (by repeat (first | exact .nil | apply Pick.cons | exact .here | apply Ext.there))) (sl_in hks h0 hb))) fun oL _ => Nl <| Bn <| Ps <| Rg <| Lv Mv <| Lv Ar <| Lv Av <| Nl ?_
                exact roundA ((a.1 + 1, u.cut ks)) ⟨by simp only; omega, hsa.trans hcs2⟩ (by simp only; omega)
          · replace h57 := bF h57
            have hln2 := hsa.len.trans hln
            refine Xt <| Te <| Te <| Bh <| Ps <| Sq <| Rg <| Lv Mv <| Le (CM (vS x a.2) fun w hw hs0 => to22_g x a.2 (len34v hln2) (pot34v hln2) w hs0) fun z hz => ?_
            obtain ⟨sb, k2, r2, ar2⟩ := z
            obtain ⟨h6q, hc2, hX2⟩ := hz
            simp only at h6q hc2 hX2 ⊢
            obtain ⟨h62, he2, hkp2⟩ := fin_two hln hsa hc h6 hc2 h6q
            obtain ⟨y2, rfl⟩ : ∃ y2, ar2 = some y2 := by
              have h8 := hX2.has
              rw [decide_eq_true h62] at h8
              exact Option.isSome_iff_exists.1 h8
            have hst2 := (hX2.got y2 rfl).2
            obtain ⟨hO2, hg2, hkl2, _, _, _⟩ := fin_of hsa.calm hln2 hc2 h62 hX2
            rw [he2, hkp2] at hO2
            rw [hkp2] at hg2
            have hsh2 := hPQ _ hg2 y2 hO2
            generalize (runN a.2 cor0 k2).1 = vF at hg2 hsh2 ⊢
            refine Lv Mv <| Lv Ex <| Lv Ex <| LW.re 89 (.pointer (some ⟨y2.1.a, 0, none⟩)) rfl (by rw [if_pos h62, hst2]) <| Lv Ex <| LW.re 90 (.bool true) rfl (by rw [decide_eq_true h62]) <| Lv Av <| Lv Av <| Lv Av <| Nl <| Ps <| Sq <| Rg <| Lv Mv <| Lv Mv <| Lv Mv <| Le (CV fun w hw => epoch_g sb x.db r2 w hw.at) fun _ _ => LW.re 94 (.int .u64 r.e) rfl (by rw [he2]) <| Lv Mv <| Le (CV fun w hw => epoch_g rb y.db r w hw.at) fun _ _ => Lv Cm <| LW.re 97 (.bool true) rfl (by simp) <| Lv Pt <| Lv Mv <| Lv Mv <| Le (CM (([rvO sb x.db r2] :: [ownG 45 (r2.kp.flatMap fdC) r2.ko])) fun w hw hs0 => kept_e sb x.db r2 r.kp hkp2 hX2.kp hkl2 w hs0) fun o2 ho2 => ?_
            obtain ⟨pd2, cd2, hvd2, hsd2⟩ := own_slF r.kp o2 ho2
            refine LW.re 101 (.slice pd2 r.kp.length cd2) rfl hvd2 <| Lv Mv <| Le (CM (([rvO rb y.db r] :: [ownG 45 (r.kp.flatMap fdC) r.ko])) fun w hw hs0 => kept_e rb y.db r r.kp rfl hX.kp hkl w hs0) fun o1 ho1 => ?_
            obtain ⟨pd1, cd1, hvd1, hsd1⟩ := own_slF r.kp o1 ho1
            refine LW.re 103 (.slice pd1 r.kp.length cd1) rfl hvd1 <| Le (CV fun w hw => sameFound_c r.kp (by omega) pd2 pd1 cd2 cd1 w (hsd2 hw (by repeat (first | exact .nil | apply Pick.cons | exact .here | apply Ext.there))) (hsd1 hw (by repeat (first | exact .nil | apply Pick.cons | exact .here | apply Ext.there)))) fun _ _ => Lv Pt <| Lv Mv <| Lv Mv <| Le (CM ((arS y1.1 y1.2 y.db ++ vS y vE)) fun w hw hs0 => ashelf_e y1 y vE P Q hsh1 w hs0) fun s3 hs3 => ?_
            obtain ⟨sp3, sq3⟩ := s3
            obtain ⟨hsp3, hsq3⟩ := hs3
            simp only at hsp3 hsq3 ⊢
            obtain ⟨pp3, cp3, hvp3, _, hsa3⟩ := own_slg (e := 137) prC_len P sp3 hsp3
            obtain ⟨pq3, cq3, hvq3, _, hsb3⟩ := own_slg (e := 9) txC_len Q sq3 hsq3
            refine LW.re 108 (.agg #[.slice pp3 P.length cp3, .slice pq3 Q.length cq3]) rfl (by rw [hvp3, hvq3]) <| Lv Mv <| Le (CM ((arS y2.1 y2.2 x.db ++ vS x vF)) fun w hw hs0 => ashelf_e y2 x vF P Q hsh2 w hs0) fun s4 hs4 => ?_
            obtain ⟨sp4, sq4⟩ := s4
            obtain ⟨hsp4, hsq4⟩ := hs4
            simp only at hsp4 hsq4 ⊢
            obtain ⟨pp4, cp4, hvp4, _, hsa4⟩ := own_slg (e := 137) prC_len P sp4 hsp4
            obtain ⟨pq4, cq4, hvq4, _, hsb4⟩ := own_slg (e := 9) txC_len Q sq4 hsq4
            refine LW.re 110 (.agg #[.slice pp4 P.length cp4, .slice pq4 Q.length cq4]) rfl (by rw [hvp4, hvq4]) <| Le (CV fun w hw => sameShelf_c P Q (by have := hsh1.pn; omega) (by have := hsh1.qm; omega) pp3 pq3 pp4 pq4 cp3 cq3 cp4 cq4 w (hsa3 hw (by repeat (first | exact .nil | apply Pick.cons | exact .here | apply Ext.there))) (hsb3 hw (by repeat (first | exact .nil | apply Pick.cons | exact .here | apply Ext.there))) (hsa4 hw (by repeat (first | exact .nil | apply Pick.cons | exact .here | apply Ext.there))) (hsb4 hw (by repeat (first | exact .nil | apply Pick.cons | exact .here | apply Ext.there)))) fun _ _ => Lv Pt <| Lv Mv <| Le (CV fun w hw => awake_g w) fun _ _ => Lv Pt <| Lv Av <| Nl <| Ps <| Rt <| Rt1 ?_
            intro w' hw; exact ⟨rfl, hw.below⟩
end G
end Go.Proofs.YtcnjjefbnlgdjaaGreat
