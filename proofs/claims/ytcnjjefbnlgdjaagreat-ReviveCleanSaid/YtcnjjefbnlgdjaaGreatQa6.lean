import Derived.Test.YtcnjjefbnlgdjaaGreatQa5
import Derived.Lib.Hide
import Derived.DataShut
import Derived.ProofKit
import Derived.OpenShut
/- A revival: the device behind it. -/
namespace Go.Proofs.YtcnjjefbnlgdjaaGreat
open Go Go.RowKit V
set_option linter.unusedVariables false
set_option maxRecDepth 100000
namespace G
open V (str byC ownV ownG ownS ownOk)
theorem look_line (D : List Ce) (line c kd : Int) : (lookF D line c kd).line = line := by
  unfold lookF
  split
  · split <;> rfl
  · rfl
theorem dec_may {l : List UInt8} {b : Blk} (h : decF l = some b) : mayF b = true := by
  unfold decF at h
  split at h
  · cases h
  · split at h
    · rename_i hh
      simp only [Option.some.injEq] at h
      rw [← h]; exact hh.2.2.1
    · cases h
theorem look_span (D : List Ce) (line : Int) {c kd : Int} (h : spanF c ≠ 0) : spanF (lookF D line c kd).b.cls ≠ 0 := by
  unfold lookF
  split
  · split
    · rename_i b hb; exact may_span (dec_may hb)
    · exact h
  · exact h
theorem scN_line {D : List Ce} {nx : Int} {f : Fnd} (h : scN D nx = some f) : f.line = 2 + nx := by
  unfold scN at h
  split at h
  · cases h
  · split at h
    · cases h
    · simp only [Option.some.injEq] at h
      rw [← h]; exact look_line _ _ _ _
theorem scN_span {D : List Ce} {nx : Int} {f : Fnd} (h : scN D nx = some f) : spanF f.b.cls ≠ 0 := by
  unfold scN at h
  split at h
  · cases h
  · rename_i c kd hh
    split at h
    · cases h
    · simp only [Option.some.injEq] at h
      rw [← h]; exact look_span _ _ (head_some hh).2.1
theorem scN_none {D : List Ce} {nx : Int} (h : scN D nx = none) {c kd : Nat} (hh : headF (nowL D (2 + nx)) = some (c, kd)) : kd = 0 := by
  unfold scN at h
  rw [hh] at h
  simp only at h
  split at h
  · assumption
  · cases h
theorem fds_mem {D : List Ce} {m : Int} {f : Fnd} : f ∈ fds D m ↔ ∃ i : Nat, i < m.toNat ∧ scN D (i : Nat) = some f := by
  unfold fds
  rw [List.mem_filterMap]
  simp only [List.mem_range]
theorem fds_one {D : List Ce} {m : Int} {f g : Fnd} (hf : f ∈ fds D m) (hg : g ∈ fds D m) (h : f.line = g.line) : f = g := by
  obtain ⟨i, _, hi⟩ := fds_mem.1 hf
  obtain ⟨j, _, hj⟩ := fds_mem.1 hg
  have h1 := scN_line hi
  have h2 := scN_line hj
  have e : i = j := by omega
  subst e
  rw [hi] at hj
  exact Option.some.inj hj
theorem draft_head {c : Int} (h : spanF c ≠ 0) : (headF (draftL c)).map Prod.snd = some 0 := by
  rcases spanF_cases c with ⟨a, _⟩ | ⟨a, _⟩ | ⟨a, _⟩ | ⟨a, _⟩ | ⟨a, e⟩
  · subst a; decide +kernel
  · subst a; decide +kernel
  · subst a; decide +kernel
  · subst a; decide +kernel
  · exact absurd e h
def Calm (D : List Ce) : Prop := ∀ c ∈ D, c.kept = c.now ∧ c.sent = false
theorem keep_not {e : Int} {fd : List Fnd} {f : Fnd} (h : keepF e fd f = true) : scrubF e fd f = false ∧ antiF e f = false := by
  have ha : antiF e f = false := by
    unfold keepF payF at h
    unfold antiF
    simp only [Bool.and_eq_true, decide_eq_true_eq] at h
    rw [decide_eq_false h.1.2, Bool.and_false]
  exact ⟨by unfold scrubF; rw [h]; simp, ha⟩
theorem fen_at {D : List Ce} {i : Nat} {c' : Ce} (h : (D.map fenB)[i]? = some c') : ∃ c, D[i]? = some c ∧ c' = fenB c := by
  rw [List.getElem?_map, Option.map_eq_some_iff] at h
  obtain ⟨c, h1, h2⟩ := h
  exact ⟨c, h1, h2.symm⟩
/-- A line behind the wipes and their fence: as it was, or a draft in both copies. -/
theorem wiped_at {D : List Ce} {fs : List Fnd} {i : Nat} {c' : Ce} (hc : Calm D) (hl : ∀ f ∈ fs, spanF f.b.cls ≠ 0) (h : ((wl D fs).map fenB)[i]? = some c') : (D[i]? = some c' ∧ ∀ f ∈ fs, f.line ≠ (i : Nat)) ∨ (c'.kept = c'.now ∧ c'.sent = false ∧ ∃ f ∈ fs, f.line = (i : Nat) ∧ c'.now.1 = draftL f.b.cls) := by
  obtain ⟨c, h1, rfl⟩ := fen_at h
  rcases wl_at (fun f hf => draftL_len (hl f hf)) h1 with ⟨h2, h3⟩ | ⟨f, hf, h2, h3, h4, h5⟩
  · have h8 := hc c (List.mem_of_getElem? h2)
    have e : fenB c = c := by unfold fenB; rw [if_neg (by rw [h8.2]; decide)]
    rw [e]
    exact .inl ⟨h2, h3⟩
  · right
    unfold fenB
    rw [if_pos h5]
    exact ⟨h4, rfl, f, hf, h2, h3⟩
theorem wiped_calm {D : List Ce} {fs : List Fnd} (hc : Calm D) (hl : ∀ f ∈ fs, spanF f.b.cls ≠ 0) : Calm ((wl D fs).map fenB) := by
  intro c hcm
  obtain ⟨i, hi⟩ := List.mem_iff_getElem?.1 hcm
  rcases wiped_at hc hl hi with ⟨h1, _⟩ | ⟨h1, h2, _⟩
  · exact hc c (List.mem_of_getElem? h1)
  · exact ⟨h1, h2⟩
/-- The device behind a revival. -/
theorem clean_end {n : Nat} {D0 : List Ce} {v : Dev} {c : Cor} (h : Cln D0 v c) (hI : Inv n v c) (hc : Calm D0) (hp : c.ph = 6) {i : Nat} {c' : Ce} (hi : v.D[i]? = some c') : c'.kept = c'.now ∧ ((∀ f ∈ c.kp, f.line ≠ (i : Nat)) → (2 ≤ i ∧ (i : Int) < 2 + slabsF D0.length * 8) → ∀ a kd, headF c'.now.1 = some (a, kd) → kd = 0) ∧ (∀ f ∈ c.kp, f.line = (i : Nat) → D0[i]? = some c') := by
  have hv := h.p5 (by omega) (by omega)
  have hfd := h.f2 (by omega) (by omega)
  have hkp := (hI.kp (by omega) (by omega)).1
  have hsp : ∀ f ∈ c.fd, spanF f.b.cls ≠ 0 := fun f hf => by
    rw [hfd] at hf
    obtain ⟨j, _, hj⟩ := fds_mem.1 hf
    exact scN_span hj
  have hs1 : ∀ f ∈ c.fd.filter (scrubF c.e c.fd), spanF f.b.cls ≠ 0 := fun f hf => hsp f (List.mem_filter.1 hf).1
  have hs2 : ∀ f ∈ c.fd.filter (antiF c.e), spanF f.b.cls ≠ 0 := fun f hf => hsp f (List.mem_filter.1 hf).1
  have hc1 := wiped_calm hc hs1
  have hc2 := wiped_calm hc1 hs2
  rw [hv] at hi
  have hk := (hc2 c' (List.mem_of_getElem? hi)).1
  have hone : ∀ f ∈ c.kp, ∀ g ∈ c.fd, f.line = (i : Nat) → g.line = (i : Nat) → scrubF c.e c.fd g = false ∧ antiF c.e g = false := fun f hf g hg h1 h2 => by
    rw [hkp] at hf
    have h3 := List.mem_filter.1 hf
    have e : f = g := fds_one (by rw [← hfd]; exact h3.1) (by rw [← hfd]; exact hg) (h1.trans h2.symm)
    rw [← e]
    exact keep_not h3.2
  have hdr : ∀ f ∈ c.fd, c'.now.1 = draftL f.b.cls → ∀ a kd, headF c'.now.1 = some (a, kd) → kd = 0 := fun f hf h1 a kd h2 => by
    have h3 := draft_head (hsp f hf)
    rw [← h1, h2] at h3
    simpa using h3
  rcases wiped_at hc1 hs2 hi with ⟨h1, h2⟩ | ⟨h1, h2, f, hf, h3, h4⟩
  · rcases wiped_at hc hs1 h1 with ⟨h5, h6⟩ | ⟨h5, h6, f, hf, h7, h8⟩
    · refine ⟨hk, fun hno hin a kd hh => ?_, fun f hf hfl => h5⟩
      have hsl := slabs_lt D0.length
      cases hs : scN D0 ((i - 2 : Nat) : Int) with
      | none =>
        refine scN_none hs (c := a) (kd := kd) ?_
        rw [show (2 : Int) + ((i - 2 : Nat) : Int) = (i : Nat) by omega, nowL_of h5]
        exact hh
      | some f =>
        exfalso
        have hfm : f ∈ c.fd := by rw [hfd]; exact fds_mem.2 ⟨i - 2, by omega, hs⟩
        have hfl : f.line = (i : Nat) := by rw [scN_line hs]; omega
        have hna : antiF c.e f = false := by
          cases e : antiF c.e f with
          | false => rfl
          | true => exact absurd hfl (h2 f (List.mem_filter.2 ⟨hfm, e⟩))
        have hns : scrubF c.e c.fd f = false := by
          cases e : scrubF c.e c.fd f with
          | false => rfl
          | true => exact absurd hfl (h6 f (List.mem_filter.2 ⟨hfm, e⟩))
        have hkf : keepF c.e c.fd f = true := by
          unfold scrubF at hns
          rw [hna] at hns
          simpa using hns
        exact hno f (by rw [hkp]; exact List.mem_filter.2 ⟨hfm, hkf⟩) hfl
    · refine ⟨hk, fun _ _ => hdr f (List.mem_filter.1 hf).1 h8, fun g hg hgl => ?_⟩
      have h9 := List.mem_filter.1 hf
      have := (hone g hg f h9.1 hgl h7).1
      rw [h9.2] at this; cases this
  · refine ⟨hk, fun _ _ => hdr f (List.mem_filter.1 hf).1 h4, fun g hg hgl => ?_⟩
    have h9 := List.mem_filter.1 hf
    have := (hone g hg f h9.1 hgl h3).2
    rw [h9.2] at this; cases this
end G
end Go.Proofs.YtcnjjefbnlgdjaaGreat

/- A revival to its end. -/
namespace Go.Proofs.YtcnjjefbnlgdjaaGreat
open Go Go.RowKit V
set_option linter.unusedVariables false
set_option maxRecDepth 100000
namespace G
open V (str byC ownV ownG ownS ownOk)
theorem phase_g (rb db : Nat) (r : Rvl) (w : World) (hB : w.heap[rb]? = some (.cells (rvC db r).toArray 113 (0, 0))) : Calls Tryz.prog 25 [.pointer (some ⟨rb, 0, none⟩)].toArray w fun e w' => e = .returned (.int .i64 r.ph) ∧ Below w.heap.size w w' := by
  refine V.calls [] Tryz.func25 rfl Tryz.ntmps25 (Nat.le_of_ble_eq_true rfl) (V.sat_nil _) <| Sq <| Rg <| Lv Av <| Nl <| Ps <| Sq <| Sq <| Rg <| Lv Mv <| Lv EP <| Nl <| Ps <| Cf <| Sk <| Ps <| Sq <| Rg <| Lv Mv <| Lv Nz <| Lv (Fa 2 3) <| Lv (Val.loadO rfl Tryz.isAgg3 (V.lt_of_some hB) (by simp [ids]) (V.cell_of_block hB rfl)) <| Lv Av <| Nl <| Ps <| Rt <| Rt1 ?_
  intro w' hw; exact ⟨rfl, hw.below⟩
theorem epoch_g (rb db : Nat) (r : Rvl) (w : World) (hB : w.heap[rb]? = some (.cells (rvC db r).toArray 113 (0, 0))) : Calls Tryz.prog 21 [.pointer (some ⟨rb, 0, none⟩)].toArray w fun e w' => e = .returned (.int .u64 r.e) ∧ Below w.heap.size w w' := by
  refine V.calls [] Tryz.func21 rfl Tryz.ntmps21 (Nat.le_of_ble_eq_true rfl) (V.sat_nil _) <| Sq <| Rg <| Lv Av <| Nl <| Ps <| Sq <| Sq <| Rg <| Lv Mv <| Lv EP <| Nl <| Ps <| Cf <| Sk <| Ps <| Sq <| Rg <| Lv Mv <| Lv Nz <| Lv (Fa 3 22) <| Lv (Val.loadO rfl Tryz.isAgg22 (V.lt_of_some hB) (by simp [ids]) (V.cell_of_block hB rfl)) <| Lv Av <| Nl <| Ps <| Rt <| Rt1 ?_
  intro w' hw; exact ⟨rfl, hw.below⟩
def runN (v : Dev) (c : Cor) : Nat → Dev × Cor
  | 0 => (v, c)
  | k + 1 => ((stp (runN v c k).1 (runN v c k).2).1, (stp (runN v c k).1 (runN v c k).2).2.1)
def cor0 : Cor := ⟨0, 0, 0, [], []⟩
theorem inv0 (v : Dev) (h : 0 < v.D.length ∧ v.D.length ≤ 1000) : Inv v.D.length v cor0 := ⟨rfl, h, by decide, fun h8 => absurd h8 (by decide), by decide, fun _ => rfl, fun h8 => absurd h8 (by decide), by decide, fun f hf => (by cases hf), fun h8 => absurd h8 (by decide), fun h8 => absurd h8 (by decide), fun h8 => absurd h8 (by decide)⟩
theorem cln0 (v : Dev) : Cln v.D v cor0 := ⟨fun _ => rfl, fun h8 => absurd h8 (by decide), fun h8 => absurd h8 (by decide), fun h8 => absurd h8 (by decide), fun h8 => absurd h8 (by decide), fun h8 => absurd h8 (by decide)⟩
theorem rvx0 (th n : Nat) : RvX th n (rv0 (th : Nat)) none := ⟨rfl, ⟨rfl, rfl⟩, ⟨rfl, rfl⟩, fun _ => ⟨rfl, rfl⟩, rfl, fun y h => by cases h⟩
theorem cor_rv0 (th : Int) : corOf (rv0 th) = cor0 := rfl
theorem runN_inv {v : Dev} (h : 0 < v.D.length ∧ v.D.length ≤ 1000) : ∀ k, Inv v.D.length (runN v cor0 k).1 (runN v cor0 k).2 ∧ Cln v.D (runN v cor0 k).1 (runN v cor0 k).2
  | 0 => ⟨inv0 v h, cln0 v⟩
  | k + 1 => by
    obtain ⟨h1, h2⟩ := runN_inv h k
    exact ⟨h1.step, h2.step h1 rfl⟩
end G
end Go.Proofs.YtcnjjefbnlgdjaaGreat

/- A revival to its end: the law's own function. -/
namespace Go.Proofs.YtcnjjefbnlgdjaaGreat
open Go Go.RowKit V
set_option linter.unusedVariables false
set_option maxRecDepth 100000
namespace G
open V (str byC ownV ownG ownS ownOk)
instance : Cal Tryz.prog 17 := ⟨Tryz.call17⟩
instance : Cal Tryz.prog 19 := ⟨Tryz.call19⟩
instance : Cal Tryz.prog 25 := ⟨Tryz.call25⟩
instance : Cal Tryz.prog 32 := ⟨Tryz.call32⟩
theorem arena2_g (rb db : Nat) (r : Rvl) (w : World) (hB : w.heap[rb]? = some (.cells (rvC db r).toArray 113 (0, 0))) : Calls Tryz.prog 32 [.pointer (some ⟨rb, 0, none⟩)].toArray w fun e w' => e = .returned (.tuple #[if r.ph = 6 then r.st else .pointer none, .bool (decide (r.ph = 6))]) ∧ Below w.heap.size w w' := by
  refine V.calls [] Tryz.func32 rfl Tryz.ntmps32 (Nat.le_of_ble_eq_true rfl) (V.sat_nil _) <| Sq <| Rg <| Lv Av <| Lv Av <| Nl <| Ps <| Sq <| Sq <| Rg <| Lv Mv <| Lv EP <| Lv Mv <| Lv Mv <| Lv Nz <| Lv (Fa 2 3) <| Lv (Val.loadO rfl Tryz.isAgg3 (V.lt_of_some hB) (by simp [ids]) (V.cell_of_block hB rfl)) <| Lv Cm <| Lv Pf <| Nl <| Ps ?_
  refine CW.cond rfl (fun h12 => ?_) (fun h12 => ?_)
  · replace h12 := bT h12
    have h12 : ¬ r.ph = 6 := h12
    refine Sq <| Rg <| Lv Av <| Lv Av <| Nl <| Ps <| Rt <| Tr <| Rt2 ?_
    rw [if_neg h12, decide_eq_false h12]
    intro w' hw; exact ⟨rfl, hw.below⟩
  · replace h12 := bF h12
    have h12 : r.ph = 6 := by simpa using h12
    refine Sk <| Ps <| Sq <| Rg <| Lv Mv <| Lv Nz <| Lv (Fa 10 30) <| Lv (Val.loadO rfl Tryz.isAgg30 (V.lt_of_some hB) (by simp [ids]) (V.cell_of_block hB rfl)) <| Lv Av <| Lv Av <| Nl <| Ps <| Rt <| Rt2 ?_
    rw [if_pos h12, decide_eq_true h12]
    intro w' hw; exact ⟨rfl, hw.below⟩
theorem step_gN (rb : Nat) (x : DvR) (v : Dev) (k : Nat) (r : Rvl) (hL : 0 < v.D.length ∧ v.D.length ≤ 1000) (hc : corOf r = (runN v cor0 k).2) (hX : RvX 2 v.D.length r none) (w : World) (hs : Sat (rvS rb x.db r ++ vS x (runN v cor0 k).1) w) : Calls Tryz.prog 19 [.pointer (some ⟨rb, 0, none⟩)].toArray w fun e w' => ∃ q : Rvl × Option (ArR × ArS), (corOf q.1 = (runN v cor0 (k + 1)).2 ∧ RvX 2 v.D.length q.1 q.2) ∧ e = .returned (.int .i64 (stp (runN v cor0 k).1 (corOf r)).2.2) ∧ Hp ⟨w, V.ids (rvS rb x.db r ++ vS x (runN v cor0 k).1)⟩ (rvG rb x (runN v cor0 (k + 1)).1 q.1 q.2) w' := by
  have hi := (runN_inv hL k).1
  have hl := hi.len
  rw [← hc] at hi
  have h8 := step_g rb x (runN v cor0 k).1 r none 2 (by omega) (by omega) (by rw [hl]; exact hi) (by rw [hl]; exact hX) w hs
  rw [hl, hc] at h8
  rw [hc]
  exact h8
theorem stepN_pot {v : Dev} {k : Nat} {r : Rvl} (hL : 0 < v.D.length ∧ v.D.length ≤ 1000) (hc : corOf r = (runN v cor0 k).2) (h6 : r.ph < 6) : pot v.D.length (runN v cor0 (k + 1)).2 + 1 ≤ pot v.D.length (corOf r) := by
  have hi := (runN_inv hL k).1
  rw [← hc] at hi
  have h8 := hi.pot_step h6
  rw [hc] at h8 ⊢
  exact h8
theorem to22_g (x : DvR) (v : Dev) (hL : 0 < v.D.length ∧ v.D.length ≤ 1000) (hpo : pot v.D.length cor0 ≤ 600) (w : World) (hs : Sat (vS x v) w) : Calls Tryz.prog 10 [.pointer (some ⟨x.db, 0, none⟩)].toArray w fun e w' => ∃ z : Nat × Nat × Rvl × Option (ArR × ArS), (6 ≤ z.2.2.1.ph ∧ corOf z.2.2.1 = (runN v cor0 z.2.1).2 ∧ RvX 2 v.D.length z.2.2.1 z.2.2.2) ∧ e = .returned (.tuple #[.pointer (some ⟨z.1, 0, none⟩), (if z.2.2.1.ph = 6 then z.2.2.1.st else .pointer none), .bool (decide (z.2.2.1.ph = 6))]) ∧ Hp ⟨w, V.ids ((vS x v))⟩ (rvG z.1 x (runN v cor0 z.2.1).1 z.2.2.1 z.2.2.2) w' := by
  refine V.calls (vS x v) Tryz.func10 rfl Tryz.ntmps10 (Nat.le_of_ble_eq_true rfl) hs <| Sq <| Rg <| Lv Av <| Lv Av <| Lv Av <| Nl <| Ps <| Sq <| Rg <| Lv Mv <| Le (CM [] fun w hw hs0 => rnew2_g x.db 2 (by omega) w) fun rb _ => Lv Mv <| Lv Ex <| Lv Ex <| Lv Av <| Lv Av <| Nl <| Ps <| Sq <| Sq <| Rg <| Lv Mv <| Lv Cm <| Lv Mv <| Lv Mv <| Lv EP <| Lv Pf <| LW.re 20 (.bool false) rfl (by rfl) <| Nl <| Ps <| Cf <| Sk <| Ps <| Sq <| Sq <| Rg <| Lv Av <| Nl <| Ps <| Bk <| loopA (γ := Nat × Rvl × Option (ArR × ArS)) (fun z => [(5, .pointer (some ⟨rb, 0, none⟩)), (7, .int .i64 (z.1 : Nat))]) (fun z => rvG rb x (runN v cor0 z.1).1 z.2.1 z.2.2) (fun z => corOf z.2.1 = (runN v cor0 z.1).2 ∧ RvX 2 v.D.length z.2.1 z.2.2 ∧ (z.1 : Int) + pot v.D.length (corOf z.2.1) ≤ 600) (fun z => 600 - z.1) ((0, rv0 2, none)) ⟨rfl, rvx0 2 _, by show ((0 : Nat) : Int) + pot v.D.length cor0 ≤ 600; omega⟩ fun z => ?_
  rintro ⟨hc, hX, hpt⟩
  refine Sq <| Sq <| Rg <| Lv Mv <| Lv Cm <| Lv Mv ?_
  refine LW.split (d := 23) rfl (fun h23 => ?_) (fun h23 => ?_)
  · replace h23 := bT h23
    have h22 : z.1 < 600 := by omega
    refine Lv Mv <| Le (CV fun w hw => phase_g rb x.db z.2.1 w hw.at) fun _ _ => Lv Cm <| Lv Pt <| Nl <| Ps ?_
    refine CW.cond rfl (fun h27 => ?_) (fun h27 => ?_)
    · replace h27 := bT h27
      obtain ⟨k, r, ar⟩ := z
      have h26 : r.ph < 6 := h27
      obtain rfl : ar = none := by
        cases ar with
        | none => rfl
        | some y => have h8 := hX.has; rw [decide_eq_false (by simp only at h26 ⊢; omega)] at h8; cases h8
      refine Sk <| Ps <| Sq <| Bk <| Rg <| Lv Mv <| Le (CM ((rvS rb x.db r ++ vS x (runN v cor0 k).1)) fun w hw hs0 => step_gN rb x v k r hL hc hX w hs0) fun q hq => ?_
      obtain ⟨r2, ar2⟩ := q
      obtain ⟨hq1, hq2⟩ := hq
      rcases ar2 with _ | y
      · skip
        refine Nl <| Bn <| Ps <| Rg <| Lv Mv <| Lv Ar <| Lv Av <| Nl ?_
        exact roundA ((k + 1, r2, _)) ⟨hq1, hq2, by have := stepN_pot hL hc h26; rw [hq1]; simp only at hpt this ⊢; omega⟩ (by simp only; omega)
      · skip
        refine Nl <| Bn <| Ps <| Rg <| Lv Mv <| Lv Ar <| Lv Av <| Nl ?_
        exact roundA ((k + 1, r2, _)) ⟨hq1, hq2, by have := stepN_pot hL hc h26; rw [hq1]; simp only at hpt this ⊢; omega⟩ (by simp only; omega)
    · replace h27 := bF h27
      refine Xt <| Te <| Te <| Bh <| Ps <| Sq <| Rg <| Lv Mv <| Le (CV fun w hw => arena2_g rb x.db z.2.1 w hw.at) fun _ _ => Lv Mv <| Lv Ex <| Lv Ex <| Lv Av <| Lv Av <| Nl <| Ps <| Sq <| Rg <| Lv Mv <| Lv Mv <| Lv Mv <| Lv Mv ?_
      refine LW.split (d := 40) rfl (fun h40 => ?_) (fun h40 => ?_)
      · replace h40 := bT h40
        obtain ⟨y, hy⟩ : ∃ y, z.2.2 = some y := by
          have h8 := hX.has
          rw [decide_eq_true h40] at h8
          exact Option.isSome_iff_exists.1 h8
        have hst := (hX.got y hy).2
        refine Lv Mv <| LW.re 41 (.pointer (some ⟨y.1.a, 0, none⟩)) rfl (by rw [if_pos h40, hst]) <| Lv NP <| Lv Pt <| Lv Av <| Lv Av <| Lv Av <| Nl <| Ps <| Rt <| Rt3 ?_
        have hi := (runN_inv hL z.1).1
        rw [← hc] at hi
        have hpn := hi.pot_nn
        have h9 : (corOf z.2.1).ph = z.2.1.ph := rfl
        have hend : 6 ≤ z.2.1.ph := by
          have h8 := hpn.2
          rw [h9] at h8
          by_cases e : z.1 < 600
          · omega
          · exact h8 (by omega)
        intro w' hw; exact ⟨(rb, z.1, z.2.1, z.2.2), ⟨hend, hc, hX⟩, by simp only [decide_eq_true h40], hw⟩
      · replace h40 := bF h40
        refine Lp <| Lp <| Lv Pf <| Lv Av <| Lv Av <| Lv Av <| Nl <| Ps <| Rt <| Rt3 ?_
        have hi := (runN_inv hL z.1).1
        rw [← hc] at hi
        have hpn := hi.pot_nn
        have h9 : (corOf z.2.1).ph = z.2.1.ph := rfl
        have hend : 6 ≤ z.2.1.ph := by
          have h8 := hpn.2
          rw [h9] at h8
          by_cases e : z.1 < 600
          · omega
          · exact h8 (by omega)
        intro w' hw; exact ⟨(rb, z.1, z.2.1, z.2.2), ⟨hend, hc, hX⟩, by simp only [decide_eq_false h40], hw⟩
  · replace h23 := bF h23
    refine Lp <| Lp <| Lp <| Lv Pf <| Nl <| Ps <| Cf <| Xt <| Te <| Te <| Bh <| Ps <| Sq <| Rg <| Lv Mv <| Le (CV fun w hw => arena2_g rb x.db z.2.1 w hw.at) fun _ _ => Lv Mv <| Lv Ex <| Lv Ex <| Lv Av <| Lv Av <| Nl <| Ps <| Sq <| Rg <| Lv Mv <| Lv Mv <| Lv Mv <| Lv Mv ?_
    refine LW.split (d := 40) rfl (fun h40 => ?_) (fun h40 => ?_)
    · replace h40 := bT h40
      obtain ⟨y, hy⟩ : ∃ y, z.2.2 = some y := by
        have h8 := hX.has
        rw [decide_eq_true h40] at h8
        exact Option.isSome_iff_exists.1 h8
      have hst := (hX.got y hy).2
      refine Lv Mv <| LW.re 41 (.pointer (some ⟨y.1.a, 0, none⟩)) rfl (by rw [if_pos h40, hst]) <| Lv NP <| Lv Pt <| Lv Av <| Lv Av <| Lv Av <| Nl <| Ps <| Rt <| Rt3 ?_
      have hi := (runN_inv hL z.1).1
      rw [← hc] at hi
      have hpn := hi.pot_nn
      have h9 : (corOf z.2.1).ph = z.2.1.ph := rfl
      have hend : 6 ≤ z.2.1.ph := by
        have h8 := hpn.2
        rw [h9] at h8
        by_cases e : z.1 < 600
        · omega
        · exact h8 (by omega)
      intro w' hw; exact ⟨(rb, z.1, z.2.1, z.2.2), ⟨hend, hc, hX⟩, by simp only [decide_eq_true h40], hw⟩
    · replace h40 := bF h40
      refine Lp <| Lp <| Lv Pf <| Lv Av <| Lv Av <| Lv Av <| Nl <| Ps <| Rt <| Rt3 ?_
      have hi := (runN_inv hL z.1).1
      rw [← hc] at hi
      have hpn := hi.pot_nn
      have h9 : (corOf z.2.1).ph = z.2.1.ph := rfl
      have hend : 6 ≤ z.2.1.ph := by
        have h8 := hpn.2
        rw [h9] at h8
        by_cases e : z.1 < 600
        · omega
        · exact h8 (by omega)
      intro w' hw; exact ⟨(rb, z.1, z.2.1, z.2.2), ⟨hend, hc, hX⟩, by simp only [decide_eq_false h40], hw⟩
end G
end Go.Proofs.YtcnjjefbnlgdjaaGreat

/- What is kept, told; bytes alike. -/
namespace Go.Proofs.YtcnjjefbnlgdjaaGreat
open Go Go.RowKit V
set_option linter.unusedVariables false
set_option maxRecDepth 100000
namespace G
open V (str byC ownV ownG ownS ownOk)
instance : Cal Tryz.prog 40 := ⟨Tryz.call40⟩
instance : Inhabited Fnd := ⟨fd0⟩
theorem fd_oneF (l : List Fnd) : (l.flatMap fdC).all (·.oneCell') = true := by
  induction l with
  | nil => rfl
  | cons f r ih => rw [List.flatMap_cons, List.all_append, ih]; rfl
theorem cloneFd_c (l : List Fnd) (p : Option Addr) (c : Nat) (hl : l.length ≤ 1000) (w : World) (h : V.slAt w p 9 fdC l) : Calls Tryz.prog 40 [.slice p l.length c].toArray w fun e w' => ∃ o : V.OwnO, ownOk 9 l.length (l.flatMap fdC) o ∧ e = .returned (ownV l.length o) ∧ Hp ⟨w, []⟩ [ownG 45 (l.flatMap fdC) o] w' := by
  refine V.calls [] Tryz.func40 rfl Tryz.ntmps40 (Nat.le_of_ble_eq_true rfl) (V.sat_nil _) <| Sq <| Rg <| Lv Av <| Nl <| Ps <| Sq <| Sq <| Rg <| Lv Mv <| Lv (Val.eqSlNil rfl rfl Tryz.underlying33) <| Nl <| Ps ?_
  refine CW.cond rfl (fun h4 => ?_) (fun h4 => ?_)
  · replace h4 := bT h4
    have hpn : p = none := by cases p with | none => rfl | some q => simp at h4
    obtain rfl : l = [] := by
      rcases h with h | ⟨b, o, h, _⟩
      · exact h
      · rw [hpn] at h; cases h
    refine Sq <| Rg <| Lv Av <| Nl <| Ps <| Rt <| Tr <| Rt1 ?_
    intro w' hw; exact ⟨none, ⟨rfl, rfl⟩, rfl, hw.perm (.refl _)⟩
  · replace h4 := bF h4
    refine Sk <| Ps <| Sq <| Rg <| Le (Eff.buildSlice0 Tryz.underlying33 Tryz.sizeOf45) fun b5 _ => Lv Mv <| Le (Eff.appendAny (l.flatMap fdC) (sz := 9) (bytes := 88) (z := .agg #[.int .i64 0, .bool false, .int .i64 0, .int .i64 0, .int .u64 0, .int .u64 0, .int .u64 0, .string ⟨#[]⟩, .string ⟨#[]⟩]) (xs := []) (m0 := 0) (o := some (b5, [], 0)) (m := l.length) (pk := [ownG 45 [] (some (b5, [], 0))]) rfl rfl Tryz.underlying33 (by kernel_rfl) rfl (by omega) (by repeat (first | exact .nil | apply Pick.cons | exact .here | apply Ext.there)) (by simp) ⟨rfl, rfl⟩ (V.flatMap_len fdC_len _) (fun hm0 => by obtain ⟨b8, o8, h8, h9⟩ := sl_range (F := []) fdC_len h hm0 (by simp); exact ⟨b8, o8, h8, fun w1 hw1 => h9 w1 hw1⟩) (fd_oneF l) (by omega) (by omega)) fun o2 ho2 => ?_
    have h2 : ownOk 9 l.length (l.flatMap fdC) o2 := by simpa using ho2
    rw [List.nil_append, Nat.zero_add]
    refine Lv Av <| Nl <| Ps <| Rt <| Rt1 ?_
    intro w' hw; exact ⟨o2, h2, rfl, hw.pick (by repeat (first | exact .nil | apply Pick.cons | exact .here | apply Ext.there))⟩
theorem kept_g (rb db : Nat) (r : Rvl) (hk : ownOk 9 r.kp.length (r.kp.flatMap fdC) r.ko) (hl : r.kp.length ≤ 1000) (w : World) (hs : Sat ([rvO rb db r] :: [ownG 45 (r.kp.flatMap fdC) r.ko]) w) : Calls Tryz.prog 11 [.pointer (some ⟨rb, 0, none⟩)].toArray w fun e w' => ∃ o : V.OwnO, ownOk 9 r.kp.length (r.kp.flatMap fdC) o ∧ e = .returned (ownV r.kp.length o) ∧ Hp ⟨w, V.ids (([rvO rb db r] :: [ownG 45 (r.kp.flatMap fdC) r.ko]))⟩ ([ownG 45 (r.kp.flatMap fdC) o, [rvO rb db r], ownG 45 (r.kp.flatMap fdC) r.ko]) w' := by
  obtain ⟨pd, cd, hvd, hsd⟩ := own_slF r.kp r.ko hk
  refine V.calls ([rvO rb db r] :: [ownG 45 (r.kp.flatMap fdC) r.ko]) Tryz.func11 rfl Tryz.ntmps11 (Nat.le_of_ble_eq_true rfl) hs <| Sq <| Rg <| Lv Av <| Nl <| Ps <| Sq <| Sq <| Rg <| Lv Mv <| Lv EP <| Nl <| Ps <| Cf <| Sk <| Ps <| Sq <| Rg <| Lv Mv <| Lv Nz <| Lv (Fa 6 33) <| Lv (Ld (v := ownV r.kp.length r.ko)) <| LW.re 8 (.slice pd r.kp.length cd) rfl hvd <| Le (CM [] fun w hw hs => cloneFd_c r.kp pd cd hl w (hsd hw (by repeat (first | exact .nil | apply Pick.cons | exact .here | apply Ext.there)))) fun o ho => Lv Av <| Nl <| Ps <| Rt <| Rt1 ?_
  intro w' hw; exact ⟨o, ho, rfl, hw.pick (by repeat (first | exact .nil | apply Pick.cons | exact .here | apply Ext.there))⟩
end G
end Go.Proofs.YtcnjjefbnlgdjaaGreat

/- Bytes alike. -/
namespace Go.Proofs.YtcnjjefbnlgdjaaGreat
open Go Go.RowKit V
set_option linter.unusedVariables false
set_option maxRecDepth 100000
namespace G
open V (str byC ownV ownG ownS ownOk)
theorem same_g (a b : List UInt8) (p q : Option Addr) (c d : Nat) (w : World) (ha : V.slAt w p 1 byE a) (hb : V.slAt w q 1 byE b) : Calls Tryz.prog 14 [.slice p a.length c, .slice q b.length d].toArray w fun e w' => e = .returned (.bool (decide (a = b))) ∧ Below w.heap.size w w' := by
  refine V.calls [] Tryz.func14 rfl Tryz.ntmps14 (Nat.le_of_ble_eq_true rfl) (V.sat_nil _) <| Sq <| Rg <| Lv Av <| Nl <| Ps <| Sq <| Rg <| Lv Mv <| Lv (Val.convSl (l := a) rfl Tryz.underlying35 Tryz.underlying5 Tryz.underlying9 (fun w hw => hw.slAt ha (by simp [ids]))) <| Lv Mv <| Lv (Val.convSl (l := b) rfl Tryz.underlying35 Tryz.underlying5 Tryz.underlying9 (fun w hw => hw.slAt hb (by simp [ids]))) <| Lv ES <| Lv Av <| Nl <| Ps <| Rt <| Rt1 ?_
  intro w' hw; exact ⟨by first | rfl | (congr 2), hw.below⟩
end G
end Go.Proofs.YtcnjjefbnlgdjaaGreat

/- The law of the device behind a revival: how much is laid. -/
namespace Go.Proofs.YtcnjjefbnlgdjaaGreat
open Go Go.RowKit V
set_option linter.unusedVariables false
set_option maxRecDepth 100000
namespace G
open V (str byC ownV ownG ownS ownOk)
instance : Und Tryz.prog 23 (dOf Tryz.underlying23) := ⟨Tryz.underlying23⟩
instance : Siz Tryz.prog 23 (kOf Tryz.sizeOf23) := ⟨Tryz.sizeOf23⟩
instance : AgF Tryz.prog 23 := ⟨Tryz.isAgg23⟩
instance : Zer Tryz.prog 23 (zOf Tryz.zeroValue23) := ⟨Tryz.zeroValue23⟩
instance : Und Tryz.prog 72 (dOf Tryz.underlying72) := ⟨Tryz.underlying72⟩
instance : Siz Tryz.prog 72 (kOf Tryz.sizeOf72) := ⟨Tryz.sizeOf72⟩
instance : AgT Tryz.prog 72 := ⟨Tryz.isAgg72⟩
instance : Zer Tryz.prog 72 (zOf Tryz.zeroValue72) := ⟨Tryz.zeroValue72⟩
/-- What is laid: a line, a block, raw bytes (where they lie), where they begin. -/
structure Laid where
  line : Int
  b : Blk
  rp : Option Addr
  raw : List UInt8
  rc : Nat
  at_ : Int
def ldC (x : Laid) : List Value := [.int .i64 x.line, .int .i64 x.b.cls, .int .i64 x.b.kind, .int .u64 x.b.id, .int .u64 x.b.ver, .int .u64 x.b.ep, str x.b.key, str x.b.val, .slice x.rp x.raw.length x.rc, .int .i64 x.at_]
theorem ldC_len (x : Laid) : (ldC x).length = 10 := rfl
/-- What is laid lies there. -/
def LdR (w : World) (p : Option Addr) (l : List Laid) : Prop := V.slAt w p 10 ldC l ∧ ∀ x ∈ l, V.slAt w x.rp 1 byE x.raw
def largeF (l : List Laid) : Bool := decide (30 < l.length) || l.any fun x => decide (500 < x.b.key.length) || decide (500 < x.b.val.length) || decide (64 < x.raw.length)
theorem any_at {l : List Laid} {q : Laid → Bool} {k : Nat} {x : Laid} (hx : l[k]? = some x) (h : q x = true) : l.any q = true := List.any_eq_true.2 ⟨x, List.mem_of_getElem? hx, h⟩
theorem any_up {l : List Laid} {q : Laid → Bool} {k : Nat} {x : Laid} (h : (l.take k).any q = false) (hx : l[k]? = some x) (hq : q x = false) : (l.take (k + 1)).any q = false := by
  rw [List.take_add_one, hx, Option.toList_some, List.any_append, h]; simp [hq]
abbrev ldB (x : Laid) : Bool := decide (500 < x.b.key.length) || decide (500 < x.b.val.length) || decide (64 < x.raw.length)
theorem large_g (l : List Laid) (p : Option Addr) (c : Nat) (w : World) (hp : LdR w p l) : Calls Tryz.prog 6 [.slice p l.length c].toArray w fun e w' => e = .returned (.bool (largeF l)) ∧ Below w.heap.size w w' := by
  refine V.calls [] Tryz.func6 rfl Tryz.ntmps6 (Nat.le_of_ble_eq_true rfl) (V.sat_nil _) <| Sq <| Rg <| Lv Av <| Nl <| Ps <| Sq <| Sq <| Rg <| Lv Mv <| Lv Ln <| Lv Cm <| Nl <| Ps ?_
  refine CW.cond rfl (fun h6 => ?_) (fun h6 => ?_)
  · replace h6 := bT h6
    refine Sq <| Rg <| Lv Av <| Nl <| Ps <| Rt <| Tr <| Rt1 ?_
    intro w' hw; exact ⟨by congr 1; unfold largeF; rw [decide_eq_true (by omega), Bool.true_or], hw.below⟩
  · replace h6 := bF h6
    refine Sk <| Ps <| Sq <| Sq <| Rg <| Lv Av <| Nl <| Ps <| Bk <| loopA (γ := Nat) (fun k => [(0, .slice p l.length c), (3, .int .i64 (k : Nat))]) (fun _ => []) (fun k => k ≤ l.length ∧ l.length ≤ 30 ∧ (l.take k).any ldB = false) (fun k => l.length - k) (0) ⟨Nat.zero_le _, by omega, by simp⟩ fun k => ?_
    rintro ⟨hk1, hk2, hk3⟩
    refine Sq <| Sq <| Rg <| Lv Mv <| Lv Mv <| Lv Ln <| Lv Cm <| Nl <| Ps ?_
    refine CW.cond rfl (fun h10 => ?_) (fun h10 => ?_)
    · replace h10 := bT h10
      have hk9 : k < l.length := by omega
      obtain ⟨bb1, o1, y, rfl, hb1, hx1, hr1⟩ := V.slAt_at hp.1 rfl (k := k) hk9
      refine Sk <| Ps <| Sq <| Bk <| Sq <| Rg <| Lv Mv <| Lv Mv <| Lv Ix <| Lv (Fa 1 43) <| Lv (Fa 5 9) <| Lv (Val.loadO rfl Tryz.isAgg9 hb1 (by simp [ids]) (hr1 k y hx1 6 _ rfl)) <| Lv LnS <| Lv Cm <| Lv Mv ?_
      refine LW.split (d := 21) rfl (fun h21 => ?_) (fun h21 => ?_)
      · replace h21 := bT h21
        refine Lp <| Lp <| Lp <| Lp <| Lp <| Lp <| Lp <| Lp <| Lv Pt <| Lv Mv <| Lp <| Lp <| Lp <| Lp <| Lp <| Lp <| Lp <| Lv Pt <| Nl <| Ps <| Ct <| Sq <| Rg <| Lv Av <| Nl <| Ps <| Rt <| Br <| Tr <| Tr <| Br <| Tr <| Rt1 ?_
        have h8 : l.any ldB = true := any_at hx1 (by simp only [ldB]; simp; omega)
        intro w' hw; exact ⟨by congr 1; unfold largeF; rw [h8, Bool.or_true], hw.below⟩
      · replace h21 := bF h21
        refine Lv Mv <| Lv Mv <| Lv Ix <| Lv (Fa 1 43) <| Lv (Fa 6 9) <| Lv (Val.loadO rfl Tryz.isAgg9 hb1 (by simp [ids]) (hr1 k y hx1 7 _ rfl)) <| Lv LnS <| Lv Cm <| Lv Pf <| Lv Mv ?_
        refine LW.split (d := 31) rfl (fun h31 => ?_) (fun h31 => ?_)
        · replace h31 := bT h31
          refine Lp <| Lp <| Lp <| Lp <| Lp <| Lp <| Lp <| Lv Pt <| Nl <| Ps <| Ct <| Sq <| Rg <| Lv Av <| Nl <| Ps <| Rt <| Br <| Tr <| Tr <| Br <| Tr <| Rt1 ?_
          have h8 : l.any ldB = true := any_at hx1 (by simp only [ldB]; simp; omega)
          intro w' hw; exact ⟨by congr 1; unfold largeF; rw [h8, Bool.or_true], hw.below⟩
        · replace h31 := bF h31
          refine Lv Mv <| Lv Mv <| Lv Ix <| Lv (Fa 8 35) <| Lv (Val.loadO rfl Tryz.isAgg35 hb1 (by simp [ids]) (hr1 k y hx1 8 _ rfl)) <| Lv Ln <| Lv Cm <| Lv Pf <| Nl <| Ps ?_
          refine CW.cond rfl (fun h39 => ?_) (fun h39 => ?_)
          · replace h39 := bT h39
            refine Sq <| Rg <| Lv Av <| Nl <| Ps <| Rt <| Br <| Tr <| Tr <| Br <| Tr <| Rt1 ?_
            have h8 : l.any ldB = true := any_at hx1 (by simp only [ldB]; simp; omega)
            intro w' hw; exact ⟨by congr 1; unfold largeF; rw [h8, Bool.or_true], hw.below⟩
          · replace h39 := bF h39
            refine Sk <| Bn <| Ps <| Rg <| Lv Mv <| Lv Ar <| Lv Av <| Nl ?_
            exact roundA (k + 1) ⟨by omega, hk2, any_up hk3 hx1 (by simp only [ldB]; simp; omega)⟩ (by omega)
    · replace h10 := bF h10
      refine Xt <| Te <| Te <| Bh <| Ps <| Sq <| Rg <| Lv Av <| Nl <| Ps <| Rt <| Rt1 ?_
      have h8 : l.any ldB = false := by rw [List.take_of_length_le (by omega)] at hk3; exact hk3
      intro w' hw; exact ⟨by congr 1; unfold largeF; rw [h8, decide_eq_false (by omega), Bool.or_false], hw.below⟩
end G
end Go.Proofs.YtcnjjefbnlgdjaaGreat

/- The law of the device behind a revival: the device. -/
namespace Go.Proofs.YtcnjjefbnlgdjaaGreat
open Go Go.RowKit V
set_option linter.unusedVariables false
set_option maxRecDepth 100000
namespace G
open V (str byC ownV ownG ownS ownOk)
/-- So many lines of a text stored, one behind the other. -/
def layN (v : Dev) (line : Int) (bs : List UInt8) : Nat → Dev
  | 0 => v
  | k + 1 => (layN v line bs k).store (IntKind.i64.wrap (line + (k : Nat))) 0 ((bs.drop (64 * k)).take 64)
def layV (v : Dev) (x : Laid) : Dev := if mayF x.b = true then layN v x.line (encL x.b) (spanF x.b.cls) else v.store x.line x.at_ x.raw
def backN (v : Dev) : Nat → Dev
  | 0 => v
  | k + 1 => (backN v k).back (k : Nat)
/-- The device with what is laid on it. -/
def devF (n : Nat) (clk : Int) (l : List Laid) : Dev := backN (l.foldl layV ((fmtV ⟨List.replicate n ce0, ct0⟩).store 1 0 (clockL clk))) n
theorem layN_len (v : Dev) (line : Int) (bs : List UInt8) : ∀ k, (layN v line bs k).D.length = v.D.length
  | 0 => rfl
  | k + 1 => by rw [layN, Dev.store_len, layN_len v line bs k]
theorem layV_len (v : Dev) (x : Laid) : (layV v x).D.length = v.D.length := by
  unfold layV
  split
  · exact layN_len _ _ _ _
  · exact Dev.store_len _ _ _ _
theorem lay_len : ∀ (l : List Laid) (v : Dev), (l.foldl layV v).D.length = v.D.length
  | [], _ => rfl
  | x :: r, v => (lay_len r (layV v x)).trans (layV_len v x)
theorem backN_len (v : Dev) : ∀ k, (backN v k).D.length = v.D.length
  | 0 => rfl
  | k + 1 => by rw [backN, Dev.back_len, backN_len v k]
theorem devF_len (n : Nat) (clk : Int) (l : List Laid) : (devF n clk l).D.length = n := by
  unfold devF
  rw [backN_len, lay_len, Dev.store_len, fmtV_len, List.length_replicate]
theorem backN_at (v : Dev) : ∀ (k : Nat) {i : Nat} {c : Ce}, i < k → (backN v k).D[i]? = some c → c.kept = c.now ∧ c.sent = false
  | 0, i, c, h, _ => absurd h (by omega)
  | k + 1, i, c, h, hc => by
    have hc2 : (upD (backN v k).D (k : Nat) (fun c => { c with kept := c.now, sent := false }))[i]? = some c := hc
    by_cases hk : k < (backN v k).D.length
    · have hD : (backN v k).D[k]? = some (backN v k).D[k] := List.getElem?_eq_getElem hk
      rw [upD_set hD] at hc2
      by_cases e : k = i
      · subst e
        rw [List.getElem?_set_self hk, Option.some.injEq] at hc2
        rw [← hc2]; exact ⟨rfl, rfl⟩
      · rw [List.getElem?_set_ne e] at hc2
        exact backN_at v k (by omega) hc2
    · rw [upD_out (by omega)] at hc2
      have hi := (List.getElem?_eq_some_iff.1 hc2).1
      exact backN_at v k (by omega) hc2
theorem devF_calm (n : Nat) (clk : Int) (l : List Laid) : Calm (devF n clk l).D := by
  intro c hc
  obtain ⟨i, hi⟩ := List.mem_iff_getElem?.1 hc
  have hlt := (List.getElem?_eq_some_iff.1 hi).1
  rw [devF_len] at hlt
  exact backN_at _ n hlt hi
end G
end Go.Proofs.YtcnjjefbnlgdjaaGreat

/- Blocks that are laid by hand came in: their cells. -/
namespace Go.Proofs.YtcnjjefbnlgdjaaGreat
open Go Go.RowKit V
set_option linter.unusedVariables false
set_option maxRecDepth 100000
namespace G
open V (str byC ownV ownG ownS ownOk)
theorem cellsOf3 : Tryz.prog.cellsOf 3 = 1 := by kernel_rfl
theorem cellsOf5 : Tryz.prog.cellsOf 5 = 1 := by kernel_rfl
theorem cellsOf9 : Tryz.prog.cellsOf 9 = 1 := by kernel_rfl
theorem cellsOf22 : Tryz.prog.cellsOf 22 = 1 := by kernel_rfl
theorem cellsOf35 : Tryz.prog.cellsOf 35 = 1 := by kernel_rfl
theorem cellsOf43 : Tryz.prog.cellsOf 43 = 7 := by kernel_rfl
theorem cellsOf72 : Tryz.prog.cellsOf 72 = 10 := by kernel_rfl
theorem open72 {H : Type} {enc : TypeId × Value → H} {w : World} {base : Nat} {spare : Nat → Bool} {held : Bool} {fuel : Nat} {cs : List Value} {x : DataW H × List MemPlace} (h : DataW.trod enc Tryz.prog w base spare held fuel 72 cs = some x) :
    ∃ (v0 : Int) (v1 : Int) (v2 : Int) (v3 : Int) (v4 : Int) (v5 : Int) (v6 : ByteArray) (v7 : ByteArray) (p8 : Option Addr) (n8 : Nat) (q8 : Nat) (l8 : List (List Value)) (v9 : Int), cs = [.int .i64 v0, .int .i64 v1, .int .i64 v2, .int .u64 v3, .int .u64 v4, .int .u64 v5, .string v6, .string v7, .slice p8 n8 q8, .int .i64 v9] ∧ (Lit.int .i64 v0).wf = true ∧ (Lit.int .i64 v1).wf = true ∧ (Lit.int .i64 v2).wf = true ∧ (Lit.int .u64 v3).wf = true ∧ (Lit.int .u64 v4).wf = true ∧ (Lit.int .u64 v5).wf = true ∧ v6.size ≤ maxLen ∧ v7.size ≤ maxLen ∧ n8 = l8.length ∧ n8 ≤ maxLen ∧ V.slAt w p8 1 id l8 ∧ (∀ c ∈ l8, ∃ m y, DataW.trod enc Tryz.prog w base spare held m 5 c = some y) ∧ (Lit.int .i64 v9).wf = true := by
  have hlen := (V.trod_fields Tryz.underlying72 h).1
  rw [cellsOf72] at hlen
  match cs, hlen with
  | [c0, c1, c2, c3, c4, c5, c6, c7, c8, c9], _ =>
    obtain ⟨_, m0, g0⟩ := V.trod_fields Tryz.underlying72 h
    obtain ⟨y0_0, f0_0⟩ := g0 0 _ rfl 3 0 1 rfl rfl cellsOf3
    simp only [List.drop, List.take] at f0_0
    obtain ⟨v0, e0, _, w0⟩ := DataW.trod_int Tryz.underlying3 f0_0
    simp only [List.cons.injEq, and_true] at e0; subst e0
    obtain ⟨y0_1, f0_1⟩ := g0 1 _ rfl 43 1 7 rfl rfl cellsOf43
    simp only [List.drop, List.take] at f0_1
    obtain ⟨_, m1, g1⟩ := V.trod_fields Tryz.underlying43 f0_1
    obtain ⟨y1_0, f1_0⟩ := g1 0 _ rfl 3 0 1 rfl rfl cellsOf3
    simp only [List.drop, List.take] at f1_0
    obtain ⟨v1, e1, _, w1⟩ := DataW.trod_int Tryz.underlying3 f1_0
    simp only [List.cons.injEq, and_true] at e1; subst e1
    obtain ⟨y1_1, f1_1⟩ := g1 1 _ rfl 3 1 1 rfl rfl cellsOf3
    simp only [List.drop, List.take] at f1_1
    obtain ⟨v2, e2, _, w2⟩ := DataW.trod_int Tryz.underlying3 f1_1
    simp only [List.cons.injEq, and_true] at e2; subst e2
    obtain ⟨y1_2, f1_2⟩ := g1 2 _ rfl 22 2 1 rfl rfl cellsOf22
    simp only [List.drop, List.take] at f1_2
    obtain ⟨v3, e3, _, w3⟩ := DataW.trod_int Tryz.underlying22 f1_2
    simp only [List.cons.injEq, and_true] at e3; subst e3
    obtain ⟨y1_3, f1_3⟩ := g1 3 _ rfl 22 3 1 rfl rfl cellsOf22
    simp only [List.drop, List.take] at f1_3
    obtain ⟨v4, e4, _, w4⟩ := DataW.trod_int Tryz.underlying22 f1_3
    simp only [List.cons.injEq, and_true] at e4; subst e4
    obtain ⟨y1_4, f1_4⟩ := g1 4 _ rfl 22 4 1 rfl rfl cellsOf22
    simp only [List.drop, List.take] at f1_4
    obtain ⟨v5, e5, _, w5⟩ := DataW.trod_int Tryz.underlying22 f1_4
    simp only [List.cons.injEq, and_true] at e5; subst e5
    obtain ⟨y1_5, f1_5⟩ := g1 5 _ rfl 9 5 1 rfl rfl cellsOf9
    simp only [List.drop, List.take] at f1_5
    obtain ⟨v6, e6, _, w6⟩ := DataW.trod_string Tryz.underlying9 f1_5
    simp only [List.cons.injEq, and_true] at e6; subst e6
    obtain ⟨y1_6, f1_6⟩ := g1 6 _ rfl 9 6 1 rfl rfl cellsOf9
    simp only [List.drop, List.take] at f1_6
    obtain ⟨v7, e7, _, w7⟩ := DataW.trod_string Tryz.underlying9 f1_6
    simp only [List.cons.injEq, and_true] at e7; subst e7
    obtain ⟨y0_2, f0_2⟩ := g0 2 _ rfl 35 8 1 rfl rfl cellsOf35
    simp only [List.drop, List.take] at f0_2
    obtain ⟨p8, n8, q8, l8, e8, z8, x8, s8, t8⟩ := V.open_sl (sz := 1) Tryz.underlying35 cellsOf5 (by decide) f0_2
    simp only [List.cons.injEq, and_true] at e8; subst e8
    obtain ⟨y0_3, f0_3⟩ := g0 3 _ rfl 3 9 1 rfl rfl cellsOf3
    simp only [List.drop, List.take] at f0_3
    obtain ⟨v9, e9, _, w9⟩ := DataW.trod_int Tryz.underlying3 f0_3
    simp only [List.cons.injEq, and_true] at e9; subst e9
    exact ⟨v0, v1, v2, v3, v4, v5, v6, v7, p8, n8, q8, l8, v9, rfl, w0, w1, w2, w3, w4, w5, w6, w7, z8, x8, s8, t8, w9⟩
section
variable {H : Type} {enc : TypeId × Value → H} {w : World} {base : Nat} {spare : Nat → Bool} {held : Bool} {fuel : Nat} {cs : List Value} {x : DataW H × List MemPlace}
theorem open_by (h : DataW.trod enc Tryz.prog w base spare held fuel 5 cs = some x) : ∃ u : UInt8, cs = byE u ∧ True := by
  obtain ⟨v, e, _, hw⟩ := DataW.trod_int Tryz.underlying5 h
  rw [Lit.wf_int_iff] at hw
  have h1 : (0 : Int) ≤ v := hw.1
  have h2 : v ≤ (255 : Int) := hw.2
  refine ⟨UInt8.ofNat v.toNat, ?_, trivial⟩
  rw [e]
  show [Value.int .u8 v] = [Value.int .u8 (((UInt8.ofNat v.toNat).toNat : Nat) : Int)]
  rw [UInt8.toNat_ofNat', Nat.mod_eq_of_lt (by omega)]
  congr 2; omega
theorem open_in (h : DataW.trod enc Tryz.prog w base spare held fuel 3 cs = some x) : ∃ z : Int, cs = inI z ∧ True := by
  obtain ⟨v, e, _⟩ := DataW.trod_int Tryz.underlying3 h
  exact ⟨v, e, trivial⟩
theorem open_ld (h : DataW.trod enc Tryz.prog w base spare held fuel 72 cs = some x) : ∃ y : Laid, cs = ldC y ∧ V.slAt w y.rp 1 byE y.raw := by
  obtain ⟨v0, v1, v2, v3, v4, v5, v6, v7, p8, n8, q8, l8, v9, rfl, w0, w1, w2, w3, w4, w5, w6, w7, z8, x8, s8, t8, w9⟩ := open72 h
  obtain ⟨gl, hgl, _⟩ := V.list_choice (enc' := byE) (p := fun _ => True) (l := l8) (fun c hc => by
    obtain ⟨m, y, hy⟩ := t8 c hc
    exact open_by hy)
  have e1 : n8 = gl.length := by simp [z8, hgl]
  exact ⟨⟨v0, ⟨v1, v2, v3, v4, v5, v6.data.toList, v7.data.toList⟩, p8, gl, q8, v9⟩, by subst e1; rfl, V.slAt_map s8 hgl⟩
theorem open_laid {p : Option Addr} {l : List (List Value)} (hs : V.slAt w p 10 id l) (ht : ∀ c ∈ l, ∃ m y, DataW.trod enc Tryz.prog w base spare held m 72 c = some y) : ∃ m : List Laid, l.length = m.length ∧ LdR w p m := by
  obtain ⟨m, hm, ho⟩ := V.list_choice (enc' := ldC) (p := fun y => V.slAt w y.rp 1 byE y.raw) (l := l) (fun c hc => by
    obtain ⟨k, y, hy⟩ := ht c hc
    exact open_ld hy)
  exact ⟨m, by simp [hm], V.slAt_map hs hm, ho⟩
theorem open_ints {p : Option Addr} {l : List (List Value)} (hs : V.slAt w p 1 id l) (ht : ∀ c ∈ l, ∃ m y, DataW.trod enc Tryz.prog w base spare held m 3 c = some y) : ∃ m : List Int, l.length = m.length ∧ V.slAt w p 1 inI m := by
  obtain ⟨m, hm, _⟩ := V.list_choice (enc' := inI) (p := fun _ => True) (l := l) (fun c hc => by
    obtain ⟨k, y, hy⟩ := ht c hc
    exact open_in hy)
  exact ⟨m, by simp [hm], V.slAt_map hs hm⟩
end
end G
end Go.Proofs.YtcnjjefbnlgdjaaGreat

/- The law of the device behind a revival: the device is made. -/
namespace Go.Proofs.YtcnjjefbnlgdjaaGreat
open Go Go.RowKit V
set_option linter.unusedVariables false
set_option maxRecDepth 100000
namespace G
open V (str byC ownV ownG ownS ownOk)
instance : Cal Tryz.prog 30 := ⟨Tryz.call30⟩
instance : Cal Tryz.prog 31 := ⟨Tryz.call31⟩
instance : Cal Tryz.prog 36 := ⟨Tryz.call36⟩
theorem large_no {l : List Laid} (h : largeF l = false) : l.length ≤ 30 ∧ ∀ x ∈ l, x.b.key.length ≤ 500 ∧ x.b.val.length ≤ 500 ∧ x.raw.length ≤ 64 := by
  unfold largeF at h
  rw [Bool.or_eq_false_iff] at h
  obtain ⟨h1, h2⟩ := h
  rw [decide_eq_false_iff_not] at h1
  rw [List.any_eq_false] at h2
  refine ⟨by omega, fun x hx => ?_⟩
  have h3 := h2 x hx
  simp only [Bool.or_eq_true, decide_eq_true_eq] at h3
  omega
theorem lo_not {w0 w : World} {sg r : V.Sg} {x : DvR} {v : Dev} {b : Nat} (hw : Hp ⟨w0, []⟩ sg w) (hp : Pick (vS x v) sg r) (hb : b < w0.heap.size) : b ∉ V.ids (vS x v) := by
  intro hm
  have h1 : b ∈ ((vS x v).flatten.map Prod.fst) := hm
  obtain ⟨q, hq, rfl⟩ := List.mem_map.1 h1
  rcases (hw.pick hp).lo q hq with h2 | h2
  · simp only at h2; omega
  · cases h2
theorem sl_at {w : World} {p : Option Addr} {l : List UInt8} (h : V.slAt w p 1 byE l) (h0 : 0 < l.length) {b o : Nat} (hb : p = some ⟨b, o, none⟩) : b < w.heap.size := by
  rcases h with h | ⟨b2, o2, h2, h3, _⟩
  · rw [h] at h0; exact absurd h0 (by simp)
  · rw [hb] at h2
    simp only [Option.some.injEq, Addr.mk.injEq] at h2
    rw [h2.1]; exact h3
theorem enc_part {v : Dev} {line : Int} {x : Blk} {k : Nat} (hm : mayF x = true) (hk : k < spanF x.cls) : (((encL x).drop (64 * k)).take 64).length = 64 := by
  rw [List.length_take, List.length_drop, encL_len hm]; omega
theorem lay_yes {v : Dev} {x : Laid} (h : mayF x.b = true) {k : Nat} (hk : k = spanF x.b.cls) : layV v x = layN v x.line (encL x.b) k := by unfold layV; rw [if_pos h, hk]
theorem lay_no {v : Dev} {x : Laid} (h : ¬ mayF x.b = true) : layV v x = v.store x.line x.at_ x.raw := by unfold layV; rw [if_neg h]
theorem fold_up {l : List Laid} {v : Dev} {i : Nat} {x : Laid} (h : l[i]? = some x) : (l.take (i + 1)).foldl layV v = layV ((l.take i).foldl layV v) x := by rw [List.take_add_one, h, Option.toList_some, List.foldl_append]; rfl
theorem store_v (x : DvR) (v : Dev) (line at_ : Int) (bs : List UInt8) (p : Option Addr) (cp : Nat) (hl : bs.length ≤ 100000) (w : World) (hs : Sat (vS x v) w) (hp : V.slAt w p 1 byE bs) (hpd : 0 < bs.length → ∀ b o, p = some ⟨b, o, none⟩ → b ∉ V.ids (vS x v)) : Calls Tryz.prog 33 [.pointer (some ⟨x.db, 0, none⟩), .int .i64 line, .int .i64 at_, .slice p bs.length cp].toArray w fun e w' => ∃ _u : Unit, True ∧ e = .returned (.int .i64 (er2 (thB v.D.length line at_ bs.length))) ∧ Hp ⟨w, V.ids (vS x v)⟩ (vS x (v.store line at_ bs)) w' :=
  store_gc x v.D v.k line at_ bs p cp hl w hs hp hpd
theorem back_v (x : DvR) (v : Dev) (line : Int) (w : World) (hs : Sat (vS x v) w) : Calls Tryz.prog 36 [.pointer (some ⟨x.db, 0, none⟩), .int .i64 line].toArray w fun e w' => ∃ _u : Unit, True ∧ e = .returned (.int .i64 (er2 (inD v.D.length line))) ∧ Hp ⟨w, V.ids (vS x v)⟩ (vS x (v.back line)) w' :=
  back_g x v.D v.k line w hs
theorem store_part (x : DvR) (v : Dev) (line : Int) (b : Blk) (k : Nat) (hm : mayF b = true) (hk : k < spanF b.cls) (be ce : Nat) (hce : (encL b).length ≤ ce) (w : World) (hs : Sat (vS x (layN v line (encL b) k)) w) (hsl : V.slAt w (some ⟨be, 0, none⟩) 1 byE (encL b)) (hnd : be ∉ V.ids (vS x (layN v line (encL b) k))) : Calls Tryz.prog 33 [.pointer (some ⟨x.db, 0, none⟩), .int .i64 (IntKind.i64.wrap (line + (k : Nat))), .int .i64 0, .slice (some ⟨be, 64 * k, none⟩) 64 (ce - 64 * k)].toArray w fun e w' => ∃ _u : Unit, True ∧ e = .returned (.int .i64 (er2 (thB (layN v line (encL b) k).D.length (IntKind.i64.wrap (line + (k : Nat))) 0 64))) ∧ Hp ⟨w, V.ids (vS x (layN v line (encL b) k))⟩ (vS x (layN v line (encL b) (k + 1))) w' := by
  have hel := encL_len hm
  have hpl := enc_part (v := v) (line := 0) hm hk
  have h7 := V.slAt_part hsl (k := 64 * k) (by omega) hce 64
  rw [if_neg (by omega)] at h7
  have h6 : V.slAt w (some ⟨be, 64 * k, none⟩) 1 byE (((encL b).drop (64 * k)).take 64) := by simpa [Addr.add_mid] using h7
  have h8 := store_v x (layN v line (encL b) k) (IntKind.i64.wrap (line + (k : Nat))) 0 (((encL b).drop (64 * k)).take 64) (some ⟨be, 64 * k, none⟩) (ce - 64 * k) (by rw [hpl]; omega) w hs h6 (fun _ b q hb => by simp only [Option.some.injEq, Addr.mk.injEq] at hb; obtain ⟨rfl, _⟩ := hb; exact hnd)
  rw [hpl] at h8
  exact h8
theorem store_raw (x : DvR) (v : Dev) (y : Laid) (hm : ¬ mayF y.b = true) (hl : y.raw.length ≤ 64) (w : World) (hs : Sat (vS x v) w) (hsl : V.slAt w y.rp 1 byE y.raw) (hnd : ∀ b o, 0 < y.raw.length → y.rp = some ⟨b, o, none⟩ → b ∉ V.ids (vS x v)) : Calls Tryz.prog 33 [.pointer (some ⟨x.db, 0, none⟩), .int .i64 y.line, .int .i64 y.at_, .slice y.rp y.raw.length y.rc].toArray w fun e w' => ∃ _u : Unit, True ∧ e = .returned (.int .i64 (er2 (thB v.D.length y.line y.at_ y.raw.length))) ∧ Hp ⟨w, V.ids (vS x v)⟩ (vS x (layV v y)) w' := by
  rw [lay_no hm]
  exact store_v x v y.line y.at_ y.raw y.rp y.rc (by omega) w hs hsl (fun h0 b o hb => hnd b o h0 hb)
theorem device_g (n : Nat) (hn : 10 ≤ n ∧ n ≤ 258) (clk : Int) (l : List Laid) (p : Option Addr) (c : Nat) (hl : largeF l = false) (w : World) (hp : LdR w p l) : Calls Tryz.prog 8 [.int .i64 (n : Nat), .int .u64 clk, .slice p l.length c].toArray w fun e w' => ∃ y : DvR, True ∧ e = .returned (.pointer (some ⟨y.db, 0, none⟩)) ∧ Hp ⟨w, []⟩ (vS y (devF n clk l)) w' := by
  obtain ⟨hl1, hl2⟩ := large_no hl
  refine V.calls [] Tryz.func8 rfl Tryz.ntmps8 (Nat.le_of_ble_eq_true rfl) (V.sat_nil _) <| Sq <| Rg <| Lv Av <| Nl <| Ps <| Sq <| Rg <| Lv Mv <| Le (CM [] fun w hw hs0 => newDev_g n (by omega) (by omega) w) fun x _ => Lv Mv <| Lv Ex <| Lv Ex <| Lv Av <| Lv Av <| Nl <| Ps <| Sq <| Sq <| Rg <| Lv Mv <| Lv Cm <| Lv Mv <| Lv Mv <| Lv EP <| Lv Pf <| Nl <| Ps <| Cf <| Sk <| Ps <| Sq <| Rg <| Lv Mv <| Le (CM (vS x (⟨List.replicate n ce0, ct0⟩ : Dev)) fun w hw hs0 => format_g x (⟨List.replicate n ce0, ct0⟩ : Dev) (by show 10 ≤ (List.replicate n ce0).length ∧ (List.replicate n ce0).length ≤ 258; rw [List.length_replicate]; exact hn) w hs0) fun _ _ => Nl <| Ps <| Sq <| Rg <| Lv Mv <| Lv Mv <| Le (CM [] fun w hw hs0 => Clock_c clk w) fun b1 _ => Le (CM (vS x (fmtV (⟨List.replicate n ce0, ct0⟩ : Dev))) fun w hw hs0 => by have h8 := store_v x (fmtV (⟨List.replicate n ce0, ct0⟩ : Dev)) 1 0 (clockL clk) (some ⟨b1, 0, none⟩) 64 (by rw [clockL_len]; omega) w hs0 (byE_of (hw.own _ (show InS (b1, .cells (byC (clockL clk)).toArray 158 (0, 0)) _ from (by repeat (first | exact .here | exact .inner .here | exact .inner (.inner .here) | refine .there ?_))).mem)) (fun _ b o hb => by simp only [Option.some.injEq, Addr.mk.injEq] at hb; obtain ⟨rfl, _⟩ := hb; exact not_in hw (show Pick (vS x (fmtV (⟨List.replicate n ce0, ct0⟩ : Dev))) _ _ from (by repeat (first | exact .nil | apply Pick.cons | exact .here | apply Ext.there))) (show InS (b1, .cells (byC (clockL clk)).toArray 158 (0, 0)) _ from (by repeat (first | exact .here | exact .inner .here | exact .inner (.inner .here) | refine .there ?_)))); rw [clockL_len] at h8; exact h8) fun _ _ => Nl <| Ps <| Sq <| Sq <| Rg <| Lv Av <| Nl <| Ps <| Bk ?_
  generalize hV1 : (fmtV (⟨List.replicate n ce0, ct0⟩ : Dev)).store 1 0 (clockL clk) = v1
  refine loopA (γ := Nat) (fun i => [(0, .int .i64 (n : Nat)), (2, .slice p l.length c), (7, .pointer (some ⟨x.db, 0, none⟩)), (9, .int .i64 (i : Nat))]) (fun i => vS x ((l.take i).foldl layV v1)) (fun i => i ≤ l.length) (fun i => l.length - i) (0) (Nat.zero_le _) fun i hi1 => Sq <| Sq <| Rg <| Lv Mv <| Lv Mv <| Lv Ln <| Lv Cm <| Nl <| Ps ?_
  refine CW.cond rfl (fun h34 => ?_) (fun h34 => ?_)
  · replace h34 := bT h34
    have hi9 : i < l.length := by omega
    obtain ⟨bb1, o1, y, hpe, hb1, hx1, hr1⟩ := V.slAt_at hp.1 rfl (k := i) hi9
    subst hpe
    have hyl := hl2 y (List.mem_of_getElem? hx1)
    have hyr := hp.2 y (List.mem_of_getElem? hx1)
    have hyb := V.rangeAt_sub (hr1 i y hx1) 1 (show (ldC y).drop 1 = blC y.b ++ [.slice y.rp y.raw.length y.rc, .int .i64 y.at_] from rfl)
    refine Sk <| Ps <| Sq <| Bk <| Sq <| Rg <| Lv Mv <| Lv Mv <| Lv Ix <| Lv (Fa 1 43) <| Lv (Val.loadOA (cs := blC y.b) rfl Tryz.isAgg43 hb1 (by simp [ids]) hyb (by exact Tryz.sizeOf43)) <| Le (CM [] fun w hw hs0 => encode_c y.b ⟨by omega, by omega⟩ w) fun o ho => ?_
    obtain ⟨pe, ce, hve, hce, hsrc, hse⟩ := own_src ho
    by_cases hm : mayF y.b = true
    · have hE : encR y.b = encL y.b := by unfold encR; rw [if_pos hm]
      have hel := encL_len hm
      have hsp8 := may_span hm
      have hsp9 := span_le y.b.cls
      rw [hE] at hve hce hsrc hse ⊢
      obtain ⟨be, hbe, _⟩ := hsrc (by omega)
      subst hbe
      rw [if_pos hm]
      refine Lv Mv <| Lv Ex <| LW.re 44 (.slice (some ⟨be, 0, none⟩) (encL y.b).length ce) rfl hve <| Lv Ex <| Lv Av <| Lv Av <| Nl <| Ps <| Sq <| Sq <| Rg <| Lv Av <| Nl <| Ps <| Bk <| loopA (γ := Nat) (fun k => [(0, .int .i64 (n : Nat)), (2, .slice (some ⟨bb1, o1, none⟩) l.length c), (7, .pointer (some ⟨x.db, 0, none⟩)), (9, .int .i64 (i : Nat)), (10, .slice (some ⟨be, 0, none⟩) (encL y.b).length ce), (11, .int .i64 0), (12, .int .i64 (k : Nat))]) (fun k => ownG 5 (byC (encL y.b)) o :: vS x (layN ((l.take i).foldl layV v1) y.line (encL y.b) k)) (fun k => k ≤ spanF y.b.cls) (fun k => spanF y.b.cls - k) (0) (Nat.zero_le _) fun k hk1 => Sq <| Sq <| Rg <| Lv Mv <| Lv Cm <| Lv Mv <| Lv Mv <| Lv Ar <| Lv Mv <| Lv Ln <| Lv Cm <| Lv Pt <| Nl <| Ps ?_
      refine CW.cond rfl (fun h54 => ?_) (fun h54 => ?_)
      · replace h54 := bT h54
        have hpl := enc_part (v := ((l.take i).foldl layV v1)) (line := 0) hm (k := k) (by omega)
        refine Sk <| Ps <| Sq <| Bk <| Dr ([]) <| Rv 0 rfl Mv <| Rv 1 rfl Mv <| Rv 2 rfl Mv <| Rv 3 rfl Ix <| Rv 4 rfl (Fa 0 3) <| Rv 5 rfl (Val.loadO rfl Tryz.isAgg3 hb1 (by simp [ids]) (hr1 i y hx1 0 _ rfl)) <| Rv 6 rfl Mv <| Rv 7 rfl (Val.arw rfl rfl rfl) <| Rv 8 rfl Mv <| Rv 9 rfl Mv <| Rv 10 rfl Ar <| Rv 11 rfl Mv <| Rv 12 rfl Ar <| Rv 13 rfl Ar <| Rv 14 rfl (Val.slice (64 * k) (64 * k + 64) ce rfl Tryz.underlying35 Tryz.sizeOf5 ⟨_, rfl⟩ ⟨_, rfl⟩ rfl (by simp) (by omega) (by omega) (by omega)) <| RW.re 71 (.slice (some ⟨be, 64 * k, none⟩) 64 (ce - 64 * k)) rfl (by rw [if_neg (by omega)]; simp) <| Re 15 rfl (CM (vS x (layN ((l.take i).foldl layV v1) y.line (encL y.b) k)) fun w hw hs0 => store_part x ((l.take i).foldl layV v1) y.line y.b k hm (by omega) be ce hce w hs0 (hse hw (show Pick [ownG 5 (byC (encL y.b)) o] _ _ from (by repeat (first | exact .nil | apply Pick.cons | exact .here | apply Ext.there)))) (own_not hw hve (show Pick (ownG 5 (byC (encL y.b)) o :: vS x (layN ((l.take i).foldl layV v1) y.line (encL y.b) k)) _ _ from (by repeat (first | exact .nil | apply Pick.cons | exact .here | apply Ext.there))) be 0 rfl)) fun _ _ => Rd <| Bn <| Ps <| Rg <| Lv Mv <| Lv Ar <| Lv Av <| Nl ?_
        exact roundA (k + 1) (by omega) (by omega)
      · replace h54 := bF h54
        refine Xt <| Te <| Te <| Bh <| Ps <| Sq <| Rg <| Lv Mv <| Lv Cm <| Nl <| Ps <| Cf <| Sk <| Bn <| Ps <| Rg <| Lv Mv <| Lv Ar <| Lv Av <| Nl ?_
        have e9 := (fold_up (v := v1) hx1).trans (lay_yes hm (k := k) (by omega))
        rw [← e9]
        exact roundA (i + 1) (by omega) (by omega)
    · rw [if_neg hm]
      refine Lv Mv <| Lv Ex <| LW.re 44 (.slice pe (encR y.b).length ce) rfl hve <| Lv Ex <| Lv Av <| Lv Av <| Nl <| Ps <| Sq <| Sq <| Rg <| Lv Av <| Nl <| Ps <| Bk <| CW.loopU 0 <| Sq <| Sq <| Rg <| Lv Mv <| Lv Cm <| Lv Mv <| Lp <| Lp <| Lp <| Lp <| Lp <| Lv Pf <| Nl <| Ps <| Cf <| Xt <| Te <| Te <| Bh <| Ps <| Sq <| Rg <| Lv Mv <| Lv Cm <| Nl <| Ps <| Ct <| Dr ([]) <| Rv 0 rfl Mv <| Rv 1 rfl Mv <| Rv 2 rfl Mv <| Rv 3 rfl Ix <| Rv 4 rfl (Fa 0 3) <| Rv 5 rfl (Val.loadO rfl Tryz.isAgg3 hb1 (by simp [ids]) (hr1 i y hx1 0 _ rfl)) <| Rv 6 rfl Mv <| Rv 7 rfl Mv <| Rv 8 rfl Ix <| Rv 9 rfl (Fa 9 3) <| Rv 10 rfl (Val.loadO rfl Tryz.isAgg3 hb1 (by simp [ids]) (hr1 i y hx1 9 _ rfl)) <| Rv 11 rfl Mv <| Rv 12 rfl Mv <| Rv 13 rfl Ix <| Rv 14 rfl (Fa 8 35) <| Rv 15 rfl (Val.loadO rfl Tryz.isAgg35 hb1 (by simp [ids]) (hr1 i y hx1 8 _ rfl)) <| Re 16 rfl (CM (vS x ((l.take i).foldl layV v1)) fun w hw hs0 => store_raw x ((l.take i).foldl layV v1) y hm (by omega) w hs0 (hw.slAt hyr (by simp [ids])) (fun b q h0 hb => lo_not hw (show Pick (vS x ((l.take i).foldl layV v1)) _ _ from (by repeat (first | exact .nil | apply Pick.cons | exact .here | apply Ext.there))) (sl_at hyr h0 hb))) fun _ _ => Rd <| Bn <| Ps <| Rg <| Lv Mv <| Lv Ar <| Lv Av <| Nl ?_
      rw [← fold_up (v := v1) hx1]
      exact roundA (i + 1) (by omega) (by omega)
  · replace h34 := bF h34
    refine Xt <| Te <| Te <| Bh <| Ps <| Sq <| Sq <| Rg <| Lv Av <| Nl <| Ps <| Bk ?_
    obtain rfl : i = l.length := by omega
    rw [List.take_length]
    refine loopA (γ := Nat) (fun j => [(0, .int .i64 (n : Nat)), (7, .pointer (some ⟨x.db, 0, none⟩)), (13, .int .i64 (j : Nat))]) (fun j => vS x (backN (l.foldl layV v1) j)) (fun j => j ≤ n) (fun j => n - j) (0) (Nat.zero_le _) fun j hj1 => Sq <| Sq <| Rg <| Lv Mv <| Lv Mv <| Lv Cm <| Nl <| Ps ?_
    refine CW.cond rfl (fun h94 => ?_) (fun h94 => ?_)
    · replace h94 := bT h94
      refine Sk <| Ps <| Sq <| Bk <| Rg <| Lv Mv <| Lv Mv <| Le (CM (vS x (backN (l.foldl layV v1) j)) fun w hw hs0 => back_v x (backN (l.foldl layV v1) j) (j : Nat) w hs0) fun _ _ => Nl <| Bn <| Ps <| Rg <| Lv Mv <| Lv Ar <| Lv Av <| Nl ?_
      exact roundA (j + 1) (by omega) (by omega)
    · replace h94 := bF h94
      refine Xt <| Te <| Te <| Bh <| Ps <| Sq <| Rg <| Lv Mv <| Lv Av <| Nl <| Ps <| Rt <| Rt1 ?_
      obtain rfl : j = n := by omega
      have e8 : devF j clk l = backN (l.foldl layV v1) j := by unfold devF; rw [hV1]
      rw [e8]
      intro w' hw; exact ⟨x, trivial, rfl, hw.pick (by repeat (first | exact .nil | apply Pick.cons | exact .here | apply Ext.there))⟩
end G
end Go.Proofs.YtcnjjefbnlgdjaaGreat

/- The law of revivals: awake. -/
namespace Go.Proofs.YtcnjjefbnlgdjaaGreat
open Go Go.RowKit V
set_option linter.unusedVariables false
set_option maxRecDepth 100000
namespace G
open V (str byC ownV ownG ownS ownOk)
instance : Cal Tryz.prog 11 := ⟨Tryz.call11⟩
theorem aw_len : ((fmtV ⟨List.replicate 10 ce0, ct0⟩)).D.length = 10 := by rw [fmtV_len]; rfl
theorem aw_st : ∀ k < 13, (runN (fmtV ⟨List.replicate 10 ce0, ct0⟩) cor0 k).2.ph < 6 ∧ (stp (runN (fmtV ⟨List.replicate 10 ce0, ct0⟩) cor0 k).1 (runN (fmtV ⟨List.replicate 10 ce0, ct0⟩) cor0 k).2).2.2 = 0 := by decide +kernel
theorem aw_end : (runN (fmtV ⟨List.replicate 10 ce0, ct0⟩) cor0 13).2.ph = 6 ∧ (runN (fmtV ⟨List.replicate 10 ce0, ct0⟩) cor0 13).2.kp.length = 0 := by decide +kernel
theorem step_gT (rb : Nat) (x : DvR) (v : Dev) (k : Nat) (r : Rvl) (th : Nat) (h1 : 1 ≤ th) (h4 : th ≤ 4) (hL : 0 < v.D.length ∧ v.D.length ≤ 1000) (hc : corOf r = (runN v cor0 k).2) (ar : Option (ArR × ArS)) (hX : RvX th v.D.length r ar) (w : World) (hs : Sat (rvG rb x (runN v cor0 k).1 r ar) w) : Calls Tryz.prog 19 [.pointer (some ⟨rb, 0, none⟩)].toArray w fun e w' => ∃ q : Rvl × Option (ArR × ArS), (corOf q.1 = (runN v cor0 (k + 1)).2 ∧ RvX th v.D.length q.1 q.2) ∧ e = .returned (.int .i64 (stp (runN v cor0 k).1 (runN v cor0 k).2).2.2) ∧ Hp ⟨w, V.ids (rvG rb x (runN v cor0 k).1 r ar)⟩ (rvG rb x (runN v cor0 (k + 1)).1 q.1 q.2) w' := by
  have hi := (runN_inv hL k).1
  have hl := hi.len
  rw [← hc] at hi
  have h8 := step_g rb x (runN v cor0 k).1 r ar th h1 h4 (by rw [hl]; exact hi) (by rw [hl]; exact hX) w hs
  rw [hl, hc] at h8
  exact h8
theorem awake_g (w : World) : Calls Tryz.prog 7 [].toArray w fun e w' => e = .returned (.bool true) ∧ Below w.heap.size w w' := by
  refine V.calls [] Tryz.func7 rfl Tryz.ntmps7 (Nat.le_of_ble_eq_true rfl) (V.sat_nil _) <| Sq <| Rg <| Lv Av <| Nl <| Ps <| Sq <| Rg <| Le (CM [] fun w hw hs0 => newDev_g 10 (by omega) (by omega) w) fun x _ => Lv Mv <| Lv Ex <| Lv Ex <| Lv Av <| Lv Av <| Nl <| Ps <| Sq <| Sq <| Rg <| Lv Mv <| Lv Cm <| Lv Mv <| Lv Mv <| Lv EP <| Lv Pf <| Lv Mv <| Lv Mv <| Le (CM (vS x (⟨List.replicate 10 ce0, ct0⟩ : Dev)) fun w hw hs0 => format_g x (⟨List.replicate 10 ce0, ct0⟩ : Dev) (by show 10 ≤ (List.replicate 10 ce0).length ∧ (List.replicate 10 ce0).length ≤ 258; rw [List.length_replicate]; omega) w hs0) fun _ _ => Lv Cm <| Lv Pf <| Nl <| Ps <| Cf <| Sk <| Ps <| Sq <| Rg <| Lv Mv <| Le (CM [] fun w hw hs0 => rnew2_g x.db 1 (by omega) w) fun rb _ => Lv Mv <| Lv Ex <| Lv Ex <| Lv Av <| Lv Av <| Nl <| Ps <| Sq <| Sq <| Rg <| Lv Mv <| Lv Cm <| Lv Mv <| Lv Mv <| Lv EP <| Lv Pf <| Nl <| Ps <| Cf <| Sk <| Ps <| Sq <| Sq <| Rg <| Lv Av <| Nl <| Ps <| Bk <| loopA (γ := Nat × Rvl × Option (ArR × ArS)) (fun z => [(3, .pointer (some ⟨rb, 0, none⟩)), (5, .int .i64 (z.1 : Nat))]) (fun z => rvG rb x (runN (fmtV ⟨List.replicate 10 ce0, ct0⟩) cor0 z.1).1 z.2.1 z.2.2) (fun z => z.1 ≤ 13 ∧ corOf z.2.1 = (runN (fmtV ⟨List.replicate 10 ce0, ct0⟩) cor0 z.1).2 ∧ RvX 1 ((fmtV ⟨List.replicate 10 ce0, ct0⟩)).D.length z.2.1 z.2.2) (fun z => 13 - z.1) ((0, rv0 1, none)) ⟨Nat.zero_le _, rfl, rvx0 1 _⟩ fun z => ?_
  rintro ⟨hz, hc, hX⟩
  refine Sq <| Sq <| Rg <| Lv Mv <| Lv Cm <| Nl <| Ps ?_
  refine CW.cond rfl (fun h35 => ?_) (fun h35 => ?_)
  · replace h35 := bT h35
    have hst := aw_st z.1 (by omega)
    obtain ⟨k, r, ar⟩ := z
    obtain ⟨hst1, hst⟩ := hst
    have h26 : r.ph < 6 := by have h8 : (corOf r).ph < 6 := by rw [hc]; exact hst1
                              exact h8
    obtain rfl : ar = none := by
      cases ar with
      | none => rfl
      | some y => have h8 := hX.has; rw [decide_eq_false (by simp only at h26 ⊢; omega)] at h8; cases h8
    refine Sk <| Ps <| Sq <| Bk <| Sq <| Rg <| Lv Mv <| Le (CM ((rvS rb x.db r ++ vS x (runN (fmtV ⟨List.replicate 10 ce0, ct0⟩) cor0 k).1)) fun w hw hs0 => step_gT rb x (fmtV ⟨List.replicate 10 ce0, ct0⟩) k r 1 (by omega) (by omega) ⟨by rw [aw_len]; omega, by rw [aw_len]; omega⟩ hc none hX w hs0) fun q hq => ?_
    obtain ⟨r2, ar2⟩ := q
    obtain ⟨hq1, hq2⟩ := hq
    refine LW.re 39 (.int .i64 0) rfl (by rw [hst]) ?_
    rcases ar2 with _ | y
    · skip
      refine Lv Cm <| Nl <| Ps <| Cf <| Sk <| Bn <| Ps <| Rg <| Lv Mv <| Lv Ar <| Lv Av <| Nl ?_
      exact roundA ((k + 1, r2, _)) ⟨by simp only; omega, hq1, hq2⟩ (by simp only; omega)
    · skip
      refine Lv Cm <| Nl <| Ps <| Cf <| Sk <| Bn <| Ps <| Rg <| Lv Mv <| Lv Ar <| Lv Av <| Nl ?_
      exact roundA ((k + 1, r2, _)) ⟨by simp only; omega, hq1, hq2⟩ (by simp only; omega)
  · replace h35 := bF h35
    have hz9 : z.1 = 13 := by omega
    have hend := aw_end
    rw [← hz9, ← hc] at hend
    obtain ⟨h6', hk0'⟩ := hend
    have h6 : z.2.1.ph = 6 := h6'
    have hk0 : z.2.1.kp.length = 0 := hk0'
    refine Xt <| Te <| Te <| Bh <| Ps <| Sq <| Rg <| Lv Mv <| Le (CV fun w hw => arena2_g rb x.db z.2.1 w hw.at) fun _ _ => Lv Mv <| Lv Ex <| Lv Ex <| LW.re 45 (.bool true) rfl (by rw [decide_eq_true h6]) <| Lv Av <| Lv Av <| Nl <| Ps <| Sq <| Rg <| Lv Mv <| Lv Mv <| Lv Mv <| Le (CV fun w hw => phase_g rb x.db z.2.1 w hw.at) fun _ _ => LW.re 49 (.int .i64 6) rfl (by rw [h6]) <| Lv Cm <| Lv Pt <| Lv Mv <| Lv Mv <| Le (CM (([rvO rb x.db z.2.1] :: [ownG 45 (z.2.1.kp.flatMap fdC) z.2.1.ko])) fun w hw hs0 => kept_g rb x.db z.2.1 hX.kp (by omega) w hs0) fun o ho => ?_
    obtain ⟨pd, cd, hvd, _⟩ := own_slF z.2.1.kp o ho
    refine LW.re 54 (.slice pd 0 cd) rfl (by rw [hvd, hk0]) <| Lv Ln <| Lv Cm <| Lv Pt <| Lv Av <| Nl <| Ps <| Rt <| Rt1 ?_
    intro w' hw; exact ⟨rfl, hw.below⟩
end G
end Go.Proofs.YtcnjjefbnlgdjaaGreat

/- ReviveClean: the law walked. -/
namespace Go.Proofs.YtcnjjefbnlgdjaaGreat
open Go Go.RowKit V
set_option linter.unusedVariables false
set_option maxRecDepth 100000
namespace G
open V (str byC ownV ownG ownS ownOk)
instance : Cal Tryz.prog 6 := ⟨Tryz.call6⟩
instance : Cal Tryz.prog 7 := ⟨Tryz.call7⟩
instance : Cal Tryz.prog 8 := ⟨Tryz.call8⟩
instance : Cal Tryz.prog 9 := ⟨Tryz.call9⟩
instance : Cal Tryz.prog 10 := ⟨Tryz.call10⟩
instance : Cal Tryz.prog 13 := ⟨Tryz.call13⟩
instance : Cal Tryz.prog 14 := ⟨Tryz.call14⟩
instance : Cal Tryz.prog 16 := ⟨Tryz.call16⟩
theorem ldr_up {w0 w : World} {sg : V.Sg} {p : Option Addr} {l : List Laid} (hw : Hp ⟨w0, []⟩ sg w) (h : LdR w0 p l) : LdR w p l := ⟨hw.slAt h.1 (by simp [ids]), fun x hx => hw.slAt (h.2 x hx) (by simp [ids])⟩
theorem loose_calm {D : List Ce} (h : ∀ c ∈ D, c.kept = c.now) : looseTo D D.length = [] := by
  unfold looseTo
  rw [List.map_eq_nil_iff, List.filter_eq_nil_iff]
  intro i _
  cases e : D[i]? with
  | none => simp
  | some c =>
    have h8 := h c (List.mem_of_getElem? e)
    simp only [Option.map_some, Option.getD_some]
    unfold looseB
    rw [decide_eq_true h8.symm]; decide
theorem pot34 (clk : Int) (l : List Laid) : pot (devF 34 clk l).D.length cor0 ≤ 600 := by rw [devF_len]; decide
theorem len34 (clk : Int) (l : List Laid) : 0 < (devF 34 clk l).D.length ∧ (devF 34 clk l).D.length ≤ 1000 := by rw [devF_len]; omega
theorem any_tk {l : List Fnd} {q : Nat} {f : Fnd} (g : Fnd → Bool) (h : l[q]? = some f) : (l.take (q + 1)).any g = ((l.take q).any g || g f) := by
  rw [List.take_add_one, h, Option.toList_some, List.any_append]; simp
theorem fd_at {l : List Fnd} {q : Nat} {f : Fnd} (h : l[q]? = some f) (r : List Value) : (l.flatMap fdC ++ r)[q * 9]? = some (.int .i64 f.line) := by
  obtain ⟨r2, h2⟩ := V.drop_flatMap fdC_len l q f h
  have hlt := (List.getElem?_eq_some_iff.1 h).1
  have hl := V.flatMap_len fdC_len l
  rw [List.getElem?_append_left (by rw [hl]; omega)]
  have h3 := congrArg (fun z => z[0]?) h2
  simpa [fdC] using h3
theorem len34v {v : Dev} (h : v.D.length = 34) : 0 < v.D.length ∧ v.D.length ≤ 1000 := by rw [h]; omega
theorem pot34v {v : Dev} (h : v.D.length = 34) : pot v.D.length cor0 ≤ 600 := by rw [h]; decide
/-- What the law asks of a line, of the device behind a revival. -/
theorem clean_at {v : Dev} (hln : v.D.length = 34) (hcm : Calm v.D) {k : Nat} {r : Rvl} (hc : corOf r = (runN v cor0 k).2) (h6 : r.ph = 6) {m : Nat} (hm : 2 ≤ m ∧ m < 34) : nowL (runN v cor0 k).1.D (m : Nat) = keptL (runN v cor0 k).1.D (m : Nat) ∧ ((r.kp.any fun f => decide (f.line = ((m : Nat) : Int))) = false → ∀ a kd, headF (nowL (runN v cor0 k).1.D (m : Nat)) = some (a, kd) → kd = 0) ∧ ((r.kp.any fun f => decide (f.line = ((m : Nat) : Int))) = true → nowL (runN v cor0 k).1.D (m : Nat) = nowL v.D (m : Nat)) := by
  obtain ⟨hi, hcl⟩ := runN_inv (len34v hln) k
  have hlen := hi.len
  rw [hln] at hlen
  obtain ⟨c', hc'⟩ : ∃ c', (runN v cor0 k).1.D[m]? = some c' := ⟨_, List.getElem?_eq_getElem (by omega)⟩
  have hph : (runN v cor0 k).2.ph = 6 := by rw [← hc]; exact h6
  have hkp : (runN v cor0 k).2.kp = r.kp := by rw [← hc]; rfl
  obtain ⟨h1, h2, h3⟩ := clean_end hcl hi hcm hph hc'
  rw [hkp] at h2 h3
  refine ⟨by rw [nowL_of hc', keptL_of hc', h1], fun hb => ?_, fun hb => ?_⟩
  · rw [nowL_of hc']
    rw [List.any_eq_false] at hb
    refine h2 (fun f hf e => hb f hf (by simpa using e)) ⟨hm.1, ?_⟩
    rw [hln]
    show (m : Int) < 2 + slabsF ((34 : Nat) : Int) * 8
    rw [show slabsF ((34 : Nat) : Int) = 4 by decide]; omega
  · rw [List.any_eq_true] at hb
    obtain ⟨f, hf, he⟩ := hb
    rw [nowL_of hc', nowL_of (h3 f hf (by simpa using he))]
theorem kp_le {v : Dev} (hln : v.D.length = 34) (hcm : Calm v.D) {k : Nat} {r : Rvl} (hc : corOf r = (runN v cor0 k).2) (h6 : r.ph = 6) : r.kp.length ≤ 1000 := by
  have hi := (runN_inv (len34v hln) k).1
  rw [← hc] at hi
  have h1 : r.kp = decK r.e r.fd := (hi.kp (by show (3 : Int) ≤ r.ph; omega) (by show r.ph ≤ 6; omega)).1
  have h2 : r.fd.length ≤ 256 := hi.fl
  have h3 := List.length_filter_le (keepF r.e r.fd) r.fd
  rw [h1]; unfold decK; omega
theorem clean_lo {v : Dev} (hln : v.D.length = 34) (hcm : Calm v.D) {k : Nat} {r : Rvl} (hc : corOf r = (runN v cor0 k).2) (h6 : r.ph = 6) : looseTo (runN v cor0 k).1.D (runN v cor0 k).1.D.length = [] := by
  obtain ⟨hi, hcl⟩ := runN_inv (len34v hln) k
  have hph : (runN v cor0 k).2.ph = 6 := by rw [← hc]; exact h6
  refine loose_calm fun c hcx => ?_
  obtain ⟨i, hi2⟩ := List.mem_iff_getElem?.1 hcx
  exact (clean_end hcl hi hcm hph hi2).1
theorem clean_c (clk : Int) (l : List Laid) (p : Option Addr) (c : Nat) (w : World) (hp : LdR w p l) : Calls Tryz.prog 3 [.int .u64 clk, .slice p l.length c].toArray w fun e w' => e = .returned (.bool true) ∧ Below w.heap.size w w' := by
  refine V.calls [] Tryz.func3 rfl Tryz.ntmps3 (Nat.le_of_ble_eq_true rfl) (V.sat_nil _) <| Sq <| Rg <| Lv Av <| Nl <| Ps <| Sq <| Sq <| Rg <| Lv Mv <| Le (CV fun w hw => large_g l p c w (ldr_up hw hp)) fun _ _ => Nl <| Ps ?_
  refine CW.cond rfl (fun h24 => ?_) (fun h24 => ?_)
  · replace h24 := bT h24
    refine Sq <| Rg <| Le (CV fun w hw => awake_g w) fun _ _ => Lv Av <| Nl <| Ps <| Rt <| Tr <| Rt1 ?_
    intro w' hw; exact ⟨rfl, hw.below⟩
  · replace h24 := bF h24
    refine Sk <| Ps <| Sq <| Rg <| Lv Mv <| Lv Mv <| Le (CM [] fun w hw hs0 => device_g 34 ⟨by omega, by omega⟩ clk l p c h24 w (ldr_up hw hp)) fun x _ => ?_
    have hln := devF_len 34 clk l
    have hcm := devF_calm 34 clk l
    generalize devF 34 clk l = vD at hln hcm ⊢
    refine Lv Av <| Nl <| Ps <| Sq <| Sq <| Rg <| Lv Mv <| Lv EP <| Nl <| Ps <| Cf <| Sk <| Ps <| Sq <| Rg <| Lv Mv <| Le (CM [] fun w hw hs0 => copy_g x vD.D vD.k (len34v hln).1 (len34v hln).2 w (hw.sat.pick (ss := vS x vD) (by repeat (first | exact .nil | apply Pick.cons | exact .here | apply Ext.there)))) fun y _ => Lv Av <| Nl <| Ps <| Sq <| Rg <| Lv Mv <| Le (CM (vS x vD) fun w hw hs0 => to22_g x vD (len34v hln) (pot34v hln) w hs0) fun z hz => ?_
    obtain ⟨rb, k, r, ar⟩ := z
    obtain ⟨h6p, hc, hX⟩ := hz
    simp only at h6p hc hX ⊢
    refine Lv Mv <| Lv Ex <| Lv Ex <| Lv Ex <| Lv Av <| Lv Av <| Lv Av <| Nl <| Ps <| Sq <| Sq <| Rg <| Lv Mv <| Lv Nt <| Nl <| Ps ?_
    refine CW.cond rfl (fun h40 => ?_) (fun h40 => ?_)
    · replace h40 := bT h40
      refine Sq <| Rg <| Lv Mv <| Lv NP <| Lv Mv <| Le (CV fun w hw => awake_g w) fun _ _ => Lv Pt <| Lv Av <| Nl <| Ps <| Rt <| Tr <| Rt1 ?_
      intro w' hw; exact ⟨rfl, hw.below⟩
    · replace h40 := bF h40
      have h6 : r.ph = 6 := by simpa using h40
      obtain ⟨y2, rfl⟩ : ∃ y2, ar = some y2 := by
        have h8 := hX.has
        rw [decide_eq_true h6] at h8
        exact Option.isSome_iff_exists.1 h8
      have hVE := (runN_inv (len34v hln) k).1.len
      have hkl := kp_le hln hcm hc h6
      have hlo := clean_lo hln hcm hc h6
      have hat0 := fun m hm => clean_at hln hcm hc h6 (m := m) hm
      generalize (runN vD cor0 k).1 = vE at hVE hlo hat0 ⊢
      refine Sk <| Ps <| Sq <| Rg <| Lv Mv <| Le (CM (([rvO rb x.db r] :: [ownG 45 (r.kp.flatMap fdC) r.ko])) fun w hw hs0 => kept_g rb x.db r hX.kp (by omega) w hs0) fun o ho => ?_
      obtain ⟨pd, cd, hvd, hsd⟩ := own_slF r.kp o ho
      refine LW.re 47 (.slice pd r.kp.length cd) rfl hvd <| Lv Av <| Nl <| Ps <| Sq <| Sq <| Rg <| Lv Av <| Nl <| Ps <| Bk <| loopA (γ := Nat) (fun m => [(5, .pointer (some ⟨x.db, 0, none⟩)), (6, .pointer (some ⟨y.db, 0, none⟩)), (10, .slice pd r.kp.length cd), (11, .int .i64 (m : Nat))]) (fun m => ownG 45 (r.kp.flatMap fdC) o :: vS x vE ++ vS y vD) (fun m => 2 ≤ m ∧ m ≤ 34) (fun m => 34 - m) (2) ⟨by omega, by omega⟩ fun m => ?_
      rintro ⟨hm1, hm2⟩
      refine Sq <| Sq <| Rg <| Lv Mv <| Lv Cm <| Nl <| Ps ?_
      refine CW.cond rfl (fun h49 => ?_) (fun h49 => ?_)
      · replace h49 := bT h49
        have hat := hat0 m ⟨by omega, by omega⟩
        have hn64 := nowL_le vE.D (m : Nat)
        refine Sk <| Ps <| Sq <| Bk <| Sq <| Rg <| Lv Mv <| Lv Mv <| Le (CM [] fun w hw hs0 => load_g x vE.D vE.k (m : Nat) w (hw.sat.pick (ss := vS x vE) (by repeat (first | exact .nil | apply Pick.cons | exact .here | apply Ext.there)))) fun o1 ho1 => ?_
        obtain ⟨p1, c1, hv1, hc1, _, hs1⟩ := own_src ho1
        refine Lv Mv <| Lv Ex <| LW.re 56 (.slice p1 (nowL vE.D (m : Nat)).length c1) rfl hv1 <| Lv Ex <| Lv Av <| Lv Av <| Nl <| Ps <| Sq <| Rg <| Lv Mv <| Lv Mv <| Le (CM [] fun w hw hs0 => dur_g x vE.D vE.k (m : Nat) w (hw.sat.pick (ss := vS x vE) (by repeat (first | exact .nil | apply Pick.cons | exact .here | apply Ext.there)))) fun o2 ho2 => ?_
        obtain ⟨p2, c2, hv2, hc2, _, hs2⟩ := own_src ho2
        refine Lv Mv <| Lv Ex <| LW.re 62 (.slice p2 (keptL vE.D (m : Nat)).length c2) rfl hv2 <| Lv Ex <| Lv Av <| Lv Av <| Nl <| Ps <| Sq <| Rg <| Lv Mv <| Lv Mv <| Le (CM [] fun w hw hs0 => load_g y vD.D vD.k (m : Nat) w (hw.sat.pick (ss := vS y vD) (by repeat (first | exact .nil | apply Pick.cons | exact .here | apply Ext.there)))) fun o3 ho3 => ?_
        obtain ⟨p3, c3, hv3, hc3, _, hs3⟩ := own_src ho3
        refine Lv Mv <| Lv Ex <| LW.re 68 (.slice p3 (nowL vD.D (m : Nat)).length c3) rfl hv3 <| Lv Ex <| Lv Av <| Lv Av <| Nl <| Ps <| Sq <| Sq <| Rg <| Lv Mv <| Lv Mv <| Le (CV fun w hw => same_g (nowL vE.D (m : Nat)) (keptL vE.D (m : Nat)) p1 p2 c1 c2 w (hs1 hw (by repeat (first | exact .nil | apply Pick.cons | exact .here | apply Ext.there))) (hs2 hw (by repeat (first | exact .nil | apply Pick.cons | exact .here | apply Ext.there)))) fun _ _ => LW.re 72 (.bool true) rfl (by rw [decide_eq_true hat.1]) <| Lv Nt <| Nl <| Ps <| Cf <| Sk <| Ps <| Sq <| Rg <| Lv Mv <| Le (CV fun w hw => Head_c (nowL vE.D (m : Nat)) p1 c1 (by omega) w (hs1 hw (by repeat (first | exact .nil | apply Pick.cons | exact .here | apply Ext.there)))) fun _ _ => ?_
        rcases hh : headF (nowL vE.D (m : Nat)) with _ | ⟨a, kd⟩
        · skip
          refine Lv Mv <| Lv Ex <| Lv Ex <| Lv Ex <| Lv Av <| Lv Av <| Lv Av <| Nl <| Ps <| Sq <| Rg <| Lv Av <| Nl <| Ps <| Sq <| Sq <| Rg <| Lv Av <| Nl <| Ps <| Bk <| loopA (γ := Nat) (fun q => [(5, .pointer (some ⟨x.db, 0, none⟩)), (6, .pointer (some ⟨y.db, 0, none⟩)), (10, .slice pd r.kp.length cd), (11, .int .i64 (m : Nat)), (12, .slice p1 (nowL vE.D (m : Nat)).length c1), (16, .slice p3 (nowL vD.D (m : Nat)).length c3), (20, .bool false), (21, .bool ((r.kp.take q).any fun f => decide (f.line = ((m : Nat) : Int)))), (22, .int .i64 (q : Nat))]) (fun q => ownG 5 (byC (nowL vE.D (m : Nat))) o1 :: ownG 5 (byC (nowL vD.D (m : Nat))) o3 :: ownG 45 (r.kp.flatMap fdC) o :: vS x vE ++ vS y vD) (fun q => q ≤ r.kp.length) (fun q => r.kp.length - q) (0) (Nat.zero_le _) fun q hq => Sq <| Sq <| Rg <| Lv Mv <| Lv Mv <| Lv Ln <| Lv Cm <| Nl <| Ps ?_
          refine CW.cond rfl (fun h83 => ?_) (fun h83 => ?_)
          · replace h83 := bT h83
            obtain ⟨f, hf⟩ : ∃ f, r.kp[q]? = some f := ⟨r.kp[q]'(by omega), by simp⟩
            rcases o with _ | ⟨g, rest, cap⟩
            · exact absurd ho.2 (by omega)
            have hpd : pd = some ⟨g, 0, none⟩ := by
              have h8 : ownV r.kp.length (some (g, rest, cap)) = .slice (some ⟨g, 0, none⟩) r.kp.length cap := rfl
              rw [h8] at hvd
              injection hvd with h9
              exact h9.symm
            subst hpd
            refine Sk <| Ps <| Sq <| Bk <| Rg <| Lv Mv <| Lv Mv ?_
            refine LW.split (d := 87) rfl (fun h87 => ?_) (fun h87 => ?_)
            · replace h87 := bT h87
              refine Lp <| Lp <| Lp <| Lp <| Lp <| Lp <| Lp <| Lv Pt <| Lv Av <| Nl <| Bn <| Ps <| Rg <| Lv Mv <| Lv Ar <| Lv Av <| Nl ?_
              have hst : true = ((r.kp.take (q + 1)).any fun f => decide (f.line = ((m : Nat) : Int))) := by rw [any_tk _ hf, h87]; rfl
              refine PQ.round (q + 1) (by omega) (by omega) (by exact ⟨rfl, rfl, rfl, rfl, rfl, rfl, rfl, congrArg (fun z => some (Value.bool z)) hst, rfl, trivial⟩) (by repeat (first | exact .nil | apply Pick.cons | exact .here | apply Ext.there))
            · replace h87 := bF h87
              refine Lv Mv <| Lv Mv <| Lv (Val.indexAddrN (i := q) rfl rfl Tryz.underlying33 Tryz.sizeOf45 (by omega)) <| Lv (Fa 0 3) <| Lv (Ld (v := .int .i64 f.line) (hl := by have h8 := fd_at hf rest; simpa using h8)) <| Lv Mv <| Lv Cm <| Lv Pf <| Lv Av <| Nl <| Bn <| Ps <| Rg <| Lv Mv <| Lv Ar <| Lv Av <| Nl ?_
              have hst : decide (f.line = ((m : Nat) : Int)) = ((r.kp.take (q + 1)).any fun f => decide (f.line = ((m : Nat) : Int))) := by rw [any_tk _ hf, h87]; rfl
              refine PQ.round (q + 1) (by omega) (by omega) (by exact ⟨rfl, rfl, rfl, rfl, rfl, rfl, rfl, congrArg (fun z => some (Value.bool z)) hst, rfl, trivial⟩) (by repeat (first | exact .nil | apply Pick.cons | exact .here | apply Ext.there))
          · replace h83 := bF h83
            obtain rfl : q = r.kp.length := by omega
            rw [List.take_length]
            refine Xt <| Te <| Te <| Bh <| Ps <| Sq <| Rg <| Lv Mv ?_
            cases hbg : (r.kp.any fun f => decide (f.line = ((m : Nat) : Int)))
            · skip
              refine Lv Mv <| Lp <| Lp <| Lp <| Lp <| Lv Pf <| Lv Mv <| Lv Mv <| Lv Nt <| Lv Mv <| Lv Mv <| Lv Pt <| Lv Mv <| Lp <| Lp <| Lv Pf <| Lv Pf <| Nl <| Ps <| Cf <| Sk <| Bn <| Ps <| Rg <| Lv Mv <| Lv Ar <| Lv Av <| Nl ?_
              exact roundA (m + 1) ⟨by omega, by omega⟩ (by omega)
            · skip
              refine Lv Mv <| Lv Mv <| Lv Mv <| Le (CV fun w hw => same_g (nowL vE.D (m : Nat)) (nowL vD.D (m : Nat)) p1 p3 c1 c3 w (hs1 hw (by repeat (first | exact .nil | apply Pick.cons | exact .here | apply Ext.there))) (hs3 hw (by repeat (first | exact .nil | apply Pick.cons | exact .here | apply Ext.there)))) fun _ _ => LW.re 100 (.bool true) rfl (by rw [decide_eq_true (hat.2.2 hbg)]) <| Lv Nt <| Lv Pt <| Lv Mv <| Lv Mv <| Lv Nt <| Lv Mv <| Lp <| Lv Pf <| Lv Mv <| Lp <| Lp <| Lv Pf <| Lv Pf <| Nl <| Ps <| Cf <| Sk <| Bn <| Ps <| Rg <| Lv Mv <| Lv Ar <| Lv Av <| Nl ?_
              exact roundA (m + 1) ⟨by omega, by omega⟩ (by omega)
        · skip
          refine Lv Mv <| Lv Ex <| Lv Ex <| Lv Ex <| Lv Av <| Lv Av <| Lv Av <| Nl <| Ps <| Sq <| Rg <| Lv Av <| Nl <| Ps <| Sq <| Sq <| Rg <| Lv Av <| Nl <| Ps <| Bk <| loopA (γ := Nat) (fun q => [(5, .pointer (some ⟨x.db, 0, none⟩)), (6, .pointer (some ⟨y.db, 0, none⟩)), (10, .slice pd r.kp.length cd), (11, .int .i64 (m : Nat)), (12, .slice p1 (nowL vE.D (m : Nat)).length c1), (16, .slice p3 (nowL vD.D (m : Nat)).length c3), (19, .int .i64 (kd : Nat)), (20, .bool true), (21, .bool ((r.kp.take q).any fun f => decide (f.line = ((m : Nat) : Int)))), (22, .int .i64 (q : Nat))]) (fun q => ownG 5 (byC (nowL vE.D (m : Nat))) o1 :: ownG 5 (byC (nowL vD.D (m : Nat))) o3 :: ownG 45 (r.kp.flatMap fdC) o :: vS x vE ++ vS y vD) (fun q => q ≤ r.kp.length) (fun q => r.kp.length - q) (0) (Nat.zero_le _) fun q hq => Sq <| Sq <| Rg <| Lv Mv <| Lv Mv <| Lv Ln <| Lv Cm <| Nl <| Ps ?_
          refine CW.cond rfl (fun h83 => ?_) (fun h83 => ?_)
          · replace h83 := bT h83
            obtain ⟨f, hf⟩ : ∃ f, r.kp[q]? = some f := ⟨r.kp[q]'(by omega), by simp⟩
            rcases o with _ | ⟨g, rest, cap⟩
            · exact absurd ho.2 (by omega)
            have hpd : pd = some ⟨g, 0, none⟩ := by
              have h8 : ownV r.kp.length (some (g, rest, cap)) = .slice (some ⟨g, 0, none⟩) r.kp.length cap := rfl
              rw [h8] at hvd
              injection hvd with h9
              exact h9.symm
            subst hpd
            refine Sk <| Ps <| Sq <| Bk <| Rg <| Lv Mv <| Lv Mv ?_
            refine LW.split (d := 87) rfl (fun h87 => ?_) (fun h87 => ?_)
            · replace h87 := bT h87
              refine Lp <| Lp <| Lp <| Lp <| Lp <| Lp <| Lp <| Lv Pt <| Lv Av <| Nl <| Bn <| Ps <| Rg <| Lv Mv <| Lv Ar <| Lv Av <| Nl ?_
              have hst : true = ((r.kp.take (q + 1)).any fun f => decide (f.line = ((m : Nat) : Int))) := by rw [any_tk _ hf, h87]; rfl
              refine PQ.round (q + 1) (by omega) (by omega) (by exact ⟨rfl, rfl, rfl, rfl, rfl, rfl, rfl, rfl, congrArg (fun z => some (Value.bool z)) hst, rfl, trivial⟩) (by repeat (first | exact .nil | apply Pick.cons | exact .here | apply Ext.there))
            · replace h87 := bF h87
              refine Lv Mv <| Lv Mv <| Lv (Val.indexAddrN (i := q) rfl rfl Tryz.underlying33 Tryz.sizeOf45 (by omega)) <| Lv (Fa 0 3) <| Lv (Ld (v := .int .i64 f.line) (hl := by have h8 := fd_at hf rest; simpa using h8)) <| Lv Mv <| Lv Cm <| Lv Pf <| Lv Av <| Nl <| Bn <| Ps <| Rg <| Lv Mv <| Lv Ar <| Lv Av <| Nl ?_
              have hst : decide (f.line = ((m : Nat) : Int)) = ((r.kp.take (q + 1)).any fun f => decide (f.line = ((m : Nat) : Int))) := by rw [any_tk _ hf, h87]; rfl
              refine PQ.round (q + 1) (by omega) (by omega) (by exact ⟨rfl, rfl, rfl, rfl, rfl, rfl, rfl, rfl, congrArg (fun z => some (Value.bool z)) hst, rfl, trivial⟩) (by repeat (first | exact .nil | apply Pick.cons | exact .here | apply Ext.there))
          · replace h83 := bF h83
            obtain rfl : q = r.kp.length := by omega
            rw [List.take_length]
            refine Xt <| Te <| Te <| Bh <| Ps <| Sq <| Rg <| Lv Mv ?_
            cases hbg : (r.kp.any fun f => decide (f.line = ((m : Nat) : Int)))
            · skip
              refine Lv Mv <| Lp <| Lp <| Lp <| Lp <| Lv Pf <| Lv Mv <| Lv Mv <| Lv Nt <| Lv Mv <| Lv Mv <| Lv Pt <| Lv Mv <| Lv Mv <| Lv Cm <| LW.re 111 (.bool false) rfl (by rw [hat.2.1 hbg _ _ hh]; rfl) <| Lv Pt <| Lv Pf <| Nl <| Ps <| Cf <| Sk <| Bn <| Ps <| Rg <| Lv Mv <| Lv Ar <| Lv Av <| Nl ?_
              exact roundA (m + 1) ⟨by omega, by omega⟩ (by omega)
            · skip
              refine Lv Mv <| Lv Mv <| Lv Mv <| Le (CV fun w hw => same_g (nowL vE.D (m : Nat)) (nowL vD.D (m : Nat)) p1 p3 c1 c3 w (hs1 hw (by repeat (first | exact .nil | apply Pick.cons | exact .here | apply Ext.there))) (hs3 hw (by repeat (first | exact .nil | apply Pick.cons | exact .here | apply Ext.there)))) fun _ _ => LW.re 100 (.bool true) rfl (by rw [decide_eq_true (hat.2.2 hbg)]) <| Lv Nt <| Lv Pt <| Lv Mv <| Lv Mv <| Lv Nt <| Lv Mv <| Lp <| Lv Pf <| Lv Mv <| Lp <| Lp <| Lv Pf <| Lv Pf <| Nl <| Ps <| Cf <| Sk <| Bn <| Ps <| Rg <| Lv Mv <| Lv Ar <| Lv Av <| Nl ?_
              exact roundA (m + 1) ⟨by omega, by omega⟩ (by omega)
      · replace h49 := bF h49
        refine Xt <| Te <| Te <| Bh <| Ps <| Sq <| Rg <| Lv Mv <| Le (CM [] fun w hw hs0 => Loose_g x vE.D vE.k (by omega) w (hw.sat.pick (ss := vS x vE) (by repeat (first | exact .nil | apply Pick.cons | exact .here | apply Ext.there)))) fun oL hoL => ?_
        obtain ⟨pL, cL, hvL, _⟩ := own_slg (e := 3) inI_len _ oL hoL
        have hlz := hlo
        refine LW.re 115 (.slice pL 0 cL) rfl (by rw [hvL, hlz]; rfl) <| Lv Ln <| Lv Cm <| Lv Mv <| Le (CV fun w hw => awake_g w) fun _ _ => Lv Pt <| Lv Av <| Nl <| Ps <| Rt <| Rt1 ?_
        intro w' hw; exact ⟨rfl, hw.below⟩
end G
end Go.Proofs.YtcnjjefbnlgdjaaGreat
