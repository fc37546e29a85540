/- New, Put, Ready; what every program answers that is one. -/
import Derived.Test.YtgeblajdjdcghaaLbB
import Derived.Lib.Hide
namespace Go.Proofs.Ytgeblajdjdcghaa
open Go Go.RowKit V
set_option linter.unusedVariables false
set_option maxRecDepth 100000
def May (x : En) : Prop := 2 ≤ x.line ∧ x.line < 258 ∧ 0 ≤ x.cls ∧ x.cls ≤ 3 ∧ -1 ≤ x.anti ∧ x.anti < 258
instance (x : En) : Decidable (May x) := inferInstanceAs (Decidable (_ ∧ _))
def plE (r d : Int) : En := ⟨2, 0, r, d, -1⟩
theorem plE_may (r d : Int) : May (plE r d) := by unfold May plE; simp
def putF (x : En) (l : List En) : List En × Int := if May x then (if l.length < 258 then (l ++ [x], 0) else (l, 11)) else (l, 1)
theorem bg_own {o : Option (Nat × List Value × Nat)} {l : List En} (h : bgOk o l) : V.ownOk 5 l.length (l.flatMap enC) o := by
  refine ⟨flat_length l, ?_⟩
  rcases o with _ | ⟨g, rest, cap⟩
  · have : l = [] := h
    subst this; rfl
  · have h' : l.length * 5 + rest.length = cap * 5 := h
    simp only [flat_length]; exact h'
theorem bg_of_own {o : Option (Nat × List Value × Nat)} {l : List En} (h : V.ownOk 5 l.length (l.flatMap enC) o) : bgOk o l := by
  rcases o with _ | ⟨g, rest, cap⟩
  · have := h.2; simp only at this; exact List.length_eq_zero_iff.1 this
  · have := h.2; simp only [flat_length] at this; exact this
theorem flat_snoc (l : List En) (x : En) : (l ++ [x]).flatMap enC = l.flatMap enC ++ enC x := by simp
theorem lnew_c (w : World) : Calls Try.prog 41 [].toArray w fun e w' => ∃ b : Nat, True ∧ e = .returned (.pointer (some ⟨b, 0, none⟩)) ∧ Hp ⟨w, []⟩ (bgG 124 b none []) w' := by
  refine V.calls [] Try.func41 rfl Try.ntmps41 (Nat.le_of_ble_eq_true rfl) (V.sat_nil _) ?_
  refine CW.seq ?_
  refine CW.region ?_
  refine LW.v rfl rfl (Val.assign rfl) ?_
  refine LW.nil ?_
  refine PQ.seq ?_
  refine CW.seq ?_
  refine CW.region ?_
  refine LW.v rfl rfl (Val.build [_] Try.zeroValue124 Try.underlying124 places124 rfl (by rfl)) ?_
  refine LW.e rfl rfl (Eff.boxA rfl) ?_
  intro b2 _
  refine LW.v rfl rfl (Val.assign rfl) ?_
  refine LW.nil ?_
  refine PQ.seq ?_
  refine CW.ret ?_
  refine PQ.ret1 rfl rfl ?_
  intro w' hw; exact ⟨b2, trivial, rfl, hw⟩
theorem plain_c (r d : Int) (w : World) : Calls Try.prog 43 [.int .u64 r, .int .u64 d].toArray w fun e w' => e = .returned (enV (plE r d)) ∧ Below w.heap.size w w' := by
  refine V.calls [] Try.func43 rfl Try.ntmps43 (Nat.le_of_ble_eq_true rfl) (V.sat_nil _) ?_
  refine CW.seq ?_
  refine CW.region ?_
  refine LW.e rfl rfl (Eff.allocA (by exact Try.zeroValue80)) ?_
  intro b4 _
  refine LW.nil ?_
  refine PQ.seq ?_
  refine CW.seq ?_
  refine CW.region ?_
  refine LW.v rfl rfl (Val.move rfl) ?_
  refine LW.v rfl rfl (Val.move rfl) ?_
  refine LW.v rfl rfl (Val.build [_, _, _, _, _] Try.zeroValue80 Try.underlying80 places80 rfl (by rfl)) ?_
  first | (refine LW.eN rfl (Eff.storeW rfl rfl (by repeat (first | exact .here | apply Upd.there)) (by rfl) Try.sizeOf80 (by rfl)) ?_) | (refine LW.eN rfl (Eff.storeA (l' := _) rfl rfl (by repeat (first | exact .here | apply Upd.there)) (by rfl) (by decide) Try.sizeOf80 (by rfl)) ?_)
  intro _ _
  refine LW.nil ?_
  refine PQ.seq ?_
  refine CW.ret ?_
  refine V.PQ.retC rfl rfl (by repeat (first | exact .here | refine .there ?_)) Try.isAgg80 (by exact Try.sizeOf80) ?_
  intro w' hw; exact ⟨rfl, hw.below⟩
theorem span_c (c : Int) (w : World) : Calls Try.prog 79 [.int .i64 c].toArray w fun e w' => ∃ v : Int, (0 < v ↔ 0 ≤ c ∧ c ≤ 3) ∧ e = .returned (.int .i64 v) ∧ Below w.heap.size w w' := by
  refine V.calls [] Try.func79 rfl Try.ntmps79 (Nat.le_of_ble_eq_true rfl) (V.sat_nil _) ?_
  refine CW.seq ?_
  refine CW.region ?_
  refine LW.v rfl rfl (Val.assign rfl) ?_
  refine LW.nil ?_
  refine PQ.seq ?_
  refine CW.seq ?_
  refine CW.seq ?_
  refine CW.region ?_
  refine LW.v rfl rfl (Val.move rfl) ?_
  refine LW.v rfl rfl (Val.cmp rfl rfl rfl) ?_
  refine LW.v rfl rfl (Val.move rfl) ?_
  refine LW.split (d := 5) rfl (fun h5 => ?_) (fun h5 => ?_)
  · replace h5 := bT h5
    refine LW.p rfl rfl ?_
    refine LW.p rfl rfl ?_
    refine LW.v rfl rfl (Val.pick_t rfl rfl) ?_
    refine LW.nil ?_
    refine PQ.seq ?_
    refine CW.cond_t rfl ?_
    refine CW.seq ?_
    refine CW.region ?_
    refine LW.v rfl rfl (Val.assign rfl) ?_
    refine LW.nil ?_
    refine PQ.seq ?_
    refine CW.ret ?_
    refine PQ.then_ret ?_
    refine PQ.ret1 rfl rfl ?_
    intro w' hw; exact ⟨0, by omega, rfl, hw.below⟩
  · replace h5 := bF h5
    refine LW.v rfl rfl (Val.move rfl) ?_
    refine LW.v rfl rfl (Val.cmp rfl rfl rfl) ?_
    refine LW.v rfl rfl (Val.pick_f rfl rfl) ?_
    refine LW.nil ?_
    refine PQ.seq ?_
    refine CW.cond rfl (fun h8 => ?_) (fun h8 => ?_)
    · replace h8 := bT h8
      refine CW.seq ?_
      refine CW.region ?_
      refine LW.v rfl rfl (Val.assign rfl) ?_
      refine LW.nil ?_
      refine PQ.seq ?_
      refine CW.ret ?_
      refine PQ.then_ret ?_
      refine PQ.ret1 rfl rfl ?_
      intro w' hw; exact ⟨0, by omega, rfl, hw.below⟩
    · replace h8 := bF h8
      refine CW.skip ?_
      refine PQ.seq ?_
      refine CW.seq ?_
      refine CW.region ?_
      refine LW.v rfl rfl (Val.move rfl) ?_
      refine LW.v rfl rfl (Val.shl rfl rfl (by omega)) ?_
      refine LW.v rfl rfl (Val.assign rfl) ?_
      refine LW.nil ?_
      refine PQ.seq ?_
      refine CW.ret ?_
      refine PQ.ret1 rfl rfl ?_
      intro w' hw
      obtain ⟨k, rfl⟩ := Int.eq_ofNat_of_zero_le (show 0 ≤ c by omega)
      have hk : k = 0 ∨ k = 1 ∨ k = 2 ∨ k = 3 := by omega
      refine ⟨_, ?_, rfl, hw.below⟩
      rcases hk with rfl | rfl | rfl | rfl <;> decide
theorem may_c (x : En) (w : World) : Calls Try.prog 66 [enV x].toArray w fun e w' => ∃ v : Bool, (v = true ↔ May x) ∧ e = .returned (.bool v) ∧ Below w.heap.size w w' := by
  refine V.calls [] Try.func66 rfl Try.ntmps66 (Nat.le_of_ble_eq_true rfl) (V.sat_nil _) ?_
  refine CW.seq ?_
  refine CW.region ?_
  refine LW.e rfl rfl (Eff.boxA rfl) ?_
  intro b1 _
  refine LW.v rfl rfl (Val.assign rfl) ?_
  refine LW.nil ?_
  refine PQ.seq ?_
  refine CW.seq ?_
  refine CW.region ?_
  refine LW.v rfl rfl (Val.fieldAddr 0 rfl Try.underlying80 rfl rfl Try.sizeOf3) ?_
  refine LW.v rfl rfl (Val.load rfl Try.isAgg3 (by repeat (first | exact .here | refine .there ?_)) (by rfl)) ?_
  refine LW.v rfl rfl (Val.cmp rfl rfl rfl) ?_
  refine LW.v rfl rfl (Val.move rfl) ?_
  refine LW.split (d := 6) rfl (fun h6 => ?_) (fun h6 => ?_)
  · replace h6 := bT h6
    refine LW.v rfl rfl (Val.fieldAddr 0 rfl Try.underlying80 rfl rfl Try.sizeOf3) ?_
    refine LW.v rfl rfl (Val.load rfl Try.isAgg3 (by repeat (first | exact .here | refine .there ?_)) (by rfl)) ?_
    refine LW.v rfl rfl (Val.cmp rfl rfl rfl) ?_
    refine LW.v rfl rfl (Val.pick_t rfl rfl) ?_
    refine LW.v rfl rfl (Val.move rfl) ?_
    refine LW.split (d := 11) rfl (fun h11 => ?_) (fun h11 => ?_)
    · replace h11 := bT h11
      refine LW.v rfl rfl (Val.fieldAddr 1 rfl Try.underlying80 rfl rfl Try.sizeOf3) ?_
      refine LW.v rfl rfl (Val.load rfl Try.isAgg3 (by repeat (first | exact .here | refine .there ?_)) (by rfl)) ?_
      refine LW.e rfl rfl (Eff.callR rfl Try.call79 (fun w hw => span_c x.cls w)) ?_
      intro sv hsv
      refine LW.v rfl rfl (Val.cmp rfl rfl rfl) ?_
      refine LW.v rfl rfl (Val.pick_t rfl rfl) ?_
      refine LW.v rfl rfl (Val.move rfl) ?_
      refine LW.split (d := 17) rfl (fun h17 => ?_) (fun h17 => ?_)
      · replace h17 := bT h17
        refine LW.v rfl rfl (Val.fieldAddr 4 rfl Try.underlying80 rfl rfl Try.sizeOf3) ?_
        refine LW.v rfl rfl (Val.load rfl Try.isAgg3 (by repeat (first | exact .here | refine .there ?_)) (by rfl)) ?_
        refine LW.v rfl rfl (Val.cmp rfl rfl rfl) ?_
        refine LW.v rfl rfl (Val.pick_t rfl rfl) ?_
        refine LW.v rfl rfl (Val.move rfl) ?_
        refine LW.split (d := 22) rfl (fun h22 => ?_) (fun h22 => ?_)
        · replace h22 := bT h22
          refine LW.v rfl rfl (Val.fieldAddr 4 rfl Try.underlying80 rfl rfl Try.sizeOf3) ?_
          refine LW.v rfl rfl (Val.load rfl Try.isAgg3 (by repeat (first | exact .here | refine .there ?_)) (by rfl)) ?_
          refine LW.v rfl rfl (Val.cmp rfl rfl rfl) ?_
          refine LW.v rfl rfl (Val.pick_t rfl rfl) ?_
          refine LW.v rfl rfl (Val.assign rfl) ?_
          refine LW.nil ?_
          refine PQ.seq ?_
          refine CW.ret ?_
          refine PQ.ret1 rfl rfl ?_
          intro w' hw; refine ⟨_, ?_, rfl, hw.below⟩
          unfold May
          first | omega | (simp; omega)
        · replace h22 := bF h22
          refine LW.p rfl rfl ?_
          refine LW.p rfl rfl ?_
          refine LW.p rfl rfl ?_
          refine LW.v rfl rfl (Val.pick_f rfl rfl) ?_
          refine LW.v rfl rfl (Val.assign rfl) ?_
          refine LW.nil ?_
          refine PQ.seq ?_
          refine CW.ret ?_
          refine PQ.ret1 rfl rfl ?_
          intro w' hw; refine ⟨_, ?_, rfl, hw.below⟩
          unfold May
          first | omega | (simp; omega)
      · replace h17 := bF h17
        refine LW.p rfl rfl ?_
        refine LW.p rfl rfl ?_
        refine LW.p rfl rfl ?_
        refine LW.v rfl rfl (Val.pick_f rfl rfl) ?_
        refine LW.v rfl rfl (Val.move rfl) ?_
        refine LW.p rfl rfl ?_
        refine LW.p rfl rfl ?_
        refine LW.p rfl rfl ?_
        refine LW.v rfl rfl (Val.pick_f rfl rfl) ?_
        refine LW.v rfl rfl (Val.assign rfl) ?_
        refine LW.nil ?_
        refine PQ.seq ?_
        refine CW.ret ?_
        refine PQ.ret1 rfl rfl ?_
        intro w' hw; refine ⟨_, ?_, rfl, hw.below⟩
        unfold May
        first | omega | (simp; omega)
    · replace h11 := bF h11
      refine LW.p rfl rfl ?_
      refine LW.p rfl rfl ?_
      refine LW.p rfl rfl ?_
      refine LW.p rfl rfl ?_
      refine LW.v rfl rfl (Val.pick_f rfl rfl) ?_
      refine LW.v rfl rfl (Val.move rfl) ?_
      refine LW.p rfl rfl ?_
      refine LW.p rfl rfl ?_
      refine LW.p rfl rfl ?_
      refine LW.v rfl rfl (Val.pick_f rfl rfl) ?_
      refine LW.v rfl rfl (Val.move rfl) ?_
      refine LW.p rfl rfl ?_
      refine LW.p rfl rfl ?_
      refine LW.p rfl rfl ?_
      refine LW.v rfl rfl (Val.pick_f rfl rfl) ?_
      refine LW.v rfl rfl (Val.assign rfl) ?_
      refine LW.nil ?_
      refine PQ.seq ?_
      refine CW.ret ?_
      refine PQ.ret1 rfl rfl ?_
      intro w' hw; refine ⟨_, ?_, rfl, hw.below⟩
      unfold May
      first | omega | (simp; omega)
  · replace h6 := bF h6
    refine LW.p rfl rfl ?_
    refine LW.p rfl rfl ?_
    refine LW.p rfl rfl ?_
    refine LW.v rfl rfl (Val.pick_f rfl rfl) ?_
    refine LW.v rfl rfl (Val.move rfl) ?_
    refine LW.p rfl rfl ?_
    refine LW.p rfl rfl ?_
    refine LW.p rfl rfl ?_
    refine LW.p rfl rfl ?_
    refine LW.v rfl rfl (Val.pick_f rfl rfl) ?_
    refine LW.v rfl rfl (Val.move rfl) ?_
    refine LW.p rfl rfl ?_
    refine LW.p rfl rfl ?_
    refine LW.p rfl rfl ?_
    refine LW.v rfl rfl (Val.pick_f rfl rfl) ?_
    refine LW.v rfl rfl (Val.move rfl) ?_
    refine LW.p rfl rfl ?_
    refine LW.p rfl rfl ?_
    refine LW.p rfl rfl ?_
    refine LW.v rfl rfl (Val.pick_f rfl rfl) ?_
    refine LW.v rfl rfl (Val.assign rfl) ?_
    refine LW.nil ?_
    refine PQ.seq ?_
    refine CW.ret ?_
    refine PQ.ret1 rfl rfl ?_
    intro w' hw; refine ⟨_, ?_, rfl, hw.below⟩
    unfold May
    first | omega | (simp; omega)
theorem put_c (b : Nat) (o : Option (Nat × List Value × Nat)) (l : List En) (hk : bgOk o l) (hl : l.length ≤ 1000) (x : En) (w : World) (hs : Sat (bgG 124 b o l) w) : Calls Try.prog 42 [.pointer (some ⟨b, 0, none⟩), enV x].toArray w fun e w' => ∃ o' : Option (Nat × List Value × Nat), bgOk o' (putF x l).1 ∧ e = .returned (.int .i64 (putF x l).2) ∧ Hp ⟨w, ids (bgG 124 b o l)⟩ (bgG 124 b o' (putF x l).1) w' := by
  rcases o with _ | ⟨g, rest, cap⟩
  · obtain rfl : l = [] := hk
    have hk : bgOk none [] := rfl
    refine V.calls (bgG 124 b none []) Try.func42 rfl Try.ntmps42 (Nat.le_of_ble_eq_true rfl) hs ?_
    refine CW.seq ?_
    refine CW.region ?_
    refine LW.e rfl rfl (Eff.boxA rfl) ?_
    intro b3 _
    refine LW.v rfl rfl (Val.assign rfl) ?_
    refine LW.nil ?_
    refine PQ.seq ?_
    refine CW.seq ?_
    refine CW.seq ?_
    refine CW.region ?_
    refine LW.v rfl rfl (Val.move rfl) ?_
    refine LW.v rfl rfl (Val.eqP false rfl rfl Try.underlying76 (.inr ⟨rfl, rfl⟩)) ?_
    refine LW.v rfl rfl (Val.move rfl) ?_
    first | (refine LW.v rfl rfl (Val.loadW rfl Try.isAgg80 (by repeat (first | exact .here | refine .there ?_)) (by exact Try.sizeOf80)) ?_) | (refine LW.v rfl rfl (Val.loadA [_, _, _, _, _] rfl Try.isAgg80 (by repeat (first | exact .here | refine .there ?_)) (by rfl) Try.sizeOf80) ?_)
    refine LW.e rfl rfl (Eff.callR rfl Try.call66 (fun w hw => may_c x w)) ?_
    intro mv hv
    refine LW.v rfl rfl (Val.not rfl) ?_
    refine LW.v rfl rfl (Val.pick_f rfl rfl) ?_
    refine LW.nil ?_
    refine PQ.seq ?_
    refine CW.cond rfl (fun h11 => ?_) (fun h11 => ?_)
    · replace h11 := bT h11
      refine CW.seq ?_
      refine CW.region ?_
      refine LW.v rfl rfl (Val.assign rfl) ?_
      refine LW.nil ?_
      refine PQ.seq ?_
      refine CW.ret ?_
      refine PQ.then_ret ?_
      refine PQ.ret1 rfl rfl ?_
      intro w' hw
      rw [show putF x [] = ([], 1) from if_neg (by first | exact fun h => absurd (hv.2 h) (by simp_all) | (intro h; have := hv.2 h; simp_all))]
      exact ⟨none, hk, rfl, hw.pick (by repeat (first | exact .nil | apply Pick.cons | exact .here | apply Ext.there))⟩
    · replace h11 := bF h11
      refine CW.skip ?_
      refine PQ.seq ?_
      refine CW.seq ?_
      refine CW.seq ?_
      refine CW.region ?_
      refine LW.v rfl rfl (Val.move rfl) ?_
      refine LW.v rfl rfl (Val.nilCheck rfl) ?_
      refine LW.v rfl rfl (Val.fieldAddr 0 rfl Try.underlying124 rfl rfl Try.sizeOf86) ?_
      refine LW.v rfl rfl (Val.load rfl Try.isAgg86 (by repeat (first | exact .here | refine .there ?_)) (by rfl)) ?_
      refine LW.v rfl rfl (Val.lenSl rfl Try.underlying86) ?_
      refine LW.v rfl rfl (Val.cmp rfl rfl rfl) ?_
      refine LW.nil ?_
      refine PQ.seq ?_
      refine CW.cond rfl (fun h17 => ?_) (fun h17 => ?_)
      · exact absurd (bT h17) (by decide)
      · replace h17 := bF h17
        refine CW.skip ?_
        refine PQ.seq ?_
        refine CW.seq ?_
        refine CW.drawn ([[(b3, .cells (enC x).toArray 80 (0, 0))]]) mixed (by repeat (first | exact .nil | apply Pick.cons | exact .here | apply Ext.there)) ?_
        refine RW.v 0 rfl (by kernel_rfl) (by kernel_rfl) (by kernel_rfl) (fun _ _ _ h => h) rfl rfl (Val.move rfl) ?_
        refine RW.v 1 rfl (by kernel_rfl) (by kernel_rfl) (by kernel_rfl) (fun _ _ _ h => h) rfl rfl (Val.move rfl) ?_
        refine RW.v 2 rfl (by kernel_rfl) (by kernel_rfl) (by kernel_rfl) (fun _ _ _ h => h) rfl rfl (Val.nilCheck rfl) ?_
        refine RW.v 3 rfl (by kernel_rfl) (by kernel_rfl) (by kernel_rfl) (fun _ _ _ h => h) rfl rfl (Val.fieldAddr 0 rfl Try.underlying124 rfl rfl Try.sizeOf86) ?_
        first | (refine RW.v 5 rfl (by kernel_rfl) (by kernel_rfl) (by kernel_rfl) (fun _ _ _ h => h) rfl rfl (Val.loadW rfl Try.isAgg80 (by repeat (first | exact .here | refine .there ?_)) (by exact Try.sizeOf80)) ?_) | (refine RW.v 5 rfl (by kernel_rfl) (by kernel_rfl) (by kernel_rfl) (fun _ _ _ h => h) rfl rfl (Val.loadA [_, _, _, _, _] rfl Try.isAgg80 (by repeat (first | exact .here | refine .there ?_)) (by rfl) Try.sizeOf80) ?_)
        refine RW.any [4, 6] (by kernel_rfl) (by simp) ?_
        intro i hi
        simp only [List.mem_cons, List.not_mem_nil, or_false] at hi
        rcases hi with rfl | rfl
        · refine RO.e rfl rfl rfl (Eff.ofVal (Val.load rfl Try.isAgg86 (by repeat (first | exact .here | refine .there ?_)) (by rfl))) (fun x => ⟨_, (by repeat (first | exact .nil | apply Pick.cons | exact .here | apply Ext.there))⟩) ?_
          intro _ _
          refine RW.e 6 rfl (by kernel_rfl) rfl rfl (Eff.buildSlice (rfl) [_, _, _, _, _] Try.underlying86 Try.sizeOf80 (by exact Try.zeroValue80) rfl rfl rfl rfl (by rfl)) (fun x => ⟨_, (by repeat (first | exact .nil | apply Pick.cons | exact .here | apply Ext.there))⟩) ?_
          intro b24 _
          refine RW.e 7 rfl (by kernel_rfl) rfl rfl (Eff.append (enC x) (sz := 5) (bytes := 40) (z := .agg #[.int .i64 0, .int .i64 0, .int .u64 0, .int .u64 0, .int .i64 0]) (xs := [].flatMap enC) (m0 := [].length) (o := none) (m := 1) rfl rfl Try.underlying86 (by kernel_rfl) rfl (by omega) (by repeat (first | exact .nil | apply Pick.cons | exact .here | apply Ext.there)) (bg_own hk) (by omega) rfl (fun w hw => V.range_of_block (o := 0) (cs := enC x) (r := []) (hw.own _ (show InS (b24, .cells (enC x).toArray 80 (0, 0)) _ from (by repeat (first | exact .here | refine .there ?_))).mem) rfl) rfl (by first | omega | (simp only [List.length_nil]; omega)) (by first | omega | (simp only [List.length_nil]; omega))) (fun x => ⟨_, (by repeat (first | exact .nil | apply Pick.cons | exact .here | apply Ext.there))⟩) ?_
          rintro o2 ⟨ho2, hs2⟩
          obtain ⟨⟨g2, rest2, cap2⟩, rfl⟩ := Option.isSome_iff_exists.1 hs2
          refine RW.v 8 rfl (by kernel_rfl) (by kernel_rfl) (by kernel_rfl) (fun _ _ _ h => h) rfl rfl (Val.nilCheck rfl) ?_
          refine RW.v 9 rfl (by kernel_rfl) (by kernel_rfl) (by kernel_rfl) (fun _ _ _ h => h) rfl rfl (Val.fieldAddr 0 rfl Try.underlying124 rfl rfl Try.sizeOf86) ?_
          refine RW.eN 10 rfl (by kernel_rfl) rfl (Eff.store rfl rfl rfl (by repeat (first | exact .here | apply Upd.there)) rfl rfl Try.sizeOf86) (fun x => ⟨_, (by repeat (first | exact .nil | apply Pick.cons | exact .here | apply Ext.there))⟩) ?_
          intro _ _
          refine RW.done (by kernel_rfl) ?_
          refine PQ.seq ?_
          refine CW.seq ?_
          refine CW.region ?_
          refine LW.v rfl rfl (Val.assign rfl) ?_
          refine LW.nil ?_
          refine PQ.seq ?_
          refine CW.ret ?_
          refine PQ.ret1 rfl rfl ?_
          intro w' hw
          rw [show putF x [] = ([] ++ [x], 0) from (if_pos (hv.1 (by simp_all))).trans (if_pos (by first | omega | (simp only [List.length_nil]; omega)))]
          have ho3 : V.ownOk 5 ([] ++ [x]).length (([] ++ [x]).flatMap enC) (some (g2, rest2, cap2)) := by rw [flat_snoc, List.length_append]; exact ho2
          refine ⟨some (g2, rest2, cap2), bg_of_own ho3, rfl, ?_⟩
          unfold bgG bgA bgV enCs
          rw [flat_snoc, List.length_append]
          exact hw.pick (by repeat (first | exact .nil | apply Pick.cons | exact .here | apply Ext.there))
        · refine RO.e rfl rfl rfl (Eff.buildSlice (rfl) [_, _, _, _, _] Try.underlying86 Try.sizeOf80 (by exact Try.zeroValue80) rfl rfl rfl rfl (by rfl)) (fun x => ⟨_, (by repeat (first | exact .nil | apply Pick.cons | exact .here | apply Ext.there))⟩) ?_
          intro b24 _
          refine RW.e 4 rfl (by kernel_rfl) rfl rfl (Eff.ofVal (Val.load rfl Try.isAgg86 (by repeat (first | exact .here | refine .there ?_)) (by rfl))) (fun x => ⟨_, (by repeat (first | exact .nil | apply Pick.cons | exact .here | apply Ext.there))⟩) ?_
          intro _ _
          refine RW.e 7 rfl (by kernel_rfl) rfl rfl (Eff.append (enC x) (sz := 5) (bytes := 40) (z := .agg #[.int .i64 0, .int .i64 0, .int .u64 0, .int .u64 0, .int .i64 0]) (xs := [].flatMap enC) (m0 := [].length) (o := none) (m := 1) rfl rfl Try.underlying86 (by kernel_rfl) rfl (by omega) (by repeat (first | exact .nil | apply Pick.cons | exact .here | apply Ext.there)) (bg_own hk) (by omega) rfl (fun w hw => V.range_of_block (o := 0) (cs := enC x) (r := []) (hw.own _ (show InS (b24, .cells (enC x).toArray 80 (0, 0)) _ from (by repeat (first | exact .here | refine .there ?_))).mem) rfl) rfl (by first | omega | (simp only [List.length_nil]; omega)) (by first | omega | (simp only [List.length_nil]; omega))) (fun x => ⟨_, (by repeat (first | exact .nil | apply Pick.cons | exact .here | apply Ext.there))⟩) ?_
          rintro o2 ⟨ho2, hs2⟩
          obtain ⟨⟨g2, rest2, cap2⟩, rfl⟩ := Option.isSome_iff_exists.1 hs2
          refine RW.v 8 rfl (by kernel_rfl) (by kernel_rfl) (by kernel_rfl) (fun _ _ _ h => h) rfl rfl (Val.nilCheck rfl) ?_
          refine RW.v 9 rfl (by kernel_rfl) (by kernel_rfl) (by kernel_rfl) (fun _ _ _ h => h) rfl rfl (Val.fieldAddr 0 rfl Try.underlying124 rfl rfl Try.sizeOf86) ?_
          refine RW.eN 10 rfl (by kernel_rfl) rfl (Eff.store rfl rfl rfl (by repeat (first | exact .here | apply Upd.there)) rfl rfl Try.sizeOf86) (fun x => ⟨_, (by repeat (first | exact .nil | apply Pick.cons | exact .here | apply Ext.there))⟩) ?_
          intro _ _
          refine RW.done (by kernel_rfl) ?_
          refine PQ.seq ?_
          refine CW.seq ?_
          refine CW.region ?_
          refine LW.v rfl rfl (Val.assign rfl) ?_
          refine LW.nil ?_
          refine PQ.seq ?_
          refine CW.ret ?_
          refine PQ.ret1 rfl rfl ?_
          intro w' hw
          rw [show putF x [] = ([] ++ [x], 0) from (if_pos (hv.1 (by simp_all))).trans (if_pos (by first | omega | (simp only [List.length_nil]; omega)))]
          have ho3 : V.ownOk 5 ([] ++ [x]).length (([] ++ [x]).flatMap enC) (some (g2, rest2, cap2)) := by rw [flat_snoc, List.length_append]; exact ho2
          refine ⟨some (g2, rest2, cap2), bg_of_own ho3, rfl, ?_⟩
          unfold bgG bgA bgV enCs
          rw [flat_snoc, List.length_append]
          exact hw.pick (by repeat (first | exact .nil | apply Pick.cons | exact .here | apply Ext.there))
  · refine V.calls (bgG 124 b (some (g, rest, cap)) l) Try.func42 rfl Try.ntmps42 (Nat.le_of_ble_eq_true rfl) hs ?_
    refine CW.seq ?_
    refine CW.region ?_
    refine LW.e rfl rfl (Eff.boxA rfl) ?_
    intro b3 _
    refine LW.v rfl rfl (Val.assign rfl) ?_
    refine LW.nil ?_
    refine PQ.seq ?_
    refine CW.seq ?_
    refine CW.seq ?_
    refine CW.region ?_
    refine LW.v rfl rfl (Val.move rfl) ?_
    refine LW.v rfl rfl (Val.eqP false rfl rfl Try.underlying76 (.inr ⟨rfl, rfl⟩)) ?_
    refine LW.v rfl rfl (Val.move rfl) ?_
    first | (refine LW.v rfl rfl (Val.loadW rfl Try.isAgg80 (by repeat (first | exact .here | refine .there ?_)) (by exact Try.sizeOf80)) ?_) | (refine LW.v rfl rfl (Val.loadA [_, _, _, _, _] rfl Try.isAgg80 (by repeat (first | exact .here | refine .there ?_)) (by rfl) Try.sizeOf80) ?_)
    refine LW.e rfl rfl (Eff.callR rfl Try.call66 (fun w hw => may_c x w)) ?_
    intro mv hv
    refine LW.v rfl rfl (Val.not rfl) ?_
    refine LW.v rfl rfl (Val.pick_f rfl rfl) ?_
    refine LW.nil ?_
    refine PQ.seq ?_
    refine CW.cond rfl (fun h11 => ?_) (fun h11 => ?_)
    · replace h11 := bT h11
      refine CW.seq ?_
      refine CW.region ?_
      refine LW.v rfl rfl (Val.assign rfl) ?_
      refine LW.nil ?_
      refine PQ.seq ?_
      refine CW.ret ?_
      refine PQ.then_ret ?_
      refine PQ.ret1 rfl rfl ?_
      intro w' hw
      rw [show putF x l = (l, 1) from if_neg (by first | exact fun h => absurd (hv.2 h) (by simp_all) | (intro h; have := hv.2 h; simp_all))]
      exact ⟨(some (g, rest, cap)), hk, rfl, hw.pick (by repeat (first | exact .nil | apply Pick.cons | exact .here | apply Ext.there))⟩
    · replace h11 := bF h11
      refine CW.skip ?_
      refine PQ.seq ?_
      refine CW.seq ?_
      refine CW.seq ?_
      refine CW.region ?_
      refine LW.v rfl rfl (Val.move rfl) ?_
      refine LW.v rfl rfl (Val.nilCheck rfl) ?_
      refine LW.v rfl rfl (Val.fieldAddr 0 rfl Try.underlying124 rfl rfl Try.sizeOf86) ?_
      refine LW.v rfl rfl (Val.load rfl Try.isAgg86 (by repeat (first | exact .here | refine .there ?_)) (by rfl)) ?_
      refine LW.v rfl rfl (Val.lenSl rfl Try.underlying86) ?_
      refine LW.v rfl rfl (Val.cmp rfl rfl rfl) ?_
      refine LW.nil ?_
      refine PQ.seq ?_
      refine CW.cond rfl (fun h17 => ?_) (fun h17 => ?_)
      · replace h17 := bT h17
        refine CW.seq ?_
        refine CW.region ?_
        refine LW.v rfl rfl (Val.assign rfl) ?_
        refine LW.nil ?_
        refine PQ.seq ?_
        refine CW.ret ?_
        refine PQ.then_ret ?_
        refine PQ.ret1 rfl rfl ?_
        intro w' hw
        rw [show putF x l = (l, 11) from (if_pos (hv.1 (by simp_all))).trans (if_neg (by omega))]
        exact ⟨(some (g, rest, cap)), hk, rfl, hw.pick (by repeat (first | exact .nil | apply Pick.cons | exact .here | apply Ext.there))⟩
      · replace h17 := bF h17
        refine CW.skip ?_
        refine PQ.seq ?_
        refine CW.seq ?_
        refine CW.drawn ([[(b3, .cells (enC x).toArray 80 (0, 0))]]) mixed (by repeat (first | exact .nil | apply Pick.cons | exact .here | apply Ext.there)) ?_
        refine RW.v 0 rfl (by kernel_rfl) (by kernel_rfl) (by kernel_rfl) (fun _ _ _ h => h) rfl rfl (Val.move rfl) ?_
        refine RW.v 1 rfl (by kernel_rfl) (by kernel_rfl) (by kernel_rfl) (fun _ _ _ h => h) rfl rfl (Val.move rfl) ?_
        refine RW.v 2 rfl (by kernel_rfl) (by kernel_rfl) (by kernel_rfl) (fun _ _ _ h => h) rfl rfl (Val.nilCheck rfl) ?_
        refine RW.v 3 rfl (by kernel_rfl) (by kernel_rfl) (by kernel_rfl) (fun _ _ _ h => h) rfl rfl (Val.fieldAddr 0 rfl Try.underlying124 rfl rfl Try.sizeOf86) ?_
        first | (refine RW.v 5 rfl (by kernel_rfl) (by kernel_rfl) (by kernel_rfl) (fun _ _ _ h => h) rfl rfl (Val.loadW rfl Try.isAgg80 (by repeat (first | exact .here | refine .there ?_)) (by exact Try.sizeOf80)) ?_) | (refine RW.v 5 rfl (by kernel_rfl) (by kernel_rfl) (by kernel_rfl) (fun _ _ _ h => h) rfl rfl (Val.loadA [_, _, _, _, _] rfl Try.isAgg80 (by repeat (first | exact .here | refine .there ?_)) (by rfl) Try.sizeOf80) ?_)
        refine RW.any [4, 6] (by kernel_rfl) (by simp) ?_
        intro i hi
        simp only [List.mem_cons, List.not_mem_nil, or_false] at hi
        rcases hi with rfl | rfl
        · refine RO.e rfl rfl rfl (Eff.ofVal (Val.load rfl Try.isAgg86 (by repeat (first | exact .here | refine .there ?_)) (by rfl))) (fun x => ⟨_, (by repeat (first | exact .nil | apply Pick.cons | exact .here | apply Ext.there))⟩) ?_
          intro _ _
          refine RW.e 6 rfl (by kernel_rfl) rfl rfl (Eff.buildSlice (rfl) [_, _, _, _, _] Try.underlying86 Try.sizeOf80 (by exact Try.zeroValue80) rfl rfl rfl rfl (by rfl)) (fun x => ⟨_, (by repeat (first | exact .nil | apply Pick.cons | exact .here | apply Ext.there))⟩) ?_
          intro b24 _
          refine RW.e 7 rfl (by kernel_rfl) rfl rfl (Eff.append (enC x) (sz := 5) (bytes := 40) (z := .agg #[.int .i64 0, .int .i64 0, .int .u64 0, .int .u64 0, .int .i64 0]) (xs := l.flatMap enC) (m0 := l.length) (o := (some (g, rest, cap))) (m := 1) rfl rfl Try.underlying86 (by kernel_rfl) rfl (by omega) (by repeat (first | exact .nil | apply Pick.cons | exact .here | apply Ext.there)) (bg_own hk) (by omega) rfl (fun w hw => V.range_of_block (o := 0) (cs := enC x) (r := []) (hw.own _ (show InS (b24, .cells (enC x).toArray 80 (0, 0)) _ from (by repeat (first | exact .here | refine .there ?_))).mem) rfl) rfl (by first | omega | (simp only [List.length_nil]; omega)) (by first | omega | (simp only [List.length_nil]; omega))) (fun x => ⟨_, (by repeat (first | exact .nil | apply Pick.cons | exact .here | apply Ext.there))⟩) ?_
          rintro o2 ⟨ho2, hs2⟩
          obtain ⟨⟨g2, rest2, cap2⟩, rfl⟩ := Option.isSome_iff_exists.1 hs2
          refine RW.v 8 rfl (by kernel_rfl) (by kernel_rfl) (by kernel_rfl) (fun _ _ _ h => h) rfl rfl (Val.nilCheck rfl) ?_
          refine RW.v 9 rfl (by kernel_rfl) (by kernel_rfl) (by kernel_rfl) (fun _ _ _ h => h) rfl rfl (Val.fieldAddr 0 rfl Try.underlying124 rfl rfl Try.sizeOf86) ?_
          refine RW.eN 10 rfl (by kernel_rfl) rfl (Eff.store rfl rfl rfl (by repeat (first | exact .here | apply Upd.there)) rfl rfl Try.sizeOf86) (fun x => ⟨_, (by repeat (first | exact .nil | apply Pick.cons | exact .here | apply Ext.there))⟩) ?_
          intro _ _
          refine RW.done (by kernel_rfl) ?_
          refine PQ.seq ?_
          refine CW.seq ?_
          refine CW.region ?_
          refine LW.v rfl rfl (Val.assign rfl) ?_
          refine LW.nil ?_
          refine PQ.seq ?_
          refine CW.ret ?_
          refine PQ.ret1 rfl rfl ?_
          intro w' hw
          rw [show putF x l = (l ++ [x], 0) from (if_pos (hv.1 (by simp_all))).trans (if_pos (by first | omega | (simp only [List.length_nil]; omega)))]
          have ho3 : V.ownOk 5 (l ++ [x]).length ((l ++ [x]).flatMap enC) (some (g2, rest2, cap2)) := by rw [flat_snoc, List.length_append]; exact ho2
          refine ⟨some (g2, rest2, cap2), bg_of_own ho3, rfl, ?_⟩
          unfold bgG bgA bgV enCs
          rw [flat_snoc, List.length_append]
          exact hw.pick (by repeat (first | exact .nil | apply Pick.cons | exact .here | apply Ext.there))
        · refine RO.e rfl rfl rfl (Eff.buildSlice (rfl) [_, _, _, _, _] Try.underlying86 Try.sizeOf80 (by exact Try.zeroValue80) rfl rfl rfl rfl (by rfl)) (fun x => ⟨_, (by repeat (first | exact .nil | apply Pick.cons | exact .here | apply Ext.there))⟩) ?_
          intro b24 _
          refine RW.e 4 rfl (by kernel_rfl) rfl rfl (Eff.ofVal (Val.load rfl Try.isAgg86 (by repeat (first | exact .here | refine .there ?_)) (by rfl))) (fun x => ⟨_, (by repeat (first | exact .nil | apply Pick.cons | exact .here | apply Ext.there))⟩) ?_
          intro _ _
          refine RW.e 7 rfl (by kernel_rfl) rfl rfl (Eff.append (enC x) (sz := 5) (bytes := 40) (z := .agg #[.int .i64 0, .int .i64 0, .int .u64 0, .int .u64 0, .int .i64 0]) (xs := l.flatMap enC) (m0 := l.length) (o := (some (g, rest, cap))) (m := 1) rfl rfl Try.underlying86 (by kernel_rfl) rfl (by omega) (by repeat (first | exact .nil | apply Pick.cons | exact .here | apply Ext.there)) (bg_own hk) (by omega) rfl (fun w hw => V.range_of_block (o := 0) (cs := enC x) (r := []) (hw.own _ (show InS (b24, .cells (enC x).toArray 80 (0, 0)) _ from (by repeat (first | exact .here | refine .there ?_))).mem) rfl) rfl (by first | omega | (simp only [List.length_nil]; omega)) (by first | omega | (simp only [List.length_nil]; omega))) (fun x => ⟨_, (by repeat (first | exact .nil | apply Pick.cons | exact .here | apply Ext.there))⟩) ?_
          rintro o2 ⟨ho2, hs2⟩
          obtain ⟨⟨g2, rest2, cap2⟩, rfl⟩ := Option.isSome_iff_exists.1 hs2
          refine RW.v 8 rfl (by kernel_rfl) (by kernel_rfl) (by kernel_rfl) (fun _ _ _ h => h) rfl rfl (Val.nilCheck rfl) ?_
          refine RW.v 9 rfl (by kernel_rfl) (by kernel_rfl) (by kernel_rfl) (fun _ _ _ h => h) rfl rfl (Val.fieldAddr 0 rfl Try.underlying124 rfl rfl Try.sizeOf86) ?_
          refine RW.eN 10 rfl (by kernel_rfl) rfl (Eff.store rfl rfl rfl (by repeat (first | exact .here | apply Upd.there)) rfl rfl Try.sizeOf86) (fun x => ⟨_, (by repeat (first | exact .nil | apply Pick.cons | exact .here | apply Ext.there))⟩) ?_
          intro _ _
          refine RW.done (by kernel_rfl) ?_
          refine PQ.seq ?_
          refine CW.seq ?_
          refine CW.region ?_
          refine LW.v rfl rfl (Val.assign rfl) ?_
          refine LW.nil ?_
          refine PQ.seq ?_
          refine CW.ret ?_
          refine PQ.ret1 rfl rfl ?_
          intro w' hw
          rw [show putF x l = (l ++ [x], 0) from (if_pos (hv.1 (by simp_all))).trans (if_pos (by first | omega | (simp only [List.length_nil]; omega)))]
          have ho3 : V.ownOk 5 (l ++ [x]).length ((l ++ [x]).flatMap enC) (some (g2, rest2, cap2)) := by rw [flat_snoc, List.length_append]; exact ho2
          refine ⟨some (g2, rest2, cap2), bg_of_own ho3, rfl, ?_⟩
          unfold bgG bgA bgV enCs
          rw [flat_snoc, List.length_append]
          exact hw.pick (by repeat (first | exact .nil | apply Pick.cons | exact .here | apply Ext.there))
end Go.Proofs.Ytgeblajdjdcghaa
