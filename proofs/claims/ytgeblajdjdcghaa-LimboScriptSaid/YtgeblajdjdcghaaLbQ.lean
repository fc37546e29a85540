/- LimboScript: the walk of the law. -/
import Derived.Test.YtgeblajdjdcghaaLbP
import Derived.Test.YtgeblajdjdcghaaLbO
import Derived.Lib.Hide
namespace Go.Proofs.Ytgeblajdjdcghaa
open Go Go.RowKit V
set_option linter.unusedVariables false
set_option maxRecDepth 100000
theorem places95 : ∀ w, ((Array.mapM (fun (f : Field) => do pure (f.offset, ← sizeOf f.type)) (Try.prog.fieldsOf 95) : Sem (Array (Nat × Nat)))).run Try.prog w = .ok [(0, 1)].toArray w := by
  intro w; kernel_rfl
theorem findNil_c (b : Nat) (du : Int) (w : World) : Calls Try.prog 67 [.pointer (some ⟨b, 0, none⟩), .pointer none, .int .u64 du].toArray w fun e w' => e = .returned (.int .i64 (-1)) ∧ Below w.heap.size w w' := by
  refine V.callsM [] Try.func67 rfl Try.ntmps67 (Nat.le_of_ble_eq_true rfl) (V.sat_nil _) ?_
  refine CW.seq ?_
  refine CW.region ?_
  refine LW.e rfl rfl (Eff.boxS rfl rfl) ?_
  intro b4 _
  refine LW.e rfl rfl (Eff.boxS rfl rfl) ?_
  intro b5 _
  refine LW.e rfl rfl (Eff.allocS (v := .int .i64 0) rfl (by exact Try.zeroValue3)) ?_
  intro b6 _
  refine LW.nil ?_
  refine PQ.seq ?_
  refine CW.seq ?_
  refine CW.seq ?_
  refine CW.region ?_
  refine LW.v rfl rfl (Val.load rfl Try.isAgg49 (by repeat (first | exact .here | refine .there ?_)) (by rfl)) ?_
  refine LW.v rfl rfl (Val.eqP true rfl rfl Try.underlying49 (.inr ⟨rfl, rfl⟩)) ?_
  refine LW.nil ?_
  refine PQ.seq ?_
  refine CW.cond_t rfl ?_
  refine CW.seq ?_
  refine CW.region ?_
  refine LW.eN rfl (Eff.store rfl rfl rfl (by repeat (first | exact .here | apply Upd.there)) (by rfl) (by rfl) Try.sizeOf3) ?_
  intro _ _
  refine LW.nil ?_
  refine PQ.seq ?_
  refine CW.ret ?_
  refine PQ.then_ret ?_
  refine V.PQ.retM0 (v := .int .i64 (-1)) (fun a w ha hw => V.results_c1 rfl ha hw rfl (by repeat (first | exact .here | refine .there ?_)) Try.isAgg3) ?_
  intro w' hw; exact ⟨rfl, hw.below⟩
theorem readyNil_c (b : Nat) (du : Int) (w : World) : Calls Try.prog 46 [.pointer (some ⟨b, 0, none⟩), .pointer none, .int .u64 du].toArray w fun e w' => e = .returned (.tuple #[enV en0, .bool false]) ∧ Below w.heap.size w w' := by
  refine V.calls [] Try.func46 rfl Try.ntmps46 (Nat.le_of_ble_eq_true rfl) (V.sat_nil _) ?_
  refine CW.seq ?_
  refine CW.region ?_
  refine LW.e rfl rfl (Eff.allocA (by exact Try.zeroValue80)) ?_
  intro b6 _
  refine LW.v rfl rfl (Val.assign rfl) ?_
  refine LW.nil ?_
  refine PQ.seq ?_
  refine CW.seq ?_
  refine CW.region ?_
  refine LW.v rfl rfl (Val.move rfl) ?_
  refine LW.v rfl rfl (Val.move rfl) ?_
  refine LW.v rfl rfl (Val.move rfl) ?_
  refine LW.e rfl rfl (Eff.callV rfl Try.call67 (fun w hw => findNil_c b du w)) ?_
  intro _ _
  refine LW.v rfl rfl (Val.assign rfl) ?_
  refine LW.nil ?_
  refine PQ.seq ?_
  refine CW.seq ?_
  refine CW.seq ?_
  refine CW.region ?_
  refine LW.v rfl rfl (Val.move rfl) ?_
  refine LW.v rfl rfl (Val.cmp rfl rfl rfl) ?_
  refine LW.nil ?_
  refine PQ.seq ?_
  refine CW.cond_t rfl ?_
  refine CW.seq ?_
  refine CW.region ?_
  refine LW.v rfl rfl (Val.build [_, _, _, _, _] Try.zeroValue80 Try.underlying80 places80 rfl (by rfl)) ?_
  first | (refine LW.eN rfl (Eff.storeW rfl rfl (by repeat (first | exact .here | apply Upd.there)) (by rfl) Try.sizeOf80 (by rfl)) ?_) | (refine LW.eN rfl (Eff.storeA (l' := _) rfl rfl (by repeat (first | exact .here | apply Upd.there)) (by rfl) (by decide) Try.sizeOf80 (by rfl)) ?_)
  intro _ _
  refine LW.v rfl rfl (Val.assign rfl) ?_
  refine LW.nil ?_
  refine PQ.seq ?_
  refine CW.ret ?_
  refine PQ.then_ret ?_
  refine PQ.retCT rfl rfl rfl (by repeat (first | exact .here | refine .there ?_)) Try.isAgg80 (by exact Try.sizeOf80) ?_
  intro w' hw; exact ⟨rfl, hw.below⟩
theorem putF_len258 (x : En) (l : List En) (h : l.length ≤ 258) : (putF x l).1.length ≤ 258 := putF_len x l h
theorem rputP_c (b : Nat) (o : Option (Nat × List Value × Nat)) (l : List En) (hk : bgOk o l) (hl : l.length ≤ 1000) (x : En) (w : World) (hs : Sat (bgP 95 b o l) w) : Calls Try.prog 70 [.pointer (some ⟨b, 0, none⟩), enV x].toArray w fun e w' => ∃ o' : Option (Nat × List Value × Nat), bgOk o' (putF x l).1 ∧ e = .returned (.int .i64 (putF x l).2) ∧ Hp ⟨w, ids (bgP 95 b o l)⟩ (bgP 95 b o' (putF x l).1) w' :=
  (rput_c b o l hk hl x w (bgP_sat hs)).mono fun e w' ⟨o', h1, h2, h3⟩ => ⟨o', h1, h2, by rw [bgP_ids]; exact bgP_hp h3⟩
theorem bgP_satF {T b : Nat} {o : Option (Nat × List Value × Nat)} {l : List En} {R : Sg} {w : World} (h : Sat (bgP T b o l ++ R) w) : Sat (bgG T b o l ++ R) w := bgP_satR h
theorem rpopP_c (b : Nat) (o : Option (Nat × List Value × Nat)) (l : List En) (rb ra : Nat) (now : Int) (rl : List Int) (hk : bgOk o l) (hl : l.length ≤ 1000) (h0 : ∀ x ∈ rl, 0 ≤ x) (hm : rl.length ≤ 1000) (du : Int) (w : World) (hs : Sat (bgP 95 b o l ++ rfG rb ra now rl) w) : Calls Try.prog 71 [.pointer (some ⟨b, 0, none⟩), .pointer (some ⟨rb, 0, none⟩), .int .u64 du].toArray w fun e w' => ∃ y : Option En × Option (Nat × List Value × Nat) × List En, (PopR rl du l y.1 y.2.2 ∧ bgOk y.2.1 y.2.2) ∧ e = .returned (.tuple #[enV (y.1.getD en0), .bool y.1.isSome]) ∧ Hp ⟨w, ids (bgP 95 b o l ++ rfG rb ra now rl)⟩ (bgP 95 b y.2.1 y.2.2 ++ rfG rb ra now rl) w' :=
  (rpop_c b o l rb ra now rl hk hl h0 hm du w (bgP_satR hs)).mono fun e w' ⟨y, h1, h2, h3⟩ => ⟨y, h1, h2, by
    have e1 : ids (bgP 95 b o l ++ rfG rb ra now rl) = ids (bgG 95 b o l ++ rfG rb ra now rl) := by unfold ids; rw [List.flatten_append, List.flatten_append, bgP_flat]
    rw [e1]
    exact h3.perm (by rw [List.flatten_append, List.flatten_append, bgP_flat])⟩
theorem popR_det {rl : List Int} {du : Int} : ∀ {l l' l2 : List En} {r r2 : Option En}, PopR rl du l r l' → PopR rl du l r2 l2 → r2 = r ∧ l2 = l' := fun {l l' l2 r r2} h h2 => by
  rcases h with ⟨a1, a2, a3⟩ | ⟨A, x, C, a1, a2, a3, a4, a5⟩
  · rcases h2 with ⟨b1, b2, b3⟩ | ⟨A2, x2, C2, b1, b2, b3, b4, b5⟩
    · exact ⟨by rw [a1, b1], by rw [a2, b2]⟩
    · rw [a3 x2 (by rw [b1]; simp)] at b4; cases b4
  · rcases h2 with ⟨b1, b2, b3⟩ | ⟨A2, x2, C2, b1, b2, b3, b4, b5⟩
    · rw [b3 x (by rw [a1]; simp)] at a4; cases a4
    · have key : ∀ (A A2 : List En), A ++ x :: C = A2 ++ x2 :: C2 → (∀ y ∈ A, rdy rl du y = false) → (∀ y ∈ A2, rdy rl du y = false) → A = A2 ∧ x = x2 ∧ C = C2 := by
        intro A
        induction A with
        | nil =>
          intro A2 h _ hb
          cases A2 with
          | nil => simp at h; exact ⟨rfl, h.1, h.2⟩
          | cons z t =>
            simp only [List.nil_append, List.cons_append, List.cons.injEq] at h
            have := hb z (by simp)
            rw [← h.1, a4] at this; cases this
        | cons z t ih =>
          intro A2 h ha hb
          cases A2 with
          | nil =>
            simp only [List.nil_append, List.cons_append, List.cons.injEq] at h
            have := ha z (by simp)
            rw [h.1, b4] at this; cases this
          | cons z2 t2 =>
            simp only [List.cons_append, List.cons.injEq] at h
            obtain ⟨h5, h6, h7⟩ := ih t2 h.2 (fun y hy => ha y (by simp [hy])) (fun y hy => hb y (by simp [hy]))
            exact ⟨by rw [h.1, h5], h6, h7⟩
      obtain ⟨rfl, rfl, rfl⟩ := key A A2 (by rw [← a1, ← b1]) a5 b5
      exact ⟨by rw [a2, b2], by rw [a3, b3]⟩
/-- A slice that All handed out may be overwritten. -/
theorem overQ_c (y : Option (Nat × List Value × Nat)) (l : List En) (hk : bgOk y l) (hl : l.length ≤ 1000) (w : World) (hs : Sat (bgQ l y) w) : Calls Try.prog 51 [.slice (ownP y) l.length (ownC y)].toArray w fun e w' => ∃ _u : Unit, True ∧ e = .returned (.tuple #[]) ∧ Hp ⟨w, ids (bgQ l y)⟩ [] w' := by
  have e1 : (bgQ l y).flatten = (V.ownS 80 (l.flatMap enC) y).flatten := by rcases y with _ | ⟨g, rest, cap⟩ <;> rfl
  have e2 : Value.slice (ownP y) l.length (ownC y) = V.ownV l.length y := by
    rcases y with _ | ⟨g, rest, cap⟩
    · have : l = [] := hk
      subst this; rfl
    · rfl
  have e3 : V.ownOk 5 l.length (l.flatMap enC) y := bg_own hk
  have := overE_c y l.length (l.flatMap enC) e3 hl w ⟨fun p hp => hs.own p (by rw [e1]; exact hp), by have := hs.nd; rwa [e1] at this⟩
  rw [e2]
  exact this.mono fun e w' ⟨u, h1, h2, h3⟩ => ⟨u, h1, h2, by unfold ids at h3 ⊢; rw [e1]; exact h3⟩
theorem act10_c (b c rb ra vb va : Nat) (k : Nat) (now : Int) (rl : List Int) (o1 o2 : Option (Nat × List Value × Nat)) (l : List En) (hI : Inv8 4 k now rl) (hkk : k ≤ 1000) (h1 : bgOk o1 l) (h2 : bgOk o2 l) (hl : l.length ≤ 258) (s : Ac10) (w : World) (hs : Sat (bgP 124 b o1 l ++ bgP 95 c o2 l ++ rdG rb ra now rl ++ rfG vb va now rl) w) : Calls Try.prog 49 [.pointer (some ⟨b, 0, none⟩), .pointer (some ⟨c, 0, none⟩), .pointer (some ⟨rb, 0, none⟩), .pointer (some ⟨vb, 0, none⟩), .agg (Ac10.cells s).toArray].toArray w fun e w' => ∃ y : Int × List Int × Option (Nat × List Value × Nat) × Option (Nat × List Value × Nat) × List En, (Inv8 4 (k + 1) y.1 y.2.1 ∧ bgOk y.2.2.1 y.2.2.2.2 ∧ bgOk y.2.2.2.1 y.2.2.2.2 ∧ y.2.2.2.2.length ≤ 258) ∧ e = .returned (.bool true) ∧ Hp ⟨w, ids (bgP 124 b o1 l ++ bgP 95 c o2 l ++ rdG rb ra now rl ++ rfG vb va now rl)⟩ (bgP 124 b y.2.2.1 y.2.2.2.2 ++ bgP 95 c y.2.2.2.1 y.2.2.2.2 ++ rdG rb ra y.1 y.2.1 ++ rfG vb va y.1 y.2.1) w' := by
  have hm : rl.length ≤ 1000 := by have := hI.1; omega
  refine V.calls (bgP 124 b o1 l ++ bgP 95 c o2 l ++ rdG rb ra now rl ++ rfG vb va now rl) Try.func49 rfl Try.ntmps49 (Nat.le_of_ble_eq_true rfl) hs ?_
  refine CW.seq ?_
  refine CW.region ?_
  refine LW.e rfl rfl (Eff.boxA rfl) ?_
  intro b9 _
  refine LW.v rfl rfl (Val.assign rfl) ?_
  refine LW.nil ?_
  refine PQ.seq ?_
  refine CW.seq ?_
  refine CW.seq ?_
  refine CW.region ?_
  refine LW.v rfl rfl (Val.fieldAddr 0 rfl Try.underlying98 rfl rfl Try.sizeOf3) ?_
  refine LW.v rfl rfl (Val.load rfl Try.isAgg3 (by repeat (first | exact .here | refine .there ?_)) (by rfl)) ?_
  refine LW.nil ?_
  refine PQ.seq ?_
  refine CW.block ?_
  refine CW.seq ?_
  refine CW.region ?_
  refine LW.v rfl rfl (Val.cmp rfl rfl rfl) ?_
  refine LW.v rfl rfl (Val.assign rfl) ?_
  refine LW.nil ?_
  refine PQ.seq ?_
  refine CW.cond rfl (fun h21 => ?_) (fun h21 => ?_)
  · replace h21 := bT h21
    refine CW.seq ?_
    refine CW.drawn ([[(b9, .cells (Ac10.cells s).toArray 98 (0, 0))]]) mixed (by repeat (first | exact .nil | apply Pick.cons | exact .here | apply Ext.there)) ?_
    refine RW.v 0 rfl (by kernel_rfl) (by kernel_rfl) (by kernel_rfl) (fun _ _ _ h => h) rfl rfl (Val.move rfl) ?_
    refine RW.v 1 rfl (by kernel_rfl) (by kernel_rfl) (by kernel_rfl) (fun _ _ _ h => h) rfl rfl (Val.fieldAddr 2 rfl Try.underlying98 rfl rfl Try.sizeOf80) ?_
    first | (refine RW.v 2 rfl (by kernel_rfl) (by kernel_rfl) (by kernel_rfl) (fun _ _ _ h => h) rfl rfl (Val.loadW rfl Try.isAgg80 (by repeat (first | exact .here | refine .there ?_)) (by exact Try.sizeOf80)) ?_) | (refine RW.v 2 rfl (by kernel_rfl) (by kernel_rfl) (by kernel_rfl) (fun _ _ _ h => h) rfl rfl (Val.loadA [_, _, _, _, _] rfl Try.isAgg80 (by repeat (first | exact .here | refine .there ?_)) (by rfl) Try.sizeOf80) ?_)
    refine RW.v 5 rfl (by kernel_rfl) (by kernel_rfl) (by kernel_rfl) (fun _ _ _ h => h) rfl rfl (Val.move rfl) ?_
    refine RW.v 6 rfl (by kernel_rfl) (by kernel_rfl) (by kernel_rfl) (fun _ _ _ h => h) rfl rfl (Val.fieldAddr 2 rfl Try.underlying98 rfl rfl Try.sizeOf80) ?_
    first | (refine RW.v 7 rfl (by kernel_rfl) (by kernel_rfl) (by kernel_rfl) (fun _ _ _ h => h) rfl rfl (Val.loadW rfl Try.isAgg80 (by repeat (first | exact .here | refine .there ?_)) (by exact Try.sizeOf80)) ?_) | (refine RW.v 7 rfl (by kernel_rfl) (by kernel_rfl) (by kernel_rfl) (fun _ _ _ h => h) rfl rfl (Val.loadA [_, _, _, _, _] rfl Try.isAgg80 (by repeat (first | exact .here | refine .there ?_)) (by rfl) Try.sizeOf80) ?_)
    refine RW.e 3 rfl (by kernel_rfl) rfl rfl (Eff.callM (bgP 124 b o1 l) (by repeat (first | exact .nil | apply Pick.cons | exact .here | apply Ext.there)) rfl Try.call42 (fun w hw hs0 => putP_c b o1 l h1 (by omega) s.e w hs0)) (fun x => ⟨_, (by repeat (first | exact .nil | apply Pick.cons | exact .here | apply Ext.there))⟩) ?_
    intro p1 hp1
    refine RW.e 4 rfl (by kernel_rfl) rfl rfl (Eff.callV rfl Try.call28 (fun w hw => num_c _ w)) (fun x => ⟨_, (by repeat (first | exact .nil | apply Pick.cons | exact .here | apply Ext.there))⟩) ?_
    intro _ _
    refine RW.e 8 rfl (by kernel_rfl) rfl rfl (Eff.callM (bgP 95 c o2 l) (by repeat (first | exact .nil | apply Pick.cons | exact .here | apply Ext.there)) rfl Try.call70 (fun w hw hs0 => rputP_c c o2 l h2 (by omega) s.e w hs0)) (fun x => ⟨_, (by repeat (first | exact .nil | apply Pick.cons | exact .here | apply Ext.there))⟩) ?_
    intro p2 hp2
    refine RW.v 9 rfl (by kernel_rfl) (by kernel_rfl) (by kernel_rfl) (fun _ _ _ h => h) rfl rfl (Val.cmp rfl rfl rfl) ?_
    refine RW.re 32 (.bool true) rfl (by simp) ?_
    refine RW.v 10 rfl (by kernel_rfl) (by kernel_rfl) (by kernel_rfl) (fun _ _ _ h => h) rfl rfl (Val.assign rfl) ?_
    refine RW.done (by kernel_rfl) ?_
    refine PQ.seq ?_
    refine CW.ret ?_
    refine PQ.in_ret ?_
    refine PQ.then_ret ?_
    refine PQ.ret1 rfl rfl ?_
    intro w' hw
    exact ⟨(now, rl, p1, p2, (putF s.e l).1), ⟨hI.id, hp1, hp2, putF_len _ _ hl⟩, rfl, hw.pick (by repeat (first | exact .nil | apply Pick.cons | exact .here | apply Ext.there))⟩
  · replace h21 := bF h21
    refine CW.seq ?_
    refine CW.region ?_
    refine LW.v rfl rfl (Val.cmp rfl rfl rfl) ?_
    refine LW.v rfl rfl (Val.assign rfl) ?_
    refine LW.nil ?_
    refine PQ.seq ?_
    refine CW.cond rfl (fun h33 => ?_) (fun h33 => ?_)
    · replace h33 := bT h33
      refine CW.seq ?_
      refine CW.region ?_
      refine LW.v rfl rfl (Val.move rfl) ?_
      refine LW.v rfl rfl (Val.move rfl) ?_
      refine LW.v rfl rfl (Val.fieldAddr 7 rfl Try.underlying98 rfl rfl Try.sizeOf28) ?_
      refine LW.v rfl rfl (Val.load rfl Try.isAgg28 (by repeat (first | exact .here | refine .there ?_)) (by rfl)) ?_
      refine LW.e rfl rfl (Eff.callM (bgP 124 b o1 l ++ rdG rb ra now rl) (by repeat (first | exact .nil | apply Pick.cons | exact .here | apply Ext.there)) rfl Try.call47 (fun w hw hs0 => popP_c b o1 l rb ra now rl h1 (by omega) hI.2.1 hm s.du w hs0)) ?_
      rintro ⟨r1, p1, l1⟩ ⟨hP1, hk1⟩
      simp only at hP1 hk1
      refine LW.v rfl rfl (Val.move rfl) ?_
      refine LW.v rfl rfl (Val.extract rfl rfl) ?_
      refine LW.v rfl rfl (Val.extract rfl rfl) ?_
      refine LW.e rfl rfl (Eff.allocA (by exact Try.zeroValue80)) ?_
      intro b11 _
      first | (refine LW.eN rfl (Eff.storeW rfl rfl (by repeat (first | exact .here | apply Upd.there)) (by rfl) Try.sizeOf80 (by rfl)) ?_) | (refine LW.eN rfl (Eff.storeA (l' := _) rfl rfl (by repeat (first | exact .here | apply Upd.there)) (by rfl) (by decide) Try.sizeOf80 (by rfl)) ?_)
      intro _ _
      refine LW.v rfl rfl (Val.assign rfl) ?_
      refine LW.nil ?_
      refine PQ.seq ?_
      refine CW.seq ?_
      refine CW.region ?_
      refine LW.v rfl rfl (Val.move rfl) ?_
      refine LW.v rfl rfl (Val.move rfl) ?_
      refine LW.v rfl rfl (Val.fieldAddr 7 rfl Try.underlying98 rfl rfl Try.sizeOf28) ?_
      refine LW.v rfl rfl (Val.load rfl Try.isAgg28 (by repeat (first | exact .here | refine .there ?_)) (by rfl)) ?_
      refine LW.e rfl rfl (Eff.callM (bgP 95 c o2 l ++ rfG vb va now rl) (by repeat (first | exact .nil | apply Pick.cons | exact .here | apply Ext.there)) rfl Try.call71 (fun w hw hs0 => rpopP_c c o2 l vb va now rl h2 (by omega) hI.2.1 hm s.du w hs0)) ?_
      rintro ⟨r2, p2, l2⟩ ⟨hP2, hk2⟩
      simp only at hP2 hk2
      obtain ⟨rfl, rfl⟩ := popR_det hP1 hP2
      refine LW.v rfl rfl (Val.move rfl) ?_
      refine LW.v rfl rfl (Val.extract rfl rfl) ?_
      refine LW.v rfl rfl (Val.extract rfl rfl) ?_
      refine LW.e rfl rfl (Eff.allocA (by exact Try.zeroValue80)) ?_
      intro b13 _
      first | (refine LW.eN rfl (Eff.storeW rfl rfl (by repeat (first | exact .here | apply Upd.there)) (by rfl) Try.sizeOf80 (by rfl)) ?_) | (refine LW.eN rfl (Eff.storeA (l' := _) rfl rfl (by repeat (first | exact .here | apply Upd.there)) (by rfl) (by decide) Try.sizeOf80 (by rfl)) ?_)
      intro _ _
      refine LW.v rfl rfl (Val.assign rfl) ?_
      refine LW.nil ?_
      refine PQ.seq ?_
      refine CW.seq ?_
      refine CW.region ?_
      first | (refine LW.v rfl rfl (Val.loadW rfl Try.isAgg80 (by repeat (first | exact .here | refine .there ?_)) (by exact Try.sizeOf80)) ?_) | (refine LW.v rfl rfl (Val.loadA [_, _, _, _, _] rfl Try.isAgg80 (by repeat (first | exact .here | refine .there ?_)) (by rfl) Try.sizeOf80) ?_)
      first | (refine LW.v rfl rfl (Val.loadW rfl Try.isAgg80 (by repeat (first | exact .here | refine .there ?_)) (by exact Try.sizeOf80)) ?_) | (refine LW.v rfl rfl (Val.loadA [_, _, _, _, _] rfl Try.isAgg80 (by repeat (first | exact .here | refine .there ?_)) (by rfl) Try.sizeOf80) ?_)
      refine LW.v rfl rfl (Val.eqA rfl rfl (by kernel_rfl) Try.underlying80 (by kernel_rfl) (by exact (.int rfl rfl Try.isAgg3 Try.underlying3 (.int rfl rfl Try.isAgg3 Try.underlying3 (.int rfl rfl Try.isAgg28 Try.underlying28 (.int rfl rfl Try.isAgg28 Try.underlying28 (.int rfl rfl Try.isAgg3 Try.underlying3 .nil))))))) ?_
      refine LW.re 53 (.bool true) rfl (by simp) ?_
      refine LW.v rfl rfl (Val.move rfl) ?_
      refine LW.v rfl rfl (Val.move rfl) ?_
      refine LW.v rfl rfl (Val.move rfl) ?_
      refine LW.v rfl rfl (Val.eqB rfl rfl Try.underlying4) ?_
      refine LW.re 57 (.bool true) rfl (by simp) ?_
      refine LW.v rfl rfl (Val.pick_t rfl rfl) ?_
      refine LW.v rfl rfl (Val.assign rfl) ?_
      refine LW.nil ?_
      refine PQ.seq ?_
      refine CW.ret ?_
      refine PQ.in_ret ?_
      refine PQ.then_ret ?_
      refine PQ.ret1 rfl rfl ?_
      intro w' hw
      exact ⟨(now, rl, p1, p2, l2), ⟨hI.id, hk1, hk2, by have := pop_len hP1; show l2.length ≤ 258; omega⟩, rfl, hw.pick (by repeat (first | exact .nil | apply Pick.cons | exact .here | apply Ext.there))⟩
    · replace h33 := bF h33
      refine CW.seq ?_
      refine CW.region ?_
      refine LW.v rfl rfl (Val.cmp rfl rfl rfl) ?_
      refine LW.v rfl rfl (Val.assign rfl) ?_
      refine LW.nil ?_
      refine PQ.seq ?_
      refine CW.cond rfl (fun h59 => ?_) (fun h59 => ?_)
      · replace h59 := bT h59
        refine CW.seq ?_
        refine CW.region ?_
        refine LW.v rfl rfl (Val.move rfl) ?_
        refine LW.v rfl rfl (Val.move rfl) ?_
        refine LW.v rfl rfl (Val.fieldAddr 7 rfl Try.underlying98 rfl rfl Try.sizeOf28) ?_
        refine LW.v rfl rfl (Val.load rfl Try.isAgg28 (by repeat (first | exact .here | refine .there ?_)) (by rfl)) ?_
        refine LW.e rfl rfl (Eff.callV rfl Try.call46 (fun w hw => ready_c b o1 l rb ra now rl h1 (by omega) hI.2.1 hm s.du w (bgP_sat (hw.sat.pick (ss := bgP 124 b o1 l) (by repeat (first | exact .nil | apply Pick.cons | exact .here | apply Ext.there)))) (hw.sat.pick (ss := rdG rb ra now rl) (by repeat (first | exact .nil | apply Pick.cons | exact .here | apply Ext.there))))) ?_
        intro _ _
        refine LW.v rfl rfl (Val.move rfl) ?_
        refine LW.v rfl rfl (Val.extract rfl rfl) ?_
        refine LW.v rfl rfl (Val.extract rfl rfl) ?_
        refine LW.e rfl rfl (Eff.allocA (by exact Try.zeroValue80)) ?_
        intro b15 _
        first | (refine LW.eN rfl (Eff.storeW rfl rfl (by repeat (first | exact .here | apply Upd.there)) (by rfl) Try.sizeOf80 (by rfl)) ?_) | (refine LW.eN rfl (Eff.storeA (l' := _) rfl rfl (by repeat (first | exact .here | apply Upd.there)) (by rfl) (by decide) Try.sizeOf80 (by rfl)) ?_)
        intro _ _
        refine LW.v rfl rfl (Val.assign rfl) ?_
        refine LW.nil ?_
        refine PQ.seq ?_
        refine CW.seq ?_
        refine CW.region ?_
        refine LW.v rfl rfl (Val.move rfl) ?_
        refine LW.v rfl rfl (Val.move rfl) ?_
        refine LW.v rfl rfl (Val.fieldAddr 7 rfl Try.underlying98 rfl rfl Try.sizeOf28) ?_
        refine LW.v rfl rfl (Val.load rfl Try.isAgg28 (by repeat (first | exact .here | refine .there ?_)) (by rfl)) ?_
        refine LW.e rfl rfl (Eff.callV rfl Try.call72 (fun w hw => rready_c c o2 l vb va now rl h2 (by omega) hI.2.1 hm s.du w (bgP_sat (hw.sat.pick (ss := bgP 95 c o2 l) (by repeat (first | exact .nil | apply Pick.cons | exact .here | apply Ext.there)))) (hw.sat.pick (ss := rfG vb va now rl) (by repeat (first | exact .nil | apply Pick.cons | exact .here | apply Ext.there))))) ?_
        intro _ _
        refine LW.v rfl rfl (Val.move rfl) ?_
        refine LW.v rfl rfl (Val.extract rfl rfl) ?_
        refine LW.v rfl rfl (Val.extract rfl rfl) ?_
        refine LW.e rfl rfl (Eff.allocA (by exact Try.zeroValue80)) ?_
        intro b17 _
        first | (refine LW.eN rfl (Eff.storeW rfl rfl (by repeat (first | exact .here | apply Upd.there)) (by rfl) Try.sizeOf80 (by rfl)) ?_) | (refine LW.eN rfl (Eff.storeA (l' := _) rfl rfl (by repeat (first | exact .here | apply Upd.there)) (by rfl) (by decide) Try.sizeOf80 (by rfl)) ?_)
        intro _ _
        refine LW.v rfl rfl (Val.assign rfl) ?_
        refine LW.nil ?_
        refine PQ.seq ?_
        refine CW.seq ?_
        refine CW.region ?_
        first | (refine LW.v rfl rfl (Val.loadW rfl Try.isAgg80 (by repeat (first | exact .here | refine .there ?_)) (by exact Try.sizeOf80)) ?_) | (refine LW.v rfl rfl (Val.loadA [_, _, _, _, _] rfl Try.isAgg80 (by repeat (first | exact .here | refine .there ?_)) (by rfl) Try.sizeOf80) ?_)
        first | (refine LW.v rfl rfl (Val.loadW rfl Try.isAgg80 (by repeat (first | exact .here | refine .there ?_)) (by exact Try.sizeOf80)) ?_) | (refine LW.v rfl rfl (Val.loadA [_, _, _, _, _] rfl Try.isAgg80 (by repeat (first | exact .here | refine .there ?_)) (by rfl) Try.sizeOf80) ?_)
        refine LW.v rfl rfl (Val.eqA rfl rfl (by kernel_rfl) Try.underlying80 (by kernel_rfl) (by exact (.int rfl rfl Try.isAgg3 Try.underlying3 (.int rfl rfl Try.isAgg3 Try.underlying3 (.int rfl rfl Try.isAgg28 Try.underlying28 (.int rfl rfl Try.isAgg28 Try.underlying28 (.int rfl rfl Try.isAgg3 Try.underlying3 .nil))))))) ?_
        refine LW.re 79 (.bool true) rfl (by simp) ?_
        refine LW.v rfl rfl (Val.move rfl) ?_
        refine LW.v rfl rfl (Val.move rfl) ?_
        refine LW.v rfl rfl (Val.move rfl) ?_
        refine LW.v rfl rfl (Val.eqB rfl rfl Try.underlying4) ?_
        refine LW.re 83 (.bool true) rfl (by simp) ?_
        refine LW.v rfl rfl (Val.pick_t rfl rfl) ?_
        refine LW.v rfl rfl (Val.assign rfl) ?_
        refine LW.nil ?_
        refine PQ.seq ?_
        refine CW.ret ?_
        refine PQ.in_ret ?_
        refine PQ.then_ret ?_
        refine PQ.ret1 rfl rfl ?_
        intro w' hw
        exact ⟨(now, rl, o1, o2, l), ⟨hI.id, h1, h2, hl⟩, rfl, hw.pick (by repeat (first | exact .nil | apply Pick.cons | exact .here | apply Ext.there))⟩
      · replace h59 := bF h59
        refine CW.seq ?_
        refine CW.region ?_
        refine LW.v rfl rfl (Val.cmp rfl rfl rfl) ?_
        refine LW.v rfl rfl (Val.assign rfl) ?_
        refine LW.nil ?_
        refine PQ.seq ?_
        refine CW.cond rfl (fun h85 => ?_) (fun h85 => ?_)
        · replace h85 := bT h85
          refine CW.seq ?_
          refine CW.region ?_
          refine LW.v rfl rfl (Val.move rfl) ?_
          refine LW.v rfl rfl (Val.fieldAddr 1 rfl Try.underlying98 rfl rfl Try.sizeOf3) ?_
          refine LW.v rfl rfl (Val.load rfl Try.isAgg3 (by repeat (first | exact .here | refine .there ?_)) (by rfl)) ?_
          refine LW.e rfl rfl (Eff.callM (rdG rb ra now rl) (by repeat (first | exact .nil | apply Pick.cons | exact .here | apply Ext.there)) rfl Try.call29 (fun w hw hs0 => enter_c rb ra now rl s.t w hs0)) ?_
          intro _ _
          refine LW.nil ?_
          refine PQ.seq ?_
          refine CW.region ?_
          refine LW.v rfl rfl (Val.move rfl) ?_
          refine LW.v rfl rfl (Val.fieldAddr 1 rfl Try.underlying98 rfl rfl Try.sizeOf3) ?_
          refine LW.v rfl rfl (Val.load rfl Try.isAgg3 (by repeat (first | exact .here | refine .there ?_)) (by rfl)) ?_
          refine LW.e rfl rfl (Eff.callM (rfG vb va now rl) (by repeat (first | exact .nil | apply Pick.cons | exact .here | apply Ext.there)) rfl Try.call30 (fun w hw hs0 => refEnter_c vb va now rl s.t w hs0 hI.2.1)) ?_
          intro _ _
          refine LW.nil ?_
          refine PQ.in_normal ?_
          refine PQ.seq ?_
          refine CW.seq ?_
          refine CW.region ?_
          refine LW.v rfl rfl (Val.assign rfl) ?_
          refine LW.nil ?_
          refine PQ.seq ?_
          refine CW.ret ?_
          refine PQ.ret1 rfl rfl ?_
          intro w' hw
          exact ⟨(now, (enF now rl s.t).1, o1, o2, l), ⟨hI.en _, h1, h2, hl⟩, rfl, hw.pick (by repeat (first | exact .nil | apply Pick.cons | exact .here | apply Ext.there))⟩
        · replace h85 := bF h85
          refine CW.seq ?_
          refine CW.region ?_
          refine LW.v rfl rfl (Val.cmp rfl rfl rfl) ?_
          refine LW.v rfl rfl (Val.assign rfl) ?_
          refine LW.nil ?_
          refine PQ.seq ?_
          refine CW.cond rfl (fun h95 => ?_) (fun h95 => ?_)
          · replace h95 := bT h95
            refine CW.seq ?_
            refine CW.region ?_
            refine LW.v rfl rfl (Val.move rfl) ?_
            refine LW.v rfl rfl (Val.fieldAddr 1 rfl Try.underlying98 rfl rfl Try.sizeOf3) ?_
            refine LW.v rfl rfl (Val.load rfl Try.isAgg3 (by repeat (first | exact .here | refine .there ?_)) (by rfl)) ?_
            refine LW.e rfl rfl (Eff.callM (rdG rb ra now rl) (by repeat (first | exact .nil | apply Pick.cons | exact .here | apply Ext.there)) rfl Try.call31 (fun w hw hs0 => leave_c rb ra now rl s.t w hs0)) ?_
            intro _ _
            refine LW.nil ?_
            refine PQ.seq ?_
            refine CW.region ?_
            refine LW.v rfl rfl (Val.move rfl) ?_
            refine LW.v rfl rfl (Val.fieldAddr 1 rfl Try.underlying98 rfl rfl Try.sizeOf3) ?_
            refine LW.v rfl rfl (Val.load rfl Try.isAgg3 (by repeat (first | exact .here | refine .there ?_)) (by rfl)) ?_
            refine LW.e rfl rfl (Eff.callM (rfG vb va now rl) (by repeat (first | exact .nil | apply Pick.cons | exact .here | apply Ext.there)) rfl Try.call32 (fun w hw hs0 => refLeave_c vb va now rl s.t w hs0)) ?_
            intro _ _
            refine LW.nil ?_
            refine PQ.in_normal ?_
            refine PQ.seq ?_
            refine CW.seq ?_
            refine CW.region ?_
            refine LW.v rfl rfl (Val.assign rfl) ?_
            refine LW.nil ?_
            refine PQ.seq ?_
            refine CW.ret ?_
            refine PQ.ret1 rfl rfl ?_
            intro w' hw
            exact ⟨(now, (leF rl s.t).1, o1, o2, l), ⟨hI.le _, h1, h2, hl⟩, rfl, hw.pick (by repeat (first | exact .nil | apply Pick.cons | exact .here | apply Ext.there))⟩
          · replace h95 := bF h95
            refine CW.seq ?_
            refine CW.region ?_
            refine LW.v rfl rfl (Val.cmp rfl rfl rfl) ?_
            refine LW.v rfl rfl (Val.assign rfl) ?_
            refine LW.nil ?_
            refine PQ.seq ?_
            refine CW.cond rfl (fun h105 => ?_) (fun h105 => ?_)
            · replace h105 := bT h105
              refine CW.seq ?_
              refine CW.region ?_
              refine LW.v rfl rfl (Val.move rfl) ?_
              refine LW.e rfl rfl (Eff.callM (rdG rb ra now rl) (by repeat (first | exact .nil | apply Pick.cons | exact .here | apply Ext.there)) rfl Try.call33 (fun w hw hs0 => adv_c rb ra now rl w hs0 ⟨by have := hI.2.2.1; omega, by have := hI.2.2.2; omega⟩)) ?_
              intro _ _
              refine LW.nil ?_
              refine PQ.seq ?_
              refine CW.region ?_
              refine LW.v rfl rfl (Val.move rfl) ?_
              refine LW.e rfl rfl (Eff.callM (rfG vb va now rl) (by repeat (first | exact .nil | apply Pick.cons | exact .here | apply Ext.there)) rfl Try.call34 (fun w hw hs0 => refAdv_c vb va now rl w hs0 ⟨by have := hI.2.2.1; omega, by have := hI.2.2.2; omega⟩)) ?_
              intro _ _
              refine LW.nil ?_
              refine PQ.in_normal ?_
              refine PQ.seq ?_
              refine CW.seq ?_
              refine CW.region ?_
              refine LW.v rfl rfl (Val.assign rfl) ?_
              refine LW.nil ?_
              refine PQ.seq ?_
              refine CW.ret ?_
              refine PQ.ret1 rfl rfl ?_
              intro w' hw
              exact ⟨((now + 1), rl, o1, o2, l), ⟨hI.adv, h1, h2, hl⟩, rfl, hw.pick (by repeat (first | exact .nil | apply Pick.cons | exact .here | apply Ext.there))⟩
            · replace h105 := bF h105
              refine CW.skip ?_
              refine PQ.in_normal ?_
              refine PQ.seq ?_
              refine CW.seq ?_
              refine CW.region ?_
              refine LW.v rfl rfl (Val.assign rfl) ?_
              refine LW.nil ?_
              refine PQ.seq ?_
              refine CW.ret ?_
              refine PQ.ret1 rfl rfl ?_
              intro w' hw
              exact ⟨(now, rl, o1, o2, l), ⟨hI.id, h1, h2, hl⟩, rfl, hw.pick (by repeat (first | exact .nil | apply Pick.cons | exact .here | apply Ext.there))⟩
theorem bgQ_sat {o : Option (Nat × List Value × Nat)} {l : List En} {w : World} (h : Sat (bgQ l o) w) : Sat (bgA l o) w := ⟨fun p hp => h.own p (by simpa [bgQ] using hp), by have := h.nd; simpa [bgQ] using this⟩
theorem bgA_sat {T b : Nat} {o : Option (Nat × List Value × Nat)} {l : List En} {w : World} (hs : Sat (bgG T b o l) w) : Sat (bgA l o) w := ⟨fun p hp => hs.own p (by simp [bgG, hp]), by have := hs.nd; simp only [bgG, List.flatten_cons, List.map_append, List.nodup_append] at this; exact this.2.1⟩
theorem limboScript_c (p : Option Addr) (n cap : Nat) (acts : List Ac10) (w : World) (hn : acts.length = n) (h : V.slAt w p 8 Ac10.cells acts) : Calls Try.prog 13 [.slice p n cap].toArray w fun e w' => e = .returned (.bool true) ∧ Below w.heap.size w w' := by
  refine V.calls [] Try.func13 rfl Try.ntmps13 (Nat.le_of_ble_eq_true rfl) (V.sat_nil _) ?_
  refine CW.seq ?_
  refine CW.region ?_
  refine LW.v rfl rfl (Val.assign rfl) ?_
  refine LW.nil ?_
  refine PQ.seq ?_
  refine CW.seq ?_
  refine CW.seq ?_
  refine CW.region ?_
  refine LW.v rfl rfl (Val.move rfl) ?_
  refine LW.v rfl rfl (Val.lenSl rfl Try.underlying92) ?_
  refine LW.v rfl rfl (Val.cmp rfl rfl rfl) ?_
  refine LW.nil ?_
  refine PQ.seq ?_
  refine CW.cond rfl (fun h15 => ?_) (fun h15 => ?_)
  · replace h15 := bT h15
    refine CW.seq ?_
    refine CW.region ?_
    refine LW.e rfl rfl (Eff.callV rfl Try.call45 (fun w hw => awake10_c w)) ?_
    intro _ _
    refine LW.v rfl rfl (Val.assign rfl) ?_
    refine LW.nil ?_
    refine PQ.seq ?_
    refine CW.ret ?_
    refine PQ.then_ret ?_
    refine PQ.ret1 rfl rfl ?_
    intro w' hw; exact ⟨rfl, hw.below⟩
  · replace h15 := bF h15
    refine CW.skip ?_
    refine PQ.seq ?_
    refine CW.seq ?_
    refine CW.region ?_
    refine LW.e rfl rfl (Eff.callM ([]) (by repeat (first | exact .nil | apply Pick.cons | exact .here | apply Ext.there)) rfl Try.call41 (fun w hw hs0 => lnewP_c w)) ?_
    intro b _
    refine LW.v rfl rfl (Val.build [_] Try.zeroValue95 Try.underlying95 places95 rfl (by rfl)) ?_
    refine LW.e rfl rfl (Eff.boxA rfl) ?_
    intro b19 _
    refine LW.v rfl rfl (Val.assign rfl) ?_
    refine LW.v rfl rfl (Val.assign rfl) ?_
    refine LW.nil ?_
    refine PQ.seq ?_
    refine CW.seq ?_
    refine CW.region ?_
    refine LW.e rfl rfl (Eff.callM ([]) (by repeat (first | exact .nil | apply Pick.cons | exact .here | apply Ext.there)) rfl Try.call26 (fun w hw hs0 => new_c 4 w (by omega))) ?_
    rintro ⟨rb, ra⟩ _
    refine LW.v rfl rfl (Val.move rfl) ?_
    refine LW.v rfl rfl (Val.extract rfl rfl) ?_
    refine LW.v rfl rfl (Val.extract rfl rfl) ?_
    refine LW.v rfl rfl (Val.assign rfl) ?_
    refine LW.v rfl rfl (Val.assign rfl) ?_
    refine LW.nil ?_
    refine PQ.seq ?_
    refine CW.seq ?_
    refine CW.region ?_
    refine LW.e rfl rfl (Eff.callM ([]) (by repeat (first | exact .nil | apply Pick.cons | exact .here | apply Ext.there)) rfl Try.call27 (fun w hw hs0 => refNew_c 4 w (by omega))) ?_
    rintro ⟨vb, va⟩ _
    refine LW.v rfl rfl (Val.move rfl) ?_
    refine LW.v rfl rfl (Val.extract rfl rfl) ?_
    refine LW.v rfl rfl (Val.extract rfl rfl) ?_
    refine LW.v rfl rfl (Val.assign rfl) ?_
    refine LW.v rfl rfl (Val.assign rfl) ?_
    refine LW.nil ?_
    refine PQ.seq ?_
    refine CW.seq ?_
    refine CW.seq ?_
    refine CW.region ?_
    refine LW.v rfl rfl (Val.move rfl) ?_
    refine LW.v rfl rfl (Val.eqP false rfl rfl Try.underlying76 (.inr ⟨rfl, rfl⟩)) ?_
    refine LW.v rfl rfl (Val.move rfl) ?_
    refine LW.v rfl rfl (Val.move rfl) ?_
    refine LW.v rfl rfl (Val.eqP false rfl rfl Try.underlying49 (.inr ⟨rfl, rfl⟩)) ?_
    refine LW.v rfl rfl (Val.pick_f rfl rfl) ?_
    refine LW.nil ?_
    refine PQ.seq ?_
    refine CW.cond_f rfl ?_
    refine CW.skip ?_
    refine PQ.seq ?_
    refine CW.seq ?_
    refine CW.seq ?_
    refine CW.region ?_
    refine LW.v rfl rfl (Val.assign rfl) ?_
    refine LW.nil ?_
    refine PQ.seq ?_
    refine CW.block ?_
    refine CW.loop (γ := Nat × Int × List Int × Option (Nat × List Value × Nat) × Option (Nat × List Value × Nat) × List En) (fun k => [(0, .slice p n cap), (3, .pointer (some ⟨b, 0, none⟩)), (4, .pointer (some ⟨b19, 0, none⟩)), (5, .pointer (some ⟨rb, 0, none⟩)), (7, .pointer (some ⟨vb, 0, none⟩)), (9, .int .i64 (k.1 : Nat))]) (fun k => bgP 124 b k.2.2.2.1 k.2.2.2.2.2 ++ bgP 95 b19 k.2.2.2.2.1 k.2.2.2.2.2 ++ rdG rb ra k.2.1 k.2.2.1 ++ rfG vb va k.2.1 k.2.2.1) (fun k => k.1 ≤ n ∧ Inv8 4 k.1 k.2.1 k.2.2.1 ∧ bgOk k.2.2.2.1 k.2.2.2.2.2 ∧ bgOk k.2.2.2.2.1 k.2.2.2.2.2 ∧ k.2.2.2.2.2.length ≤ 258) (fun k => n - k.1) ((0, 1, List.replicate 4 0, none, none, [])) ⟨Nat.zero_le _, Inv8.start 4, rfl, rfl, by simp⟩ (by repeat (first | exact trivial | refine ⟨rfl, ?_⟩)) (by repeat (first | exact .nil | apply Pick.cons | exact .here | apply Ext.there)) ?_
    intro k
    rintro ⟨hkn, hI, h1, h2, hl⟩
    refine CW.seq ?_
    refine CW.seq ?_
    refine CW.region ?_
    refine LW.v rfl rfl (Val.move rfl) ?_
    refine LW.v rfl rfl (Val.move rfl) ?_
    refine LW.v rfl rfl (Val.lenSl rfl Try.underlying92) ?_
    refine LW.v rfl rfl (Val.cmp rfl rfl rfl) ?_
    refine LW.nil ?_
    refine PQ.seq ?_
    refine CW.cond rfl (fun h37 => ?_) (fun h37 => ?_)
    · replace h37 := bT h37
      refine CW.skip ?_
      refine PQ.seq ?_
      refine CW.seq ?_
      refine CW.block ?_
      refine CW.seq ?_
      refine CW.seq ?_
      refine CW.region ?_
      refine LW.v rfl rfl (Val.move rfl) ?_
      refine LW.v rfl rfl (Val.move rfl) ?_
      refine LW.v rfl rfl (Val.move rfl) ?_
      refine LW.v rfl rfl (Val.move rfl) ?_
      refine LW.v rfl rfl (Val.move rfl) ?_
      refine LW.v rfl rfl (Val.move rfl) ?_
      obtain ⟨bb, oo, s, rfl, hb, hs, hh⟩ := V.slAt_at h hn (k := k.1) (by omega)
      first | (refine LW.v rfl rfl (Val.indexAddrN rfl rfl Try.underlying92 Try.sizeOf98 (by omega)) ?_) | (refine LW.v rfl rfl (Val.indexAddr rfl rfl Try.underlying92 Try.sizeOf98 (by omega) (by omega)) ?_)
      refine LW.v rfl rfl (Val.loadOA (cs := Ac10.cells s) rfl Try.isAgg98 hb (by simp [ids]) (hh k.1 s hs) (by exact Try.sizeOf98)) ?_
      refine LW.e rfl rfl (Eff.callM (bgP 124 b k.2.2.2.1 k.2.2.2.2.2 ++ bgP 95 b19 k.2.2.2.2.1 k.2.2.2.2.2 ++ rdG rb ra k.2.1 k.2.2.1 ++ rfG vb va k.2.1 k.2.2.1) (by repeat (first | exact .nil | apply Pick.cons | exact .here | apply Ext.there)) rfl Try.call49 (fun w hw hs0 => act10_c b b19 rb ra vb va k.1 k.2.1 k.2.2.1 k.2.2.2.1 k.2.2.2.2.1 k.2.2.2.2.2 hI (by omega) h1 h2 hl s w hs0)) ?_
      intro y hy
      rcases y with ⟨now2, rl2, o1, o2, l⟩
      obtain ⟨hI2, h1, h2, hl⟩ := hy
      simp only at hI2 h1 h2 hl
      refine LW.v rfl rfl (Val.not rfl) ?_
      refine LW.nil ?_
      refine PQ.seq ?_
      refine CW.cond_f rfl ?_
      refine CW.skip ?_
      refine PQ.seq ?_
      refine CW.seq ?_
      refine CW.region ?_
      refine LW.v rfl rfl (Val.move rfl) ?_
      refine LW.e rfl rfl (Eff.callM ([]) (by repeat (first | exact .nil | apply Pick.cons | exact .here | apply Ext.there)) rfl Try.call48 (fun w hw hs0 => allP_c b o1 l h1 (by omega) w (hw.sat.pick (ss := bgP 124 b o1 l) (by repeat (first | exact .nil | apply Pick.cons | exact .here | apply Ext.there))))) ?_
      intro yo hyo
      refine LW.v rfl rfl (Val.assign rfl) ?_
      refine LW.nil ?_
      refine PQ.seq ?_
      refine CW.seq ?_
      refine CW.seq ?_
      refine CW.quiet mixed (by kernel_rfl) ?_
      refine QW.v rfl rfl (Val.move rfl) ?_
      refine QW.v rfl rfl (Val.move rfl) ?_
      refine QW.v rfl rfl (Val.nilCheck rfl) ?_
      refine QW.v rfl rfl (Val.fieldAddr 0 rfl Try.underlying95 rfl rfl Try.sizeOf86) ?_
      refine QW.v rfl rfl (Val.load_of rfl fun w hw => run_loadVar_one (V.cell_of_block (o := 0) ((bgP_sat (hw.sat.pick (ss := bgP 95 b19 o2 l) (by repeat (first | exact .nil | apply Pick.cons | exact .here | apply Ext.there)))).own (b19, .cells [bgV l o2].toArray 95 (0, 0)) (by simp [bgG])) rfl) Try.isAgg86) ?_
      refine QW.re 56 (.slice (ownP o2) l.length (ownC o2)) rfl (bgV_form h2) ?_
      refine QW.c rfl rfl (Qcall.of rfl Try.call50 (fun w hw => same_c yo o2 l hyo h2 (by omega) w (bgQ_sat (hw.sat.pick (ss := bgQ l yo) (by repeat (first | exact .nil | apply Pick.cons | exact .here | apply Ext.there)))) (bgA_sat (bgP_sat (hw.sat.pick (ss := bgP 95 b19 o2 l) (by repeat (first | exact .nil | apply Pick.cons | exact .here | apply Ext.there))))))) ?_
      refine QW.v rfl rfl (Val.not rfl) ?_
      refine QW.v rfl rfl (Val.move rfl) ?_
      refine QW.v rfl rfl (Val.move rfl) ?_
      refine QW.c rfl rfl (Qcall.of rfl Try.call44 (fun w hw => blenP_c b o1 l h1 w (hw.sat.pick (ss := bgP 124 b o1 l) (by repeat (first | exact .nil | apply Pick.cons | exact .here | apply Ext.there))))) ?_
      refine QW.v rfl rfl (Val.move rfl) ?_
      refine QW.v rfl rfl (Val.nilCheck rfl) ?_
      refine QW.v rfl rfl (Val.fieldAddr 0 rfl Try.underlying95 rfl rfl Try.sizeOf86) ?_
      refine QW.v rfl rfl (Val.load_of rfl fun w hw => run_loadVar_one (V.cell_of_block (o := 0) ((bgP_sat (hw.sat.pick (ss := bgP 95 b19 o2 l) (by repeat (first | exact .nil | apply Pick.cons | exact .here | apply Ext.there)))).own (b19, .cells [bgV l o2].toArray 95 (0, 0)) (by simp [bgG])) rfl) Try.isAgg86) ?_
      refine QW.re 65 (.slice (ownP o2) l.length (ownC o2)) rfl (bgV_form h2) ?_
      refine QW.v rfl rfl (Val.lenSl rfl Try.underlying86) ?_
      refine QW.v rfl rfl (Val.cmp rfl rfl rfl) ?_
      refine QW.re 67 (.bool false) rfl (by simp) ?_
      refine QW.v rfl rfl (Val.pick_f rfl rfl) ?_
      refine QW.nil ?_
      refine PQ.seq ?_
      refine CW.cond_f rfl ?_
      refine CW.skip ?_
      refine PQ.seq ?_
      refine CW.region ?_
      refine LW.v rfl rfl (Val.move rfl) ?_
      refine LW.e rfl rfl (Eff.callM (bgQ l yo) (by repeat (first | exact .nil | apply Pick.cons | exact .here | apply Ext.there)) rfl Try.call51 (fun w hw hs0 => overQ_c yo l hyo (by omega) w hs0)) ?_
      intro _ _
      refine LW.nil ?_
      refine PQ.in_normal ?_
      refine PQ.seq ?_
      refine CW.region ?_
      refine LW.v rfl rfl (Val.move rfl) ?_
      refine LW.v rfl rfl (Val.ar rfl rfl rfl (IntWalk.i64_in _ (by omega))) ?_
      refine LW.v rfl rfl (Val.assign rfl) ?_
      refine LW.nil ?_
      refine PQ.round ((k.1 + 1, now2, rl2, o1, o2, l)) ⟨by simp only; omega, hI2, h1, h2, hl⟩ (by simp only; omega) (by repeat (first | exact trivial | refine ⟨rfl, ?_⟩)) (by repeat (first | exact .nil | apply Pick.cons | exact .here | apply Ext.there))
    · replace h37 := bF h37
      refine CW.exit ?_
      refine PQ.then_exit ?_
      refine PQ.then_exit ?_
      refine PQ.in_here ?_
      refine PQ.seq ?_
      refine CW.seq ?_
      refine CW.region ?_
      refine LW.v rfl rfl (Val.move rfl) ?_
      obtain ⟨i, now, rl, o1, o2, l⟩ := k
      simp only at h1 h2 hl
      refine LW.e rfl rfl (Eff.callV rfl Try.call46 (fun w hw => readyNil_c b _ w)) ?_
      intro _ _
      refine LW.v rfl rfl (Val.move rfl) ?_
      refine LW.v rfl rfl (Val.extract rfl rfl) ?_
      refine LW.v rfl rfl (Val.extract rfl rfl) ?_
      refine LW.e rfl rfl (Eff.allocA (by exact Try.zeroValue80)) ?_
      intro b11 _
      first | (refine LW.eN rfl (Eff.storeW rfl rfl (by repeat (first | exact .here | apply Upd.there)) (by rfl) Try.sizeOf80 (by rfl)) ?_) | (refine LW.eN rfl (Eff.storeA (l' := _) rfl rfl (by repeat (first | exact .here | apply Upd.there)) (by rfl) (by decide) Try.sizeOf80 (by rfl)) ?_)
      intro _ _
      refine LW.v rfl rfl (Val.assign rfl) ?_
      refine LW.nil ?_
      refine PQ.seq ?_
      refine CW.seq ?_
      refine CW.drawn (bgP 124 b o1 l ++ bgP 95 b19 o2 l) mixed (by repeat (first | exact .nil | apply Pick.cons | exact .here | apply Ext.there)) ?_
      refine RW.v 0 rfl (by kernel_rfl) (by kernel_rfl) (by kernel_rfl) (fun _ _ _ h => h) rfl rfl (Val.move rfl) ?_
      refine RW.v 1 rfl (by kernel_rfl) (by kernel_rfl) (by kernel_rfl) (fun _ _ _ h => h) rfl rfl (Val.not rfl) ?_
      refine RW.v 2 rfl (by kernel_rfl) (by kernel_rfl) (by kernel_rfl) (fun _ _ _ h => h) rfl rfl (Val.move rfl) ?_
      refine RW.v 3 rfl (by kernel_rfl) (by kernel_rfl) (by kernel_rfl) (fun _ _ _ h => h) rfl rfl (Val.move rfl) ?_
      refine RW.v 5 rfl (by kernel_rfl) (by kernel_rfl) (by kernel_rfl) (fun _ _ _ h => h) rfl rfl (Val.move rfl) ?_
      refine RW.v 6 rfl (by kernel_rfl) (by kernel_rfl) (by kernel_rfl) (fun _ _ _ h => h) rfl rfl (Val.nilCheck rfl) ?_
      refine RW.v 7 rfl (by kernel_rfl) (by kernel_rfl) (by kernel_rfl) (fun _ _ _ h => h) rfl rfl (Val.fieldAddr 0 rfl Try.underlying95 rfl rfl Try.sizeOf86) ?_
      refine RW.v 8 rfl (by kernel_rfl) (by kernel_rfl) (by kernel_rfl) (fun _ _ _ h => h) rfl rfl (Val.load_of rfl fun w hw => run_loadVar_one (V.cell_of_block (o := 0) ((bgP_sat (hw.sat.pick (ss := bgP 95 b19 o2 l) (by repeat (first | exact .nil | apply Pick.cons | exact .here | apply Ext.there)))).own (b19, .cells [bgV l o2].toArray 95 (0, 0)) (by simp [bgG])) rfl) Try.isAgg86) ?_
      refine RW.re 84 (.slice (ownP o2) l.length (ownC o2)) rfl (bgV_form h2) ?_
      refine RW.e 4 rfl (by kernel_rfl) rfl rfl (Eff.callM ([]) (by repeat (first | exact .nil | apply Pick.cons | exact .here | apply Ext.there)) rfl Try.call48 (fun w hw hs0 => allP_c b o1 l h1 (by omega) w (hw.sat.pick (ss := bgP 124 b o1 l) (by repeat (first | exact .nil | apply Pick.cons | exact .here | apply Ext.there))))) (fun x => ⟨_, (by repeat (first | exact .nil | apply Pick.cons | exact .here | apply Ext.there))⟩) ?_
      intro yz hyz
      refine RW.e 9 rfl (by kernel_rfl) rfl rfl (Eff.callV rfl Try.call50 (fun w hw => same_c yz o2 l hyz h2 (by omega) w (bgQ_sat (hw.sat.pick (ss := bgQ l yz) (by repeat (first | exact .nil | apply Pick.cons | exact .here | apply Ext.there)))) (bgA_sat (bgP_sat (hw.sat.pick (ss := bgP 95 b19 o2 l) (by repeat (first | exact .nil | apply Pick.cons | exact .here | apply Ext.there))))))) (fun x => ⟨_, (by repeat (first | exact .nil | apply Pick.cons | exact .here | apply Ext.there))⟩) ?_
      intro _ _
      refine RW.v 10 rfl (by kernel_rfl) (by kernel_rfl) (by kernel_rfl) (fun _ _ _ h => h) rfl rfl (Val.pick_t rfl rfl) ?_
      refine RW.v 11 rfl (by kernel_rfl) (by kernel_rfl) (by kernel_rfl) (fun _ _ _ h => h) rfl rfl (Val.move rfl) ?_
      refine RW.e 12 rfl (by kernel_rfl) rfl rfl (Eff.callV rfl Try.call45 (fun w hw => awake10_c w)) (fun x => ⟨_, (by repeat (first | exact .nil | apply Pick.cons | exact .here | apply Ext.there))⟩) ?_
      intro _ _
      refine RW.v 13 rfl (by kernel_rfl) (by kernel_rfl) (by kernel_rfl) (fun _ _ _ h => h) rfl rfl (Val.pick_t rfl rfl) ?_
      refine RW.v 14 rfl (by kernel_rfl) (by kernel_rfl) (by kernel_rfl) (fun _ _ _ h => h) rfl rfl (Val.assign rfl) ?_
      refine RW.done (by kernel_rfl) ?_
      refine PQ.seq ?_
      refine CW.ret ?_
      refine PQ.ret1 rfl rfl ?_
      intro w' hw; exact ⟨rfl, hw.below⟩
end Go.Proofs.Ytgeblajdjdcghaa
