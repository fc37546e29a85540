import Derived.Test.YtipnpnkniihdjaaTwV
import Derived.Lib.Hide
/- Calls done to a store, one behind the other. -/
namespace Go.Proofs.Ytipnpnkniihdjaa
open Go Go.RowKit V
set_option linter.unusedVariables false
set_option maxRecDepth 100000
open V (str byC ownV ownG ownS ownOk)
theorem own_slp (l : List Pr) (y : V.OwnO) (hy : ownOk 2 l.length (l.flatMap prC) y) : ∃ (p : Option Addr) (c : Nat), ownV l.length y = .slice p l.length c ∧ l.length ≤ c ∧ ∀ {B : V.Base} {sg r : V.Sg} {w : World}, Hp B sg w → Pick [ownG 45 (l.flatMap prC) y] sg r → V.slAt w p 2 prC l := by
  rcases y with _ | ⟨gb, rest, cap⟩
  · have hl0 : l.length = 0 := hy.2
    exact ⟨none, 0, by rw [hl0]; rfl, by omega, fun _ _ => .inl (List.length_eq_zero_iff.1 hl0)⟩
  · exact ⟨some ⟨gb, 0, none⟩, cap, rfl, by have h2 : (l.flatMap prC).length + rest.length = cap * 2 := hy.2; rw [prCs_len] at h2; omega, fun hw hp => V.slAt_flat (hw.pick hp) prC_len rfl .here⟩
def patF (A : ShA) (L : List Cl) : ShA := L.foldl apF A
theorem pat_take {A : ShA} {L : List Cl} {j : Nat} {c : Cl} (h : L[j]? = some c) : patF A (L.take (j + 1)) = apF (patF A (L.take j)) c := by unfold patF; rw [List.take_add_one, h, List.foldl_append]; rfl
theorem insF_len (l : List Pr) (k v : List UInt8) : (insF k v l).length = l.length + 1 := by
  induction l with
  | nil => rfl
  | cons a r ih => simp only [insF]; split <;> simp_all
theorem ap_len (A : ShA) (c : Cl) : (apF A c).1.length ≤ A.1.length + 1 ∧ (apF A c).2.length ≤ A.2.length + 1 := by
  unfold apF doF putF delF
  split
  · split
    · split
      · simp only [repF_len]; omega
      · simp only [insF_len]; omega
    · split
      · simp only; exact ⟨Nat.le_succ_of_le (List.length_filter_le _ _), by omega⟩
      · split
        · simp
        · simp; omega
  · omega
theorem patch_c (s : Sf) (A : ShA) (L : List Cl) (pl : Option Addr) (cl : Nat) (w : World) (hA : SfR w s A) (hL : V.slAt w pl 5 clC L) (hK : ∀ c ∈ L, K4 c) (hl : A.1.length + L.length ≤ 1000 ∧ A.2.length + L.length ≤ 1000) : Calls Try.prog 15 [.agg s.cells.toArray, .slice pl L.length cl].toArray w fun e w' => ∃ r : V.OwnO × OffO, (ownOk 2 (patF A L).1.length ((patF A L).1.flatMap prC) r.1 ∧ offOk (patF A L).2.length r.2) ∧ e = .returned (.agg [ownV (patF A L).1.length r.1, offV (patF A L).2.length r.2].toArray) ∧ Hp ⟨w, []⟩ [ownG 45 ((patF A L).1.flatMap prC) r.1, offG 9 ((patF A L).2.flatMap stE) r.2] w' := by
  have hA0 := hA
  obtain ⟨⟨pa, pn, pc⟩, ⟨qa, qn, qc⟩⟩ := s
  obtain ⟨l, q⟩ := A
  obtain ⟨⟨hn1, h1⟩, ⟨hn2, h2⟩, hcp, hcq⟩ := hA
  simp only at hn1 h1 hn2 h2 hcp hcq hl ⊢
  subst hn1; subst hn2
  refine V.calls [] Try.func15 rfl Try.ntmps15 (Nat.le_of_ble_eq_true rfl) (V.sat_nil _) ?_
  refine CW.seq ?_
  refine CW.region ?_
  refine LW.e rfl rfl (Eff.boxA rfl) ?_
  intro b2 _
  refine LW.e rfl rfl (Eff.allocA (by exact Try.zeroValue25)) ?_
  intro b4 _
  refine LW.nil ?_
  refine PQ.seq ?_
  refine CW.seq ?_
  refine CW.regJoin (fun y : V.OwnO × V.OwnO × Nat => OwSh (l, q) (y.1, y.2.1)) (fun y => [(1, .slice pl L.length cl), (4, .pointer (some ⟨b4, 0, none⟩)), (5, .pointer (some ⟨y.2.2, 0, none⟩))]) (fun y => [[(b4, .cells [.slice none 0 0, .slice none 0 0].toArray 25 (0, 0))], [(y.2.2, .cells (owC (l, q) (y.1, y.2.1)).toArray 25 (0, 0))], ownG 45 (l.flatMap prC) y.1, ownG 9 (q.flatMap stE) y.2.1]) ?_ ?_
  · refine CW.drawn ([[(b2, .cells [.slice pa l.length pc, .slice qa q.length qc].toArray 25 (0, 0))]]) mixed (by repeat (first | exact .nil | apply Pick.cons | exact .here | apply Ext.there)) ?_
    refine RW.v 0 rfl (by kernel_rfl) (by kernel_rfl) (by kernel_rfl) (fun _ _ _ h => h) rfl rfl (Val.fieldAddr 0 rfl Try.underlying25 rfl rfl Try.sizeOf22) ?_
    refine RW.v 1 rfl (by kernel_rfl) (by kernel_rfl) (by kernel_rfl) (fun _ _ _ h => h) rfl rfl (Val.load rfl Try.isAgg22 (by repeat (first | exact .here | exact .inner .here | exact .inner (.inner .here) | refine .there ?_)) (by rfl)) ?_
    refine RW.v 3 rfl (by kernel_rfl) (by kernel_rfl) (by kernel_rfl) (fun _ _ _ h => h) rfl rfl (Val.fieldAddr 1 rfl Try.underlying25 rfl rfl Try.sizeOf23) ?_
    refine RW.v 4 rfl (by kernel_rfl) (by kernel_rfl) (by kernel_rfl) (fun _ _ _ h => h) rfl rfl (Val.load rfl Try.isAgg23 (by repeat (first | exact .here | exact .inner .here | exact .inner (.inner .here) | refine .there ?_)) (by rfl)) ?_
    refine RW.any [2, 7] (by kernel_rfl) (by simp) ?_
    intro i hi
    simp only [List.mem_cons, List.not_mem_nil, or_false] at hi
    rcases hi with rfl | rfl
    · refine RO.e rfl rfl rfl (Eff.callM ([]) .nil rfl Try.call28 (fun w hw hs0 => cloneP_c l _ _ _ rfl (by omega) w (hw.slAt h1 (by simp [ids])))) (fun x => ⟨_, (by repeat (first | exact .nil | apply Pick.cons | exact .here | apply Ext.there))⟩) ?_
      intro yp hyp
      refine RW.any [5, 7] (by kernel_rfl) (by simp) ?_
      intro i hi
      simp only [List.mem_cons, List.not_mem_nil, or_false] at hi
      rcases hi with rfl | rfl
      · refine RO.e rfl rfl rfl (Eff.callM ([]) .nil rfl Try.call29 (fun w hw hs0 => cloneS_c q _ _ _ rfl (by omega) w (hw.slAt h2 (by simp [ids])))) (fun x => ⟨_, (by repeat (first | exact .nil | apply Pick.cons | exact .here | apply Ext.there))⟩) ?_
        intro yq hyq
        refine RW.v 6 rfl (by kernel_rfl) (by kernel_rfl) (by kernel_rfl) (fun _ _ _ h => h) rfl rfl (Val.build [ownV l.length yp, ownV q.length yq] Try.zeroValue25 Try.underlying25 places25 rfl (by rcases yp with _ | ⟨_, _, _⟩ <;> rcases yq with _ | ⟨_, _, _⟩ <;> rfl)) ?_
        refine RW.e 7 rfl (by kernel_rfl) rfl rfl (Eff.allocA (by exact Try.zeroValue25)) (fun x => ⟨_, (by repeat (first | exact .nil | apply Pick.cons | exact .here | apply Ext.there))⟩) ?_
        intro b5 _
        first | (refine RW.eN 8 rfl (by kernel_rfl) rfl (Eff.storeW (cs := owC (l, q) (yp, yq)) rfl rfl (by repeat (first | exact .here | exact .inner .here | exact .inner (.inner .here) | apply Upd.there)) (by rfl) Try.sizeOf25 (by simp [owC, V.ownV_one])) (fun x => ⟨_, (by repeat (first | exact .nil | apply Pick.cons | exact .here | apply Ext.there))⟩) ?_) | (refine RW.eN 8 rfl (by kernel_rfl) rfl (Eff.storeW (cs := apV (apF k.2.1 x) r) rfl rfl (by repeat (first | exact .here | exact .inner .here | exact .inner (.inner .here) | apply Upd.there)) (by rfl) Try.sizeOf25 (by simp [apV, V.ownV_one, offV_one])) (fun x => ⟨_, (by repeat (first | exact .nil | apply Pick.cons | exact .here | apply Ext.there))⟩) ?_)
        intro _ _
        refine RW.done (by kernel_rfl) ?_
        refine PQ.joined ((yp, yq, b5)) (⟨hyp, hyq⟩) (by repeat (first | exact trivial | refine ⟨rfl, ?_⟩)) (by repeat (first | exact .nil | apply Pick.cons | exact .here | apply Ext.there))
      · refine RO.e rfl rfl rfl (Eff.allocA (by exact Try.zeroValue25)) (fun x => ⟨_, (by repeat (first | exact .nil | apply Pick.cons | exact .here | apply Ext.there))⟩) ?_
        intro b5 _
        refine RW.e 5 rfl (by kernel_rfl) rfl rfl (Eff.callM ([]) .nil rfl Try.call29 (fun w hw hs0 => cloneS_c q _ _ _ rfl (by omega) w (hw.slAt h2 (by simp [ids])))) (fun x => ⟨_, (by repeat (first | exact .nil | apply Pick.cons | exact .here | apply Ext.there))⟩) ?_
        intro yq hyq
        refine RW.v 6 rfl (by kernel_rfl) (by kernel_rfl) (by kernel_rfl) (fun _ _ _ h => h) rfl rfl (Val.build [ownV l.length yp, ownV q.length yq] Try.zeroValue25 Try.underlying25 places25 rfl (by rcases yp with _ | ⟨_, _, _⟩ <;> rcases yq with _ | ⟨_, _, _⟩ <;> rfl)) ?_
        first | (refine RW.eN 8 rfl (by kernel_rfl) rfl (Eff.storeW (cs := owC (l, q) (yp, yq)) rfl rfl (by repeat (first | exact .here | exact .inner .here | exact .inner (.inner .here) | apply Upd.there)) (by rfl) Try.sizeOf25 (by simp [owC, V.ownV_one])) (fun x => ⟨_, (by repeat (first | exact .nil | apply Pick.cons | exact .here | apply Ext.there))⟩) ?_) | (refine RW.eN 8 rfl (by kernel_rfl) rfl (Eff.storeW (cs := apV (apF k.2.1 x) r) rfl rfl (by repeat (first | exact .here | exact .inner .here | exact .inner (.inner .here) | apply Upd.there)) (by rfl) Try.sizeOf25 (by simp [apV, V.ownV_one, offV_one])) (fun x => ⟨_, (by repeat (first | exact .nil | apply Pick.cons | exact .here | apply Ext.there))⟩) ?_)
        intro _ _
        refine RW.done (by kernel_rfl) ?_
        refine PQ.joined ((yp, yq, b5)) (⟨hyp, hyq⟩) (by repeat (first | exact trivial | refine ⟨rfl, ?_⟩)) (by repeat (first | exact .nil | apply Pick.cons | exact .here | apply Ext.there))
    · refine RO.e rfl rfl rfl (Eff.allocA (by exact Try.zeroValue25)) (fun x => ⟨_, (by repeat (first | exact .nil | apply Pick.cons | exact .here | apply Ext.there))⟩) ?_
      intro b5 _
      refine RW.e 2 rfl (by kernel_rfl) rfl rfl (Eff.callM ([]) .nil rfl Try.call28 (fun w hw hs0 => cloneP_c l _ _ _ rfl (by omega) w (hw.slAt h1 (by simp [ids])))) (fun x => ⟨_, (by repeat (first | exact .nil | apply Pick.cons | exact .here | apply Ext.there))⟩) ?_
      intro yp hyp
      refine RW.e 5 rfl (by kernel_rfl) rfl rfl (Eff.callM ([]) .nil rfl Try.call29 (fun w hw hs0 => cloneS_c q _ _ _ rfl (by omega) w (hw.slAt h2 (by simp [ids])))) (fun x => ⟨_, (by repeat (first | exact .nil | apply Pick.cons | exact .here | apply Ext.there))⟩) ?_
      intro yq hyq
      refine RW.v 6 rfl (by kernel_rfl) (by kernel_rfl) (by kernel_rfl) (fun _ _ _ h => h) rfl rfl (Val.build [ownV l.length yp, ownV q.length yq] Try.zeroValue25 Try.underlying25 places25 rfl (by rcases yp with _ | ⟨_, _, _⟩ <;> rcases yq with _ | ⟨_, _, _⟩ <;> rfl)) ?_
      first | (refine RW.eN 8 rfl (by kernel_rfl) rfl (Eff.storeW (cs := owC (l, q) (yp, yq)) rfl rfl (by repeat (first | exact .here | exact .inner .here | exact .inner (.inner .here) | apply Upd.there)) (by rfl) Try.sizeOf25 (by simp [owC, V.ownV_one])) (fun x => ⟨_, (by repeat (first | exact .nil | apply Pick.cons | exact .here | apply Ext.there))⟩) ?_) | (refine RW.eN 8 rfl (by kernel_rfl) rfl (Eff.storeW (cs := apV (apF k.2.1 x) r) rfl rfl (by repeat (first | exact .here | exact .inner .here | exact .inner (.inner .here) | apply Upd.there)) (by rfl) Try.sizeOf25 (by simp [apV, V.ownV_one, offV_one])) (fun x => ⟨_, (by repeat (first | exact .nil | apply Pick.cons | exact .here | apply Ext.there))⟩) ?_)
      intro _ _
      refine RW.done (by kernel_rfl) ?_
      refine PQ.joined ((yp, yq, b5)) (⟨hyp, hyq⟩) (by repeat (first | exact trivial | refine ⟨rfl, ?_⟩)) (by repeat (first | exact .nil | apply Pick.cons | exact .here | apply Ext.there))
  · rintro ⟨yp, yq, b5⟩ ⟨hyp, hyq⟩
    refine PQ.seq ?_
    refine CW.seq ?_
    refine CW.seq ?_
    refine CW.region ?_
    refine LW.v rfl rfl (Val.move rfl) ?_
    refine LW.v rfl rfl (Val.lenSl rfl Try.underlying28) ?_
    refine LW.v rfl rfl (Val.move rfl) ?_
    refine LW.nil ?_
    refine PQ.seq ?_
    refine CW.block ?_
    refine V.CW.perm (sg' := [[(b4, .cells [.slice none 0 0, .slice none 0 0].toArray 25 (0, 0))], [(b5, .cells [ownV l.length yp, offV q.length (offOf yq)].toArray 25 (0, 0))], ownG 45 (l.flatMap prC) yp, offG 9 (q.flatMap stE) (offOf yq)]) ?_ (by rw [offOf_V, offOf_G]; exact .refl _)
    refine CW.loop (γ := Nat × ShA × V.OwnO × OffO) (fun k => [(1, .slice pl L.length cl), (4, .pointer (some ⟨b4, 0, none⟩)), (5, .pointer (some ⟨b5, 0, none⟩)), (15, .slice pl L.length cl), (16, .int .i64 (L.length : Nat)), (17, .int .i64 (k.1 : Nat))]) (fun k => [[(b4, .cells [.slice none 0 0, .slice none 0 0].toArray 25 (0, 0))], [(b5, .cells [ownV k.2.1.1.length k.2.2.1, offV k.2.1.2.length k.2.2.2].toArray 25 (0, 0))], ownG 45 (k.2.1.1.flatMap prC) k.2.2.1, offG 9 (k.2.1.2.flatMap stE) k.2.2.2]) (fun k => k.1 ≤ L.length ∧ k.2.1 = patF (l, q) (L.take k.1) ∧ ownOk 2 k.2.1.1.length (k.2.1.1.flatMap prC) k.2.2.1 ∧ offOk k.2.1.2.length k.2.2.2 ∧ k.2.1.1.length ≤ l.length + k.1 ∧ k.2.1.2.length ≤ q.length + k.1) (fun k => L.length - k.1) ((0, (l, q), yp, offOf yq)) ⟨Nat.zero_le _, rfl, hyp, offOf_ok hyq, Nat.le_refl _, Nat.le_refl _⟩ (by repeat (first | exact trivial | refine ⟨rfl, ?_⟩)) (by repeat (first | exact .nil | apply Pick.cons | exact .here | apply Ext.there)) ?_
    intro k
    rintro ⟨hk1, hk2, hk3, hk4, hk5, hk6⟩
    refine CW.seq ?_
    refine CW.region ?_
    refine LW.v rfl rfl (Val.cmp rfl rfl rfl) ?_
    refine LW.nil ?_
    refine PQ.seq ?_
    refine CW.seq ?_
    refine CW.cond rfl (fun h18 => ?_) (fun h18 => ?_)
    · replace h18 := bT h18
      obtain ⟨b1, o1, x, rfl, hb1, hx1, hr1⟩ := V.slAt_at hL rfl (k := k.1) (by omega)
      obtain ⟨p1, c1, hv1, hc1, hs1⟩ := own_slp k.2.1.1 k.2.2.1 hk3
      obtain ⟨p2, c2, hv2, hc2, hs2⟩ := off_sl k.2.1.2 k.2.2.2 hk4
      refine CW.skip ?_
      refine PQ.seq ?_
      refine CW.seq ?_
      refine CW.block ?_
      refine CW.seq ?_
      refine CW.region ?_
      first | (refine LW.v rfl rfl (Val.indexAddrN rfl rfl Try.underlying28 Try.sizeOf38 (by omega)) ?_) | (refine LW.v rfl rfl (Val.indexAddr rfl rfl Try.underlying28 Try.sizeOf38 (by omega) (by omega)) ?_)
      refine LW.v rfl rfl (Val.loadOA rfl Try.isAgg38 hb1 (by simp [ids]) (hr1 k.1 x hx1) Try.sizeOf38) ?_
      refine LW.e rfl rfl (Eff.allocA (by exact Try.zeroValue38)) ?_
      intro b7 _
      refine LW.eN rfl (Eff.storeW (cs := clC x) rfl rfl (by repeat (first | exact .here | exact .inner .here | exact .inner (.inner .here) | apply Upd.there)) (by rfl) Try.sizeOf38 (by rfl)) ?_
      intro _ _
      refine LW.nil ?_
      refine PQ.seq ?_
      refine CW.region ?_
      refine LW.v rfl rfl (Val.loadW (l := [ownV k.2.1.1.length k.2.2.1, offV k.2.1.2.length k.2.2.2]) rfl Try.isAgg25 (by repeat (first | exact .here | exact .inner .here | exact .inner (.inner .here) | refine .there ?_)) (by exact Try.sizeOf25)) ?_
      refine LW.re 22 (.agg [.slice p1 k.2.1.1.length c1, .slice p2 k.2.1.2.length c2].toArray) rfl (by rw [hv1, hv2]) ?_
      refine LW.v rfl rfl (Val.loadW (l := clC x) rfl Try.isAgg38 (by repeat (first | exact .here | exact .inner .here | exact .inner (.inner .here) | refine .there ?_)) (by exact Try.sizeOf38)) ?_
      refine LW.e rfl rfl (Eff.callM ([]) .nil rfl Try.call10 (fun w hw hs0 => apply_c ⟨⟨p1, k.2.1.1.length, c1⟩, ⟨p2, k.2.1.2.length, c2⟩⟩ k.2.1 x (hK x (List.mem_of_getElem? hx1)) w ⟨⟨rfl, hs1 hw (by repeat (first | exact .nil | apply Pick.cons | exact .here | apply Ext.there))⟩, ⟨rfl, hs2 hw (by repeat (first | exact .nil | apply Pick.cons | exact .here | apply Ext.there))⟩, hc1, hc2⟩ (by omega))) ?_
      intro r hr
      refine LW.v rfl rfl (Val.move rfl) ?_
      refine LW.v rfl rfl (Val.extract rfl rfl) ?_
      refine LW.v rfl rfl (Val.extract rfl rfl) ?_
      first | (refine LW.eN rfl (Eff.storeW (cs := owC (l, q) (yp, yq)) rfl rfl (by repeat (first | exact .here | exact .inner .here | exact .inner (.inner .here) | apply Upd.there)) (by rfl) Try.sizeOf25 (by simp [owC, V.ownV_one])) ?_) | (refine LW.eN rfl (Eff.storeW (cs := apV (apF k.2.1 x) r) rfl rfl (by repeat (first | exact .here | exact .inner .here | exact .inner (.inner .here) | apply Upd.there)) (by rfl) Try.sizeOf25 (by simp [apV, V.ownV_one, offV_one])) ?_)
      intro _ _
      refine LW.nil ?_
      refine PQ.in_normal ?_
      refine PQ.seq ?_
      refine CW.region ?_
      refine LW.v rfl rfl (Val.ar rfl rfl rfl (IntWalk.i64_in _ (by omega))) ?_
      refine LW.v rfl rfl (Val.move rfl) ?_
      refine LW.nil ?_
      refine PQ.round ((k.1 + 1, apF k.2.1 x, r.1, r.2.1)) ⟨by simp only; omega, by simp only; rw [pat_take hx1, hk2], hr.1, hr.2, by have h9 := (ap_len k.2.1 x).1; simp only; omega, by have h9 := (ap_len k.2.1 x).2; simp only; omega⟩ (by simp only; omega) (by repeat (first | exact trivial | refine ⟨rfl, ?_⟩)) (by repeat (first | exact .nil | apply Pick.cons | exact .here | apply Ext.there))
    · replace h18 := bF h18
      have hte : L.take k.1 = L := List.take_of_length_le (by omega)
      rw [hte] at hk2
      refine CW.exit ?_
      refine PQ.then_exit ?_
      refine PQ.then_exit ?_
      refine PQ.in_here ?_
      refine PQ.seq ?_
      refine CW.seq ?_
      refine CW.region ?_
      refine LW.v rfl rfl (Val.loadW (l := [ownV k.2.1.1.length k.2.2.1, offV k.2.1.2.length k.2.2.2]) rfl Try.isAgg25 (by repeat (first | exact .here | exact .inner .here | exact .inner (.inner .here) | refine .there ?_)) (by exact Try.sizeOf25)) ?_
      refine LW.eN rfl (Eff.storeW (cs := [ownV k.2.1.1.length k.2.2.1, offV k.2.1.2.length k.2.2.2]) rfl rfl (by repeat (first | exact .here | exact .inner .here | exact .inner (.inner .here) | apply Upd.there)) (by rfl) Try.sizeOf25 (by simp [V.ownV_one, offV_one])) ?_
      intro _ _
      refine LW.nil ?_
      refine PQ.seq ?_
      refine CW.ret ?_
      refine V.PQ.retC rfl rfl (by repeat (first | exact .here | exact .inner .here | exact .inner (.inner .here) | refine .there ?_)) Try.isAgg25 (by exact Try.sizeOf25) ?_
      rw [← hk2]
      intro w' hw
      exact ⟨(k.2.2.1, k.2.2.2), ⟨hk3, hk4⟩, rfl, hw.pick (by repeat (first | exact .nil | apply Pick.cons | exact .here | apply Ext.there))⟩
def refOk2 (A0 A : ShA) : ResO → Prop
  | none => A = A0
  | some y => OwSh A y
theorem ref_cur (s : Sf) (A0 A : ShA) (r : ResO) (w0 : World) (h0 : SfR w0 s A0) (h : refOk2 A0 A r) : ∃ s' : Sf, refV s A r = s'.cells ∧ ∀ {sg r2 : V.Sg} {w : World}, Hp ⟨w0, []⟩ sg w → Pick [refP A r, refQ A r] sg r2 → SfR w s' A := by
  rcases r with _ | y
  · obtain rfl : A = A0 := h
    exact ⟨s, rfl, fun hw _ => h0.hp hw (by simp)⟩
  · obtain ⟨p1, c1, hv1, hc1, hs1⟩ := own_slp A.1 y.1 h.1
    obtain ⟨p2, c2, hv2, hc2, hs2⟩ := own_sl1 A.2 y.2 h.2
    refine ⟨⟨⟨p1, A.1.length, c1⟩, ⟨p2, A.2.length, c2⟩⟩, by show [ownV A.1.length y.1, ownV A.2.length y.2] = _; rw [hv1, hv2]; rfl, fun hw hp => ?_⟩
    have hw2 := hw.pick hp
    exact ⟨⟨rfl, hs1 hw2 (.cons .here .nil)⟩, ⟨rfl, hs2 hw2 (.cons (.there .here) .nil)⟩, hc1, hc2⟩
theorem ref_one (s : Sf) (A : ShA) (r : ResO) : (refV s A r).all (·.oneCell') = true := by
  rcases r with _ | y
  · rfl
  · simp [refV, owC, V.ownV_one]
theorem ref_len (s : Sf) (A : ShA) (r : ResO) : (refV s A r).length = 2 := by rcases r with _ | y <;> rfl
theorem ref_size (s : Sf) (A : ShA) (r : ResO) : ∀ w, (sizeOf 25).run Try.prog w = .ok (refV s A r).length w := by rw [ref_len]; exact Try.sizeOf25
theorem rpatch_c (s : Sf) (A : ShA) (L : List Cl) (pl : Option Addr) (cl : Nat) (w : World) (hA : SfR w s A) (hL : V.slAt w pl 5 clC L) (hK : ∀ c ∈ L, K4 c) (hl : A.1.length + L.length ≤ 1000 ∧ A.2.length + L.length ≤ 1000) : Calls Try.prog 16 [.agg s.cells.toArray, .slice pl L.length cl].toArray w fun e w' => ∃ r : ResO, refOk2 A (patF A L) r ∧ e = .returned (.agg (refV s (patF A L) r).toArray) ∧ Hp ⟨w, []⟩ [refP (patF A L) r, refQ (patF A L) r] w' := by
  refine V.calls [] Try.func16 rfl Try.ntmps16 (Nat.le_of_ble_eq_true rfl) (V.sat_nil _) ?_
  refine CW.seq ?_
  refine CW.region ?_
  refine LW.e rfl rfl (Eff.boxA rfl) ?_
  intro b2 _
  refine LW.e rfl rfl (Eff.allocA (by exact Try.zeroValue25)) ?_
  intro b4 _
  refine LW.nil ?_
  refine PQ.seq ?_
  refine CW.seq ?_
  refine CW.seq ?_
  refine CW.region ?_
  refine LW.v rfl rfl (Val.assign rfl) ?_
  refine LW.nil ?_
  refine PQ.seq ?_
  refine CW.block ?_
  refine V.CW.perm (sg' := [[(b4, .cells [.slice none 0 0, .slice none 0 0].toArray 25 (0, 0))], [(b2, .cells (refV s A none).toArray 25 (0, 0))], refP A none, refQ A none]) ?_ (by simp [refP, refQ]; rfl)
  refine CW.loop (γ := Nat × ShA × ResO) (fun k => [(1, .slice pl L.length cl), (2, .pointer (some ⟨b2, 0, none⟩)), (4, .pointer (some ⟨b4, 0, none⟩)), (5, .int .i64 (k.1 : Nat))]) (fun k => [[(b4, .cells [.slice none 0 0, .slice none 0 0].toArray 25 (0, 0))], [(b2, .cells (refV s k.2.1 k.2.2).toArray 25 (0, 0))], refP k.2.1 k.2.2, refQ k.2.1 k.2.2]) (fun k => k.1 ≤ L.length ∧ k.2.1 = patF A (L.take k.1) ∧ refOk2 A k.2.1 k.2.2 ∧ k.2.1.1.length ≤ A.1.length + k.1 ∧ k.2.1.2.length ≤ A.2.length + k.1) (fun k => L.length - k.1) ((0, A, none)) ⟨Nat.zero_le _, rfl, rfl, Nat.le_refl _, Nat.le_refl _⟩ (by repeat (first | exact trivial | refine ⟨rfl, ?_⟩)) (by repeat (first | exact .nil | apply Pick.cons | exact .here | apply Ext.there)) ?_
  intro k
  rintro ⟨hk1, hk2, hk3, hk5, hk6⟩
  refine CW.seq ?_
  refine CW.seq ?_
  refine CW.region ?_
  refine LW.v rfl rfl (Val.move rfl) ?_
  refine LW.v rfl rfl (Val.move rfl) ?_
  refine LW.v rfl rfl (Val.lenSl rfl Try.underlying28) ?_
  refine LW.v rfl rfl (Val.cmp rfl rfl rfl) ?_
  refine LW.nil ?_
  refine PQ.seq ?_
  refine CW.cond rfl (fun h9 => ?_) (fun h9 => ?_)
  · replace h9 := bT h9
    obtain ⟨b1, o1, x, rfl, hb1, hx1, hr1⟩ := V.slAt_at hL rfl (k := k.1) (by omega)
    obtain ⟨s2, hv, hs2⟩ := ref_cur s A k.2.1 k.2.2 w hA hk3
    refine CW.skip ?_
    refine PQ.seq ?_
    refine CW.seq ?_
    refine CW.block ?_
    refine CW.regJoin (fun r2 : ResO => refOk2 A (apF k.2.1 x) r2) (fun _ => [(1, .slice (some ⟨b1, o1, none⟩) L.length cl), (2, .pointer (some ⟨b2, 0, none⟩)), (4, .pointer (some ⟨b4, 0, none⟩)), (5, .int .i64 (k.1 : Nat))]) (fun r2 => [[(b4, .cells [.slice none 0 0, .slice none 0 0].toArray 25 (0, 0))], [(b2, .cells (refV s (apF k.2.1 x) r2).toArray 25 (0, 0))], refP (apF k.2.1 x) r2, refQ (apF k.2.1 x) r2]) ?_ ?_
    · refine CW.drawn ([]) mixed (by repeat (first | exact .nil | apply Pick.cons | exact .here | apply Ext.there)) ?_
      refine RW.v 1 rfl (by kernel_rfl) (by kernel_rfl) (by kernel_rfl) (fun _ _ _ h => h) rfl rfl (Val.move rfl) ?_
      refine RW.v 2 rfl (by kernel_rfl) (by kernel_rfl) (by kernel_rfl) (fun _ _ _ h => h) rfl rfl (Val.move rfl) ?_
      first | (refine RW.v 3 rfl (by kernel_rfl) (by kernel_rfl) (by kernel_rfl) (fun _ _ _ h => h) rfl rfl (Val.indexAddrN rfl rfl Try.underlying28 Try.sizeOf38 (by omega)) ?_) | (refine RW.v 3 rfl (by kernel_rfl) (by kernel_rfl) (by kernel_rfl) (fun _ _ _ h => h) rfl rfl (Val.indexAddr rfl rfl Try.underlying28 Try.sizeOf38 (by omega) (by omega)) ?_)
      refine RW.v 4 rfl (by kernel_rfl) (by kernel_rfl) (by kernel_rfl) (fun _ _ _ h => h) rfl rfl (Val.loadOA rfl Try.isAgg38 hb1 (by simp [ids]) (hr1 k.1 x hx1) Try.sizeOf38) ?_
      refine RW.e 0 rfl (by kernel_rfl) rfl rfl (Eff.ofVal (Val.loadW (l := refV s k.2.1 k.2.2) rfl Try.isAgg25 (by repeat (first | exact .here | exact .inner .here | exact .inner (.inner .here) | refine .there ?_)) (ref_size _ _ _))) (fun x => ⟨_, (by repeat (first | exact .nil | apply Pick.cons | exact .here | apply Ext.there))⟩) ?_
      intro _ _
      refine RW.re 13 (.agg s2.cells.toArray) rfl (by rw [hv]) ?_
      refine RW.e 5 rfl (by kernel_rfl) rfl rfl (Eff.callM ([]) .nil rfl Try.call30 (fun w hw hs0 => rapply_c s2 k.2.1 x (hK x (List.mem_of_getElem? hx1)) w (hs2 hw (by repeat (first | exact .nil | apply Pick.cons | exact .here | apply Ext.there))) (by omega))) (fun x => ⟨_, (by repeat (first | exact .nil | apply Pick.cons | exact .here | apply Ext.there))⟩) ?_
      intro r hr
      refine RW.v 6 rfl (by kernel_rfl) (by kernel_rfl) (by kernel_rfl) (fun _ _ _ h => h) rfl rfl (Val.move rfl) ?_
      refine RW.v 7 rfl (by kernel_rfl) (by kernel_rfl) (by kernel_rfl) (fun _ _ _ h => h) rfl rfl (Val.extract rfl rfl) ?_
      refine RW.v 8 rfl (by kernel_rfl) (by kernel_rfl) (by kernel_rfl) (fun _ _ _ h => h) rfl rfl (Val.extract rfl rfl) ?_
      refine RW.eN 9 rfl (by kernel_rfl) rfl (Eff.storeW (cs := refV s2 (apF k.2.1 x) r.1) rfl rfl (by repeat (first | exact .here | exact .inner .here | exact .inner (.inner .here) | apply Upd.there)) (by rw [ref_len, ref_len]) (ref_size _ _ _) (ref_one _ _ _)) (fun x => ⟨_, (by repeat (first | exact .nil | apply Pick.cons | exact .here | apply Ext.there))⟩) ?_
      intro _ _
      refine RW.done (by kernel_rfl) ?_
      rcases r with ⟨_ | y2, fd, vl⟩
      · have hB : (apF k.2.1 x) = k.2.1 := hr
        have e8 : refV s2 k.2.1 none = refV s k.2.1 k.2.2 := hv.symm
        simp only [hB, e8] at hr ⊢
        refine PQ.joined (k.2.2) hk3 (by repeat (first | exact trivial | refine ⟨rfl, ?_⟩)) (by repeat (first | exact .nil | apply Pick.cons | exact .here | apply Ext.there))
      · refine PQ.joined (some y2) hr (by repeat (first | exact trivial | refine ⟨rfl, ?_⟩)) (by repeat (first | exact .nil | apply Pick.cons | exact .here | apply Ext.there))
    · intro r2 hr2
      refine PQ.in_normal ?_
      refine PQ.seq ?_
      refine CW.region ?_
      refine LW.v rfl rfl (Val.move rfl) ?_
      refine LW.v rfl rfl (Val.ar rfl rfl rfl (IntWalk.i64_in _ (by omega))) ?_
      refine LW.v rfl rfl (Val.assign rfl) ?_
      refine LW.nil ?_
      refine PQ.round ((k.1 + 1, (apF k.2.1 x), r2)) ⟨by simp only; omega, by simp only; rw [pat_take hx1, hk2], hr2, by have h9 := (ap_len k.2.1 x).1; simp only; omega, by have h9 := (ap_len k.2.1 x).2; simp only; omega⟩ (by simp only; omega) (by repeat (first | exact trivial | refine ⟨rfl, ?_⟩)) (by repeat (first | exact .nil | apply Pick.cons | exact .here | apply Ext.there))
  · replace h9 := bF h9
    have hte : L.take k.1 = L := List.take_of_length_le (by omega)
    rw [hte] at hk2
    refine CW.exit ?_
    refine PQ.then_exit ?_
    refine PQ.then_exit ?_
    refine PQ.in_here ?_
    refine PQ.seq ?_
    refine CW.seq ?_
    refine CW.region ?_
    refine LW.v rfl rfl (Val.loadW (l := refV s k.2.1 k.2.2) rfl Try.isAgg25 (by repeat (first | exact .here | exact .inner .here | exact .inner (.inner .here) | refine .there ?_)) (ref_size _ _ _)) ?_
    refine LW.eN rfl (Eff.storeW (cs := refV s k.2.1 k.2.2) rfl rfl (by repeat (first | exact .here | exact .inner .here | exact .inner (.inner .here) | apply Upd.there)) (by rw [ref_len]; rfl) (ref_size _ _ _) (ref_one _ _ _)) ?_
    intro _ _
    refine LW.nil ?_
    refine PQ.seq ?_
    refine CW.ret ?_
    refine V.PQ.retC (l := refV s k.2.1 k.2.2) rfl rfl (by repeat (first | exact .here | exact .inner .here | exact .inner (.inner .here) | refine .there ?_)) Try.isAgg25 (ref_size _ _ _) ?_
    rw [← hk2]
    intro w' hw
    exact ⟨k.2.2, hk3, rfl, hw.pick (by repeat (first | exact .nil | apply Pick.cons | exact .here | apply Ext.there))⟩
end Go.Proofs.Ytipnpnkniihdjaa

/- A store written over; stores that good calls could make; the sign of life. -/
namespace Go.Proofs.Ytipnpnkniihdjaa
open Go Go.RowKit V
set_option linter.unusedVariables false
set_option maxRecDepth 100000
open V (str byC ownV ownG ownS ownOk)
theorem over_c (l : List Pr) (y : V.OwnO) (q : List (List UInt8)) (z : OffO) (w : World) (hy : ownOk 2 l.length (l.flatMap prC) y) (hz : offOk q.length z) (hl : l.length ≤ 1000 ∧ q.length ≤ 1000) (hs : Sat [ownG 45 (l.flatMap prC) y, offG 9 (q.flatMap stE) z] w) : Calls Try.prog 17 [.agg [ownV l.length y, offV q.length z].toArray].toArray w fun e w' => ∃ _x : Unit, True ∧ e = .returned (.tuple #[]) ∧ Hp ⟨w, V.ids [ownG 45 (l.flatMap prC) y, offG 9 (q.flatMap stE) z]⟩ [] w' := by
  rcases y with _ | ⟨gb, rest, cap⟩
  · have hl0 : l.length = 0 := hy.2
    rcases z with _ | ⟨gq, pre, rest2, cap2⟩
    · have hq0 : q.length = 0 := hz
      refine V.calls [] Try.func17 rfl Try.ntmps17 (Nat.le_of_ble_eq_true rfl) (by simpa [ownG, ownS, offG] using (hs.pick (ss := []) (by repeat (first | exact .nil | apply Pick.cons | exact .here | apply Ext.there)))) ?_
      refine CW.re 0 (.agg [.slice none 0 0, .slice none 0 0].toArray) rfl (by rfl) ?_
      refine CW.seq ?_
      refine CW.region ?_
      refine LW.e rfl rfl (Eff.boxA rfl) ?_
      intro b1 _
      refine LW.nil ?_
      refine PQ.seq ?_
      refine CW.seq ?_
      refine CW.seq ?_
      refine CW.region ?_
      refine LW.v rfl rfl (Val.assign rfl) ?_
      refine LW.nil ?_
      refine PQ.seq ?_
      refine CW.block ?_
      refine CW.loop (γ := Nat × List Value) (fun k => [(1, .pointer (some ⟨b1, 0, none⟩)), (2, .int .i64 (k.1 : Nat))]) (fun k => [[(b1, .cells [.slice none 0 0, .slice none 0 0].toArray 25 (0, 0))]]) (fun k => k.1 ≤ l.length) (fun k => l.length - k.1) ((0, [])) (Nat.zero_le _) (by repeat (first | exact trivial | refine ⟨rfl, ?_⟩)) (by repeat (first | exact .nil | apply Pick.cons | exact .here | apply Ext.there)) ?_
      intro k
      intro hk1
      refine CW.seq ?_
      refine CW.seq ?_
      refine CW.region ?_
      refine LW.v rfl rfl (Val.move rfl) ?_
      refine LW.v rfl rfl (Val.fieldAddr 0 rfl Try.underlying25 rfl rfl Try.sizeOf22) ?_
      refine LW.v rfl rfl (Val.load (v := .slice none 0 0) rfl Try.isAgg22 (by repeat (first | exact .here | exact .inner .here | exact .inner (.inner .here) | refine .there ?_)) (by rfl)) ?_
      refine LW.v rfl rfl (Val.lenSl rfl Try.underlying22) ?_
      refine LW.v rfl rfl (Val.cmp rfl rfl rfl) ?_
      refine LW.nil ?_
      refine PQ.seq ?_
      refine CW.cond rfl (fun h8 => ?_) (fun h8 => ?_)
      · exact absurd (bT h8) (by first | (simp; done) | omega)
      · replace h8 := bF h8
        refine CW.exit ?_
        refine PQ.then_exit ?_
        refine PQ.then_exit ?_
        refine PQ.in_here ?_
        refine PQ.seq ?_
        refine CW.seq ?_
        refine CW.region ?_
        refine LW.v rfl rfl (Val.assign rfl) ?_
        refine LW.nil ?_
        refine PQ.seq ?_
        refine CW.block ?_
        refine CW.loop (γ := Nat × List Value) (fun k => [(1, .pointer (some ⟨b1, 0, none⟩)), (3, .int .i64 (k.1 : Nat))]) (fun k => [[(b1, .cells [.slice none 0 0, .slice none 0 0].toArray 25 (0, 0))]]) (fun k => k.1 ≤ q.length) (fun k => q.length - k.1) ((0, [])) (Nat.zero_le _) (by repeat (first | exact trivial | refine ⟨rfl, ?_⟩)) (by repeat (first | exact .nil | apply Pick.cons | exact .here | apply Ext.there)) ?_
        intro k
        intro hk1
        refine CW.seq ?_
        refine CW.seq ?_
        refine CW.region ?_
        refine LW.v rfl rfl (Val.move rfl) ?_
        refine LW.v rfl rfl (Val.fieldAddr 1 rfl Try.underlying25 rfl rfl Try.sizeOf23) ?_
        refine LW.v rfl rfl (Val.load (v := .slice none 0 0) rfl Try.isAgg23 (by repeat (first | exact .here | exact .inner .here | exact .inner (.inner .here) | refine .there ?_)) (by rfl)) ?_
        refine LW.v rfl rfl (Val.lenSl rfl Try.underlying23) ?_
        refine LW.v rfl rfl (Val.cmp rfl rfl rfl) ?_
        refine LW.nil ?_
        refine PQ.seq ?_
        refine CW.cond rfl (fun h20 => ?_) (fun h20 => ?_)
        · exact absurd (bT h20) (by first | (simp; done) | omega)
        · replace h20 := bF h20
          refine CW.exit ?_
          refine PQ.then_exit ?_
          refine PQ.then_exit ?_
          refine PQ.in_here ?_
          refine PQ.end0 rfl ?_
          intro w' hw
          exact ⟨(), trivial, rfl, hw.pick .nil⟩
    · have hlq : pre.length + q.length ≤ (pre ++ q.flatMap stE ++ rest2).length := by simp only [List.length_append, V.flatMap_len stE_len]; omega
      refine V.calls [[(gq, .cells (pre ++ q.flatMap stE ++ rest2).toArray 9 (0, 0))]] Try.func17 rfl Try.ntmps17 (Nat.le_of_ble_eq_true rfl) (by simpa [ownG, ownS, offG] using (hs.pick (ss := [offG 9 (q.flatMap stE) (some (gq, pre, rest2, cap2))]) (by repeat (first | exact .nil | apply Pick.cons | exact .here | apply Ext.there)))) ?_
      refine CW.re 0 (.agg [.slice none 0 0, .slice (some ⟨gq, pre.length, none⟩) q.length cap2].toArray) rfl (by rfl) ?_
      refine CW.seq ?_
      refine CW.region ?_
      refine LW.e rfl rfl (Eff.boxA rfl) ?_
      intro b1 _
      refine LW.nil ?_
      refine PQ.seq ?_
      refine CW.seq ?_
      refine CW.seq ?_
      refine CW.region ?_
      refine LW.v rfl rfl (Val.assign rfl) ?_
      refine LW.nil ?_
      refine PQ.seq ?_
      refine CW.block ?_
      refine CW.loop (γ := Nat × List Value) (fun k => [(1, .pointer (some ⟨b1, 0, none⟩)), (2, .int .i64 (k.1 : Nat))]) (fun k => [[(b1, .cells [.slice none 0 0, .slice (some ⟨gq, pre.length, none⟩) q.length cap2].toArray 25 (0, 0))], [(gq, .cells (pre ++ q.flatMap stE ++ rest2).toArray 9 (0, 0))]]) (fun k => k.1 ≤ l.length) (fun k => l.length - k.1) ((0, [])) (Nat.zero_le _) (by repeat (first | exact trivial | refine ⟨rfl, ?_⟩)) (by repeat (first | exact .nil | apply Pick.cons | exact .here | apply Ext.there)) ?_
      intro k
      intro hk1
      refine CW.seq ?_
      refine CW.seq ?_
      refine CW.region ?_
      refine LW.v rfl rfl (Val.move rfl) ?_
      refine LW.v rfl rfl (Val.fieldAddr 0 rfl Try.underlying25 rfl rfl Try.sizeOf22) ?_
      refine LW.v rfl rfl (Val.load (v := .slice none 0 0) rfl Try.isAgg22 (by repeat (first | exact .here | exact .inner .here | exact .inner (.inner .here) | refine .there ?_)) (by rfl)) ?_
      refine LW.v rfl rfl (Val.lenSl rfl Try.underlying22) ?_
      refine LW.v rfl rfl (Val.cmp rfl rfl rfl) ?_
      refine LW.nil ?_
      refine PQ.seq ?_
      refine CW.cond rfl (fun h8 => ?_) (fun h8 => ?_)
      · exact absurd (bT h8) (by first | (simp; done) | omega)
      · replace h8 := bF h8
        refine CW.exit ?_
        refine PQ.then_exit ?_
        refine PQ.then_exit ?_
        refine PQ.in_here ?_
        refine PQ.seq ?_
        refine CW.seq ?_
        refine CW.region ?_
        refine LW.v rfl rfl (Val.assign rfl) ?_
        refine LW.nil ?_
        refine PQ.seq ?_
        refine CW.block ?_
        refine CW.loop (γ := Nat × List Value) (fun k => [(1, .pointer (some ⟨b1, 0, none⟩)), (3, .int .i64 (k.1 : Nat))]) (fun k => [[(b1, .cells [.slice none 0 0, .slice (some ⟨gq, pre.length, none⟩) q.length cap2].toArray 25 (0, 0))], [(gq, .cells k.2.toArray 9 (0, 0))]]) (fun k => k.1 ≤ q.length ∧ k.2.length = (pre ++ q.flatMap stE ++ rest2).length) (fun k => q.length - k.1) ((0, (pre ++ q.flatMap stE ++ rest2))) ⟨Nat.zero_le _, rfl⟩ (by repeat (first | exact trivial | refine ⟨rfl, ?_⟩)) (by repeat (first | exact .nil | apply Pick.cons | exact .here | apply Ext.there)) ?_
        intro k
        rintro ⟨hk1, hk2⟩
        refine CW.seq ?_
        refine CW.seq ?_
        refine CW.region ?_
        refine LW.v rfl rfl (Val.move rfl) ?_
        refine LW.v rfl rfl (Val.fieldAddr 1 rfl Try.underlying25 rfl rfl Try.sizeOf23) ?_
        refine LW.v rfl rfl (Val.load (v := .slice (some ⟨gq, pre.length, none⟩) q.length cap2) rfl Try.isAgg23 (by repeat (first | exact .here | exact .inner .here | exact .inner (.inner .here) | refine .there ?_)) (by rfl)) ?_
        refine LW.v rfl rfl (Val.lenSl rfl Try.underlying23) ?_
        refine LW.v rfl rfl (Val.cmp rfl rfl rfl) ?_
        refine LW.nil ?_
        refine PQ.seq ?_
        refine CW.cond rfl (fun h20 => ?_) (fun h20 => ?_)
        · replace h20 := bT h20
          have h20 : (k.1 : Int) < (q.length : Int) := h20
          refine CW.skip ?_
          refine PQ.seq ?_
          refine CW.seq ?_
          refine CW.block ?_
          refine CW.region ?_
          refine LW.v rfl rfl (Val.fieldAddr 1 rfl Try.underlying25 rfl rfl Try.sizeOf23) ?_
          refine LW.v rfl rfl (Val.load (v := .slice (some ⟨gq, pre.length, none⟩) q.length cap2) rfl Try.isAgg23 (by repeat (first | exact .here | exact .inner .here | exact .inner (.inner .here) | refine .there ?_)) (by rfl)) ?_
          refine LW.v rfl rfl (Val.move rfl) ?_
          first | (refine LW.v rfl rfl (Val.indexAddrN rfl rfl Try.underlying23 Try.sizeOf9 (by omega)) ?_) | (refine LW.v rfl rfl (Val.indexAddr rfl rfl Try.underlying23 Try.sizeOf9 (by omega) (by omega)) ?_)
          refine LW.eN rfl (Eff.storeX (l := k.2) (l' := k.2.set (pre.length + k.1 * 1) (str [111, 118, 101, 114])) rfl rfl rfl (by repeat (first | exact .here | exact .inner .here | exact .inner (.inner .here) | apply Upd.there)) rfl (by omega) Try.sizeOf9) ?_
          intro _ _
          refine LW.nil ?_
          refine PQ.in_normal ?_
          refine PQ.seq ?_
          refine CW.region ?_
          refine LW.v rfl rfl (Val.move rfl) ?_
          refine LW.v rfl rfl (Val.ar rfl rfl rfl (IntWalk.i64_in _ (by omega))) ?_
          refine LW.v rfl rfl (Val.assign rfl) ?_
          refine LW.nil ?_
          refine PQ.round ((k.1 + 1, k.2.set (pre.length + k.1 * 1) (str [111, 118, 101, 114]))) ⟨by simp only; omega, by simp only; rw [List.length_set]; exact hk2⟩ (by simp only; omega) (by repeat (first | exact trivial | refine ⟨rfl, ?_⟩)) (by repeat (first | exact .nil | apply Pick.cons | exact .here | apply Ext.there))
        · replace h20 := bF h20
          refine CW.exit ?_
          refine PQ.then_exit ?_
          refine PQ.then_exit ?_
          refine PQ.in_here ?_
          refine PQ.end0 rfl ?_
          intro w' hw
          exact ⟨(), trivial, rfl, hw.pick .nil⟩
  · have hlen : l.length * 2 ≤ (l.flatMap prC ++ rest).length := by rw [List.length_append, prCs_len]; omega
    rcases z with _ | ⟨gq, pre, rest2, cap2⟩
    · have hq0 : q.length = 0 := hz
      refine V.calls [[(gb, .cells (l.flatMap prC ++ rest).toArray 45 (0, 0))]] Try.func17 rfl Try.ntmps17 (Nat.le_of_ble_eq_true rfl) (by simpa [ownG, ownS, offG] using (hs.pick (ss := [ownG 45 (l.flatMap prC) (some (gb, rest, cap))]) (by repeat (first | exact .nil | apply Pick.cons | exact .here | apply Ext.there)))) ?_
      refine CW.re 0 (.agg [.slice (some ⟨gb, 0, none⟩) l.length cap, .slice none 0 0].toArray) rfl (by rfl) ?_
      refine CW.seq ?_
      refine CW.region ?_
      refine LW.e rfl rfl (Eff.boxA rfl) ?_
      intro b1 _
      refine LW.nil ?_
      refine PQ.seq ?_
      refine CW.seq ?_
      refine CW.seq ?_
      refine CW.region ?_
      refine LW.v rfl rfl (Val.assign rfl) ?_
      refine LW.nil ?_
      refine PQ.seq ?_
      refine CW.block ?_
      refine CW.loop (γ := Nat × List Value) (fun k => [(1, .pointer (some ⟨b1, 0, none⟩)), (2, .int .i64 (k.1 : Nat))]) (fun k => [[(b1, .cells [.slice (some ⟨gb, 0, none⟩) l.length cap, .slice none 0 0].toArray 25 (0, 0))], [(gb, .cells k.2.toArray 45 (0, 0))]]) (fun k => k.1 ≤ l.length ∧ k.2.length = (l.flatMap prC ++ rest).length) (fun k => l.length - k.1) ((0, (l.flatMap prC ++ rest))) ⟨Nat.zero_le _, rfl⟩ (by repeat (first | exact trivial | refine ⟨rfl, ?_⟩)) (by repeat (first | exact .nil | apply Pick.cons | exact .here | apply Ext.there)) ?_
      intro k
      rintro ⟨hk1, hk2⟩
      refine CW.seq ?_
      refine CW.seq ?_
      refine CW.region ?_
      refine LW.v rfl rfl (Val.move rfl) ?_
      refine LW.v rfl rfl (Val.fieldAddr 0 rfl Try.underlying25 rfl rfl Try.sizeOf22) ?_
      refine LW.v rfl rfl (Val.load (v := .slice (some ⟨gb, 0, none⟩) l.length cap) rfl Try.isAgg22 (by repeat (first | exact .here | exact .inner .here | exact .inner (.inner .here) | refine .there ?_)) (by rfl)) ?_
      refine LW.v rfl rfl (Val.lenSl rfl Try.underlying22) ?_
      refine LW.v rfl rfl (Val.cmp rfl rfl rfl) ?_
      refine LW.nil ?_
      refine PQ.seq ?_
      refine CW.cond rfl (fun h8 => ?_) (fun h8 => ?_)
      · replace h8 := bT h8
        have h8 : (k.1 : Int) < (l.length : Int) := h8
        refine CW.skip ?_
        refine PQ.seq ?_
        refine CW.seq ?_
        refine CW.block ?_
        refine CW.region ?_
        refine LW.v rfl rfl (Val.fieldAddr 0 rfl Try.underlying25 rfl rfl Try.sizeOf22) ?_
        refine LW.v rfl rfl (Val.load (v := .slice (some ⟨gb, 0, none⟩) l.length cap) rfl Try.isAgg22 (by repeat (first | exact .here | exact .inner .here | exact .inner (.inner .here) | refine .there ?_)) (by rfl)) ?_
        refine LW.v rfl rfl (Val.move rfl) ?_
        refine LW.v rfl rfl (Val.build [_, _] Try.zeroValue45 Try.underlying45 places45 rfl (by rfl)) ?_
        first | (refine LW.v rfl rfl (Val.indexAddrN rfl rfl Try.underlying22 Try.sizeOf45 (by omega)) ?_) | (refine LW.v rfl rfl (Val.indexAddr rfl rfl Try.underlying22 Try.sizeOf45 (by omega) (by omega)) ?_)
        refine LW.eN rfl (Eff.storeA (cs := [str [111, 118, 101, 114], str []]) (l := k.2) (l' := V.splice k.2 (0 + k.1 * 2) [str [111, 118, 101, 114], str []]) rfl rfl (by repeat (first | exact .here | exact .inner .here | exact .inner (.inner .here) | apply Upd.there)) rfl (by simp only [List.length_cons, List.length_nil]; omega) Try.sizeOf45 (by rfl)) ?_
        intro _ _
        refine LW.nil ?_
        refine PQ.in_normal ?_
        refine PQ.seq ?_
        refine CW.region ?_
        refine LW.v rfl rfl (Val.move rfl) ?_
        refine LW.v rfl rfl (Val.ar rfl rfl rfl (IntWalk.i64_in _ (by omega))) ?_
        refine LW.v rfl rfl (Val.assign rfl) ?_
        refine LW.nil ?_
        refine PQ.round ((k.1 + 1, V.splice k.2 (0 + k.1 * 2) [str [111, 118, 101, 114], str []])) ⟨by simp only; omega, by simp only; rw [V.length_splice]; exact hk2⟩ (by simp only; omega) (by repeat (first | exact trivial | refine ⟨rfl, ?_⟩)) (by repeat (first | exact .nil | apply Pick.cons | exact .here | apply Ext.there))
      · replace h8 := bF h8
        refine CW.exit ?_
        refine PQ.then_exit ?_
        refine PQ.then_exit ?_
        refine PQ.in_here ?_
        refine PQ.seq ?_
        refine CW.seq ?_
        refine CW.region ?_
        refine LW.v rfl rfl (Val.assign rfl) ?_
        refine LW.nil ?_
        refine PQ.seq ?_
        refine CW.block ?_
        refine CW.loop (γ := Nat × List Value) (fun k => [(1, .pointer (some ⟨b1, 0, none⟩)), (3, .int .i64 (k.1 : Nat))]) (fun k => [[(b1, .cells [.slice (some ⟨gb, 0, none⟩) l.length cap, .slice none 0 0].toArray 25 (0, 0))]]) (fun k => k.1 ≤ q.length) (fun k => q.length - k.1) ((0, [])) (Nat.zero_le _) (by repeat (first | exact trivial | refine ⟨rfl, ?_⟩)) (by repeat (first | exact .nil | apply Pick.cons | exact .here | apply Ext.there)) ?_
        intro k
        intro hk1
        refine CW.seq ?_
        refine CW.seq ?_
        refine CW.region ?_
        refine LW.v rfl rfl (Val.move rfl) ?_
        refine LW.v rfl rfl (Val.fieldAddr 1 rfl Try.underlying25 rfl rfl Try.sizeOf23) ?_
        refine LW.v rfl rfl (Val.load (v := .slice none 0 0) rfl Try.isAgg23 (by repeat (first | exact .here | exact .inner .here | exact .inner (.inner .here) | refine .there ?_)) (by rfl)) ?_
        refine LW.v rfl rfl (Val.lenSl rfl Try.underlying23) ?_
        refine LW.v rfl rfl (Val.cmp rfl rfl rfl) ?_
        refine LW.nil ?_
        refine PQ.seq ?_
        refine CW.cond rfl (fun h20 => ?_) (fun h20 => ?_)
        · exact absurd (bT h20) (by first | (simp; done) | omega)
        · replace h20 := bF h20
          refine CW.exit ?_
          refine PQ.then_exit ?_
          refine PQ.then_exit ?_
          refine PQ.in_here ?_
          refine PQ.end0 rfl ?_
          intro w' hw
          exact ⟨(), trivial, rfl, hw.pick .nil⟩
    · have hlq : pre.length + q.length ≤ (pre ++ q.flatMap stE ++ rest2).length := by simp only [List.length_append, V.flatMap_len stE_len]; omega
      refine V.calls [[(gb, .cells (l.flatMap prC ++ rest).toArray 45 (0, 0))], [(gq, .cells (pre ++ q.flatMap stE ++ rest2).toArray 9 (0, 0))]] Try.func17 rfl Try.ntmps17 (Nat.le_of_ble_eq_true rfl) (by simpa [ownG, ownS, offG] using (hs.pick (ss := [ownG 45 (l.flatMap prC) (some (gb, rest, cap)), offG 9 (q.flatMap stE) (some (gq, pre, rest2, cap2))]) (by repeat (first | exact .nil | apply Pick.cons | exact .here | apply Ext.there)))) ?_
      refine CW.re 0 (.agg [.slice (some ⟨gb, 0, none⟩) l.length cap, .slice (some ⟨gq, pre.length, none⟩) q.length cap2].toArray) rfl (by rfl) ?_
      refine CW.seq ?_
      refine CW.region ?_
      refine LW.e rfl rfl (Eff.boxA rfl) ?_
      intro b1 _
      refine LW.nil ?_
      refine PQ.seq ?_
      refine CW.seq ?_
      refine CW.seq ?_
      refine CW.region ?_
      refine LW.v rfl rfl (Val.assign rfl) ?_
      refine LW.nil ?_
      refine PQ.seq ?_
      refine CW.block ?_
      refine CW.loop (γ := Nat × List Value) (fun k => [(1, .pointer (some ⟨b1, 0, none⟩)), (2, .int .i64 (k.1 : Nat))]) (fun k => [[(b1, .cells [.slice (some ⟨gb, 0, none⟩) l.length cap, .slice (some ⟨gq, pre.length, none⟩) q.length cap2].toArray 25 (0, 0))], [(gb, .cells k.2.toArray 45 (0, 0))], [(gq, .cells (pre ++ q.flatMap stE ++ rest2).toArray 9 (0, 0))]]) (fun k => k.1 ≤ l.length ∧ k.2.length = (l.flatMap prC ++ rest).length) (fun k => l.length - k.1) ((0, (l.flatMap prC ++ rest))) ⟨Nat.zero_le _, rfl⟩ (by repeat (first | exact trivial | refine ⟨rfl, ?_⟩)) (by repeat (first | exact .nil | apply Pick.cons | exact .here | apply Ext.there)) ?_
      intro k
      rintro ⟨hk1, hk2⟩
      refine CW.seq ?_
      refine CW.seq ?_
      refine CW.region ?_
      refine LW.v rfl rfl (Val.move rfl) ?_
      refine LW.v rfl rfl (Val.fieldAddr 0 rfl Try.underlying25 rfl rfl Try.sizeOf22) ?_
      refine LW.v rfl rfl (Val.load (v := .slice (some ⟨gb, 0, none⟩) l.length cap) rfl Try.isAgg22 (by repeat (first | exact .here | exact .inner .here | exact .inner (.inner .here) | refine .there ?_)) (by rfl)) ?_
      refine LW.v rfl rfl (Val.lenSl rfl Try.underlying22) ?_
      refine LW.v rfl rfl (Val.cmp rfl rfl rfl) ?_
      refine LW.nil ?_
      refine PQ.seq ?_
      refine CW.cond rfl (fun h8 => ?_) (fun h8 => ?_)
      · replace h8 := bT h8
        have h8 : (k.1 : Int) < (l.length : Int) := h8
        refine CW.skip ?_
        refine PQ.seq ?_
        refine CW.seq ?_
        refine CW.block ?_
        refine CW.region ?_
        refine LW.v rfl rfl (Val.fieldAddr 0 rfl Try.underlying25 rfl rfl Try.sizeOf22) ?_
        refine LW.v rfl rfl (Val.load (v := .slice (some ⟨gb, 0, none⟩) l.length cap) rfl Try.isAgg22 (by repeat (first | exact .here | exact .inner .here | exact .inner (.inner .here) | refine .there ?_)) (by rfl)) ?_
        refine LW.v rfl rfl (Val.move rfl) ?_
        refine LW.v rfl rfl (Val.build [_, _] Try.zeroValue45 Try.underlying45 places45 rfl (by rfl)) ?_
        first | (refine LW.v rfl rfl (Val.indexAddrN rfl rfl Try.underlying22 Try.sizeOf45 (by omega)) ?_) | (refine LW.v rfl rfl (Val.indexAddr rfl rfl Try.underlying22 Try.sizeOf45 (by omega) (by omega)) ?_)
        refine LW.eN rfl (Eff.storeA (cs := [str [111, 118, 101, 114], str []]) (l := k.2) (l' := V.splice k.2 (0 + k.1 * 2) [str [111, 118, 101, 114], str []]) rfl rfl (by repeat (first | exact .here | exact .inner .here | exact .inner (.inner .here) | apply Upd.there)) rfl (by simp only [List.length_cons, List.length_nil]; omega) Try.sizeOf45 (by rfl)) ?_
        intro _ _
        refine LW.nil ?_
        refine PQ.in_normal ?_
        refine PQ.seq ?_
        refine CW.region ?_
        refine LW.v rfl rfl (Val.move rfl) ?_
        refine LW.v rfl rfl (Val.ar rfl rfl rfl (IntWalk.i64_in _ (by omega))) ?_
        refine LW.v rfl rfl (Val.assign rfl) ?_
        refine LW.nil ?_
        refine PQ.round ((k.1 + 1, V.splice k.2 (0 + k.1 * 2) [str [111, 118, 101, 114], str []])) ⟨by simp only; omega, by simp only; rw [V.length_splice]; exact hk2⟩ (by simp only; omega) (by repeat (first | exact trivial | refine ⟨rfl, ?_⟩)) (by repeat (first | exact .nil | apply Pick.cons | exact .here | apply Ext.there))
      · replace h8 := bF h8
        refine CW.exit ?_
        refine PQ.then_exit ?_
        refine PQ.then_exit ?_
        refine PQ.in_here ?_
        refine PQ.seq ?_
        refine CW.seq ?_
        refine CW.region ?_
        refine LW.v rfl rfl (Val.assign rfl) ?_
        refine LW.nil ?_
        refine PQ.seq ?_
        refine CW.block ?_
        refine CW.loop (γ := Nat × List Value) (fun k => [(1, .pointer (some ⟨b1, 0, none⟩)), (3, .int .i64 (k.1 : Nat))]) (fun k => [[(b1, .cells [.slice (some ⟨gb, 0, none⟩) l.length cap, .slice (some ⟨gq, pre.length, none⟩) q.length cap2].toArray 25 (0, 0))], [(gq, .cells k.2.toArray 9 (0, 0))]]) (fun k => k.1 ≤ q.length ∧ k.2.length = (pre ++ q.flatMap stE ++ rest2).length) (fun k => q.length - k.1) ((0, (pre ++ q.flatMap stE ++ rest2))) ⟨Nat.zero_le _, rfl⟩ (by repeat (first | exact trivial | refine ⟨rfl, ?_⟩)) (by repeat (first | exact .nil | apply Pick.cons | exact .here | apply Ext.there)) ?_
        intro k
        rintro ⟨hk1, hk2⟩
        refine CW.seq ?_
        refine CW.seq ?_
        refine CW.region ?_
        refine LW.v rfl rfl (Val.move rfl) ?_
        refine LW.v rfl rfl (Val.fieldAddr 1 rfl Try.underlying25 rfl rfl Try.sizeOf23) ?_
        refine LW.v rfl rfl (Val.load (v := .slice (some ⟨gq, pre.length, none⟩) q.length cap2) rfl Try.isAgg23 (by repeat (first | exact .here | exact .inner .here | exact .inner (.inner .here) | refine .there ?_)) (by rfl)) ?_
        refine LW.v rfl rfl (Val.lenSl rfl Try.underlying23) ?_
        refine LW.v rfl rfl (Val.cmp rfl rfl rfl) ?_
        refine LW.nil ?_
        refine PQ.seq ?_
        refine CW.cond rfl (fun h20 => ?_) (fun h20 => ?_)
        · replace h20 := bT h20
          have h20 : (k.1 : Int) < (q.length : Int) := h20
          refine CW.skip ?_
          refine PQ.seq ?_
          refine CW.seq ?_
          refine CW.block ?_
          refine CW.region ?_
          refine LW.v rfl rfl (Val.fieldAddr 1 rfl Try.underlying25 rfl rfl Try.sizeOf23) ?_
          refine LW.v rfl rfl (Val.load (v := .slice (some ⟨gq, pre.length, none⟩) q.length cap2) rfl Try.isAgg23 (by repeat (first | exact .here | exact .inner .here | exact .inner (.inner .here) | refine .there ?_)) (by rfl)) ?_
          refine LW.v rfl rfl (Val.move rfl) ?_
          first | (refine LW.v rfl rfl (Val.indexAddrN rfl rfl Try.underlying23 Try.sizeOf9 (by omega)) ?_) | (refine LW.v rfl rfl (Val.indexAddr rfl rfl Try.underlying23 Try.sizeOf9 (by omega) (by omega)) ?_)
          refine LW.eN rfl (Eff.storeX (l := k.2) (l' := k.2.set (pre.length + k.1 * 1) (str [111, 118, 101, 114])) rfl rfl rfl (by repeat (first | exact .here | exact .inner .here | exact .inner (.inner .here) | apply Upd.there)) rfl (by omega) Try.sizeOf9) ?_
          intro _ _
          refine LW.nil ?_
          refine PQ.in_normal ?_
          refine PQ.seq ?_
          refine CW.region ?_
          refine LW.v rfl rfl (Val.move rfl) ?_
          refine LW.v rfl rfl (Val.ar rfl rfl rfl (IntWalk.i64_in _ (by omega))) ?_
          refine LW.v rfl rfl (Val.assign rfl) ?_
          refine LW.nil ?_
          refine PQ.round ((k.1 + 1, k.2.set (pre.length + k.1 * 1) (str [111, 118, 101, 114]))) ⟨by simp only; omega, by simp only; rw [List.length_set]; exact hk2⟩ (by simp only; omega) (by repeat (first | exact trivial | refine ⟨rfl, ?_⟩)) (by repeat (first | exact .nil | apply Pick.cons | exact .here | apply Ext.there))
        · replace h20 := bF h20
          refine CW.exit ?_
          refine PQ.then_exit ?_
          refine PQ.then_exit ?_
          refine PQ.in_here ?_
          refine PQ.end0 rfl ?_
          intro w' hw
          exact ⟨(), trivial, rfl, hw.pick .nil⟩
end Go.Proofs.Ytipnpnkniihdjaa

/- Stores that good calls could make; the sign of life. -/
namespace Go.Proofs.Ytipnpnkniihdjaa
open Go Go.RowKit V
set_option linter.unusedVariables false
set_option maxRecDepth 100000
open V (str byC ownV ownG ownS ownOk)
def okP (x : Pr) : Bool := decide (gdF ⟨2, x.key, x.val⟩ = 0)
def okQ (v : List UInt8) : Bool := decide (v.length ≤ 400)
/-- A store that good calls could make. -/
def fairB (A : ShA) : Bool := mayB A.1 && A.1.all okP && A.2.all okQ
theorem all_take {α : Type} {p : α → Bool} {l : List α} {k : Nat} {x : α} (h : l[k]? = some x) : (l.take (k + 1)).all p = ((l.take k).all p && p x) := by rw [List.take_add_one, h, List.all_append]; simp
theorem fair_c (s : Sf) (A : ShA) (w : World) (hA : SfR w s A) (hl : A.1.length ≤ 1000 ∧ A.2.length ≤ 1000) : Calls Try.prog 7 [.agg s.cells.toArray].toArray w fun e w' => e = .returned (.bool (fairB A)) ∧ Below w.heap.size w w' := by
  have hA0 := hA
  obtain ⟨⟨pa, pn, pc⟩, ⟨qa, qn, qc⟩⟩ := s
  obtain ⟨l, q⟩ := A
  obtain ⟨⟨hn1, h1⟩, ⟨hn2, h2⟩, hcp, hcq⟩ := hA
  simp only at hn1 h1 hn2 h2 hcp hcq hl ⊢
  subst hn1; subst hn2
  refine V.calls [] Try.func7 rfl Try.ntmps7 (Nat.le_of_ble_eq_true rfl) (V.sat_nil _) ?_
  refine CW.seq ?_
  refine CW.region ?_
  refine LW.e rfl rfl (Eff.boxA rfl) ?_
  intro b1 _
  refine LW.v rfl rfl (Val.assign rfl) ?_
  refine LW.nil ?_
  refine PQ.seq ?_
  refine CW.seq ?_
  refine CW.region ?_
  first | (refine LW.v rfl rfl (Val.loadW rfl Try.isAgg25 (by repeat (first | exact .here | exact .inner .here | exact .inner (.inner .here) | refine .there ?_)) (by exact Try.sizeOf25)) ?_) | (refine LW.v rfl rfl (Val.loadA [_, _] rfl Try.isAgg25 (by repeat (first | exact .here | exact .inner .here | exact .inner (.inner .here) | refine .there ?_)) (by rfl) Try.sizeOf25) ?_)
  refine LW.e rfl rfl (Eff.callV rfl Try.call18 (fun w hw => may_c _ (l, q) w (hA0.hp hw (by simp [ids])) (by simp only; omega))) ?_
  intro _ _
  refine LW.v rfl rfl (Val.assign rfl) ?_
  refine LW.nil ?_
  refine PQ.seq ?_
  refine CW.seq ?_
  refine CW.seq ?_
  refine CW.region ?_
  refine LW.v rfl rfl (Val.assign rfl) ?_
  refine LW.nil ?_
  refine PQ.seq ?_
  refine CW.block ?_
  refine CW.loop (γ := Nat × Bool) (fun k => [(1, .pointer (some ⟨b1, 0, none⟩)), (3, .bool k.2), (4, .int .i64 (k.1 : Nat))]) (fun k => [[(b1, .cells [.slice pa l.length pc, .slice qa q.length qc].toArray 25 (0, 0))]]) (fun k => k.1 ≤ l.length ∧ k.2 = (mayB l && (l.take k.1).all okP)) (fun k => l.length - k.1) ((0, mayB l)) ⟨Nat.zero_le _, by simp⟩ (by repeat (first | exact trivial | refine ⟨rfl, ?_⟩)) (by repeat (first | exact .nil | apply Pick.cons | exact .here | apply Ext.there)) ?_
  intro k
  rintro ⟨hk1, hk2⟩
  refine CW.seq ?_
  refine CW.seq ?_
  refine CW.region ?_
  refine LW.v rfl rfl (Val.move rfl) ?_
  refine LW.v rfl rfl (Val.fieldAddr 0 rfl Try.underlying25 rfl rfl Try.sizeOf22) ?_
  refine LW.v rfl rfl (Val.load rfl Try.isAgg22 (by repeat (first | exact .here | exact .inner .here | exact .inner (.inner .here) | refine .there ?_)) (by rfl)) ?_
  refine LW.v rfl rfl (Val.lenSl rfl Try.underlying22) ?_
  refine LW.v rfl rfl (Val.cmp rfl rfl rfl) ?_
  refine LW.nil ?_
  refine PQ.seq ?_
  refine CW.cond rfl (fun h12 => ?_) (fun h12 => ?_)
  · replace h12 := bT h12
    obtain ⟨bb1, o1, x, rfl, hb1, hx1, hr1⟩ := V.slAt_at h1 rfl (k := k.1) (by omega)
    refine CW.skip ?_
    refine PQ.seq ?_
    refine CW.seq ?_
    refine CW.block ?_
    refine CW.quiet mixed (by kernel_rfl) ?_
    refine QW.v rfl rfl (Val.move rfl) ?_
    refine QW.v rfl rfl (Val.move rfl) ?_
    refine QW.split (d := 16) rfl (fun h16 => ?_) (fun h16 => ?_)
    · replace h16 := bT h16
      have h16 : k.2 = true := h16
      refine QW.v rfl rfl (Val.fieldAddr 0 rfl Try.underlying25 rfl rfl Try.sizeOf22) ?_
      refine QW.v rfl rfl (Val.load rfl Try.isAgg22 (by repeat (first | exact .here | exact .inner .here | exact .inner (.inner .here) | refine .there ?_)) (by rfl)) ?_
      refine QW.v rfl rfl (Val.move rfl) ?_
      first | (refine QW.v rfl rfl (Val.indexAddrN rfl rfl Try.underlying22 Try.sizeOf45 (by omega)) ?_) | (refine QW.v rfl rfl (Val.indexAddr rfl rfl Try.underlying22 Try.sizeOf45 (by omega) (by omega)) ?_)
      refine QW.v rfl rfl (Val.fieldAddr 0 rfl Try.underlying45 rfl rfl Try.sizeOf9) ?_
      refine QW.v rfl rfl (Val.loadO rfl Try.isAgg9 hb1 (by simp [ids]) (hr1 k.1 x hx1 0 _ rfl)) ?_
      refine QW.v rfl rfl (Val.fieldAddr 0 rfl Try.underlying25 rfl rfl Try.sizeOf22) ?_
      refine QW.v rfl rfl (Val.load rfl Try.isAgg22 (by repeat (first | exact .here | exact .inner .here | exact .inner (.inner .here) | refine .there ?_)) (by rfl)) ?_
      refine QW.v rfl rfl (Val.move rfl) ?_
      first | (refine QW.v rfl rfl (Val.indexAddrN rfl rfl Try.underlying22 Try.sizeOf45 (by omega)) ?_) | (refine QW.v rfl rfl (Val.indexAddr rfl rfl Try.underlying22 Try.sizeOf45 (by omega) (by omega)) ?_)
      refine QW.v rfl rfl (Val.fieldAddr 1 rfl Try.underlying45 rfl rfl Try.sizeOf9) ?_
      refine QW.v rfl rfl (Val.loadO rfl Try.isAgg9 hb1 (by simp [ids]) (hr1 k.1 x hx1 1 _ rfl)) ?_
      refine QW.v rfl rfl (Val.build (clC ⟨2, x.key, x.val⟩) Try.zeroValue38 Try.underlying38 places38 rfl (by rfl)) ?_
      refine QW.c rfl rfl (Qcall.of rfl Try.call19 (fun w hw => good_c ⟨2, x.key, x.val⟩ (.inl rfl) w)) ?_
      refine QW.v rfl rfl (Val.cmp rfl rfl rfl) ?_
      refine QW.re 31 (.bool (okP x)) rfl (by rfl) ?_
      refine QW.v rfl rfl (Val.pick_t rfl rfl) ?_
      refine QW.v rfl rfl (Val.assign rfl) ?_
      refine QW.nil ?_
      refine PQ.in_normal ?_
      refine PQ.seq ?_
      refine CW.region ?_
      refine LW.v rfl rfl (Val.move rfl) ?_
      refine LW.v rfl rfl (Val.ar rfl rfl rfl (IntWalk.i64_in _ (by omega))) ?_
      refine LW.v rfl rfl (Val.assign rfl) ?_
      refine LW.nil ?_
      refine PQ.round ((k.1 + 1, okP x)) ⟨by simp only; omega, by simp only; rw [all_take hx1, ← Bool.and_assoc, ← hk2, h16, Bool.true_and]⟩ (by simp only; omega) (by repeat (first | exact trivial | refine ⟨rfl, ?_⟩)) (by repeat (first | exact .nil | apply Pick.cons | exact .here | apply Ext.there))
    · replace h16 := bF h16
      have h16 : k.2 = false := h16
      refine QW.p rfl rfl ?_
      refine QW.p rfl rfl ?_
      refine QW.p rfl rfl ?_
      refine QW.p rfl rfl ?_
      refine QW.p rfl rfl ?_
      refine QW.p rfl rfl ?_
      refine QW.p rfl rfl ?_
      refine QW.p rfl rfl ?_
      refine QW.p rfl rfl ?_
      refine QW.p rfl rfl ?_
      refine QW.p rfl rfl ?_
      refine QW.p rfl rfl ?_
      refine QW.p rfl rfl ?_
      refine QW.p rfl rfl ?_
      refine QW.p rfl rfl ?_
      refine QW.v rfl rfl (Val.pick_f rfl rfl) ?_
      refine QW.v rfl rfl (Val.assign rfl) ?_
      refine QW.nil ?_
      refine PQ.in_normal ?_
      refine PQ.seq ?_
      refine CW.region ?_
      refine LW.v rfl rfl (Val.move rfl) ?_
      refine LW.v rfl rfl (Val.ar rfl rfl rfl (IntWalk.i64_in _ (by omega))) ?_
      refine LW.v rfl rfl (Val.assign rfl) ?_
      refine LW.nil ?_
      refine PQ.round ((k.1 + 1, false)) ⟨by simp only; omega, by simp only; rw [all_take hx1, ← Bool.and_assoc, ← hk2, h16, Bool.false_and]⟩ (by simp only; omega) (by repeat (first | exact trivial | refine ⟨rfl, ?_⟩)) (by repeat (first | exact .nil | apply Pick.cons | exact .here | apply Ext.there))
  · replace h12 := bF h12
    have hte : l.take k.1 = l := List.take_of_length_le (by omega)
    rw [hte] at hk2
    refine CW.exit ?_
    refine PQ.then_exit ?_
    refine PQ.then_exit ?_
    refine PQ.in_here ?_
    refine PQ.seq ?_
    refine CW.seq ?_
    refine CW.seq ?_
    refine CW.region ?_
    refine LW.v rfl rfl (Val.assign rfl) ?_
    refine LW.nil ?_
    refine PQ.seq ?_
    refine CW.block ?_
    refine CW.loop (γ := Nat × Bool) (fun k => [(1, .pointer (some ⟨b1, 0, none⟩)), (3, .bool k.2), (5, .int .i64 (k.1 : Nat))]) (fun k => [[(b1, .cells [.slice pa l.length pc, .slice qa q.length qc].toArray 25 (0, 0))]]) (fun k => k.1 ≤ q.length ∧ k.2 = (mayB l && l.all okP && (q.take k.1).all okQ)) (fun k => q.length - k.1) ((0, k.2)) ⟨Nat.zero_le _, by simpa using hk2⟩ (by repeat (first | exact trivial | refine ⟨rfl, ?_⟩)) (by repeat (first | exact .nil | apply Pick.cons | exact .here | apply Ext.there)) ?_
    intro j
    rintro ⟨hk1, hk2⟩
    refine CW.seq ?_
    refine CW.seq ?_
    refine CW.region ?_
    refine LW.v rfl rfl (Val.move rfl) ?_
    refine LW.v rfl rfl (Val.fieldAddr 1 rfl Try.underlying25 rfl rfl Try.sizeOf23) ?_
    refine LW.v rfl rfl (Val.load rfl Try.isAgg23 (by repeat (first | exact .here | exact .inner .here | exact .inner (.inner .here) | refine .there ?_)) (by rfl)) ?_
    refine LW.v rfl rfl (Val.lenSl rfl Try.underlying23) ?_
    refine LW.v rfl rfl (Val.cmp rfl rfl rfl) ?_
    refine LW.nil ?_
    refine PQ.seq ?_
    refine CW.cond rfl (fun h37 => ?_) (fun h37 => ?_)
    · replace h37 := bT h37
      obtain ⟨bb1, o1, x, rfl, hb1, hx1, hr1⟩ := V.slAt_at h2 rfl (k := j.1) (by omega)
      refine CW.skip ?_
      refine PQ.seq ?_
      refine CW.seq ?_
      refine CW.block ?_
      refine CW.region ?_
      refine LW.v rfl rfl (Val.move rfl) ?_
      refine LW.v rfl rfl (Val.move rfl) ?_
      refine LW.split (d := 41) rfl (fun h41 => ?_) (fun h41 => ?_)
      · replace h41 := bT h41
        have h41 : j.2 = true := h41
        refine LW.v rfl rfl (Val.fieldAddr 1 rfl Try.underlying25 rfl rfl Try.sizeOf23) ?_
        refine LW.v rfl rfl (Val.load rfl Try.isAgg23 (by repeat (first | exact .here | exact .inner .here | exact .inner (.inner .here) | refine .there ?_)) (by rfl)) ?_
        refine LW.v rfl rfl (Val.move rfl) ?_
        first | (refine LW.v rfl rfl (Val.indexAddrN rfl rfl Try.underlying23 Try.sizeOf9 (by omega)) ?_) | (refine LW.v rfl rfl (Val.indexAddr rfl rfl Try.underlying23 Try.sizeOf9 (by omega) (by omega)) ?_)
        refine LW.v rfl rfl (Val.loadO rfl Try.isAgg9 hb1 (by simp [ids]) (hr1 j.1 x hx1 0 _ rfl)) ?_
        refine LW.v rfl rfl (Val.lenStr rfl Try.underlying9) ?_
        refine LW.v rfl rfl (Val.cmp rfl rfl rfl) ?_
        refine LW.re 48 (.bool (okQ x)) rfl (by unfold okQ; congr 1; rw [decide_eq_decide]; omega) ?_
        refine LW.v rfl rfl (Val.pick_t rfl rfl) ?_
        refine LW.v rfl rfl (Val.assign rfl) ?_
        refine LW.nil ?_
        refine PQ.in_normal ?_
        refine PQ.seq ?_
        refine CW.region ?_
        refine LW.v rfl rfl (Val.move rfl) ?_
        refine LW.v rfl rfl (Val.ar rfl rfl rfl (IntWalk.i64_in _ (by omega))) ?_
        refine LW.v rfl rfl (Val.assign rfl) ?_
        refine LW.nil ?_
        refine PQ.round ((j.1 + 1, okQ x)) ⟨by simp only; omega, by simp only; rw [all_take hx1, ← Bool.and_assoc, ← hk2, h41, Bool.true_and]⟩ (by simp only; omega) (by repeat (first | exact trivial | refine ⟨rfl, ?_⟩)) (by repeat (first | exact .nil | apply Pick.cons | exact .here | apply Ext.there))
      · replace h41 := bF h41
        have h41 : j.2 = false := h41
        refine LW.p rfl rfl ?_
        refine LW.p rfl rfl ?_
        refine LW.p rfl rfl ?_
        refine LW.p rfl rfl ?_
        refine LW.p rfl rfl ?_
        refine LW.p rfl rfl ?_
        refine LW.p rfl rfl ?_
        refine LW.v rfl rfl (Val.pick_f rfl rfl) ?_
        refine LW.v rfl rfl (Val.assign rfl) ?_
        refine LW.nil ?_
        refine PQ.in_normal ?_
        refine PQ.seq ?_
        refine CW.region ?_
        refine LW.v rfl rfl (Val.move rfl) ?_
        refine LW.v rfl rfl (Val.ar rfl rfl rfl (IntWalk.i64_in _ (by omega))) ?_
        refine LW.v rfl rfl (Val.assign rfl) ?_
        refine LW.nil ?_
        refine PQ.round ((j.1 + 1, false)) ⟨by simp only; omega, by simp only; rw [all_take hx1, ← Bool.and_assoc, ← hk2, h41, Bool.false_and]⟩ (by simp only; omega) (by repeat (first | exact trivial | refine ⟨rfl, ?_⟩)) (by repeat (first | exact .nil | apply Pick.cons | exact .here | apply Ext.there))
    · replace h37 := bF h37
      have hte : q.take j.1 = q := List.take_of_length_le (by omega)
      rw [hte] at hk2
      refine CW.exit ?_
      refine PQ.then_exit ?_
      refine PQ.then_exit ?_
      refine PQ.in_here ?_
      refine PQ.seq ?_
      refine CW.seq ?_
      refine CW.region ?_
      refine LW.v rfl rfl (Val.move rfl) ?_
      refine LW.v rfl rfl (Val.assign rfl) ?_
      refine LW.nil ?_
      refine PQ.seq ?_
      refine CW.ret ?_
      refine PQ.ret1 rfl rfl ?_
      intro w' hw; exact ⟨by rw [hk2]; rfl, hw.below⟩
end Go.Proofs.Ytipnpnkniihdjaa

/- The sign of life. -/
namespace Go.Proofs.Ytipnpnkniihdjaa
open Go Go.RowKit V
set_option linter.unusedVariables false
set_option maxRecDepth 100000
open V (str byC ownV ownG ownS ownOk)
def awA : ShA := ([⟨[97], [49]⟩, ⟨[98], [50]⟩], [[120], [121]])
def awB : ShA := ([⟨[98], [51]⟩, ⟨[99], [52]⟩], [[121], [122]])
theorem aw_diff : diffF awA awB = [⟨3, [97], []⟩, ⟨2, [98], [51]⟩, ⟨2, [99], [52]⟩, ⟨5, [], []⟩, ⟨4, [], [122]⟩] := by decide +kernel
theorem awake_c (w : World) : Calls Try.prog 8 [].toArray w fun e w' => e = .returned (.bool true) ∧ Below w.heap.size w w' := by
  refine V.calls [] Try.func8 rfl Try.ntmps8 (Nat.le_of_ble_eq_true rfl) (V.sat_nil _) ?_
  refine CW.seq ?_
  refine CW.region ?_
  refine LW.v rfl rfl (Val.assign rfl) ?_
  refine LW.nil ?_
  refine PQ.seq ?_
  refine CW.seq ?_
  refine CW.region ?_
  refine LW.v rfl rfl (Val.build [_, _] Try.zeroValue45 Try.underlying45 places45 rfl (by rfl)) ?_
  refine LW.v rfl rfl (Val.build [_, _] Try.zeroValue45 Try.underlying45 places45 rfl (by rfl)) ?_
  refine LW.e rfl rfl (Eff.buildSlice (rfl) [_, _, _, _] Try.underlying22 Try.sizeOf45 (by exact Try.zeroValue45) rfl rfl rfl rfl (by rfl)) ?_
  intro b6 _
  refine LW.e rfl rfl (Eff.buildSlice (rfl) [_, _] Try.underlying23 Try.sizeOf9 (by exact Try.zeroValue9) rfl rfl rfl rfl (by rfl)) ?_
  intro b7 _
  refine LW.v rfl rfl (Val.build [_, _] Try.zeroValue25 Try.underlying25 places25 rfl (by rfl)) ?_
  refine LW.e rfl rfl (Eff.allocA (by exact Try.zeroValue25)) ?_
  intro b1 _
  first | (refine LW.eN rfl (Eff.storeW rfl rfl (by repeat (first | exact .here | exact .inner .here | exact .inner (.inner .here) | apply Upd.there)) (by rfl) Try.sizeOf25 (by rfl)) ?_) | (refine LW.eN rfl (Eff.storeA (l' := _) rfl rfl (by repeat (first | exact .here | exact .inner .here | exact .inner (.inner .here) | apply Upd.there)) (by rfl) (by decide) Try.sizeOf25 (by rfl)) ?_)
  intro _ _
  refine LW.nil ?_
  refine PQ.seq ?_
  refine CW.seq ?_
  refine CW.region ?_
  refine LW.v rfl rfl (Val.build [_, _] Try.zeroValue45 Try.underlying45 places45 rfl (by rfl)) ?_
  refine LW.v rfl rfl (Val.build [_, _] Try.zeroValue45 Try.underlying45 places45 rfl (by rfl)) ?_
  refine LW.e rfl rfl (Eff.buildSlice (rfl) [_, _, _, _] Try.underlying22 Try.sizeOf45 (by exact Try.zeroValue45) rfl rfl rfl rfl (by rfl)) ?_
  intro b11 _
  refine LW.e rfl rfl (Eff.buildSlice (rfl) [_, _] Try.underlying23 Try.sizeOf9 (by exact Try.zeroValue9) rfl rfl rfl rfl (by rfl)) ?_
  intro b12 _
  refine LW.v rfl rfl (Val.build [_, _] Try.zeroValue25 Try.underlying25 places25 rfl (by rfl)) ?_
  refine LW.e rfl rfl (Eff.allocA (by exact Try.zeroValue25)) ?_
  intro b2 _
  first | (refine LW.eN rfl (Eff.storeW rfl rfl (by repeat (first | exact .here | exact .inner .here | exact .inner (.inner .here) | apply Upd.there)) (by rfl) Try.sizeOf25 (by rfl)) ?_) | (refine LW.eN rfl (Eff.storeA (l' := _) rfl rfl (by repeat (first | exact .here | exact .inner .here | exact .inner (.inner .here) | apply Upd.there)) (by rfl) (by decide) Try.sizeOf25 (by rfl)) ?_)
  intro _ _
  refine LW.nil ?_
  refine PQ.seq ?_
  refine CW.seq ?_
  refine CW.region ?_
  first | (refine LW.v rfl rfl (Val.loadW rfl Try.isAgg25 (by repeat (first | exact .here | exact .inner .here | exact .inner (.inner .here) | refine .there ?_)) (by exact Try.sizeOf25)) ?_) | (refine LW.v rfl rfl (Val.loadA [_, _] rfl Try.isAgg25 (by repeat (first | exact .here | exact .inner .here | exact .inner (.inner .here) | refine .there ?_)) (by rfl) Try.sizeOf25) ?_)
  first | (refine LW.v rfl rfl (Val.loadW rfl Try.isAgg25 (by repeat (first | exact .here | exact .inner .here | exact .inner (.inner .here) | refine .there ?_)) (by exact Try.sizeOf25)) ?_) | (refine LW.v rfl rfl (Val.loadA [_, _] rfl Try.isAgg25 (by repeat (first | exact .here | exact .inner .here | exact .inner (.inner .here) | refine .there ?_)) (by rfl) Try.sizeOf25) ?_)
  refine LW.e rfl rfl (Eff.callM ([]) .nil rfl Try.call9 (fun w hw hs0 => diff_c ⟨⟨some ⟨b6, 0, none⟩, 2, 2⟩, ⟨some ⟨b7, 0, none⟩, 2, 2⟩⟩ ⟨⟨some ⟨b11, 0, none⟩, 2, 2⟩, ⟨some ⟨b12, 0, none⟩, 2, 2⟩⟩ awA awB w ⟨⟨rfl, V.slAt_flat (r := []) hw prC_len (by rfl) (show InS (b6, .cells ((awA.1).flatMap prC ++ []).toArray 45 (0, 0)) _ from (by repeat (first | exact .here | exact .inner .here | exact .inner (.inner .here) | refine .there ?_)))⟩, ⟨rfl, V.slAt_flat (r := []) hw stE_len (by rfl) (show InS (b7, .cells ((awA.2).flatMap stE ++ []).toArray 9 (0, 0)) _ from (by repeat (first | exact .here | exact .inner .here | exact .inner (.inner .here) | refine .there ?_)))⟩, Nat.le_refl 2, Nat.le_refl 2⟩ ⟨⟨rfl, V.slAt_flat (r := []) hw prC_len (by rfl) (show InS (b11, .cells ((awB.1).flatMap prC ++ []).toArray 45 (0, 0)) _ from (by repeat (first | exact .here | exact .inner .here | exact .inner (.inner .here) | refine .there ?_)))⟩, ⟨rfl, V.slAt_flat (r := []) hw stE_len (by rfl) (show InS (b12, .cells ((awB.2).flatMap stE ++ []).toArray 9 (0, 0)) _ from (by repeat (first | exact .here | exact .inner .here | exact .inner (.inner .here) | refine .there ?_)))⟩, Nat.le_refl 2, Nat.le_refl 2⟩ (by decide))) ?_
  intro o ho
  rw [aw_diff] at ho ⊢
  obtain ⟨⟨gb, rest, cap⟩, rfl⟩ := own_some ho (by decide)
  refine LW.re 16 (.slice (some ⟨gb, 0, none⟩) 5 cap) rfl (by rfl) ?_
  refine LW.v rfl rfl (Val.assign rfl) ?_
  refine LW.nil ?_
  refine PQ.seq ?_
  refine CW.seq ?_
  refine CW.region ?_
  refine LW.v rfl rfl (Val.move rfl) ?_
  refine LW.v rfl rfl (Val.lenSl rfl Try.underlying28) ?_
  refine LW.v rfl rfl (Val.cmp rfl rfl rfl) ?_
  refine LW.re 19 (.bool true) rfl (by rfl) ?_
  refine LW.v rfl rfl (Val.move rfl) ?_
  refine LW.v rfl rfl (Val.move rfl) ?_
  first | (refine LW.v rfl rfl (Val.indexAddrN rfl rfl Try.underlying28 Try.sizeOf38 (by omega)) ?_) | (refine LW.v rfl rfl (Val.indexAddr rfl rfl Try.underlying28 Try.sizeOf38 (by omega) (by omega)) ?_)
  refine LW.v rfl rfl (Val.fieldAddr 0 rfl Try.underlying38 rfl rfl Try.sizeOf3) ?_
  refine LW.v rfl rfl (Val.load rfl Try.isAgg3 (by repeat (first | exact .here | exact .inner .here | exact .inner (.inner .here) | refine .there ?_)) (by rfl)) ?_
  refine LW.v rfl rfl (Val.cmp rfl rfl rfl) ?_
  refine LW.re 25 (.bool true) rfl (by rfl) ?_
  refine LW.v rfl rfl (Val.pick_t rfl rfl) ?_
  refine LW.v rfl rfl (Val.move rfl) ?_
  refine LW.v rfl rfl (Val.move rfl) ?_
  first | (refine LW.v rfl rfl (Val.indexAddrN rfl rfl Try.underlying28 Try.sizeOf38 (by omega)) ?_) | (refine LW.v rfl rfl (Val.indexAddr rfl rfl Try.underlying28 Try.sizeOf38 (by omega) (by omega)) ?_)
  refine LW.v rfl rfl (Val.fieldAddr 2 rfl Try.underlying38 rfl rfl Try.sizeOf9) ?_
  refine LW.v rfl rfl (Val.load rfl Try.isAgg9 (by repeat (first | exact .here | exact .inner .here | exact .inner (.inner .here) | refine .there ?_)) (by rfl)) ?_
  refine LW.v rfl rfl (Val.eqStr rfl rfl) ?_
  refine LW.re 32 (.bool true) rfl (by rfl) ?_
  refine LW.v rfl rfl (Val.pick_t rfl rfl) ?_
  refine LW.v rfl rfl (Val.move rfl) ?_
  refine LW.v rfl rfl (Val.move rfl) ?_
  first | (refine LW.v rfl rfl (Val.indexAddrN rfl rfl Try.underlying28 Try.sizeOf38 (by omega)) ?_) | (refine LW.v rfl rfl (Val.indexAddr rfl rfl Try.underlying28 Try.sizeOf38 (by omega) (by omega)) ?_)
  refine LW.v rfl rfl (Val.fieldAddr 1 rfl Try.underlying38 rfl rfl Try.sizeOf9) ?_
  refine LW.v rfl rfl (Val.load rfl Try.isAgg9 (by repeat (first | exact .here | exact .inner .here | exact .inner (.inner .here) | refine .there ?_)) (by rfl)) ?_
  refine LW.v rfl rfl (Val.eqStr rfl rfl) ?_
  refine LW.re 39 (.bool true) rfl (by rfl) ?_
  refine LW.v rfl rfl (Val.pick_t rfl rfl) ?_
  refine LW.v rfl rfl (Val.move rfl) ?_
  refine LW.v rfl rfl (Val.move rfl) ?_
  first | (refine LW.v rfl rfl (Val.indexAddrN rfl rfl Try.underlying28 Try.sizeOf38 (by omega)) ?_) | (refine LW.v rfl rfl (Val.indexAddr rfl rfl Try.underlying28 Try.sizeOf38 (by omega) (by omega)) ?_)
  refine LW.v rfl rfl (Val.fieldAddr 0 rfl Try.underlying38 rfl rfl Try.sizeOf3) ?_
  refine LW.v rfl rfl (Val.load rfl Try.isAgg3 (by repeat (first | exact .here | exact .inner .here | exact .inner (.inner .here) | refine .there ?_)) (by rfl)) ?_
  refine LW.v rfl rfl (Val.cmp rfl rfl rfl) ?_
  refine LW.re 46 (.bool true) rfl (by rfl) ?_
  refine LW.v rfl rfl (Val.pick_t rfl rfl) ?_
  refine LW.v rfl rfl (Val.move rfl) ?_
  refine LW.v rfl rfl (Val.move rfl) ?_
  first | (refine LW.v rfl rfl (Val.indexAddrN rfl rfl Try.underlying28 Try.sizeOf38 (by omega)) ?_) | (refine LW.v rfl rfl (Val.indexAddr rfl rfl Try.underlying28 Try.sizeOf38 (by omega) (by omega)) ?_)
  refine LW.v rfl rfl (Val.fieldAddr 2 rfl Try.underlying38 rfl rfl Try.sizeOf9) ?_
  refine LW.v rfl rfl (Val.load rfl Try.isAgg9 (by repeat (first | exact .here | exact .inner .here | exact .inner (.inner .here) | refine .there ?_)) (by rfl)) ?_
  refine LW.v rfl rfl (Val.eqStr rfl rfl) ?_
  refine LW.re 53 (.bool true) rfl (by rfl) ?_
  refine LW.v rfl rfl (Val.pick_t rfl rfl) ?_
  refine LW.v rfl rfl (Val.assign rfl) ?_
  refine LW.nil ?_
  refine PQ.seq ?_
  refine CW.ret ?_
  refine PQ.ret1 rfl rfl ?_
  intro w' hw; exact ⟨by rfl, hw.below⟩
end Go.Proofs.Ytipnpnkniihdjaa

/- What makes a store another one, by itself. -/
namespace Go.Proofs.Ytipnpnkniihdjaa
open Go Go.RowKit V
set_option linter.unusedVariables false
set_option maxRecDepth 100000
/-- Each call is good, and turns the store; the last one leaves T. -/
inductive Steps : ShA → List Cl → ShA → Prop
  | nil {S : ShA} : Steps S [] S
  | cons {S T : ShA} {c : Cl} {L : List Cl} (hg : gdF c = 0) (hn : doF S c ≠ S) (h : Steps (doF S c) L T) : Steps S (c :: L) T
theorem ap_good {S : ShA} {c : Cl} (h : gdF c = 0) : apF S c = doF S c := by unfold apF; rw [if_pos h]
theorem Steps.pat {S T : ShA} {L : List Cl} (h : Steps S L T) : patF S L = T := by
  induction h with
  | nil => rfl
  | cons hg _ _ ih => unfold patF at ih ⊢; rw [List.foldl_cons, ap_good hg]; exact ih
theorem Steps.at {S T : ShA} {L : List Cl} (h : Steps S L T) : ∀ (j : Nat) (c : Cl), L[j]? = some c → gdF c = 0 ∧ apF (patF S (L.take j)) c ≠ patF S (L.take j) := by
  induction h with
  | nil => intro j c hc; simp at hc
  | cons hg hn _ ih =>
    intro j c hc
    cases j with
    | zero => simp at hc; subst hc; exact ⟨hg, by rw [ap_good hg]; exact hn⟩
    | succ j =>
      have h1 := ih j c (by simpa using hc)
      unfold patF at h1 ⊢
      rw [List.take_succ_cons, List.foldl_cons, ap_good hg]
      exact h1
theorem Steps.app {S M T : ShA} {L K : List Cl} (h : Steps S L M) (h2 : Steps M K T) : Steps S (L ++ K) T := by
  induction h with
  | nil => exact h2
  | cons hg hn _ ih => exact .cons hg hn (ih h2)
abbrev Srt (l : List Pr) : Prop := l.Pairwise fun x y => x.key < y.key
theorem srt_of : ∀ {l : List Pr}, mayB l = true → Srt l
  | [], _ => .nil
  | [_], _ => List.pairwise_singleton _ _
  | x :: y :: r, h => by
    simp only [mayB, Bool.and_eq_true, decide_eq_true_eq] at h
    have h1 := srt_of h.2
    refine List.pairwise_cons.2 ⟨fun z hz => ?_, h1⟩
    rcases List.mem_cons.1 hz with rfl | hz
    · exact h.1
    · exact List.lt_trans h.1 ((List.pairwise_cons.1 h1).1 z hz)
theorem srt_pre {p r : List Pr} {x : Pr} (h : Srt (p ++ x :: r)) : (∀ z ∈ p, z.key < x.key) ∧ (∀ z ∈ r, x.key < z.key) := by
  obtain ⟨h1, h2, h3⟩ := List.pairwise_append.1 h
  exact ⟨fun z hz => h3 z hz x (by simp), fun z hz => (List.pairwise_cons.1 h2).1 z hz⟩
theorem srt_rm {p r : List Pr} {x : Pr} (h : Srt (p ++ x :: r)) : Srt (p ++ r) := h.sublist (List.Sublist.append_left (List.sublist_cons_self x r) p)
theorem getF_app {p r : List Pr} {k : List UInt8} (h : ∀ z ∈ p, z.key ≠ k) : getF (p ++ r) k = getF r k := by
  induction p with
  | nil => rfl
  | cons a p ih => rw [List.cons_append, getF, if_neg (h a (by simp)), ih fun z hz => h z (by simp [hz])]
theorem repF_app {p r : List Pr} {k v : List UInt8} (h : ∀ z ∈ p, z.key ≠ k) : repF k v (p ++ r) = p ++ repF k v r := by
  induction p with
  | nil => rfl
  | cons a p ih => rw [List.cons_append, repF, if_neg (h a (by simp)), ih fun z hz => h z (by simp [hz])]; rfl
theorem insF_app {p r : List Pr} {k v : List UInt8} (h : ∀ z ∈ p, z.key < k) : insF k v (p ++ r) = p ++ insF k v r := by
  induction p with
  | nil => rfl
  | cons a p ih => rw [List.cons_append, insF, if_neg (List.lt_asymm (h a (by simp))), ih fun z hz => h z (by simp [hz])]; rfl
theorem lt_ne {a b : List UInt8} (h : a < b) : a ≠ b := fun e => by subst e; exact List.lt_irrefl _ h
theorem ne_all {l : List Pr} {k : List UInt8} (h : ∀ z ∈ l, z.key ≠ k) : getF l k = none := by
  induction l with
  | nil => rfl
  | cons a r ih => rw [getF, if_neg (h a (by simp)), ih fun z hz => h z (by simp [hz])]
theorem delF_ne {l : List Pr} {k : List UInt8} (h : ∀ z ∈ l, z.key ≠ k) : delF l k = l := by
  unfold delF
  exact List.filter_eq_self.2 fun z hz => by simp [h z hz]
theorem del_mid {p r : List Pr} {x : Pr} (h : Srt (p ++ x :: r)) : delF (p ++ x :: r) x.key = p ++ r := by
  obtain ⟨h1, h2⟩ := srt_pre h
  have e1 : delF (p ++ x :: r) x.key = delF p x.key ++ delF (x :: r) x.key := by unfold delF; rw [List.filter_append]
  have e2 : delF (x :: r) x.key = delF r x.key := by unfold delF; rw [List.filter_cons_of_neg (by simp)]
  rw [e1, e2, delF_ne fun z hz => lt_ne (h1 z hz), delF_ne fun z hz => (lt_ne (h2 z hz)).symm]
theorem put_mid {p r : List Pr} {x y : Pr} (h : Srt (p ++ x :: r)) (hk : x.key = y.key) : putF (p ++ x :: r) y.key y.val = p ++ y :: r := by
  obtain ⟨h1, _⟩ := srt_pre h
  have hne : ∀ z ∈ p, z.key ≠ y.key := fun z hz => by rw [← hk]; exact lt_ne (h1 z hz)
  unfold putF
  rw [getF_app hne, getF, if_pos hk]
  simp only [Option.isSome_some, if_true]
  rw [repF_app hne, repF, if_pos hk, hk]
theorem put_new {p r : List Pr} {y : Pr} (h1 : ∀ z ∈ p, z.key < y.key) (h2 : ∀ z ∈ r, y.key < z.key) : putF (p ++ r) y.key y.val = p ++ y :: r := by
  unfold putF
  rw [getF_app fun z hz => lt_ne (h1 z hz), ne_all fun z hz => (lt_ne (h2 z hz)).symm]
  simp only [Option.isSome_none, Bool.false_eq_true, if_false]
  rw [insF_app h1]
  cases r with
  | nil => rfl
  | cons a r => rw [insF, if_pos (h2 a (by simp))]
theorem srt_ins {p r : List Pr} {y : Pr} (h : Srt (p ++ r)) (h1 : ∀ z ∈ p, z.key < y.key) (h2 : ∀ z ∈ r, y.key < z.key) : Srt (p ++ y :: r) := by
  obtain ⟨h3, h4, h5⟩ := List.pairwise_append.1 h
  refine List.pairwise_append.2 ⟨h3, List.pairwise_cons.2 ⟨h2, h4⟩, fun a ha b hb => ?_⟩
  rcases List.mem_cons.1 hb with rfl | hb
  · exact h1 a ha
  · exact h5 a ha b hb
theorem gd_put {y : Pr} (h : okP y = true) : gdF (putC y) = 0 := by unfold okP at h; exact of_decide_eq_true h
theorem gd_del {y : Pr} (h : okP y = true) : gdF (delC y) = 0 := by
  have h1 : gdF ⟨2, y.key, y.val⟩ = 0 := of_decide_eq_true h
  unfold gdF shB loB at h1
  unfold gdF shB loB delC
  by_cases hk : y.key = []
  · simp [hk] at h1
  · by_cases hl : 16 < y.key.length
    · simp [hk, hl] at h1
    · simp [hk, hl]
theorem pairs_steps (q : List (List UInt8)) : ∀ (n : Nat) (a b p : List Pr), a.length + b.length = n → Srt (p ++ a) → Srt (p ++ b) → (∀ x ∈ a, okP x = true) → (∀ x ∈ b, okP x = true) → Steps (p ++ a, q) (dgo a b) (p ++ b, q) := by
  intro n
  induction n using Nat.strongRecOn with
  | _ n ih =>
    intro a b p hn ha hb ga gb
    have hdel : ∀ (x : Pr) (r : List Pr), a = x :: r → Steps (p ++ r, q) (dgo r b) (p ++ b, q) → Steps (p ++ a, q) (delC x :: dgo r b) (p ++ b, q) := fun x r e h => by
      subst e
      have e2 : doF (p ++ x :: r, q) (delC x) = (p ++ r, q) := by
        show (delF (p ++ x :: r) x.key, q) = _
        rw [del_mid ha]
      refine .cons (gd_del (ga x (by simp))) ?_ (by rw [e2]; exact h)
      rw [e2]
      intro e3
      have := congrArg (fun s : ShA => s.1.length) e3
      simp at this
    match a, b, hn, ha, hb, ga, gb, hdel with
    | [], [], _, _, _, _, _, _ => rw [dgo]; exact .nil
    | x :: r, [], hn, ha, hb, ga, gb, hdel =>
      rw [dgo]
      exact hdel x r rfl (ih (r.length + 0) (by simp at hn ⊢; omega) r [] p (by simp) (srt_rm ha) hb (fun z hz => ga z (by simp [hz])) gb)
    | [], y :: s, hn, ha, hb, ga, gb, _ =>
      rw [dgo]
      obtain ⟨h1, h2⟩ := srt_pre hb
      have e2 : doF (p ++ [], q) (putC y) = (p ++ [y], q) := by
        show (putF (p ++ []) y.key y.val, q) = _
        rw [put_new h1 (by simp)]
      refine .cons (gd_put (gb y (by simp))) ?_ ?_
      · rw [e2]; intro e3; have := congrArg (fun s : ShA => s.1.length) e3; simp at this
      · rw [e2]
        have h8 := ih (0 + s.length) (by simp at hn ⊢; omega) [] s (p ++ [y]) (by simp) (by rw [List.append_nil]; exact srt_ins ha h1 (by simp)) (by simpa using hb) (by simp) (fun z hz => gb z (by simp [hz]))
        simpa using h8
    | x :: r, y :: s, hn, ha, hb, ga, gb, hdel =>
      obtain ⟨h1, h2⟩ := srt_pre ha
      obtain ⟨h3, h4⟩ := srt_pre hb
      rw [dgo]
      split
      · exact hdel x r rfl (ih (r.length + (y :: s).length) (by simp at hn ⊢; omega) r (y :: s) p rfl (srt_rm ha) hb (fun z hz => ga z (by simp [hz])) gb)
      · rename_i hlt
        split
        · rename_i he
          subst he
          have h8 := ih (r.length + s.length) (by simp at hn ⊢; omega) r s (p ++ [x]) rfl (by simpa using ha) (by simpa using hb) (fun z hz => ga z (by simp [hz])) (fun z hz => gb z (by simp [hz]))
          simpa using h8
        · rename_i hne
          split
          · rename_i hk
            have e2 : doF (p ++ x :: r, q) (putC y) = (p ++ y :: r, q) := by
              show (putF (p ++ x :: r) y.key y.val, q) = _
              rw [put_mid ha hk]
            refine .cons (gd_put (gb y (by simp))) ?_ ?_
            · rw [e2]; intro e3
              have h9 := (Prod.mk.inj e3).1
              have h9 := List.append_cancel_left h9
              exact hne (List.cons.inj h9).1.symm
            · rw [e2]
              have ha2 : Srt (p ++ y :: r) := srt_ins (srt_rm ha) (fun z hz => by rw [← hk]; exact h1 z hz) (fun z hz => by rw [← hk]; exact h2 z hz)
              have h8 := ih (r.length + s.length) (by simp at hn ⊢; omega) r s (p ++ [y]) rfl (by simpa using ha2) (by simpa using hb) (fun z hz => ga z (by simp [hz])) (fun z hz => gb z (by simp [hz]))
              simpa using h8
          · rename_i hk
            have hyx : y.key < x.key := by
              rcases List.le_total x.key y.key with h | h
              · exact absurd (List.le_antisymm h (List.not_lt.1 hlt)) hk
              · rcases Decidable.em (y.key < x.key) with h8 | h8
                · exact h8
                · exact absurd (List.le_antisymm (List.not_lt.1 h8) h) hk
            have h2' : ∀ z ∈ x :: r, y.key < z.key := fun z hz => by
              rcases List.mem_cons.1 hz with rfl | hz
              · exact hyx
              · exact List.lt_trans hyx (h2 z hz)
            have e2 : doF (p ++ x :: r, q) (putC y) = (p ++ y :: x :: r, q) := by
              show (putF (p ++ x :: r) y.key y.val, q) = _
              rw [put_new h3 h2']
            refine .cons (gd_put (gb y (by simp))) ?_ ?_
            · rw [e2]; intro e3; have := congrArg (fun s : ShA => s.1.length) e3; simp at this
            · rw [e2]
              have h8 := ih ((x :: r).length + s.length) (by simp at hn ⊢; omega) (x :: r) s (p ++ [y]) rfl (by simpa using srt_ins ha h3 h2') (by simpa using hb) ga (fun z hz => gb z (by simp [hz]))
              simpa using h8
theorem lnN_take : ∀ (a b : List (List UInt8)), a.drop (lnN a b) = b.take (a.length - lnN a b)
  | [], b => by simp [lnN]
  | x :: r, b => by
    simp only [lnN]
    split
    · rename_i h
      rw [List.drop_zero, Nat.sub_zero]
      exact h
    · rw [List.drop_succ_cons, lnN_take r b]
      simp
theorem deq_steps (l : List Pr) : ∀ (n : Nat) (q : List (List UInt8)), n ≤ q.length → Steps (l, q) (List.replicate n dqC) (l, q.drop n)
  | 0, q, _ => .nil
  | n + 1, q, h => by
    rw [List.replicate_succ]
    refine .cons (by decide) ?_ ?_
    · show (l, q.drop 1) ≠ (l, q)
      intro e
      have := congrArg (fun s : ShA => s.2.length) e
      simp at this
      omega
    · show Steps (l, q.drop 1) _ _
      have h8 := deq_steps l n (q.drop 1) (by simp; omega)
      rw [List.drop_drop] at h8
      rw [Nat.add_comm n 1]
      exact h8
theorem enq_steps (l : List Pr) : ∀ (r q : List (List UInt8)), (∀ v ∈ r, okQ v = true) → Steps (l, q) (r.map enC) (l, q ++ r)
  | [], q, _ => by simp; exact .nil
  | v :: r, q, h => by
    rw [List.map_cons]
    refine .cons ?_ ?_ ?_
    · have h1 := h v (by simp)
      unfold okQ at h1
      have h2 := of_decide_eq_true h1
      unfold gdF shB loB enC
      simp
      omega
    · show (l, q ++ [v]) ≠ (l, q)
      intro e
      have := congrArg (fun s : ShA => s.2.length) e
      simp at this
    · show Steps (l, q ++ [v]) _ _
      have h8 := enq_steps l r (q ++ [v]) (fun z hz => h z (by simp [hz]))
      simpa using h8
theorem diff_steps {A B : ShA} (hA : fairB A = true) (hB : fairB B = true) : Steps A (diffF A B) B := by
  obtain ⟨a, u⟩ := A
  obtain ⟨c, v⟩ := B
  unfold fairB at hA hB
  simp only [Bool.and_eq_true] at hA hB
  unfold diffF
  rw [if_pos ⟨hA.1.1, hB.1.1⟩]
  refine Steps.app (pairs_steps u _ a c [] rfl (srt_of hA.1.1) (srt_of hB.1.1) (List.all_eq_true.1 hA.1.2) (List.all_eq_true.1 hB.1.2)) ?_
  unfold lnF
  refine Steps.app (deq_steps c _ u (lnN_le u v)) ?_
  have h8 := enq_steps c (v.drop (u.length - lnN u v)) (u.drop (lnN u v)) (fun z hz => List.all_eq_true.1 hB.2 z (List.mem_of_mem_drop hz))
  rw [lnN_take, List.take_append_drop] at h8
  simp only [lnN_take]
  exact h8
theorem dgo_self : ∀ (a : List Pr), dgo a a = []
  | [] => by rw [dgo]
  | x :: r => by rw [dgo, if_neg (List.lt_irrefl _), if_pos rfl, dgo_self r]
theorem diff_self (A : ShA) : diffF A A = [] := by
  unfold diffF
  split
  · rw [dgo_self]
    unfold lnF
    have h : lnN A.2 A.2 = 0 := by
      cases A.2 with
      | nil => rfl
      | cons x r => rw [lnN, if_pos]; simp
    rw [h]
    simp
  · rfl
theorem diff_nil {A B : ShA} (hA : fairB A = true) (hB : fairB B = true) : diffF A B = [] ↔ A = B := by
  constructor
  · intro h
    have h1 := (diff_steps hA hB).pat
    rw [h] at h1
    exact h1
  · rintro rfl
    exact diff_self A
theorem dgo_k4 : ∀ (n : Nat) (a b : List Pr), a.length + b.length = n → (∀ c ∈ dgo a b, K4 c) ∧ (dgo a b).length ≤ n := by
  intro n
  induction n using Nat.strongRecOn with
  | _ n ih =>
    intro a b hn
    match a, b, hn with
    | [], [], _ => rw [dgo]; simp
    | x :: r, [], hn =>
      rw [dgo]
      obtain ⟨h1, h2⟩ := ih (r.length + 0) (by simp at hn ⊢; omega) r [] (by simp)
      exact ⟨fun c hc => by rcases List.mem_cons.1 hc with rfl | hc; exact .inr (.inl rfl); exact h1 c hc, by simp at hn ⊢; omega⟩
    | [], y :: s, hn =>
      rw [dgo]
      obtain ⟨h1, h2⟩ := ih (0 + s.length) (by simp at hn ⊢; omega) [] s (by simp)
      exact ⟨fun c hc => by rcases List.mem_cons.1 hc with rfl | hc; exact .inl rfl; exact h1 c hc, by simp at hn ⊢; omega⟩
    | x :: r, y :: s, hn =>
      rw [dgo]
      split
      · obtain ⟨h1, h2⟩ := ih (r.length + (y :: s).length) (by simp at hn ⊢; omega) r (y :: s) rfl
        exact ⟨fun c hc => by rcases List.mem_cons.1 hc with rfl | hc; exact .inr (.inl rfl); exact h1 c hc, by simp at hn h2 ⊢; omega⟩
      · split
        · obtain ⟨h1, h2⟩ := ih (r.length + s.length) (by simp at hn ⊢; omega) r s rfl
          exact ⟨h1, by simp at hn ⊢; omega⟩
        · split
          · obtain ⟨h1, h2⟩ := ih (r.length + s.length) (by simp at hn ⊢; omega) r s rfl
            exact ⟨fun c hc => by rcases List.mem_cons.1 hc with rfl | hc; exact .inl rfl; exact h1 c hc, by simp at hn ⊢; omega⟩
          · obtain ⟨h1, h2⟩ := ih ((x :: r).length + s.length) (by simp at hn ⊢; omega) (x :: r) s rfl
            exact ⟨fun c hc => by rcases List.mem_cons.1 hc with rfl | hc; exact .inl rfl; exact h1 c hc, by simp at hn h2 ⊢; omega⟩
theorem diff_k4 (A B : ShA) : ∀ c ∈ diffF A B, K4 c := by
  unfold diffF
  split
  · intro c hc
    rcases List.mem_append.1 hc with hc | hc
    · exact (dgo_k4 _ A.1 B.1 rfl).1 c hc
    · unfold lnF at hc
      rcases List.mem_append.1 hc with hc | hc
      · rw [(List.mem_replicate.1 hc).2]; exact .inr (.inr (.inr rfl))
      · obtain ⟨v, _, rfl⟩ := List.mem_map.1 hc; exact .inr (.inr (.inl rfl))
  · simp
theorem diff_len (A B : ShA) : (diffF A B).length ≤ A.1.length + B.1.length + (A.2.length + B.2.length) := by
  unfold diffF
  split
  · have h1 := (dgo_k4 _ A.1 B.1 rfl).2
    have h2 := lnN_le A.2 B.2
    unfold lnF
    simp only [List.length_append, List.length_replicate, List.length_map, List.length_drop]
    omega
  · simp
end Go.Proofs.Ytipnpnkniihdjaa
