/- Words left, kinds by their names, calls read. -/
import Derived.Test.YtagliemeolngiaaDoorScP
import Derived.Lib.Hide
namespace Go.Proofs.YtagliemeolngiaaDoor
open Go Go.RowKit V
set_option linter.unusedVariables false
set_option maxRecDepth 100000
open V (str byC ownV ownG ownS ownOk)
theorem spl_len (c : UInt8) : ∀ s, (spl c s).length ≤ s.length + 1
  | [] => by simp [spl]
  | x :: r => by
    have ih := spl_len c r
    simp only [spl]
    split
    · simp; omega
    · split
      · simp
      · rename_i h; rw [h] at ih; simp at ih ⊢; omega
theorem wl_count {q : Bool × List UInt8} (h : QOk q) : (wl q).length ≤ 70001 := by
  unfold wl
  split
  · have := spl_len 32 q.2; unfold QOk at h; omega
  · simp
theorem wl_cons {q : Bool × List UInt8} (h : (wl q).isEmpty = false) : wl q = (wl q).headD [] :: wl (nxq q) := by
  rw [nxq_wl]
  cases hw : wl q with
  | nil => rw [hw] at h; cases h
  | cons a r => rfl
theorem wl_end {q : Bool × List UInt8} (h : (wl q).isEmpty = true) : wl q = [] ∧ nxq q = q := by
  have h1 : wl q = [] := List.isEmpty_iff.1 h
  refine ⟨h1, ?_⟩
  cases hq : q.1 with
  | false => unfold nxq; rw [hq]; rfl
  | true => have := (wl_hd hq).2; rw [h] at this; cases this
theorem rest_c (r m s : Nat) (q : Bool × List UInt8) (bad : Bool) (hq : QOk q) (w : World) (hs : Sat [rdS r m s q bad] w) : Calls Tryd.prog 49 [.pointer (some ⟨r, 0, none⟩)].toArray w fun e w' => ∃ y : V.OwnO × (Bool × List UInt8), (ownOk 1 (wl q).length (stC (wl q)) y.1 ∧ wl y.2 = [] ∧ QOk y.2) ∧ e = .returned (ownV (wl q).length y.1) ∧ Hp ⟨w, ids [rdS r m s q bad]⟩ [rdS r m s y.2 bad, ownG 9 (stC (wl q)) y.1] w' := by
  have hcnt := wl_count hq
  refine V.calls [rdS r m s q bad] Tryd.func49 rfl Tryd.ntmps49 (Nat.le_of_ble_eq_true rfl) hs ?_
  refine CW.seq ?_
  refine CW.region ?_
  refine LW.v rfl rfl (Val.assign rfl) ?_
  refine LW.nil ?_
  refine PQ.seq ?_
  refine CW.seq ?_
  refine CW.region ?_
  refine LW.v rfl rfl (Val.assign rfl) ?_
  refine LW.nil ?_
  refine PQ.seq ?_
  refine CW.seq ?_
  refine CW.seq ?_
  refine CW.region ?_
  refine LW.v rfl rfl (Val.move rfl) ?_
  refine LW.v rfl rfl (Val.nilCheck rfl) ?_
  refine LW.v rfl rfl (Val.fieldAddr 0 rfl Tryd.underlying87 rfl rfl Tryd.sizeOf84) ?_
  refine LW.v rfl rfl (Val.load rfl Tryd.isAgg84 (by repeat (first | exact .here | exact .inner .here | exact .inner (.inner .here) | refine .there ?_)) (by rfl)) ?_
  refine LW.e rfl rfl (Eff.callFM (f := 58) (caps := [.pointer (some ⟨m, 0, none⟩), .pointer (some ⟨s, 0, none⟩)]) ([rdS r m s q bad]) (by repeat (first | exact .nil | apply Pick.cons | exact .here | apply Ext.there)) rfl rfl Tryd.call58 (fun w hw hs0 => next_c r m s q bad hq w hs0)) ?_
  intro _ _
  refine LW.v rfl rfl (Val.move rfl) ?_
  refine LW.v rfl rfl (Val.extract rfl rfl) ?_
  refine LW.v rfl rfl (Val.extract rfl rfl) ?_
  refine LW.v rfl rfl (Val.assign rfl) ?_
  refine LW.v rfl rfl (Val.assign rfl) ?_
  refine LW.nil ?_
  refine PQ.seq ?_
  refine CW.block ?_
  refine V.CW.perm (sg' := [rdS r m s (nxq q) bad, ownG 9 (stC ([] : List (List UInt8))) none]) ?_ (.refl _)
  refine CW.loop (γ := Nat × V.OwnO × (Bool × List UInt8)) (fun k => [(0, .pointer (some ⟨r, 0, none⟩)), (3, ownV ((wl q).take k.1).length k.2.1), (4, str (((wl q).drop k.1).headD [])), (5, .bool (!((wl q).drop k.1).isEmpty))]) (fun k => [rdS r m s k.2.2 bad, ownG 9 (stC ((wl q).take k.1)) k.2.1]) (fun k => k.1 ≤ (wl q).length ∧ ownOk 1 ((wl q).take k.1).length (stC ((wl q).take k.1)) k.2.1 ∧ QOk k.2.2 ∧ wl k.2.2 = (wl q).drop (k.1 + 1)) (fun k => (wl q).length - k.1) ((0, none, nxq q)) ⟨Nat.zero_le _, ⟨rfl, rfl⟩, nxq_ok hq, by rw [nxq_wl]; simp⟩ (by repeat (first | exact trivial | refine ⟨rfl, ?_⟩)) (by repeat (first | exact .nil | apply Pick.cons | exact .here | apply Ext.there)) ?_
  intro k
  rintro ⟨hk1, hk2, hk3, hk4⟩
  refine CW.seq ?_
  refine CW.seq ?_
  refine CW.region ?_
  refine LW.v rfl rfl (Val.move rfl) ?_
  refine LW.nil ?_
  refine PQ.seq ?_
  refine CW.cond rfl (fun h14 => ?_) (fun h14 => ?_)
  · replace h14 := bT h14
    have hlt : k.1 < (wl q).length := by
      rcases Nat.lt_or_ge k.1 (wl q).length with h8 | h8
      · exact h8
      · rw [List.drop_eq_nil_iff.2 h8] at h14; cases h14
    obtain ⟨x, hx⟩ : ∃ x, (wl q)[k.1]? = some x := ⟨(wl q)[k.1]'hlt, by simp⟩
    have hdr : (wl q).drop k.1 = x :: (wl q).drop (k.1 + 1) := by
      rw [List.drop_eq_getElem_cons hlt]
      have := List.getElem?_eq_getElem hlt
      rw [hx] at this
      rw [Option.some.inj this]
    have htl : ((wl q).take k.1).length = k.1 := by rw [List.length_take, Nat.min_eq_left (by omega)]
    refine CW.re 4 (str x) rfl (by rw [hdr]; rfl) ?_
    refine CW.skip ?_
    refine PQ.seq ?_
    refine CW.seq ?_
    refine CW.block ?_
    refine CW.region ?_
    refine LW.v rfl rfl (Val.move rfl) ?_
    refine LW.v rfl rfl (Val.move rfl) ?_
    refine LW.e rfl rfl (Eff.buildSlice (rfl) [_] Tryd.underlying73 Tryd.sizeOf9 (by exact Tryd.zeroValue9) rfl rfl rfl rfl (by rfl)) ?_
    intro b25 _
    refine LW.e rfl rfl (Eff.appendAny (stC [x]) (sz := 1) (bytes := 16) (z := .string ⟨#[]⟩) (xs := stC ((wl q).take k.1)) (m0 := ((wl q).take k.1).length) (o := k.2.1) (m := 1) (pk := [ownG 9 (stC ((wl q).take k.1)) k.2.1]) rfl rfl Tryd.underlying73 (by kernel_rfl) rfl (by omega) (by repeat (first | exact .nil | apply Pick.cons | exact .here | apply Ext.there)) (by simp) hk2 rfl (fun hm0 => ⟨b25, 0, rfl, fun w hw => V.range_of_block (o := 0) (cs := stC [x]) (r := []) (hw.own _ (show InS (b25, .cells (stC [x]).toArray 9 (0, 0)) _ from (by repeat (first | exact .here | exact .inner .here | exact .inner (.inner .here) | refine .there ?_))).mem) rfl⟩) (stC_one _) (by omega) (by omega)) ?_
    intro o9 ho9
    refine LW.v rfl rfl (Val.assign rfl) ?_
    refine LW.nil ?_
    refine PQ.in_normal ?_
    refine PQ.seq ?_
    refine CW.region ?_
    refine LW.v rfl rfl (Val.move rfl) ?_
    refine LW.v rfl rfl (Val.nilCheck rfl) ?_
    refine LW.v rfl rfl (Val.fieldAddr 0 rfl Tryd.underlying87 rfl rfl Tryd.sizeOf84) ?_
    refine LW.v rfl rfl (Val.load rfl Tryd.isAgg84 (by repeat (first | exact .here | exact .inner .here | exact .inner (.inner .here) | refine .there ?_)) (by rfl)) ?_
    refine LW.e rfl rfl (Eff.callFM (f := 58) (caps := [.pointer (some ⟨m, 0, none⟩), .pointer (some ⟨s, 0, none⟩)]) ([rdS r m s k.2.2 bad]) (by repeat (first | exact .nil | apply Pick.cons | exact .here | apply Ext.there)) rfl rfl Tryd.call58 (fun w hw hs0 => next_c r m s k.2.2 bad hk3 w hs0)) ?_
    intro _ _
    refine LW.v rfl rfl (Val.move rfl) ?_
    refine LW.v rfl rfl (Val.extract rfl rfl) ?_
    refine LW.v rfl rfl (Val.extract rfl rfl) ?_
    refine LW.v rfl rfl (Val.assign rfl) ?_
    refine LW.v rfl rfl (Val.assign rfl) ?_
    refine LW.nil ?_
    have hT : (wl q).take (k.1 + 1) = (wl q).take k.1 ++ [x] := by rw [List.take_add_one, hx]; rfl
    refine PQ.segs (ss := [rdS r m s (nxq k.2.2) bad, ownG 9 (stC ((wl q).take k.1) ++ stC [x]) o9]) ?_ (by repeat (first | exact .nil | apply Pick.cons | exact .here | apply Ext.there))
    rw [← stC_append, ← hT]
    refine PQ.round ((k.1 + 1, o9, nxq k.2.2)) ⟨by simp only; omega, by simp only; rw [hT, stC_append, List.length_append]; exact ho9, nxq_ok hk3, by simp only; rw [nxq_wl, hk4]; simp⟩ (by simp only; omega) (by exact ⟨rfl, by simp only; rw [hT, List.length_append]; rfl, by simp only; rw [hk4]; rfl, by simp only; rw [hk4]; rfl, trivial⟩) (by repeat (first | exact .nil | apply Pick.cons | exact .here | apply Ext.there))
  · replace h14 := bF h14
    have hge : (wl q).length ≤ k.1 := by
      rcases Nat.lt_or_ge k.1 (wl q).length with h8 | h8
      · rw [List.drop_eq_getElem_cons h8] at h14; simp at h14; (try omega)
      · exact h8
    refine CW.exit ?_
    refine PQ.then_exit ?_
    refine PQ.then_exit ?_
    refine PQ.in_here ?_
    refine PQ.seq ?_
    refine CW.seq ?_
    refine CW.region ?_
    refine LW.v rfl rfl (Val.move rfl) ?_
    refine LW.v rfl rfl (Val.assign rfl) ?_
    refine LW.nil ?_
    refine PQ.seq ?_
    refine CW.ret ?_
    refine PQ.ret1 rfl rfl ?_
    intro w' hw
    have e1 : (wl q).take k.1 = wl q := List.take_of_length_le hge
    rw [e1] at hk2 hw
    exact ⟨(k.2.1, k.2.2), ⟨hk2, by simp only; rw [hk4]; exact List.drop_eq_nil_iff.2 (by omega), hk3⟩, by rw [e1], hw⟩
/-- The kind that is called so. -/
def kindF (w : List UInt8) : Int := if w = [103, 101, 116] then 1 else if w = [112, 117, 116] then 2 else if w = [100, 101, 108] then 3 else if w = [101, 110, 113] then 4 else if w = [100, 101, 113] then 5 else if w = [115, 99, 97, 110] then 6 else if w = [103, 114, 111, 117, 112] then 7 else if w = [115, 121, 110, 99] then 8 else 0
theorem kind_at {e : Nat × Int × Value} (he : e ∈ namesE) {w : List UInt8} (h : e.2.2 = str w) : kindF w = e.2.1 := by
  simp only [namesE, List.mem_cons, List.not_mem_nil, or_false] at he
  have hi : ∀ a b : List UInt8, str a = str b → a = b := fun a b h => V.str_inj.1 (by unfold str at h; injection h)
  rcases he with rfl | rfl | rfl | rfl | rfl | rfl | rfl | rfl <;> (have := hi _ _ h; subst this; rfl)
theorem kind_no {w : List UInt8} (h : ∀ e ∈ namesE, e.2.2 ≠ str w) : kindF w = 0 := by
  unfold kindF
  rw [if_neg (fun hw => h (0, 1, str [103, 101, 116]) (by simp [namesE]) (by rw [hw])), if_neg (fun hw => h (1, 2, str [112, 117, 116]) (by simp [namesE]) (by rw [hw])), if_neg (fun hw => h (2, 3, str [100, 101, 108]) (by simp [namesE]) (by rw [hw])), if_neg (fun hw => h (3, 4, str [101, 110, 113]) (by simp [namesE]) (by rw [hw])), if_neg (fun hw => h (4, 5, str [100, 101, 113]) (by simp [namesE]) (by rw [hw])), if_neg (fun hw => h (5, 6, str [115, 99, 97, 110]) (by simp [namesE]) (by rw [hw])), if_neg (fun hw => h (6, 7, str [103, 114, 111, 117, 112]) (by simp [namesE]) (by rw [hw])), if_neg (fun hw => h (7, 8, str [115, 121, 110, 99]) (by simp [namesE]) (by rw [hw]))]
theorem names_stp : V.IStp namesE 8 := ⟨by intro e he; simp only [namesE, List.mem_cons, List.not_mem_nil, or_false] at he; rcases he with rfl | rfl | rfl | rfl | rfl | rfl | rfl | rfl <;> decide, by decide⟩
theorem names_str {e : Nat × Int × Value} (he : e ∈ namesE) : ∃ l, e.2.2 = str l := by
  simp only [namesE, List.mem_cons, List.not_mem_nil, or_false] at he
  rcases he with rfl | rfl | rfl | rfl | rfl | rfl | rfl | rfl <;> exact ⟨_, rfl⟩
theorem kind_c (u : List UInt8) (w : World) : Calls Tryd.prog 80 [str u].toArray w fun e w' => e = .returned (.int .i64 (kindF u)) ∧ Below w.heap.size w w' := by
  refine V.calls [] Tryd.func80 rfl Tryd.ntmps80 (Nat.le_of_ble_eq_true rfl) (V.sat_nil _) ?_
  refine CW.seq ?_
  refine CW.region ?_
  refine LW.v rfl rfl (Val.assign rfl) ?_
  refine LW.nil ?_
  refine PQ.seq ?_
  refine CW.seq ?_
  refine CW.seq ?_
  refine CW.region ?_
  refine LW.e rfl rfl (Eff.callM ([]) .nil rfl Tryd.call66 (fun w hw hs => names_c w)) ?_
  intro bm _
  refine LW.e rfl rfl (Eff.irange rfl Tryd.underlying103 (by repeat (first | exact .here | exact .inner .here | exact .inner (.inner .here) | refine .there ?_))) ?_
  intro br _
  refine LW.nil ?_
  refine PQ.seq ?_
  refine CW.block ?_
  refine CW.loop (γ := V.MI) (fun D => [(0, str u), (6, .pointer (some ⟨br, 0, none⟩))]) (fun D => [[(br, V.iitO bm 8 D)], [(bm, V.imO namesE 8)]]) (fun D => V.IVis namesE D ∧ ∀ e ∈ D, e.2.2 ≠ str u) (fun D => namesE.length - D.length) ([]) ⟨V.IVis.nil _, by simp⟩ (by repeat (first | exact trivial | refine ⟨rfl, ?_⟩)) (by repeat (first | exact .nil | apply Pick.cons | exact .here | apply Ext.there)) ?_
  intro D
  rintro ⟨hD1, hD2⟩
  refine CW.seq ?_
  refine CW.region ?_
  refine LW.e rfl rfl (Eff.inext (E := namesE) (D := D) (c := 8) (sg' := fun e => [[(br, V.iitO bm 8 (D ++ [e]))], [(bm, V.imO namesE 8)]]) rfl (by repeat (first | exact .here | exact .inner .here | exact .inner (.inner .here) | refine .there ?_)) names_stp (fun e => .here)) ?_
  intro eo heo
  rcases eo with _ | e
  · try simp only at heo ⊢
    refine LW.v rfl rfl (Val.extract rfl rfl) ?_
    refine LW.nil ?_
    refine PQ.seq ?_
    refine CW.seq ?_
    refine CW.cond_f rfl ?_
    refine CW.exit ?_
    refine PQ.then_exit ?_
    refine PQ.then_exit ?_
    refine PQ.in_here ?_
    refine PQ.seq ?_
    refine CW.seq ?_
    refine CW.region ?_
    refine LW.v rfl rfl (Val.assign rfl) ?_
    refine LW.nil ?_
    refine PQ.seq ?_
    refine CW.ret ?_
    refine PQ.ret1 rfl rfl ?_
    intro w' hw
    have hp := hD1.perm (by decide) heo
    exact ⟨by rw [kind_no (w := u) (fun e he => hD2 e (hp.mem_iff.2 he))], hw.below⟩
  · obtain ⟨he, hen⟩ : e ∈ namesE ∧ e.1 ∉ D.map (·.1) := heo
    obtain ⟨le, hle⟩ := names_str he
    refine LW.v rfl rfl (Val.extract rfl rfl) ?_
    refine LW.nil ?_
    refine PQ.seq ?_
    refine CW.seq ?_
    refine CW.cond_t rfl ?_
    refine CW.skip ?_
    refine PQ.seq ?_
    refine CW.block ?_
    refine CW.seq ?_
    refine CW.region ?_
    refine LW.v rfl rfl (Val.ientry (D := D) (e := e) (E := namesE) rfl (by repeat (first | exact .here | exact .inner .here | exact .inner (.inner .here) | refine .there ?_)) (by repeat (first | exact .here | exact .inner .here | exact .inner (.inner .here) | refine .there ?_)) he (by decide)) ?_
    refine LW.v rfl rfl (Val.extract rfl rfl) ?_
    refine LW.v rfl rfl (Val.extract rfl rfl) ?_
    refine LW.re 11 (str le) rfl (by rw [hle]) ?_
    refine LW.v rfl rfl (Val.assign rfl) ?_
    refine LW.v rfl rfl (Val.assign rfl) ?_
    refine LW.nil ?_
    refine PQ.seq ?_
    refine CW.seq ?_
    refine CW.region ?_
    refine LW.v rfl rfl (Val.move rfl) ?_
    refine LW.v rfl rfl (Val.move rfl) ?_
    refine LW.v rfl rfl (Val.eqStr rfl rfl) ?_
    refine LW.nil ?_
    refine PQ.seq ?_
    refine CW.cond rfl (fun h14 => ?_) (fun h14 => ?_)
    · replace h14 := bT h14
      have hle2 : le = u := by simpa using h14
      refine CW.seq ?_
      refine CW.region ?_
      refine LW.v rfl rfl (Val.move rfl) ?_
      refine LW.v rfl rfl (Val.assign rfl) ?_
      refine LW.nil ?_
      refine PQ.seq ?_
      refine CW.ret ?_
      refine PQ.in_ret ?_
      refine PQ.then_ret ?_
      refine PQ.in_ret ?_
      refine PQ.then_ret ?_
      refine PQ.ret1 rfl rfl ?_
      intro w' hw
      exact ⟨by rw [kind_at he (w := u) (by rw [hle, hle2])], hw.below⟩
    · replace h14 := bF h14
      have hle2 : ¬ le = u := by simpa using h14
      refine CW.skip ?_
      refine PQ.in_normal ?_
      refine PQ.round (D ++ [e]) ⟨hD1.snoc he hen, fun e2 he2 => by
        rcases List.mem_append.1 he2 with h8 | h8
        · exact hD2 e2 h8
        · simp at h8; subst h8; rw [hle]; intro h9; exact hle2 (V.str_inj.1 (by unfold str at h9; injection h9))⟩ (by have := hD1.lt he hen; simp only [List.length_append, List.length_cons, List.length_nil]; omega) (by repeat (first | exact trivial | refine ⟨rfl, ?_⟩)) (by repeat (first | exact .nil | apply Pick.cons | exact .here | apply Ext.there))
end Go.Proofs.YtagliemeolngiaaDoor
