/- Calls read out of words. -/
import Derived.Test.YtagliemeolngiaaDoorScQ
import Derived.Lib.Hide
namespace Go.Proofs.YtagliemeolngiaaDoor
open Go Go.RowKit V
set_option linter.unusedVariables false
set_option maxRecDepth 100000
open V (str byC ownV ownG ownS ownOk)
theorem places41 : ∀ w, ((Array.mapM (fun (f : Field) => do pure (f.offset, ← sizeOf f.type)) (Tryd.prog.fieldsOf 41) : Sem (Array (Nat × Nat)))).run Tryd.prog w = .ok [(0, 1), (1, 1), (2, 1), (3, 1), (4, 1)].toArray w := by
  intro w; kernel_rfl
def nilSl : Sl := ⟨none, 0, 0⟩
def Cq.set (c : Cq) : Nat → List UInt8 → Cq
  | 1, x => ⟨c.ck, x, c.val, c.to, c.grp⟩
  | 2, x => ⟨c.ck, c.key, x, c.to, c.grp⟩
  | _, x => ⟨c.ck, c.key, c.val, x, c.grp⟩
theorem set_cells {c : Cq} {k : Int} {o : Nat} (h : o ∈ offs k) (x : List UInt8) : c.cells.set o (str x) = (c.set o x).cells := by
  rcases offs_mem h with rfl | rfl | rfl <;> rfl
theorem set_ck (c : Cq) (o : Nat) (x : List UInt8) : (c.set o x).ck = c.ck ∧ (c.set o x).grp = c.grp := by unfold Cq.set; split <;> exact ⟨rfl, rfl⟩
theorem set_small {c : Cq} {o : Nat} {x : List UInt8} (h : c.small) (hx : x.length ≤ 300000) : (c.set o x).small := by
  unfold Cq.small at *
  unfold Cq.set
  split <;> simp only <;> omega
/-- Words read as texts, at their places. -/
def pTexts : List Nat → Cq → List (List UInt8) → Option (Cq × List (List UInt8))
  | [], c, L => some (c, L)
  | _ :: _, _, [] => none
  | o :: os, c, w :: L => match textF w with
    | none => none
    | some x => pTexts os (c.set o x) L
def c0q (k : Int) : Cq := ⟨k, [], [], [], nilSl⟩
/-- A call that is no group. -/
def pSingle (nm : List UInt8) (L : List (List UInt8)) : Option (Cq × List (List UInt8)) := if kindF nm = 0 ∨ kindF nm = 7 then none else pTexts (offs (kindF nm)) (c0q (kindF nm)) L
theorem pTexts_len : ∀ {os : List Nat} {c : Cq} {L : List (List UInt8)} {c' : Cq} {L' : List (List UInt8)}, pTexts os c L = some (c', L') → L'.length ≤ L.length
  | [], c, L, c', L', h => by simp only [pTexts, Option.some.injEq, Prod.mk.injEq] at h; rw [h.2]; exact Nat.le_refl _
  | _ :: _, _, [], _, _, h => by simp [pTexts] at h
  | o :: os, c, w :: L, c', L', h => by
    simp only [pTexts] at h
    split at h
    · cases h
    · have := pTexts_len h; simp; omega
theorem pSingle_len {nm : List UInt8} {L : List (List UInt8)} {c' : Cq} {L' : List (List UInt8)} (h : pSingle nm L = some (c', L')) : L'.length ≤ L.length := by
  unfold pSingle at h
  split at h
  · cases h
  · exact pTexts_len h
/-- How reading on went: a fault stays; without one the words say what was read, and which are left. -/
def PRes {α : Type} (bad bad' : Bool) (res : Option (α × List (List UInt8))) (v : α) (L : List (List UInt8)) : Prop := (bad = true → bad' = true) ∧ (bad = false → (bad' = false → res = some (v, L)) ∧ (bad' = true → res = none))
theorem wB_pos (c : UInt8) : 1 ≤ (wB c).length := by unfold wB escB; split <;> simp
theorem flat_wB_ge (s : List UInt8) : s.length ≤ (s.flatMap wB).length := by
  induction s with
  | nil => simp
  | cons c r ih => simp only [List.flatMap_cons, List.length_append, List.length_cons]; have := wB_pos c; omega
theorem word_ge (s : List UInt8) : s.length ≤ (wordF s).length := by
  unfold wordF
  split
  · rename_i h; subst h; simp
  · split
    · rename_i h; subst h; simp
    · exact flat_wB_ge s
theorem textF_word {w s : List UInt8} (h : textF w = some s) : wordF s = w := by
  unfold textF at h
  split at h
  · rename_i h1; cases h; rw [h1]; rfl
  · split at h
    · cases h
    · split at h
      · cases h; assumption
      · cases h
theorem textF_len {w : List UInt8} : ((textF w).getD []).length ≤ w.length := by
  cases h : textF w with
  | none => simp
  | some s => have := word_ge s; rw [textF_word h] at this; exact this
/-- The texts of a call, read in part. -/
def PT (b1 bd : Bool) (res cur : Option (Cq × List (List UInt8))) : Prop := (b1 = true → bd = true) ∧ (b1 = false → (bd = false → res = cur) ∧ (bd = true → res = none))
theorem PT.step {b1 bd : Bool} {res : Option (Cq × List (List UInt8))} {os : List Nat} {i o : Nat} {c : Cq} {q : Bool × List UInt8} (h : PT b1 bd res (pTexts (os.drop i) c (wl q))) (ho : os[i]? = some o) :
    PT b1 (bd || (wl q).isEmpty || (textF ((wl q).headD [])).isNone) res (pTexts (os.drop (i + 1)) (c.set o ((textF ((wl q).headD [])).getD [])) (wl (nxq q))) := by
  have hi := (List.getElem?_eq_some_iff.1 ho).1
  have hd : os.drop i = o :: os.drop (i + 1) := by
    rw [List.drop_eq_getElem_cons hi]
    have := List.getElem?_eq_getElem hi
    rw [ho] at this
    rw [Option.some.inj this]
  rw [hd] at h
  refine ⟨fun hb => by rw [h.1 hb]; simp, fun hb => ?_⟩
  obtain ⟨h1, h2⟩ := h.2 hb
  rw [nxq_wl]
  cases hbd : bd with
  | true => exact ⟨fun e => by simp at e, fun _ => h2 hbd⟩
  | false =>
    rw [h1 hbd]
    cases hw : wl q with
    | nil => exact ⟨fun e => by simp at e, fun _ => rfl⟩
    | cons w L =>
      cases ht : textF w with
      | none => exact ⟨fun e => by simp [ht] at e, fun _ => by simp [pTexts, ht]⟩
      | some x => exact ⟨fun _ => by simp [pTexts, ht], fun e => by simp [ht] at e⟩
theorem rdsingle_c (r m s : Nat) (q : Bool × List UInt8) (bad : Bool) (hq : QOk q) (nm : List UInt8) (hnm : nm.length ≤ 1000000) (w : World) (hs : Sat [rdS r m s q bad] w) : Calls Tryd.prog 72 [.pointer (some ⟨r, 0, none⟩), str nm].toArray w fun e w' => ∃ y : Cq × (Bool × List UInt8) × Bool, (PRes bad y.2.2 (pSingle nm (wl q)) y.1 (wl y.2.1) ∧ QOk y.2.1 ∧ (wl y.2.1).length ≤ (wl q).length ∧ y.1.grp = nilSl ∧ y.1.small) ∧ e = .returned (.agg y.1.cells.toArray) ∧ Hp ⟨w, ids [rdS r m s q bad]⟩ [rdS r m s y.2.1 y.2.2] w' := by
  refine V.calls [rdS r m s q bad] Tryd.func72 rfl Tryd.ntmps72 (Nat.le_of_ble_eq_true rfl) hs ?_
  refine CW.seq ?_
  refine CW.region ?_
  refine LW.e rfl rfl (Eff.allocA (by exact Tryd.zeroValue41)) ?_
  intro b4 _
  refine LW.nil ?_
  refine PQ.seq ?_
  refine CW.seq ?_
  refine CW.region ?_
  refine LW.v rfl rfl (Val.move rfl) ?_
  refine LW.e rfl rfl (Eff.callV rfl Tryd.call80 (fun w hw => kind_c nm w)) ?_
  intro _ _
  refine LW.v rfl rfl (Val.build [_, _, _, _, _] Tryd.zeroValue41 Tryd.underlying41 places41 rfl (by rfl)) ?_
  refine LW.re 10 (.agg (c0q (kindF nm)).cells.toArray) rfl rfl ?_
  refine LW.e rfl rfl (Eff.allocA (by exact Tryd.zeroValue41)) ?_
  intro b5 _
  refine LW.eN rfl (Eff.storeW (cs := (c0q (kindF nm)).cells) rfl rfl (by repeat (first | exact .here | exact .inner .here | exact .inner (.inner .here) | apply Upd.there)) (by rfl) Tryd.sizeOf41 (by rfl)) ?_
  intro _ _
  refine LW.nil ?_
  refine PQ.seq ?_
  refine CW.seq ?_
  refine CW.regJoin (fun _ : Unit => True) (fun _ => [(0, .pointer (some ⟨r, 0, none⟩)), (4, .pointer (some ⟨b4, 0, none⟩)), (5, .pointer (some ⟨b5, 0, none⟩))]) (fun _ => [rdS r m s q (bad || decide (kindF nm = 0) || decide (kindF nm = 7)), [(b5, .cells (c0q (kindF nm)).cells.toArray 41 (0, 0))], [(b4, .cells [.int .i64 0, .string ⟨#[]⟩, .string ⟨#[]⟩, .string ⟨#[]⟩, .slice none 0 0].toArray 41 (0, 0))]]) ?_ ?_
  · refine CW.region ?_
    refine LW.v rfl rfl (Val.move rfl) ?_
    refine LW.v rfl rfl (Val.move rfl) ?_
    refine LW.v rfl rfl (Val.nilCheck rfl) ?_
    refine LW.v rfl rfl (Val.fieldAddr 1 rfl Tryd.underlying87 rfl rfl Tryd.sizeOf4) ?_
    refine LW.v rfl rfl (Val.load rfl Tryd.isAgg4 (by repeat (first | exact .here | exact .inner .here | exact .inner (.inner .here) | refine .there ?_)) (by rfl)) ?_
    refine LW.v rfl rfl (Val.move rfl) ?_
    refine LW.split (d := 16) rfl (fun h16 => ?_) (fun h16 => ?_)
    · replace h16 := bT h16
      refine LW.p rfl rfl ?_
      refine LW.p rfl rfl ?_
      refine LW.p rfl rfl ?_
      refine LW.v rfl rfl (Val.pick_t rfl rfl) ?_
      refine LW.v rfl rfl (Val.move rfl) ?_
      refine LW.p rfl rfl ?_
      refine LW.p rfl rfl ?_
      refine LW.p rfl rfl ?_
      refine LW.v rfl rfl (Val.pick_t rfl rfl) ?_
      refine LW.re 25 (.bool (bad || decide (kindF nm = 0) || decide (kindF nm = 7))) rfl (by congr 1; first | (simp_all [c0q]; done) | (cases bad <;> simp_all [c0q]; done) | (cases bad <;> simp_all [c0q] <;> (rw [Bool.eq_iff_iff]; simp))) ?_
      refine LW.v rfl rfl (Val.nilCheck rfl) ?_
      refine LW.v rfl rfl (Val.fieldAddr 1 rfl Tryd.underlying87 rfl rfl Tryd.sizeOf4) ?_
      refine LW.eN rfl (Eff.store rfl rfl rfl (by repeat (first | exact .here | exact .inner .here | exact .inner (.inner .here) | apply Upd.there)) (by rfl) (by rfl) Tryd.sizeOf4) ?_
      intro _ _
      refine LW.nil ?_
      refine PQ.joined (()) (trivial) (by repeat (first | exact trivial | refine ⟨rfl, ?_⟩)) (by repeat (first | exact .nil | apply Pick.cons | exact .here | apply Ext.there))
    · replace h16 := bF h16
      refine LW.v rfl rfl (Val.fieldAddr 0 rfl Tryd.underlying41 rfl rfl Tryd.sizeOf3) ?_
      refine LW.v rfl rfl (Val.load rfl Tryd.isAgg3 (by repeat (first | exact .here | exact .inner .here | exact .inner (.inner .here) | refine .there ?_)) (by rfl)) ?_
      refine LW.v rfl rfl (Val.cmp rfl rfl rfl) ?_
      refine LW.v rfl rfl (Val.pick_f rfl rfl) ?_
      refine LW.v rfl rfl (Val.move rfl) ?_
      refine LW.split (d := 21) rfl (fun h21 => ?_) (fun h21 => ?_)
      · replace h21 := bT h21
        refine LW.p rfl rfl ?_
        refine LW.p rfl rfl ?_
        refine LW.p rfl rfl ?_
        refine LW.v rfl rfl (Val.pick_t rfl rfl) ?_
        refine LW.re 25 (.bool (bad || decide (kindF nm = 0) || decide (kindF nm = 7))) rfl (by congr 1; first | (simp_all [c0q]; done) | (cases bad <;> simp_all [c0q]; done) | (cases bad <;> simp_all [c0q] <;> (rw [Bool.eq_iff_iff]; simp))) ?_
        refine LW.v rfl rfl (Val.nilCheck rfl) ?_
        refine LW.v rfl rfl (Val.fieldAddr 1 rfl Tryd.underlying87 rfl rfl Tryd.sizeOf4) ?_
        refine LW.eN rfl (Eff.store rfl rfl rfl (by repeat (first | exact .here | exact .inner .here | exact .inner (.inner .here) | apply Upd.there)) (by rfl) (by rfl) Tryd.sizeOf4) ?_
        intro _ _
        refine LW.nil ?_
        refine PQ.joined (()) (trivial) (by repeat (first | exact trivial | refine ⟨rfl, ?_⟩)) (by repeat (first | exact .nil | apply Pick.cons | exact .here | apply Ext.there))
      · replace h21 := bF h21
        refine LW.v rfl rfl (Val.fieldAddr 0 rfl Tryd.underlying41 rfl rfl Tryd.sizeOf3) ?_
        refine LW.v rfl rfl (Val.load rfl Tryd.isAgg3 (by repeat (first | exact .here | exact .inner .here | exact .inner (.inner .here) | refine .there ?_)) (by rfl)) ?_
        refine LW.v rfl rfl (Val.cmp rfl rfl rfl) ?_
        refine LW.v rfl rfl (Val.pick_f rfl rfl) ?_
        refine LW.re 25 (.bool (bad || decide (kindF nm = 0) || decide (kindF nm = 7))) rfl (by congr 1; first | (simp_all [c0q]; done) | (cases bad <;> simp_all [c0q]; done) | (cases bad <;> simp_all [c0q] <;> (rw [Bool.eq_iff_iff]; simp))) ?_
        refine LW.v rfl rfl (Val.nilCheck rfl) ?_
        refine LW.v rfl rfl (Val.fieldAddr 1 rfl Tryd.underlying87 rfl rfl Tryd.sizeOf4) ?_
        refine LW.eN rfl (Eff.store rfl rfl rfl (by repeat (first | exact .here | exact .inner .here | exact .inner (.inner .here) | apply Upd.there)) (by rfl) (by rfl) Tryd.sizeOf4) ?_
        intro _ _
        refine LW.nil ?_
        refine PQ.joined (()) (trivial) (by repeat (first | exact trivial | refine ⟨rfl, ?_⟩)) (by repeat (first | exact .nil | apply Pick.cons | exact .here | apply Ext.there))
  · intro _ _
    refine PQ.seq ?_
    refine CW.seq ?_
    refine CW.seq ?_
    refine CW.region ?_
    refine LW.e rfl rfl (Eff.callM ([[(b5, .cells (c0q (kindF nm)).cells.toArray 41 (0, 0))]]) (by repeat (first | exact .nil | apply Pick.cons | exact .here | apply Ext.there)) rfl Tryd.call67 (fun w hw hs0 => texts_c b5 (c0q (kindF nm)) w hs0)) ?_
    intro op hop
    refine LW.v rfl rfl (Val.lenOwn rfl Tryd.underlying105 hop) ?_
    refine LW.v rfl rfl (Val.move rfl) ?_
    refine LW.nil ?_
    refine PQ.seq ?_
    refine CW.block ?_
    refine CW.loop (γ := Nat × Cq × (Bool × List UInt8) × Bool) (fun k => [(0, .pointer (some ⟨r, 0, none⟩)), (4, .pointer (some ⟨b4, 0, none⟩)), (5, .pointer (some ⟨b5, 0, none⟩)), (28, ownV (offs (kindF nm)).length op), (29, .int .i64 ((offs (kindF nm)).length : Nat)), (30, .int .i64 (k.1 : Nat))]) (fun k => [rdS r m s k.2.2.1 k.2.2.2, [(b5, .cells k.2.1.cells.toArray 41 (0, 0))], ownG 108 (ptrs b5 (offs (kindF nm))) op, [(b4, .cells [.int .i64 0, .string ⟨#[]⟩, .string ⟨#[]⟩, .string ⟨#[]⟩, .slice none 0 0].toArray 41 (0, 0))]]) (fun k => k.1 ≤ (offs (kindF nm)).length ∧ (k.2.1.grp = nilSl ∧ k.2.1.small) ∧ QOk k.2.2.1 ∧ (wl k.2.2.1).length ≤ (wl q).length ∧ PT (bad || decide (kindF nm = 0) || decide (kindF nm = 7)) k.2.2.2 (pTexts (offs (kindF nm)) (c0q (kindF nm)) (wl q)) (pTexts ((offs (kindF nm)).drop k.1) k.2.1 (wl k.2.2.1))) (fun k => (offs (kindF nm)).length - k.1) ((0, c0q (kindF nm), q, (bad || decide (kindF nm = 0) || decide (kindF nm = 7)))) ⟨Nat.zero_le _, ⟨rfl, by unfold Cq.small c0q; simp⟩, hq, Nat.le_refl _, ⟨fun h => h, fun h => ⟨fun _ => by simp, fun h2 => by simp only at h2; rw [h] at h2; cases h2⟩⟩⟩ (by repeat (first | exact trivial | refine ⟨rfl, ?_⟩)) (by repeat (first | exact .nil | apply Pick.cons | exact .here | apply Ext.there)) ?_
    intro k
    rintro ⟨hk1, hkc, hkq, hkl, hkp⟩
    have hol := offs_len (kindF nm)
    have hwq := wl_len hkq
    refine CW.seq ?_
    refine CW.region ?_
    refine LW.v rfl rfl (Val.cmp rfl rfl rfl) ?_
    refine LW.nil ?_
    refine PQ.seq ?_
    refine CW.seq ?_
    refine CW.cond rfl (fun h31 => ?_) (fun h31 => ?_)
    · replace h31 := bT h31
      obtain ⟨⟨g, rest, cap⟩, rfl⟩ := own_some (n := (offs (kindF nm)).length) hop (by omega)
      obtain ⟨o, ho'⟩ : ∃ o, (offs (kindF nm))[k.1]? = some o := ⟨(offs (kindF nm))[k.1]'(by omega), by simp⟩
      have ho := List.mem_of_getElem? ho'
      have hpo : (ptrs b5 (offs (kindF nm)) ++ rest)[0 + k.1 * 1]? = some (.pointer (some ⟨b5, o, none⟩)) := by
        rw [Nat.zero_add, Nat.mul_one, List.getElem?_append_left (by rw [ptrs_len]; omega)]
        simp [ptrs, ho']
      rw [V.ownG_some]
      refine CW.skip ?_
      refine PQ.seq ?_
      refine CW.seq ?_
      refine CW.block ?_
      refine CW.seq ?_
      refine CW.region ?_
      first | (refine LW.v rfl rfl (Val.indexAddrN rfl rfl Tryd.underlying105 Tryd.sizeOf108 (by omega)) ?_) | (refine LW.v rfl rfl (Val.indexAddr rfl rfl Tryd.underlying105 Tryd.sizeOf108 (by omega) (by omega)) ?_)
      refine LW.v rfl rfl (Val.load (T := 108) (v := .pointer (some ⟨b5, o, none⟩)) rfl Tryd.isAgg108 (by repeat (first | exact .here | exact .inner .here | exact .inner (.inner .here) | refine .there ?_)) hpo) ?_
      refine LW.v rfl rfl (Val.assign rfl) ?_
      refine LW.nil ?_
      refine PQ.seq ?_
      refine CW.region ?_
      refine LW.v rfl rfl (Val.move rfl) ?_
      refine LW.v rfl rfl (Val.move rfl) ?_
      refine LW.e rfl rfl (Eff.callM ([rdS r m s k.2.2.1 k.2.2.2]) (by repeat (first | exact .nil | apply Pick.cons | exact .here | apply Ext.there)) rfl Tryd.call81 (fun w hw hs0 => rtext2_c r m s k.2.2.1 k.2.2.2 hkq w hs0)) ?_
      intro _ _
      refine LW.v rfl rfl (Val.nilCheck rfl) ?_
      refine LW.eN rfl (Eff.storeX (l' := (k.2.1.set o ((textF ((wl k.2.2.1).headD [])).getD [])).cells) rfl rfl rfl (by repeat (first | exact .here | exact .inner .here | exact .inner (.inner .here) | apply Upd.there)) (set_cells ho _) (by show _ < 5; rcases offs_mem ho with h8 | h8 | h8 <;> omega) Tryd.sizeOf9) ?_
      intro _ _
      refine LW.nil ?_
      refine PQ.in_normal ?_
      refine PQ.seq ?_
      refine CW.region ?_
      refine LW.v rfl rfl (Val.ar rfl rfl rfl (IntWalk.i64_in _ (by omega))) ?_
      refine LW.v rfl rfl (Val.move rfl) ?_
      refine LW.nil ?_
      refine PQ.round ((k.1 + 1, k.2.1.set o ((textF ((wl k.2.2.1).headD [])).getD []), nxq k.2.2.1, (k.2.2.2 || (wl k.2.2.1).isEmpty || (textF ((wl k.2.2.1).headD [])).isNone))) ⟨by simp only; omega, ⟨(set_ck _ _ _).2.trans hkc.1, set_small hkc.2 (Nat.le_trans textF_len (by omega))⟩, nxq_ok hkq, by simp only; rw [nxq_wl, List.length_tail]; omega, hkp.step ho'⟩ (by simp only; omega) (by repeat (first | exact trivial | refine ⟨rfl, ?_⟩)) (by repeat (first | exact .nil | apply Pick.cons | exact .here | apply Ext.there))
    · replace h31 := bF h31
      refine CW.exit ?_
      refine PQ.then_exit ?_
      refine PQ.then_exit ?_
      refine PQ.in_here ?_
      refine PQ.seq ?_
      refine CW.seq ?_
      refine CW.region ?_
      refine LW.v rfl rfl (Val.loadW (l := k.2.1.cells) rfl Tryd.isAgg41 (by repeat (first | exact .here | exact .inner .here | exact .inner (.inner .here) | refine .there ?_)) (by exact Tryd.sizeOf41)) ?_
      refine LW.eN rfl (Eff.storeW (cs := k.2.1.cells) rfl rfl (by repeat (first | exact .here | exact .inner .here | exact .inner (.inner .here) | apply Upd.there)) (by rfl) Tryd.sizeOf41 (by rfl)) ?_
      intro _ _
      refine LW.nil ?_
      refine PQ.seq ?_
      refine CW.ret ?_
      refine V.PQ.retC rfl rfl (by repeat (first | exact .here | exact .inner .here | exact .inner (.inner .here) | refine .there ?_)) Tryd.isAgg41 (by exact Tryd.sizeOf41) ?_
      intro w' hw
      have e1 : (offs (kindF nm)).drop k.1 = [] := List.drop_eq_nil_iff.2 (by omega)
      rw [e1] at hkp
      refine ⟨(k.2.1, k.2.2.1, k.2.2.2), ⟨⟨fun hb => hkp.1 (by rw [hb]; rfl), fun hb => ⟨fun h8 => ?_, fun h8 => ?_⟩⟩, hkq, hkl, hkc⟩, rfl, hw.pick (by repeat (first | exact .nil | apply Pick.cons | exact .here | apply Ext.there))⟩
      · unfold pSingle
        cases hb1 : (bad || decide (kindF nm = 0) || decide (kindF nm = 7)) with
        | true => rw [hkp.1 hb1] at h8; cases h8
        | false =>
          rw [hb] at hb1
          simp at hb1
          rw [if_neg (by intro h9; rcases h9 with h9 | h9; exact hb1.1 h9; exact hb1.2 h9)]
          exact (hkp.2 (by rw [hb]; simp; exact hb1)).1 h8
      · unfold pSingle
        by_cases hk8 : kindF nm = 0 ∨ kindF nm = 7
        · rw [if_pos hk8]
        · rw [if_neg hk8]
          exact (hkp.2 (by rw [hb]; simp; omega)).2 h8
end Go.Proofs.YtagliemeolngiaaDoor
