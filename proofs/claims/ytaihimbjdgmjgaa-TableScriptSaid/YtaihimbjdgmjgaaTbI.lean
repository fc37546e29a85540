/- Next. -/
import Derived.Test.YtaihimbjdgmjgaaTbG
import Derived.Test.YtaihimbjdgmjgaaV19
import Derived.Lib.Hide
namespace Go.Proofs.Ytaihimbjdgmjgaa
open Go Go.RowKit V
set_option linter.unusedVariables false
set_option maxRecDepth 100000
open V (ownV ownG ownS ownOk Stp Vis itO str byC)
theorem keys_c (b : Nat) (w : World) : Calls Try.prog 49 [.map (some b)].toArray w fun e w' => ∃ kb : Nat, True ∧ e = .returned (.func (.func 69) #[] #[.pointer (some ⟨kb, 0, none⟩)]) ∧ Hp ⟨w, []⟩ [[(kb, .cells [.map (some b)].toArray 71 (0, 0))]] w' := by
  have h := (callsIn_wide (n := 5)).1 (AnyZ.keys_in Try.keys49 Fence.wide 5 trivial rfl (some b) w)
  change Calls Try.prog 49 _ _ _ at h
  refine h.mono fun e w' ⟨h1, h2⟩ => ⟨w.heap.size, trivial, h1, ?_⟩
  subst h2
  have h0 : Hp ⟨w, []⟩ [] w := ⟨rfl, rfl, rfl, Nat.le_refl _, fun _ _ _ => rfl, by simp, by simp, by simp⟩
  exact h0.alloc _
def bL (k : ByteArray) : List UInt8 := k.data.toList
theorem sortsIn48 (m : Nat) : AnyZ.SortsIn Try.prog Try.sorted48_ren Fence.wide m :=
  ⟨fun blk off cap ss W hH hblk hsz => callsIn_wide.2 (AnyM.slices_Sort_string Try.sort68 blk off cap ss W hH hblk hsz),
   fun p cap W => callsIn_wide.2 (AnyM.slices_Sort_string_none Try.sort68 p cap W)⟩
theorem enc_str : (Go.Proofs.encStr : List UInt8 → Value) = str := rfl
theorem sortedKeys_c (kb b c : Nat) (E : ME) (hE : mnd E) (hS : Stp E c) (hk : ∀ e ∈ E, e.2.1.size ≤ maxLen) (hn : E.length ≤ 100000) (w : World) (hs : Sat [[(kb, .cells [.map (some b)].toArray 71 (0, 0))]] w) (hb : w.heap[b]? = some (mpO E c)) :
    Calls Try.prog 48 [.func (.func 69) #[] #[.pointer (some ⟨kb, 0, none⟩)]].toArray w fun e w' => ∃ y : V.OwnO × List (List UInt8), ((y.2.Perm (E.map fun e => bL e.2.1) ∧ y.2.Pairwise (· < ·)) ∧ ownOk 1 y.2.length (y.2.map str) y.1) ∧ e = .returned (ownV y.2.length y.1) ∧ Hp ⟨w, []⟩ [ownG 9 (y.2.map str) y.1] w' := by
  have hkb : w.heap[kb]? = some (.cells [.map (some b)].toArray 71 (0, 0)) := hs.own (kb, .cells [.map (some b)].toArray 71 (0, 0)) (by simp)
  have hlen : E.length ≤ maxLen := by unfold maxLen; omega
  have hown := V.owns_keys (P := Try.prog) (kt := 9) Try.underlying9 hE hS hk hlen hb
  have hseq : SeqGives Fence.wide 2 Try.prog 69 #[.pointer (some ⟨kb, 0, none⟩)] Go.Proofs.encStr (fun ss => ss.Perm (Go.strKeys (V.keyD E))) (Maps.size (V.keyD E)) w :=
    AnyZ.keys_gives (ρ := Try.keys49_ren) { Try.keys49 with } Fence.wide _ trivial rfl (by omega) kb b E.length (V.keyD E) w (V.lt_of_some hkb) (V.cell_of_block hkb rfl) hown
  have hcon := AnyZ.sorted_in Try.sorted48 Fence.wide 5 trivial trivial trivial trivial rfl (by omega) (sortsIn48 _) (enters_of Try.func68 (by kernel_rfl) rfl) 69 #[.pointer (some ⟨kb, 0, none⟩)] trivial (enters_of Try.func69 (by kernel_rfl) rfl) _ _ (by rw [V.keyD_size]; exact hlen) (by rw [V.keyD_size]; omega) w hseq
  have hcon2 := (callsIn_wide (n := 5)).1 hcon
  change Calls Try.prog 48 _ _ _ at hcon2
  refine hcon2.mono fun e w' ⟨v, ss, h1, h2, h3, h4, h5⟩ => ?_
  have hp : (ss.mergeSort fun x y => decide (x ≤ y)).Perm ss := List.mergeSort_perm _ _
  have hle : (ss.mergeSort fun x y => decide (x ≤ y)).length = ss.length := hp.length_eq
  rw [← hle] at h3
  obtain ⟨o, hv, hok, hhp⟩ := V.hp_of_below h5 h3
  have hperm : (ss.mergeSort fun x y => decide (x ≤ y)).Perm (E.map fun e => bL e.2.1) := hp.trans (h2.trans (V.keyD_keys E))
  have hnd : (E.map fun e => bL e.2.1).Nodup := by
    have hE' : (E.map (fun e => e.2.1)).Nodup := hE
    have := List.Pairwise.map (R := (· ≠ ·)) (S := (· ≠ ·)) bL (fun a b hab h => hab (kL_inj h)) hE'
    simpa [List.map_map, Function.comp_def, List.Nodup] using this
  have hsort : (ss.mergeSort fun x y => decide (x ≤ y)).Pairwise (fun a b => decide (a ≤ b) = true) := List.pairwise_mergeSort (fun a b c h1 h2 => by simp only [decide_eq_true_eq] at *; exact List.le_trans h1 h2) (fun a b => by simp only [Bool.or_eq_true, decide_eq_true_eq]; exact List.le_total a b) ss
  have hnd2 := (List.Perm.nodup_iff hperm).2 hnd
  refine ⟨(o, ss.mergeSort fun x y => decide (x ≤ y)), ⟨⟨hperm, ?_⟩, hok⟩, by rw [h1, hv], hhp⟩
  refine (List.pairwise_and_iff.2 ⟨hsort, hnd2⟩).imp ?_
  intro a b ⟨h6, h7⟩
  have h8 : a ≤ b := of_decide_eq_true h6
  rcases Classical.em (a < b) with h9 | h9
  · exact h9
  · exact absurd (List.le_antisymm h8 (List.not_lt.1 h9)) h7
/-- What Next is to answer. -/
def NextOk (f : ByteArray → Option Lk) (b : Int) (pos : ByteArray) (past : Bool) : Option Lk → Prop
  | none => ∀ q x, f q = some x → ((bk q : Nat) : Int) = b → past = true ∧ ¬ bL pos < bL q
  | some x => f x.key = some x ∧ ((bk x.key : Nat) : Int) = b ∧ (past = true → bL pos < bL x.key) ∧ ∀ q y, f q = some y → ((bk q : Nat) : Int) = b → (past = true → bL pos < bL q) → bL x.key ≤ bL q
theorem nodup_filter {α β : Type} (p : α → Bool) (g : α → β) {l : List α} (h : (l.map g).Nodup) : ((l.filter p).map g).Nodup := (List.Sublist.map g (List.filter_sublist (p := p) (l := l))).nodup h
theorem mnd_fil {E : ME} (h : mnd E) (b : Nat) : mnd (fil E b) := nodup_filter (α := Nat × ByteArray × Value) (l := E) (fun e => bk e.2.1 == b) (fun e => e.2.1) (show (E.map (fun e => e.2.1)).Nodup from h)
theorem key_entry {E : ME} {c : Nat → Nat} {f : ByteArray → Option Lk} {n : Nat} (h : TK E c f n) {bt : Nat} {s : List UInt8} (hs : s ∈ (fil E bt).map (fun e => bL e.2.1)) : ∃ x, f x.key = some x ∧ bL x.key = s ∧ bk x.key = bt ∧ mget (fil E bt) ⟨s.toArray⟩ = some (lkV x) := by
  obtain ⟨e, he, rfl⟩ := List.mem_map.1 hs
  have he2 : e ∈ E ∧ (bk e.2.1 == bt) = true := List.mem_filter.1 (show e ∈ List.filter _ E from he)
  obtain ⟨x, h1, h2, h3⟩ := h.entry he2.1
  have hbt : bk e.2.1 = bt := by simpa using he2.2
  refine ⟨x, by rw [h2]; exact h3, by rw [h2], by rw [h2]; exact hbt, ?_⟩
  have h4 : (⟨(bL e.2.1).toArray⟩ : ByteArray) = e.2.1 := by unfold bL; exact (V.str_of e.2.1).symm
  rw [h4, ← hbt, fil_get, mget_mem h.ti.nd he2.1, h1]
theorem entry_key {E : ME} {c : Nat → Nat} {f : ByteArray → Option Lk} {n : Nat} (h : TK E c f n) {q : ByteArray} {x : Lk} (hf : f q = some x) : bL q ∈ (fil E (bk q)).map (fun e => bL e.2.1) := by
  have h1 : mget E q = some (lkV x) := by rw [h.ti.get, hf]; rfl
  obtain ⟨e, he, h2, h3⟩ := mget_some h1
  exact List.mem_map.2 ⟨e, List.mem_filter.2 ⟨he, by rw [h2]; simp⟩, by rw [h2]⟩
theorem gtr_dec (s : List UInt8) (pos : ByteArray) : (!(Op.bytesLess (⟨s.toArray⟩ : ByteArray).toList pos.toList || decide ((⟨s.toArray⟩ : ByteArray) = pos))) = decide (bL pos < s) := by
  rw [ByteArray.toList_eq, ByteArray.toList_eq, Go.Proofs.bytesLess_eq]
  rw [Bool.eq_iff_iff]
  simp only [Bool.not_eq_true', Bool.or_eq_false_iff, decide_eq_false_iff_not, decide_eq_true_eq]
  constructor
  · rintro ⟨h1, h2⟩
    rcases Classical.em (bL pos < s) with h3 | h3
    · exact h3
    · exfalso
      refine h2 ?_
      have h4 : s = bL pos := List.le_antisymm (List.not_lt.1 h3) (List.not_lt.1 h1)
      subst h4
      exact (V.str_of pos).symm
  · intro h
    refine ⟨fun h1 => List.lt_irrefl _ (List.lt_trans h h1), fun h2 => ?_⟩
    rw [← h2] at h
    exact List.lt_irrefl _ h
theorem next_c (t : Nat) (m : Nat → Nat) (E : ME) (c : Nat → Nat) {f : ByteArray → Option Lk} {n : Nat} (hT : TK E c f n) (hn : n ≤ 1000) (b : Int) (pos : ByteArray) (past : Bool) (w : World) (hs : Sat (tbG t m E c) w) : Calls Try.prog 17 [.pointer (some ⟨t, 0, none⟩), .int .i64 b, .string pos, .bool past].toArray w fun e w' => ∃ r : Option Lk, NextOk f b pos past r ∧ e = .returned (.tuple #[lkV (r.getD lk0), .bool r.isSome]) ∧ Below w.heap.size w w' := by
  refine V.calls (tbG t m E c) Try.func17 rfl Try.ntmps17 (Nat.le_of_ble_eq_true rfl) hs ?_
  refine CW.seq ?_
  refine CW.region ?_
  refine LW.e rfl rfl (Eff.allocA (by exact Try.zeroValue44)) ?_
  intro b8 _
  refine LW.v rfl rfl (Val.assign rfl) ?_
  refine LW.nil ?_
  refine PQ.seq ?_
  refine CW.seq ?_
  refine CW.seq ?_
  refine CW.region ?_
  refine LW.v rfl rfl (Val.move rfl) ?_
  refine LW.v rfl rfl (Val.eqP false rfl rfl Try.underlying39 (.inr ⟨rfl, rfl⟩)) ?_
  refine LW.v rfl rfl (Val.move rfl) ?_
  refine LW.v rfl rfl (Val.move rfl) ?_
  refine LW.v rfl rfl (Val.cmp rfl rfl rfl) ?_
  refine LW.v rfl rfl (Val.pick_f rfl rfl) ?_
  refine LW.v rfl rfl (Val.move rfl) ?_
  refine LW.split (d := 19) rfl (fun h19 => ?_) (fun h19 => ?_)
  · replace h19 := bT h19
    refine LW.p rfl rfl ?_
    refine LW.p rfl rfl ?_
    refine LW.v rfl rfl (Val.pick_t rfl rfl) ?_
    refine LW.nil ?_
    refine PQ.seq ?_
    refine CW.cond_t rfl ?_
    refine CW.seq ?_
    refine CW.region ?_
    refine LW.v rfl rfl (Val.build [_, _, _, _, _] Try.zeroValue44 Try.underlying44 places44 rfl (by rfl)) ?_
    first | (refine LW.eN rfl (Eff.storeW rfl rfl (by repeat (first | exact .here | apply Upd.there)) (by rfl) Try.sizeOf44 (by rfl)) ?_) | (refine LW.eN rfl (Eff.storeA (l' := _) rfl rfl (by repeat (first | exact .here | apply Upd.there)) (by rfl) (by decide) Try.sizeOf44 (by rfl)) ?_)
    intro _ _
    refine LW.v rfl rfl (Val.assign rfl) ?_
    refine LW.nil ?_
    refine PQ.seq ?_
    refine CW.ret ?_
    refine PQ.then_ret ?_
    refine PQ.retCT rfl rfl rfl (by repeat (first | exact .here | refine .there ?_)) Try.isAgg44 (by exact Try.sizeOf44) ?_
    intro w' hw; exact ⟨none, (fun q x _ hq => by have := bk_lt q; omega), rfl, (hw.ro (by repeat (first | exact .nil | apply Pick.cons | exact .here | apply Ext.there)) hs)⟩
  · replace h19 := bF h19
    refine LW.v rfl rfl (Val.move rfl) ?_
    refine LW.v rfl rfl (Val.cmp rfl rfl rfl) ?_
    refine LW.v rfl rfl (Val.pick_f rfl rfl) ?_
    refine LW.nil ?_
    refine PQ.seq ?_
    refine CW.cond rfl (fun h22 => ?_) (fun h22 => ?_)
    · replace h22 := bT h22
      refine CW.seq ?_
      refine CW.region ?_
      refine LW.v rfl rfl (Val.build [_, _, _, _, _] Try.zeroValue44 Try.underlying44 places44 rfl (by rfl)) ?_
      first | (refine LW.eN rfl (Eff.storeW rfl rfl (by repeat (first | exact .here | apply Upd.there)) (by rfl) Try.sizeOf44 (by rfl)) ?_) | (refine LW.eN rfl (Eff.storeA (l' := _) rfl rfl (by repeat (first | exact .here | apply Upd.there)) (by rfl) (by decide) Try.sizeOf44 (by rfl)) ?_)
      intro _ _
      refine LW.v rfl rfl (Val.assign rfl) ?_
      refine LW.nil ?_
      refine PQ.seq ?_
      refine CW.ret ?_
      refine PQ.then_ret ?_
      refine PQ.retCT rfl rfl rfl (by repeat (first | exact .here | refine .there ?_)) Try.isAgg44 (by exact Try.sizeOf44) ?_
      intro w' hw; exact ⟨none, (fun q x _ hq => by have := bk_lt q; omega), rfl, (hw.ro (by repeat (first | exact .nil | apply Pick.cons | exact .here | apply Ext.there)) hs)⟩
    · replace h22 := bF h22
      refine CW.skip ?_
      refine PQ.seq ?_
      refine CW.seq ?_
      refine CW.region ?_
      refine LW.v rfl rfl (Val.move rfl) ?_
      refine LW.v rfl rfl (Val.move rfl) ?_
      refine LW.v rfl rfl (Val.nilCheck rfl) ?_
      have hbk : b.toNat < 8 := by omega
      refine LW.v rfl rfl (Val.fieldAddr 0 rfl Try.underlying74 rfl rfl Try.sizeOf72) ?_
      first | (refine LW.v rfl rfl (Val.indexAddrA rfl rfl Try.underlying72 Try.sizeOf71 (by omega)) ?_) | (refine LW.v rfl rfl (Val.indexAddrAI rfl rfl Try.underlying72 Try.sizeOf71 (by omega) (by omega)) ?_)
      refine LW.v rfl rfl (Val.load (l := tbCells m) rfl Try.isAgg71 (by repeat (first | exact .here | refine .there ?_)) (by simp only [Nat.zero_add, Nat.mul_one]; exact tbCells_at m hbk)) ?_
      refine LW.v rfl rfl (Val.assign rfl) ?_
      refine LW.nil ?_
      refine PQ.seq ?_
      refine CW.seq ?_
      refine CW.seq ?_
      refine CW.region ?_
      refine LW.v rfl rfl (Val.move rfl) ?_
      refine LW.e rfl rfl (Eff.callM ([]) (by repeat (first | exact .nil | apply Pick.cons | exact .here | apply Ext.there)) rfl Try.call49 (fun w hw _hs0 => keys_c (m b.toNat) w)) ?_
      intro kb _
      refine LW.e rfl rfl (Eff.callM ([]) (by repeat (first | exact .nil | apply Pick.cons | exact .here | apply Ext.there)) rfl Try.call48 (fun w hw _hs0 => sortedKeys_c kb (m b.toNat) (c b.toNat) (fil E b.toNat) (mnd_fil hT.ti.nd _) (hT.tc _ hbk) (fun e he => by obtain ⟨x, h1, h2, h3⟩ := hT.entry (List.mem_filter.1 (show e ∈ List.filter _ E from he)).1; have := hT.ks _ _ h3; unfold maxLen; omega) (by have := fil_le E b.toNat; have := hT.ti.len; omega) w (hw.sat.pick (ss := [[(kb, .cells [.map (some (m b.toNat))].toArray 71 (0, 0))]]) (by repeat (first | exact .nil | apply Pick.cons | exact .here | apply Ext.there))) (hw.own _ (show InS (m b.toNat, mpO (fil E b.toNat) (c b.toNat)) _ from (by repeat (first | exact InS.nth (tbSeg_at m E c hbk) | refine .there ?_))).mem))) ?_
      rintro ⟨o, ss⟩ ⟨⟨hp, hu⟩, hok⟩
      simp only at hp hu hok
      refine LW.v rfl rfl (Val.lenOwn rfl Try.underlying50 hok) ?_
      refine LW.v rfl rfl (Val.move rfl) ?_
      refine LW.nil ?_
      refine PQ.seq ?_
      refine CW.block ?_
      refine CW.loop (γ := Nat) (fun k => [(2, .string pos), (3, .bool past), (8, .pointer (some ⟨b8, 0, none⟩)), (9, .bool false), (10, .map (some (m b.toNat))), (32, ownV ss.length o), (33, .int .i64 (ss.length : Nat)), (34, .int .i64 (k : Nat))]) (fun _ => [[(b8, .cells (lkC lk0).toArray 44 (0, 0))]] ++ tbG t m E c ++ [ownG 9 (ss.map str) o]) (fun k => k ≤ ss.length ∧ ∀ (i : Nat) (s : List UInt8), i < k → ss[i]? = some s → past = true ∧ ¬ bL pos < s) (fun k => ss.length - k) (0) ⟨Nat.zero_le _, fun i s h => by omega⟩ (by repeat (first | exact trivial | refine ⟨rfl, ?_⟩)) (by repeat (first | exact .nil | apply Pick.cons | exact .here | apply Ext.there)) ?_
      intro k
      intro hJ
      have hJ1 := hJ.1
      have hsl : ss.length ≤ 1000 := by have h1 := hp.length_eq; have h2 := fil_le E b.toNat; have h3 := hT.ti.len; simp only [List.length_map] at h1; omega
      refine CW.seq ?_
      refine CW.region ?_
      refine LW.v rfl rfl (Val.cmp rfl rfl rfl) ?_
      refine LW.nil ?_
      refine PQ.seq ?_
      refine CW.seq ?_
      refine CW.cond rfl (fun h35 => ?_) (fun h35 => ?_)
      · replace h35 := bT h35
        obtain ⟨⟨g, rest, capl⟩, rfl⟩ := own_some hok (by omega)
        obtain ⟨s, hs1⟩ : ∃ s, ss[k]? = some s := ⟨ss[k]'(by omega), by simp⟩
        refine CW.skip ?_
        refine PQ.seq ?_
        refine CW.seq ?_
        refine CW.block ?_
        refine CW.seq ?_
        refine CW.region ?_
        first | (refine LW.v rfl rfl (Val.indexAddrN rfl rfl Try.underlying50 Try.sizeOf9 (by omega)) ?_) | (refine LW.v rfl rfl (Val.indexAddr rfl rfl Try.underlying50 Try.sizeOf9 (by omega) (by omega)) ?_)
        refine LW.v rfl rfl (Val.load (l := ss.map str ++ rest) (v := str s) rfl Try.isAgg9 (show InS (g, .cells (ss.map str ++ rest).toArray 9 (0, 0)) _ from (by repeat (first | exact .here | refine .there ?_))) (by rw [Nat.zero_add, Nat.mul_one, List.getElem?_append_left (by simpa using (List.getElem?_eq_some_iff.1 hs1).1)]; simp [hs1])) ?_
        refine LW.v rfl rfl (Val.assign rfl) ?_
        refine LW.nil ?_
        refine PQ.seq ?_
        refine CW.seq ?_
        refine CW.region ?_
        refine LW.v rfl rfl (Val.move rfl) ?_
        refine LW.v rfl rfl (Val.not rfl) ?_
        refine LW.v rfl rfl (Val.move rfl) ?_
        refine LW.split (d := 40) rfl (fun h40 => ?_) (fun h40 => ?_)
        · replace h40 := bT h40
          refine LW.p rfl rfl ?_
          refine LW.p rfl rfl ?_
          refine LW.p rfl rfl ?_
          refine LW.v rfl rfl (Val.pick_t rfl rfl) ?_
          refine LW.nil ?_
          refine PQ.seq ?_
          refine CW.cond_t rfl ?_
          refine CW.seq ?_
          obtain ⟨x, hx1, hx2, hx3, hx4⟩ := key_entry hT (hp.subset (List.mem_of_getElem? hs1))
          refine CW.region ?_
          refine LW.v rfl rfl (Val.move rfl) ?_
          refine LW.v rfl rfl (Val.move rfl) ?_
          refine LW.v rfl rfl (Val.lookup1 (k := ⟨s.toArray⟩) rfl rfl Try.underlying71 Try.underlying9 Try.zeroValue44 (by repeat (first | exact InS.nth (tbSeg_at m E c hbk) | refine .there ?_))) ?_
          refine LW.re 47 (.agg (lkC x).toArray) rfl (by rw [hx4]; rfl) ?_
          first | (refine LW.eN rfl (Eff.storeW rfl rfl (by repeat (first | exact .here | apply Upd.there)) (by rfl) Try.sizeOf44 (by rfl)) ?_) | (refine LW.eN rfl (Eff.storeA (l' := _) rfl rfl (by repeat (first | exact .here | apply Upd.there)) (by rfl) (by decide) Try.sizeOf44 (by rfl)) ?_)
          intro _ _
          refine LW.v rfl rfl (Val.assign rfl) ?_
          refine LW.nil ?_
          refine PQ.seq ?_
          refine CW.ret ?_
          refine PQ.in_ret ?_
          refine PQ.then_ret ?_
          refine PQ.then_ret ?_
          refine PQ.in_ret ?_
          refine PQ.then_ret ?_
          refine PQ.retCT rfl rfl rfl (by repeat (first | exact .here | refine .there ?_)) Try.isAgg44 (by exact Try.sizeOf44) ?_
          have hmin : ∀ q y, f q = some y → ((bk q : Nat) : Int) = b → (past = true → bL pos < bL q) → bL x.key ≤ bL q := by
            intro q y hq hb2 hpq
            have h1 : bL q ∈ ss := hp.symm.subset (by have := entry_key hT hq; rw [show bk q = b.toNat by omega] at this; exact this)
            obtain ⟨i, hi⟩ := List.mem_iff_getElem?.1 h1
            have hil := (List.getElem?_eq_some_iff.1 hi).1
            rcases Nat.lt_trichotomy i k with h2 | h2 | h2
            · exact absurd (hpq (hJ.2 i _ h2 hi).1) (hJ.2 i _ h2 hi).2
            · subst h2; rw [hs1] at hi; rw [hx2, Option.some.inj hi]; exact List.le_refl _
            · have h3 := List.pairwise_iff_getElem.1 hu k i (by omega) hil h2
              rw [(List.getElem?_eq_some_iff.1 hs1).2, (List.getElem?_eq_some_iff.1 hi).2] at h3
              rw [hx2]; exact List.le_of_lt h3
          intro w' hw; exact ⟨some x, ⟨hx1, by omega, (fun hpt => by rw [hx2]; first | exact h44 | (rw [hpt] at h40; simp at h40)), hmin⟩, rfl, (hw.ro (by repeat (first | exact .nil | apply Pick.cons | exact .here | apply Ext.there)) hs)⟩
        · replace h40 := bF h40
          refine LW.v rfl rfl (Val.move rfl) ?_
          refine LW.v rfl rfl (Val.move rfl) ?_
          refine LW.v rfl rfl (Val.cmpS rfl rfl rfl) ?_
          refine LW.re 43 (.bool (decide (bL pos < s))) rfl (by rw [gtr_dec]) ?_
          refine LW.v rfl rfl (Val.pick_f rfl rfl) ?_
          refine LW.nil ?_
          refine PQ.seq ?_
          refine CW.cond rfl (fun h44 => ?_) (fun h44 => ?_)
          · replace h44 := bT h44
            refine CW.seq ?_
            obtain ⟨x, hx1, hx2, hx3, hx4⟩ := key_entry hT (hp.subset (List.mem_of_getElem? hs1))
            refine CW.region ?_
            refine LW.v rfl rfl (Val.move rfl) ?_
            refine LW.v rfl rfl (Val.move rfl) ?_
            refine LW.v rfl rfl (Val.lookup1 (k := ⟨s.toArray⟩) rfl rfl Try.underlying71 Try.underlying9 Try.zeroValue44 (by repeat (first | exact InS.nth (tbSeg_at m E c hbk) | refine .there ?_))) ?_
            refine LW.re 47 (.agg (lkC x).toArray) rfl (by rw [hx4]; rfl) ?_
            first | (refine LW.eN rfl (Eff.storeW rfl rfl (by repeat (first | exact .here | apply Upd.there)) (by rfl) Try.sizeOf44 (by rfl)) ?_) | (refine LW.eN rfl (Eff.storeA (l' := _) rfl rfl (by repeat (first | exact .here | apply Upd.there)) (by rfl) (by decide) Try.sizeOf44 (by rfl)) ?_)
            intro _ _
            refine LW.v rfl rfl (Val.assign rfl) ?_
            refine LW.nil ?_
            refine PQ.seq ?_
            refine CW.ret ?_
            refine PQ.in_ret ?_
            refine PQ.then_ret ?_
            refine PQ.then_ret ?_
            refine PQ.in_ret ?_
            refine PQ.then_ret ?_
            refine PQ.retCT rfl rfl rfl (by repeat (first | exact .here | refine .there ?_)) Try.isAgg44 (by exact Try.sizeOf44) ?_
            have hmin : ∀ q y, f q = some y → ((bk q : Nat) : Int) = b → (past = true → bL pos < bL q) → bL x.key ≤ bL q := by
              intro q y hq hb2 hpq
              have h1 : bL q ∈ ss := hp.symm.subset (by have := entry_key hT hq; rw [show bk q = b.toNat by omega] at this; exact this)
              obtain ⟨i, hi⟩ := List.mem_iff_getElem?.1 h1
              have hil := (List.getElem?_eq_some_iff.1 hi).1
              rcases Nat.lt_trichotomy i k with h2 | h2 | h2
              · exact absurd (hpq (hJ.2 i _ h2 hi).1) (hJ.2 i _ h2 hi).2
              · subst h2; rw [hs1] at hi; rw [hx2, Option.some.inj hi]; exact List.le_refl _
              · have h3 := List.pairwise_iff_getElem.1 hu k i (by omega) hil h2
                rw [(List.getElem?_eq_some_iff.1 hs1).2, (List.getElem?_eq_some_iff.1 hi).2] at h3
                rw [hx2]; exact List.le_of_lt h3
            intro w' hw; exact ⟨some x, ⟨hx1, by omega, (fun hpt => by rw [hx2]; first | exact h44 | (rw [hpt] at h40; simp at h40)), hmin⟩, rfl, (hw.ro (by repeat (first | exact .nil | apply Pick.cons | exact .here | apply Ext.there)) hs)⟩
          · replace h44 := bF h44
            refine CW.skip ?_
            refine PQ.in_normal ?_
            refine PQ.seq ?_
            refine CW.region ?_
            refine LW.v rfl rfl (Val.ar rfl rfl rfl (IntWalk.i64_in _ (by omega))) ?_
            refine LW.v rfl rfl (Val.move rfl) ?_
            refine LW.nil ?_
            refine PQ.round (k + 1) ⟨by omega, fun i q hi hq => by rcases Nat.lt_or_ge i k with h1 | h1; exact hJ.2 i q h1 hq; obtain rfl : i = k := (by omega); rw [hs1] at hq; cases hq; exact ⟨by simpa using h40, h44⟩⟩ (by omega) (by repeat (first | exact trivial | refine ⟨rfl, ?_⟩)) (by repeat (first | exact .nil | apply Pick.cons | exact .here | apply Ext.there))
      · replace h35 := bF h35
        refine CW.exit ?_
        refine PQ.then_exit ?_
        refine PQ.then_exit ?_
        refine PQ.in_here ?_
        refine PQ.seq ?_
        refine CW.seq ?_
        refine CW.region ?_
        refine LW.v rfl rfl (Val.build [_, _, _, _, _] Try.zeroValue44 Try.underlying44 places44 rfl (by rfl)) ?_
        first | (refine LW.eN rfl (Eff.storeW rfl rfl (by repeat (first | exact .here | apply Upd.there)) (by rfl) Try.sizeOf44 (by rfl)) ?_) | (refine LW.eN rfl (Eff.storeA (l' := _) rfl rfl (by repeat (first | exact .here | apply Upd.there)) (by rfl) (by decide) Try.sizeOf44 (by rfl)) ?_)
        intro _ _
        refine LW.v rfl rfl (Val.assign rfl) ?_
        refine LW.nil ?_
        refine PQ.seq ?_
        refine CW.ret ?_
        refine PQ.retCT rfl rfl rfl (by repeat (first | exact .here | refine .there ?_)) Try.isAgg44 (by exact Try.sizeOf44) ?_
        intro w' hw; refine ⟨none, (fun q x hf hq => ?_), rfl, (hw.ro (by repeat (first | exact .nil | apply Pick.cons | exact .here | apply Ext.there)) hs)⟩
        have h1 : bL q ∈ ss := hp.symm.subset (by have := entry_key hT hf; rw [show bk q = b.toNat by omega] at this; exact this)
        obtain ⟨i, hi⟩ := List.mem_iff_getElem?.1 h1
        exact hJ.2 i _ (by have := (List.getElem?_eq_some_iff.1 hi).1; omega) hi
end Go.Proofs.Ytaihimbjdgmjgaa
