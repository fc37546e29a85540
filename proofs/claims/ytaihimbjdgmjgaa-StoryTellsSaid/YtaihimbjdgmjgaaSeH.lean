/- Keys of stories: sorted keys of a map, put into a list. -/
import Derived.Test.YtaihimbjdgmjgaaSeG
import Derived.Test.YtaihimbjdgmjgaaV22
import Derived.Test.YtaihimbjdgmjgaaSh
import Derived.Lib.Hide
import Derived.Shelf.SlIter.Nil
import Derived.Shelf.SortM.Plain
import Derived.Shelf.SortM.SortNone
import Derived.Ground.GgzProg
namespace Go.Proofs
open Go.Shelf
def Ytaihimbjdgmjgaa.keys53_ren : Go.Shelf.Ren := ⟨fun | 7 => 53 | 10 => 71 | n => n, fun | 23 => 85 | 26 => 9 | 3 => 3 | 28 => 80 | 0 => 0 | 27 => 79 | 33 => 99 | 4 => 4 | n => n, fun | n => n⟩
theorem Ytaihimbjdgmjgaa.keys53 : Go.Proofs.SlLaysZ.n7 Try.prog Ytaihimbjdgmjgaa.keys53_ren := {
  mixed := by kernel_rfl
  f7 := ⟨Try.f53.name, by decide, Try.func53.trans (congrArg some (by kernel_rfl))⟩
  f10 := ⟨Try.f71.name, by decide, Try.func71.trans (congrArg some (by kernel_rfl))⟩
  t0 := Try.underlying0
  a0 := Try.isAgg0
  z0 := Try.sizeOf0
  v0 := Try.zeroValue0
  t4 := Try.underlying4
  a4 := Try.isAgg4
  z4 := Try.sizeOf4
  v4 := Try.zeroValue4
  t23 := Try.underlying85
  a23 := Try.isAgg85
  z23 := Try.sizeOf85
  v23 := Try.zeroValue85
  t26 := Try.underlying9
  a26 := Try.isAgg9
  z26 := Try.sizeOf9
  v26 := Try.zeroValue9
  t27 := Try.underlying79
  a27 := Try.isAgg79
  z27 := Try.sizeOf79
  v27 := Try.zeroValue79
  t28 := Try.underlying80
  a28 := Try.isAgg80
  z28 := Try.sizeOf80
  v28 := Try.zeroValue80
  t33 := Try.underlying99
  a33 := Try.isAgg99
  z33 := Try.sizeOf99
  v33 := Try.zeroValue99 }
end Go.Proofs
namespace Go.Proofs.Ytaihimbjdgmjgaa
open Go Go.RowKit V
set_option linter.unusedVariables false
set_option maxRecDepth 100000
open V (ownV ownG ownS ownOk Stp Vis itO str byC)
def bL (k : ByteArray) : List UInt8 := k.data.toList
theorem bL_inj {x y : ByteArray} (h : bL x = bL y) : x = y := by
  obtain ⟨⟨a⟩⟩ := x; obtain ⟨⟨b⟩⟩ := y
  simp [bL] at h; subst h; rfl
theorem mget_mem {E : ME} (h : mnd E) {e : Nat × ByteArray × Value} (he : e ∈ E) : mget E e.2.1 = some e.2.2 := by
  induction E with
  | nil => simp at he
  | cons a r ih =>
    simp only [mget]
    have hn : (a.2.1 :: r.map (·.2.1)).Nodup := h
    rw [List.nodup_cons] at hn
    rcases List.mem_cons.1 he with rfl | he
    · simp
    · have hne : ¬ a.2.1 = e.2.1 := fun e1 => hn.1 (e1 ▸ List.mem_map_of_mem (f := (·.2.1)) he)
      rw [if_neg hne]
      exact ih hn.2 he
theorem mget_some {E : ME} {k : ByteArray} {v : Value} (h : mget E k = some v) : ∃ e ∈ E, e.2.1 = k ∧ e.2.2 = v := by
  induction E with
  | nil => simp [mget] at h
  | cons a r ih =>
    simp only [mget] at h
    split at h
    · rename_i h1; cases h; exact ⟨a, by simp, h1, rfl⟩
    · obtain ⟨e, he, h2⟩ := ih h; exact ⟨e, by simp [he], h2⟩
theorem mget_isSome {E : ME} (hE : mnd E) (q : ByteArray) : (mget E q).isSome = true ↔ q ∈ E.map (fun e => e.2.1) := by
  constructor
  · intro h
    obtain ⟨v, hv⟩ := Option.isSome_iff_exists.1 h
    obtain ⟨e, he, h2, _⟩ := mget_some hv
    exact List.mem_map.2 ⟨e, he, h2⟩
  · intro h
    obtain ⟨e, he, rfl⟩ := List.mem_map.1 h
    rw [mget_mem hE he]; rfl
theorem gtr_dec2 (x pos : ByteArray) : (!(Op.bytesLess x.toList pos.toList || decide (x = pos))) = decide (bL pos < bL x) := by
  rw [ByteArray.toList_eq, ByteArray.toList_eq, Go.Proofs.bytesLess_eq]
  rw [Bool.eq_iff_iff]
  simp only [Bool.not_eq_true', Bool.or_eq_false_iff, decide_eq_false_iff_not, decide_eq_true_eq]
  constructor
  · rintro ⟨h1, h2⟩
    rcases Classical.em (bL pos < bL x) with h3 | h3
    · exact h3
    · exfalso
      exact h2 (bL_inj (List.le_antisymm (List.not_lt.1 h3) (List.not_lt.1 h1)))
  · intro h
    refine ⟨fun h1 => List.lt_irrefl _ (List.lt_trans h h1), fun h2 => ?_⟩
    rw [← h2] at h
    exact List.lt_irrefl _ h
theorem keys_c (b : Nat) (w : World) : Calls Try.prog 53 [.map (some b)].toArray w fun e w' => ∃ kb : Nat, True ∧ e = .returned (.func (.func 71) #[] #[.pointer (some ⟨kb, 0, none⟩)]) ∧ Hp ⟨w, []⟩ [[(kb, .cells [.map (some b)].toArray 85 (0, 0))]] w' := by
  have h := (callsIn_wide (n := 5)).1 (AnyZ.keys_in keys53 Fence.wide 5 trivial rfl (some b) w)
  change Calls Try.prog 53 _ _ _ at h
  refine h.mono fun e w' ⟨h1, h2⟩ => ⟨w.heap.size, trivial, h1, ?_⟩
  subst h2
  have h0 : Hp ⟨w, []⟩ [] w := ⟨rfl, rfl, rfl, Nat.le_refl _, fun _ _ _ => rfl, by simp, by simp, by simp⟩
  exact h0.alloc _
theorem sortsIn48 (m : Nat) : AnyZ.SortsIn Try.prog Try.sorted48_ren Fence.wide m :=
  ⟨fun blk off cap ss W hH hblk hsz => callsIn_wide.2 (AnyM.slices_Sort_string Try.sort68 blk off cap ss W hH hblk hsz),
   fun p cap W => callsIn_wide.2 (AnyM.slices_Sort_string_none Try.sort68 p cap W)⟩
def UpK (L : List ByteArray) : Prop := L.Pairwise fun a b => bL a < bL b
theorem sortedKeys_c (kb b c : Nat) (E : ME) (hE : mnd E) (hS : Stp E c) (hk : ∀ e ∈ E, e.2.1.size ≤ maxLen) (hn : E.length ≤ 100000) (w : World) (hs : Sat [[(kb, .cells [.map (some b)].toArray 85 (0, 0))]] w) (hb : w.heap[b]? = some (mpO E c)) :
    Calls Try.prog 48 [.func (.func 71) #[] #[.pointer (some ⟨kb, 0, none⟩)]].toArray w fun e w' => ∃ y : V.OwnO × List ByteArray, ((UpK y.2 ∧ ∀ q, q ∈ y.2 ↔ q ∈ E.map (fun e => e.2.1)) ∧ ownOk 1 y.2.length (y.2.flatMap strC) y.1) ∧ e = .returned (ownV y.2.length y.1) ∧ Hp ⟨w, []⟩ [ownG 9 (y.2.flatMap strC) y.1] w' := by
  have hkb : w.heap[kb]? = some (.cells [.map (some b)].toArray 85 (0, 0)) := hs.own (kb, .cells [.map (some b)].toArray 85 (0, 0)) (by simp)
  have hlen : E.length ≤ maxLen := by unfold maxLen; omega
  have hown := V.owns_keys (P := Try.prog) (kt := 9) Try.underlying9 hE hS hk hlen hb
  have hseq : SeqGives Fence.wide 2 Try.prog 71 #[.pointer (some ⟨kb, 0, none⟩)] Go.Proofs.encStr (fun ss => ss.Perm (Go.strKeys (V.keyD E))) (Maps.size (V.keyD E)) w :=
    AnyZ.keys_gives (ρ := keys53_ren) { keys53 with } Fence.wide _ trivial rfl (by omega) kb b E.length (V.keyD E) w (V.lt_of_some hkb) (V.cell_of_block hkb rfl) hown
  have hcon := AnyZ.sorted_in Try.sorted48 Fence.wide 5 trivial trivial trivial trivial rfl (by omega) (sortsIn48 _) (enters_of Try.func68 (by kernel_rfl) rfl) 71 #[.pointer (some ⟨kb, 0, none⟩)] trivial (enters_of Try.func71 (by kernel_rfl) rfl) _ _ (by rw [V.keyD_size]; exact hlen) (by rw [V.keyD_size]; omega) w hseq
  have hcon2 := (callsIn_wide (n := 5)).1 hcon
  change Calls Try.prog 48 _ _ _ at hcon2
  refine hcon2.mono fun e w' ⟨v, ss, h1, h2, h3, h4, h5⟩ => ?_
  have hp : (ss.mergeSort fun x y => decide (x ≤ y)).Perm ss := List.mergeSort_perm _ _
  have hle : (ss.mergeSort fun x y => decide (x ≤ y)).length = ss.length := hp.length_eq
  rw [← hle] at h3
  obtain ⟨o, hv, hok, hhp⟩ := V.hp_of_below h5 h3
  have hperm : (ss.mergeSort fun x y => decide (x ≤ y)).Perm (E.map fun e => bL e.2.1) := hp.trans (h2.trans (V.keyD_keys E))
  have hnd : (E.map fun e => bL e.2.1).Nodup := by
    have hE' : (E.map (fun e => e.2.1)).Nodup := hE
    have := List.Pairwise.map (R := (· ≠ ·)) (S := (· ≠ ·)) bL (fun a b hab h => hab (bL_inj h)) hE'
    simpa [List.map_map, Function.comp_def, List.Nodup] using this
  have hsort : (ss.mergeSort fun x y => decide (x ≤ y)).Pairwise (fun a b => decide (a ≤ b) = true) := List.pairwise_mergeSort (fun a b c h1 h2 => by simp only [decide_eq_true_eq] at *; exact List.le_trans h1 h2) (fun a b => by simp only [Bool.or_eq_true, decide_eq_true_eq]; exact List.le_total a b) ss
  have hnd2 := (List.Perm.nodup_iff hperm).2 hnd
  have hup : (ss.mergeSort fun x y => decide (x ≤ y)).Pairwise (· < ·) := by
    refine (List.pairwise_and_iff.2 ⟨hsort, hnd2⟩).imp ?_
    intro a b ⟨h6, h7⟩
    have h8 : a ≤ b := of_decide_eq_true h6
    rcases Classical.em (a < b) with h9 | h9
    · exact h9
    · exact absurd (List.le_antisymm h8 (List.not_lt.1 h9)) h7
  generalize (ss.mergeSort fun x y => decide (x ≤ y)) = ks at hup hok hhp hperm hv
  have e1 : (ks.map fun s => (⟨s.toArray⟩ : ByteArray)).flatMap strC = ks.map Go.Proofs.encStr := by
    induction ks with
    | nil => rfl
    | cons a r ih => simp only [List.map_cons, List.flatMap_cons]; rw [show (r.map fun s => (⟨s.toArray⟩ : ByteArray)).flatMap strC = r.map Go.Proofs.encStr from by clear ih hv hok hhp hperm hup; induction r with | nil => rfl | cons c d ih2 => simp only [List.map_cons, List.flatMap_cons, ih2]; rfl]; rfl
  refine ⟨(o, ks.map fun s => (⟨s.toArray⟩ : ByteArray)), ⟨⟨?_, fun q => ?_⟩, by rw [e1, List.length_map]; exact hok⟩, by rw [h1, hv, List.length_map], by rw [e1]; exact hhp⟩
  · exact List.Pairwise.map _ (fun a b h => by unfold bL; simpa using h) hup
  · constructor
    · intro hq
      obtain ⟨s, hs1, rfl⟩ := List.mem_map.1 hq
      obtain ⟨e, he, h6⟩ := List.mem_map.1 (hperm.subset hs1)
      exact List.mem_map.2 ⟨e, he, by rw [← h6]; exact V.str_of _⟩
    · intro hq
      obtain ⟨e, he, rfl⟩ := List.mem_map.1 hq
      exact List.mem_map.2 ⟨bL e.2.1, hperm.symm.subset (List.mem_map.2 ⟨e, he, rfl⟩), (V.str_of _).symm⟩
theorem upK_uniq {L L' : List ByteArray} (h : UpK L) (h' : UpK L') (hm : ∀ q, q ∈ L ↔ q ∈ L') : L = L' := by
  have nd : ∀ {M : List ByteArray}, UpK M → M.Nodup := fun hp => hp.imp fun {a b} hab e => by subst e; exact List.lt_irrefl _ hab
  have hp : L.Perm L' := (List.perm_ext_iff_of_nodup (nd h) (nd h')).2 hm
  exact List.Perm.eq_of_pairwise (fun a b _ _ h3 h4 => absurd (List.lt_trans h3 h4) (List.lt_irrefl _)) h h' hp
/-- The new list, as far as put has come. -/
def PutS (L : List ByteArray) (key : ByteArray) (i : Nat) (N : List ByteArray) : Bool → Prop
  | false => N = L.take i ∧ ∀ x ∈ L.take i, bL x < bL key
  | true => ∃ t, t ≤ i ∧ N = L.take t ++ key :: (L.take i).drop t ∧ (∀ x ∈ L.take t, bL x < bL key) ∧ ∀ x ∈ L.drop t, bL key < bL x
theorem take_snocK {L : List ByteArray} {i : Nat} {x : ByteArray} (h : L[i]? = some x) : L.take (i + 1) = L.take i ++ [x] := by rw [List.take_add_one, h]; rfl
theorem PutS.keepF {L : List ByteArray} {key x : ByteArray} {i : Nat} {N : List ByteArray} (h : PutS L key i N false) (hx : L[i]? = some x) (hlt : bL x < bL key) : PutS L key (i + 1) (N ++ [x]) false := by
  refine ⟨by rw [h.1, take_snocK hx], fun y hy => ?_⟩
  rw [take_snocK hx] at hy
  rcases List.mem_append.1 hy with hy | hy
  · exact h.2 y hy
  · rw [List.mem_singleton] at hy; subst hy; exact hlt
theorem PutS.keepT {L : List ByteArray} {key x : ByteArray} {i : Nat} {N : List ByteArray} (h : PutS L key i N true) (hx : L[i]? = some x) : PutS L key (i + 1) (N ++ [x]) true := by
  obtain ⟨t, ht, hN, h1, h2⟩ := h
  have hi := (List.getElem?_eq_some_iff.1 hx).1
  refine ⟨t, by omega, ?_, h1, h2⟩
  rw [hN, take_snocK hx, List.drop_append_of_le_length (by rw [List.length_take]; omega)]
  simp
theorem PutS.here {L : List ByteArray} (hU : UpK L) {key x : ByteArray} {i : Nat} {N : List ByteArray} (h : PutS L key i N false) (hx : L[i]? = some x) (hlt : bL key < bL x) : PutS L key (i + 1) (N ++ [key] ++ [x]) true := by
  have hi := (List.getElem?_eq_some_iff.1 hx).1
  refine ⟨i, by omega, ?_, h.2, fun y hy => ?_⟩
  · rw [h.1, take_snocK hx, List.drop_append_of_le_length (by rw [List.length_take]; omega), List.drop_eq_nil_iff.2 (by rw [List.length_take]; omega)]
    simp
  · obtain ⟨j, hj⟩ := List.mem_iff_getElem?.1 hy
    rw [List.getElem?_drop] at hj
    rcases Nat.eq_zero_or_pos j with e | e
    · subst e; rw [Nat.add_zero, hx] at hj; cases hj; exact hlt
    · have h3 := List.pairwise_iff_getElem.1 hU i (i + j) hi (List.getElem?_eq_some_iff.1 hj).1 (by omega)
      rw [(List.getElem?_eq_some_iff.1 hx).2, (List.getElem?_eq_some_iff.1 hj).2] at h3
      exact List.lt_trans hlt h3
theorem PutS.fin {L : List ByteArray} (hU : UpK L) {key : ByteArray} {N : List ByteArray} {b : Bool} (h : PutS L key L.length N b) : UpK (if b then N else N ++ [key]) ∧ ∀ q, q ∈ (if b then N else N ++ [key]) ↔ q = key ∨ q ∈ L := by
  cases b with
  | false =>
    obtain ⟨h1, h2⟩ := h
    rw [List.take_length] at h1 h2
    subst h1
    simp only [Bool.false_eq_true, if_false]
    refine ⟨List.pairwise_append.2 ⟨hU, by simp, fun a ha b hb => by rw [List.mem_singleton] at hb; subst hb; exact h2 a ha⟩, fun q => ?_⟩
    simp [or_comm]
  | true =>
    obtain ⟨t, ht, hN, h1, h2⟩ := h
    rw [List.take_length] at hN
    subst hN
    simp only [if_true]
    have h0 : UpK (L.take t ++ L.drop t) := by rw [List.take_append_drop]; exact hU
    obtain ⟨a, b, c⟩ := List.pairwise_append.1 h0
    refine ⟨List.pairwise_append.2 ⟨a, List.pairwise_cons.2 ⟨h2, b⟩, fun x hx y hy => ?_⟩, fun q => ?_⟩
    · rcases List.mem_cons.1 hy with e | hy
      · rw [e]; exact h1 x hx
      · exact c x hx y hy
    · rw [List.mem_append, List.mem_cons]
      have : q ∈ L ↔ q ∈ L.take t ∨ q ∈ L.drop t := by rw [← List.mem_append, List.take_append_drop]
      rw [this]
      constructor
      · rintro (h | h | h)
        · exact .inr (.inl h)
        · exact .inl h
        · exact .inr (.inr h)
      · rintro (h | h | h)
        · exact .inr (.inl h)
        · exact .inl h
        · exact .inr (.inr h)
def PutOk (L : List ByteArray) (key : ByteArray) (L' : List ByteArray) : Prop := UpK L' ∧ (∀ q, q ∈ L' ↔ q = key ∨ q ∈ L) ∧ L'.length ≤ L.length + 1
theorem PutS.len {L : List ByteArray} {key : ByteArray} {i : Nat} {N : List ByteArray} {b : Bool} (hi : i ≤ L.length) (h : PutS L key i N b) : N.length = if b then i + 1 else i := by
  cases b with
  | false => rw [h.1, List.length_take]; simp; omega
  | true => obtain ⟨t, ht, hN, _⟩ := h; rw [hN]; simp; omega
theorem put_c (o : V.OwnO) (L : List ByteArray) (key : ByteArray) (hU : UpK L) (hok : ownOk 1 L.length (L.flatMap strC) o) (hl : L.length ≤ 50000) (w : World) (hs : Sat [ownG 9 (L.flatMap strC) o] w) : Calls Try.prog 58 [ownV L.length o, .string key].toArray w fun e w' => ∃ y : V.OwnO × List ByteArray, (ownOk 1 y.2.length (y.2.flatMap strC) y.1 ∧ PutOk L key y.2) ∧ e = .returned (ownV y.2.length y.1) ∧ Hp ⟨w, ids [ownG 9 (L.flatMap strC) o]⟩ [ownG 9 (y.2.flatMap strC) y.1] w' := by
  refine V.calls [ownG 9 (L.flatMap strC) o] Try.func58 rfl Try.ntmps58 (Nat.le_of_ble_eq_true rfl) hs ?_
  refine CW.seq ?_
  refine CW.region ?_
  refine LW.v rfl rfl (Val.assign rfl) ?_
  refine LW.nil ?_
  refine PQ.seq ?_
  refine CW.seq ?_
  refine CW.region ?_
  refine LW.v rfl rfl (Val.assign rfl) ?_
  refine LW.nil ?_
  refine PQ.seq ?_
  refine CW.seq ?_
  refine CW.region ?_
  refine LW.v rfl rfl (Val.assign rfl) ?_
  refine LW.nil ?_
  refine PQ.seq ?_
  refine CW.seq ?_
  refine CW.seq ?_
  refine CW.region ?_
  refine LW.v rfl rfl (Val.assign rfl) ?_
  refine LW.nil ?_
  refine PQ.seq ?_
  refine CW.block ?_
  refine V.CW.addOwn 9 ?_
  refine CW.loop (γ := Nat × V.OwnO × List ByteArray × Bool) (fun k => [(0, ownV L.length o), (1, .string key), (5, ownV k.2.2.1.length k.2.1), (6, .bool k.2.2.2), (7, .int .i64 (k.1 : Nat))]) (fun k => [ownG 9 (L.flatMap strC) o, ownG 9 (k.2.2.1.flatMap strC) k.2.1]) (fun k => k.1 ≤ L.length ∧ ownOk 1 k.2.2.1.length (k.2.2.1.flatMap strC) k.2.1 ∧ PutS L key k.1 k.2.2.1 k.2.2.2 ∧ (∀ i y, i < k.1 → L[i]? = some y → y ≠ key)) (fun k => L.length - k.1) ((0, none, [], false)) ⟨Nat.zero_le _, ⟨rfl, rfl⟩, ⟨rfl, by simp⟩, fun i y hi => by omega⟩ (by repeat (first | exact trivial | refine ⟨rfl, ?_⟩)) (by repeat (first | exact .nil | apply Pick.cons | exact .here | apply Ext.there)) ?_
  intro k
  rintro ⟨hk1, hk2, hk3, hk4⟩
  have hln0 : k.2.2.1.length ≤ k.1 + 1 := by rw [PutS.len hk1 hk3]; split <;> omega
  refine CW.seq ?_
  refine CW.seq ?_
  refine CW.region ?_
  refine LW.v rfl rfl (Val.move rfl) ?_
  refine LW.v rfl rfl (Val.move rfl) ?_
  refine LW.v rfl rfl (Val.lenOwn rfl Try.underlying50 hok) ?_
  refine LW.v rfl rfl (Val.cmp rfl rfl rfl) ?_
  refine LW.nil ?_
  refine PQ.seq ?_
  refine CW.cond rfl (fun h11 => ?_) (fun h11 => ?_)
  · replace h11 := bT h11
    obtain ⟨⟨g, rest, cap⟩, rfl⟩ := own_some hok (by omega)
    obtain ⟨x, hx⟩ : ∃ x, L[k.1]? = some x := ⟨L[k.1]'(by omega), by simp⟩
    rw [V.ownG_some]
    refine CW.skip ?_
    refine PQ.seq ?_
    refine CW.seq ?_
    refine CW.block ?_
    refine CW.seq ?_
    refine CW.seq ?_
    refine CW.region ?_
    refine LW.v rfl rfl (Val.move rfl) ?_
    refine LW.v rfl rfl (Val.move rfl) ?_
    first | (refine LW.v rfl rfl (Val.indexAddrN rfl rfl Try.underlying50 Try.sizeOf9 (by omega)) ?_) | (refine LW.v rfl rfl (Val.indexAddr rfl rfl Try.underlying50 Try.sizeOf9 (by omega) (by omega)) ?_)
    refine LW.v rfl rfl (Val.load (T := 9) (v := .string x) rfl Try.isAgg9 (by repeat (first | exact .here | refine .there ?_)) (cell_flat (j := 0) st_len rest hx rfl)) ?_
    refine LW.v rfl rfl (Val.move rfl) ?_
    refine LW.v rfl rfl (Val.cmpS rfl rfl rfl) ?_
    refine LW.nil ?_
    refine PQ.seq ?_
    refine CW.cond rfl (fun h19 => ?_) (fun h19 => ?_)
    · replace h19 := bT h19
      refine CW.seq ?_
      refine CW.region ?_
      refine LW.v rfl rfl (Val.move rfl) ?_
      refine LW.v rfl rfl (Val.assign rfl) ?_
      refine LW.nil ?_
      refine PQ.seq ?_
      refine CW.ret ?_
      refine PQ.then_ret ?_
      refine PQ.in_ret ?_
      refine PQ.then_ret ?_
      refine PQ.then_ret ?_
      refine PQ.in_ret ?_
      refine PQ.then_ret ?_
      refine PQ.ret1 rfl rfl ?_
      intro w' hw
      exact ⟨(some (g, rest, cap), L), ⟨hok, hU, fun q => ⟨fun h => .inr h, fun h => by rcases h with rfl | h; exact h19 ▸ List.mem_of_getElem? hx; exact h⟩, by simp only; omega⟩, rfl, hw.pick (by repeat (first | exact .nil | apply Pick.cons | exact .here | apply Ext.there))⟩
    · replace h19 := bF h19
      have hne : x ≠ key := h19
      refine CW.skip ?_
      refine PQ.seq ?_
      refine CW.seq ?_
      refine CW.seq ?_
      refine CW.region ?_
      refine LW.v rfl rfl (Val.move rfl) ?_
      refine LW.v rfl rfl (Val.not rfl) ?_
      refine LW.v rfl rfl (Val.move rfl) ?_
      refine LW.split (d := 23) rfl (fun h23 => ?_) (fun h23 => ?_)
      · replace h23 := bT h23
        have hin : k.2.2.2 = false := by simpa using h23
        refine LW.v rfl rfl (Val.move rfl) ?_
        refine LW.v rfl rfl (Val.move rfl) ?_
        first | (refine LW.v rfl rfl (Val.indexAddrN rfl rfl Try.underlying50 Try.sizeOf9 (by omega)) ?_) | (refine LW.v rfl rfl (Val.indexAddr rfl rfl Try.underlying50 Try.sizeOf9 (by omega) (by omega)) ?_)
        refine LW.v rfl rfl (Val.load (T := 9) (v := .string x) rfl Try.isAgg9 (by repeat (first | exact .here | refine .there ?_)) (cell_flat (j := 0) st_len rest hx rfl)) ?_
        refine LW.v rfl rfl (Val.move rfl) ?_
        refine LW.v rfl rfl (Val.cmpS rfl rfl rfl) ?_
        refine LW.re 29 (.bool (decide (bL key < bL x))) rfl (congrArg Value.bool (gtr_dec2 _ _)) ?_
        refine LW.v rfl rfl (Val.pick_t rfl rfl) ?_
        refine LW.nil ?_
        refine PQ.seq ?_
        refine CW.cond rfl (fun h30 => ?_) (fun h30 => ?_)
        · replace h30 := bT h30
          have hgt : bL key < bL x := by simpa using h30
          refine CW.seq ?_
          refine CW.region ?_
          refine LW.v rfl rfl (Val.move rfl) ?_
          refine LW.v rfl rfl (Val.move rfl) ?_
          refine LW.e rfl rfl (Eff.buildSlice (rfl) [_] Try.underlying50 Try.sizeOf9 (by exact Try.zeroValue9) rfl rfl rfl rfl (by rfl)) ?_
          intro b33 _
          refine LW.e rfl rfl (Eff.appendAny (strC key) (sz := 1) (bytes := 16) (z := .string ⟨#[]⟩) (xs := k.2.2.1.flatMap strC) (m0 := k.2.2.1.length) (o := k.2.1) (m := 1) (pk := [ownG 9 (k.2.2.1.flatMap strC) k.2.1]) rfl rfl Try.underlying50 (by kernel_rfl) rfl (by omega) (by repeat (first | exact .nil | apply Pick.cons | exact .here | apply Ext.there)) (by simp) hk2 (by rfl) (fun hm0 => ⟨b33, 0, rfl, fun w hw => V.range_of_block (o := 0) (cs := strC key) (r := []) (hw.own _ (show InS (b33, .cells (strC key).toArray 9 (0, 0)) _ from (by repeat (first | exact .here | refine .there ?_))).mem) rfl⟩) (by rfl) (by first | omega | (simp only [List.length_append, List.length_cons, List.length_nil]; omega)) (by first | omega | (simp only [List.length_append, List.length_cons, List.length_nil]; omega))) ?_
          intro o7 ho7
          obtain ⟨o8, ho8, h87⟩ : ∃ o8, ownOk 1 (k.2.2.1 ++ [key]).length ((k.2.2.1 ++ [key]).flatMap strC) o8 ∧ o8 = o7 := ⟨o7, by rw [flat_snoc, List.length_append]; exact ho7, rfl⟩
          subst h87
          rw [show k.2.2.1.flatMap strC ++ strC key = (k.2.2.1 ++ [key]).flatMap strC from by simp]
          refine LW.re 34 (ownV (k.2.2.1 ++ [key]).length o8) rfl (by rw [List.length_append]; rfl) ?_
          refine LW.v rfl rfl (Val.assign rfl) ?_
          refine LW.nil ?_
          refine PQ.seq ?_
          refine CW.region ?_
          refine LW.v rfl rfl (Val.assign rfl) ?_
          refine LW.nil ?_
          refine PQ.seq ?_
          refine CW.region ?_
          refine LW.v rfl rfl (Val.move rfl) ?_
          refine LW.v rfl rfl (Val.move rfl) ?_
          refine LW.v rfl rfl (Val.move rfl) ?_
          first | (refine LW.v rfl rfl (Val.indexAddrN rfl rfl Try.underlying50 Try.sizeOf9 (by omega)) ?_) | (refine LW.v rfl rfl (Val.indexAddr rfl rfl Try.underlying50 Try.sizeOf9 (by omega) (by omega)) ?_)
          refine LW.v rfl rfl (Val.load (T := 9) (v := .string x) rfl Try.isAgg9 (by repeat (first | exact .here | refine .there ?_)) (cell_flat (j := 0) st_len rest hx rfl)) ?_
          refine LW.e rfl rfl (Eff.buildSlice (rfl) [_] Try.underlying50 Try.sizeOf9 (by exact Try.zeroValue9) rfl rfl rfl rfl (by rfl)) ?_
          intro b40 _
          refine LW.e rfl rfl (Eff.appendAny (strC x) (sz := 1) (bytes := 16) (z := .string ⟨#[]⟩) (xs := (k.2.2.1 ++ [key]).flatMap strC) (m0 := (k.2.2.1 ++ [key]).length) (o := o8) (m := 1) (pk := [ownG 9 ((k.2.2.1 ++ [key]).flatMap strC) o8]) rfl rfl Try.underlying50 (by kernel_rfl) rfl (by omega) (by repeat (first | exact .nil | apply Pick.cons | exact .here | apply Ext.there)) (by simp) ho8 (by rfl) (fun hm0 => ⟨b40, 0, rfl, fun w hw => V.range_of_block (o := 0) (cs := strC x) (r := []) (hw.own _ (show InS (b40, .cells (strC x).toArray 9 (0, 0)) _ from (by repeat (first | exact .here | refine .there ?_))).mem) rfl⟩) (by rfl) (by first | omega | (simp only [List.length_append, List.length_cons, List.length_nil]; omega)) (by first | omega | (simp only [List.length_append, List.length_cons, List.length_nil]; omega))) ?_
          intro o9 ho9
          refine LW.v rfl rfl (Val.assign rfl) ?_
          refine LW.nil ?_
          refine PQ.in_normal ?_
          refine PQ.seq ?_
          refine CW.region ?_
          refine LW.v rfl rfl (Val.move rfl) ?_
          refine LW.v rfl rfl (Val.ar rfl rfl rfl (IntWalk.i64_in _ (by omega))) ?_
          refine LW.v rfl rfl (Val.assign rfl) ?_
          refine LW.nil ?_
          have hput : PutS L key (k.1 + 1) (k.2.2.1 ++ [key] ++ [x]) true := by
            have h1 := hk3
            rw [hin] at h1
            exact h1.here hU hx hgt
          refine PQ.segs (ss := [ownG 9 (L.flatMap strC) (some (g, rest, cap)), ownG 9 ((k.2.2.1 ++ [key]).flatMap strC ++ strC x) o9]) ?_ (by repeat (first | exact .nil | apply Pick.cons | exact .here | apply Ext.there))
          rw [show (k.2.2.1 ++ [key]).flatMap strC ++ strC x = (k.2.2.1 ++ [key] ++ [x]).flatMap strC from by simp]
          refine PQ.round ((k.1 + 1, o9, (k.2.2.1 ++ [key] ++ [x]), true)) ⟨by simp only; omega, by simp only; rw [flat_snoc, List.length_append]; exact ho9, hput, fun i y hi hy => by
            by_cases e : i = k.1
            · subst e; rw [hx] at hy; cases hy; exact hne
            · exact hk4 i y (by simp only at hi; omega) hy⟩ (by simp only; omega) (by exact ⟨rfl, rfl, by simp only [List.length_append, List.length_cons, List.length_nil]; rfl, rfl, rfl, trivial⟩) (by repeat (first | exact .nil | apply Pick.cons | exact .here | apply Ext.there))
        · replace h30 := bF h30
          have hlt : bL x < bL key := by
            have h1 : ¬ bL key < bL x := by simpa using h30
            rcases Classical.em (bL x < bL key) with h2 | h2
            · exact h2
            · exact absurd (bL_inj (List.le_antisymm (List.not_lt.1 h1) (List.not_lt.1 h2))) hne
          refine CW.skip ?_
          refine PQ.seq ?_
          refine CW.region ?_
          refine LW.v rfl rfl (Val.move rfl) ?_
          refine LW.v rfl rfl (Val.move rfl) ?_
          refine LW.v rfl rfl (Val.move rfl) ?_
          first | (refine LW.v rfl rfl (Val.indexAddrN rfl rfl Try.underlying50 Try.sizeOf9 (by omega)) ?_) | (refine LW.v rfl rfl (Val.indexAddr rfl rfl Try.underlying50 Try.sizeOf9 (by omega) (by omega)) ?_)
          refine LW.v rfl rfl (Val.load (T := 9) (v := .string x) rfl Try.isAgg9 (by repeat (first | exact .here | refine .there ?_)) (cell_flat (j := 0) st_len rest hx rfl)) ?_
          refine LW.e rfl rfl (Eff.buildSlice (rfl) [_] Try.underlying50 Try.sizeOf9 (by exact Try.zeroValue9) rfl rfl rfl rfl (by rfl)) ?_
          intro b40 _
          refine LW.e rfl rfl (Eff.appendAny (strC x) (sz := 1) (bytes := 16) (z := .string ⟨#[]⟩) (xs := k.2.2.1.flatMap strC) (m0 := k.2.2.1.length) (o := k.2.1) (m := 1) (pk := [ownG 9 (k.2.2.1.flatMap strC) k.2.1]) rfl rfl Try.underlying50 (by kernel_rfl) rfl (by omega) (by repeat (first | exact .nil | apply Pick.cons | exact .here | apply Ext.there)) (by simp) hk2 (by rfl) (fun hm0 => ⟨b40, 0, rfl, fun w hw => V.range_of_block (o := 0) (cs := strC x) (r := []) (hw.own _ (show InS (b40, .cells (strC x).toArray 9 (0, 0)) _ from (by repeat (first | exact .here | refine .there ?_))).mem) rfl⟩) (by rfl) (by first | omega | (simp only [List.length_append, List.length_cons, List.length_nil]; omega)) (by first | omega | (simp only [List.length_append, List.length_cons, List.length_nil]; omega))) ?_
          intro o9 ho9
          refine LW.v rfl rfl (Val.assign rfl) ?_
          refine LW.nil ?_
          refine PQ.in_normal ?_
          refine PQ.seq ?_
          refine CW.region ?_
          refine LW.v rfl rfl (Val.move rfl) ?_
          refine LW.v rfl rfl (Val.ar rfl rfl rfl (IntWalk.i64_in _ (by omega))) ?_
          refine LW.v rfl rfl (Val.assign rfl) ?_
          refine LW.nil ?_
          have hput : PutS L key (k.1 + 1) (k.2.2.1 ++ [x]) k.2.2.2 := by
            have h1 := hk3
            rw [hin] at h1 ⊢
            exact h1.keepF hx hlt
          refine PQ.segs (ss := [ownG 9 (L.flatMap strC) (some (g, rest, cap)), ownG 9 (k.2.2.1.flatMap strC ++ strC x) o9]) ?_ (by repeat (first | exact .nil | apply Pick.cons | exact .here | apply Ext.there))
          rw [show k.2.2.1.flatMap strC ++ strC x = (k.2.2.1 ++ [x]).flatMap strC from by simp]
          refine PQ.round ((k.1 + 1, o9, (k.2.2.1 ++ [x]), k.2.2.2)) ⟨by simp only; omega, by simp only; rw [flat_snoc, List.length_append]; exact ho9, hput, fun i y hi hy => by
            by_cases e : i = k.1
            · subst e; rw [hx] at hy; cases hy; exact hne
            · exact hk4 i y (by simp only at hi; omega) hy⟩ (by simp only; omega) (by exact ⟨rfl, rfl, by simp only [List.length_append, List.length_cons, List.length_nil]; rfl, rfl, rfl, trivial⟩) (by repeat (first | exact .nil | apply Pick.cons | exact .here | apply Ext.there))
      · replace h23 := bF h23
        have hin : k.2.2.2 = true := by simpa using h23
        refine LW.p rfl rfl ?_
        refine LW.p rfl rfl ?_
        refine LW.p rfl rfl ?_
        refine LW.p rfl rfl ?_
        refine LW.p rfl rfl ?_
        refine LW.p rfl rfl ?_
        refine LW.v rfl rfl (Val.pick_f rfl rfl) ?_
        refine LW.nil ?_
        refine PQ.seq ?_
        refine CW.cond_f rfl ?_
        refine CW.skip ?_
        refine PQ.seq ?_
        refine CW.region ?_
        refine LW.v rfl rfl (Val.move rfl) ?_
        refine LW.v rfl rfl (Val.move rfl) ?_
        refine LW.v rfl rfl (Val.move rfl) ?_
        first | (refine LW.v rfl rfl (Val.indexAddrN rfl rfl Try.underlying50 Try.sizeOf9 (by omega)) ?_) | (refine LW.v rfl rfl (Val.indexAddr rfl rfl Try.underlying50 Try.sizeOf9 (by omega) (by omega)) ?_)
        refine LW.v rfl rfl (Val.load (T := 9) (v := .string x) rfl Try.isAgg9 (by repeat (first | exact .here | refine .there ?_)) (cell_flat (j := 0) st_len rest hx rfl)) ?_
        refine LW.e rfl rfl (Eff.buildSlice (rfl) [_] Try.underlying50 Try.sizeOf9 (by exact Try.zeroValue9) rfl rfl rfl rfl (by rfl)) ?_
        intro b40 _
        refine LW.e rfl rfl (Eff.appendAny (strC x) (sz := 1) (bytes := 16) (z := .string ⟨#[]⟩) (xs := k.2.2.1.flatMap strC) (m0 := k.2.2.1.length) (o := k.2.1) (m := 1) (pk := [ownG 9 (k.2.2.1.flatMap strC) k.2.1]) rfl rfl Try.underlying50 (by kernel_rfl) rfl (by omega) (by repeat (first | exact .nil | apply Pick.cons | exact .here | apply Ext.there)) (by simp) hk2 (by rfl) (fun hm0 => ⟨b40, 0, rfl, fun w hw => V.range_of_block (o := 0) (cs := strC x) (r := []) (hw.own _ (show InS (b40, .cells (strC x).toArray 9 (0, 0)) _ from (by repeat (first | exact .here | refine .there ?_))).mem) rfl⟩) (by rfl) (by first | omega | (simp only [List.length_append, List.length_cons, List.length_nil]; omega)) (by first | omega | (simp only [List.length_append, List.length_cons, List.length_nil]; omega))) ?_
        intro o9 ho9
        refine LW.v rfl rfl (Val.assign rfl) ?_
        refine LW.nil ?_
        refine PQ.in_normal ?_
        refine PQ.seq ?_
        refine CW.region ?_
        refine LW.v rfl rfl (Val.move rfl) ?_
        refine LW.v rfl rfl (Val.ar rfl rfl rfl (IntWalk.i64_in _ (by omega))) ?_
        refine LW.v rfl rfl (Val.assign rfl) ?_
        refine LW.nil ?_
        have hput : PutS L key (k.1 + 1) (k.2.2.1 ++ [x]) k.2.2.2 := by
          have h1 := hk3
          rw [hin] at h1 ⊢
          exact h1.keepT hx
        refine PQ.segs (ss := [ownG 9 (L.flatMap strC) (some (g, rest, cap)), ownG 9 (k.2.2.1.flatMap strC ++ strC x) o9]) ?_ (by repeat (first | exact .nil | apply Pick.cons | exact .here | apply Ext.there))
        rw [show k.2.2.1.flatMap strC ++ strC x = (k.2.2.1 ++ [x]).flatMap strC from by simp]
        refine PQ.round ((k.1 + 1, o9, (k.2.2.1 ++ [x]), k.2.2.2)) ⟨by simp only; omega, by simp only; rw [flat_snoc, List.length_append]; exact ho9, hput, fun i y hi hy => by
          by_cases e : i = k.1
          · subst e; rw [hx] at hy; cases hy; exact hne
          · exact hk4 i y (by simp only at hi; omega) hy⟩ (by simp only; omega) (by exact ⟨rfl, rfl, by simp only [List.length_append, List.length_cons, List.length_nil]; rfl, rfl, rfl, trivial⟩) (by repeat (first | exact .nil | apply Pick.cons | exact .here | apply Ext.there))
  · replace h11 := bF h11
    refine CW.exit ?_
    refine PQ.then_exit ?_
    refine PQ.then_exit ?_
    refine PQ.in_here ?_
    refine PQ.seq ?_
    refine CW.seq ?_
    refine CW.seq ?_
    refine CW.region ?_
    refine LW.v rfl rfl (Val.move rfl) ?_
    refine LW.v rfl rfl (Val.not rfl) ?_
    refine LW.nil ?_
    refine PQ.seq ?_
    refine CW.cond rfl (fun h43 => ?_) (fun h43 => ?_)
    · replace h43 := bT h43
      have hin : k.2.2.2 = false := by simpa using h43
      refine CW.region ?_
      refine LW.v rfl rfl (Val.move rfl) ?_
      refine LW.v rfl rfl (Val.move rfl) ?_
      refine LW.e rfl rfl (Eff.buildSlice (rfl) [_] Try.underlying50 Try.sizeOf9 (by exact Try.zeroValue9) rfl rfl rfl rfl (by rfl)) ?_
      intro b46 _
      refine LW.e rfl rfl (Eff.appendAny (strC key) (sz := 1) (bytes := 16) (z := .string ⟨#[]⟩) (xs := k.2.2.1.flatMap strC) (m0 := k.2.2.1.length) (o := k.2.1) (m := 1) (pk := [ownG 9 (k.2.2.1.flatMap strC) k.2.1]) rfl rfl Try.underlying50 (by kernel_rfl) rfl (by omega) (by repeat (first | exact .nil | apply Pick.cons | exact .here | apply Ext.there)) (by simp) hk2 (by rfl) (fun hm0 => ⟨b46, 0, rfl, fun w hw => V.range_of_block (o := 0) (cs := strC key) (r := []) (hw.own _ (show InS (b46, .cells (strC key).toArray 9 (0, 0)) _ from (by repeat (first | exact .here | refine .there ?_))).mem) rfl⟩) (by rfl) (by first | omega | (simp only [List.length_append, List.length_cons, List.length_nil]; omega)) (by first | omega | (simp only [List.length_append, List.length_cons, List.length_nil]; omega))) ?_
      intro o9 ho9
      refine LW.v rfl rfl (Val.assign rfl) ?_
      refine LW.nil ?_
      refine PQ.seq ?_
      refine CW.seq ?_
      refine CW.region ?_
      refine LW.v rfl rfl (Val.move rfl) ?_
      refine LW.v rfl rfl (Val.assign rfl) ?_
      refine LW.nil ?_
      refine PQ.seq ?_
      refine CW.ret ?_
      refine PQ.ret1 rfl rfl ?_
      intro w' hw
      have hki : k.1 = L.length := by omega
      have hfin := PutS.fin hU (hki ▸ hk3)
      rw [hin] at hfin
      simp only [Bool.false_eq_true, if_false, if_true] at hfin
      have hln := PutS.len hk1 hk3
      rw [hin] at hln
      simp only [Bool.false_eq_true, if_false, if_true] at hln
      exact ⟨(o9, k.2.2.1 ++ [key]), ⟨by rw [flat_snoc, List.length_append]; exact ho9, hfin.1, hfin.2, by simp; omega⟩, by simp only [List.length_append, List.length_cons, List.length_nil], by have h5 := hw.pick (ss := [ownG 9 (k.2.2.1.flatMap strC ++ strC key) o9]) (by repeat (first | exact .nil | apply Pick.cons | exact .here | apply Ext.there)); rw [flat_snoc]; exact h5⟩
    · replace h43 := bF h43
      have hin : k.2.2.2 = true := by simpa using h43
      refine CW.skip ?_
      refine PQ.seq ?_
      refine CW.seq ?_
      refine CW.region ?_
      refine LW.v rfl rfl (Val.move rfl) ?_
      refine LW.v rfl rfl (Val.assign rfl) ?_
      refine LW.nil ?_
      refine PQ.seq ?_
      refine CW.ret ?_
      refine PQ.ret1 rfl rfl ?_
      intro w' hw
      have hki : k.1 = L.length := by omega
      have hfin := PutS.fin hU (hki ▸ hk3)
      rw [hin] at hfin
      simp only [Bool.false_eq_true, if_false, if_true] at hfin
      have hln := PutS.len hk1 hk3
      rw [hin] at hln
      simp only [Bool.false_eq_true, if_false, if_true] at hln
      exact ⟨(k.2.1, k.2.2.1), ⟨hk2, hfin.1, hfin.2, by simp only; omega⟩, rfl, hw.pick (by repeat (first | exact .nil | apply Pick.cons | exact .here | apply Ext.there))⟩
end Go.Proofs.Ytaihimbjdgmjgaa
