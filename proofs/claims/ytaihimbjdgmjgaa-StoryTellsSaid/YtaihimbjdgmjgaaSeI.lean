/- Keys of stories, of the program and of the document. -/
import Derived.Test.YtaihimbjdgmjgaaSeH
import Derived.Lib.Hide
namespace Go.Proofs.Ytaihimbjdgmjgaa
open Go Go.RowKit V
set_option linter.unusedVariables false
set_option maxRecDepth 100000
open V (ownV ownG ownS ownOk Stp Vis itO str byC)
/-- What is known of stories' groups and keys. -/
def GOk (W : World) (l : List Sto) (gr : Sto → List Cl) : Prop := ∀ s ∈ l, s.call.grp.n = (gr s).length ∧ V.slAt W s.call.grp.a 5 Cl.cells (gr s) ∧ (gr s).length ≤ 600 ∧ s.call.key.size ≤ maxLen ∧ ∀ x ∈ gr s, x.key.size ≤ maxLen
def callsOf (gr : Sto → List Cl) (s : Sto) : List Cl := if s.call.ck = 7 then gr s else [s.call]
def keysOf (cs : List Cl) : List ByteArray := (cs.filter fun c => kyd c.ck).map Cl.key
def keysAll (gr : Sto → List Cl) (l : List Sto) : List ByteArray := l.flatMap fun s => keysOf (callsOf gr s)
theorem keysOf_len (cs : List Cl) : (keysOf cs).length ≤ cs.length := by unfold keysOf; rw [List.length_map]; exact List.length_filter_le _ _
theorem keysOf_yes {cs : List Cl} {i : Nat} {x : Cl} (h : cs[i]? = some x) (hk : kyd x.ck = true) : keysOf (cs.take (i + 1)) = keysOf (cs.take i) ++ [x.key] := by
  unfold keysOf
  rw [List.take_add_one, h, List.filter_append, List.map_append]
  simp [hk]
theorem keysOf_no {cs : List Cl} {i : Nat} {x : Cl} (h : cs[i]? = some x) (hk : kyd x.ck = false) : keysOf (cs.take (i + 1)) = keysOf (cs.take i) := by
  unfold keysOf
  rw [List.take_add_one, h, List.filter_append, List.map_append]
  simp [hk]
theorem keysAll_snoc {gr : Sto → List Cl} {l : List Sto} {i : Nat} {s : Sto} (h : l[i]? = some s) : keysAll gr (l.take (i + 1)) = keysAll gr (l.take i) ++ keysOf (callsOf gr s) := by
  unfold keysAll
  rw [List.take_add_one, h, List.flatMap_append]
  simp
theorem keysAll_len {W : World} {gr : Sto → List Cl} : ∀ {l : List Sto}, GOk W l gr → (keysAll gr l).length ≤ 601 * l.length
  | [], _ => by simp [keysAll]
  | s :: r, h => by
    have ih := keysAll_len (l := r) (fun x hx => h x (by simp [hx]))
    have h1 := (h s (by simp)).2.2.1
    have h2 := keysOf_len (callsOf gr s)
    have h3 : (callsOf gr s).length ≤ 601 := by
      unfold callsOf; split
      · omega
      · simp
    unfold keysAll at ih ⊢
    simp only [List.flatMap_cons, List.length_append, List.length_cons]
    omega
/-- A map of these keys. -/
structure KAcc (E : V.ME) (c : Nat) (L : List ByteArray) : Prop where
  nd : V.mnd E
  st : Stp E c
  ok : ∀ e ∈ E, e.2.1.size ≤ maxLen ∧ ∃ v, e.2.2 = .int .i64 v
  mem : ∀ q, q ∈ E.map (fun e => e.2.1) ↔ q ∈ L
  len : E.length ≤ L.length
theorem KAcc.nil : KAcc [] 0 [] := ⟨List.nodup_nil, Stp.nil 0, by simp, by simp, by simp⟩
theorem mupd_mem {k : ByteArray} {v : Value} : ∀ {E : V.ME} {e : Nat × ByteArray × Value}, e ∈ V.mupd E k v → (e.2.1 = k ∧ e.2.2 = v) ∨ e ∈ E
  | [], e, h => by simp [V.mupd] at h
  | a :: r, e, h => by
    simp only [V.mupd] at h
    split at h
    · rcases List.mem_cons.1 h with rfl | h
      · exact .inl ⟨rfl, rfl⟩
      · exact .inr (by simp [h])
    · rcases List.mem_cons.1 h with rfl | h
      · exact .inr (by simp)
      · rcases mupd_mem h with h | h
        · exact .inl h
        · exact .inr (by simp [h])
theorem mupd_len (k : ByteArray) (v : Value) : ∀ E : V.ME, (V.mupd E k v).length = E.length
  | [] => rfl
  | a :: r => by simp only [V.mupd]; split <;> simp [mupd_len k v r]
theorem KAcc.put {E : V.ME} {c : Nat} {L : List ByteArray} (h : KAcc E c L) {k : ByteArray} (hk : k.size ≤ maxLen) (v : Int) : KAcc (V.mput E k (.int .i64 v) c) (V.mclk E k c) (L ++ [k]) := by
  have hnd := V.mnd_mput E k (.int .i64 v) c h.nd
  refine ⟨hnd, h.st.put k _, fun e he => ?_, fun q => ?_, ?_⟩
  · have hm : (e.2.1 = k ∧ e.2.2 = .int .i64 v) ∨ e ∈ E := by
      unfold V.mput at he
      split at he
      · exact mupd_mem he
      · rcases List.mem_append.1 he with he | he
        · exact .inr he
        · rw [List.mem_singleton] at he; subst he; exact .inl ⟨rfl, rfl⟩
    rcases hm with ⟨h1, h2⟩ | hm
    · exact ⟨by rw [h1]; exact hk, v, h2⟩
    · exact h.ok e hm
  · rw [← mget_isSome hnd, V.mget_mput]
    rw [List.mem_append, ← h.mem q, ← mget_isSome h.nd]
    by_cases e : q = k
    · simp [e]
    · simp [e]
  · unfold V.mput
    split
    · rw [mupd_len, List.length_append]; have := h.len; omega
    · rw [List.length_append, List.length_append]; have := h.len; simp only [List.length_cons, List.length_nil]; omega
theorem KAcc.val {E : V.ME} {c : Nat} {L : List ByteArray} (h : KAcc E c L) (k : ByteArray) : ∃ v, (V.mget E k).getD (.int .i64 0) = .int .i64 v := by
  cases hq : V.mget E k with
  | none => exact ⟨0, rfl⟩
  | some u =>
    obtain ⟨e, he, _, h2⟩ := mget_some hq
    obtain ⟨v, hv⟩ := (h.ok e he).2
    exact ⟨v, by rw [Option.getD_some, ← h2, hv]⟩
theorem skeys_c (p : Option Addr) (n cap : Nat) (l : List Sto) (gr : Sto → List Cl) (w : World) (hn : l.length = n) (h : V.slAt w p 14 Sto.cells l) (hm : n ≤ 60) (hG : GOk w l gr) : Calls Try.prog 21 [.slice p n cap].toArray w
    fun e w' => ∃ y : V.OwnO × List ByteArray, ((UpK y.2 ∧ ∀ q, q ∈ y.2 ↔ q ∈ keysAll gr l) ∧ ownOk 1 y.2.length (y.2.flatMap strC) y.1) ∧ e = .returned (ownV y.2.length y.1) ∧ Hp ⟨w, []⟩ [ownG 9 (y.2.flatMap strC) y.1] w' := by
  refine V.calls [] Try.func21 rfl Try.ntmps21 (Nat.le_of_ble_eq_true rfl) (V.sat_nil _) ?_
  refine CW.seq ?_
  refine CW.region ?_
  refine LW.v rfl rfl (Val.assign rfl) ?_
  refine LW.nil ?_
  refine PQ.seq ?_
  refine CW.seq ?_
  refine CW.region ?_
  refine LW.e rfl rfl (Eff.makeMap) ?_
  intro b9 _
  refine LW.v rfl rfl (Val.assign rfl) ?_
  refine LW.nil ?_
  refine PQ.seq ?_
  refine CW.seq ?_
  refine CW.seq ?_
  refine CW.region ?_
  refine LW.v rfl rfl (Val.move rfl) ?_
  refine LW.v rfl rfl (Val.lenSl rfl Try.underlying22) ?_
  refine LW.v rfl rfl (Val.move rfl) ?_
  refine LW.nil ?_
  refine PQ.seq ?_
  refine CW.block ?_
  refine CW.loop (γ := Nat × V.ME × Nat) (fun k => [(3, .map (some b9)), (10, .slice p n cap), (11, .int .i64 (n : Nat)), (12, .int .i64 (k.1 : Nat))]) (fun k => [[(b9, V.mpO k.2.1 k.2.2)]]) (fun k => k.1 ≤ n ∧ KAcc k.2.1 k.2.2 (keysAll gr (l.take k.1))) (fun k => n - k.1) ((0, [], 0)) ⟨Nat.zero_le _, KAcc.nil⟩ (by repeat (first | exact trivial | refine ⟨rfl, ?_⟩)) (by repeat (first | exact .nil | apply Pick.cons | exact .here | apply Ext.there)) ?_
  intro k
  rintro ⟨hk1, hk2⟩
  refine CW.seq ?_
  refine CW.region ?_
  refine LW.v rfl rfl (Val.cmp rfl rfl rfl) ?_
  refine LW.nil ?_
  refine PQ.seq ?_
  refine CW.seq ?_
  refine CW.cond rfl (fun h13 => ?_) (fun h13 => ?_)
  · replace h13 := bT h13
    obtain ⟨b, o', s, rfl, hb, hsx, hr⟩ := V.slAt_at h hn (k := k.1) (by omega)
    obtain ⟨hgn, hgs, hgl, hks, hkg⟩ := hG s (List.mem_of_getElem? hsx)
    refine CW.skip ?_
    refine PQ.seq ?_
    refine CW.seq ?_
    refine CW.block ?_
    refine CW.seq ?_
    refine CW.region ?_
    first | (refine LW.v rfl rfl (Val.indexAddrN rfl rfl Try.underlying22 Try.sizeOf36 (by omega)) ?_) | (refine LW.v rfl rfl (Val.indexAddr rfl rfl Try.underlying22 Try.sizeOf36 (by omega) (by omega)) ?_)
    refine LW.v rfl rfl (Val.loadOA rfl Try.isAgg36 hb (by simp [ids]) (hr _ _ hsx) Try.sizeOf36) ?_
    refine LW.e rfl rfl (Eff.allocA (by exact Try.zeroValue36)) ?_
    intro b5 _
    first | (refine LW.eN rfl (Eff.storeW rfl rfl (by repeat (first | exact .here | apply Upd.there)) (by rfl) Try.sizeOf36 (by rfl)) ?_) | (refine LW.eN rfl (Eff.storeA (l' := _) rfl rfl (by repeat (first | exact .here | apply Upd.there)) (by rfl) (by decide) Try.sizeOf36 (by rfl)) ?_)
    intro _ _
    refine LW.nil ?_
    refine PQ.seq ?_
    refine CW.seq ?_
    refine CW.region ?_
    refine LW.v rfl rfl (Val.fieldAddr 1 rfl Try.underlying36 rfl rfl Try.sizeOf28) ?_
    refine LW.v rfl rfl (Val.loadA s.call.cells (r := s.cells.drop 6) rfl Try.isAgg28 (by repeat (first | exact .here | refine .there ?_)) (by rfl) Try.sizeOf28) ?_
    refine LW.e rfl rfl (Eff.buildSlice (rfl) [_, _, _, _, _] Try.underlying26 Try.sizeOf28 (by exact Try.zeroValue28) rfl rfl rfl rfl (by rfl)) ?_
    intro b18 _
    refine LW.v rfl rfl (Val.assign rfl) ?_
    refine LW.nil ?_
    refine PQ.seq ?_
    refine CW.seq ?_
    refine CW.seq ?_
    refine CW.region ?_
    refine LW.v rfl rfl (Val.fieldAddr 1 rfl Try.underlying36 rfl rfl Try.sizeOf28) ?_
    refine LW.v rfl rfl (Val.fieldAddr 0 rfl Try.underlying28 rfl rfl Try.sizeOf3) ?_
    refine LW.v rfl rfl (Val.load rfl Try.isAgg3 (by repeat (first | exact .here | refine .there ?_)) (by rfl)) ?_
    refine LW.v rfl rfl (Val.cmp rfl rfl rfl) ?_
    refine LW.nil ?_
    refine PQ.seq ?_
    refine CW.cond rfl (fun h22 => ?_) (fun h22 => ?_)
    · replace h22 := bT h22
      skip
      refine CW.region ?_
      refine LW.v rfl rfl (Val.fieldAddr 1 rfl Try.underlying36 rfl rfl Try.sizeOf28) ?_
      refine LW.v rfl rfl (Val.fieldAddr 4 rfl Try.underlying28 rfl rfl Try.sizeOf26) ?_
      refine LW.v rfl rfl (Val.load (v := .slice s.call.grp.a (gr s).length s.call.grp.c) rfl Try.isAgg26 (by repeat (first | exact .here | refine .there ?_)) (by rw [← hgn]; rfl)) ?_
      refine LW.v rfl rfl (Val.assign rfl) ?_
      refine LW.nil ?_
      refine PQ.seq ?_
      refine CW.seq ?_
      refine CW.region ?_
      refine LW.v rfl rfl (Val.move rfl) ?_
      refine LW.v rfl rfl (Val.lenSl rfl Try.underlying26) ?_
      refine LW.v rfl rfl (Val.move rfl) ?_
      refine LW.nil ?_
      refine PQ.seq ?_
      refine CW.block ?_
      refine CW.loop (γ := Nat × V.ME × Nat) (fun i => [(3, .map (some b9)), (10, .slice (some ⟨b, o', none⟩) n cap), (11, .int .i64 (n : Nat)), (12, .int .i64 (k.1 : Nat)), (26, .slice s.call.grp.a (gr s).length s.call.grp.c), (27, .int .i64 ((gr s).length : Nat)), (28, .int .i64 (i.1 : Nat))]) (fun i => [[(b9, V.mpO i.2.1 i.2.2)]]) (fun i => i.1 ≤ (gr s).length ∧ KAcc i.2.1 i.2.2 (keysAll gr (l.take k.1) ++ keysOf ((gr s).take i.1))) (fun i => (gr s).length - i.1) ((0, k.2.1, k.2.2)) ⟨Nat.zero_le _, by simp only [List.take_zero]; unfold keysOf; simpa using hk2⟩ (by repeat (first | exact trivial | refine ⟨rfl, ?_⟩)) (by repeat (first | exact .nil | apply Pick.cons | exact .here | apply Ext.there)) ?_
      intro i
      rintro ⟨hi1, hi2⟩
      refine CW.seq ?_
      refine CW.region ?_
      refine LW.v rfl rfl (Val.cmp rfl rfl rfl) ?_
      refine LW.nil ?_
      refine PQ.seq ?_
      refine CW.seq ?_
      refine CW.cond rfl (fun h29 => ?_) (fun h29 => ?_)
      · replace h29 := bT h29
        obtain ⟨bg, og, x, hpa, hbg, hx, hrg⟩ := V.slAt_at hgs rfl (k := i.1) (by omega)
        have hxs := hkg x (List.mem_of_getElem? hx)
        refine CW.re 26 (.slice (some ⟨bg, og, none⟩) (gr s).length s.call.grp.c) rfl (by rw [hpa]) ?_
        refine CW.skip ?_
        refine PQ.seq ?_
        refine CW.seq ?_
        refine CW.block ?_
        refine CW.seq ?_
        refine CW.region ?_
        first | (refine LW.v rfl rfl (Val.indexAddrN rfl rfl Try.underlying26 Try.sizeOf28 (by omega)) ?_) | (refine LW.v rfl rfl (Val.indexAddr rfl rfl Try.underlying26 Try.sizeOf28 (by omega) (by omega)) ?_)
        first | (refine LW.v rfl rfl (Val.loadOA rfl Try.isAgg28 hbg (by simp [ids]) (hrg _ _ hx) Try.sizeOf28) ?_) | (refine LW.v rfl rfl (Val.loadA x.cells (r := []) rfl Try.isAgg28 (by repeat (first | exact .here | refine .there ?_)) (by rw [hxe, hi0]; rfl) Try.sizeOf28) ?_)
        refine LW.e rfl rfl (Eff.allocA (by exact Try.zeroValue28)) ?_
        intro b8 _
        first | (refine LW.eN rfl (Eff.storeW rfl rfl (by repeat (first | exact .here | apply Upd.there)) (by rfl) Try.sizeOf28 (by rfl)) ?_) | (refine LW.eN rfl (Eff.storeA (l' := _) rfl rfl (by repeat (first | exact .here | apply Upd.there)) (by rfl) (by decide) Try.sizeOf28 (by rfl)) ?_)
        intro _ _
        refine LW.nil ?_
        refine PQ.seq ?_
        refine CW.seq ?_
        refine CW.region ?_
        refine LW.v rfl rfl (Val.fieldAddr 0 rfl Try.underlying28 rfl rfl Try.sizeOf3) ?_
        refine LW.v rfl rfl (Val.load rfl Try.isAgg3 (by repeat (first | exact .here | refine .there ?_)) (by rfl)) ?_
        refine LW.nil ?_
        refine PQ.seq ?_
        refine CW.block ?_
        refine CW.seq ?_
        refine CW.seq ?_
        refine CW.region ?_
        refine LW.v rfl rfl (Val.cmp rfl rfl rfl) ?_
        refine LW.v rfl rfl (Val.assign rfl) ?_
        refine LW.nil ?_
        refine PQ.seq ?_
        refine CW.cond rfl (fun h34 => ?_) (fun h34 => ?_)
        · replace h34 := bT h34
          refine CW.re 34 (.bool true) rfl (by simp [h34]) ?_
          refine CW.skip ?_
          refine PQ.seq ?_
          refine CW.cond_t rfl ?_
          refine CW.region ?_
          refine LW.v rfl rfl (Val.move rfl) ?_
          refine LW.v rfl rfl (Val.fieldAddr 1 rfl Try.underlying28 rfl rfl Try.sizeOf9) ?_
          refine LW.v rfl rfl (Val.load rfl Try.isAgg9 (by repeat (first | exact .here | refine .there ?_)) (by rfl)) ?_
          obtain ⟨v, hv⟩ := hi2.val x.key
          refine LW.v rfl rfl (Val.lookup1 rfl rfl Try.underlying85 Try.underlying9 Try.zeroValue3 (by repeat (first | exact .here | refine .there ?_))) ?_
          refine LW.re 41 (.int .i64 v) rfl hv ?_
          refine LW.v rfl rfl (Val.arw rfl rfl rfl) ?_
          refine LW.eN rfl (Eff.mapUpdate rfl rfl rfl Try.underlying85 Try.underlying9 (by repeat (first | exact .here | apply Upd.there))) ?_
          intro _ _
          refine LW.nil ?_
          refine PQ.in_normal ?_
          refine PQ.in_normal ?_
          refine PQ.seq ?_
          refine CW.region ?_
          refine LW.v rfl rfl (Val.ar rfl rfl rfl (IntWalk.i64_in _ (by omega))) ?_
          refine LW.v rfl rfl (Val.move rfl) ?_
          refine LW.nil ?_
          refine PQ.re 26 (.slice s.call.grp.a (gr s).length s.call.grp.c) rfl (by rw [hpa]) ?_
          refine PQ.round ((i.1 + 1, V.mput i.2.1 x.key (.int .i64 (IntKind.i64.wrap (v + 1))) i.2.2, V.mclk i.2.1 x.key i.2.2)) ⟨by simp only; omega, by simp only; rw [keysOf_yes hx (by unfold kyd; simp [h34]), ← List.append_assoc]; exact hi2.put hxs _⟩ (by simp only; omega) (by repeat (first | exact trivial | refine ⟨rfl, ?_⟩)) (by repeat (first | exact .nil | apply Pick.cons | exact .here | apply Ext.there))
        · replace h34 := bF h34
          refine CW.re 34 (.bool false) rfl (by simp [h34]) ?_
          refine CW.seq ?_
          refine CW.region ?_
          refine LW.v rfl rfl (Val.cmp rfl rfl rfl) ?_
          refine LW.v rfl rfl (Val.assign rfl) ?_
          refine LW.nil ?_
          refine PQ.seq ?_
          refine CW.cond rfl (fun h34 => ?_) (fun h34 => ?_)
          · replace h34 := bT h34
            refine CW.re 34 (.bool true) rfl (by simp [h34]) ?_
            refine CW.skip ?_
            refine PQ.seq ?_
            refine CW.cond_t rfl ?_
            refine CW.region ?_
            refine LW.v rfl rfl (Val.move rfl) ?_
            refine LW.v rfl rfl (Val.fieldAddr 1 rfl Try.underlying28 rfl rfl Try.sizeOf9) ?_
            refine LW.v rfl rfl (Val.load rfl Try.isAgg9 (by repeat (first | exact .here | refine .there ?_)) (by rfl)) ?_
            obtain ⟨v, hv⟩ := hi2.val x.key
            refine LW.v rfl rfl (Val.lookup1 rfl rfl Try.underlying85 Try.underlying9 Try.zeroValue3 (by repeat (first | exact .here | refine .there ?_))) ?_
            refine LW.re 41 (.int .i64 v) rfl hv ?_
            refine LW.v rfl rfl (Val.arw rfl rfl rfl) ?_
            refine LW.eN rfl (Eff.mapUpdate rfl rfl rfl Try.underlying85 Try.underlying9 (by repeat (first | exact .here | apply Upd.there))) ?_
            intro _ _
            refine LW.nil ?_
            refine PQ.in_normal ?_
            refine PQ.in_normal ?_
            refine PQ.seq ?_
            refine CW.region ?_
            refine LW.v rfl rfl (Val.ar rfl rfl rfl (IntWalk.i64_in _ (by omega))) ?_
            refine LW.v rfl rfl (Val.move rfl) ?_
            refine LW.nil ?_
            refine PQ.re 26 (.slice s.call.grp.a (gr s).length s.call.grp.c) rfl (by rw [hpa]) ?_
            refine PQ.round ((i.1 + 1, V.mput i.2.1 x.key (.int .i64 (IntKind.i64.wrap (v + 1))) i.2.2, V.mclk i.2.1 x.key i.2.2)) ⟨by simp only; omega, by simp only; rw [keysOf_yes hx (by unfold kyd; simp [h34]), ← List.append_assoc]; exact hi2.put hxs _⟩ (by simp only; omega) (by repeat (first | exact trivial | refine ⟨rfl, ?_⟩)) (by repeat (first | exact .nil | apply Pick.cons | exact .here | apply Ext.there))
          · replace h34 := bF h34
            refine CW.re 34 (.bool false) rfl (by simp [h34]) ?_
            refine CW.region ?_
            refine LW.v rfl rfl (Val.cmp rfl rfl rfl) ?_
            refine LW.v rfl rfl (Val.assign rfl) ?_
            refine LW.nil ?_
            refine PQ.seq ?_
            refine CW.cond rfl (fun h34 => ?_) (fun h34 => ?_)
            · replace h34 := bT h34
              refine CW.re 34 (.bool true) rfl (by simp [h34]) ?_
              refine CW.region ?_
              refine LW.v rfl rfl (Val.move rfl) ?_
              refine LW.v rfl rfl (Val.fieldAddr 1 rfl Try.underlying28 rfl rfl Try.sizeOf9) ?_
              refine LW.v rfl rfl (Val.load rfl Try.isAgg9 (by repeat (first | exact .here | refine .there ?_)) (by rfl)) ?_
              obtain ⟨v, hv⟩ := hi2.val x.key
              refine LW.v rfl rfl (Val.lookup1 rfl rfl Try.underlying85 Try.underlying9 Try.zeroValue3 (by repeat (first | exact .here | refine .there ?_))) ?_
              refine LW.re 41 (.int .i64 v) rfl hv ?_
              refine LW.v rfl rfl (Val.arw rfl rfl rfl) ?_
              refine LW.eN rfl (Eff.mapUpdate rfl rfl rfl Try.underlying85 Try.underlying9 (by repeat (first | exact .here | apply Upd.there))) ?_
              intro _ _
              refine LW.nil ?_
              refine PQ.in_normal ?_
              refine PQ.in_normal ?_
              refine PQ.seq ?_
              refine CW.region ?_
              refine LW.v rfl rfl (Val.ar rfl rfl rfl (IntWalk.i64_in _ (by omega))) ?_
              refine LW.v rfl rfl (Val.move rfl) ?_
              refine LW.nil ?_
              refine PQ.re 26 (.slice s.call.grp.a (gr s).length s.call.grp.c) rfl (by rw [hpa]) ?_
              refine PQ.round ((i.1 + 1, V.mput i.2.1 x.key (.int .i64 (IntKind.i64.wrap (v + 1))) i.2.2, V.mclk i.2.1 x.key i.2.2)) ⟨by simp only; omega, by simp only; rw [keysOf_yes hx (by unfold kyd; simp [h34]), ← List.append_assoc]; exact hi2.put hxs _⟩ (by simp only; omega) (by repeat (first | exact trivial | refine ⟨rfl, ?_⟩)) (by repeat (first | exact .nil | apply Pick.cons | exact .here | apply Ext.there))
            · replace h34 := bF h34
              refine CW.re 34 (.bool false) rfl (by simp [h34]) ?_
              refine CW.skip ?_
              refine PQ.in_normal ?_
              refine PQ.in_normal ?_
              refine PQ.seq ?_
              refine CW.region ?_
              refine LW.v rfl rfl (Val.ar rfl rfl rfl (IntWalk.i64_in _ (by omega))) ?_
              refine LW.v rfl rfl (Val.move rfl) ?_
              refine LW.nil ?_
              refine PQ.re 26 (.slice s.call.grp.a (gr s).length s.call.grp.c) rfl (by rw [hpa]) ?_
              refine PQ.round ((i.1 + 1, i.2.1, i.2.2)) ⟨by simp only; omega, by simp only; rw [keysOf_no hx (by unfold kyd; simp; omega)]; exact hi2⟩ (by simp only; omega) (by repeat (first | exact trivial | refine ⟨rfl, ?_⟩)) (by repeat (first | exact .nil | apply Pick.cons | exact .here | apply Ext.there))
      · replace h29 := bF h29
        refine CW.exit ?_
        refine PQ.then_exit ?_
        refine PQ.then_exit ?_
        refine PQ.in_here ?_
        refine PQ.in_normal ?_
        refine PQ.seq ?_
        refine CW.region ?_
        refine LW.v rfl rfl (Val.ar rfl rfl rfl (IntWalk.i64_in _ (by omega))) ?_
        refine LW.v rfl rfl (Val.move rfl) ?_
        refine LW.nil ?_
        have hcs : callsOf gr s = (gr s) := by unfold callsOf; rw [if_pos h22]
        have hall : KAcc i.2.1 i.2.2 (keysAll gr (l.take (k.1 + 1))) := by
          rw [keysAll_snoc hsx, hcs]
          have e := hi2
          rw [show (gr s).take i.1 = (gr s) from List.take_of_length_le (by first | omega | (simp only [List.length_cons, List.length_nil] at h29 ⊢; omega))] at e
          exact e
        refine PQ.round ((k.1 + 1, i.2.1, i.2.2)) ⟨by simp only; omega, hall⟩ (by simp only; omega) (by repeat (first | exact trivial | refine ⟨rfl, ?_⟩)) (by repeat (first | exact .nil | apply Pick.cons | exact .here | apply Ext.there))
    · replace h22 := bF h22
      skip
      refine CW.skip ?_
      refine PQ.seq ?_
      refine CW.seq ?_
      refine CW.region ?_
      refine LW.v rfl rfl (Val.move rfl) ?_
      refine LW.v rfl rfl (Val.lenSl rfl Try.underlying26) ?_
      refine LW.v rfl rfl (Val.move rfl) ?_
      refine LW.nil ?_
      refine PQ.seq ?_
      refine CW.block ?_
      refine CW.loop (γ := Nat × V.ME × Nat) (fun i => [(3, .map (some b9)), (10, .slice (some ⟨b, o', none⟩) n cap), (11, .int .i64 (n : Nat)), (12, .int .i64 (k.1 : Nat)), (26, .slice (some ⟨b18, 0, none⟩) 1 1), (27, .int .i64 ([s.call].length : Nat)), (28, .int .i64 (i.1 : Nat))]) (fun i => [[(b9, V.mpO i.2.1 i.2.2)], [(b18, .cells s.call.cells.toArray 28 (0, 0))]]) (fun i => i.1 ≤ [s.call].length ∧ KAcc i.2.1 i.2.2 (keysAll gr (l.take k.1) ++ keysOf ([s.call].take i.1))) (fun i => [s.call].length - i.1) ((0, k.2.1, k.2.2)) ⟨Nat.zero_le _, by simp only [List.take_zero]; unfold keysOf; simpa using hk2⟩ (by repeat (first | exact trivial | refine ⟨rfl, ?_⟩)) (by repeat (first | exact .nil | apply Pick.cons | exact .here | apply Ext.there)) ?_
      intro i
      rintro ⟨hi1, hi2⟩
      refine CW.seq ?_
      refine CW.region ?_
      refine LW.v rfl rfl (Val.cmp rfl rfl rfl) ?_
      refine LW.nil ?_
      refine PQ.seq ?_
      refine CW.seq ?_
      refine CW.cond rfl (fun h29 => ?_) (fun h29 => ?_)
      · replace h29 := bT h29
        obtain ⟨x, hx, hxe⟩ : ∃ x, [s.call][i.1]? = some x ∧ x = s.call := ⟨s.call, by rw [show i.1 = 0 by simp only [List.length_cons, List.length_nil] at h29; omega]; rfl, rfl⟩
        have hxs : x.key.size ≤ maxLen := by rw [hxe]; exact hks
        have hi0 : i.1 = 0 := by simp only [List.length_cons, List.length_nil] at h29; omega
        refine CW.skip ?_
        refine PQ.seq ?_
        refine CW.seq ?_
        refine CW.block ?_
        refine CW.seq ?_
        refine CW.region ?_
        first | (refine LW.v rfl rfl (Val.indexAddrN rfl rfl Try.underlying26 Try.sizeOf28 (by omega)) ?_) | (refine LW.v rfl rfl (Val.indexAddr rfl rfl Try.underlying26 Try.sizeOf28 (by omega) (by omega)) ?_)
        first | (refine LW.v rfl rfl (Val.loadOA rfl Try.isAgg28 hbg (by simp [ids]) (hrg _ _ hx) Try.sizeOf28) ?_) | (refine LW.v rfl rfl (Val.loadA x.cells (r := []) rfl Try.isAgg28 (by repeat (first | exact .here | refine .there ?_)) (by rw [hxe, hi0]; rfl) Try.sizeOf28) ?_)
        refine LW.e rfl rfl (Eff.allocA (by exact Try.zeroValue28)) ?_
        intro b8 _
        first | (refine LW.eN rfl (Eff.storeW rfl rfl (by repeat (first | exact .here | apply Upd.there)) (by rfl) Try.sizeOf28 (by rfl)) ?_) | (refine LW.eN rfl (Eff.storeA (l' := _) rfl rfl (by repeat (first | exact .here | apply Upd.there)) (by rfl) (by decide) Try.sizeOf28 (by rfl)) ?_)
        intro _ _
        refine LW.nil ?_
        refine PQ.seq ?_
        refine CW.seq ?_
        refine CW.region ?_
        refine LW.v rfl rfl (Val.fieldAddr 0 rfl Try.underlying28 rfl rfl Try.sizeOf3) ?_
        refine LW.v rfl rfl (Val.load rfl Try.isAgg3 (by repeat (first | exact .here | refine .there ?_)) (by rfl)) ?_
        refine LW.nil ?_
        refine PQ.seq ?_
        refine CW.block ?_
        refine CW.seq ?_
        refine CW.seq ?_
        refine CW.region ?_
        refine LW.v rfl rfl (Val.cmp rfl rfl rfl) ?_
        refine LW.v rfl rfl (Val.assign rfl) ?_
        refine LW.nil ?_
        refine PQ.seq ?_
        refine CW.cond rfl (fun h34 => ?_) (fun h34 => ?_)
        · replace h34 := bT h34
          refine CW.re 34 (.bool true) rfl (by simp [h34]) ?_
          refine CW.skip ?_
          refine PQ.seq ?_
          refine CW.cond_t rfl ?_
          refine CW.region ?_
          refine LW.v rfl rfl (Val.move rfl) ?_
          refine LW.v rfl rfl (Val.fieldAddr 1 rfl Try.underlying28 rfl rfl Try.sizeOf9) ?_
          refine LW.v rfl rfl (Val.load rfl Try.isAgg9 (by repeat (first | exact .here | refine .there ?_)) (by rfl)) ?_
          obtain ⟨v, hv⟩ := hi2.val x.key
          refine LW.v rfl rfl (Val.lookup1 rfl rfl Try.underlying85 Try.underlying9 Try.zeroValue3 (by repeat (first | exact .here | refine .there ?_))) ?_
          refine LW.re 41 (.int .i64 v) rfl hv ?_
          refine LW.v rfl rfl (Val.arw rfl rfl rfl) ?_
          refine LW.eN rfl (Eff.mapUpdate rfl rfl rfl Try.underlying85 Try.underlying9 (by repeat (first | exact .here | apply Upd.there))) ?_
          intro _ _
          refine LW.nil ?_
          refine PQ.in_normal ?_
          refine PQ.in_normal ?_
          refine PQ.seq ?_
          refine CW.region ?_
          refine LW.v rfl rfl (Val.ar rfl rfl rfl (IntWalk.i64_in _ (by omega))) ?_
          refine LW.v rfl rfl (Val.move rfl) ?_
          refine LW.nil ?_
          refine PQ.round ((i.1 + 1, V.mput i.2.1 x.key (.int .i64 (IntKind.i64.wrap (v + 1))) i.2.2, V.mclk i.2.1 x.key i.2.2)) ⟨by simp only; omega, by simp only; rw [keysOf_yes hx (by unfold kyd; simp [h34]), ← List.append_assoc]; exact hi2.put hxs _⟩ (by simp only; omega) (by repeat (first | exact trivial | refine ⟨rfl, ?_⟩)) (by repeat (first | exact .nil | apply Pick.cons | exact .here | apply Ext.there))
        · replace h34 := bF h34
          refine CW.re 34 (.bool false) rfl (by simp [h34]) ?_
          refine CW.seq ?_
          refine CW.region ?_
          refine LW.v rfl rfl (Val.cmp rfl rfl rfl) ?_
          refine LW.v rfl rfl (Val.assign rfl) ?_
          refine LW.nil ?_
          refine PQ.seq ?_
          refine CW.cond rfl (fun h34 => ?_) (fun h34 => ?_)
          · replace h34 := bT h34
            refine CW.re 34 (.bool true) rfl (by simp [h34]) ?_
            refine CW.skip ?_
            refine PQ.seq ?_
            refine CW.cond_t rfl ?_
            refine CW.region ?_
            refine LW.v rfl rfl (Val.move rfl) ?_
            refine LW.v rfl rfl (Val.fieldAddr 1 rfl Try.underlying28 rfl rfl Try.sizeOf9) ?_
            refine LW.v rfl rfl (Val.load rfl Try.isAgg9 (by repeat (first | exact .here | refine .there ?_)) (by rfl)) ?_
            obtain ⟨v, hv⟩ := hi2.val x.key
            refine LW.v rfl rfl (Val.lookup1 rfl rfl Try.underlying85 Try.underlying9 Try.zeroValue3 (by repeat (first | exact .here | refine .there ?_))) ?_
            refine LW.re 41 (.int .i64 v) rfl hv ?_
            refine LW.v rfl rfl (Val.arw rfl rfl rfl) ?_
            refine LW.eN rfl (Eff.mapUpdate rfl rfl rfl Try.underlying85 Try.underlying9 (by repeat (first | exact .here | apply Upd.there))) ?_
            intro _ _
            refine LW.nil ?_
            refine PQ.in_normal ?_
            refine PQ.in_normal ?_
            refine PQ.seq ?_
            refine CW.region ?_
            refine LW.v rfl rfl (Val.ar rfl rfl rfl (IntWalk.i64_in _ (by omega))) ?_
            refine LW.v rfl rfl (Val.move rfl) ?_
            refine LW.nil ?_
            refine PQ.round ((i.1 + 1, V.mput i.2.1 x.key (.int .i64 (IntKind.i64.wrap (v + 1))) i.2.2, V.mclk i.2.1 x.key i.2.2)) ⟨by simp only; omega, by simp only; rw [keysOf_yes hx (by unfold kyd; simp [h34]), ← List.append_assoc]; exact hi2.put hxs _⟩ (by simp only; omega) (by repeat (first | exact trivial | refine ⟨rfl, ?_⟩)) (by repeat (first | exact .nil | apply Pick.cons | exact .here | apply Ext.there))
          · replace h34 := bF h34
            refine CW.re 34 (.bool false) rfl (by simp [h34]) ?_
            refine CW.region ?_
            refine LW.v rfl rfl (Val.cmp rfl rfl rfl) ?_
            refine LW.v rfl rfl (Val.assign rfl) ?_
            refine LW.nil ?_
            refine PQ.seq ?_
            refine CW.cond rfl (fun h34 => ?_) (fun h34 => ?_)
            · replace h34 := bT h34
              refine CW.re 34 (.bool true) rfl (by simp [h34]) ?_
              refine CW.region ?_
              refine LW.v rfl rfl (Val.move rfl) ?_
              refine LW.v rfl rfl (Val.fieldAddr 1 rfl Try.underlying28 rfl rfl Try.sizeOf9) ?_
              refine LW.v rfl rfl (Val.load rfl Try.isAgg9 (by repeat (first | exact .here | refine .there ?_)) (by rfl)) ?_
              obtain ⟨v, hv⟩ := hi2.val x.key
              refine LW.v rfl rfl (Val.lookup1 rfl rfl Try.underlying85 Try.underlying9 Try.zeroValue3 (by repeat (first | exact .here | refine .there ?_))) ?_
              refine LW.re 41 (.int .i64 v) rfl hv ?_
              refine LW.v rfl rfl (Val.arw rfl rfl rfl) ?_
              refine LW.eN rfl (Eff.mapUpdate rfl rfl rfl Try.underlying85 Try.underlying9 (by repeat (first | exact .here | apply Upd.there))) ?_
              intro _ _
              refine LW.nil ?_
              refine PQ.in_normal ?_
              refine PQ.in_normal ?_
              refine PQ.seq ?_
              refine CW.region ?_
              refine LW.v rfl rfl (Val.ar rfl rfl rfl (IntWalk.i64_in _ (by omega))) ?_
              refine LW.v rfl rfl (Val.move rfl) ?_
              refine LW.nil ?_
              refine PQ.round ((i.1 + 1, V.mput i.2.1 x.key (.int .i64 (IntKind.i64.wrap (v + 1))) i.2.2, V.mclk i.2.1 x.key i.2.2)) ⟨by simp only; omega, by simp only; rw [keysOf_yes hx (by unfold kyd; simp [h34]), ← List.append_assoc]; exact hi2.put hxs _⟩ (by simp only; omega) (by repeat (first | exact trivial | refine ⟨rfl, ?_⟩)) (by repeat (first | exact .nil | apply Pick.cons | exact .here | apply Ext.there))
            · replace h34 := bF h34
              refine CW.re 34 (.bool false) rfl (by simp [h34]) ?_
              refine CW.skip ?_
              refine PQ.in_normal ?_
              refine PQ.in_normal ?_
              refine PQ.seq ?_
              refine CW.region ?_
              refine LW.v rfl rfl (Val.ar rfl rfl rfl (IntWalk.i64_in _ (by omega))) ?_
              refine LW.v rfl rfl (Val.move rfl) ?_
              refine LW.nil ?_
              refine PQ.round ((i.1 + 1, i.2.1, i.2.2)) ⟨by simp only; omega, by simp only; rw [keysOf_no hx (by unfold kyd; simp; omega)]; exact hi2⟩ (by simp only; omega) (by repeat (first | exact trivial | refine ⟨rfl, ?_⟩)) (by repeat (first | exact .nil | apply Pick.cons | exact .here | apply Ext.there))
      · replace h29 := bF h29
        refine CW.exit ?_
        refine PQ.then_exit ?_
        refine PQ.then_exit ?_
        refine PQ.in_here ?_
        refine PQ.in_normal ?_
        refine PQ.seq ?_
        refine CW.region ?_
        refine LW.v rfl rfl (Val.ar rfl rfl rfl (IntWalk.i64_in _ (by omega))) ?_
        refine LW.v rfl rfl (Val.move rfl) ?_
        refine LW.nil ?_
        have hcs : callsOf gr s = [s.call] := by unfold callsOf; rw [if_neg h22]
        have hall : KAcc i.2.1 i.2.2 (keysAll gr (l.take (k.1 + 1))) := by
          rw [keysAll_snoc hsx, hcs]
          have e := hi2
          rw [show [s.call].take i.1 = [s.call] from List.take_of_length_le (by first | omega | (simp only [List.length_cons, List.length_nil] at h29 ⊢; omega))] at e
          exact e
        refine PQ.round ((k.1 + 1, i.2.1, i.2.2)) ⟨by simp only; omega, hall⟩ (by simp only; omega) (by repeat (first | exact trivial | refine ⟨rfl, ?_⟩)) (by repeat (first | exact .nil | apply Pick.cons | exact .here | apply Ext.there))
  · replace h13 := bF h13
    refine CW.exit ?_
    refine PQ.then_exit ?_
    refine PQ.then_exit ?_
    refine PQ.in_here ?_
    refine PQ.seq ?_
    refine CW.seq ?_
    refine CW.region ?_
    refine LW.v rfl rfl (Val.move rfl) ?_
    refine LW.e rfl rfl (Eff.callM ([]) .nil rfl Try.call53 (fun w hw hs => keys_c b9 w)) ?_
    intro kb _
    refine LW.e rfl rfl (Eff.callM ([]) .nil rfl Try.call48 (fun w hw hs => sortedKeys_c kb b9 k.2.2 k.2.1 hk2.nd hk2.st (fun e he => (hk2.ok e he).1) (by have h1 := hk2.len; have h2 := keysAll_len (W := _) (gr := gr) (l := l.take k.1) (fun x hx => hG x (List.mem_of_mem_take hx)); have h3 : (l.take k.1).length ≤ 60 := (by rw [List.length_take]; omega); omega) w (hw.sat.pick (ss := [[(kb, .cells [.map (some b9)].toArray 85 (0, 0))]]) (by repeat (first | exact .nil | apply Pick.cons | exact .here | apply Ext.there))) (hw.own (b9, V.mpO k.2.1 k.2.2) (InS.mem (by repeat (first | exact .here | refine .there ?_)))))) ?_
    intro y hy
    refine LW.v rfl rfl (Val.assign rfl) ?_
    refine LW.nil ?_
    refine PQ.seq ?_
    refine CW.ret ?_
    refine PQ.ret1 rfl rfl ?_
    intro w' hw
    have h9 : l.take k.1 = l := List.take_of_length_le (by omega)
    have hmm := hk2.mem
    rw [h9] at hmm
    exact ⟨y, ⟨⟨hy.1.1, fun q => (hy.1.2 q).trans (hmm q)⟩, hy.2⟩, rfl, hw.pick (by repeat (first | exact .nil | apply Pick.cons | exact .here | apply Ext.there))⟩
theorem keysOf_one (c : Cl) : keysOf [c] = if kyd c.ck = true then [c.key] else [] := by unfold keysOf; by_cases h : kyd c.ck = true <;> simp [h]
theorem keysOf_nil : keysOf [] = [] := rfl
theorem rkeys_c (p : Option Addr) (n cap : Nat) (l : List Sto) (gr : Sto → List Cl) (w : World) (hn : l.length = n) (h : V.slAt w p 14 Sto.cells l) (hm : n ≤ 60) (hG : GOk w l gr) : Calls Try.prog 28 [.slice p n cap].toArray w
    fun e w' => ∃ y : V.OwnO × List ByteArray, ((UpK y.2 ∧ ∀ q, q ∈ y.2 ↔ q ∈ keysAll gr l) ∧ ownOk 1 y.2.length (y.2.flatMap strC) y.1) ∧ e = .returned (ownV y.2.length y.1) ∧ Hp ⟨w, []⟩ [ownG 9 (y.2.flatMap strC) y.1] w' := by
  refine V.calls [] Try.func28 rfl Try.ntmps28 (Nat.le_of_ble_eq_true rfl) (V.sat_nil _) ?_
  refine CW.seq ?_
  refine CW.region ?_
  refine LW.v rfl rfl (Val.assign rfl) ?_
  refine LW.nil ?_
  refine PQ.seq ?_
  refine CW.seq ?_
  refine CW.region ?_
  refine LW.v rfl rfl (Val.assign rfl) ?_
  refine LW.nil ?_
  refine PQ.seq ?_
  refine CW.seq ?_
  refine CW.seq ?_
  refine CW.region ?_
  refine LW.v rfl rfl (Val.assign rfl) ?_
  refine LW.nil ?_
  refine PQ.seq ?_
  refine CW.block ?_
  refine V.CW.addOwn 9 ?_
  refine CW.loop (γ := Nat × V.OwnO × List ByteArray) (fun k => [(0, .slice p n cap), (3, ownV k.2.2.length k.2.1), (4, .int .i64 (k.1 : Nat))]) (fun k => [ownG 9 (k.2.2.flatMap strC) k.2.1]) (fun k => k.1 ≤ n ∧ ownOk 1 k.2.2.length (k.2.2.flatMap strC) k.2.1 ∧ UpK k.2.2 ∧ (∀ q, q ∈ k.2.2 ↔ q ∈ keysAll gr (l.take k.1)) ∧ k.2.2.length ≤ 700 * k.1) (fun k => n - k.1) ((0, none, [])) ⟨Nat.zero_le _, ⟨rfl, rfl⟩, List.Pairwise.nil, fun q => Iff.rfl, Nat.zero_le _⟩ (by repeat (first | exact trivial | refine ⟨rfl, ?_⟩)) (by repeat (first | exact .nil | apply Pick.cons | exact .here | apply Ext.there)) ?_
  intro k
  rintro ⟨hk1, hk2, hk3, hk4, hk5⟩
  refine CW.seq ?_
  refine CW.seq ?_
  refine CW.region ?_
  refine LW.v rfl rfl (Val.move rfl) ?_
  refine LW.v rfl rfl (Val.move rfl) ?_
  refine LW.v rfl rfl (Val.lenSl rfl Try.underlying22) ?_
  refine LW.v rfl rfl (Val.cmp rfl rfl rfl) ?_
  refine LW.nil ?_
  refine PQ.seq ?_
  refine CW.cond rfl (fun h10 => ?_) (fun h10 => ?_)
  · replace h10 := bT h10
    obtain ⟨b, o', s, rfl, hb, hsx, hr⟩ := V.slAt_at h hn (k := k.1) (by omega)
    obtain ⟨hgn, hgs, hgl, hks, hkg⟩ := hG s (List.mem_of_getElem? hsx)
    refine CW.skip ?_
    refine PQ.seq ?_
    refine CW.seq ?_
    refine CW.block ?_
    refine CW.seq ?_
    refine CW.region ?_
    refine LW.v rfl rfl (Val.move rfl) ?_
    refine LW.v rfl rfl (Val.move rfl) ?_
    first | (refine LW.v rfl rfl (Val.indexAddrN rfl rfl Try.underlying22 Try.sizeOf36 (by omega)) ?_) | (refine LW.v rfl rfl (Val.indexAddr rfl rfl Try.underlying22 Try.sizeOf36 (by omega) (by omega)) ?_)
    refine LW.v rfl rfl (Val.fieldAddr 1 rfl Try.underlying36 rfl rfl Try.sizeOf28) ?_
    refine LW.v rfl rfl (Val.loadOA (cs := s.call.cells) rfl Try.isAgg28 hb (by simp [ids]) (V.rangeAt_sub (hr _ _ hsx) 1 rfl) Try.sizeOf28) ?_
    refine LW.e rfl rfl (Eff.allocA (by exact Try.zeroValue28)) ?_
    intro b5 _
    first | (refine LW.eN rfl (Eff.storeW rfl rfl (by repeat (first | exact .here | apply Upd.there)) (by rfl) Try.sizeOf28 (by rfl)) ?_) | (refine LW.eN rfl (Eff.storeA (l' := _) rfl rfl (by repeat (first | exact .here | apply Upd.there)) (by rfl) (by decide) Try.sizeOf28 (by rfl)) ?_)
    intro _ _
    refine LW.nil ?_
    refine PQ.seq ?_
    refine CW.seq ?_
    refine CW.seq ?_
    refine CW.region ?_
    refine LW.v rfl rfl (Val.fieldAddr 0 rfl Try.underlying28 rfl rfl Try.sizeOf3) ?_
    refine LW.v rfl rfl (Val.load rfl Try.isAgg3 (by repeat (first | exact .here | refine .there ?_)) (by rfl)) ?_
    refine LW.e rfl rfl (Eff.callV rfl Try.call57 (fun w hw => keyed_c s.call.ck w)) ?_
    intro _ _
    refine LW.nil ?_
    refine PQ.seq ?_
    refine CW.cond rfl (fun h20 => ?_) (fun h20 => ?_)
    · replace h20 := bT h20
      have hn7 : ¬ s.call.ck = 7 := by unfold kyd at h20; simp at h20; omega
      refine CW.region ?_
      refine LW.v rfl rfl (Val.move rfl) ?_
      refine LW.v rfl rfl (Val.fieldAddr 1 rfl Try.underlying28 rfl rfl Try.sizeOf9) ?_
      refine LW.v rfl rfl (Val.load rfl Try.isAgg9 (by repeat (first | exact .here | refine .there ?_)) (by rfl)) ?_
      refine LW.e rfl rfl (Eff.callM ([ownG 9 (k.2.2.flatMap strC) k.2.1]) (by repeat (first | exact .nil | apply Pick.cons | exact .here | apply Ext.there)) rfl Try.call58 (fun w hw hs0 => put_c k.2.1 k.2.2 s.call.key hk3 hk2 (by omega) w hs0)) ?_
      rintro ⟨o2, L2⟩ ⟨ho2, hP⟩
      simp only at ho2 hP
      obtain ⟨hP1, hP2, hP3⟩ := hP
      refine LW.v rfl rfl (Val.assign rfl) ?_
      refine LW.nil ?_
      refine PQ.seq ?_
      refine CW.seq ?_
      refine CW.region ?_
      refine LW.v rfl rfl (Val.assign rfl) ?_
      refine LW.nil ?_
      refine PQ.seq ?_
      refine CW.block ?_
      refine CW.loop (γ := Nat × V.OwnO × List ByteArray) (fun i => [(0, .slice (some ⟨b, o', none⟩) n cap), (3, ownV i.2.2.length i.2.1), (4, .int .i64 (k.1 : Nat)), (5, .pointer (some ⟨b5, 0, none⟩)), (6, .int .i64 (i.1 : Nat))]) (fun i => [[(b5, .cells s.call.cells.toArray 28 (0, 0))], ownG 9 (i.2.2.flatMap strC) i.2.1]) (fun i => i.1 ≤ (gr s).length ∧ ownOk 1 i.2.2.length (i.2.2.flatMap strC) i.2.1 ∧ UpK i.2.2 ∧ (∀ q, q ∈ i.2.2 ↔ q ∈ keysAll gr (l.take k.1) ++ (if s.call.ck = 7 then keysOf ((gr s).take i.1) else keysOf [s.call])) ∧ i.2.2.length ≤ 700 * k.1 + 1 + i.1) (fun i => (gr s).length - i.1) ((0, o2, L2)) ⟨Nat.zero_le _, ho2, hP1, fun q => by rw [if_neg hn7, keysOf_one, if_pos h20, List.mem_append, List.mem_singleton, hP2, hk4]; exact or_comm, by simp only; omega⟩ (by repeat (first | exact trivial | refine ⟨rfl, ?_⟩)) (by repeat (first | exact .nil | apply Pick.cons | exact .here | apply Ext.there)) ?_
      intro i
      rintro ⟨hi1, hi2, hi3, hi4, hi5⟩
      refine CW.seq ?_
      refine CW.seq ?_
      refine CW.region ?_
      refine LW.v rfl rfl (Val.move rfl) ?_
      refine LW.v rfl rfl (Val.fieldAddr 4 rfl Try.underlying28 rfl rfl Try.sizeOf26) ?_
      refine LW.v rfl rfl (Val.load (v := .slice s.call.grp.a (gr s).length s.call.grp.c) rfl Try.isAgg26 (by repeat (first | exact .here | refine .there ?_)) (by rw [← hgn]; rfl)) ?_
      refine LW.v rfl rfl (Val.lenSl rfl Try.underlying26) ?_
      refine LW.v rfl rfl (Val.cmp rfl rfl rfl) ?_
      refine LW.v rfl rfl (Val.move rfl) ?_
      refine LW.split (d := 30) rfl (fun h30 => ?_) (fun h30 => ?_)
      · replace h30 := bT h30
        refine LW.v rfl rfl (Val.fieldAddr 0 rfl Try.underlying28 rfl rfl Try.sizeOf3) ?_
        refine LW.v rfl rfl (Val.load rfl Try.isAgg3 (by repeat (first | exact .here | refine .there ?_)) (by rfl)) ?_
        refine LW.v rfl rfl (Val.cmp rfl rfl rfl) ?_
        refine LW.v rfl rfl (Val.pick_t rfl rfl) ?_
        refine LW.nil ?_
        refine PQ.seq ?_
        refine CW.cond rfl (fun h34 => ?_) (fun h34 => ?_)
        · replace h34 := bT h34
          have h7 : s.call.ck = 7 := by first | simpa using h34 | simpa using h33
          obtain ⟨bg, og, x, hpa, hbg, hx, hrg⟩ := V.slAt_at hgs rfl (k := i.1) (by omega)
          have hxs := hkg x (List.mem_of_getElem? hx)
          refine CW.skip ?_
          refine PQ.seq ?_
          refine CW.seq ?_
          refine CW.block ?_
          refine CW.seq ?_
          refine CW.region ?_
          refine LW.v rfl rfl (Val.fieldAddr 4 rfl Try.underlying28 rfl rfl Try.sizeOf26) ?_
          refine LW.v rfl rfl (Val.load (v := .slice s.call.grp.a (gr s).length s.call.grp.c) rfl Try.isAgg26 (by repeat (first | exact .here | refine .there ?_)) (by rw [← hgn]; rfl)) ?_
          refine LW.re 38 (.slice (some ⟨bg, og, none⟩) (gr s).length s.call.grp.c) rfl (by rw [hpa]) ?_
          refine LW.v rfl rfl (Val.move rfl) ?_
          first | (refine LW.v rfl rfl (Val.indexAddrN rfl rfl Try.underlying26 Try.sizeOf28 (by omega)) ?_) | (refine LW.v rfl rfl (Val.indexAddr rfl rfl Try.underlying26 Try.sizeOf28 (by omega) (by omega)) ?_)
          refine LW.v rfl rfl (Val.fieldAddr 0 rfl Try.underlying28 rfl rfl Try.sizeOf3) ?_
          refine LW.v rfl rfl (Val.loadO rfl Try.isAgg3 hbg (by simp [ids]) (hrg _ _ hx 0 _ rfl)) ?_
          refine LW.e rfl rfl (Eff.callV rfl Try.call57 (fun w hw => keyed_c x.ck w)) ?_
          intro _ _
          refine LW.nil ?_
          refine PQ.seq ?_
          refine CW.cond rfl (fun h43 => ?_) (fun h43 => ?_)
          · replace h43 := bT h43
            refine CW.region ?_
            refine LW.v rfl rfl (Val.move rfl) ?_
            refine LW.v rfl rfl (Val.fieldAddr 4 rfl Try.underlying28 rfl rfl Try.sizeOf26) ?_
            refine LW.v rfl rfl (Val.load (v := .slice s.call.grp.a (gr s).length s.call.grp.c) rfl Try.isAgg26 (by repeat (first | exact .here | refine .there ?_)) (by rw [← hgn]; rfl)) ?_
            refine LW.re 46 (.slice (some ⟨bg, og, none⟩) (gr s).length s.call.grp.c) rfl (by rw [hpa]) ?_
            refine LW.v rfl rfl (Val.move rfl) ?_
            first | (refine LW.v rfl rfl (Val.indexAddrN rfl rfl Try.underlying26 Try.sizeOf28 (by omega)) ?_) | (refine LW.v rfl rfl (Val.indexAddr rfl rfl Try.underlying26 Try.sizeOf28 (by omega) (by omega)) ?_)
            refine LW.v rfl rfl (Val.fieldAddr 1 rfl Try.underlying28 rfl rfl Try.sizeOf9) ?_
            refine LW.v rfl rfl (Val.loadO rfl Try.isAgg9 hbg (by simp [ids]) (hrg _ _ hx 1 _ rfl)) ?_
            refine LW.e rfl rfl (Eff.callM ([ownG 9 (i.2.2.flatMap strC) i.2.1]) (by repeat (first | exact .nil | apply Pick.cons | exact .here | apply Ext.there)) rfl Try.call58 (fun w hw hs0 => put_c i.2.1 i.2.2 x.key hi3 hi2 (by omega) w hs0)) ?_
            rintro ⟨o3, L3⟩ ⟨ho3, hQ⟩
            simp only at ho3 hQ
            obtain ⟨hQ1, hQ2, hQ3⟩ := hQ
            refine LW.v rfl rfl (Val.assign rfl) ?_
            refine LW.nil ?_
            refine PQ.in_normal ?_
            refine PQ.seq ?_
            refine CW.region ?_
            refine LW.v rfl rfl (Val.move rfl) ?_
            refine LW.v rfl rfl (Val.ar rfl rfl rfl (IntWalk.i64_in _ (by omega))) ?_
            refine LW.v rfl rfl (Val.assign rfl) ?_
            refine LW.nil ?_
            refine PQ.round ((i.1 + 1, o3, L3)) ⟨by simp only; omega, ho3, hQ1, fun q => by simp only; rw [hQ2, hi4, if_pos h7, if_pos h7, keysOf_yes hx h43]; simp only [List.mem_append, List.mem_singleton]; exact ⟨fun h => by rcases h with h | h | h <;> simp [h], fun h => by rcases h with h | h | h <;> simp [h]⟩, by simp only; omega⟩ (by simp only; omega) (by repeat (first | exact trivial | refine ⟨rfl, ?_⟩)) (by repeat (first | exact .nil | apply Pick.cons | exact .here | apply Ext.there))
          · replace h43 := bF h43
            refine CW.skip ?_
            refine PQ.in_normal ?_
            refine PQ.seq ?_
            refine CW.region ?_
            refine LW.v rfl rfl (Val.move rfl) ?_
            refine LW.v rfl rfl (Val.ar rfl rfl rfl (IntWalk.i64_in _ (by omega))) ?_
            refine LW.v rfl rfl (Val.assign rfl) ?_
            refine LW.nil ?_
            refine PQ.round ((i.1 + 1, i.2.1, i.2.2)) ⟨by simp only; omega, hi2, hi3, fun q => by simp only; rw [hi4, if_pos h7, if_pos h7, keysOf_no hx (by simpa using h43)], by simp only; omega⟩ (by simp only; omega) (by repeat (first | exact trivial | refine ⟨rfl, ?_⟩)) (by repeat (first | exact .nil | apply Pick.cons | exact .here | apply Ext.there))
        · replace h34 := bF h34
          refine CW.exit ?_
          refine PQ.then_exit ?_
          refine PQ.then_exit ?_
          refine PQ.in_here ?_
          refine PQ.in_normal ?_
          refine PQ.seq ?_
          refine CW.region ?_
          refine LW.v rfl rfl (Val.move rfl) ?_
          refine LW.v rfl rfl (Val.ar rfl rfl rfl (IntWalk.i64_in _ (by omega))) ?_
          refine LW.v rfl rfl (Val.assign rfl) ?_
          refine LW.nil ?_
          have hend : i.1 = (gr s).length ∨ s.call.ck ≠ 7 := by
            first | exact .inr (by simpa using h33) | exact .inr (by simpa using h34) | (left; omega)
          have hall : ∀ q, q ∈ i.2.2 ↔ q ∈ keysAll gr (l.take (k.1 + 1)) := fun q => by
            rw [hi4, keysAll_snoc hsx]
            unfold callsOf
            by_cases h7 : s.call.ck = 7
            · rw [if_pos h7, if_pos h7, show (gr s).take i.1 = gr s from List.take_of_length_le (by rcases hend with e | e; omega; exact absurd h7 e)]
            · rw [if_neg h7, if_neg h7]
          refine PQ.round ((k.1 + 1, i.2.1, i.2.2)) ⟨by simp only; omega, hi2, hi3, hall, by simp only; omega⟩ (by simp only; omega) (by repeat (first | exact trivial | refine ⟨rfl, ?_⟩)) (by repeat (first | exact .nil | apply Pick.cons | exact .here | apply Ext.there))
      · replace h30 := bF h30
        refine LW.p rfl rfl ?_
        refine LW.p rfl rfl ?_
        refine LW.p rfl rfl ?_
        refine LW.v rfl rfl (Val.pick_f rfl rfl) ?_
        refine LW.nil ?_
        refine PQ.seq ?_
        refine CW.cond_f rfl ?_
        refine CW.exit ?_
        refine PQ.then_exit ?_
        refine PQ.then_exit ?_
        refine PQ.in_here ?_
        refine PQ.in_normal ?_
        refine PQ.seq ?_
        refine CW.region ?_
        refine LW.v rfl rfl (Val.move rfl) ?_
        refine LW.v rfl rfl (Val.ar rfl rfl rfl (IntWalk.i64_in _ (by omega))) ?_
        refine LW.v rfl rfl (Val.assign rfl) ?_
        refine LW.nil ?_
        have hend : i.1 = (gr s).length ∨ s.call.ck ≠ 7 := .inl (by omega)
        have hall : ∀ q, q ∈ i.2.2 ↔ q ∈ keysAll gr (l.take (k.1 + 1)) := fun q => by
          rw [hi4, keysAll_snoc hsx]
          unfold callsOf
          by_cases h7 : s.call.ck = 7
          · rw [if_pos h7, if_pos h7, show (gr s).take i.1 = gr s from List.take_of_length_le (by rcases hend with e | e; omega; exact absurd h7 e)]
          · rw [if_neg h7, if_neg h7]
        refine PQ.round ((k.1 + 1, i.2.1, i.2.2)) ⟨by simp only; omega, hi2, hi3, hall, by simp only; omega⟩ (by simp only; omega) (by repeat (first | exact trivial | refine ⟨rfl, ?_⟩)) (by repeat (first | exact .nil | apply Pick.cons | exact .here | apply Ext.there))
    · replace h20 := bF h20
      refine CW.skip ?_
      refine PQ.seq ?_
      refine CW.seq ?_
      refine CW.region ?_
      refine LW.v rfl rfl (Val.assign rfl) ?_
      refine LW.nil ?_
      refine PQ.seq ?_
      refine CW.block ?_
      refine CW.loop (γ := Nat × V.OwnO × List ByteArray) (fun i => [(0, .slice (some ⟨b, o', none⟩) n cap), (3, ownV i.2.2.length i.2.1), (4, .int .i64 (k.1 : Nat)), (5, .pointer (some ⟨b5, 0, none⟩)), (6, .int .i64 (i.1 : Nat))]) (fun i => [[(b5, .cells s.call.cells.toArray 28 (0, 0))], ownG 9 (i.2.2.flatMap strC) i.2.1]) (fun i => i.1 ≤ (gr s).length ∧ ownOk 1 i.2.2.length (i.2.2.flatMap strC) i.2.1 ∧ UpK i.2.2 ∧ (∀ q, q ∈ i.2.2 ↔ q ∈ keysAll gr (l.take k.1) ++ (if s.call.ck = 7 then keysOf ((gr s).take i.1) else keysOf [s.call])) ∧ i.2.2.length ≤ 700 * k.1 + 1 + i.1) (fun i => (gr s).length - i.1) ((0, k.2.1, k.2.2)) ⟨Nat.zero_le _, hk2, hk3, fun q => by rw [show (if s.call.ck = 7 then keysOf ((gr s).take 0) else keysOf [s.call]) = [] from by split; rfl; rw [keysOf_one, if_neg (by simpa using h20)], List.append_nil]; exact hk4 q, by simp only; omega⟩ (by repeat (first | exact trivial | refine ⟨rfl, ?_⟩)) (by repeat (first | exact .nil | apply Pick.cons | exact .here | apply Ext.there)) ?_
      intro i
      rintro ⟨hi1, hi2, hi3, hi4, hi5⟩
      refine CW.seq ?_
      refine CW.seq ?_
      refine CW.region ?_
      refine LW.v rfl rfl (Val.move rfl) ?_
      refine LW.v rfl rfl (Val.fieldAddr 4 rfl Try.underlying28 rfl rfl Try.sizeOf26) ?_
      refine LW.v rfl rfl (Val.load (v := .slice s.call.grp.a (gr s).length s.call.grp.c) rfl Try.isAgg26 (by repeat (first | exact .here | refine .there ?_)) (by rw [← hgn]; rfl)) ?_
      refine LW.v rfl rfl (Val.lenSl rfl Try.underlying26) ?_
      refine LW.v rfl rfl (Val.cmp rfl rfl rfl) ?_
      refine LW.v rfl rfl (Val.move rfl) ?_
      refine LW.split (d := 30) rfl (fun h30 => ?_) (fun h30 => ?_)
      · replace h30 := bT h30
        refine LW.v rfl rfl (Val.fieldAddr 0 rfl Try.underlying28 rfl rfl Try.sizeOf3) ?_
        refine LW.v rfl rfl (Val.load rfl Try.isAgg3 (by repeat (first | exact .here | refine .there ?_)) (by rfl)) ?_
        refine LW.v rfl rfl (Val.cmp rfl rfl rfl) ?_
        refine LW.v rfl rfl (Val.pick_t rfl rfl) ?_
        refine LW.nil ?_
        refine PQ.seq ?_
        refine CW.cond rfl (fun h34 => ?_) (fun h34 => ?_)
        · replace h34 := bT h34
          have h7 : s.call.ck = 7 := by first | simpa using h34 | simpa using h33
          obtain ⟨bg, og, x, hpa, hbg, hx, hrg⟩ := V.slAt_at hgs rfl (k := i.1) (by omega)
          have hxs := hkg x (List.mem_of_getElem? hx)
          refine CW.skip ?_
          refine PQ.seq ?_
          refine CW.seq ?_
          refine CW.block ?_
          refine CW.seq ?_
          refine CW.region ?_
          refine LW.v rfl rfl (Val.fieldAddr 4 rfl Try.underlying28 rfl rfl Try.sizeOf26) ?_
          refine LW.v rfl rfl (Val.load (v := .slice s.call.grp.a (gr s).length s.call.grp.c) rfl Try.isAgg26 (by repeat (first | exact .here | refine .there ?_)) (by rw [← hgn]; rfl)) ?_
          refine LW.re 38 (.slice (some ⟨bg, og, none⟩) (gr s).length s.call.grp.c) rfl (by rw [hpa]) ?_
          refine LW.v rfl rfl (Val.move rfl) ?_
          first | (refine LW.v rfl rfl (Val.indexAddrN rfl rfl Try.underlying26 Try.sizeOf28 (by omega)) ?_) | (refine LW.v rfl rfl (Val.indexAddr rfl rfl Try.underlying26 Try.sizeOf28 (by omega) (by omega)) ?_)
          refine LW.v rfl rfl (Val.fieldAddr 0 rfl Try.underlying28 rfl rfl Try.sizeOf3) ?_
          refine LW.v rfl rfl (Val.loadO rfl Try.isAgg3 hbg (by simp [ids]) (hrg _ _ hx 0 _ rfl)) ?_
          refine LW.e rfl rfl (Eff.callV rfl Try.call57 (fun w hw => keyed_c x.ck w)) ?_
          intro _ _
          refine LW.nil ?_
          refine PQ.seq ?_
          refine CW.cond rfl (fun h43 => ?_) (fun h43 => ?_)
          · replace h43 := bT h43
            refine CW.region ?_
            refine LW.v rfl rfl (Val.move rfl) ?_
            refine LW.v rfl rfl (Val.fieldAddr 4 rfl Try.underlying28 rfl rfl Try.sizeOf26) ?_
            refine LW.v rfl rfl (Val.load (v := .slice s.call.grp.a (gr s).length s.call.grp.c) rfl Try.isAgg26 (by repeat (first | exact .here | refine .there ?_)) (by rw [← hgn]; rfl)) ?_
            refine LW.re 46 (.slice (some ⟨bg, og, none⟩) (gr s).length s.call.grp.c) rfl (by rw [hpa]) ?_
            refine LW.v rfl rfl (Val.move rfl) ?_
            first | (refine LW.v rfl rfl (Val.indexAddrN rfl rfl Try.underlying26 Try.sizeOf28 (by omega)) ?_) | (refine LW.v rfl rfl (Val.indexAddr rfl rfl Try.underlying26 Try.sizeOf28 (by omega) (by omega)) ?_)
            refine LW.v rfl rfl (Val.fieldAddr 1 rfl Try.underlying28 rfl rfl Try.sizeOf9) ?_
            refine LW.v rfl rfl (Val.loadO rfl Try.isAgg9 hbg (by simp [ids]) (hrg _ _ hx 1 _ rfl)) ?_
            refine LW.e rfl rfl (Eff.callM ([ownG 9 (i.2.2.flatMap strC) i.2.1]) (by repeat (first | exact .nil | apply Pick.cons | exact .here | apply Ext.there)) rfl Try.call58 (fun w hw hs0 => put_c i.2.1 i.2.2 x.key hi3 hi2 (by omega) w hs0)) ?_
            rintro ⟨o3, L3⟩ ⟨ho3, hQ⟩
            simp only at ho3 hQ
            obtain ⟨hQ1, hQ2, hQ3⟩ := hQ
            refine LW.v rfl rfl (Val.assign rfl) ?_
            refine LW.nil ?_
            refine PQ.in_normal ?_
            refine PQ.seq ?_
            refine CW.region ?_
            refine LW.v rfl rfl (Val.move rfl) ?_
            refine LW.v rfl rfl (Val.ar rfl rfl rfl (IntWalk.i64_in _ (by omega))) ?_
            refine LW.v rfl rfl (Val.assign rfl) ?_
            refine LW.nil ?_
            refine PQ.round ((i.1 + 1, o3, L3)) ⟨by simp only; omega, ho3, hQ1, fun q => by simp only; rw [hQ2, hi4, if_pos h7, if_pos h7, keysOf_yes hx h43]; simp only [List.mem_append, List.mem_singleton]; exact ⟨fun h => by rcases h with h | h | h <;> simp [h], fun h => by rcases h with h | h | h <;> simp [h]⟩, by simp only; omega⟩ (by simp only; omega) (by repeat (first | exact trivial | refine ⟨rfl, ?_⟩)) (by repeat (first | exact .nil | apply Pick.cons | exact .here | apply Ext.there))
          · replace h43 := bF h43
            refine CW.skip ?_
            refine PQ.in_normal ?_
            refine PQ.seq ?_
            refine CW.region ?_
            refine LW.v rfl rfl (Val.move rfl) ?_
            refine LW.v rfl rfl (Val.ar rfl rfl rfl (IntWalk.i64_in _ (by omega))) ?_
            refine LW.v rfl rfl (Val.assign rfl) ?_
            refine LW.nil ?_
            refine PQ.round ((i.1 + 1, i.2.1, i.2.2)) ⟨by simp only; omega, hi2, hi3, fun q => by simp only; rw [hi4, if_pos h7, if_pos h7, keysOf_no hx (by simpa using h43)], by simp only; omega⟩ (by simp only; omega) (by repeat (first | exact trivial | refine ⟨rfl, ?_⟩)) (by repeat (first | exact .nil | apply Pick.cons | exact .here | apply Ext.there))
        · replace h34 := bF h34
          refine CW.exit ?_
          refine PQ.then_exit ?_
          refine PQ.then_exit ?_
          refine PQ.in_here ?_
          refine PQ.in_normal ?_
          refine PQ.seq ?_
          refine CW.region ?_
          refine LW.v rfl rfl (Val.move rfl) ?_
          refine LW.v rfl rfl (Val.ar rfl rfl rfl (IntWalk.i64_in _ (by omega))) ?_
          refine LW.v rfl rfl (Val.assign rfl) ?_
          refine LW.nil ?_
          have hend : i.1 = (gr s).length ∨ s.call.ck ≠ 7 := by
            first | exact .inr (by simpa using h33) | exact .inr (by simpa using h34) | (left; omega)
          have hall : ∀ q, q ∈ i.2.2 ↔ q ∈ keysAll gr (l.take (k.1 + 1)) := fun q => by
            rw [hi4, keysAll_snoc hsx]
            unfold callsOf
            by_cases h7 : s.call.ck = 7
            · rw [if_pos h7, if_pos h7, show (gr s).take i.1 = gr s from List.take_of_length_le (by rcases hend with e | e; omega; exact absurd h7 e)]
            · rw [if_neg h7, if_neg h7]
          refine PQ.round ((k.1 + 1, i.2.1, i.2.2)) ⟨by simp only; omega, hi2, hi3, hall, by simp only; omega⟩ (by simp only; omega) (by repeat (first | exact trivial | refine ⟨rfl, ?_⟩)) (by repeat (first | exact .nil | apply Pick.cons | exact .here | apply Ext.there))
      · replace h30 := bF h30
        refine LW.p rfl rfl ?_
        refine LW.p rfl rfl ?_
        refine LW.p rfl rfl ?_
        refine LW.v rfl rfl (Val.pick_f rfl rfl) ?_
        refine LW.nil ?_
        refine PQ.seq ?_
        refine CW.cond_f rfl ?_
        refine CW.exit ?_
        refine PQ.then_exit ?_
        refine PQ.then_exit ?_
        refine PQ.in_here ?_
        refine PQ.in_normal ?_
        refine PQ.seq ?_
        refine CW.region ?_
        refine LW.v rfl rfl (Val.move rfl) ?_
        refine LW.v rfl rfl (Val.ar rfl rfl rfl (IntWalk.i64_in _ (by omega))) ?_
        refine LW.v rfl rfl (Val.assign rfl) ?_
        refine LW.nil ?_
        have hend : i.1 = (gr s).length ∨ s.call.ck ≠ 7 := .inl (by omega)
        have hall : ∀ q, q ∈ i.2.2 ↔ q ∈ keysAll gr (l.take (k.1 + 1)) := fun q => by
          rw [hi4, keysAll_snoc hsx]
          unfold callsOf
          by_cases h7 : s.call.ck = 7
          · rw [if_pos h7, if_pos h7, show (gr s).take i.1 = gr s from List.take_of_length_le (by rcases hend with e | e; omega; exact absurd h7 e)]
          · rw [if_neg h7, if_neg h7]
        refine PQ.round ((k.1 + 1, i.2.1, i.2.2)) ⟨by simp only; omega, hi2, hi3, hall, by simp only; omega⟩ (by simp only; omega) (by repeat (first | exact trivial | refine ⟨rfl, ?_⟩)) (by repeat (first | exact .nil | apply Pick.cons | exact .here | apply Ext.there))
  · replace h10 := bF h10
    refine CW.exit ?_
    refine PQ.then_exit ?_
    refine PQ.then_exit ?_
    refine PQ.in_here ?_
    refine PQ.seq ?_
    refine CW.seq ?_
    refine CW.region ?_
    refine LW.v rfl rfl (Val.move rfl) ?_
    refine LW.v rfl rfl (Val.assign rfl) ?_
    refine LW.nil ?_
    refine PQ.seq ?_
    refine CW.ret ?_
    refine PQ.ret1 rfl rfl ?_
    intro w' hw
    have h9 : l.take k.1 = l := List.take_of_length_le (by omega)
    rw [h9] at hk4
    exact ⟨(k.2.1, k.2.2), ⟨⟨hk3, hk4⟩, hk2⟩, rfl, hw⟩
end Go.Proofs.Ytaihimbjdgmjgaa
