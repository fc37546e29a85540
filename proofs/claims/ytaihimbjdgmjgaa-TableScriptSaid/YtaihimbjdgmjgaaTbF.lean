/- Tables with their stamps; All. -/
import Derived.Test.YtaihimbjdgmjgaaTbE
import Derived.Lib.Hide
namespace Go.Proofs.Ytaihimbjdgmjgaa
open Go Go.RowKit V
set_option linter.unusedVariables false
set_option maxRecDepth 100000
open V (ownV ownG ownS ownOk Stp Vis itO)
def TC (E : ME) (c : Nat → Nat) : Prop := ∀ k, k < 8 → Stp (fil E k) (c k)
theorem TC.nil (c : Nat → Nat) : TC [] c := fun k _ => Stp.nil _
theorem TC.put {E : ME} {c : Nat → Nat} (h : TC E c) (k : ByteArray) (v : Value) : TC (mput E k v (c (bk k))) (cput E c k) := fun j hj => by
  by_cases e : j = bk k
  · subst e
    rw [fil_put]
    show Stp _ (if bk k = bk k then _ else _)
    rw [if_pos rfl]
    exact (h _ hj).put k v
  · rw [fil_put_out _ _ _ _ _ e]
    show Stp _ (if j = bk k then _ else _)
    rw [if_neg e]
    exact h j hj
theorem TC.del {E : ME} {c : Nat → Nat} (h : TC E c) (k : ByteArray) : TC (mdel E k) c := fun j hj => by
  by_cases e : j = bk k
  · subst e; rw [fil_del]; exact (h _ hj).del k
  · rw [fil_del_out _ _ _ e]; exact h j hj
/-- A table: its links, n of them, with good stamps. -/
structure TK (E : ME) (c : Nat → Nat) (f : ByteArray → Option Lk) (n : Nat) : Prop where
  ti : TI E f n
  tc : TC E c
  kf : ∀ q x, f q = some x → x.key = q
  ks : ∀ q x, f q = some x → q.size ≤ 1000
theorem ks_set {f : ByteArray → Option Lk} (h : ∀ q x, f q = some x → q.size ≤ 1000) {y : Lk} (hy : y.key.size ≤ 1000) : ∀ q x, fset f y q = some x → q.size ≤ 1000 := fun q x e => by
  unfold fset at e
  split at e
  · rename_i h1; rw [h1]; exact hy
  · exact h q x e
theorem ks_del {f : ByteArray → Option Lk} (h : ∀ q x, f q = some x → q.size ≤ 1000) (k : ByteArray) : ∀ q x, fdel f k q = some x → q.size ≤ 1000 := fun q x e => by
  unfold fdel at e
  split at e
  · cases e
  · exact h q x e
theorem kf_set {f : ByteArray → Option Lk} (h : ∀ q x, f q = some x → x.key = q) (y : Lk) : ∀ q x, fset f y q = some x → x.key = q := fun q x e => by
  unfold fset at e
  split at e
  · rename_i h1; cases e; exact h1.symm
  · exact h q x e
theorem kf_del {f : ByteArray → Option Lk} (h : ∀ q x, f q = some x → x.key = q) (k : ByteArray) : ∀ q x, fdel f k q = some x → x.key = q := fun q x e => by
  unfold fdel at e
  split at e
  · cases e
  · exact h q x e
theorem TK.nil : TK [] (fun _ => 0) (fun _ => none) 0 := ⟨TI.nil, TC.nil _, (fun _ _ h => by cases h), (fun _ _ h => by cases h)⟩
theorem TK.set {E : ME} {c : Nat → Nat} {f : ByteArray → Option Lk} {n : Nat} (h : TK E c f n) (x : Lk) (hx : x.key.size ≤ 1000) : TK (mput E x.key (lkV x) (c (bk x.key))) (cput E c x.key) (fset f x) (if (f x.key).isSome then n else n + 1) := ⟨h.ti.set x _, h.tc.put _ _, kf_set h.kf x, ks_set h.ks hx⟩
theorem TK.del {E : ME} {c : Nat → Nat} {f : ByteArray → Option Lk} {n : Nat} (h : TK E c f n) (k : ByteArray) : TK (mdel E k) c (fdel f k) (if (f k).isSome then n - 1 else n) := ⟨h.ti.del k, h.tc.del k, kf_del h.kf k, ks_del h.ks k⟩
theorem mget_mem {E : ME} (h : mnd E) {e : Nat × ByteArray × Value} (he : e ∈ E) : mget E e.2.1 = some e.2.2 := by
  induction E with
  | nil => simp at he
  | cons a r ih =>
    simp only [mget]
    have hn : (a.2.1 :: r.map (·.2.1)).Nodup := h
    rw [List.nodup_cons] at hn
    rcases List.mem_cons.1 he with rfl | he
    · simp
    · have hne : ¬ a.2.1 = e.2.1 := fun e1 => hn.1 (e1 ▸ List.mem_map_of_mem (f := (·.2.1)) he)
      rw [if_neg hne]
      exact ih hn.2 he
theorem mget_some {E : ME} {k : ByteArray} {v : Value} (h : mget E k = some v) : ∃ e ∈ E, e.2.1 = k ∧ e.2.2 = v := by
  induction E with
  | nil => simp [mget] at h
  | cons a r ih =>
    simp only [mget] at h
    split at h
    · rename_i h1; cases h; exact ⟨a, by simp, h1, rfl⟩
    · obtain ⟨e, he, h2⟩ := ih h; exact ⟨e, by simp [he], h2⟩
theorem lkV_inj {x y : Lk} (h : lkV x = lkV y) : x = y := by
  obtain ⟨a, b, c, d, e⟩ := x; obtain ⟨a', b', c', d', e'⟩ := y
  simp [lkV, lkC] at h
  obtain ⟨rfl, rfl, rfl, rfl, rfl⟩ := h
  rfl
theorem TK.entry {E : ME} {c : Nat → Nat} {f : ByteArray → Option Lk} {n : Nat} (h : TK E c f n) {e : Nat × ByteArray × Value} (he : e ∈ E) : ∃ x : Lk, e.2.2 = lkV x ∧ x.key = e.2.1 ∧ f e.2.1 = some x := by
  have h1 := mget_mem h.ti.nd he
  rw [h.ti.get] at h1
  cases hf : f e.2.1 with
  | none => rw [hf] at h1; cases h1
  | some x => rw [hf] at h1; exact ⟨x, (Option.some.inj h1).symm, h.kf _ _ hf, rfl⟩
def kv (e : Nat × ByteArray × Value) : ByteArray × Value := (e.2.1, e.2.2)
def kvL (x : Lk) : ByteArray × Value := (x.key, lkV x)
/-- All links of a table, by rising keys. -/
structure AllOk (f : ByteArray → Option Lk) (n : Nat) (L : List Lk) : Prop where
  len : L.length = n
  get : ∀ x ∈ L, f x.key = some x
  all : ∀ q x, f q = some x → x ∈ L
  up : L.Pairwise fun a b => kL a < kL b
theorem allOk_of {E T : ME} {c : Nat → Nat} {f : ByteArray → Option Lk} {n : Nat} (h : TK E c f n) (hT : T.Perm E) {L L' : List Lk} (hL : T.map kv = L.map kvL) (hp : L'.Perm L) (hu : UpL L') : AllOk f n L' := by
  have hlen : L.length = n := by
    have := congrArg List.length hL
    simp only [List.length_map] at this
    rw [← this, hT.length_eq, h.ti.len]
  have hmem : ∀ x, x ∈ L ↔ f x.key = some x := fun x => by
    constructor
    · intro hx
      have : kvL x ∈ T.map kv := by rw [hL]; exact List.mem_map_of_mem hx
      obtain ⟨e, he, h1⟩ := List.mem_map.1 this
      obtain ⟨y, hy1, hy2, hy3⟩ := h.entry (hT.subset he)
      simp only [kv, kvL, Prod.mk.injEq] at h1
      have : y = x := lkV_inj (by rw [← hy1, h1.2])
      subst this
      rw [← h1.1]; exact hy3
    · intro hx
      have h1 : mget E x.key = some (lkV x) := by rw [h.ti.get, hx]; rfl
      obtain ⟨e, he, h2, h3⟩ := mget_some h1
      have : kv e ∈ L.map kvL := by rw [← hL]; exact List.mem_map_of_mem (hT.symm.subset he)
      obtain ⟨y, hy, h4⟩ := List.mem_map.1 this
      simp only [kv, kvL, Prod.mk.injEq] at h4
      have : y = x := lkV_inj (by rw [h4.2, h3])
      subst this; exact hy
  have hnd : (L.map (·.key)).Nodup := by
    have e1 : L.map (·.key) = T.map (·.2.1) := by
      have := congrArg (List.map Prod.fst) hL
      simp only [List.map_map] at this
      exact this.symm
    rw [e1]
    exact (List.Perm.nodup_iff (hT.map (fun e => e.2.1))).2 (show (E.map (fun e => e.2.1)).Nodup from h.ti.nd)
  refine ⟨by rw [hp.length_eq, hlen], fun x hx => (hmem x).1 (hp.subset hx), fun q x hx => hp.symm.subset ((hmem x).2 (by rw [h.kf q x hx]; exact hx)), ?_⟩
  have hnd' : (L'.map (·.key)).Nodup := (hp.map (·.key)).nodup_iff.2 hnd
  have h9 : L'.Pairwise fun a b => a.key ≠ b.key := List.pairwise_map.1 hnd'
  refine (List.pairwise_and_iff.2 ⟨hu, h9⟩).imp ?_
  intro a b ⟨h1, h2⟩
  have h3 : kL a ≤ kL b := List.not_lt.1 h1
  rcases Classical.em (kL a < kL b) with h4 | h4
  · exact h4
  · exact absurd (kL_inj (List.le_antisymm h3 (List.not_lt.1 h4))) h2
theorem fil_succ (E : ME) (k : Nat) : ((E.filter fun e => decide (bk e.2.1 < k)) ++ fil E k).Perm (E.filter fun e => decide (bk e.2.1 < k + 1)) := by
  induction E with
  | nil => simp [fil]
  | cons a r ih =>
    unfold fil at ih ⊢
    simp only [List.filter_cons]
    by_cases h1 : bk a.2.1 < k
    · have h2 : bk a.2.1 < k + 1 := by omega
      have h3 : ¬ bk a.2.1 = k := by omega
      simp [h1, h2, h3, ih]
    · by_cases h3 : bk a.2.1 = k
      · subst h3
        have h2 : bk a.2.1 < bk a.2.1 + 1 := by omega
        simp only [h1, h2, decide_true, decide_false, if_true, beq_self_eq_true, Bool.false_eq_true, if_false]
        exact List.perm_middle.trans (ih.cons _)
      · have h2 : ¬ bk a.2.1 < k + 1 := by omega
        simp [h1, h2, h3, ih]
theorem fil_all (E : ME) : (E.filter fun e => decide (bk e.2.1 < 8)) = E := List.filter_eq_self.2 fun e _ => by simpa using bk_lt _
theorem allT_c (t : Nat) (m : Nat → Nat) (E : ME) (c : Nat → Nat) {f : ByteArray → Option Lk} {n : Nat} (hT : TK E c f n) (hn : n ≤ 1000) (w : World) (hs : Sat (tbG t m E c) w) : Calls Try.prog 15 [.pointer (some ⟨t, 0, none⟩)].toArray w fun e w' => ∃ y : V.OwnO × List Lk, (AllOk f n y.2 ∧ ownOk 5 y.2.length (y.2.flatMap lkC) y.1) ∧ e = .returned (ownV y.2.length y.1) ∧ Hp ⟨w, ids (tbG t m E c)⟩ (tbG t m E c ++ [ownG 44 (y.2.flatMap lkC) y.1]) w' := by
  refine V.calls (tbG t m E c) Try.func15 rfl Try.ntmps15 (Nat.le_of_ble_eq_true rfl) hs ?_
  refine CW.seq ?_
  refine CW.region ?_
  refine LW.v rfl rfl (Val.assign rfl) ?_
  refine LW.nil ?_
  refine PQ.seq ?_
  refine CW.seq ?_
  refine CW.region ?_
  refine LW.v rfl rfl (Val.assign rfl) ?_
  refine LW.nil ?_
  refine PQ.seq ?_
  refine CW.seq ?_
  refine CW.seq ?_
  refine CW.region ?_
  refine LW.v rfl rfl (Val.move rfl) ?_
  refine LW.v rfl rfl (Val.eqP false rfl rfl Try.underlying39 (.inr ⟨rfl, rfl⟩)) ?_
  refine LW.nil ?_
  refine PQ.seq ?_
  refine CW.cond_f rfl ?_
  refine CW.skip ?_
  refine PQ.seq ?_
  refine CW.seq ?_
  refine CW.seq ?_
  refine CW.region ?_
  refine LW.v rfl rfl (Val.move rfl) ?_
  refine LW.v rfl rfl (Val.nilCheck rfl) ?_
  refine LW.v rfl rfl (Val.fieldAddr 0 rfl Try.underlying74 rfl rfl Try.sizeOf72) ?_
  first | (refine LW.v rfl rfl (Val.loadW rfl Try.isAgg72 (by repeat (first | exact .here | refine .there ?_)) (by exact Try.sizeOf72)) ?_) | (refine LW.v rfl rfl (Val.loadA [_, _, _, _, _, _, _, _] rfl Try.isAgg72 (by repeat (first | exact .here | refine .there ?_)) (by rfl) Try.sizeOf72) ?_)
  refine LW.v rfl rfl (Val.move rfl) ?_
  refine LW.nil ?_
  refine PQ.seq ?_
  refine CW.block ?_
  refine CW.perm (sg' := tbG t m E c ++ [ownG 44 [] none]) ?_ (by simp [V.ownG_none])
  refine CW.loop (γ := Nat × V.OwnO × List Lk × ME) (fun k => [(3, ownV k.2.2.1.length k.2.1), (14, .agg (tbCells m).toArray), (15, .int .i64 (k.1 : Nat))]) (fun k => tbG t m E c ++ [ownG 44 (k.2.2.1.flatMap lkC) k.2.1]) (fun k => k.1 ≤ 8 ∧ k.2.2.2.Perm (E.filter fun e => decide (bk e.2.1 < k.1)) ∧ k.2.2.2.map kv = k.2.2.1.map kvL ∧ ownOk 5 k.2.2.1.length (k.2.2.1.flatMap lkC) k.2.1) (fun k => 8 - k.1) ((0, none, [], [])) ⟨Nat.zero_le _, by simp, rfl, rfl, rfl⟩ (by repeat (first | exact trivial | refine ⟨rfl, ?_⟩)) (by repeat (first | exact .nil | apply Pick.cons | exact .here | apply Ext.there)) ?_
  intro k
  rintro ⟨hk1, hk2, hkv, hk3⟩
  refine CW.seq ?_
  refine CW.region ?_
  refine LW.v rfl rfl (Val.cmp rfl rfl rfl) ?_
  refine LW.nil ?_
  refine PQ.seq ?_
  refine CW.seq ?_
  refine CW.cond rfl (fun h16 => ?_) (fun h16 => ?_)
  · replace h16 := bT h16
    have hbk : k.1 < 8 := by omega
    refine CW.skip ?_
    refine PQ.seq ?_
    refine CW.seq ?_
    refine CW.block ?_
    refine CW.seq ?_
    refine CW.region ?_
    refine LW.v rfl rfl (Val.indexArr rfl rfl Try.underlying72 Try.sizeOf71 Try.isAgg71 (by omega) (tbCells_at m hbk)) ?_
    refine LW.v rfl rfl (Val.assign rfl) ?_
    refine LW.nil ?_
    refine PQ.seq ?_
    refine CW.seq ?_
    refine CW.region ?_
    refine LW.v rfl rfl (Val.move rfl) ?_
    refine LW.e rfl rfl (Eff.range (E := fil E k.1) (c := c k.1) rfl Try.underlying71 (by repeat (first | exact InS.nth (tbSeg_at m E c hbk) | refine .there ?_))) ?_
    intro b19 _
    refine LW.nil ?_
    refine PQ.seq ?_
    refine CW.block ?_
    refine CW.loop (γ := V.OwnO × List Lk × ME) (fun j => [(3, ownV j.2.1.length j.1), (14, .agg (tbCells m).toArray), (15, .int .i64 (k.1 : Nat)), (19, .pointer (some ⟨b19, 0, none⟩))]) (fun j => tbG t m E c ++ [ownG 44 (j.2.1.flatMap lkC) j.1] ++ [[(b19, itO (m k.1) (c k.1) j.2.2)]]) (fun j => Vis (fil E k.1) j.2.2 ∧ (k.2.2.2 ++ j.2.2).map kv = j.2.1.map kvL ∧ ownOk 5 j.2.1.length (j.2.1.flatMap lkC) j.1) (fun j => (fil E k.1).length - j.2.2.length) ((k.2.1, k.2.2.1, [])) ⟨Vis.nil _, by simpa using hkv, hk3⟩ (by repeat (first | exact trivial | refine ⟨rfl, ?_⟩)) (by repeat (first | exact .nil | apply Pick.cons | exact .here | apply Ext.there)) ?_
    intro j
    rintro ⟨hv, hjv, hk3⟩
    have hjl : j.2.1.length ≤ 2000 := by
      have h1 := congrArg List.length hjv
      have h2 := hk2.length_eq
      have h3 := List.length_filter_le (fun e => decide (bk e.2.1 < k.1)) E
      have h4 := hv.le
      have h5 := fil_le E k.1
      have h6 := hT.ti.len
      simp only [List.length_map, List.length_append] at h1
      omega
    refine CW.seq ?_
    refine CW.region ?_
    refine LW.e rfl rfl (Eff.next (E := fil E k.1) (D := j.2.2) rfl (by repeat (first | exact InS.nth (tbSeg_at m E c hbk) | refine .there ?_)) (hT.tc k.1 hbk) (fun e => (by repeat (first | exact .here | apply Upd.there)))) ?_
    intro oe he
    rcases oe with _ | e
    · dsimp only at he ⊢
      refine LW.v rfl rfl (Val.extract rfl rfl) ?_
      refine LW.nil ?_
      refine PQ.seq ?_
      refine CW.seq ?_
      refine CW.cond_f rfl ?_
      refine CW.exit ?_
      refine PQ.then_exit ?_
      refine PQ.then_exit ?_
      refine PQ.in_here ?_
      refine PQ.in_normal ?_
      refine PQ.seq ?_
      refine CW.region ?_
      refine LW.v rfl rfl (Val.ar rfl rfl rfl (IntWalk.i64_in _ (by omega))) ?_
      refine LW.v rfl rfl (Val.move rfl) ?_
      refine LW.nil ?_
      refine PQ.round ((k.1 + 1, j.1, j.2.1, k.2.2.2 ++ j.2.2)) ⟨by simp only; omega, ((hk2.append_right _).trans ((hv.perm (hT.tc k.1 hbk).nd he).append_left _)).trans (fil_succ E k.1), hjv, hk3⟩ (by simp only; omega) (by repeat (first | exact trivial | refine ⟨rfl, ?_⟩)) (by repeat (first | exact .nil | apply Pick.cons | exact .here | apply Ext.there))
    · dsimp only at he ⊢
      obtain ⟨x, hx1, hx2, hx3⟩ := hT.entry (List.mem_filter.1 (show e ∈ List.filter _ E from he.1)).1
      have hvl := (hv.lt he.1 he.2)
      refine LW.v rfl rfl (Val.extract rfl rfl) ?_
      refine LW.nil ?_
      refine PQ.seq ?_
      refine CW.seq ?_
      refine CW.cond_t rfl ?_
      refine CW.skip ?_
      refine PQ.seq ?_
      refine CW.block ?_
      refine CW.seq ?_
      refine CW.region ?_
      refine LW.v rfl rfl (Val.entry rfl (by repeat (first | exact .here | refine .there ?_)) (by repeat (first | exact InS.nth (tbSeg_at m E c hbk) | refine .there ?_)) he.1 (hT.tc k.1 hbk).nd) ?_
      refine LW.v rfl rfl (Val.extract rfl rfl) ?_
      refine LW.re 23 (.agg (lkC x).toArray) rfl (by rw [hx1]; rfl) ?_
      refine LW.e rfl rfl (Eff.allocA (by exact Try.zeroValue44)) ?_
      intro b7 _
      first | (refine LW.eN rfl (Eff.storeW rfl rfl (by repeat (first | exact .here | apply Upd.there)) (by rfl) Try.sizeOf44 (by rfl)) ?_) | (refine LW.eN rfl (Eff.storeA (l' := _) rfl rfl (by repeat (first | exact .here | apply Upd.there)) (by rfl) (by decide) Try.sizeOf44 (by rfl)) ?_)
      intro _ _
      refine LW.nil ?_
      refine PQ.seq ?_
      refine CW.region ?_
      refine LW.v rfl rfl (Val.move rfl) ?_
      first | (refine LW.v rfl rfl (Val.loadW rfl Try.isAgg44 (by repeat (first | exact .here | refine .there ?_)) (by exact Try.sizeOf44)) ?_) | (refine LW.v rfl rfl (Val.loadA [_, _, _, _, _] rfl Try.isAgg44 (by repeat (first | exact .here | refine .there ?_)) (by rfl) Try.sizeOf44) ?_)
      refine LW.e rfl rfl (Eff.buildSlice (rfl) [_, _, _, _, _] Try.underlying41 Try.sizeOf44 (by exact Try.zeroValue44) rfl rfl rfl rfl (by rfl)) ?_
      intro b26 _
      refine LW.e rfl rfl (Eff.appendAny (lkC x) (sz := 5) (bytes := 48) (z := .agg #[.string ⟨#[]⟩, .int .u64 0, .int .u64 0, .int .i64 0, .int .i64 0]) (xs := j.2.1.flatMap lkC) (m0 := j.2.1.length) (o := j.1) (m := 1) (pk := [ownG 44 (j.2.1.flatMap lkC) j.1]) rfl rfl Try.underlying41 (by kernel_rfl) rfl (by omega) (by repeat (first | exact .nil | apply Pick.cons | exact .here | apply Ext.there)) (by simp) hk3 rfl (fun hm0 => ⟨b26, 0, rfl, fun w hw => V.range_of_block (o := 0) (cs := lkC x) (r := []) (hw.own _ (show InS (b26, .cells (lkC x).toArray 44 (0, 0)) _ from (by repeat (first | exact .here | refine .there ?_))).mem) rfl⟩) rfl (by omega) (by omega)) ?_
      intro o2 ho2
      refine LW.v rfl rfl (Val.assign rfl) ?_
      refine LW.nil ?_
      refine PQ.in_normal ?_
      have e1 : (j.2.1 ++ [x]).flatMap lkC = j.2.1.flatMap lkC ++ lkC x := by simp
      have e2 : (j.2.1 ++ [x]).length = j.2.1.length + 1 := by simp
      rw [← e1, ← e2]
      refine PQ.round ((o2, j.2.1 ++ [x], j.2.2 ++ [e])) ⟨hv.snoc he.1 he.2, by rw [← List.append_assoc, List.map_append, hjv, List.map_append]; simp [kv, kvL, hx1, hx2], by simpa using ho2⟩ (by simp; omega) (by repeat (first | exact trivial | refine ⟨rfl, ?_⟩)) (by repeat (first | exact .nil | apply Pick.cons | exact .here | apply Ext.there))
  · replace h16 := bF h16
    refine CW.exit ?_
    refine PQ.then_exit ?_
    refine PQ.then_exit ?_
    refine PQ.in_here ?_
    refine PQ.seq ?_
    refine CW.seq ?_
    refine CW.region ?_
    refine LW.v rfl rfl (Val.move rfl) ?_
    refine LW.e rfl rfl (Eff.callM ([ownG 44 (k.2.2.1.flatMap lkC) k.2.1]) (by repeat (first | exact .nil | apply Pick.cons | exact .here | apply Ext.there)) rfl Try.call45 (fun w hw hs0 => sortL_c k.2.1 k.2.2.1 hk3 (by have h1 := congrArg List.length hkv; have h2 := hk2.length_eq; have h3 := List.length_filter_le (fun e => decide (bk e.2.1 < k.1)) E; have h6 := hT.ti.len; simp only [List.length_map] at h1; omega) w hs0)) ?_
    intro L2 hL2
    refine LW.nil ?_
    refine PQ.seq ?_
    refine CW.seq ?_
    refine CW.region ?_
    refine LW.v rfl rfl (Val.move rfl) ?_
    refine LW.v rfl rfl (Val.assign rfl) ?_
    refine LW.nil ?_
    refine PQ.seq ?_
    refine CW.ret ?_
    refine PQ.ret1 rfl rfl ?_
    intro w' hw
    have hk8 : k.1 = 8 := by omega
    rw [hk8, fil_all] at hk2
    have hll := hL2.1.length_eq
    refine ⟨(k.2.1, L2), ⟨allOk_of hT hk2 hkv hL2.1 hL2.2, ⟨by rw [V.flatMap_len (k := 5) (fun _ => rfl)], ?_⟩⟩, by rw [hll], ?_⟩
    · have h1 := hk3.2
      have h2 := hk3.1
      rw [V.flatMap_len (enc := lkC) (k := 5) (fun _ => rfl) L2, hll]
      rw [h2] at h1
      exact h1
    · exact hw.pick (by repeat (first | exact .nil | apply Pick.cons | exact .here | apply Ext.there))
end Go.Proofs.Ytaihimbjdgmjgaa
