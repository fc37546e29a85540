/- TableWalks: the walk of the law. -/
import Derived.Test.YtaihimbjdgmjgaaTbI
import Derived.Lib.Hide
namespace Go.Proofs.Ytaihimbjdgmjgaa
open Go Go.RowKit V
set_option linter.unusedVariables false
set_option maxRecDepth 100000
open V (ownV ownG ownS ownOk Stp Vis itO str byC)
theorem links_le {E : ME} {c : Nat → Nat} {f : ByteArray → Option Lk} {n : Nat} (h : TK E c f n) {L : List Lk} (hnd : (L.map (·.key)).Nodup) (hf : ∀ x ∈ L, f x.key = some x) : L.length ≤ n := by
  have h1 : ∀ k ∈ L.map (·.key), k ∈ E.map (fun e => e.2.1) := fun k hk => by
    obtain ⟨x, hx, rfl⟩ := List.mem_map.1 hk
    have h2 : mget E x.key = some (lkV x) := by rw [h.ti.get, hf x hx]; rfl
    obtain ⟨e, he, h3, _⟩ := mget_some h2
    exact List.mem_map.2 ⟨e, he, h3⟩
  have h4 := V.len_le_of_nodup hnd h1
  simp only [List.length_map] at h4
  rw [h.ti.len] at h4; exact h4
theorem links_eq {E : ME} {c : Nat → Nat} {f : ByteArray → Option Lk} {n : Nat} (h : TK E c f n) {L : List Lk} (hnd : (L.map (·.key)).Nodup) (hf : ∀ x ∈ L, f x.key = some x) (ha : ∀ q x, f q = some x → x ∈ L) : L.length = n := by
  refine Nat.le_antisymm (links_le h hnd hf) ?_
  have h1 : ∀ k ∈ E.map (fun e => e.2.1), k ∈ L.map (·.key) := fun k hk => by
    obtain ⟨e, he, rfl⟩ := List.mem_map.1 hk
    obtain ⟨x, _, h3, h4⟩ := h.entry he
    exact List.mem_map.2 ⟨x, ha _ _ h4, h3⟩
  have h4 := V.len_le_of_nodup (show (E.map (fun e => e.2.1)).Nodup from h.ti.nd) h1
  simp only [List.length_map] at h4
  rw [h.ti.len] at h4; exact h4
def lastK (V : List Lk) : ByteArray := ((V.getLast?).map (·.key)).getD ⟨#[]⟩
/-- What was met in a bucket so far. -/
structure VJ (f : ByteArray → Option Lk) (b : Nat) (V : List Lk) : Prop where
  up : V.Pairwise fun x y => kL x < kL y
  get : ∀ x ∈ V, f x.key = some x ∧ bk x.key = b
  all : ∀ q x, f q = some x → bk q = b → V ≠ [] → bL q ≤ bL (lastK V) → x ∈ V
theorem VJ.nil {f : ByteArray → Option Lk} {b : Nat} : VJ f b [] := ⟨.nil, by simp, fun _ _ _ _ h => absurd rfl h⟩
theorem lastK_snoc (V : List Lk) (x : Lk) : lastK (V ++ [x]) = x.key := by simp [lastK]
theorem le_last {V : List Lk} (h : V.Pairwise fun x y => kL x < kL y) : ∀ x ∈ V, kL x ≤ bL (lastK V) := by
  intro x hx
  rcases List.eq_nil_or_concat V with rfl | ⟨r, y, rfl⟩
  · simp at hx
  · simp only [List.concat_eq_append] at *
    rw [lastK_snoc]
    rcases List.mem_append.1 hx with h1 | h1
    · exact List.le_of_lt ((List.pairwise_append.1 h).2.2 x h1 y (by simp))
    · simp at h1; subst h1; exact List.le_refl _
theorem VJ.step {f : ByteArray → Option Lk} {b : Nat} {V : List Lk} (h : VJ f b V) (hkf : ∀ q x, f q = some x → x.key = q) {x : Lk} (hr : NextOk f b (lastK V) (!V.isEmpty) (some x)) : VJ f b (V ++ [x]) := by
  obtain ⟨h1, h2, h3, h4⟩ := hr
  have hlt : ∀ y ∈ V, kL y < kL x := fun y hy => by
    have hne : V ≠ [] := fun e => by subst e; simp at hy
    have h5 : bL (lastK V) < bL x.key := h3 (by cases V <;> simp_all)
    exact List.lt_of_le_of_lt (le_last h.up y hy) h5
  refine ⟨List.pairwise_append.2 ⟨h.up, by simp, fun a ha y hy => by simp at hy; subst hy; exact hlt a ha⟩, fun y hy => ?_, fun q y hq hb _ hle => ?_⟩
  · rcases List.mem_append.1 hy with hy | hy
    · exact h.get y hy
    · simp at hy; subst hy; exact ⟨h1, by omega⟩
  · rw [lastK_snoc] at hle
    by_cases hin : V ≠ [] ∧ bL q ≤ bL (lastK V)
    · exact List.mem_append_left _ (h.all q y hq hb hin.1 hin.2)
    · have h6 : bL x.key ≤ bL q := h4 q y hq (by omega) (fun hp => by
        have hne : V ≠ [] := by rintro rfl; simp at hp
        rcases Classical.em (bL (lastK V) < bL q) with h7 | h7
        · exact h7
        · exact absurd ⟨hne, List.not_lt.1 h7⟩ hin)
      have h7 : q = x.key := kL_inj (List.le_antisymm hle h6)
      subst h7
      rw [h1] at hq
      cases hq; simp
theorem VJ.done {f : ByteArray → Option Lk} {b : Nat} {V : List Lk} (h : VJ f b V) (hr : NextOk f b (lastK V) (!V.isEmpty) none) : ∀ q x, f q = some x → bk q = b → x ∈ V := fun q x hq hb => by
  obtain ⟨h1, h2⟩ := hr q x hq (by omega)
  have hne : V ≠ [] := by rintro rfl; simp at h1
  exact h.all q x hq hb hne (List.not_lt.1 h2)
theorem up_nodup {V : List Lk} (h : V.Pairwise fun x y => kL x < kL y) : (V.map (·.key)).Nodup := by
  refine List.pairwise_map.2 (h.imp ?_)
  intro a b hab e
  have : kL a = kL b := by unfold kL; rw [e]
  rw [this] at hab
  exact List.lt_irrefl _ hab
/-- What was met in the buckets behind. -/
structure TJ (f : ByteArray → Option Lk) (b : Nat) (T : List Lk) : Prop where
  nd : (T.map (·.key)).Nodup
  get : ∀ x ∈ T, f x.key = some x ∧ bk x.key < b
  all : ∀ q x, f q = some x → bk q < b → x ∈ T
theorem TJ.nil {f : ByteArray → Option Lk} : TJ f 0 [] := ⟨by simp, by simp, fun _ _ _ h => by omega⟩
theorem TJ.step {f : ByteArray → Option Lk} {b : Nat} {T V : List Lk} (h : TJ f b T) (hv : VJ f b V) (hr : NextOk f b (lastK V) (!V.isEmpty) none) : TJ f (b + 1) (T ++ V) := by
  refine ⟨?_, fun x hx => ?_, fun q x hq hb => ?_⟩
  · rw [List.map_append, List.nodup_append]
    refine ⟨h.nd, up_nodup hv.up, fun a ha c hc e => ?_⟩
    obtain ⟨x, hx, rfl⟩ := List.mem_map.1 ha
    obtain ⟨y, hy, rfl⟩ := List.mem_map.1 hc
    have h1 := (h.get x hx).2
    have h2 := (hv.get y hy).2
    rw [e] at h1; omega
  · rcases List.mem_append.1 hx with hx | hx
    · exact ⟨(h.get x hx).1, by have := (h.get x hx).2; omega⟩
    · exact ⟨(hv.get x hx).1, by have := (hv.get x hx).2; omega⟩
  · by_cases h1 : bk q < b
    · exact List.mem_append_left _ (h.all q x hq h1)
    · exact List.mem_append_right _ (hv.done hr q x hq (by omega))
theorem leq_no {x pos : ByteArray} (h : bL pos < bL x) : (Op.bytesLess x.toList pos.toList || decide (x = pos)) = false := by
  rw [ByteArray.toList_eq, ByteArray.toList_eq, Go.Proofs.bytesLess_eq]
  rw [Bool.or_eq_false_iff]
  refine ⟨decide_eq_false fun h1 => List.lt_irrefl _ (List.lt_trans h h1), decide_eq_false fun h1 => ?_⟩
  subst h1; exact List.lt_irrefl _ h
theorem tableWalks_c (p : Option Addr) (n cap : Nat) (acts : List Ac12) (w : World) (hn : acts.length = n) (h : V.slAt w p 8 Ac12.cells acts) (hm : n ≤ maxLen) : Calls Try.prog 5 [.slice p n cap].toArray w fun e w' => e = .returned (.bool true) ∧ Below w.heap.size w w' := by
  refine V.calls [] Try.func5 rfl Try.ntmps5 (Nat.le_of_ble_eq_true rfl) (V.sat_nil _) ?_
  refine CW.seq ?_
  refine CW.region ?_
  refine LW.v rfl rfl (Val.assign rfl) ?_
  refine LW.nil ?_
  refine PQ.seq ?_
  refine CW.seq ?_
  refine CW.seq ?_
  refine CW.region ?_
  refine LW.v rfl rfl (Val.move rfl) ?_
  refine LW.e rfl rfl (Eff.callR rfl Try.call12 (fun w hw => large12_c p n cap acts w hn (hw.slAt h (by simp [ids])) hm)) ?_
  intro lg hlg
  refine LW.nil ?_
  refine PQ.seq ?_
  refine CW.cond rfl (fun h14 => ?_) (fun h14 => ?_)
  · replace h14 := bT h14
    refine CW.seq ?_
    refine CW.region ?_
    refine LW.e rfl rfl (Eff.callV rfl Try.call13 (fun w hw => awake12_c w)) ?_
    intro _ _
    refine LW.v rfl rfl (Val.assign rfl) ?_
    refine LW.nil ?_
    refine PQ.seq ?_
    refine CW.ret ?_
    refine PQ.then_ret ?_
    refine PQ.ret1 rfl rfl ?_
    intro w' hw; exact ⟨rfl, hw.below⟩
  · replace h14 := bF h14
    refine CW.skip ?_
    refine PQ.seq ?_
    refine CW.seq ?_
    refine CW.region ?_
    refine LW.v rfl rfl (Val.move rfl) ?_
    refine LW.e rfl rfl (Eff.callM ([]) (by repeat (first | exact .nil | apply Pick.cons | exact .here | apply Ext.there)) rfl Try.call14 (fun w hw hs0 => played2_c p n cap acts w hn (hw.slAt h (by simp [ids])) (hlg h14))) ?_
    rintro ⟨t, m, E, c⟩ ⟨n1, hn1, hT⟩
    try simp only at hT
    have hF1 := (hlg h14).1
    refine LW.v rfl rfl (Val.assign rfl) ?_
    refine LW.nil ?_
    refine PQ.seq ?_
    refine CW.seq ?_
    refine CW.seq ?_
    refine CW.region ?_
    refine LW.v rfl rfl (Val.move rfl) ?_
    refine LW.v rfl rfl (Val.eqP false rfl rfl Try.underlying39 (.inr ⟨rfl, rfl⟩)) ?_
    refine LW.nil ?_
    refine PQ.seq ?_
    refine CW.cond_f rfl ?_
    refine CW.skip ?_
    refine PQ.seq ?_
    refine CW.seq ?_
    refine CW.region ?_
    refine LW.v rfl rfl (Val.assign rfl) ?_
    refine LW.nil ?_
    refine PQ.seq ?_
    refine CW.seq ?_
    refine CW.seq ?_
    refine CW.region ?_
    refine LW.v rfl rfl (Val.assign rfl) ?_
    refine LW.nil ?_
    refine PQ.seq ?_
    refine CW.block ?_
    refine CW.loop (γ := Nat × List Lk) (fun k => [(3, .pointer (some ⟨t, 0, none⟩)), (4, .int .i64 (k.2.length : Nat)), (5, .int .i64 (k.1 : Nat))]) (fun _ => tbG t m E c) (fun k => k.1 ≤ 8 ∧ TJ (plF acts) k.1 k.2) (fun k => 8 - k.1) ((0, [])) ⟨Nat.zero_le _, TJ.nil⟩ (by repeat (first | exact trivial | refine ⟨rfl, ?_⟩)) (by repeat (first | exact .nil | apply Pick.cons | exact .here | apply Ext.there)) ?_
    intro k
    rintro ⟨hk, hTJ⟩
    have hTl := links_le hT hTJ.nd (fun x hx => (hTJ.get x hx).1)
    refine CW.seq ?_
    refine CW.seq ?_
    refine CW.region ?_
    refine LW.v rfl rfl (Val.move rfl) ?_
    refine LW.v rfl rfl (Val.cmp rfl rfl rfl) ?_
    refine LW.nil ?_
    refine PQ.seq ?_
    refine CW.cond rfl (fun h21 => ?_) (fun h21 => ?_)
    · replace h21 := bT h21
      refine CW.skip ?_
      refine PQ.seq ?_
      refine CW.seq ?_
      refine CW.block ?_
      refine CW.seq ?_
      refine CW.region ?_
      refine LW.v rfl rfl (Val.assign rfl) ?_
      refine LW.v rfl rfl (Val.assign rfl) ?_
      refine LW.nil ?_
      refine PQ.seq ?_
      refine CW.seq ?_
      refine CW.region ?_
      refine LW.v rfl rfl (Val.assign rfl) ?_
      refine LW.nil ?_
      refine PQ.seq ?_
      refine CW.block ?_
      refine CW.loop (γ := List Lk) (fun V => [(3, .pointer (some ⟨t, 0, none⟩)), (4, .int .i64 ((k.2.length + V.length : Nat) : Int)), (5, .int .i64 (k.1 : Nat)), (6, .string (lastK V)), (7, .bool (!V.isEmpty)), (8, .int .i64 (V.length : Nat))]) (fun _ => tbG t m E c) (fun V => VJ (plF acts) k.1 V) (fun V => n1 + 1 - V.length) ([]) VJ.nil (by repeat (first | exact trivial | refine ⟨rfl, ?_⟩)) (by repeat (first | exact .nil | apply Pick.cons | exact .here | apply Ext.there)) ?_
      intro V
      intro hV
      have hVl := links_le hT (up_nodup hV.up) (fun y hy => (hV.get y hy).1)
      refine CW.seq ?_
      refine CW.seq ?_
      refine CW.region ?_
      refine LW.v rfl rfl (Val.move rfl) ?_
      refine LW.v rfl rfl (Val.move rfl) ?_
      refine LW.e rfl rfl (Eff.callV rfl Try.call16 (fun w hw => len_c t m E c hT.ti (by omega) w (hw.sat.pick (ss := tbG t m E c) (by repeat (first | exact .nil | apply Pick.cons | exact .here | apply Ext.there))))) ?_
      intro _ _
      refine LW.v rfl rfl (Val.cmp rfl rfl rfl) ?_
      refine LW.re 27 (.bool true) rfl (by have := links_le hT (up_nodup hV.up) (fun y hy => (hV.get y hy).1); simp; omega) ?_
      refine LW.nil ?_
      refine PQ.seq ?_
      refine CW.cond_t rfl ?_
      refine CW.skip ?_
      refine PQ.seq ?_
      refine CW.seq ?_
      refine CW.block ?_
      refine CW.seq ?_
      refine CW.region ?_
      refine LW.v rfl rfl (Val.move rfl) ?_
      refine LW.v rfl rfl (Val.move rfl) ?_
      refine LW.v rfl rfl (Val.move rfl) ?_
      refine LW.v rfl rfl (Val.move rfl) ?_
      refine LW.e rfl rfl (Eff.callR rfl Try.call17 (fun w hw => next_c t m E c hT (by omega) k.1 (lastK V) (!V.isEmpty) w (hw.sat.pick (ss := tbG t m E c) (by repeat (first | exact .nil | apply Pick.cons | exact .here | apply Ext.there))))) ?_
      intro r hr
      refine LW.v rfl rfl (Val.move rfl) ?_
      refine LW.v rfl rfl (Val.extract rfl rfl) ?_
      refine LW.v rfl rfl (Val.extract rfl rfl) ?_
      refine LW.e rfl rfl (Eff.allocA (by exact Try.zeroValue44)) ?_
      intro b9 _
      first | (refine LW.eN rfl (Eff.storeW rfl rfl (by repeat (first | exact .here | apply Upd.there)) (by rfl) Try.sizeOf44 (by rfl)) ?_) | (refine LW.eN rfl (Eff.storeA (l' := _) rfl rfl (by repeat (first | exact .here | apply Upd.there)) (by rfl) (by decide) Try.sizeOf44 (by rfl)) ?_)
      intro _ _
      refine LW.v rfl rfl (Val.assign rfl) ?_
      refine LW.nil ?_
      refine PQ.seq ?_
      refine CW.seq ?_
      refine CW.seq ?_
      refine CW.region ?_
      refine LW.v rfl rfl (Val.move rfl) ?_
      refine LW.v rfl rfl (Val.not rfl) ?_
      refine LW.nil ?_
      refine PQ.seq ?_
      refine CW.cond rfl (fun h39 => ?_) (fun h39 => ?_)
      · replace h39 := bT h39
        refine CW.exit ?_
        refine PQ.then_exit ?_
        refine PQ.in_out rfl ?_
        refine PQ.then_exit ?_
        refine PQ.then_exit ?_
        refine PQ.in_here ?_
        refine PQ.in_normal ?_
        refine PQ.seq ?_
        refine CW.region ?_
        refine LW.v rfl rfl (Val.move rfl) ?_
        refine LW.v rfl rfl (Val.ar rfl rfl rfl (IntWalk.i64_in _ (by omega))) ?_
        refine LW.v rfl rfl (Val.assign rfl) ?_
        refine LW.nil ?_
        have hla : k.2.length + V.length = (k.2 ++ V).length := by simp
        rw [hla]
        refine PQ.round ((k.1 + 1, k.2 ++ V)) ⟨by simp only; omega, hTJ.step hV (by have hrn : r = none := (by simpa using h39); rw [hrn] at hr; exact hr)⟩ (by simp only; omega) (by repeat (first | exact trivial | refine ⟨rfl, ?_⟩)) (by repeat (first | exact .nil | apply Pick.cons | exact .here | apply Ext.there))
      · replace h39 := bF h39
        obtain ⟨x, rfl⟩ : ∃ x, r = some x := Option.isSome_iff_exists.1 (by simpa using h39)
        have hxf := hr.1
        have hxk := hT.ks _ _ hxf
        have hV2 := hV.step hT.kf hr
        have hle2 := links_le hT (up_nodup hV2.up) (fun y hy => (hV2.get y hy).1)
        simp only [List.length_append, List.length_singleton] at hle2
        refine CW.skip ?_
        refine PQ.seq ?_
        refine CW.seq ?_
        refine CW.region ?_
        refine LW.v rfl rfl (Val.move rfl) ?_
        refine LW.v rfl rfl (Val.fieldAddr 0 rfl Try.underlying44 rfl rfl Try.sizeOf9) ?_
        refine LW.v rfl rfl (Val.load rfl Try.isAgg9 (by repeat (first | exact .here | refine .there ?_)) (by rfl)) ?_
        refine LW.e rfl rfl (Eff.callV rfl Try.call18 (fun w hw => get_c t m E c hT.ti x.key hxk w (hw.sat.pick (ss := tbG t m E c) (by repeat (first | exact .nil | apply Pick.cons | exact .here | apply Ext.there))))) ?_
        intro _ _
        refine LW.re 44 (.tuple [lkV x, .bool true].toArray) rfl (by rw [hxf]; rfl) ?_
        refine LW.v rfl rfl (Val.move rfl) ?_
        refine LW.v rfl rfl (Val.extract rfl rfl) ?_
        refine LW.v rfl rfl (Val.extract rfl rfl) ?_
        refine LW.e rfl rfl (Eff.allocA (by exact Try.zeroValue44)) ?_
        intro b11 _
        first | (refine LW.eN rfl (Eff.storeW rfl rfl (by repeat (first | exact .here | apply Upd.there)) (by rfl) Try.sizeOf44 (by rfl)) ?_) | (refine LW.eN rfl (Eff.storeA (l' := _) rfl rfl (by repeat (first | exact .here | apply Upd.there)) (by rfl) (by decide) Try.sizeOf44 (by rfl)) ?_)
        intro _ _
        refine LW.v rfl rfl (Val.assign rfl) ?_
        refine LW.nil ?_
        refine PQ.seq ?_
        refine CW.seq ?_
        refine CW.seq ?_
        refine CW.region ?_
        refine LW.v rfl rfl (Val.move rfl) ?_
        refine LW.v rfl rfl (Val.not rfl) ?_
        refine LW.v rfl rfl (Val.move rfl) ?_
        first | (refine LW.v rfl rfl (Val.loadW rfl Try.isAgg44 (by repeat (first | exact .here | refine .there ?_)) (by exact Try.sizeOf44)) ?_) | (refine LW.v rfl rfl (Val.loadA [_, _, _, _, _] rfl Try.isAgg44 (by repeat (first | exact .here | refine .there ?_)) (by rfl) Try.sizeOf44) ?_)
        first | (refine LW.v rfl rfl (Val.loadW rfl Try.isAgg44 (by repeat (first | exact .here | refine .there ?_)) (by exact Try.sizeOf44)) ?_) | (refine LW.v rfl rfl (Val.loadA [_, _, _, _, _] rfl Try.isAgg44 (by repeat (first | exact .here | refine .there ?_)) (by rfl) Try.sizeOf44) ?_)
        refine LW.v rfl rfl (Val.neA rfl rfl (by kernel_rfl) Try.underlying44 (by kernel_rfl) (by exact (.str rfl rfl Try.isAgg9 Try.underlying9 (.int rfl rfl Try.isAgg32 Try.underlying32 (.int rfl rfl Try.isAgg32 Try.underlying32 (.int rfl rfl Try.isAgg3 Try.underlying3 (.int rfl rfl Try.isAgg3 Try.underlying3 .nil))))))) ?_
        refine LW.re 52 (.bool false) rfl (by simp) ?_
        refine LW.v rfl rfl (Val.pick_f rfl rfl) ?_
        refine LW.v rfl rfl (Val.move rfl) ?_
        refine LW.v rfl rfl (Val.fieldAddr 0 rfl Try.underlying44 rfl rfl Try.sizeOf9) ?_
        refine LW.v rfl rfl (Val.load rfl Try.isAgg9 (by repeat (first | exact .here | refine .there ?_)) (by rfl)) ?_
        refine LW.e rfl rfl (Eff.callV rfl Try.call19 (fun w hw => bucket_c x.key hxk w)) ?_
        intro _ _
        refine LW.v rfl rfl (Val.move rfl) ?_
        refine LW.v rfl rfl (Val.cmp rfl rfl rfl) ?_
        refine LW.re 59 (.bool false) rfl (by have := hr.2.1; simp; omega) ?_
        refine LW.v rfl rfl (Val.pick_f rfl rfl) ?_
        refine LW.v rfl rfl (Val.move rfl) ?_
        refine LW.v rfl rfl (Val.move rfl) ?_
        refine LW.v rfl rfl (Val.move rfl) ?_
        refine LW.split (d := 63) rfl (fun h63 => ?_) (fun h63 => ?_)
        · replace h63 := bT h63
          refine LW.v rfl rfl (Val.fieldAddr 0 rfl Try.underlying44 rfl rfl Try.sizeOf9) ?_
          refine LW.v rfl rfl (Val.load rfl Try.isAgg9 (by repeat (first | exact .here | refine .there ?_)) (by rfl)) ?_
          refine LW.v rfl rfl (Val.move rfl) ?_
          refine LW.v rfl rfl (Val.cmpS rfl rfl rfl) ?_
          refine LW.re 67 (.bool false) rfl (congrArg Value.bool (leq_no (hr.2.2.1 (by rw [h63]; rfl)))) ?_
          refine LW.v rfl rfl (Val.pick_t rfl rfl) ?_
          refine LW.v rfl rfl (Val.pick_f rfl rfl) ?_
          refine LW.nil ?_
          refine PQ.seq ?_
          refine CW.cond_f rfl ?_
          refine CW.skip ?_
          refine PQ.seq ?_
          refine CW.seq ?_
          refine CW.region ?_
          refine LW.v rfl rfl (Val.fieldAddr 0 rfl Try.underlying44 rfl rfl Try.sizeOf9) ?_
          refine LW.v rfl rfl (Val.load rfl Try.isAgg9 (by repeat (first | exact .here | refine .there ?_)) (by rfl)) ?_
          refine LW.v rfl rfl (Val.assign rfl) ?_
          refine LW.v rfl rfl (Val.assign rfl) ?_
          refine LW.nil ?_
          refine PQ.seq ?_
          refine CW.region ?_
          refine LW.v rfl rfl (Val.move rfl) ?_
          refine LW.v rfl rfl (Val.ar rfl rfl rfl (IntWalk.i64_in _ (by omega))) ?_
          refine LW.re 73 (.int .i64 ((k.2.length + (V ++ [x]).length : Nat) : Int)) rfl (by simp; omega) ?_
          refine LW.v rfl rfl (Val.assign rfl) ?_
          refine LW.nil ?_
          refine PQ.in_normal ?_
          refine PQ.seq ?_
          refine CW.region ?_
          refine LW.v rfl rfl (Val.move rfl) ?_
          refine LW.v rfl rfl (Val.ar rfl rfl rfl (IntWalk.i64_in _ (by omega))) ?_
          refine LW.re 29 (.int .i64 ((V ++ [x]).length : Nat)) rfl (by simp) ?_
          refine LW.v rfl rfl (Val.assign rfl) ?_
          refine LW.nil ?_
          refine PQ.round (V ++ [x]) hV2 (by simp only [List.length_append, List.length_singleton]; omega) (by have hl2 : (!(V ++ [x]).isEmpty) = true := (by simp); simp only [lastK_snoc, hl2]; repeat (first | exact trivial | refine ⟨rfl, ?_⟩)) (by repeat (first | exact .nil | apply Pick.cons | exact .here | apply Ext.there))
        · replace h63 := bF h63
          refine LW.p rfl rfl ?_
          refine LW.p rfl rfl ?_
          refine LW.p rfl rfl ?_
          refine LW.p rfl rfl ?_
          refine LW.v rfl rfl (Val.pick_f rfl rfl) ?_
          refine LW.v rfl rfl (Val.pick_f rfl rfl) ?_
          refine LW.nil ?_
          refine PQ.seq ?_
          refine CW.cond_f rfl ?_
          refine CW.skip ?_
          refine PQ.seq ?_
          refine CW.seq ?_
          refine CW.region ?_
          refine LW.v rfl rfl (Val.fieldAddr 0 rfl Try.underlying44 rfl rfl Try.sizeOf9) ?_
          refine LW.v rfl rfl (Val.load rfl Try.isAgg9 (by repeat (first | exact .here | refine .there ?_)) (by rfl)) ?_
          refine LW.v rfl rfl (Val.assign rfl) ?_
          refine LW.v rfl rfl (Val.assign rfl) ?_
          refine LW.nil ?_
          refine PQ.seq ?_
          refine CW.region ?_
          refine LW.v rfl rfl (Val.move rfl) ?_
          refine LW.v rfl rfl (Val.ar rfl rfl rfl (IntWalk.i64_in _ (by omega))) ?_
          refine LW.re 73 (.int .i64 ((k.2.length + (V ++ [x]).length : Nat) : Int)) rfl (by simp; omega) ?_
          refine LW.v rfl rfl (Val.assign rfl) ?_
          refine LW.nil ?_
          refine PQ.in_normal ?_
          refine PQ.seq ?_
          refine CW.region ?_
          refine LW.v rfl rfl (Val.move rfl) ?_
          refine LW.v rfl rfl (Val.ar rfl rfl rfl (IntWalk.i64_in _ (by omega))) ?_
          refine LW.re 29 (.int .i64 ((V ++ [x]).length : Nat)) rfl (by simp) ?_
          refine LW.v rfl rfl (Val.assign rfl) ?_
          refine LW.nil ?_
          refine PQ.round (V ++ [x]) hV2 (by simp only [List.length_append, List.length_singleton]; omega) (by have hl2 : (!(V ++ [x]).isEmpty) = true := (by simp); simp only [lastK_snoc, hl2]; repeat (first | exact trivial | refine ⟨rfl, ?_⟩)) (by repeat (first | exact .nil | apply Pick.cons | exact .here | apply Ext.there))
    · replace h21 := bF h21
      refine CW.exit ?_
      refine PQ.then_exit ?_
      refine PQ.then_exit ?_
      refine PQ.in_here ?_
      refine PQ.seq ?_
      refine CW.seq ?_
      refine CW.region ?_
      refine LW.v rfl rfl (Val.move rfl) ?_
      have hk8 : k.1 = 8 := by omega
      have hTn := links_eq hT hTJ.nd (fun x hx => (hTJ.get x hx).1) (fun q x hq => hTJ.all q x hq (by rw [hk8]; exact bk_lt q))
      refine LW.v rfl rfl (Val.move rfl) ?_
      refine LW.e rfl rfl (Eff.callV rfl Try.call16 (fun w hw => len_c t m E c hT.ti (by omega) w (hw.sat.pick (ss := tbG t m E c) (by repeat (first | exact .nil | apply Pick.cons | exact .here | apply Ext.there))))) ?_
      intro _ _
      refine LW.v rfl rfl (Val.cmp rfl rfl rfl) ?_
      refine LW.re 77 (.bool true) rfl (by simp [hTn]) ?_
      refine LW.v rfl rfl (Val.move rfl) ?_
      refine LW.e rfl rfl (Eff.callV rfl Try.call13 (fun w hw => awake12_c w)) ?_
      intro _ _
      refine LW.v rfl rfl (Val.pick_t rfl rfl) ?_
      refine LW.v rfl rfl (Val.assign rfl) ?_
      refine LW.nil ?_
      refine PQ.seq ?_
      refine CW.ret ?_
      refine PQ.ret1 rfl rfl ?_
      intro w' hw; exact ⟨rfl, hw.below⟩
end Go.Proofs.Ytaihimbjdgmjgaa
