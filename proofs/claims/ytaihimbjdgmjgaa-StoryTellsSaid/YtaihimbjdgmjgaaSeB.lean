/- Copies of stories: Clone, Call, Answer, some, Ended. -/
import Derived.Test.YtaihimbjdgmjgaaSeT
import Derived.Lib.Hide
namespace Go.Proofs.Ytaihimbjdgmjgaa
open Go Go.RowKit V
set_option linter.unusedVariables false
set_option maxRecDepth 100000
open V (ownV ownG ownS ownOk)
instance : Inhabited Cl := ⟨⟨0, ⟨#[]⟩, ⟨#[]⟩, ⟨#[]⟩, ⟨none, 0, 0⟩⟩⟩
instance : Inhabited Pr := ⟨⟨⟨#[]⟩, ⟨#[]⟩⟩⟩
theorem pr_len (s : Pr) : s.cells.length = 2 := rfl
theorem bo_len (s : Bool) : (boolC s).length = 1 := rfl
theorem all_one {α : Type} {enc : α → List Value} (h : ∀ x, (enc x).all (·.oneCell') = true) (l : List α) : (l.flatMap enc).all (·.oneCell') = true := by
  induction l with
  | nil => rfl
  | cons y t ih => simp only [List.flatMap_cons, List.all_append, ih, Bool.and_true]; exact h y
theorem flat_snoc {α : Type} (enc : α → List Value) (l : List α) (x : α) : (l ++ [x]).flatMap enc = l.flatMap enc ++ enc x := by simp
theorem range_flat {α : Type} [Inhabited α] {enc : α → List Value} {sz : Nat} (hk : ∀ x, (enc x).length = sz) {l : List α} {b o : Nat} {w : World} (h : ∀ i x, l[i]? = some x → w.rangeAt b (o + i * sz) (enc x)) : w.rangeAt b o (l.flatMap enc) := fun j v hv => by
  have hj : j < l.length * sz := by rw [← V.flatMap_len hk]; exact (List.getElem?_eq_some_iff.1 hv).1
  rw [V.flatMap_get hk l hj] at hv
  have hs0 : 0 < sz := by rcases Nat.eq_zero_or_pos sz with e | e; (subst e; omega); exact e
  have hq : j / sz < l.length := (Nat.div_lt_iff_lt_mul hs0).2 hj
  have hx : l[j / sz]? = some l[j / sz]! := by rw [List.getElem?_eq_getElem hq, getElem!_pos l _ hq]
  have h1 := h _ _ hx (j % sz) v hv
  have := Nat.div_add_mod j sz
  rw [Nat.mul_comm] at this
  rw [show o + j = o + j / sz * sz + j % sz by omega]
  exact h1
theorem own_some {sz n : Nat} {xs : List Value} {o : V.OwnO} (h : ownOk sz n xs o) (hn : 0 < n) : ∃ q, o = some q := by
  rcases o with _ | q
  · have h0 : n = 0 := h.2
    omega
  · exact ⟨q, rfl⟩
def ownSl (n : Nat) : V.OwnO → Sl
  | none => ⟨none, 0, 0⟩
  | some (g, _, cap) => ⟨some ⟨g, 0, none⟩, n, cap⟩
theorem ownSl_v (n : Nat) (o : V.OwnO) : ownV n o = .slice (ownSl n o).a (ownSl n o).n (ownSl n o).c := by cases o <;> rfl
theorem ownSl_n {sz n : Nat} {xs : List Value} {o : V.OwnO} (h : ownOk sz n xs o) : (ownSl n o).n = n := by
  rcases o with _ | q
  · exact h.2.symm
  · rfl
theorem ownSl_at {α : Type} {enc : α → List Value} {sz e : Nat} (hk : ∀ x, (enc x).length = sz) {l : List α} {o : V.OwnO} (h : ownOk sz l.length (l.flatMap enc) o) {w : World} (hs : Sat [ownG e (l.flatMap enc) o] w) : V.slAt w (ownSl l.length o).a sz enc l := by
  rcases o with _ | ⟨g, rest, cap⟩
  · exact .inl (List.length_eq_zero_iff.1 h.2)
  · have hb : w.heap[g]? = some (.cells (l.flatMap enc ++ rest).toArray e (0, 0)) := hs.own (g, .cells (l.flatMap enc ++ rest).toArray e (0, 0)) (by simp [ownG, ownS])
    refine .inr ⟨g, 0, rfl, V.lt_of_some hb, fun i x hx => ?_⟩
    obtain ⟨r, hr⟩ := V.drop_flatMap hk l i x hx
    have hi : i < l.length := (List.getElem?_eq_some_iff.1 hx).1
    have : i * sz ≤ (l.flatMap enc).length := by rw [V.flatMap_len hk]; exact Nat.mul_le_mul_right _ (by omega)
    exact V.range_of_block (r := r ++ rest) hb (by rw [Nat.zero_add, List.drop_append_of_le_length this, hr, List.append_assoc])
theorem cell_flat {α : Type} {enc : α → List Value} {sz : Nat} (hk : ∀ x, (enc x).length = sz) {l : List α} {i j : Nat} {x : α} {v : Value} (rest : List Value) (hx : l[i]? = some x) (hv : (enc x)[j]? = some v) : (l.flatMap enc ++ rest)[0 + i * sz + j]? = some v := by
  obtain ⟨r, hr⟩ := V.drop_flatMap hk l i x hx
  have hi : i < l.length := (List.getElem?_eq_some_iff.1 hx).1
  have : i * sz ≤ (l.flatMap enc).length := by rw [V.flatMap_len hk]; exact Nat.mul_le_mul_right _ (by omega)
  have h1 : ((l.flatMap enc ++ rest).drop (i * sz))[j]? = some v := by rw [List.drop_append_of_le_length this, hr, List.append_assoc, List.getElem?_append_left (List.getElem?_eq_some_iff.1 hv).1]; exact hv
  rw [List.getElem?_drop] at h1
  rw [Nat.zero_add]; exact h1
theorem sat_l {a b : V.Seg} {w : World} (h : Sat [a ++ b] w) : Sat [a] w := ⟨fun p hp => h.own p (by simp at hp ⊢; exact .inl hp), by have := h.nd; simp only [List.flatten_cons, List.flatten_nil, List.append_nil, List.map_append, List.nodup_append] at this ⊢; exact this.1⟩
theorem sat_r {a b : V.Seg} {w : World} (h : Sat [a ++ b] w) : Sat [b] w := ⟨fun p hp => h.own p (by simp at hp ⊢; exact .inr hp), by have := h.nd; simp only [List.flatten_cons, List.flatten_nil, List.append_nil, List.map_append, List.nodup_append] at this ⊢; exact this.2.1⟩
theorem cl_one (s : Cl) : s.cells.all (·.oneCell') = true := rfl
theorem pr_one (s : Pr) : s.cells.all (·.oneCell') = true := rfl
theorem bo_one (s : Bool) : (boolC s).all (·.oneCell') = true := rfl
theorem cloneC_c (p : Option Addr) (n q : Nat) (l : List Cl) (hn : n = l.length) (hl : n ≤ 1000) (w : World) (h : V.slAt w p 5 Cl.cells l) : Calls Try.prog 75 [.slice p n q].toArray w fun e w' => ∃ o : V.OwnO, ownOk 5 l.length (l.flatMap Cl.cells) o ∧ e = .returned (ownV l.length o) ∧ Hp ⟨w, []⟩ [ownG 28 (l.flatMap Cl.cells) o] w' := by
  subst hn
  rcases p with _ | p
  · obtain rfl : l = [] := by
      rcases h with h | ⟨b, o, h, _⟩
      · exact h
      · cases h
    refine V.calls [] Try.func75 rfl Try.ntmps75 (Nat.le_of_ble_eq_true rfl) (V.sat_nil _) ?_
    refine CW.seq ?_
    refine CW.region ?_
    refine LW.v rfl rfl (Val.assign rfl) ?_
    refine LW.nil ?_
    refine PQ.seq ?_
    refine CW.seq ?_
    refine CW.seq ?_
    refine CW.region ?_
    refine LW.v rfl rfl (Val.move rfl) ?_
    refine LW.v rfl rfl (Val.eqSlNil rfl rfl Try.underlying26) ?_
    refine LW.nil ?_
    refine PQ.seq ?_
    refine CW.cond_t rfl ?_
    refine CW.seq ?_
    refine CW.region ?_
    refine LW.v rfl rfl (Val.assign rfl) ?_
    refine LW.nil ?_
    refine PQ.seq ?_
    refine CW.ret ?_
    refine PQ.then_ret ?_
    refine PQ.ret1 rfl rfl ?_
    intro w' hw; exact ⟨none, ⟨rfl, rfl⟩, rfl, hw.perm (.refl _)⟩
  · refine V.calls [] Try.func75 rfl Try.ntmps75 (Nat.le_of_ble_eq_true rfl) (V.sat_nil _) ?_
    refine CW.seq ?_
    refine CW.region ?_
    refine LW.v rfl rfl (Val.assign rfl) ?_
    refine LW.nil ?_
    refine PQ.seq ?_
    refine CW.seq ?_
    refine CW.seq ?_
    refine CW.region ?_
    refine LW.v rfl rfl (Val.move rfl) ?_
    refine LW.v rfl rfl (Val.eqSlNil rfl rfl Try.underlying26) ?_
    refine LW.nil ?_
    refine PQ.seq ?_
    refine CW.cond_f rfl ?_
    refine CW.skip ?_
    refine PQ.seq ?_
    refine CW.seq ?_
    refine CW.region ?_
    refine LW.e rfl rfl (Eff.buildSlice0 Try.underlying26 Try.sizeOf28) ?_
    intro b5 _
    refine LW.v rfl rfl (Val.move rfl) ?_
    refine LW.e rfl rfl (Eff.appendAny (l.flatMap Cl.cells) (sz := 5) (bytes := 80) (z := .agg #[.int .i64 0, .string ⟨#[]⟩, .string ⟨#[]⟩, .string ⟨#[]⟩, .slice none 0 0]) (xs := []) (m0 := 0) (o := (some (b5, [], 0))) (m := l.length) (pk := [[(b5, .cells ([] ++ [] : List Value).toArray 28 (0, 0))]]) rfl rfl Try.underlying26 (by kernel_rfl) rfl (by omega) (by repeat (first | exact .nil | apply Pick.cons | exact .here | apply Ext.there)) (by simp [V.ownG_some]) ⟨rfl, rfl⟩ (by first | rfl | exact V.flatMap_len cl_len _) (fun hm0 => by
          obtain ⟨b, o, x, hp, hb, hx, hr⟩ := V.slAt_at h rfl (k := 0) (by omega)
          exact ⟨b, o, hp, fun w' hw' => range_flat (enc := Cl.cells) cl_len (fun i y hy => by
            rcases hw'.slAt h (by simp [ids]) with h0 | ⟨b2, o2, hp2, _, hr2⟩
            · subst h0; simp at hy
            · rw [hp] at hp2; cases hp2; exact hr2 i y hy)⟩) (all_one cl_one l) (by omega) (by omega)) ?_
    intro o2 ho2
    refine LW.v rfl rfl (Val.assign rfl) ?_
    refine LW.nil ?_
    refine PQ.seq ?_
    refine CW.ret ?_
    refine PQ.ret1 rfl rfl ?_
    intro w' hw
    have h2 : ownOk 5 l.length (l.flatMap Cl.cells) o2 := by simpa using ho2
    refine ⟨o2, h2, by rw [Nat.zero_add], ?_⟩
    rw [List.nil_append] at hw
    exact hw.pick (by repeat (first | exact .nil | apply Pick.cons | exact .here | apply Ext.there))
theorem cloneP_c (p : Option Addr) (n q : Nat) (l : List Pr) (hn : n = l.length) (hl : n ≤ 1000) (w : World) (h : V.slAt w p 2 Pr.cells l) : Calls Try.prog 76 [.slice p n q].toArray w fun e w' => ∃ o : V.OwnO, ownOk 2 l.length (l.flatMap Pr.cells) o ∧ e = .returned (ownV l.length o) ∧ Hp ⟨w, []⟩ [ownG 106 (l.flatMap Pr.cells) o] w' := by
  subst hn
  rcases p with _ | p
  · obtain rfl : l = [] := by
      rcases h with h | ⟨b, o, h, _⟩
      · exact h
      · cases h
    refine V.calls [] Try.func76 rfl Try.ntmps76 (Nat.le_of_ble_eq_true rfl) (V.sat_nil _) ?_
    refine CW.seq ?_
    refine CW.region ?_
    refine LW.v rfl rfl (Val.assign rfl) ?_
    refine LW.nil ?_
    refine PQ.seq ?_
    refine CW.seq ?_
    refine CW.seq ?_
    refine CW.region ?_
    refine LW.v rfl rfl (Val.move rfl) ?_
    refine LW.v rfl rfl (Val.eqSlNil rfl rfl Try.underlying30) ?_
    refine LW.nil ?_
    refine PQ.seq ?_
    refine CW.cond_t rfl ?_
    refine CW.seq ?_
    refine CW.region ?_
    refine LW.v rfl rfl (Val.assign rfl) ?_
    refine LW.nil ?_
    refine PQ.seq ?_
    refine CW.ret ?_
    refine PQ.then_ret ?_
    refine PQ.ret1 rfl rfl ?_
    intro w' hw; exact ⟨none, ⟨rfl, rfl⟩, rfl, hw.perm (.refl _)⟩
  · refine V.calls [] Try.func76 rfl Try.ntmps76 (Nat.le_of_ble_eq_true rfl) (V.sat_nil _) ?_
    refine CW.seq ?_
    refine CW.region ?_
    refine LW.v rfl rfl (Val.assign rfl) ?_
    refine LW.nil ?_
    refine PQ.seq ?_
    refine CW.seq ?_
    refine CW.seq ?_
    refine CW.region ?_
    refine LW.v rfl rfl (Val.move rfl) ?_
    refine LW.v rfl rfl (Val.eqSlNil rfl rfl Try.underlying30) ?_
    refine LW.nil ?_
    refine PQ.seq ?_
    refine CW.cond_f rfl ?_
    refine CW.skip ?_
    refine PQ.seq ?_
    refine CW.seq ?_
    refine CW.region ?_
    refine LW.e rfl rfl (Eff.buildSlice0 Try.underlying30 Try.sizeOf106) ?_
    intro b5 _
    refine LW.v rfl rfl (Val.move rfl) ?_
    refine LW.e rfl rfl (Eff.appendAny (l.flatMap Pr.cells) (sz := 2) (bytes := 32) (z := .agg #[.string ⟨#[]⟩, .string ⟨#[]⟩]) (xs := []) (m0 := 0) (o := (some (b5, [], 0))) (m := l.length) (pk := [[(b5, .cells ([] ++ [] : List Value).toArray 106 (0, 0))]]) rfl rfl Try.underlying30 (by kernel_rfl) rfl (by omega) (by repeat (first | exact .nil | apply Pick.cons | exact .here | apply Ext.there)) (by simp [V.ownG_some]) ⟨rfl, rfl⟩ (by first | rfl | exact V.flatMap_len pr_len _) (fun hm0 => by
          obtain ⟨b, o, x, hp, hb, hx, hr⟩ := V.slAt_at h rfl (k := 0) (by omega)
          exact ⟨b, o, hp, fun w' hw' => range_flat (enc := Pr.cells) pr_len (fun i y hy => by
            rcases hw'.slAt h (by simp [ids]) with h0 | ⟨b2, o2, hp2, _, hr2⟩
            · subst h0; simp at hy
            · rw [hp] at hp2; cases hp2; exact hr2 i y hy)⟩) (all_one pr_one l) (by omega) (by omega)) ?_
    intro o2 ho2
    refine LW.v rfl rfl (Val.assign rfl) ?_
    refine LW.nil ?_
    refine PQ.seq ?_
    refine CW.ret ?_
    refine PQ.ret1 rfl rfl ?_
    intro w' hw
    have h2 : ownOk 2 l.length (l.flatMap Pr.cells) o2 := by simpa using ho2
    refine ⟨o2, h2, by rw [Nat.zero_add], ?_⟩
    rw [List.nil_append] at hw
    exact hw.pick (by repeat (first | exact .nil | apply Pick.cons | exact .here | apply Ext.there))
theorem cloneB_c (p : Option Addr) (n q : Nat) (l : List Bool) (hn : n = l.length) (hl : n ≤ 1000) (w : World) (h : V.slAt w p 1 boolC l) : Calls Try.prog 77 [.slice p n q].toArray w fun e w' => ∃ o : V.OwnO, ownOk 1 l.length (l.flatMap boolC) o ∧ e = .returned (ownV l.length o) ∧ Hp ⟨w, []⟩ [ownG 4 (l.flatMap boolC) o] w' := by
  subst hn
  rcases p with _ | p
  · obtain rfl : l = [] := by
      rcases h with h | ⟨b, o, h, _⟩
      · exact h
      · cases h
    refine V.calls [] Try.func77 rfl Try.ntmps77 (Nat.le_of_ble_eq_true rfl) (V.sat_nil _) ?_
    refine CW.seq ?_
    refine CW.region ?_
    refine LW.v rfl rfl (Val.assign rfl) ?_
    refine LW.nil ?_
    refine PQ.seq ?_
    refine CW.seq ?_
    refine CW.seq ?_
    refine CW.region ?_
    refine LW.v rfl rfl (Val.move rfl) ?_
    refine LW.v rfl rfl (Val.eqSlNil rfl rfl Try.underlying31) ?_
    refine LW.nil ?_
    refine PQ.seq ?_
    refine CW.cond_t rfl ?_
    refine CW.seq ?_
    refine CW.region ?_
    refine LW.v rfl rfl (Val.assign rfl) ?_
    refine LW.nil ?_
    refine PQ.seq ?_
    refine CW.ret ?_
    refine PQ.then_ret ?_
    refine PQ.ret1 rfl rfl ?_
    intro w' hw; exact ⟨none, ⟨rfl, rfl⟩, rfl, hw.perm (.refl _)⟩
  · refine V.calls [] Try.func77 rfl Try.ntmps77 (Nat.le_of_ble_eq_true rfl) (V.sat_nil _) ?_
    refine CW.seq ?_
    refine CW.region ?_
    refine LW.v rfl rfl (Val.assign rfl) ?_
    refine LW.nil ?_
    refine PQ.seq ?_
    refine CW.seq ?_
    refine CW.seq ?_
    refine CW.region ?_
    refine LW.v rfl rfl (Val.move rfl) ?_
    refine LW.v rfl rfl (Val.eqSlNil rfl rfl Try.underlying31) ?_
    refine LW.nil ?_
    refine PQ.seq ?_
    refine CW.cond_f rfl ?_
    refine CW.skip ?_
    refine PQ.seq ?_
    refine CW.seq ?_
    refine CW.region ?_
    refine LW.e rfl rfl (Eff.buildSlice0 Try.underlying31 Try.sizeOf4) ?_
    intro b5 _
    refine LW.v rfl rfl (Val.move rfl) ?_
    refine LW.e rfl rfl (Eff.appendAny (l.flatMap boolC) (sz := 1) (bytes := 1) (z := .bool false) (xs := []) (m0 := 0) (o := (some (b5, [], 0))) (m := l.length) (pk := [[(b5, .cells ([] ++ [] : List Value).toArray 4 (0, 0))]]) rfl rfl Try.underlying31 (by kernel_rfl) rfl (by omega) (by repeat (first | exact .nil | apply Pick.cons | exact .here | apply Ext.there)) (by simp [V.ownG_some]) ⟨rfl, rfl⟩ (by first | rfl | exact V.flatMap_len bo_len _) (fun hm0 => by
          obtain ⟨b, o, x, hp, hb, hx, hr⟩ := V.slAt_at h rfl (k := 0) (by omega)
          exact ⟨b, o, hp, fun w' hw' => range_flat (enc := boolC) bo_len (fun i y hy => by
            rcases hw'.slAt h (by simp [ids]) with h0 | ⟨b2, o2, hp2, _, hr2⟩
            · subst h0; simp at hy
            · rw [hp] at hp2; cases hp2; exact hr2 i y hy)⟩) (all_one bo_one l) (by omega) (by omega)) ?_
    intro o2 ho2
    refine LW.v rfl rfl (Val.assign rfl) ?_
    refine LW.nil ?_
    refine PQ.seq ?_
    refine CW.ret ?_
    refine PQ.ret1 rfl rfl ?_
    intro w' hw
    have h2 : ownOk 1 l.length (l.flatMap boolC) o2 := by simpa using ho2
    refine ⟨o2, h2, by rw [Nat.zero_add], ?_⟩
    rw [List.nil_append] at hw
    exact hw.pick (by repeat (first | exact .nil | apply Pick.cons | exact .here | apply Ext.there))
def Cl.re (c : Cl) (s : Sl) : Cl := ⟨c.ck, c.key, c.val, c.to, s⟩
def clK (c : Cl) : Int × ByteArray × ByteArray × ByteArray := (c.ck, c.key, c.val, c.to)
theorem call0_c (c : Cl) (hg : c.grp.n = 0) (w : World) : Calls Try.prog 61 [.agg c.cells.toArray].toArray w fun e w' => ∃ s : Sl, s.n = 0 ∧ e = .returned (.agg (c.re s).cells.toArray) ∧ Below w.heap.size w w' := by
  refine V.calls [] Try.func61 rfl Try.ntmps61 (Nat.le_of_ble_eq_true rfl) (V.sat_nil _) ?_
  refine CW.seq ?_
  refine CW.region ?_
  refine LW.e rfl rfl (Eff.boxA rfl) ?_
  intro b1 _
  refine LW.e rfl rfl (Eff.allocA (by exact Try.zeroValue28)) ?_
  intro b2 _
  refine LW.nil ?_
  refine PQ.seq ?_
  refine CW.seq ?_
  refine CW.region ?_
  refine LW.v rfl rfl (Val.fieldAddr 4 rfl Try.underlying28 rfl rfl Try.sizeOf26) ?_
  refine LW.v rfl rfl (Val.load rfl Try.isAgg26 (by repeat (first | exact .here | refine .there ?_)) (by rfl)) ?_
  refine LW.e rfl rfl (Eff.callM ([]) .nil rfl Try.call75 (fun w hw hs => cloneC_c c.grp.a c.grp.n c.grp.c [] hg (by omega) w (.inl rfl))) ?_
  intro o ho
  refine LW.v rfl rfl (Val.fieldAddr 4 rfl Try.underlying28 rfl rfl Try.sizeOf26) ?_
  refine LW.eN rfl (Eff.store rfl rfl (V.ownV_one _ _) (by repeat (first | exact .here | apply Upd.there)) (by rfl) (by rfl) Try.sizeOf26) ?_
  intro _ _
  refine LW.nil ?_
  refine PQ.seq ?_
  refine CW.seq ?_
  refine CW.seq ?_
  refine CW.region ?_
  refine LW.v rfl rfl (Val.fieldAddr 4 rfl Try.underlying28 rfl rfl Try.sizeOf26) ?_
  refine LW.v rfl rfl (Val.load rfl Try.isAgg26 (by repeat (first | exact .here | refine .there ?_)) (by rfl)) ?_
  refine LW.v rfl rfl (Val.lenOwn rfl Try.underlying26 ho) ?_
  refine LW.v rfl rfl (Val.move rfl) ?_
  refine LW.nil ?_
  refine PQ.seq ?_
  refine CW.block ?_
  refine CW.loop (γ := Nat) (fun k => [(1, .pointer (some ⟨b1, 0, none⟩)), (2, .pointer (some ⟨b2, 0, none⟩)), (10, ownV 0 o), (11, .int .i64 (0 : Nat)), (12, .int .i64 0)]) (fun k => [[(b1, .cells [.int .i64 c.ck, .string c.key, .string c.val, .string c.to, ownV 0 o].toArray 28 (0, 0))], [(b2, .cells [.int .i64 0, .string ⟨#[]⟩, .string ⟨#[]⟩, .string ⟨#[]⟩, .slice none 0 0].toArray 28 (0, 0))]]) (fun k => k = 0) (fun k => 0) (0) rfl (by repeat (first | exact trivial | refine ⟨rfl, ?_⟩)) (by repeat (first | exact .nil | apply Pick.cons | exact .here | apply Ext.there)) ?_
  intro k
  intro hJ
  refine CW.seq ?_
  refine CW.region ?_
  refine LW.v rfl rfl (Val.cmp rfl rfl rfl) ?_
  refine LW.nil ?_
  refine PQ.seq ?_
  refine CW.seq ?_
  refine CW.cond rfl (fun h13 => ?_) (fun h13 => ?_)
  · exact absurd (bT h13) (by decide)
  · replace h13 := bF h13
    refine CW.exit ?_
    refine PQ.then_exit ?_
    refine PQ.then_exit ?_
    refine PQ.in_here ?_
    refine PQ.seq ?_
    refine CW.seq ?_
    refine CW.region ?_
    first | (refine LW.v rfl rfl (Val.loadW rfl Try.isAgg28 (by repeat (first | exact .here | refine .there ?_)) (by exact Try.sizeOf28)) ?_) | (refine LW.v rfl rfl (Val.loadA [_, _, _, _, _] rfl Try.isAgg28 (by repeat (first | exact .here | refine .there ?_)) (by rfl) Try.sizeOf28) ?_)
    refine LW.eN rfl (Eff.storeW rfl rfl (by repeat (first | exact .here | apply Upd.there)) (by rfl) Try.sizeOf28 (by simp only [ownSl_v]; rfl)) ?_
    intro _ _
    refine LW.nil ?_
    refine PQ.seq ?_
    refine CW.ret ?_
    refine V.PQ.retC rfl rfl (by repeat (first | exact .here | refine .there ?_)) Try.isAgg28 (by exact Try.sizeOf28) ?_
    intro w' hw; exact ⟨ownSl 0 o, ownSl_n ho, by unfold Cl.re Cl.cells; rw [← ownSl_v], hw.below⟩
theorem map_set {α β : Type} (f : α → β) {l : List α} {i : Nat} {x y : α} (hx : l[i]? = some x) (e : f y = f x) : (l.set i y).map f = l.map f := by
  rw [List.map_set, e]
  refine List.ext_getElem? fun j => ?_
  rw [List.getElem?_set]
  split
  · subst_vars
    rw [List.getElem?_map, hx]
    simp [(List.getElem?_eq_some_iff.1 hx).1]
  · rfl
theorem call_c (c : Cl) (gl : List Cl) (hg : c.grp.n = gl.length) (hl : gl.length ≤ 1000) (h0 : ∀ x ∈ gl, x.grp.n = 0) (w : World) (h : V.slAt w c.grp.a 5 Cl.cells gl) : Calls Try.prog 61 [.agg c.cells.toArray].toArray w fun e w' => ∃ y : V.OwnO × List Cl, (ownOk 5 y.2.length (y.2.flatMap Cl.cells) y.1 ∧ y.2.map clK = gl.map clK ∧ ∀ x ∈ y.2, x.grp.n = 0) ∧ e = .returned (.agg (c.re (ownSl y.2.length y.1)).cells.toArray) ∧ Hp ⟨w, []⟩ [ownG 28 (y.2.flatMap Cl.cells) y.1] w' := by
  refine V.calls [] Try.func61 rfl Try.ntmps61 (Nat.le_of_ble_eq_true rfl) (V.sat_nil _) ?_
  refine CW.seq ?_
  refine CW.region ?_
  refine LW.e rfl rfl (Eff.boxA rfl) ?_
  intro b1 _
  refine LW.e rfl rfl (Eff.allocA (by exact Try.zeroValue28)) ?_
  intro b2 _
  refine LW.nil ?_
  refine PQ.seq ?_
  refine CW.seq ?_
  refine CW.region ?_
  refine LW.v rfl rfl (Val.fieldAddr 4 rfl Try.underlying28 rfl rfl Try.sizeOf26) ?_
  refine LW.v rfl rfl (Val.load rfl Try.isAgg26 (by repeat (first | exact .here | refine .there ?_)) (by rfl)) ?_
  refine LW.e rfl rfl (Eff.callM ([]) .nil rfl Try.call75 (fun w hw hs => cloneC_c c.grp.a c.grp.n c.grp.c gl hg (by omega) w (hw.slAt h (by simp [ids])))) ?_
  intro o ho
  refine LW.v rfl rfl (Val.fieldAddr 4 rfl Try.underlying28 rfl rfl Try.sizeOf26) ?_
  refine LW.eN rfl (Eff.store rfl rfl (V.ownV_one _ _) (by repeat (first | exact .here | apply Upd.there)) (by rfl) (by rfl) Try.sizeOf26) ?_
  intro _ _
  refine LW.nil ?_
  refine PQ.seq ?_
  refine CW.seq ?_
  refine CW.seq ?_
  refine CW.region ?_
  refine LW.v rfl rfl (Val.fieldAddr 4 rfl Try.underlying28 rfl rfl Try.sizeOf26) ?_
  refine LW.v rfl rfl (Val.load rfl Try.isAgg26 (by repeat (first | exact .here | refine .there ?_)) (by rfl)) ?_
  refine LW.v rfl rfl (Val.lenOwn rfl Try.underlying26 ho) ?_
  refine LW.v rfl rfl (Val.move rfl) ?_
  refine LW.nil ?_
  refine PQ.seq ?_
  refine CW.block ?_
  refine CW.loop (γ := Nat × List Cl) (fun k => [(1, .pointer (some ⟨b1, 0, none⟩)), (2, .pointer (some ⟨b2, 0, none⟩)), (10, ownV gl.length o), (11, .int .i64 (gl.length : Nat)), (12, .int .i64 (k.1 : Nat))]) (fun k => [[(b1, .cells [.int .i64 c.ck, .string c.key, .string c.val, .string c.to, ownV gl.length o].toArray 28 (0, 0))], [(b2, .cells [.int .i64 0, .string ⟨#[]⟩, .string ⟨#[]⟩, .string ⟨#[]⟩, .slice none 0 0].toArray 28 (0, 0))], ownG 28 (k.2.flatMap Cl.cells) o]) (fun k => k.1 ≤ gl.length ∧ k.2.length = gl.length ∧ k.2.map clK = gl.map clK ∧ (∀ i x, k.2[i]? = some x → x.grp.n = 0)) (fun k => gl.length - k.1) ((0, gl)) ⟨Nat.zero_le _, rfl, rfl, fun i x hx => h0 x (List.mem_of_getElem? hx)⟩ (by repeat (first | exact trivial | refine ⟨rfl, ?_⟩)) (by repeat (first | exact .nil | apply Pick.cons | exact .here | apply Ext.there)) ?_
  intro k
  rintro ⟨hk1, hk2, hk3, hk4⟩
  refine CW.seq ?_
  refine CW.region ?_
  refine LW.v rfl rfl (Val.cmp rfl rfl rfl) ?_
  refine LW.nil ?_
  refine PQ.seq ?_
  refine CW.seq ?_
  refine CW.cond rfl (fun h13 => ?_) (fun h13 => ?_)
  · replace h13 := bT h13
    obtain ⟨⟨g, rest, cap⟩, rfl⟩ := own_some ho (by omega)
    obtain ⟨x, hx⟩ : ∃ x, k.2[k.1]? = some x := ⟨k.2[k.1]'(by omega), by simp⟩
    have hx0 := hk4 _ _ hx
    rw [V.ownG_some]
    refine CW.skip ?_
    refine PQ.seq ?_
    refine CW.seq ?_
    refine CW.block ?_
    refine CW.seq ?_
    refine CW.region ?_
    refine LW.v rfl rfl (Val.move rfl) ?_
    first | (refine LW.v rfl rfl (Val.indexAddrN rfl rfl Try.underlying26 Try.sizeOf28 (by omega)) ?_) | (refine LW.v rfl rfl (Val.indexAddr rfl rfl Try.underlying26 Try.sizeOf28 (by omega) (by omega)) ?_)
    refine LW.v rfl rfl (Val.loadFl (enc := Cl.cells) rfl Try.isAgg28 (by repeat (first | exact .here | refine .there ?_)) cl_len hx Try.sizeOf28) ?_
    refine LW.e rfl rfl (Eff.allocA (by exact Try.zeroValue28)) ?_
    intro b4 _
    refine LW.v rfl rfl (Val.assign rfl) ?_
    first | (refine LW.eN rfl (Eff.storeW rfl rfl (by repeat (first | exact .here | apply Upd.there)) (by rfl) Try.sizeOf28 (by rfl)) ?_) | (refine LW.eN rfl (Eff.storeA (l' := _) rfl rfl (by repeat (first | exact .here | apply Upd.there)) (by rfl) (by decide) Try.sizeOf28 (by rfl)) ?_)
    intro _ _
    refine LW.nil ?_
    refine PQ.seq ?_
    refine CW.drawn ([[(b1, .cells [.int .i64 c.ck, .string c.key, .string c.val, .string c.to, ownV gl.length (some (g, rest, cap))].toArray 28 (0, 0))], [(b4, .cells x.cells.toArray 28 (0, 0))]]) mixed (by repeat (first | exact .nil | apply Pick.cons | exact .here | apply Ext.there)) ?_
    refine RW.v 0 rfl (by kernel_rfl) (by kernel_rfl) (by kernel_rfl) (fun _ _ _ h => h) rfl rfl (Val.fieldAddr 4 rfl Try.underlying28 rfl rfl Try.sizeOf26) ?_
    refine RW.v 1 rfl (by kernel_rfl) (by kernel_rfl) (by kernel_rfl) (fun _ _ _ h => h) rfl rfl (Val.load rfl Try.isAgg26 (by repeat (first | exact .here | refine .there ?_)) (by rfl)) ?_
    refine RW.v 2 rfl (by kernel_rfl) (by kernel_rfl) (by kernel_rfl) (fun _ _ _ h => h) rfl rfl (Val.move rfl) ?_
    first | (refine RW.v 3 rfl (by kernel_rfl) (by kernel_rfl) (by kernel_rfl) (fun _ _ _ h => h) rfl rfl (Val.loadW rfl Try.isAgg28 (by repeat (first | exact .here | refine .there ?_)) (by exact Try.sizeOf28)) ?_) | (refine RW.v 3 rfl (by kernel_rfl) (by kernel_rfl) (by kernel_rfl) (fun _ _ _ h => h) rfl rfl (Val.loadA [_, _, _, _, _] rfl Try.isAgg28 (by repeat (first | exact .here | refine .there ?_)) (by rfl) Try.sizeOf28) ?_)
    refine RW.e 4 rfl (by kernel_rfl) rfl rfl (Eff.callR rfl Try.call61 (fun w hw => call0_c x hx0 w)) (fun x => ⟨_, (by repeat (first | exact .nil | apply Pick.cons | exact .here | apply Ext.there))⟩) ?_
    intro s hs0
    first | (refine RW.v 5 rfl (by kernel_rfl) (by kernel_rfl) (by kernel_rfl) (fun _ _ _ h => h) rfl rfl (Val.indexAddrN rfl rfl Try.underlying26 Try.sizeOf28 (by omega)) ?_) | (refine RW.v 5 rfl (by kernel_rfl) (by kernel_rfl) (by kernel_rfl) (fun _ _ _ h => h) rfl rfl (Val.indexAddr rfl rfl Try.underlying26 Try.sizeOf28 (by omega) (by omega)) ?_)
    refine RW.eN 6 rfl (by kernel_rfl) rfl (Eff.storeFl (enc := Cl.cells) (sz := 5) (y := x.re s) rfl rfl (by repeat (first | exact .here | apply Upd.there)) cl_len (by omega) Try.sizeOf28 cl_one) (fun x => ⟨_, (by repeat (first | exact .nil | apply Pick.cons | exact .here | apply Ext.there))⟩) ?_
    intro _ _
    refine RW.done (by kernel_rfl) ?_
    refine PQ.in_normal ?_
    refine PQ.seq ?_
    refine CW.region ?_
    refine LW.v rfl rfl (Val.ar rfl rfl rfl (IntWalk.i64_in _ (by omega))) ?_
    refine LW.v rfl rfl (Val.move rfl) ?_
    refine LW.nil ?_
    refine PQ.round ((k.1 + 1, k.2.set k.1 (x.re s))) ⟨by simp only; omega, by simp only [List.length_set]; exact hk2, by simp only; rw [← hk3]; exact map_set _ hx rfl, fun i y hy => by
      simp only at hy
      rw [List.getElem?_set] at hy
      split at hy
      · split at hy
        · cases hy; exact hs0
        · cases hy
      · exact hk4 i y hy⟩ (by simp only; omega) (by repeat (first | exact trivial | refine ⟨rfl, ?_⟩)) (by repeat (first | exact .nil | apply Pick.cons | exact .here | apply Ext.there))
  · replace h13 := bF h13
    refine CW.exit ?_
    refine PQ.then_exit ?_
    refine PQ.then_exit ?_
    refine PQ.in_here ?_
    refine PQ.seq ?_
    refine CW.seq ?_
    refine CW.region ?_
    first | (refine LW.v rfl rfl (Val.loadW rfl Try.isAgg28 (by repeat (first | exact .here | refine .there ?_)) (by exact Try.sizeOf28)) ?_) | (refine LW.v rfl rfl (Val.loadA [_, _, _, _, _] rfl Try.isAgg28 (by repeat (first | exact .here | refine .there ?_)) (by rfl) Try.sizeOf28) ?_)
    refine LW.eN rfl (Eff.storeW rfl rfl (by repeat (first | exact .here | apply Upd.there)) (by rfl) Try.sizeOf28 (by simp only [ownSl_v]; rfl)) ?_
    intro _ _
    refine LW.nil ?_
    refine PQ.seq ?_
    refine CW.ret ?_
    refine V.PQ.retC rfl rfl (by repeat (first | exact .here | refine .there ?_)) Try.isAgg28 (by exact Try.sizeOf28) ?_
    intro w' hw
    have ho2 : ownOk 5 k.2.length (k.2.flatMap Cl.cells) o := by
      have h1 := ho.1
      refine ⟨V.flatMap_len cl_len _, ?_⟩
      have h2 := ho.2
      rcases o with _ | ⟨g, rest, cap⟩
      · exact hk2.trans h2
      · simp only at h2 ⊢
        rw [V.flatMap_len cl_len] at h2 ⊢
        rw [hk2]; exact h2
    refine ⟨(o, k.2), ⟨ho2, hk3, fun x hx => ?_⟩, by simp only [Cl.re, Cl.cells]; rw [← ownSl_v, hk2], hw.pick (by repeat (first | exact .nil | apply Pick.cons | exact .here | apply Ext.there))⟩
    obtain ⟨i, hi, rfl⟩ := List.getElem_of_mem hx
    exact hk4 i _ (List.getElem?_eq_getElem hi)
def ansC (s : Sto) : List Value := [.int .i64 s.cd, .bool s.fd, .string s.av, .slice s.prs.a s.prs.n s.prs.c, .slice s.hts.a s.hts.n s.hts.c, .int .u64 s.ep]
def Sto.reC (s : Sto) (c : Sl) : Sto := ⟨s.th, s.call.re c, s.cd, s.fd, s.av, s.prs, s.hts, s.ep, s.bg, s.en⟩
def Sto.reA (s : Sto) (p h : Sl) : Sto := ⟨s.th, s.call, s.cd, s.fd, s.av, p, h, s.ep, s.bg, s.en⟩
theorem answer_c (s : Sto) (pl : List Pr) (hl : List Bool) (hp : s.prs.n = pl.length) (hh : s.hts.n = hl.length) (hm : s.prs.n ≤ 1000 ∧ s.hts.n ≤ 1000) (w : World) (h1 : V.slAt w s.prs.a 2 Pr.cells pl) (h2 : V.slAt w s.hts.a 1 boolC hl) : Calls Try.prog 62 [.agg (ansC s).toArray].toArray w fun e w' => ∃ y : V.OwnO × V.OwnO, (ownOk 2 pl.length (pl.flatMap Pr.cells) y.1 ∧ ownOk 1 hl.length (hl.flatMap boolC) y.2) ∧ e = .returned (.agg (ansC (s.reA (ownSl pl.length y.1) (ownSl hl.length y.2))).toArray) ∧ Hp ⟨w, []⟩ [ownG 106 (pl.flatMap Pr.cells) y.1, ownG 4 (hl.flatMap boolC) y.2] w' := by
  refine V.calls [] Try.func62 rfl Try.ntmps62 (Nat.le_of_ble_eq_true rfl) (V.sat_nil _) ?_
  refine CW.seq ?_
  refine CW.region ?_
  refine LW.e rfl rfl (Eff.boxA rfl) ?_
  intro b1 _
  refine LW.e rfl rfl (Eff.allocA (by exact Try.zeroValue34)) ?_
  intro b2 _
  refine LW.nil ?_
  refine PQ.seq ?_
  refine CW.seq ?_
  refine CW.region ?_
  refine LW.v rfl rfl (Val.fieldAddr 3 rfl Try.underlying34 rfl rfl Try.sizeOf30) ?_
  refine LW.v rfl rfl (Val.load rfl Try.isAgg30 (by repeat (first | exact .here | refine .there ?_)) (by rfl)) ?_
  refine LW.e rfl rfl (Eff.callM ([]) .nil rfl Try.call76 (fun w hw hs => cloneP_c s.prs.a s.prs.n s.prs.c pl hp hm.1 w (hw.slAt h1 (by simp [ids])))) ?_
  intro o1 ho1
  refine LW.v rfl rfl (Val.fieldAddr 3 rfl Try.underlying34 rfl rfl Try.sizeOf30) ?_
  refine LW.eN rfl (Eff.store rfl rfl (V.ownV_one _ _) (by repeat (first | exact .here | apply Upd.there)) (by rfl) (by rfl) Try.sizeOf30) ?_
  intro _ _
  refine LW.nil ?_
  refine PQ.seq ?_
  refine CW.seq ?_
  refine CW.region ?_
  refine LW.v rfl rfl (Val.fieldAddr 4 rfl Try.underlying34 rfl rfl Try.sizeOf31) ?_
  refine LW.v rfl rfl (Val.load rfl Try.isAgg31 (by repeat (first | exact .here | refine .there ?_)) (by rfl)) ?_
  refine LW.e rfl rfl (Eff.callM ([]) .nil rfl Try.call77 (fun w hw hs => cloneB_c s.hts.a s.hts.n s.hts.c hl hh hm.2 w (hw.slAt h2 (by simp [ids])))) ?_
  intro o2 ho2
  refine LW.v rfl rfl (Val.fieldAddr 4 rfl Try.underlying34 rfl rfl Try.sizeOf31) ?_
  refine LW.eN rfl (Eff.store rfl rfl (V.ownV_one _ _) (by repeat (first | exact .here | apply Upd.there)) (by rfl) (by rfl) Try.sizeOf31) ?_
  intro _ _
  refine LW.nil ?_
  refine PQ.seq ?_
  refine CW.seq ?_
  refine CW.region ?_
  first | (refine LW.v rfl rfl (Val.loadW rfl Try.isAgg34 (by repeat (first | exact .here | refine .there ?_)) (by exact Try.sizeOf34)) ?_) | (refine LW.v rfl rfl (Val.loadA [_, _, _, _, _, _] rfl Try.isAgg34 (by repeat (first | exact .here | refine .there ?_)) (by rfl) Try.sizeOf34) ?_)
  refine LW.eN rfl (Eff.storeW rfl rfl (by repeat (first | exact .here | apply Upd.there)) (by rfl) Try.sizeOf34 (by simp only [ownSl_v]; rfl)) ?_
  intro _ _
  refine LW.nil ?_
  refine PQ.seq ?_
  refine CW.ret ?_
  refine V.PQ.retC rfl rfl (by repeat (first | exact .here | refine .there ?_)) Try.isAgg34 (by exact Try.sizeOf34) ?_
  intro w' hw; exact ⟨(o1, o2), ⟨ho1, ho2⟩, by rw [ownSl_v, ownSl_v]; rfl, hw.pick (by repeat (first | exact .nil | apply Pick.cons | exact .here | apply Ext.there))⟩
end Go.Proofs.Ytaihimbjdgmjgaa
