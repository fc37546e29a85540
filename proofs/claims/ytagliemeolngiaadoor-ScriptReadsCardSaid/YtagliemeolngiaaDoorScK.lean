/- Events: weighed, copied, compared, printed. -/
import Derived.Test.YtagliemeolngiaaDoorScJ
import Derived.Test.YtagliemeolngiaaDoorV21
import Derived.Lib.Hide
namespace Go.Proofs.YtagliemeolngiaaDoor
open Go Go.RowKit V
set_option linter.unusedVariables false
set_option maxRecDepth 100000
open V (str byC ownV ownG ownS ownOk)
theorem int_len (x : Int) : (intC x).length = 1 := rfl
theorem int_one (x : Int) : (intC x).all (·.oneCell') = true := rfl
def Cq.re (c : Cq) (s : Sl) : Cq := ⟨c.ck, c.key, c.val, c.to, s⟩
def Evq.re (e : Evq) (g k : Sl) : Evq := ⟨e.kind, e.th, e.ln, e.call.re g, k⟩
theorem Evq.re_self (e : Evq) : e.re e.call.grp e.keep = e := rfl
/-- Texts of at most so many bytes. -/
def Cq.le (c : Cq) (m : Int) : Prop := (c.key.length : Int) ≤ m ∧ (c.val.length : Int) ≤ m ∧ (c.to.length : Int) ≤ m
theorem all_one {α : Type} {enc : α → List Value} (h : ∀ x, (enc x).all (·.oneCell') = true) (l : List α) : (l.flatMap enc).all (·.oneCell') = true := by
  induction l with
  | nil => rfl
  | cons y t ih => simp only [List.flatMap_cons, List.all_append, ih, Bool.and_true]; exact h y
theorem flat_snoc {α : Type} (enc : α → List Value) (l : List α) (x : α) : (l ++ [x]).flatMap enc = l.flatMap enc ++ enc x := by simp
theorem range_flat {α : Type} [Inhabited α] {enc : α → List Value} {sz : Nat} (hk : ∀ x, (enc x).length = sz) {l : List α} {b o : Nat} {w : World} (h : ∀ i x, l[i]? = some x → w.rangeAt b (o + i * sz) (enc x)) : w.rangeAt b o (l.flatMap enc) := fun j v hv => by
  have hj : j < l.length * sz := by rw [← V.flatMap_len hk]; exact (List.getElem?_eq_some_iff.1 hv).1
  rw [V.flatMap_get hk l hj] at hv
  have hs0 : 0 < sz := by rcases Nat.eq_zero_or_pos sz with e | e; (subst e; omega); exact e
  have hq : j / sz < l.length := (Nat.div_lt_iff_lt_mul hs0).2 hj
  have hx : l[j / sz]? = some l[j / sz]! := by rw [List.getElem?_eq_getElem hq, getElem!_pos l _ hq]
  have h1 := h _ _ hx (j % sz) v hv
  have := Nat.div_add_mod j sz
  rw [Nat.mul_comm] at this
  rw [show o + j = o + j / sz * sz + j % sz by omega]
  exact h1
def ownSl (n : Nat) : V.OwnO → Sl
  | none => ⟨none, 0, 0⟩
  | some (g, _, cap) => ⟨some ⟨g, 0, none⟩, n, cap⟩
theorem ownSl_v (n : Nat) (o : V.OwnO) : ownV n o = .slice (ownSl n o).a (ownSl n o).n (ownSl n o).c := by cases o <;> rfl
theorem ownSl_n {sz n : Nat} {xs : List Value} {o : V.OwnO} (h : ownOk sz n xs o) : (ownSl n o).n = n := by
  rcases o with _ | q
  · exact h.2.symm
  · rfl
theorem ownSl_v2 {sz n : Nat} {xs : List Value} {o : V.OwnO} (h : ownOk sz n xs o) : ownV n o = .slice (ownSl n o).a n (ownSl n o).c := by rw [ownSl_v, ownSl_n h]
theorem ownSl_at {α : Type} {enc : α → List Value} {sz e : Nat} (hk : ∀ x, (enc x).length = sz) {l : List α} {o : V.OwnO} (h : ownOk sz l.length (l.flatMap enc) o) {w : World} (hs : Sat [ownG e (l.flatMap enc) o] w) : V.slAt w (ownSl l.length o).a sz enc l := by
  rcases o with _ | ⟨g, rest, cap⟩
  · exact .inl (List.length_eq_zero_iff.1 h.2)
  · have hb : w.heap[g]? = some (.cells (l.flatMap enc ++ rest).toArray e (0, 0)) := hs.own (g, .cells (l.flatMap enc ++ rest).toArray e (0, 0)) (by simp [ownG, ownS])
    refine .inr ⟨g, 0, rfl, V.lt_of_some hb, fun i x hx => ?_⟩
    obtain ⟨r, hr⟩ := V.drop_flatMap hk l i x hx
    have hi : i < l.length := (List.getElem?_eq_some_iff.1 hx).1
    have : i * sz ≤ (l.flatMap enc).length := by rw [V.flatMap_len hk]; exact Nat.mul_le_mul_right _ (by omega)
    exact V.range_of_block (r := r ++ rest) hb (by rw [Nat.zero_add, List.drop_append_of_le_length this, hr, List.append_assoc])
theorem sat_l {a b : V.Seg} {w : World} (h : Sat [a ++ b] w) : Sat [a] w := ⟨fun p hp => h.own p (by simp at hp ⊢; exact .inl hp), by have := h.nd; simp only [List.flatten_cons, List.flatten_nil, List.append_nil, List.map_append, List.nodup_append] at this ⊢; exact this.1⟩
theorem sat_r {a b : V.Seg} {w : World} (h : Sat [a ++ b] w) : Sat [b] w := ⟨fun p hp => h.own p (by simp at hp ⊢; exact .inr hp), by have := h.nd; simp only [List.flatten_cons, List.flatten_nil, List.append_nil, List.map_append, List.nodup_append] at this ⊢; exact this.2.1⟩
instance : Inhabited Cq := ⟨⟨0, [], [], [], ⟨none, 0, 0⟩⟩⟩
theorem weight_c (c : Cq) (gl : List Cq) (most : Int) (w : World) (hm : 0 ≤ most ∧ most ≤ 100000) (hg : gl.length = c.grp.n) (hs : V.slAt w c.grp.a 5 Cq.cells gl) : Calls Tryd.prog 35 [.agg c.cells.toArray, .int .i64 most].toArray w
    fun e w' => ∃ z : Int, (z ≤ most → ((gl.length : Int) ≤ most ∧ ∀ x ∈ gl, x.grp.n = 0) ∧ c.le most ∧ ∀ x ∈ gl, x.le most) ∧ e = .returned (.int .i64 z) ∧ Below w.heap.size w w' := by
  refine V.calls [] Tryd.func35 rfl Tryd.ntmps35 (Nat.le_of_ble_eq_true rfl) (V.sat_nil _) ?_
  refine CW.seq ?_
  refine CW.region ?_
  refine LW.e rfl rfl (Eff.boxA rfl) ?_
  intro b2 _
  refine LW.v rfl rfl (Val.assign rfl) ?_
  refine LW.nil ?_
  refine PQ.seq ?_
  refine CW.seq ?_
  refine CW.region ?_
  refine LW.v rfl rfl (Val.assign rfl) ?_
  refine LW.nil ?_
  refine PQ.seq ?_
  refine CW.seq ?_
  refine CW.seq ?_
  refine CW.region ?_
  refine LW.v rfl rfl (Val.fieldAddr 1 rfl Tryd.underlying41 rfl rfl Tryd.sizeOf9) ?_
  refine LW.v rfl rfl (Val.load rfl Tryd.isAgg9 (by repeat (first | exact .here | refine .there ?_)) (by rfl)) ?_
  refine LW.v rfl rfl (Val.lenStr rfl Tryd.underlying9) ?_
  refine LW.v rfl rfl (Val.move rfl) ?_
  refine LW.v rfl rfl (Val.cmp rfl rfl rfl) ?_
  refine LW.v rfl rfl (Val.move rfl) ?_
  refine LW.split (d := 13) rfl (fun h13 => ?_) (fun h13 => ?_)
  · replace h13 := bT h13
    refine LW.p rfl rfl ?_
    refine LW.p rfl rfl ?_
    refine LW.p rfl rfl ?_
    refine LW.p rfl rfl ?_
    refine LW.p rfl rfl ?_
    refine LW.v rfl rfl (Val.pick_t rfl rfl) ?_
    refine LW.v rfl rfl (Val.move rfl) ?_
    refine LW.p rfl rfl ?_
    refine LW.p rfl rfl ?_
    refine LW.p rfl rfl ?_
    refine LW.p rfl rfl ?_
    refine LW.p rfl rfl ?_
    refine LW.v rfl rfl (Val.pick_t rfl rfl) ?_
    refine LW.v rfl rfl (Val.move rfl) ?_
    refine LW.p rfl rfl ?_
    refine LW.p rfl rfl ?_
    refine LW.p rfl rfl ?_
    refine LW.p rfl rfl ?_
    refine LW.p rfl rfl ?_
    refine LW.v rfl rfl (Val.pick_t rfl rfl) ?_
    refine LW.nil ?_
    refine PQ.seq ?_
    refine CW.cond_t rfl ?_
    refine CW.seq ?_
    refine CW.region ?_
    refine LW.v rfl rfl (Val.move rfl) ?_
    refine LW.v rfl rfl (Val.ar rfl rfl rfl (IntWalk.i64_in _ (by omega))) ?_
    refine LW.v rfl rfl (Val.assign rfl) ?_
    refine LW.nil ?_
    refine PQ.seq ?_
    refine CW.ret ?_
    refine PQ.then_ret ?_
    refine PQ.ret1 rfl rfl ?_
    intro w hw; exact ⟨_, fun h => by omega, rfl, hw.below⟩
  · replace h13 := bF h13
    refine LW.v rfl rfl (Val.fieldAddr 2 rfl Tryd.underlying41 rfl rfl Tryd.sizeOf9) ?_
    refine LW.v rfl rfl (Val.load rfl Tryd.isAgg9 (by repeat (first | exact .here | refine .there ?_)) (by rfl)) ?_
    refine LW.v rfl rfl (Val.lenStr rfl Tryd.underlying9) ?_
    refine LW.v rfl rfl (Val.move rfl) ?_
    refine LW.v rfl rfl (Val.cmp rfl rfl rfl) ?_
    refine LW.v rfl rfl (Val.pick_f rfl rfl) ?_
    refine LW.v rfl rfl (Val.move rfl) ?_
    refine LW.split (d := 20) rfl (fun h20 => ?_) (fun h20 => ?_)
    · replace h20 := bT h20
      refine LW.p rfl rfl ?_
      refine LW.p rfl rfl ?_
      refine LW.p rfl rfl ?_
      refine LW.p rfl rfl ?_
      refine LW.p rfl rfl ?_
      refine LW.v rfl rfl (Val.pick_t rfl rfl) ?_
      refine LW.v rfl rfl (Val.move rfl) ?_
      refine LW.p rfl rfl ?_
      refine LW.p rfl rfl ?_
      refine LW.p rfl rfl ?_
      refine LW.p rfl rfl ?_
      refine LW.p rfl rfl ?_
      refine LW.v rfl rfl (Val.pick_t rfl rfl) ?_
      refine LW.nil ?_
      refine PQ.seq ?_
      refine CW.cond_t rfl ?_
      refine CW.seq ?_
      refine CW.region ?_
      refine LW.v rfl rfl (Val.move rfl) ?_
      refine LW.v rfl rfl (Val.ar rfl rfl rfl (IntWalk.i64_in _ (by omega))) ?_
      refine LW.v rfl rfl (Val.assign rfl) ?_
      refine LW.nil ?_
      refine PQ.seq ?_
      refine CW.ret ?_
      refine PQ.then_ret ?_
      refine PQ.ret1 rfl rfl ?_
      intro w hw; exact ⟨_, fun h => by omega, rfl, hw.below⟩
    · replace h20 := bF h20
      refine LW.v rfl rfl (Val.fieldAddr 3 rfl Tryd.underlying41 rfl rfl Tryd.sizeOf9) ?_
      refine LW.v rfl rfl (Val.load rfl Tryd.isAgg9 (by repeat (first | exact .here | refine .there ?_)) (by rfl)) ?_
      refine LW.v rfl rfl (Val.lenStr rfl Tryd.underlying9) ?_
      refine LW.v rfl rfl (Val.move rfl) ?_
      refine LW.v rfl rfl (Val.cmp rfl rfl rfl) ?_
      refine LW.v rfl rfl (Val.pick_f rfl rfl) ?_
      refine LW.v rfl rfl (Val.move rfl) ?_
      refine LW.split (d := 27) rfl (fun h27 => ?_) (fun h27 => ?_)
      · replace h27 := bT h27
        refine LW.p rfl rfl ?_
        refine LW.p rfl rfl ?_
        refine LW.p rfl rfl ?_
        refine LW.p rfl rfl ?_
        refine LW.p rfl rfl ?_
        refine LW.v rfl rfl (Val.pick_t rfl rfl) ?_
        refine LW.nil ?_
        refine PQ.seq ?_
        refine CW.cond_t rfl ?_
        refine CW.seq ?_
        refine CW.region ?_
        refine LW.v rfl rfl (Val.move rfl) ?_
        refine LW.v rfl rfl (Val.ar rfl rfl rfl (IntWalk.i64_in _ (by omega))) ?_
        refine LW.v rfl rfl (Val.assign rfl) ?_
        refine LW.nil ?_
        refine PQ.seq ?_
        refine CW.ret ?_
        refine PQ.then_ret ?_
        refine PQ.ret1 rfl rfl ?_
        intro w hw; exact ⟨_, fun h => by omega, rfl, hw.below⟩
      · replace h27 := bF h27
        refine LW.v rfl rfl (Val.fieldAddr 4 rfl Tryd.underlying41 rfl rfl Tryd.sizeOf39) ?_
        refine LW.v rfl rfl (Val.load rfl Tryd.isAgg39 (by repeat (first | exact .here | refine .there ?_)) (by rfl)) ?_
        refine LW.v rfl rfl (Val.lenSl rfl Tryd.underlying39) ?_
        refine LW.v rfl rfl (Val.move rfl) ?_
        refine LW.v rfl rfl (Val.cmp rfl rfl rfl) ?_
        refine LW.v rfl rfl (Val.pick_f rfl rfl) ?_
        refine LW.nil ?_
        refine PQ.seq ?_
        refine CW.cond rfl (fun h33 => ?_) (fun h33 => ?_)
        · replace h33 := bT h33
          refine CW.seq ?_
          refine CW.region ?_
          refine LW.v rfl rfl (Val.move rfl) ?_
          refine LW.v rfl rfl (Val.ar rfl rfl rfl (IntWalk.i64_in _ (by omega))) ?_
          refine LW.v rfl rfl (Val.assign rfl) ?_
          refine LW.nil ?_
          refine PQ.seq ?_
          refine CW.ret ?_
          refine PQ.then_ret ?_
          refine PQ.ret1 rfl rfl ?_
          intro w hw; exact ⟨_, fun h => by omega, rfl, hw.below⟩
        · replace h33 := bF h33
          refine CW.skip ?_
          refine PQ.seq ?_
          refine CW.seq ?_
          refine CW.region ?_
          refine LW.v rfl rfl (Val.fieldAddr 1 rfl Tryd.underlying41 rfl rfl Tryd.sizeOf9) ?_
          refine LW.v rfl rfl (Val.load rfl Tryd.isAgg9 (by repeat (first | exact .here | refine .there ?_)) (by rfl)) ?_
          refine LW.v rfl rfl (Val.lenStr rfl Tryd.underlying9) ?_
          refine LW.v rfl rfl (Val.fieldAddr 2 rfl Tryd.underlying41 rfl rfl Tryd.sizeOf9) ?_
          refine LW.v rfl rfl (Val.load rfl Tryd.isAgg9 (by repeat (first | exact .here | refine .there ?_)) (by rfl)) ?_
          refine LW.v rfl rfl (Val.lenStr rfl Tryd.underlying9) ?_
          refine LW.v rfl rfl (Val.ar rfl rfl rfl (IntWalk.i64_in _ (by omega))) ?_
          refine LW.v rfl rfl (Val.fieldAddr 3 rfl Tryd.underlying41 rfl rfl Tryd.sizeOf9) ?_
          refine LW.v rfl rfl (Val.load rfl Tryd.isAgg9 (by repeat (first | exact .here | refine .there ?_)) (by rfl)) ?_
          refine LW.v rfl rfl (Val.lenStr rfl Tryd.underlying9) ?_
          refine LW.v rfl rfl (Val.ar rfl rfl rfl (IntWalk.i64_in _ (by omega))) ?_
          refine LW.v rfl rfl (Val.assign rfl) ?_
          refine LW.nil ?_
          refine PQ.seq ?_
          refine CW.seq ?_
          refine CW.seq ?_
          refine CW.region ?_
          refine LW.v rfl rfl (Val.assign rfl) ?_
          refine LW.nil ?_
          refine PQ.seq ?_
          refine CW.block ?_
          refine CW.loop (γ := Nat × Int) (fun k => [(1, .int .i64 most), (2, .pointer (some ⟨b2, 0, none⟩)), (5, .int .i64 k.2), (6, .int .i64 (k.1 : Nat))]) (fun _ => [[(b2, .cells c.cells.toArray 41 (0, 0))]]) (fun k => k.1 ≤ gl.length ∧ ((c.key.length : Int) ≤ k.2 ∧ (c.val.length : Int) ≤ k.2 ∧ (c.to.length : Int) ≤ k.2 ∧ 0 ≤ k.2) ∧ k.2 ≤ 4 * most ∧ ∀ i, i < k.1 → ∀ x, gl[i]? = some x → x.grp.n = 0 ∧ x.le k.2) (fun k => gl.length - k.1) ((0, (c.key.length : Int) + (c.val.length : Int) + (c.to.length : Int))) ⟨Nat.zero_le _, ⟨by simp only; omega, by simp only; omega, by simp only; omega, by simp only; omega⟩, by simp only; omega, fun i hi => by omega⟩ (by repeat (first | exact trivial | refine ⟨rfl, ?_⟩)) (by repeat (first | exact .nil | apply Pick.cons | exact .here | apply Ext.there)) ?_
          intro k
          rintro ⟨hk0, ⟨hk1a, hk1b, hk1c, hk1⟩, hk2, hk3⟩
          refine CW.seq ?_
          refine CW.seq ?_
          refine CW.region ?_
          refine LW.v rfl rfl (Val.move rfl) ?_
          refine LW.v rfl rfl (Val.fieldAddr 4 rfl Tryd.underlying41 rfl rfl Tryd.sizeOf39) ?_
          refine LW.v rfl rfl (Val.load rfl Tryd.isAgg39 (by repeat (first | exact .here | refine .there ?_)) (by rfl)) ?_
          refine LW.v rfl rfl (Val.lenSl rfl Tryd.underlying39) ?_
          refine LW.v rfl rfl (Val.cmp rfl rfl rfl) ?_
          refine LW.v rfl rfl (Val.move rfl) ?_
          refine LW.split (d := 52) rfl (fun h52 => ?_) (fun h52 => ?_)
          · replace h52 := bT h52
            refine LW.v rfl rfl (Val.move rfl) ?_
            refine LW.v rfl rfl (Val.move rfl) ?_
            refine LW.v rfl rfl (Val.cmp rfl rfl rfl) ?_
            refine LW.v rfl rfl (Val.pick_t rfl rfl) ?_
            refine LW.nil ?_
            refine PQ.seq ?_
            refine CW.cond rfl (fun h56 => ?_) (fun h56 => ?_)
            · replace h56 := bT h56
              refine CW.skip ?_
              refine PQ.seq ?_
              refine CW.seq ?_
              refine CW.block ?_
              refine CW.seq ?_
              refine CW.region ?_
              refine LW.v rfl rfl (Val.fieldAddr 4 rfl Tryd.underlying41 rfl rfl Tryd.sizeOf39) ?_
              refine LW.v rfl rfl (Val.load rfl Tryd.isAgg39 (by repeat (first | exact .here | refine .there ?_)) (by rfl)) ?_
              refine LW.v rfl rfl (Val.move rfl) ?_
              obtain ⟨bg, og, x', hpa, hbg, hx, hr⟩ := V.slAt_at hs hg (k := k.1) (by omega)
              refine LW.re 60 (.slice (some ⟨bg, og, none⟩) c.grp.n c.grp.c) rfl (by rw [hpa]) ?_
              first | (refine LW.v rfl rfl (Val.indexAddrN rfl rfl Tryd.underlying39 Tryd.sizeOf41 (by omega)) ?_) | (refine LW.v rfl rfl (Val.indexAddr rfl rfl Tryd.underlying39 Tryd.sizeOf41 (by omega) (by omega)) ?_)
              refine LW.v rfl rfl (Val.loadOA rfl Tryd.isAgg41 hbg (by simp [ids]) (hr _ _ hx) Tryd.sizeOf41) ?_
              refine LW.e rfl rfl (Eff.allocA (by exact Tryd.zeroValue41)) ?_
              intro b7 _
              first | (refine LW.eN rfl (Eff.storeW rfl rfl (by repeat (first | exact .here | apply Upd.there)) (by rfl) Tryd.sizeOf41 (by rfl)) ?_) | (refine LW.eN rfl (Eff.storeA (l' := _) rfl rfl (by repeat (first | exact .here | apply Upd.there)) (by rfl) (by decide) Tryd.sizeOf41 (by rfl)) ?_)
              intro _ _
              refine LW.nil ?_
              refine PQ.seq ?_
              refine CW.seq ?_
              refine CW.seq ?_
              refine CW.region ?_
              refine LW.v rfl rfl (Val.fieldAddr 1 rfl Tryd.underlying41 rfl rfl Tryd.sizeOf9) ?_
              refine LW.v rfl rfl (Val.load rfl Tryd.isAgg9 (by repeat (first | exact .here | refine .there ?_)) (by rfl)) ?_
              refine LW.v rfl rfl (Val.lenStr rfl Tryd.underlying9) ?_
              refine LW.v rfl rfl (Val.move rfl) ?_
              refine LW.v rfl rfl (Val.cmp rfl rfl rfl) ?_
              refine LW.v rfl rfl (Val.move rfl) ?_
              refine LW.split (d := 69) rfl (fun h69 => ?_) (fun h69 => ?_)
              · replace h69 := bT h69
                refine LW.p rfl rfl ?_
                refine LW.p rfl rfl ?_
                refine LW.p rfl rfl ?_
                refine LW.p rfl rfl ?_
                refine LW.p rfl rfl ?_
                refine LW.v rfl rfl (Val.pick_t rfl rfl) ?_
                refine LW.v rfl rfl (Val.move rfl) ?_
                refine LW.p rfl rfl ?_
                refine LW.p rfl rfl ?_
                refine LW.p rfl rfl ?_
                refine LW.p rfl rfl ?_
                refine LW.p rfl rfl ?_
                refine LW.v rfl rfl (Val.pick_t rfl rfl) ?_
                refine LW.v rfl rfl (Val.move rfl) ?_
                refine LW.p rfl rfl ?_
                refine LW.p rfl rfl ?_
                refine LW.p rfl rfl ?_
                refine LW.p rfl rfl ?_
                refine LW.v rfl rfl (Val.pick_t rfl rfl) ?_
                refine LW.nil ?_
                refine PQ.seq ?_
                refine CW.cond_t rfl ?_
                refine CW.seq ?_
                refine CW.region ?_
                refine LW.v rfl rfl (Val.move rfl) ?_
                refine LW.v rfl rfl (Val.ar rfl rfl rfl (IntWalk.i64_in _ (by omega))) ?_
                refine LW.v rfl rfl (Val.assign rfl) ?_
                refine LW.nil ?_
                refine PQ.seq ?_
                refine CW.ret ?_
                refine PQ.then_ret ?_
                refine PQ.in_ret ?_
                refine PQ.then_ret ?_
                refine PQ.then_ret ?_
                refine PQ.in_ret ?_
                refine PQ.then_ret ?_
                refine PQ.ret1 rfl rfl ?_
                intro w hw; exact ⟨_, fun h => by omega, rfl, hw.below⟩
              · replace h69 := bF h69
                refine LW.v rfl rfl (Val.fieldAddr 2 rfl Tryd.underlying41 rfl rfl Tryd.sizeOf9) ?_
                refine LW.v rfl rfl (Val.load rfl Tryd.isAgg9 (by repeat (first | exact .here | refine .there ?_)) (by rfl)) ?_
                refine LW.v rfl rfl (Val.lenStr rfl Tryd.underlying9) ?_
                refine LW.v rfl rfl (Val.move rfl) ?_
                refine LW.v rfl rfl (Val.cmp rfl rfl rfl) ?_
                refine LW.v rfl rfl (Val.pick_f rfl rfl) ?_
                refine LW.v rfl rfl (Val.move rfl) ?_
                refine LW.split (d := 76) rfl (fun h76 => ?_) (fun h76 => ?_)
                · replace h76 := bT h76
                  refine LW.p rfl rfl ?_
                  refine LW.p rfl rfl ?_
                  refine LW.p rfl rfl ?_
                  refine LW.p rfl rfl ?_
                  refine LW.p rfl rfl ?_
                  refine LW.v rfl rfl (Val.pick_t rfl rfl) ?_
                  refine LW.v rfl rfl (Val.move rfl) ?_
                  refine LW.p rfl rfl ?_
                  refine LW.p rfl rfl ?_
                  refine LW.p rfl rfl ?_
                  refine LW.p rfl rfl ?_
                  refine LW.v rfl rfl (Val.pick_t rfl rfl) ?_
                  refine LW.nil ?_
                  refine PQ.seq ?_
                  refine CW.cond_t rfl ?_
                  refine CW.seq ?_
                  refine CW.region ?_
                  refine LW.v rfl rfl (Val.move rfl) ?_
                  refine LW.v rfl rfl (Val.ar rfl rfl rfl (IntWalk.i64_in _ (by omega))) ?_
                  refine LW.v rfl rfl (Val.assign rfl) ?_
                  refine LW.nil ?_
                  refine PQ.seq ?_
                  refine CW.ret ?_
                  refine PQ.then_ret ?_
                  refine PQ.in_ret ?_
                  refine PQ.then_ret ?_
                  refine PQ.then_ret ?_
                  refine PQ.in_ret ?_
                  refine PQ.then_ret ?_
                  refine PQ.ret1 rfl rfl ?_
                  intro w hw; exact ⟨_, fun h => by omega, rfl, hw.below⟩
                · replace h76 := bF h76
                  refine LW.v rfl rfl (Val.fieldAddr 3 rfl Tryd.underlying41 rfl rfl Tryd.sizeOf9) ?_
                  refine LW.v rfl rfl (Val.load rfl Tryd.isAgg9 (by repeat (first | exact .here | refine .there ?_)) (by rfl)) ?_
                  refine LW.v rfl rfl (Val.lenStr rfl Tryd.underlying9) ?_
                  refine LW.v rfl rfl (Val.move rfl) ?_
                  refine LW.v rfl rfl (Val.cmp rfl rfl rfl) ?_
                  refine LW.v rfl rfl (Val.pick_f rfl rfl) ?_
                  refine LW.v rfl rfl (Val.move rfl) ?_
                  refine LW.split (d := 83) rfl (fun h83 => ?_) (fun h83 => ?_)
                  · replace h83 := bT h83
                    refine LW.p rfl rfl ?_
                    refine LW.p rfl rfl ?_
                    refine LW.p rfl rfl ?_
                    refine LW.p rfl rfl ?_
                    refine LW.v rfl rfl (Val.pick_t rfl rfl) ?_
                    refine LW.nil ?_
                    refine PQ.seq ?_
                    refine CW.cond_t rfl ?_
                    refine CW.seq ?_
                    refine CW.region ?_
                    refine LW.v rfl rfl (Val.move rfl) ?_
                    refine LW.v rfl rfl (Val.ar rfl rfl rfl (IntWalk.i64_in _ (by omega))) ?_
                    refine LW.v rfl rfl (Val.assign rfl) ?_
                    refine LW.nil ?_
                    refine PQ.seq ?_
                    refine CW.ret ?_
                    refine PQ.then_ret ?_
                    refine PQ.in_ret ?_
                    refine PQ.then_ret ?_
                    refine PQ.then_ret ?_
                    refine PQ.in_ret ?_
                    refine PQ.then_ret ?_
                    refine PQ.ret1 rfl rfl ?_
                    intro w hw; exact ⟨_, fun h => by omega, rfl, hw.below⟩
                  · replace h83 := bF h83
                    refine LW.v rfl rfl (Val.fieldAddr 4 rfl Tryd.underlying41 rfl rfl Tryd.sizeOf39) ?_
                    refine LW.v rfl rfl (Val.load rfl Tryd.isAgg39 (by repeat (first | exact .here | refine .there ?_)) (by rfl)) ?_
                    refine LW.v rfl rfl (Val.lenSl rfl Tryd.underlying39) ?_
                    refine LW.v rfl rfl (Val.cmp rfl rfl rfl) ?_
                    refine LW.v rfl rfl (Val.pick_f rfl rfl) ?_
                    refine LW.nil ?_
                    refine PQ.seq ?_
                    refine CW.cond rfl (fun h88 => ?_) (fun h88 => ?_)
                    · replace h88 := bT h88
                      refine CW.seq ?_
                      refine CW.region ?_
                      refine LW.v rfl rfl (Val.move rfl) ?_
                      refine LW.v rfl rfl (Val.ar rfl rfl rfl (IntWalk.i64_in _ (by omega))) ?_
                      refine LW.v rfl rfl (Val.assign rfl) ?_
                      refine LW.nil ?_
                      refine PQ.seq ?_
                      refine CW.ret ?_
                      refine PQ.then_ret ?_
                      refine PQ.in_ret ?_
                      refine PQ.then_ret ?_
                      refine PQ.then_ret ?_
                      refine PQ.in_ret ?_
                      refine PQ.then_ret ?_
                      refine PQ.ret1 rfl rfl ?_
                      intro w hw; exact ⟨_, fun h => by omega, rfl, hw.below⟩
                    · replace h88 := bF h88
                      refine CW.skip ?_
                      refine PQ.seq ?_
                      refine CW.region ?_
                      refine LW.v rfl rfl (Val.move rfl) ?_
                      refine LW.v rfl rfl (Val.fieldAddr 1 rfl Tryd.underlying41 rfl rfl Tryd.sizeOf9) ?_
                      refine LW.v rfl rfl (Val.load rfl Tryd.isAgg9 (by repeat (first | exact .here | refine .there ?_)) (by rfl)) ?_
                      refine LW.v rfl rfl (Val.lenStr rfl Tryd.underlying9) ?_
                      refine LW.v rfl rfl (Val.ar rfl rfl rfl (IntWalk.i64_in _ (by omega))) ?_
                      refine LW.v rfl rfl (Val.fieldAddr 2 rfl Tryd.underlying41 rfl rfl Tryd.sizeOf9) ?_
                      refine LW.v rfl rfl (Val.load rfl Tryd.isAgg9 (by repeat (first | exact .here | refine .there ?_)) (by rfl)) ?_
                      refine LW.v rfl rfl (Val.lenStr rfl Tryd.underlying9) ?_
                      refine LW.v rfl rfl (Val.ar rfl rfl rfl (IntWalk.i64_in _ (by omega))) ?_
                      refine LW.v rfl rfl (Val.fieldAddr 3 rfl Tryd.underlying41 rfl rfl Tryd.sizeOf9) ?_
                      refine LW.v rfl rfl (Val.load rfl Tryd.isAgg9 (by repeat (first | exact .here | refine .there ?_)) (by rfl)) ?_
                      refine LW.v rfl rfl (Val.lenStr rfl Tryd.underlying9) ?_
                      refine LW.v rfl rfl (Val.ar rfl rfl rfl (IntWalk.i64_in _ (by omega))) ?_
                      refine LW.v rfl rfl (Val.assign rfl) ?_
                      refine LW.nil ?_
                      refine PQ.in_normal ?_
                      refine PQ.seq ?_
                      refine CW.region ?_
                      refine LW.v rfl rfl (Val.move rfl) ?_
                      refine LW.v rfl rfl (Val.ar rfl rfl rfl (IntWalk.i64_in _ (by omega))) ?_
                      refine LW.v rfl rfl (Val.assign rfl) ?_
                      refine LW.nil ?_
                      refine PQ.round ((k.1 + 1, k.2 + (x'.key.length : Int) + (x'.val.length : Int) + (x'.to.length : Int))) ⟨by simp only; omega, ⟨by simp only; omega, by simp only; omega, by simp only; omega, by simp only; omega⟩, by simp only; omega, fun i hi y hy => by
                        by_cases e : i = k.1
                        · subst e; rw [hx] at hy; cases hy; exact ⟨by omega, by unfold Cq.le; simp only; omega⟩
                        · have h9 := hk3 i (by simp only at hi; omega) y hy
                          refine ⟨h9.1, ?_⟩
                          have h10 := h9.2
                          unfold Cq.le at h10 ⊢
                          simp only; omega⟩ (by simp only; omega) (by repeat (first | exact trivial | refine ⟨rfl, ?_⟩)) (by repeat (first | exact .nil | apply Pick.cons | exact .here | apply Ext.there))
            · replace h56 := bF h56
              refine CW.exit ?_
              refine PQ.then_exit ?_
              refine PQ.then_exit ?_
              refine PQ.in_here ?_
              refine PQ.seq ?_
              refine CW.seq ?_
              refine CW.region ?_
              refine LW.v rfl rfl (Val.move rfl) ?_
              refine LW.v rfl rfl (Val.move rfl) ?_
              refine LW.v rfl rfl (Val.ar rfl rfl rfl (IntWalk.i64_in _ (by omega))) ?_
              refine LW.v rfl rfl (Val.minI rfl rfl) ?_
              refine LW.v rfl rfl (Val.assign rfl) ?_
              refine LW.nil ?_
              refine PQ.seq ?_
              refine CW.ret ?_
              refine PQ.ret1 rfl rfl ?_
              intro w hw; exact ⟨_, fun h => by split at h <;> omega, rfl, hw.below⟩
          · replace h52 := bF h52
            refine LW.p rfl rfl ?_
            refine LW.p rfl rfl ?_
            refine LW.p rfl rfl ?_
            refine LW.v rfl rfl (Val.pick_f rfl rfl) ?_
            refine LW.nil ?_
            refine PQ.seq ?_
            refine CW.cond_f rfl ?_
            refine CW.exit ?_
            refine PQ.then_exit ?_
            refine PQ.then_exit ?_
            refine PQ.in_here ?_
            refine PQ.seq ?_
            refine CW.seq ?_
            refine CW.region ?_
            refine LW.v rfl rfl (Val.move rfl) ?_
            refine LW.v rfl rfl (Val.move rfl) ?_
            refine LW.v rfl rfl (Val.ar rfl rfl rfl (IntWalk.i64_in _ (by omega))) ?_
            refine LW.v rfl rfl (Val.minI rfl rfl) ?_
            refine LW.v rfl rfl (Val.assign rfl) ?_
            refine LW.nil ?_
            refine PQ.seq ?_
            refine CW.ret ?_
            refine PQ.ret1 rfl rfl ?_
            intro w hw
            exact ⟨_, fun h => ⟨⟨by omega, fun x hx => by
              obtain ⟨i, hi, rfl⟩ := List.getElem_of_mem hx
              exact (hk3 i (by omega) _ (List.getElem?_eq_getElem hi)).1⟩, ⟨by omega, by omega, by omega⟩, fun x hx => by
              obtain ⟨i, hi, rfl⟩ := List.getElem_of_mem hx
              have := (hk3 i (by omega) _ (List.getElem?_eq_getElem hi)).2
              unfold Cq.le at this ⊢
              omega⟩, rfl, hw.below⟩
/-- What an event names, read. -/
structure EvR (w : World) (e : Evq) (gl : List Cq) (kl : List Int) : Prop where
  gn : e.call.grp.n = gl.length
  gs : V.slAt w e.call.grp.a 5 Cq.cells gl
  kn : kl.length = e.keep.n
  ks : V.slAt w e.keep.a 1 intC kl
theorem EvR.hp {w0 w : World} {sg : Sg} {e : Evq} {gl : List Cq} {kl : List Int} (h : EvR w0 e gl kl) (hw : Hp ⟨w0, []⟩ sg w) : EvR w e gl kl := ⟨h.gn, hw.slAt h.gs (by simp), h.kn, hw.slAt h.ks (by simp)⟩
/-- Not too much. -/
def EvS (e : Evq) (gl : List Cq) : Prop := e.keep.n ≤ 300 ∧ gl.length ≤ 20 ∧ (∀ x ∈ gl, x.grp.n = 0) ∧ e.call.le 2000 ∧ ∀ x ∈ gl, x.le 2000
theorem Cq.le.small {c : Cq} {m : Int} (h : c.le m) (hm : m ≤ 300000) : c.small := by unfold Cq.le at h; unfold Cq.small; omega
theorem EvS.ok {w : World} {e : Evq} {gl : List Cq} {kl : List Int} (h : EvS e gl) (hr : EvR w e gl kl) : EvOk w e gl kl := ⟨hr.gn, hr.gs, hr.kn, hr.ks, by have := h.2.1; omega, by have := h.1; omega, h.2.2.2.1.small (by omega), fun x hx => (h.2.2.2.2 x hx).small (by omega)⟩
theorem heavy_c (gr : Evq → List Cq) (kr : Evq → List Int) (p : Option Addr) (n cap : Nat) (l : List Evq) (w : World) (hn : l.length = n) (h : V.slAt w p 9 Evq.cells l) (ho : ∀ e ∈ l, EvR w e (gr e) (kr e)) : Calls Tryd.prog 16 [.slice p n cap].toArray w
    fun e' w' => ∃ x : Bool, (x = false → n ≤ 100 ∧ ∀ e ∈ l, EvS e (gr e)) ∧ e' = .returned (.bool x) ∧ Below w.heap.size w w' := by
  refine V.calls [] Tryd.func16 rfl Tryd.ntmps16 (Nat.le_of_ble_eq_true rfl) (V.sat_nil _) ?_
  refine CW.seq ?_
  refine CW.region ?_
  refine LW.v rfl rfl (Val.assign rfl) ?_
  refine LW.nil ?_
  refine PQ.seq ?_
  refine CW.seq ?_
  refine CW.seq ?_
  refine CW.region ?_
  refine LW.v rfl rfl (Val.move rfl) ?_
  refine LW.v rfl rfl (Val.lenSl rfl Tryd.underlying28) ?_
  refine LW.v rfl rfl (Val.cmp rfl rfl rfl) ?_
  refine LW.nil ?_
  refine PQ.seq ?_
  refine CW.cond rfl (fun h6 => ?_) (fun h6 => ?_)
  · replace h6 := bT h6
    refine CW.seq ?_
    refine CW.region ?_
    refine LW.v rfl rfl (Val.assign rfl) ?_
    refine LW.nil ?_
    refine PQ.seq ?_
    refine CW.ret ?_
    refine PQ.then_ret ?_
    refine PQ.ret1 rfl rfl ?_
    intro w hw; exact ⟨_, (fun h => by first | (cases h; done) | exact ⟨by omega, fun e he => by obtain ⟨i, hi⟩ := List.getElem?_of_mem he; exact hJ.2 i (by have := (List.getElem?_eq_some_iff.1 hi).1; omega) e hi⟩), rfl, hw.below⟩
  · replace h6 := bF h6
    refine CW.skip ?_
    refine PQ.seq ?_
    refine CW.seq ?_
    refine CW.seq ?_
    refine CW.region ?_
    refine LW.v rfl rfl (Val.assign rfl) ?_
    refine LW.nil ?_
    refine PQ.seq ?_
    refine CW.block ?_
    refine CW.loop (γ := Nat) (fun k => [(0, .slice p n cap), (3, .int .i64 (k : Nat))]) (fun _ => []) (fun k => k ≤ n ∧ ∀ i, i < k → ∀ e, l[i]? = some e → EvS e (gr e)) (fun k => n - k) (0) ⟨Nat.zero_le _, fun i hi => by omega⟩ (by repeat (first | exact trivial | refine ⟨rfl, ?_⟩)) (by repeat (first | exact .nil | apply Pick.cons | exact .here | apply Ext.there)) ?_
    intro k
    intro hJ
    refine CW.seq ?_
    refine CW.seq ?_
    refine CW.region ?_
    refine LW.v rfl rfl (Val.move rfl) ?_
    refine LW.v rfl rfl (Val.move rfl) ?_
    refine LW.v rfl rfl (Val.lenSl rfl Tryd.underlying28) ?_
    refine LW.v rfl rfl (Val.cmp rfl rfl rfl) ?_
    refine LW.nil ?_
    refine PQ.seq ?_
    refine CW.cond rfl (fun h10 => ?_) (fun h10 => ?_)
    · replace h10 := bT h10
      obtain ⟨b, o, e, rfl, hb, he, hr⟩ := V.slAt_at h hn (k := k) (by omega)
      have hro := ho e (List.mem_of_getElem? he)
      refine CW.skip ?_
      refine PQ.seq ?_
      refine CW.seq ?_
      refine CW.block ?_
      refine CW.seq ?_
      refine CW.region ?_
      refine LW.v rfl rfl (Val.move rfl) ?_
      refine LW.v rfl rfl (Val.move rfl) ?_
      first | (refine LW.v rfl rfl (Val.indexAddrN rfl rfl Tryd.underlying28 Tryd.sizeOf44 (by omega)) ?_) | (refine LW.v rfl rfl (Val.indexAddr rfl rfl Tryd.underlying28 Tryd.sizeOf44 (by omega) (by omega)) ?_)
      refine LW.v rfl rfl (Val.fieldAddr 8 rfl Tryd.underlying44 rfl rfl Tryd.sizeOf42) ?_
      refine LW.v rfl rfl (Val.loadO rfl Tryd.isAgg42 hb (by simp [ids]) (hr k e he 8 _ rfl)) ?_
      refine LW.v rfl rfl (Val.lenSl rfl Tryd.underlying42) ?_
      refine LW.v rfl rfl (Val.cmp rfl rfl rfl) ?_
      refine LW.v rfl rfl (Val.move rfl) ?_
      refine LW.split (d := 20) rfl (fun h20 => ?_) (fun h20 => ?_)
      · replace h20 := bT h20
        refine LW.p rfl rfl ?_
        refine LW.p rfl rfl ?_
        refine LW.p rfl rfl ?_
        refine LW.p rfl rfl ?_
        refine LW.p rfl rfl ?_
        refine LW.p rfl rfl ?_
        refine LW.p rfl rfl ?_
        refine LW.p rfl rfl ?_
        refine LW.v rfl rfl (Val.pick_t rfl rfl) ?_
        refine LW.v rfl rfl (Val.move rfl) ?_
        refine LW.p rfl rfl ?_
        refine LW.p rfl rfl ?_
        refine LW.p rfl rfl ?_
        refine LW.p rfl rfl ?_
        refine LW.p rfl rfl ?_
        refine LW.p rfl rfl ?_
        refine LW.p rfl rfl ?_
        refine LW.v rfl rfl (Val.pick_t rfl rfl) ?_
        refine LW.nil ?_
        refine PQ.seq ?_
        refine CW.cond_t rfl ?_
        refine CW.seq ?_
        refine CW.region ?_
        refine LW.v rfl rfl (Val.assign rfl) ?_
        refine LW.nil ?_
        refine PQ.seq ?_
        refine CW.ret ?_
        refine PQ.in_ret ?_
        refine PQ.then_ret ?_
        refine PQ.then_ret ?_
        refine PQ.in_ret ?_
        refine PQ.then_ret ?_
        refine PQ.ret1 rfl rfl ?_
        intro w hw; exact ⟨_, (fun h => by first | (cases h; done) | exact ⟨by omega, fun e he => by obtain ⟨i, hi⟩ := List.getElem?_of_mem he; exact hJ.2 i (by have := (List.getElem?_eq_some_iff.1 hi).1; omega) e hi⟩), rfl, hw.below⟩
      · replace h20 := bF h20
        refine LW.v rfl rfl (Val.move rfl) ?_
        refine LW.v rfl rfl (Val.move rfl) ?_
        first | (refine LW.v rfl rfl (Val.indexAddrN rfl rfl Tryd.underlying28 Tryd.sizeOf44 (by omega)) ?_) | (refine LW.v rfl rfl (Val.indexAddr rfl rfl Tryd.underlying28 Tryd.sizeOf44 (by omega) (by omega)) ?_)
        refine LW.v rfl rfl (Val.fieldAddr 3 rfl Tryd.underlying44 rfl rfl Tryd.sizeOf41) ?_
        refine LW.v rfl rfl (Val.fieldAddr 4 rfl Tryd.underlying41 rfl rfl Tryd.sizeOf39) ?_
        refine LW.v rfl rfl (Val.loadO rfl Tryd.isAgg39 hb (by simp [ids]) (hr k e he 7 _ rfl)) ?_
        refine LW.v rfl rfl (Val.lenSl rfl Tryd.underlying39) ?_
        refine LW.v rfl rfl (Val.cmp rfl rfl rfl) ?_
        refine LW.v rfl rfl (Val.pick_f rfl rfl) ?_
        refine LW.v rfl rfl (Val.move rfl) ?_
        refine LW.split (d := 30) rfl (fun h30 => ?_) (fun h30 => ?_)
        · replace h30 := bT h30
          refine LW.p rfl rfl ?_
          refine LW.p rfl rfl ?_
          refine LW.p rfl rfl ?_
          refine LW.p rfl rfl ?_
          refine LW.p rfl rfl ?_
          refine LW.p rfl rfl ?_
          refine LW.p rfl rfl ?_
          refine LW.v rfl rfl (Val.pick_t rfl rfl) ?_
          refine LW.nil ?_
          refine PQ.seq ?_
          refine CW.cond_t rfl ?_
          refine CW.seq ?_
          refine CW.region ?_
          refine LW.v rfl rfl (Val.assign rfl) ?_
          refine LW.nil ?_
          refine PQ.seq ?_
          refine CW.ret ?_
          refine PQ.in_ret ?_
          refine PQ.then_ret ?_
          refine PQ.then_ret ?_
          refine PQ.in_ret ?_
          refine PQ.then_ret ?_
          refine PQ.ret1 rfl rfl ?_
          intro w hw; exact ⟨_, (fun h => by first | (cases h; done) | exact ⟨by omega, fun e he => by obtain ⟨i, hi⟩ := List.getElem?_of_mem he; exact hJ.2 i (by have := (List.getElem?_eq_some_iff.1 hi).1; omega) e hi⟩), rfl, hw.below⟩
        · replace h30 := bF h30
          refine LW.v rfl rfl (Val.move rfl) ?_
          refine LW.v rfl rfl (Val.move rfl) ?_
          first | (refine LW.v rfl rfl (Val.indexAddrN rfl rfl Tryd.underlying28 Tryd.sizeOf44 (by omega)) ?_) | (refine LW.v rfl rfl (Val.indexAddr rfl rfl Tryd.underlying28 Tryd.sizeOf44 (by omega) (by omega)) ?_)
          refine LW.v rfl rfl (Val.fieldAddr 3 rfl Tryd.underlying44 rfl rfl Tryd.sizeOf41) ?_
          refine LW.v rfl rfl (Val.loadOA (cs := e.call.cells) rfl Tryd.isAgg41 hb (by simp [ids]) (V.rangeAt_sub (hr k e he) 3 rfl) Tryd.sizeOf41) ?_
          refine LW.e rfl rfl (Eff.callR rfl Tryd.call35 (fun w hw => weight_c e.call (gr e) 2000 w (by omega) hro.gn.symm (hw.slAt hro.gs (by simp [ids])))) ?_
          intro z hz
          refine LW.v rfl rfl (Val.cmp rfl rfl rfl) ?_
          refine LW.v rfl rfl (Val.pick_f rfl rfl) ?_
          refine LW.nil ?_
          refine PQ.seq ?_
          refine CW.cond rfl (fun h38 => ?_) (fun h38 => ?_)
          · replace h38 := bT h38
            refine CW.seq ?_
            refine CW.region ?_
            refine LW.v rfl rfl (Val.assign rfl) ?_
            refine LW.nil ?_
            refine PQ.seq ?_
            refine CW.ret ?_
            refine PQ.in_ret ?_
            refine PQ.then_ret ?_
            refine PQ.then_ret ?_
            refine PQ.in_ret ?_
            refine PQ.then_ret ?_
            refine PQ.ret1 rfl rfl ?_
            intro w hw; exact ⟨_, (fun h => by first | (cases h; done) | exact ⟨by omega, fun e he => by obtain ⟨i, hi⟩ := List.getElem?_of_mem he; exact hJ.2 i (by have := (List.getElem?_eq_some_iff.1 hi).1; omega) e hi⟩), rfl, hw.below⟩
          · replace h38 := bF h38
            refine CW.skip ?_
            refine PQ.in_normal ?_
            refine PQ.seq ?_
            refine CW.region ?_
            refine LW.v rfl rfl (Val.move rfl) ?_
            refine LW.v rfl rfl (Val.ar rfl rfl rfl (IntWalk.i64_in _ (by omega))) ?_
            refine LW.v rfl rfl (Val.assign rfl) ?_
            refine LW.nil ?_
            refine PQ.round (k + 1) ⟨by omega, fun i hi y hy => by
              by_cases e1 : i = k
              · subst e1; rw [he] at hy; cases hy
                have h8 := hz (by omega)
                have h9 := hro.gn
                exact ⟨by omega, by omega, h8.1.2, h8.2.1, h8.2.2⟩
              · exact hJ.2 i (by omega) y hy⟩ (by omega) (by repeat (first | exact trivial | refine ⟨rfl, ?_⟩)) (by repeat (first | exact .nil | apply Pick.cons | exact .here | apply Ext.there))
    · replace h10 := bF h10
      refine CW.exit ?_
      refine PQ.then_exit ?_
      refine PQ.then_exit ?_
      refine PQ.in_here ?_
      refine PQ.seq ?_
      refine CW.seq ?_
      refine CW.region ?_
      refine LW.v rfl rfl (Val.assign rfl) ?_
      refine LW.nil ?_
      refine PQ.seq ?_
      refine CW.ret ?_
      refine PQ.ret1 rfl rfl ?_
      intro w hw; exact ⟨_, (fun h => by first | (cases h; done) | exact ⟨by omega, fun e he => by obtain ⟨i, hi⟩ := List.getElem?_of_mem he; exact hJ.2 i (by have := (List.getElem?_eq_some_iff.1 hi).1; omega) e hi⟩), rfl, hw.below⟩
theorem copyCall_c (c : Cq) (gl : List Cq) (hg : c.grp.n = gl.length) (hl : gl.length ≤ 1000) (w : World) (h : V.slAt w c.grp.a 5 Cq.cells gl) : Calls Tryd.prog 36 [.agg c.cells.toArray].toArray w fun e w' => ∃ o : V.OwnO, ownOk 5 gl.length (gl.flatMap Cq.cells) o ∧ e = .returned (.agg (c.re (ownSl gl.length o)).cells.toArray) ∧ Hp ⟨w, []⟩ [ownG 41 (gl.flatMap Cq.cells) o] w' := by
  refine V.calls [] Tryd.func36 rfl Tryd.ntmps36 (Nat.le_of_ble_eq_true rfl) (V.sat_nil _) ?_
  refine CW.seq ?_
  refine CW.region ?_
  refine LW.e rfl rfl (Eff.boxA rfl) ?_
  intro b1 _
  refine LW.e rfl rfl (Eff.allocA (by exact Tryd.zeroValue41)) ?_
  intro b2 _
  refine LW.nil ?_
  refine PQ.seq ?_
  refine CW.seq ?_
  refine CW.region ?_
  refine LW.v rfl rfl (Val.fieldAddr 4 rfl Tryd.underlying41 rfl rfl Tryd.sizeOf39) ?_
  refine LW.v rfl rfl (Val.load (v := .slice c.grp.a gl.length c.grp.c) rfl Tryd.isAgg39 (by repeat (first | exact .here | refine .there ?_)) (by rw [← hg]; rfl)) ?_
  refine LW.e rfl rfl (Eff.appendAny (gl.flatMap Cq.cells) (sz := 5) (bytes := 80) (z := .agg #[.int .i64 0, .string ⟨#[]⟩, .string ⟨#[]⟩, .string ⟨#[]⟩, .slice none 0 0]) (xs := []) (m0 := 0) (o := none) (m := gl.length) (pk := []) rfl rfl Tryd.underlying39 (by kernel_rfl) rfl (by omega) .nil rfl ⟨rfl, rfl⟩ (V.flatMap_len cq_len _) (fun hm0 => by
    obtain ⟨b, o, x, hp, hb, hx, hr⟩ := V.slAt_at h rfl (k := 0) (by omega)
    exact ⟨b, o, hp, fun w' hw' => range_flat (enc := Cq.cells) cq_len (fun i y hy => by
      rcases hw'.slAt h (by simp [ids]) with h0 | ⟨b2, o2, hp2, _, hr2⟩
      · rw [h0] at hy; simp at hy
      · rw [hp] at hp2; cases hp2; exact hr2 i y hy)⟩) (all_one cq_one _) (by omega) (by omega)) ?_
  intro o2 ho2
  have h2 : ownOk 5 gl.length (gl.flatMap Cq.cells) o2 := by simpa using ho2
  rw [List.nil_append, Nat.zero_add]
  refine LW.v rfl rfl (Val.fieldAddr 4 rfl Tryd.underlying41 rfl rfl Tryd.sizeOf39) ?_
  refine LW.eN rfl (Eff.store rfl rfl (V.ownV_one _ _) (by repeat (first | exact .here | apply Upd.there)) (by rfl) (by rfl) Tryd.sizeOf39) ?_
  intro _ _
  refine LW.nil ?_
  refine PQ.seq ?_
  refine CW.seq ?_
  refine CW.region ?_
  first | (refine LW.v rfl rfl (Val.loadW rfl Tryd.isAgg41 (by repeat (first | exact .here | refine .there ?_)) (by exact Tryd.sizeOf41)) ?_) | (refine LW.v rfl rfl (Val.loadA [_, _, _, _, _] rfl Tryd.isAgg41 (by repeat (first | exact .here | refine .there ?_)) (by rfl) Tryd.sizeOf41) ?_)
  refine LW.eN rfl (Eff.storeW rfl rfl (by repeat (first | exact .here | apply Upd.there)) (by rfl) Tryd.sizeOf41 (by simp only [ownSl_v]; rfl)) ?_
  intro _ _
  refine LW.nil ?_
  refine PQ.seq ?_
  refine CW.ret ?_
  refine V.PQ.retC rfl rfl (by repeat (first | exact .here | refine .there ?_)) Tryd.isAgg41 (by exact Tryd.sizeOf41) ?_
  intro w' hw; exact ⟨o2, h2, by rw [ownSl_v]; rfl, hw.pick (by repeat (first | exact .nil | apply Pick.cons | exact .here | apply Ext.there))⟩
/-- e' is a copy of e. -/
def CpE (w : World) (e e' : Evq) (gl : List Cq) (kl : List Int) : Prop := ∃ g k, e' = e.re g k ∧ EvR w e' gl kl
def CpL (w : World) (gr : Evq → List Cq) (kr : Evq → List Int) (l l' : List Evq) : Prop := l'.length = l.length ∧ ∀ (i : Nat) (e e' : Evq), l[i]? = some e → l'[i]? = some e' → CpE w e e' (gr e) (kr e)
theorem CpL.snoc {w : World} {gr : Evq → List Cq} {kr : Evq → List Int} {l l' : List Evq} {e e' : Evq} (h : CpL w gr kr l l') (h' : CpE w e e' (gr e) (kr e)) : CpL w gr kr (l ++ [e]) (l' ++ [e']) := ⟨by simp [h.1], fun i a b ha hb => by
  by_cases hi : i < l.length
  · rw [List.getElem?_append_left hi] at ha
    rw [List.getElem?_append_left (by have := h.1; omega)] at hb
    exact h.2 i a b ha hb
  · rw [List.getElem?_append_right (by omega)] at ha
    rw [List.getElem?_append_right (by have := h.1; omega), h.1] at hb
    cases hq : i - l.length with
    | zero => rw [hq] at ha hb; simp at ha hb; subst ha; subst hb; exact h'
    | succ m => rw [hq] at ha; simp at ha⟩
def Shp (l l' : List Evq) : Prop := ∀ (i : Nat) (e e' : Evq), l[i]? = some e → l'[i]? = some e' → ∃ g k, e' = e.re g k
theorem Shp.snoc {l l' : List Evq} {e : Evq} (g k : Sl) (hl : l'.length = l.length) (h : Shp l l') : Shp (l ++ [e]) (l' ++ [e.re g k]) := fun i a b ha hb => by
  by_cases hi : i < l.length
  · rw [List.getElem?_append_left hi] at ha
    rw [List.getElem?_append_left (by omega)] at hb
    exact h i a b ha hb
  · rw [List.getElem?_append_right (by omega)] at ha
    rw [List.getElem?_append_right (by omega), hl] at hb
    cases hq : i - l.length with
    | zero => rw [hq] at ha hb; simp at ha hb; subst ha; subst hb; exact ⟨g, k, rfl⟩
    | succ m => rw [hq] at ha; simp at ha
theorem copyEvents_c (gr : Evq → List Cq) (kr : Evq → List Int) (p : Option Addr) (n cap : Nat) (l : List Evq) (w : World) (hn : l.length = n) (h : V.slAt w p 9 Evq.cells l) (hm : n ≤ 100) (ho : ∀ e ∈ l, EvR w e (gr e) (kr e)) (hS : ∀ e ∈ l, EvS e (gr e)) : Calls Tryd.prog 17 [.slice p n cap].toArray w
    fun e' w' => ∃ y : V.OwnO × List Evq × V.Seg, (ownOk 9 y.2.1.length (y.2.1.flatMap Evq.cells) y.1 ∧ (∀ w, Sat [y.2.2] w → CpL w gr kr l y.2.1) ∧ y.2.1.length = l.length ∧ Shp l y.2.1) ∧ e' = .returned (ownV y.2.1.length y.1) ∧ Hp ⟨w, []⟩ [ownG 44 (y.2.1.flatMap Evq.cells) y.1, y.2.2] w' := by
  refine V.calls [] Tryd.func17 rfl Tryd.ntmps17 (Nat.le_of_ble_eq_true rfl) (V.sat_nil _) ?_
  refine CW.seq ?_
  refine CW.region ?_
  refine LW.v rfl rfl (Val.assign rfl) ?_
  refine LW.nil ?_
  refine PQ.seq ?_
  refine CW.seq ?_
  refine CW.region ?_
  refine LW.v rfl rfl (Val.assign rfl) ?_
  refine LW.nil ?_
  refine PQ.seq ?_
  refine CW.seq ?_
  refine CW.seq ?_
  refine CW.region ?_
  refine LW.v rfl rfl (Val.assign rfl) ?_
  refine LW.nil ?_
  refine PQ.seq ?_
  refine CW.block ?_
  refine V.CW.perm (sg' := [ownG 44 (([] : List Evq).flatMap Evq.cells) none, []]) ?_ (.refl _)
  refine CW.loop (γ := Nat × V.OwnO × List Evq × V.Seg) (fun k => [(0, .slice p n cap), (3, ownV k.2.2.1.length k.2.1), (4, .int .i64 (k.1 : Nat))]) (fun k => [ownG 44 (k.2.2.1.flatMap Evq.cells) k.2.1, k.2.2.2]) (fun k => k.1 ≤ n ∧ ownOk 9 k.2.2.1.length (k.2.2.1.flatMap Evq.cells) k.2.1 ∧ k.2.2.1.length = k.1 ∧ Shp (l.take k.1) k.2.2.1 ∧ ∀ w, Sat [k.2.2.2] w → CpL w gr kr (l.take k.1) k.2.2.1) (fun k => n - k.1) ((0, none, [], [])) ⟨Nat.zero_le _, ⟨rfl, rfl⟩, rfl, fun i e e' he => by simp at he, fun w _ => ⟨rfl, fun i e e' he => by simp at he⟩⟩ (by repeat (first | exact trivial | refine ⟨rfl, ?_⟩)) (by repeat (first | exact .nil | apply Pick.cons | exact .here | apply Ext.there)) ?_
  intro k
  rintro ⟨hk1, hk2, hk3, hkS, hk4⟩
  refine CW.seq ?_
  refine CW.seq ?_
  refine CW.region ?_
  refine LW.v rfl rfl (Val.move rfl) ?_
  refine LW.v rfl rfl (Val.move rfl) ?_
  refine LW.v rfl rfl (Val.lenSl rfl Tryd.underlying28) ?_
  refine LW.v rfl rfl (Val.cmp rfl rfl rfl) ?_
  refine LW.nil ?_
  refine PQ.seq ?_
  refine CW.cond rfl (fun h9 => ?_) (fun h9 => ?_)
  · replace h9 := bT h9
    obtain ⟨b, o, e, rfl, hb, he, hr⟩ := V.slAt_at h hn (k := k.1) (by omega)
    have hro := ho e (List.mem_of_getElem? he)
    have hSe := hS e (List.mem_of_getElem? he)
    have hkl := hSe.1
    have hkn := hro.kn
    have hks := hro.ks
    have hTk : l.take (k.1 + 1) = l.take k.1 ++ [e] := by rw [List.take_add_one, he]; rfl
    refine CW.skip ?_
    refine PQ.seq ?_
    refine CW.seq ?_
    refine CW.block ?_
    refine CW.seq ?_
    refine CW.region ?_
    refine LW.v rfl rfl (Val.move rfl) ?_
    refine LW.v rfl rfl (Val.move rfl) ?_
    first | (refine LW.v rfl rfl (Val.indexAddrN rfl rfl Tryd.underlying28 Tryd.sizeOf44 (by omega)) ?_) | (refine LW.v rfl rfl (Val.indexAddr rfl rfl Tryd.underlying28 Tryd.sizeOf44 (by omega) (by omega)) ?_)
    refine LW.v rfl rfl (Val.loadOA rfl Tryd.isAgg44 hb (by simp [ids]) (hr _ _ he) Tryd.sizeOf44) ?_
    refine LW.e rfl rfl (Eff.allocA (by exact Tryd.zeroValue44)) ?_
    intro b5 _
    first | (refine LW.eN rfl (Eff.storeW rfl rfl (by repeat (first | exact .here | apply Upd.there)) (by rfl) Tryd.sizeOf44 (by rfl)) ?_) | (refine LW.eN rfl (Eff.storeA (l' := _) rfl rfl (by repeat (first | exact .here | apply Upd.there)) (by rfl) (by decide) Tryd.sizeOf44 (by rfl)) ?_)
    intro _ _
    refine LW.nil ?_
    refine PQ.seq ?_
    refine CW.seq ?_
    refine CW.region ?_
    refine LW.v rfl rfl (Val.fieldAddr 3 rfl Tryd.underlying44 rfl rfl Tryd.sizeOf41) ?_
    refine LW.v rfl rfl (Val.loadA e.call.cells (r := [.slice e.keep.a e.keep.n e.keep.c]) rfl Tryd.isAgg41 (by repeat (first | exact .here | refine .there ?_)) (by rfl) Tryd.sizeOf41) ?_
    refine LW.e rfl rfl (Eff.callM ([]) .nil rfl Tryd.call36 (fun w hw hs => copyCall_c e.call (gr e) hro.gn (by have := hSe.2.1; omega) w (hw.slAt hro.gs (by simp [ids])))) ?_
    intro o1 ho1
    refine LW.v rfl rfl (Val.fieldAddr 3 rfl Tryd.underlying44 rfl rfl Tryd.sizeOf41) ?_
    refine LW.eN rfl (Eff.storeA (l' := [.int .i64 e.kind, .int .i64 e.th, .int .i64 e.ln, .int .i64 e.call.ck, str e.call.key, str e.call.val, str e.call.to, .slice (ownSl (gr e).length o1).a (ownSl (gr e).length o1).n (ownSl (gr e).length o1).c, .slice e.keep.a e.keep.n e.keep.c]) rfl rfl (by repeat (first | exact .here | apply Upd.there)) (by rfl) (Nat.le_of_ble_eq_true rfl) Tryd.sizeOf41 (by rfl)) ?_
    intro _ _
    refine LW.nil ?_
    refine PQ.seq ?_
    refine CW.seq ?_
    refine CW.region ?_
    refine LW.v rfl rfl (Val.fieldAddr 8 rfl Tryd.underlying44 rfl rfl Tryd.sizeOf42) ?_
    refine LW.v rfl rfl (Val.load (v := .slice e.keep.a (kr e).length e.keep.c) rfl Tryd.isAgg42 (by repeat (first | exact .here | refine .there ?_)) (by rw [hkn]; rfl)) ?_
    refine LW.e rfl rfl (Eff.appendAny ((kr e).flatMap intC) (sz := 1) (bytes := 8) (z := .int .i64 0) (xs := []) (m0 := 0) (o := none) (m := (kr e).length) (pk := []) rfl rfl Tryd.underlying42 (by kernel_rfl) rfl (by omega) .nil rfl ⟨rfl, rfl⟩ (V.flatMap_len int_len _) (fun hm0 => by
      obtain ⟨b, o, x, hp, hb, hx, hr⟩ := V.slAt_at hks rfl (k := 0) (by omega)
      exact ⟨b, o, hp, fun w' hw' => range_flat (enc := intC) int_len (fun i y hy => by
        rcases hw'.slAt hks (by simp [ids]) with h0 | ⟨b2, o2, hp2, _, hr2⟩
        · rw [h0] at hy; simp at hy
        · rw [hp] at hp2; cases hp2; exact hr2 i y hy)⟩) (all_one int_one _) (by omega) (by omega)) ?_
    intro o2 ho2
    have h2 : ownOk 1 (kr e).length ((kr e).flatMap intC) o2 := by simpa using ho2
    rw [List.nil_append, Nat.zero_add]
    refine LW.v rfl rfl (Val.fieldAddr 8 rfl Tryd.underlying44 rfl rfl Tryd.sizeOf42) ?_
    refine LW.eN rfl (Eff.store (l' := (e.re (ownSl (gr e).length o1) (ownSl (kr e).length o2)).cells) rfl rfl (V.ownV_one _ _) (by repeat (first | exact .here | apply Upd.there)) (by rw [ownSl_v]; rfl) (by rfl) Tryd.sizeOf42) ?_
    intro _ _
    refine LW.nil ?_
    refine PQ.seq ?_
    refine CW.region ?_
    refine LW.v rfl rfl (Val.move rfl) ?_
    refine LW.v rfl rfl (Val.loadW rfl Tryd.isAgg44 (by repeat (first | exact .here | refine .there ?_)) (by exact Tryd.sizeOf44)) ?_
    refine LW.e rfl rfl (Eff.buildSlice (rfl) [_, _, _, _, _, _, _, _, _] Tryd.underlying28 Tryd.sizeOf44 (by exact Tryd.zeroValue44) rfl rfl rfl rfl (by rfl)) ?_
    intro b26 _
    refine LW.e rfl rfl (Eff.appendAny ((e.re (ownSl (gr e).length o1) (ownSl (kr e).length o2)).cells) (sz := 9) (bytes := 128) (z := .agg #[.int .i64 0, .int .i64 0, .int .i64 0, .int .i64 0, .string ⟨#[]⟩, .string ⟨#[]⟩, .string ⟨#[]⟩, .slice none 0 0, .slice none 0 0]) (xs := k.2.2.1.flatMap Evq.cells) (m0 := k.2.2.1.length) (o := k.2.1) (m := 1) (pk := [ownG 44 (k.2.2.1.flatMap Evq.cells) k.2.1]) rfl rfl Tryd.underlying28 (by kernel_rfl) rfl (by omega) (by repeat (first | exact .nil | apply Pick.cons | exact .here | apply Ext.there)) (by simp) hk2 (by rfl) (fun hm0 => ⟨b26, 0, rfl, fun w hw => V.range_of_block (o := 0) (cs := (e.re (ownSl (gr e).length o1) (ownSl (kr e).length o2)).cells) (r := []) (hw.own _ (show InS (b26, .cells ((e.re (ownSl (gr e).length o1) (ownSl (kr e).length o2)).cells).toArray 44 (0, 0)) _ from (by repeat (first | exact .here | refine .there ?_))).mem) rfl⟩) (by rfl) (by omega) (by omega)) ?_
    intro o9 ho9
    refine LW.v rfl rfl (Val.assign rfl) ?_
    refine LW.nil ?_
    refine PQ.in_normal ?_
    refine PQ.seq ?_
    refine CW.region ?_
    refine LW.v rfl rfl (Val.move rfl) ?_
    refine LW.v rfl rfl (Val.ar rfl rfl rfl (IntWalk.i64_in _ (by omega))) ?_
    refine LW.v rfl rfl (Val.assign rfl) ?_
    refine LW.nil ?_
    refine PQ.segs (ss := [ownG 44 (k.2.2.1.flatMap Evq.cells ++ (e.re (ownSl (gr e).length o1) (ownSl (kr e).length o2)).cells) o9, k.2.2.2, ownG 41 ((gr e).flatMap Cq.cells) o1, ownG 3 ((kr e).flatMap intC) o2]) ?_ (by repeat (first | exact .nil | apply Pick.cons | exact .here | apply Ext.there))
    refine PQ.perm (sg' := [ownG 44 (k.2.2.1.flatMap Evq.cells ++ (e.re (ownSl (gr e).length o1) (ownSl (kr e).length o2)).cells) o9, k.2.2.2 ++ (ownG 41 ((gr e).flatMap Cq.cells) o1 ++ ownG 3 ((kr e).flatMap intC) o2)]) ?_ (by simp)
    rw [← flat_snoc]
    refine PQ.round ((k.1 + 1, o9, k.2.2.1 ++ [(e.re (ownSl (gr e).length o1) (ownSl (kr e).length o2))], k.2.2.2 ++ (ownG 41 ((gr e).flatMap Cq.cells) o1 ++ ownG 3 ((kr e).flatMap intC) o2))) ⟨by simp only; omega, by have := ho9; simp only [flat_snoc, List.length_append]; exact this, by simp only [List.length_append, List.length_cons, List.length_nil]; omega, by simp only; rw [hTk]; exact hkS.snoc _ _ (by rw [hk3, List.length_take]; omega), fun w hw => by
      simp only
      rw [hTk]
      exact (hk4 w (sat_l hw)).snoc ⟨_, _, rfl, ⟨ownSl_n ho1, ownSl_at cq_len ho1 (sat_l (sat_r hw)), (ownSl_n h2).symm, ownSl_at int_len h2 (sat_r (sat_r hw))⟩⟩⟩ (by simp only; omega) (by exact ⟨rfl, by simp only [List.length_append]; rfl, rfl, trivial⟩) (by repeat (first | exact .nil | apply Pick.cons | exact .here | apply Ext.there))
  · replace h9 := bF h9
    refine CW.exit ?_
    refine PQ.then_exit ?_
    refine PQ.then_exit ?_
    refine PQ.in_here ?_
    refine PQ.seq ?_
    refine CW.seq ?_
    refine CW.region ?_
    refine LW.v rfl rfl (Val.move rfl) ?_
    refine LW.v rfl rfl (Val.assign rfl) ?_
    refine LW.nil ?_
    refine PQ.seq ?_
    refine CW.ret ?_
    refine PQ.ret1 rfl rfl ?_
    intro w' hw
    have h9 : l.take k.1 = l := List.take_of_length_le (by omega)
    rw [h9] at hk4 hkS
    exact ⟨(k.2.1, k.2.2.1, k.2.2.2), ⟨hk2, hk4, by simp only; omega, hkS⟩, rfl, hw⟩
end Go.Proofs.YtagliemeolngiaaDoor
