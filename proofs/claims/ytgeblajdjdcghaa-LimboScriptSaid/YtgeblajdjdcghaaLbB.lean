/- find, Ready: what they do to a symbolic state. -/
import Derived.Test.YtgeblajdjdcghaaLbA
import Derived.Lib.Hide
namespace Go.Proofs.Ytgeblajdjdcghaa
open Go Go.RowKit V
set_option linter.unusedVariables false
set_option maxRecDepth 100000
def rdy (rl : List Int) (du : Int) (x : En) : Bool := decide (x.d ≤ du) && quF rl x.r
def findI (p : En → Bool) : List En → Nat → Int
  | [], _ => -1
  | e :: r, i => if p e then (i : Int) else findI p r (i + 1)
def findF (rl : List Int) (du : Int) (l : List En) : Int := findI (rdy rl du) l 0
theorem findI_none (p : En → Bool) : ∀ (l : List En) (i : Nat), (∀ x ∈ l, p x = false) → findI p l i = -1
  | [], _, _ => rfl
  | e :: r, i, h => by simp only [findI, h e (by simp), Bool.false_eq_true, if_false]; exact findI_none p r (i + 1) fun x hx => h x (by simp [hx])
theorem findI_some (p : En → Bool) : ∀ (l : List En) (i k : Nat) (x : En), (∀ y ∈ l.take k, p y = false) → l[k]? = some x → p x = true → findI p l i = ((i + k : Nat) : Int)
  | [], _, _, _, _, h, _ => by simp at h
  | e :: r, i, 0, x, _, h, hx => by simp at h; subst h; simp [findI, hx]
  | e :: r, i, k + 1, x, h0, h, hx => by
    simp only [findI, h0 e (by simp), Bool.false_eq_true, if_false]
    rw [findI_some p r (i + 1) k x (fun y hy => h0 y (by simp [hy])) (by simpa using h) hx]
    congr 1; omega
theorem findI_spec (p : En → Bool) : ∀ (l : List En) (i : Nat), (findI p l i = -1 ∧ ∀ x ∈ l, p x = false) ∨ ∃ k x, findI p l i = ((i + k : Nat) : Int) ∧ l[k]? = some x ∧ p x = true ∧ ∀ y ∈ l.take k, p y = false
  | [], i => .inl ⟨rfl, by simp⟩
  | e :: r, i => by
    cases he : p e
    · rcases findI_spec p r (i + 1) with ⟨h1, h2⟩ | ⟨k, x, h1, h2, h3, h4⟩
      · exact .inl ⟨by simp [findI, he, h1], by simpa [he] using h2⟩
      · refine .inr ⟨k + 1, x, ?_, by simpa using h2, h3, by simpa [he] using h4⟩
        simp only [findI, he, Bool.false_eq_true, if_false, h1]
        congr 1; omega
    · exact .inr ⟨0, e, by simp [findI, he], rfl, he, by simp⟩
def fPp (rl : List Int) (du : Int) (pre : List (Int × En)) : Prop := ∀ z ∈ pre, rdy rl du z.2 = false
def fPx (rl : List Int) (du : Int) (pre : List (Int × En)) : Prop := ∃ init z, pre = init ++ [z] ∧ fPp rl du init ∧ rdy rl du z.2 = true
def lastI (pre : List (Int × En)) : Int := (pre.getLast?.map (·.1)).getD 0
theorem lastI_snoc (pre : List (Int × En)) (x : Int × En) : lastI (pre ++ [x]) = x.1 := by simp [lastI]
theorem fPp_snoc {rl : List Int} {du : Int} {pre : List (Int × En)} {x : Int × En} (h : fPp rl du pre) (hx : rdy rl du x.2 = false) : fPp rl du (pre ++ [x]) := fun z hz => by
  simp only [List.mem_append, List.mem_singleton] at hz
  rcases hz with hz | rfl
  · exact h z hz
  · exact hx
theorem fPp_all {rl : List Int} {du : Int} {l : List En} (h : fPp rl du (enL l)) : findF rl du l = -1 := findI_none _ _ _ fun x hx => by
  obtain ⟨i, hi⟩ := List.mem_iff_getElem?.1 hx
  exact h _ (List.mem_of_getElem? (enL_at hi))
theorem fPx_find {rl : List Int} {du : Int} {l : List En} {pre : List (Int × En)} (hp : pre <+: enL l) (h : fPx rl du pre) : findF rl du l = lastI pre := by
  obtain ⟨init, z, rfl, h1, h2⟩ := h
  rw [lastI_snoc]
  obtain ⟨tl, ht⟩ := hp
  have hz : (enL l)[init.length]? = some z := by rw [← ht]; simp
  have hlen : init.length < l.length := by
    have := (List.getElem?_eq_some_iff.1 hz).1
    rwa [enL_length] at this
  have hx : l[init.length]? = some l[init.length] := List.getElem?_eq_getElem hlen
  have hz2 := enL_at hx
  rw [hz] at hz2
  have hz3 := Option.some.inj hz2
  rw [hz3]
  have := findI_some (rdy rl du) l 0 init.length l[init.length] (fun y hy => ?_) hx (by rw [hz3] at h2; exact h2)
  · simpa [findF] using this
  · obtain ⟨i, hi⟩ := List.mem_iff_getElem?.1 hy
    have hi2 : i < init.length := by
      have := (List.getElem?_eq_some_iff.1 hi).1
      simp at this; omega
    have hi3 : l[i]? = some y := by rw [List.getElem?_take_of_lt hi2] at hi; exact hi
    have h5 := enL_at hi3
    rw [← ht, List.append_assoc, List.getElem?_append_left hi2] at h5
    exact h1 _ (List.mem_of_getElem? h5)
theorem find_c (b : Nat) (o : Option (Nat × List Value × Nat)) (l : List En) (rb ra : Nat) (now : Int) (rl : List Int) (hk : bgOk o l) (hl : l.length ≤ 1000) (h0 : ∀ x ∈ rl, 0 ≤ x) (hm : rl.length ≤ 1000) (du : Int) (w : World) (hsb : Sat (bgG 124 b o l) w) (hsr : Sat (rdG rb ra now rl) w) : Calls Try.prog 67 [.pointer (some ⟨b, 0, none⟩), .pointer (some ⟨rb, 0, none⟩), .int .u64 du].toArray w fun e w' => e = .returned (.int .i64 (findF rl du l)) ∧ Below w.heap.size w w' := by
  refine V.callsM [] Try.func67 rfl Try.ntmps67 (Nat.le_of_ble_eq_true rfl) (V.sat_nil _) ?_
  refine CW.seq ?_
  refine CW.region ?_
  refine LW.e rfl rfl (Eff.boxS rfl rfl) ?_
  intro b4 _
  refine LW.e rfl rfl (Eff.boxS rfl rfl) ?_
  intro b5 _
  refine LW.e rfl rfl (Eff.allocS (v := .int .i64 0) rfl (by exact Try.zeroValue3)) ?_
  intro b6 _
  refine LW.nil ?_
  refine PQ.seq ?_
  refine CW.seq ?_
  refine CW.seq ?_
  refine CW.region ?_
  refine LW.v rfl rfl (Val.load rfl Try.isAgg49 (by repeat (first | exact .here | refine .there ?_)) (by rfl)) ?_
  refine LW.v rfl rfl (Val.eqP false rfl rfl Try.underlying49 (.inr ⟨rfl, rfl⟩)) ?_
  refine LW.nil ?_
  refine PQ.seq ?_
  refine CW.cond_f rfl ?_
  refine CW.skip ?_
  refine PQ.seq ?_
  refine CW.seq ?_
  refine CW.seq ?_
  refine CW.region ?_
  refine LW.v rfl rfl (Val.move rfl) ?_
  refine LW.e rfl rfl (Eff.callM ([]) (by repeat (first | exact .nil | apply Pick.cons | exact .here | apply Ext.there)) rfl Try.call80 (fun w hw hs => entries_c b w)) ?_
  intro cb _
  refine LW.nil ?_
  refine PQ.seq ?_
  refine CW.block ?_
  refine V.CW.rangeFunc (α := Int × En) eiV (fun xs => xs = enL l) (fun pre => pre <+: enL l) (fPp rl du) (fPx rl du) l.length (ids (itG cb b o l)) (fun pre => [[(b4, .cells [.pointer (some ⟨rb, 0, none⟩)].toArray 49 (0, 0))], [(b5, .cells [.int .u64 du].toArray 28 (0, 0))], [(b6, .cells [.int .i64 0].toArray 3 (0, 0))]]) (fun pre => [[(b4, .cells [.pointer (some ⟨rb, 0, none⟩)].toArray 49 (0, 0))], [(b5, .cells [.int .u64 du].toArray 28 (0, 0))], [(b6, .cells [.int .i64 (lastI pre)].toArray 3 (0, 0))]]) (fun x y => [(4, .pointer (some ⟨b4, 0, none⟩)), (5, .pointer (some ⟨b5, 0, none⟩)), (6, .pointer (some ⟨b6, 0, none⟩)), (7, .int .i64 x.1), (8, .pointer (some ⟨y, 0, none⟩))]) (fun x => .cells (enC x.2).toArray 80 (0, 0)) rfl Try.call83 (fun _ => rfl) rfl (fun w' hw => ent_stops cb b o l hk hl w' (by have h1 := hw.sat_old (sgC := [[(cb, .cells [.pointer (some ⟨b, 0, none⟩)].toArray 76 (0, 0))]]) (by repeat (first | exact .nil | apply Pick.cons | exact .here | apply Ext.there)) hsb; exact h1)) (fun w' hw => hw.apart (sgA := [[(b4, .cells [.pointer (some ⟨rb, 0, none⟩)].toArray 49 (0, 0))], [(b5, .cells [.int .u64 du].toArray 28 (0, 0))], [(b6, .cells [.int .i64 0].toArray 3 (0, 0))]]) (sgC := [[(cb, .cells [.pointer (some ⟨b, 0, none⟩)].toArray 76 (0, 0))]]) (by repeat (first | exact .nil | apply Pick.cons | exact .here | apply Ext.there)) hsb) (by repeat (first | exact .nil | apply Pick.cons | exact .here | apply Ext.there)) (fun _ => rfl) (fun _ => V.cellsOnly_of rfl) (fun _ => rfl) (fun _ => V.cellsOnly_of rfl) (fun _ => rfl) (fun _ h => by simp at h) ?_ ?_ ?_ ?_
  · intro lp pre x W hW
    refine CI.seq ?_
    refine CI.region ?_
    refine LI.v rfl rfl (Val.assign rfl) ?_
    refine LI.nil ?_
    first | refine PI.seq ?_ | refine PI.seqW ?_
    refine CI.region ?_
    refine LI.e rfl rfl (Eff.allocA (by exact Try.zeroValue80)) ?_
    intro b8 _
    first | (refine LI.eN rfl (Eff.storeW rfl rfl (by repeat (first | exact .here | apply Upd.there)) (by rfl) Try.sizeOf80 (by rfl)) ?_) | (refine LI.eN rfl (Eff.storeA (l' := _) rfl rfl (by repeat (first | exact .here | apply Upd.there)) (by rfl) (by decide) Try.sizeOf80 (by rfl)) ?_)
    intro _ _
    refine LI.nil ?_
    refine V.PI.assigned b8 (by repeat (first | exact trivial | refine ⟨rfl, ?_⟩)) (by repeat (first | exact .nil | apply Pick.cons | exact .here | apply Ext.there))
  · intro lp pre x y W hW hPp hlen
    refine CI.block ?_
    refine CI.seq ?_
    refine CI.region ?_
    refine LI.v rfl rfl (Val.fieldAddr 3 rfl Try.underlying80 rfl rfl Try.sizeOf28) ?_
    refine LI.v rfl rfl (Val.load rfl Try.isAgg28 (by repeat (first | exact .here | refine .there ?_)) (by rfl)) ?_
    refine LI.v rfl rfl (Val.load rfl Try.isAgg28 (by repeat (first | exact .here | refine .there ?_)) (by rfl)) ?_
    refine LI.v rfl rfl (Val.cmp rfl rfl rfl) ?_
    refine LI.v rfl rfl (Val.move rfl) ?_
    refine LI.split (d := 19) rfl (fun h19 => ?_) (fun h19 => ?_)
    · replace h19 := bT h19
      refine LI.v rfl rfl (Val.load rfl Try.isAgg49 (by repeat (first | exact .here | refine .there ?_)) (by rfl)) ?_
      refine LI.v rfl rfl (Val.fieldAddr 2 rfl Try.underlying80 rfl rfl Try.sizeOf28) ?_
      refine LI.v rfl rfl (Val.load rfl Try.isAgg28 (by repeat (first | exact .here | refine .there ?_)) (by rfl)) ?_
      refine LI.e rfl rfl (Eff.callV rfl Try.call38 (fun w hw => quiet_c rb ra now rl x.2.r w (hsr.away hW hw) hm h0)) ?_
      intro _ _
      refine LI.v rfl rfl (Val.pick_t rfl rfl) ?_
      refine LI.nil ?_
      first | refine PI.seq ?_ | refine PI.seqW ?_
      refine CI.cond rfl (fun h24 => ?_) (fun h24 => ?_)
      · replace h24 := bT h24
        refine CI.seq ?_
        refine CI.region ?_
        refine LI.v rfl rfl (Val.move rfl) ?_
        refine LI.eN rfl (Eff.store rfl rfl rfl (by repeat (first | exact .here | apply Upd.there)) (by rfl) (by rfl) Try.sizeOf3) ?_
        intro _ _
        refine LI.nil ?_
        first | refine PI.seq ?_ | refine PI.seqW ?_
        refine CI.ret ?_
        refine PI.in_ret ?_
        refine V.PI.rpx ⟨pre, x, rfl, hPp, by simp [rdy, h19, h24]⟩ (by simp only [lastI_snoc]; repeat (first | exact .nil | apply Pick.cons | exact .here | apply Ext.there))
      · replace h24 := bF h24
        refine CI.skip ?_
        refine PI.in_normal ?_
        refine V.PI.rp (fPp_snoc hPp (by simp [rdy, h24])) (by repeat (first | exact .nil | apply Pick.cons | exact .here | apply Ext.there))
    · replace h19 := bF h19
      refine LI.p rfl rfl ?_
      refine LI.p rfl rfl ?_
      refine LI.p rfl rfl ?_
      refine LI.p rfl rfl ?_
      refine LI.v rfl rfl (Val.pick_f rfl rfl) ?_
      refine LI.nil ?_
      first | refine PI.seq ?_ | refine PI.seqW ?_
      refine CI.cond_f rfl ?_
      refine CI.skip ?_
      refine PI.in_normal ?_
      refine V.PI.rp (fPp_snoc hPp (by unfold rdy; rw [decide_eq_false (by omega)]; rfl)) (by repeat (first | exact .nil | apply Pick.cons | exact .here | apply Ext.there))
  · rintro D xs rfl hP
    refine PI.in_normal ?_
    first | refine PI.seq ?_ | refine PI.seqW ?_
    refine CI.seq ?_
    refine CI.region ?_
    refine LI.eN rfl (Eff.store rfl rfl rfl (by repeat (first | exact .here | apply Upd.there)) (by rfl) (by rfl) Try.sizeOf3) ?_
    intro _ _
    refine LI.nil ?_
    first | refine PI.seq ?_ | refine PI.seqW ?_
    refine CI.ret ?_
    refine V.PI.retM (v := .int .i64 (-1)) (by repeat (first | exact .here | apply Upd.there)) (fun a w ha hw => V.results_c1 rfl ha hw rfl (by repeat (first | exact .here | refine .there ?_)) Try.isAgg3) ?_
    intro w' hw; exact ⟨by rw [fPp_all hP], hw.below⟩
  · intro D pre hS hP
    refine PI.in_ret ?_
    refine PI.then_ret ?_
    refine V.PI.retM (v := .int .i64 (lastI pre)) (by repeat (first | exact .here | apply Upd.there)) (fun a w ha hw => V.results_c1 rfl ha hw rfl (by repeat (first | exact .here | refine .there ?_)) Try.isAgg3) ?_
    intro w' hw; exact ⟨by rw [fPx_find hS hP], hw.below⟩
end Go.Proofs.Ytgeblajdjdcghaa
