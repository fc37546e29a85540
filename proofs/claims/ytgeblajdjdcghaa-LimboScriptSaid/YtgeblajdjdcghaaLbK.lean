/- LimboJoin: the walk of the law. -/
import Derived.Test.YtgeblajdjdcghaaLbJ
import Derived.Test.YtgeblajdjdcghaaLbO
import Derived.Lib.Hide
namespace Go.Proofs.Ytgeblajdjdcghaa
open Go Go.RowKit V
set_option linter.unusedVariables false
set_option maxRecDepth 100000
def bgQ (l : List En) (o : Option (Nat × List Value × Nat)) : Sg := [(bgA l o).flatten]
def ownP : Option (Nat × List Value × Nat) → Option Addr
  | none => none
  | some (g, _, _) => some ⟨g, 0, none⟩
def ownC : Option (Nat × List Value × Nat) → Nat
  | none => 0
  | some (_, _, c) => c
theorem bgV_form {o : Option (Nat × List Value × Nat)} {l : List En} (h : bgOk o l) : bgV l o = .slice (ownP o) l.length (ownC o) := by
  rcases o with _ | ⟨g, rest, cap⟩
  · have : l = [] := h
    subst this; rfl
  · rfl
theorem bg_some {o : Option (Nat × List Value × Nat)} {l : List En} (h : bgOk o l) (hl : 0 < l.length) : ∃ q, o = some q := by
  rcases o with _ | q
  · have : l = [] := h
    subst this; simp at hl
  · exact ⟨q, rfl⟩
theorem allP_c (b : Nat) (o : Option (Nat × List Value × Nat)) (l : List En) (hk : bgOk o l) (hl : l.length ≤ 1000) (w : World) (hs : Sat (bgP 124 b o l) w) : Calls Try.prog 48 [.pointer (some ⟨b, 0, none⟩)].toArray w fun e w' => ∃ y : Option (Nat × List Value × Nat), bgOk y l ∧ e = .returned (.slice (ownP y) l.length (ownC y)) ∧ Hp ⟨w, []⟩ (bgQ l y) w' :=
  (all_c b o l hk hl w (bgP_sat hs)).mono fun e w' ⟨y, h1, h2, h3⟩ => ⟨y, h1, by rw [h2, bgV_form h1], h3.perm (by simp [bgQ])⟩
theorem putF_len (x : En) (l : List En) (h : l.length ≤ 258) : (putF x l).1.length ≤ 258 := by
  unfold putF
  split
  · split
    · simp; omega
    · exact h
  · exact h
theorem pop_len {rl : List Int} {du : Int} {l l' : List En} {r : Option En} (h : PopR rl du l r l') : (r.isSome = true ∧ l'.length + 1 = l.length) ∨ (r.isSome = false ∧ l'.length = l.length) := by
  rcases h with ⟨rfl, rfl, _⟩ | ⟨A, x, C, rfl, rfl, rfl, _, _⟩
  · exact .inr ⟨rfl, rfl⟩
  · exact .inl ⟨rfl, by simp; omega⟩
theorem pop_first {rl : List Int} {du : Int} {l l' : List En} {r : Option En} (h : PopR rl du l r l') {j : Nat} {x : En} (hx : l[j]? = some x) (hr : rdy rl du x = true) (hb : ∀ y ∈ l.take j, rdy rl du y = false) : r = some x := by
  rcases h with ⟨_, _, h3⟩ | ⟨A, z, C, h1, h2, h3, h4, h5⟩
  · rw [h3 x (List.mem_of_getElem? hx)] at hr; cases hr
  · have hz : l[A.length]? = some z := by rw [h1]; simp
    rcases Nat.lt_trichotomy j A.length with hlt | he | hgt
    · have : x ∈ A := by
        rw [h1, List.getElem?_append_left hlt] at hx
        exact List.mem_of_getElem? hx
      rw [h5 x this] at hr; cases hr
    · rw [he, hz] at hx; rw [h2]; exact hx
    · have : z ∈ l.take j := List.mem_of_getElem? (i := A.length) (by rw [List.getElem?_take_of_lt hgt]; exact hz)
      rw [hb z this] at h4; cases h4
theorem pop_none {rl : List Int} {du : Int} {l l' : List En} {r : Option En} (h : PopR rl du l r l') (hb : ∀ y ∈ l, rdy rl du y = false) : r = none := by
  rcases h with ⟨h1, _, _⟩ | ⟨A, z, C, h1, h2, h3, h4, h5⟩
  · exact h1
  · rw [hb z (by rw [h1]; simp)] at h4; cases h4
theorem take_no {rl : List Int} {du : Int} {l : List En} {j : Nat} {x : En} (hx : l[j]? = some x) (hr : rdy rl du x = false) (hb : ∀ y ∈ l.take j, rdy rl du y = false) : ∀ y ∈ l.take (j + 1), rdy rl du y = false := fun y hy => by
  rw [← takeL hx] at hy
  simp only [List.mem_append, List.mem_singleton] at hy
  rcases hy with hy | rfl
  · exact hb y hy
  · exact hr
theorem limboJoin_c (p : Option Addr) (n cap : Nat) (acts : List Ac10) (w : World) (hn : acts.length = n) (h : V.slAt w p 8 Ac10.cells acts) : Calls Try.prog 14 [.slice p n cap].toArray w fun e w' => e = .returned (.bool true) ∧ Below w.heap.size w w' := by
  refine V.calls [] Try.func14 rfl Try.ntmps14 (Nat.le_of_ble_eq_true rfl) (V.sat_nil _) ?_
  refine CW.seq ?_
  refine CW.region ?_
  refine LW.v rfl rfl (Val.assign rfl) ?_
  refine LW.nil ?_
  refine PQ.seq ?_
  refine CW.seq ?_
  refine CW.seq ?_
  refine CW.region ?_
  refine LW.v rfl rfl (Val.move rfl) ?_
  refine LW.v rfl rfl (Val.lenSl rfl Try.underlying92) ?_
  refine LW.v rfl rfl (Val.cmp rfl rfl rfl) ?_
  refine LW.nil ?_
  refine PQ.seq ?_
  refine CW.cond rfl (fun h15 => ?_) (fun h15 => ?_)
  · replace h15 := bT h15
    refine CW.seq ?_
    refine CW.region ?_
    refine LW.e rfl rfl (Eff.callV rfl Try.call45 (fun w hw => awake10_c w)) ?_
    intro _ _
    refine LW.v rfl rfl (Val.assign rfl) ?_
    refine LW.nil ?_
    refine PQ.seq ?_
    refine CW.ret ?_
    refine PQ.then_ret ?_
    refine PQ.ret1 rfl rfl ?_
    intro w' hw; exact ⟨rfl, hw.below⟩
  · replace h15 := bF h15
    refine CW.skip ?_
    refine PQ.seq ?_
    refine CW.seq ?_
    refine CW.region ?_
    refine LW.e rfl rfl (Eff.callM ([]) (by repeat (first | exact .nil | apply Pick.cons | exact .here | apply Ext.there)) rfl Try.call41 (fun w hw hs0 => lnewP_c w)) ?_
    intro b _
    refine LW.v rfl rfl (Val.assign rfl) ?_
    refine LW.nil ?_
    refine PQ.seq ?_
    refine CW.seq ?_
    refine CW.region ?_
    refine LW.e rfl rfl (Eff.callM ([]) (by repeat (first | exact .nil | apply Pick.cons | exact .here | apply Ext.there)) rfl Try.call26 (fun w hw hs0 => new_c 4 w (by omega))) ?_
    rintro ⟨rb, ra⟩ _
    refine LW.v rfl rfl (Val.move rfl) ?_
    refine LW.v rfl rfl (Val.extract rfl rfl) ?_
    refine LW.v rfl rfl (Val.extract rfl rfl) ?_
    refine LW.v rfl rfl (Val.assign rfl) ?_
    refine LW.v rfl rfl (Val.assign rfl) ?_
    refine LW.nil ?_
    refine PQ.seq ?_
    refine CW.seq ?_
    refine CW.seq ?_
    refine CW.region ?_
    refine LW.v rfl rfl (Val.move rfl) ?_
    refine LW.v rfl rfl (Val.eqP false rfl rfl Try.underlying76 (.inr ⟨rfl, rfl⟩)) ?_
    refine LW.v rfl rfl (Val.move rfl) ?_
    refine LW.v rfl rfl (Val.move rfl) ?_
    refine LW.v rfl rfl (Val.cmp rfl rfl rfl) ?_
    refine LW.v rfl rfl (Val.pick_f rfl rfl) ?_
    refine LW.nil ?_
    refine PQ.seq ?_
    refine CW.cond_f rfl ?_
    refine CW.skip ?_
    refine PQ.seq ?_
    refine CW.seq ?_
    refine CW.seq ?_
    refine CW.region ?_
    refine LW.v rfl rfl (Val.assign rfl) ?_
    refine LW.nil ?_
    refine PQ.seq ?_
    refine CW.block ?_
    refine CW.loop (γ := Nat × Int × List Int × Option (Nat × List Value × Nat) × List En) (fun k => [(0, .slice p n cap), (3, .pointer (some ⟨b, 0, none⟩)), (4, .pointer (some ⟨rb, 0, none⟩)), (6, .int .i64 (k.1 : Nat))]) (fun k => bgP 124 b k.2.2.2.1 k.2.2.2.2 ++ rdG rb ra k.2.1 k.2.2.1) (fun k => k.1 ≤ n ∧ Inv8 4 k.1 k.2.1 k.2.2.1 ∧ bgOk k.2.2.2.1 k.2.2.2.2 ∧ k.2.2.2.2.length ≤ 258) (fun k => n - k.1) ((0, 1, List.replicate 4 0, none, [])) ⟨Nat.zero_le _, Inv8.start 4, rfl, by simp⟩ (by repeat (first | exact trivial | refine ⟨rfl, ?_⟩)) (by repeat (first | exact .nil | apply Pick.cons | exact .here | apply Ext.there)) ?_
    intro k
    rintro ⟨hkn, hI, hk, hl⟩
    refine CW.seq ?_
    refine CW.seq ?_
    refine CW.region ?_
    refine LW.v rfl rfl (Val.move rfl) ?_
    refine LW.v rfl rfl (Val.move rfl) ?_
    refine LW.v rfl rfl (Val.lenSl rfl Try.underlying92) ?_
    refine LW.v rfl rfl (Val.cmp rfl rfl rfl) ?_
    refine LW.nil ?_
    refine PQ.seq ?_
    refine CW.cond rfl (fun h31 => ?_) (fun h31 => ?_)
    · replace h31 := bT h31
      refine CW.skip ?_
      refine PQ.seq ?_
      refine CW.seq ?_
      refine CW.join (fun y : Int × List Int × Option (Nat × List Value × Nat) × List En => Inv8 4 (k.1 + 1) y.1 y.2.1 ∧ bgOk y.2.2.1 y.2.2.2 ∧ y.2.2.2.length ≤ 258) (fun y => [(0, .slice p n cap), (3, .pointer (some ⟨b, 0, none⟩)), (4, .pointer (some ⟨rb, 0, none⟩)), (6, .int .i64 (k.1 : Nat))]) (fun y => bgP 124 b y.2.2.1 y.2.2.2 ++ rdG rb ra y.1 y.2.1) ?_ ?_
      · refine CW.block ?_
        refine CW.seq ?_
        refine CW.region ?_
        refine LW.v rfl rfl (Val.move rfl) ?_
        obtain ⟨bb, oo, s, rfl, hb, hs, hh⟩ := V.slAt_at h hn (k := k.1) (by omega)
        refine LW.v rfl rfl (Val.move rfl) ?_
        first | (refine LW.v rfl rfl (Val.indexAddrN rfl rfl Try.underlying92 Try.sizeOf98 (by omega)) ?_) | (refine LW.v rfl rfl (Val.indexAddr rfl rfl Try.underlying92 Try.sizeOf98 (by omega) (by omega)) ?_)
        refine LW.v rfl rfl (Val.loadOA (cs := Ac10.cells s) rfl Try.isAgg98 hb (by simp [ids]) (hh k.1 s hs) (by exact Try.sizeOf98)) ?_
        refine LW.e rfl rfl (Eff.allocA (by exact Try.zeroValue98)) ?_
        intro b7 _
        first | (refine LW.eN rfl (Eff.storeW rfl rfl (by repeat (first | exact .here | apply Upd.there)) (by rfl) Try.sizeOf98 (by rfl)) ?_) | (refine LW.eN rfl (Eff.storeA (l' := _) rfl rfl (by repeat (first | exact .here | apply Upd.there)) (by rfl) (by decide) Try.sizeOf98 (by rfl)) ?_)
        intro _ _
        refine LW.nil ?_
        refine PQ.seq ?_
        refine CW.seq ?_
        refine CW.region ?_
        refine LW.v rfl rfl (Val.fieldAddr 0 rfl Try.underlying98 rfl rfl Try.sizeOf3) ?_
        refine LW.v rfl rfl (Val.load rfl Try.isAgg3 (by repeat (first | exact .here | refine .there ?_)) (by rfl)) ?_
        refine LW.nil ?_
        refine PQ.seq ?_
        refine CW.block ?_
        refine CW.seq ?_
        refine CW.region ?_
        refine LW.v rfl rfl (Val.cmp rfl rfl rfl) ?_
        refine LW.v rfl rfl (Val.assign rfl) ?_
        refine LW.nil ?_
        refine PQ.seq ?_
        refine CW.cond rfl (fun h40 => ?_) (fun h40 => ?_)
        · replace h40 := bT h40
          refine CW.region ?_
          refine LW.v rfl rfl (Val.move rfl) ?_
          refine LW.v rfl rfl (Val.fieldAddr 2 rfl Try.underlying98 rfl rfl Try.sizeOf80) ?_
          first | (refine LW.v rfl rfl (Val.loadW rfl Try.isAgg80 (by repeat (first | exact .here | refine .there ?_)) (by exact Try.sizeOf80)) ?_) | (refine LW.v rfl rfl (Val.loadA [_, _, _, _, _] rfl Try.isAgg80 (by repeat (first | exact .here | refine .there ?_)) (by rfl) Try.sizeOf80) ?_)
          refine LW.e rfl rfl (Eff.callM (bgP 124 b k.2.2.2.1 k.2.2.2.2) (by repeat (first | exact .nil | apply Pick.cons | exact .here | apply Ext.there)) rfl Try.call42 (fun w hw hs0 => putP_c b k.2.2.2.1 k.2.2.2.2 hk (by omega) s.e w hs0)) ?_
          intro o2 ho2
          refine LW.nil ?_
          refine PQ.in_normal ?_
          refine PQ.in_normal ?_
          refine PQ.joinedC ((k.2.1, k.2.2.1, o2, (putF s.e k.2.2.2.2).1)) (⟨hI.id, ho2, putF_len _ _ hl⟩) (by repeat (first | exact trivial | refine ⟨rfl, ?_⟩)) (by repeat (first | exact .nil | apply Pick.cons | exact .here | apply Ext.there))
        · replace h40 := bF h40
          refine CW.seq ?_
          refine CW.region ?_
          refine LW.v rfl rfl (Val.cmp rfl rfl rfl) ?_
          refine LW.v rfl rfl (Val.assign rfl) ?_
          refine LW.nil ?_
          refine PQ.seq ?_
          refine CW.cond rfl (fun h46 => ?_) (fun h46 => ?_)
          · replace h46 := bT h46
            refine CW.region ?_
            refine LW.v rfl rfl (Val.move rfl) ?_
            refine LW.v rfl rfl (Val.fieldAddr 1 rfl Try.underlying98 rfl rfl Try.sizeOf3) ?_
            refine LW.v rfl rfl (Val.load rfl Try.isAgg3 (by repeat (first | exact .here | refine .there ?_)) (by rfl)) ?_
            refine LW.e rfl rfl (Eff.callM (rdG rb ra k.2.1 k.2.2.1) (by repeat (first | exact .nil | apply Pick.cons | exact .here | apply Ext.there)) rfl Try.call29 (fun w hw hs0 => enter_c rb ra k.2.1 k.2.2.1 s.t w hs0)) ?_
            intro _ _
            refine LW.nil ?_
            refine PQ.in_normal ?_
            refine PQ.in_normal ?_
            refine PQ.joinedC ((k.2.1, (enF k.2.1 k.2.2.1 s.t).1, k.2.2.2.1, k.2.2.2.2)) (⟨hI.en _, hk, hl⟩) (by repeat (first | exact trivial | refine ⟨rfl, ?_⟩)) (by repeat (first | exact .nil | apply Pick.cons | exact .here | apply Ext.there))
          · replace h46 := bF h46
            refine CW.seq ?_
            refine CW.region ?_
            refine LW.v rfl rfl (Val.cmp rfl rfl rfl) ?_
            refine LW.v rfl rfl (Val.assign rfl) ?_
            refine LW.nil ?_
            refine PQ.seq ?_
            refine CW.cond rfl (fun h52 => ?_) (fun h52 => ?_)
            · replace h52 := bT h52
              refine CW.region ?_
              refine LW.v rfl rfl (Val.move rfl) ?_
              refine LW.v rfl rfl (Val.fieldAddr 1 rfl Try.underlying98 rfl rfl Try.sizeOf3) ?_
              refine LW.v rfl rfl (Val.load rfl Try.isAgg3 (by repeat (first | exact .here | refine .there ?_)) (by rfl)) ?_
              refine LW.e rfl rfl (Eff.callM (rdG rb ra k.2.1 k.2.2.1) (by repeat (first | exact .nil | apply Pick.cons | exact .here | apply Ext.there)) rfl Try.call31 (fun w hw hs0 => leave_c rb ra k.2.1 k.2.2.1 s.t w hs0)) ?_
              intro _ _
              refine LW.nil ?_
              refine PQ.in_normal ?_
              refine PQ.in_normal ?_
              refine PQ.joinedC ((k.2.1, (leF k.2.2.1 s.t).1, k.2.2.2.1, k.2.2.2.2)) (⟨hI.le _, hk, hl⟩) (by repeat (first | exact trivial | refine ⟨rfl, ?_⟩)) (by repeat (first | exact .nil | apply Pick.cons | exact .here | apply Ext.there))
            · replace h52 := bF h52
              refine CW.seq ?_
              refine CW.region ?_
              refine LW.v rfl rfl (Val.cmp rfl rfl rfl) ?_
              refine LW.v rfl rfl (Val.assign rfl) ?_
              refine LW.nil ?_
              refine PQ.seq ?_
              refine CW.cond rfl (fun h58 => ?_) (fun h58 => ?_)
              · replace h58 := bT h58
                refine CW.region ?_
                refine LW.v rfl rfl (Val.move rfl) ?_
                refine LW.e rfl rfl (Eff.callM (rdG rb ra k.2.1 k.2.2.1) (by repeat (first | exact .nil | apply Pick.cons | exact .here | apply Ext.there)) rfl Try.call33 (fun w hw hs0 => adv_c rb ra k.2.1 k.2.2.1 w hs0 ⟨by have := hI.2.2.1; omega, by have := hI.2.2.2; omega⟩)) ?_
                intro _ _
                refine LW.nil ?_
                refine PQ.in_normal ?_
                refine PQ.in_normal ?_
                refine PQ.joinedC ((k.2.1 + 1, k.2.2.1, k.2.2.2.1, k.2.2.2.2)) (⟨hI.adv, hk, hl⟩) (by repeat (first | exact trivial | refine ⟨rfl, ?_⟩)) (by repeat (first | exact .nil | apply Pick.cons | exact .here | apply Ext.there))
              · replace h58 := bF h58
                refine CW.seq ?_
                refine CW.region ?_
                refine LW.v rfl rfl (Val.cmp rfl rfl rfl) ?_
                refine LW.v rfl rfl (Val.assign rfl) ?_
                refine LW.nil ?_
                refine PQ.seq ?_
                refine CW.cond rfl (fun h62 => ?_) (fun h62 => ?_)
                · replace h62 := bT h62
                  refine CW.seq ?_
                  refine CW.region ?_
                  refine LW.v rfl rfl (Val.move rfl) ?_
                  refine LW.e rfl rfl (Eff.callM ([]) (by repeat (first | exact .nil | apply Pick.cons | exact .here | apply Ext.there)) rfl Try.call48 (fun w hw hs0 => allP_c b k.2.2.2.1 k.2.2.2.2 hk (by omega) w (hw.sat.pick (ss := bgP 124 b k.2.2.2.1 k.2.2.2.2) (by repeat (first | exact .nil | apply Pick.cons | exact .here | apply Ext.there))))) ?_
                  intro yo hyo
                  refine LW.v rfl rfl (Val.assign rfl) ?_
                  refine LW.nil ?_
                  refine PQ.seq ?_
                  refine CW.seq ?_
                  refine CW.region ?_
                  refine LW.v rfl rfl (Val.move rfl) ?_
                  refine LW.v rfl rfl (Val.move rfl) ?_
                  refine LW.v rfl rfl (Val.fieldAddr 7 rfl Try.underlying98 rfl rfl Try.sizeOf28) ?_
                  refine LW.v rfl rfl (Val.load rfl Try.isAgg28 (by repeat (first | exact .here | refine .there ?_)) (by rfl)) ?_
                  refine LW.e rfl rfl (Eff.callM (bgP 124 b k.2.2.2.1 k.2.2.2.2 ++ rdG rb ra k.2.1 k.2.2.1) (by repeat (first | exact .nil | apply Pick.cons | exact .here | apply Ext.there)) rfl Try.call47 (fun w hw hs0 => popP_c b k.2.2.2.1 k.2.2.2.2 rb ra k.2.1 k.2.2.1 hk (by omega) hI.2.1 (by have := hI.1; omega) s.du w hs0)) ?_
                  rintro ⟨r, o2, l2⟩ ⟨hP, hk2⟩
                  simp only at hP hk2
                  refine LW.v rfl rfl (Val.move rfl) ?_
                  refine LW.v rfl rfl (Val.extract rfl rfl) ?_
                  refine LW.v rfl rfl (Val.extract rfl rfl) ?_
                  refine LW.e rfl rfl (Eff.allocA (by exact Try.zeroValue80)) ?_
                  intro b9 _
                  first | (refine LW.eN rfl (Eff.storeW rfl rfl (by repeat (first | exact .here | apply Upd.there)) (by rfl) Try.sizeOf80 (by rfl)) ?_) | (refine LW.eN rfl (Eff.storeA (l' := _) rfl rfl (by repeat (first | exact .here | apply Upd.there)) (by rfl) (by decide) Try.sizeOf80 (by rfl)) ?_)
                  intro _ _
                  refine LW.v rfl rfl (Val.assign rfl) ?_
                  refine LW.nil ?_
                  refine PQ.seq ?_
                  refine CW.seq ?_
                  refine CW.seq ?_
                  refine CW.region ?_
                  refine LW.v rfl rfl (Val.assign rfl) ?_
                  refine LW.nil ?_
                  refine PQ.seq ?_
                  refine CW.block ?_
                  refine CW.loop (γ := Nat) (fun j => [(0, .slice (some ⟨bb, oo, none⟩) n cap), (3, .pointer (some ⟨b, 0, none⟩)), (4, .pointer (some ⟨rb, 0, none⟩)), (6, .int .i64 (k.1 : Nat)), (7, .pointer (some ⟨b7, 0, none⟩)), (8, .slice (ownP yo) k.2.2.2.2.length (ownC yo)), (9, .pointer (some ⟨b9, 0, none⟩)), (10, .bool r.isSome), (11, .int .i64 (j : Nat))]) (fun j => bgP 124 b o2 l2 ++ rdG rb ra k.2.1 k.2.2.1 ++ bgQ k.2.2.2.2 yo ++ [[(b7, .cells (Ac10.cells s).toArray 98 (0, 0))]] ++ [[(b9, .cells (enC (r.getD en0)).toArray 80 (0, 0))]]) (fun j => j ≤ k.2.2.2.2.length ∧ ∀ y ∈ k.2.2.2.2.take j, rdy k.2.2.1 s.du y = false) (fun j => k.2.2.2.2.length - j) (0) ⟨Nat.zero_le _, by simp⟩ (by repeat (first | exact trivial | refine ⟨rfl, ?_⟩)) (by repeat (first | exact .nil | apply Pick.cons | exact .here | apply Ext.there)) ?_
                  intro j
                  rintro ⟨hj1, hj2⟩
                  refine CW.seq ?_
                  refine CW.seq ?_
                  refine CW.region ?_
                  refine LW.v rfl rfl (Val.move rfl) ?_
                  refine LW.v rfl rfl (Val.move rfl) ?_
                  refine LW.v rfl rfl (Val.lenSl rfl Try.underlying86) ?_
                  refine LW.v rfl rfl (Val.cmp rfl rfl rfl) ?_
                  refine LW.nil ?_
                  refine PQ.seq ?_
                  refine CW.cond rfl (fun h77 => ?_) (fun h77 => ?_)
                  · replace h77 := bT h77
                    refine CW.skip ?_
                    refine PQ.seq ?_
                    refine CW.seq ?_
                    refine CW.block ?_
                    refine CW.seq ?_
                    refine CW.quiet mixed (by kernel_rfl) ?_
                    refine QW.v rfl rfl (Val.move rfl) ?_
                    obtain ⟨⟨gy, resty, capy⟩, rfl⟩ := bg_some hyo (by omega)
                    obtain ⟨x, hx⟩ : ∃ x, k.2.2.2.2[j]? = some x := ⟨k.2.2.2.2[j]'(by omega), by simp⟩
                    obtain ⟨q, hq⟩ := ent_drop resty hx
                    refine QW.v rfl rfl (Val.move rfl) ?_
                    refine QW.v rfl rfl (Val.move rfl) ?_
                    first | (refine QW.v rfl rfl (Val.indexAddrN rfl rfl Try.underlying86 Try.sizeOf80 (by omega)) ?_) | (refine QW.v rfl rfl (Val.indexAddr rfl rfl Try.underlying86 Try.sizeOf80 (by omega) (by omega)) ?_)
                    refine QW.v rfl rfl (Val.fieldAddr 2 rfl Try.underlying80 rfl rfl Try.sizeOf28) ?_
                    refine QW.v rfl rfl (Val.load (v := .int .u64 x.r) rfl Try.isAgg28 (by repeat (first | exact .here | refine .there ?_)) (ent_cell resty hx 2 rfl)) ?_
                    refine QW.c rfl rfl (Qcall.of rfl Try.call38 (fun w hw => quiet_c rb ra k.2.1 k.2.2.1 x.r w (hw.sat.pick (ss := rdG rb ra k.2.1 k.2.2.1) (by repeat (first | exact .nil | apply Pick.cons | exact .here | apply Ext.there))) (by have := hI.1; omega) hI.2.1)) ?_
                    refine QW.v rfl rfl (Val.move rfl) ?_
                    refine QW.split (d := 87) rfl (fun h87 => ?_) (fun h87 => ?_)
                    · replace h87 := bT h87
                      refine QW.v rfl rfl (Val.move rfl) ?_
                      refine QW.v rfl rfl (Val.move rfl) ?_
                      first | (refine QW.v rfl rfl (Val.indexAddrN rfl rfl Try.underlying86 Try.sizeOf80 (by omega)) ?_) | (refine QW.v rfl rfl (Val.indexAddr rfl rfl Try.underlying86 Try.sizeOf80 (by omega) (by omega)) ?_)
                      refine QW.v rfl rfl (Val.fieldAddr 3 rfl Try.underlying80 rfl rfl Try.sizeOf28) ?_
                      refine QW.v rfl rfl (Val.load (v := .int .u64 x.d) rfl Try.isAgg28 (by repeat (first | exact .here | refine .there ?_)) (ent_cell resty hx 3 rfl)) ?_
                      refine QW.v rfl rfl (Val.fieldAddr 7 rfl Try.underlying98 rfl rfl Try.sizeOf28) ?_
                      refine QW.v rfl rfl (Val.load rfl Try.isAgg28 (by repeat (first | exact .here | refine .there ?_)) (by rfl)) ?_
                      refine QW.v rfl rfl (Val.cmp rfl rfl rfl) ?_
                      refine QW.v rfl rfl (Val.pick_t rfl rfl) ?_
                      refine QW.v rfl rfl (Val.assign rfl) ?_
                      refine QW.nil ?_
                      refine PQ.seq ?_
                      refine CW.seq ?_
                      refine CW.seq ?_
                      refine CW.quiet mixed (by kernel_rfl) ?_
                      refine QW.v rfl rfl (Val.move rfl) ?_
                      refine QW.v rfl rfl (Val.move rfl) ?_
                      refine QW.split (d := 98) rfl (fun h98 => ?_) (fun h98 => ?_)
                      · replace h98 := bT h98
                        refine QW.v rfl rfl (Val.move rfl) ?_
                        refine QW.v rfl rfl (Val.not rfl) ?_
                        refine QW.re 100 (.bool false) rfl (by rw [pop_first hP hx (by simp [rdy, h87, h98]) hj2]; rfl) ?_
                        refine QW.v rfl rfl (Val.move rfl) ?_
                        first | (refine QW.v rfl rfl (Val.loadW rfl Try.isAgg80 (by repeat (first | exact .here | refine .there ?_)) (by exact Try.sizeOf80)) ?_) | (refine QW.v rfl rfl (Val.loadA [_, _, _, _, _] rfl Try.isAgg80 (by repeat (first | exact .here | refine .there ?_)) (by rfl) Try.sizeOf80) ?_)
                        refine QW.v rfl rfl (Val.move rfl) ?_
                        refine QW.v rfl rfl (Val.move rfl) ?_
                        first | (refine QW.v rfl rfl (Val.indexAddrN rfl rfl Try.underlying86 Try.sizeOf80 (by omega)) ?_) | (refine QW.v rfl rfl (Val.indexAddr rfl rfl Try.underlying86 Try.sizeOf80 (by omega) (by omega)) ?_)
                        refine QW.v rfl rfl (Val.loadA (cs := enC x) rfl Try.isAgg80 (by repeat (first | exact .here | refine .there ?_)) hq (by exact Try.sizeOf80)) ?_
                        refine QW.v rfl rfl (Val.neA rfl rfl (by kernel_rfl) Try.underlying80 (by kernel_rfl) (by exact (.int rfl rfl Try.isAgg3 Try.underlying3 (.int rfl rfl Try.isAgg3 Try.underlying3 (.int rfl rfl Try.isAgg28 Try.underlying28 (.int rfl rfl Try.isAgg28 Try.underlying28 (.int rfl rfl Try.isAgg3 Try.underlying3 .nil))))))) ?_
                        refine QW.re 107 (.bool false) rfl (by rw [pop_first hP hx (by simp [rdy, h87, h98]) hj2]; simp) ?_
                        refine QW.v rfl rfl (Val.pick_f rfl rfl) ?_
                        refine QW.v rfl rfl (Val.pick_t rfl rfl) ?_
                        refine QW.nil ?_
                        refine PQ.seq ?_
                        refine CW.cond_f rfl ?_
                        refine CW.skip ?_
                        refine PQ.seq ?_
                        refine CW.seq ?_
                        refine CW.seq ?_
                        refine CW.region ?_
                        refine LW.v rfl rfl (Val.move rfl) ?_
                        refine LW.nil ?_
                        refine PQ.seq ?_
                        refine CW.cond rfl (fun h110 => ?_) (fun h110 => ?_)
                        · replace h110 := bT h110
                          refine CW.exit ?_
                          refine PQ.then_exit ?_
                          refine PQ.in_out rfl ?_
                          refine PQ.then_exit ?_
                          refine PQ.then_exit ?_
                          refine PQ.in_here ?_
                          refine PQ.seq ?_
                          refine CW.seq ?_
                          refine CW.region ?_
                          refine LW.v rfl rfl (Val.move rfl) ?_
                          refine LW.v rfl rfl (Val.move rfl) ?_
                          refine LW.split (d := 120) rfl (fun h120 => ?_) (fun h120 => ?_)
                          · replace h120 := bT h120
                            refine LW.v rfl rfl (Val.move rfl) ?_
                            refine LW.e rfl rfl (Eff.callV rfl Try.call44 (fun w hw => blenP_c b o2 l2 hk2 w (hw.sat.pick (ss := bgP 124 b o2 l2) (by repeat (first | exact .nil | apply Pick.cons | exact .here | apply Ext.there))))) ?_
                            intro _ _
                            refine LW.v rfl rfl (Val.move rfl) ?_
                            refine LW.v rfl rfl (Val.lenSl rfl Try.underlying86) ?_
                            refine LW.v rfl rfl (Val.ar rfl rfl rfl (IntWalk.i64_in _ (by omega))) ?_
                            refine LW.v rfl rfl (Val.cmp rfl rfl rfl) ?_
                            refine LW.re 126 (.bool false) rfl (by have := pop_len hP; rcases this with ⟨h5, h6⟩ | ⟨h5, h6⟩; (simp; omega); (rw [h5] at h120; cases h120)) ?_
                            refine LW.v rfl rfl (Val.pick_t rfl rfl) ?_
                            refine LW.v rfl rfl (Val.move rfl) ?_
                            refine LW.v rfl rfl (Val.move rfl) ?_
                            refine LW.v rfl rfl (Val.not rfl) ?_
                            refine LW.v rfl rfl (Val.move rfl) ?_
                            refine LW.split (d := 131) rfl (fun h131 => ?_) (fun h131 => ?_)
                            · replace h131 := bT h131
                              refine LW.v rfl rfl (Val.move rfl) ?_
                              refine LW.e rfl rfl (Eff.callV rfl Try.call44 (fun w hw => blenP_c b o2 l2 hk2 w (hw.sat.pick (ss := bgP 124 b o2 l2) (by repeat (first | exact .nil | apply Pick.cons | exact .here | apply Ext.there))))) ?_
                              intro _ _
                              refine LW.v rfl rfl (Val.move rfl) ?_
                              refine LW.v rfl rfl (Val.lenSl rfl Try.underlying86) ?_
                              refine LW.v rfl rfl (Val.cmp rfl rfl rfl) ?_
                              refine LW.re 136 (.bool false) rfl (by have := pop_len hP; rcases this with ⟨h5, h6⟩ | ⟨h5, h6⟩; (simp [h5] at h131); (simp; omega)) ?_
                              refine LW.v rfl rfl (Val.pick_t rfl rfl) ?_
                              refine LW.v rfl rfl (Val.pick_f rfl rfl) ?_
                              refine LW.nil ?_
                              refine PQ.seq ?_
                              refine CW.cond_f rfl ?_
                              refine CW.skip ?_
                              refine PQ.in_normal ?_
                              refine PQ.in_normal ?_
                              exact absurd h120 (by simp [h131])
                            · replace h131 := bF h131
                              refine LW.p rfl rfl ?_
                              refine LW.p rfl rfl ?_
                              refine LW.p rfl rfl ?_
                              refine LW.p rfl rfl ?_
                              refine LW.p rfl rfl ?_
                              refine LW.v rfl rfl (Val.pick_f rfl rfl) ?_
                              refine LW.v rfl rfl (Val.pick_f rfl rfl) ?_
                              refine LW.nil ?_
                              refine PQ.seq ?_
                              refine CW.cond_f rfl ?_
                              refine CW.skip ?_
                              refine PQ.in_normal ?_
                              refine PQ.in_normal ?_
                              refine PQ.joinedC ((k.2.1, k.2.2.1, o2, l2)) (⟨hI.id, hk2, by have := pop_len hP; simp only at this ⊢; omega⟩) (by repeat (first | exact trivial | refine ⟨rfl, ?_⟩)) (by repeat (first | exact .nil | apply Pick.cons | exact .here | apply Ext.there))
                          · replace h120 := bF h120
                            refine LW.p rfl rfl ?_
                            refine LW.p rfl rfl ?_
                            refine LW.p rfl rfl ?_
                            refine LW.p rfl rfl ?_
                            refine LW.p rfl rfl ?_
                            refine LW.p rfl rfl ?_
                            refine LW.v rfl rfl (Val.pick_f rfl rfl) ?_
                            refine LW.v rfl rfl (Val.move rfl) ?_
                            refine LW.v rfl rfl (Val.move rfl) ?_
                            refine LW.v rfl rfl (Val.not rfl) ?_
                            refine LW.v rfl rfl (Val.move rfl) ?_
                            refine LW.split (d := 131) rfl (fun h131 => ?_) (fun h131 => ?_)
                            · replace h131 := bT h131
                              refine LW.v rfl rfl (Val.move rfl) ?_
                              refine LW.e rfl rfl (Eff.callV rfl Try.call44 (fun w hw => blenP_c b o2 l2 hk2 w (hw.sat.pick (ss := bgP 124 b o2 l2) (by repeat (first | exact .nil | apply Pick.cons | exact .here | apply Ext.there))))) ?_
                              intro _ _
                              refine LW.v rfl rfl (Val.move rfl) ?_
                              refine LW.v rfl rfl (Val.lenSl rfl Try.underlying86) ?_
                              refine LW.v rfl rfl (Val.cmp rfl rfl rfl) ?_
                              refine LW.re 136 (.bool false) rfl (by have := pop_len hP; rcases this with ⟨h5, h6⟩ | ⟨h5, h6⟩; (simp [h5] at h131); (simp; omega)) ?_
                              refine LW.v rfl rfl (Val.pick_t rfl rfl) ?_
                              refine LW.v rfl rfl (Val.pick_f rfl rfl) ?_
                              refine LW.nil ?_
                              refine PQ.seq ?_
                              refine CW.cond_f rfl ?_
                              refine CW.skip ?_
                              refine PQ.in_normal ?_
                              refine PQ.in_normal ?_
                              refine PQ.joinedC ((k.2.1, k.2.2.1, o2, l2)) (⟨hI.id, hk2, by have := pop_len hP; simp only at this ⊢; omega⟩) (by repeat (first | exact trivial | refine ⟨rfl, ?_⟩)) (by repeat (first | exact .nil | apply Pick.cons | exact .here | apply Ext.there))
                            · replace h131 := bF h131
                              refine LW.p rfl rfl ?_
                              refine LW.p rfl rfl ?_
                              refine LW.p rfl rfl ?_
                              refine LW.p rfl rfl ?_
                              refine LW.p rfl rfl ?_
                              refine LW.v rfl rfl (Val.pick_f rfl rfl) ?_
                              refine LW.v rfl rfl (Val.pick_f rfl rfl) ?_
                              refine LW.nil ?_
                              refine PQ.seq ?_
                              refine CW.cond_f rfl ?_
                              refine CW.skip ?_
                              refine PQ.in_normal ?_
                              refine PQ.in_normal ?_
                              exact absurd h131 (by simp [h120])
                        · replace h110 := bF h110
                          refine CW.skip ?_
                          refine PQ.seq ?_
                          refine CW.seq ?_
                          refine CW.region ?_
                          refine LW.v rfl rfl (Val.move rfl) ?_
                          refine LW.v rfl rfl (Val.move rfl) ?_
                          refine LW.v rfl rfl (Val.lenSl rfl Try.underlying86) ?_
                          refine LW.v rfl rfl (Val.ar rfl rfl rfl (IntWalk.i64_in _ (by omega))) ?_
                          refine LW.v rfl rfl (Val.cmp rfl rfl rfl) ?_
                          refine LW.v rfl rfl (Val.move rfl) ?_
                          refine LW.split (d := 116) rfl (fun h116 => ?_) (fun h116 => ?_)
                          · replace h116 := bT h116
                            refine LW.v rfl rfl (Val.move rfl) ?_
                            refine LW.re 117 (.bool false) rfl (by rw [pop_none hP (fun y hy => by have hq0 := take_no hx (by unfold rdy; first | (rw [h87]; simp; done) | (simp only [Bool.and_eq_false_iff, decide_eq_false_iff_not]; omega)) hj2; rw [List.take_of_length_le (by omega)] at hq0; exact hq0 y hy)]; rfl) ?_
                            refine LW.v rfl rfl (Val.pick_t rfl rfl) ?_
                            refine LW.nil ?_
                            refine PQ.seq ?_
                            refine CW.cond_f rfl ?_
                            refine CW.skip ?_
                            refine PQ.in_normal ?_
                            refine PQ.seq ?_
                            refine CW.region ?_
                            refine LW.v rfl rfl (Val.move rfl) ?_
                            refine LW.v rfl rfl (Val.ar rfl rfl rfl (IntWalk.i64_in _ (by omega))) ?_
                            refine LW.v rfl rfl (Val.assign rfl) ?_
                            refine LW.nil ?_
                            refine PQ.round (j + 1) ⟨by omega, take_no hx (by unfold rdy; first | (rw [h87]; simp; done) | (simp only [Bool.and_eq_false_iff, decide_eq_false_iff_not]; omega)) hj2⟩ (by omega) (by repeat (first | exact trivial | refine ⟨rfl, ?_⟩)) (by repeat (first | exact .nil | apply Pick.cons | exact .here | apply Ext.there))
                          · replace h116 := bF h116
                            refine LW.p rfl rfl ?_
                            refine LW.v rfl rfl (Val.pick_f rfl rfl) ?_
                            refine LW.nil ?_
                            refine PQ.seq ?_
                            refine CW.cond_f rfl ?_
                            refine CW.skip ?_
                            refine PQ.in_normal ?_
                            refine PQ.seq ?_
                            refine CW.region ?_
                            refine LW.v rfl rfl (Val.move rfl) ?_
                            refine LW.v rfl rfl (Val.ar rfl rfl rfl (IntWalk.i64_in _ (by omega))) ?_
                            refine LW.v rfl rfl (Val.assign rfl) ?_
                            refine LW.nil ?_
                            refine PQ.round (j + 1) ⟨by omega, take_no hx (by unfold rdy; first | (rw [h87]; simp; done) | (simp only [Bool.and_eq_false_iff, decide_eq_false_iff_not]; omega)) hj2⟩ (by omega) (by repeat (first | exact trivial | refine ⟨rfl, ?_⟩)) (by repeat (first | exact .nil | apply Pick.cons | exact .here | apply Ext.there))
                      · replace h98 := bF h98
                        refine QW.p rfl rfl ?_
                        refine QW.p rfl rfl ?_
                        refine QW.p rfl rfl ?_
                        refine QW.p rfl rfl ?_
                        refine QW.p rfl rfl ?_
                        refine QW.p rfl rfl ?_
                        refine QW.p rfl rfl ?_
                        refine QW.p rfl rfl ?_
                        refine QW.p rfl rfl ?_
                        refine QW.p rfl rfl ?_
                        refine QW.v rfl rfl (Val.pick_f rfl rfl) ?_
                        refine QW.nil ?_
                        refine PQ.seq ?_
                        refine CW.cond_f rfl ?_
                        refine CW.skip ?_
                        refine PQ.seq ?_
                        refine CW.seq ?_
                        refine CW.seq ?_
                        refine CW.region ?_
                        refine LW.v rfl rfl (Val.move rfl) ?_
                        refine LW.nil ?_
                        refine PQ.seq ?_
                        refine CW.cond rfl (fun h110 => ?_) (fun h110 => ?_)
                        · replace h110 := bT h110
                          refine CW.exit ?_
                          refine PQ.then_exit ?_
                          refine PQ.in_out rfl ?_
                          refine PQ.then_exit ?_
                          refine PQ.then_exit ?_
                          refine PQ.in_here ?_
                          refine PQ.seq ?_
                          refine CW.seq ?_
                          refine CW.region ?_
                          refine LW.v rfl rfl (Val.move rfl) ?_
                          refine LW.v rfl rfl (Val.move rfl) ?_
                          refine LW.split (d := 120) rfl (fun h120 => ?_) (fun h120 => ?_)
                          · replace h120 := bT h120
                            refine LW.v rfl rfl (Val.move rfl) ?_
                            refine LW.e rfl rfl (Eff.callV rfl Try.call44 (fun w hw => blenP_c b o2 l2 hk2 w (hw.sat.pick (ss := bgP 124 b o2 l2) (by repeat (first | exact .nil | apply Pick.cons | exact .here | apply Ext.there))))) ?_
                            intro _ _
                            refine LW.v rfl rfl (Val.move rfl) ?_
                            refine LW.v rfl rfl (Val.lenSl rfl Try.underlying86) ?_
                            refine LW.v rfl rfl (Val.ar rfl rfl rfl (IntWalk.i64_in _ (by omega))) ?_
                            refine LW.v rfl rfl (Val.cmp rfl rfl rfl) ?_
                            refine LW.re 126 (.bool false) rfl (by have := pop_len hP; rcases this with ⟨h5, h6⟩ | ⟨h5, h6⟩; (simp; omega); (rw [h5] at h120; cases h120)) ?_
                            refine LW.v rfl rfl (Val.pick_t rfl rfl) ?_
                            refine LW.v rfl rfl (Val.move rfl) ?_
                            refine LW.v rfl rfl (Val.move rfl) ?_
                            refine LW.v rfl rfl (Val.not rfl) ?_
                            refine LW.v rfl rfl (Val.move rfl) ?_
                            refine LW.split (d := 131) rfl (fun h131 => ?_) (fun h131 => ?_)
                            · replace h131 := bT h131
                              refine LW.v rfl rfl (Val.move rfl) ?_
                              refine LW.e rfl rfl (Eff.callV rfl Try.call44 (fun w hw => blenP_c b o2 l2 hk2 w (hw.sat.pick (ss := bgP 124 b o2 l2) (by repeat (first | exact .nil | apply Pick.cons | exact .here | apply Ext.there))))) ?_
                              intro _ _
                              refine LW.v rfl rfl (Val.move rfl) ?_
                              refine LW.v rfl rfl (Val.lenSl rfl Try.underlying86) ?_
                              refine LW.v rfl rfl (Val.cmp rfl rfl rfl) ?_
                              refine LW.re 136 (.bool false) rfl (by have := pop_len hP; rcases this with ⟨h5, h6⟩ | ⟨h5, h6⟩; (simp [h5] at h131); (simp; omega)) ?_
                              refine LW.v rfl rfl (Val.pick_t rfl rfl) ?_
                              refine LW.v rfl rfl (Val.pick_f rfl rfl) ?_
                              refine LW.nil ?_
                              refine PQ.seq ?_
                              refine CW.cond_f rfl ?_
                              refine CW.skip ?_
                              refine PQ.in_normal ?_
                              refine PQ.in_normal ?_
                              exact absurd h120 (by simp [h131])
                            · replace h131 := bF h131
                              refine LW.p rfl rfl ?_
                              refine LW.p rfl rfl ?_
                              refine LW.p rfl rfl ?_
                              refine LW.p rfl rfl ?_
                              refine LW.p rfl rfl ?_
                              refine LW.v rfl rfl (Val.pick_f rfl rfl) ?_
                              refine LW.v rfl rfl (Val.pick_f rfl rfl) ?_
                              refine LW.nil ?_
                              refine PQ.seq ?_
                              refine CW.cond_f rfl ?_
                              refine CW.skip ?_
                              refine PQ.in_normal ?_
                              refine PQ.in_normal ?_
                              refine PQ.joinedC ((k.2.1, k.2.2.1, o2, l2)) (⟨hI.id, hk2, by have := pop_len hP; simp only at this ⊢; omega⟩) (by repeat (first | exact trivial | refine ⟨rfl, ?_⟩)) (by repeat (first | exact .nil | apply Pick.cons | exact .here | apply Ext.there))
                          · replace h120 := bF h120
                            refine LW.p rfl rfl ?_
                            refine LW.p rfl rfl ?_
                            refine LW.p rfl rfl ?_
                            refine LW.p rfl rfl ?_
                            refine LW.p rfl rfl ?_
                            refine LW.p rfl rfl ?_
                            refine LW.v rfl rfl (Val.pick_f rfl rfl) ?_
                            refine LW.v rfl rfl (Val.move rfl) ?_
                            refine LW.v rfl rfl (Val.move rfl) ?_
                            refine LW.v rfl rfl (Val.not rfl) ?_
                            refine LW.v rfl rfl (Val.move rfl) ?_
                            refine LW.split (d := 131) rfl (fun h131 => ?_) (fun h131 => ?_)
                            · replace h131 := bT h131
                              refine LW.v rfl rfl (Val.move rfl) ?_
                              refine LW.e rfl rfl (Eff.callV rfl Try.call44 (fun w hw => blenP_c b o2 l2 hk2 w (hw.sat.pick (ss := bgP 124 b o2 l2) (by repeat (first | exact .nil | apply Pick.cons | exact .here | apply Ext.there))))) ?_
                              intro _ _
                              refine LW.v rfl rfl (Val.move rfl) ?_
                              refine LW.v rfl rfl (Val.lenSl rfl Try.underlying86) ?_
                              refine LW.v rfl rfl (Val.cmp rfl rfl rfl) ?_
                              refine LW.re 136 (.bool false) rfl (by have := pop_len hP; rcases this with ⟨h5, h6⟩ | ⟨h5, h6⟩; (simp [h5] at h131); (simp; omega)) ?_
                              refine LW.v rfl rfl (Val.pick_t rfl rfl) ?_
                              refine LW.v rfl rfl (Val.pick_f rfl rfl) ?_
                              refine LW.nil ?_
                              refine PQ.seq ?_
                              refine CW.cond_f rfl ?_
                              refine CW.skip ?_
                              refine PQ.in_normal ?_
                              refine PQ.in_normal ?_
                              refine PQ.joinedC ((k.2.1, k.2.2.1, o2, l2)) (⟨hI.id, hk2, by have := pop_len hP; simp only at this ⊢; omega⟩) (by repeat (first | exact trivial | refine ⟨rfl, ?_⟩)) (by repeat (first | exact .nil | apply Pick.cons | exact .here | apply Ext.there))
                            · replace h131 := bF h131
                              refine LW.p rfl rfl ?_
                              refine LW.p rfl rfl ?_
                              refine LW.p rfl rfl ?_
                              refine LW.p rfl rfl ?_
                              refine LW.p rfl rfl ?_
                              refine LW.v rfl rfl (Val.pick_f rfl rfl) ?_
                              refine LW.v rfl rfl (Val.pick_f rfl rfl) ?_
                              refine LW.nil ?_
                              refine PQ.seq ?_
                              refine CW.cond_f rfl ?_
                              refine CW.skip ?_
                              refine PQ.in_normal ?_
                              refine PQ.in_normal ?_
                              exact absurd h131 (by simp [h120])
                        · replace h110 := bF h110
                          refine CW.skip ?_
                          refine PQ.seq ?_
                          refine CW.seq ?_
                          refine CW.region ?_
                          refine LW.v rfl rfl (Val.move rfl) ?_
                          refine LW.v rfl rfl (Val.move rfl) ?_
                          refine LW.v rfl rfl (Val.lenSl rfl Try.underlying86) ?_
                          refine LW.v rfl rfl (Val.ar rfl rfl rfl (IntWalk.i64_in _ (by omega))) ?_
                          refine LW.v rfl rfl (Val.cmp rfl rfl rfl) ?_
                          refine LW.v rfl rfl (Val.move rfl) ?_
                          refine LW.split (d := 116) rfl (fun h116 => ?_) (fun h116 => ?_)
                          · replace h116 := bT h116
                            refine LW.v rfl rfl (Val.move rfl) ?_
                            refine LW.re 117 (.bool false) rfl (by rw [pop_none hP (fun y hy => by have hq0 := take_no hx (by unfold rdy; first | (rw [h87]; simp; done) | (simp only [Bool.and_eq_false_iff, decide_eq_false_iff_not]; omega)) hj2; rw [List.take_of_length_le (by omega)] at hq0; exact hq0 y hy)]; rfl) ?_
                            refine LW.v rfl rfl (Val.pick_t rfl rfl) ?_
                            refine LW.nil ?_
                            refine PQ.seq ?_
                            refine CW.cond_f rfl ?_
                            refine CW.skip ?_
                            refine PQ.in_normal ?_
                            refine PQ.seq ?_
                            refine CW.region ?_
                            refine LW.v rfl rfl (Val.move rfl) ?_
                            refine LW.v rfl rfl (Val.ar rfl rfl rfl (IntWalk.i64_in _ (by omega))) ?_
                            refine LW.v rfl rfl (Val.assign rfl) ?_
                            refine LW.nil ?_
                            refine PQ.round (j + 1) ⟨by omega, take_no hx (by unfold rdy; first | (rw [h87]; simp; done) | (simp only [Bool.and_eq_false_iff, decide_eq_false_iff_not]; omega)) hj2⟩ (by omega) (by repeat (first | exact trivial | refine ⟨rfl, ?_⟩)) (by repeat (first | exact .nil | apply Pick.cons | exact .here | apply Ext.there))
                          · replace h116 := bF h116
                            refine LW.p rfl rfl ?_
                            refine LW.v rfl rfl (Val.pick_f rfl rfl) ?_
                            refine LW.nil ?_
                            refine PQ.seq ?_
                            refine CW.cond_f rfl ?_
                            refine CW.skip ?_
                            refine PQ.in_normal ?_
                            refine PQ.seq ?_
                            refine CW.region ?_
                            refine LW.v rfl rfl (Val.move rfl) ?_
                            refine LW.v rfl rfl (Val.ar rfl rfl rfl (IntWalk.i64_in _ (by omega))) ?_
                            refine LW.v rfl rfl (Val.assign rfl) ?_
                            refine LW.nil ?_
                            refine PQ.round (j + 1) ⟨by omega, take_no hx (by unfold rdy; first | (rw [h87]; simp; done) | (simp only [Bool.and_eq_false_iff, decide_eq_false_iff_not]; omega)) hj2⟩ (by omega) (by repeat (first | exact trivial | refine ⟨rfl, ?_⟩)) (by repeat (first | exact .nil | apply Pick.cons | exact .here | apply Ext.there))
                    · replace h87 := bF h87
                      refine QW.p rfl rfl ?_
                      refine QW.p rfl rfl ?_
                      refine QW.p rfl rfl ?_
                      refine QW.p rfl rfl ?_
                      refine QW.p rfl rfl ?_
                      refine QW.p rfl rfl ?_
                      refine QW.p rfl rfl ?_
                      refine QW.p rfl rfl ?_
                      refine QW.v rfl rfl (Val.pick_f rfl rfl) ?_
                      refine QW.v rfl rfl (Val.assign rfl) ?_
                      refine QW.nil ?_
                      refine PQ.seq ?_
                      refine CW.seq ?_
                      refine CW.seq ?_
                      refine CW.quiet mixed (by kernel_rfl) ?_
                      refine QW.v rfl rfl (Val.move rfl) ?_
                      refine QW.v rfl rfl (Val.move rfl) ?_
                      refine QW.p rfl rfl ?_
                      refine QW.p rfl rfl ?_
                      refine QW.p rfl rfl ?_
                      refine QW.p rfl rfl ?_
                      refine QW.p rfl rfl ?_
                      refine QW.p rfl rfl ?_
                      refine QW.p rfl rfl ?_
                      refine QW.p rfl rfl ?_
                      refine QW.p rfl rfl ?_
                      refine QW.p rfl rfl ?_
                      refine QW.v rfl rfl (Val.pick_f rfl rfl) ?_
                      refine QW.nil ?_
                      refine PQ.seq ?_
                      refine CW.cond_f rfl ?_
                      refine CW.skip ?_
                      refine PQ.seq ?_
                      refine CW.seq ?_
                      refine CW.seq ?_
                      refine CW.region ?_
                      refine LW.v rfl rfl (Val.move rfl) ?_
                      refine LW.nil ?_
                      refine PQ.seq ?_
                      refine CW.cond_f rfl ?_
                      refine CW.skip ?_
                      refine PQ.seq ?_
                      refine CW.seq ?_
                      refine CW.region ?_
                      refine LW.v rfl rfl (Val.move rfl) ?_
                      refine LW.v rfl rfl (Val.move rfl) ?_
                      refine LW.v rfl rfl (Val.lenSl rfl Try.underlying86) ?_
                      refine LW.v rfl rfl (Val.ar rfl rfl rfl (IntWalk.i64_in _ (by omega))) ?_
                      refine LW.v rfl rfl (Val.cmp rfl rfl rfl) ?_
                      refine LW.v rfl rfl (Val.move rfl) ?_
                      refine LW.split (d := 116) rfl (fun h116 => ?_) (fun h116 => ?_)
                      · replace h116 := bT h116
                        refine LW.v rfl rfl (Val.move rfl) ?_
                        refine LW.re 117 (.bool false) rfl (by rw [pop_none hP (fun y hy => by have hq0 := take_no hx (by unfold rdy; first | (rw [h87]; simp; done) | (simp only [Bool.and_eq_false_iff, decide_eq_false_iff_not]; omega)) hj2; rw [List.take_of_length_le (by omega)] at hq0; exact hq0 y hy)]; rfl) ?_
                        refine LW.v rfl rfl (Val.pick_t rfl rfl) ?_
                        refine LW.nil ?_
                        refine PQ.seq ?_
                        refine CW.cond_f rfl ?_
                        refine CW.skip ?_
                        refine PQ.in_normal ?_
                        refine PQ.seq ?_
                        refine CW.region ?_
                        refine LW.v rfl rfl (Val.move rfl) ?_
                        refine LW.v rfl rfl (Val.ar rfl rfl rfl (IntWalk.i64_in _ (by omega))) ?_
                        refine LW.v rfl rfl (Val.assign rfl) ?_
                        refine LW.nil ?_
                        refine PQ.round (j + 1) ⟨by omega, take_no hx (by unfold rdy; first | (rw [h87]; simp; done) | (simp only [Bool.and_eq_false_iff, decide_eq_false_iff_not]; omega)) hj2⟩ (by omega) (by repeat (first | exact trivial | refine ⟨rfl, ?_⟩)) (by repeat (first | exact .nil | apply Pick.cons | exact .here | apply Ext.there))
                      · replace h116 := bF h116
                        refine LW.p rfl rfl ?_
                        refine LW.v rfl rfl (Val.pick_f rfl rfl) ?_
                        refine LW.nil ?_
                        refine PQ.seq ?_
                        refine CW.cond_f rfl ?_
                        refine CW.skip ?_
                        refine PQ.in_normal ?_
                        refine PQ.seq ?_
                        refine CW.region ?_
                        refine LW.v rfl rfl (Val.move rfl) ?_
                        refine LW.v rfl rfl (Val.ar rfl rfl rfl (IntWalk.i64_in _ (by omega))) ?_
                        refine LW.v rfl rfl (Val.assign rfl) ?_
                        refine LW.nil ?_
                        refine PQ.round (j + 1) ⟨by omega, take_no hx (by unfold rdy; first | (rw [h87]; simp; done) | (simp only [Bool.and_eq_false_iff, decide_eq_false_iff_not]; omega)) hj2⟩ (by omega) (by repeat (first | exact trivial | refine ⟨rfl, ?_⟩)) (by repeat (first | exact .nil | apply Pick.cons | exact .here | apply Ext.there))
                  · replace h77 := bF h77
                    refine CW.exit ?_
                    refine PQ.then_exit ?_
                    refine PQ.then_exit ?_
                    refine PQ.in_here ?_
                    refine PQ.seq ?_
                    refine CW.seq ?_
                    refine CW.region ?_
                    refine LW.v rfl rfl (Val.move rfl) ?_
                    refine LW.v rfl rfl (Val.move rfl) ?_
                    refine LW.split (d := 120) rfl (fun h120 => ?_) (fun h120 => ?_)
                    · replace h120 := bT h120
                      refine LW.v rfl rfl (Val.move rfl) ?_
                      refine LW.e rfl rfl (Eff.callV rfl Try.call44 (fun w hw => blenP_c b o2 l2 hk2 w (hw.sat.pick (ss := bgP 124 b o2 l2) (by repeat (first | exact .nil | apply Pick.cons | exact .here | apply Ext.there))))) ?_
                      intro _ _
                      refine LW.v rfl rfl (Val.move rfl) ?_
                      refine LW.v rfl rfl (Val.lenSl rfl Try.underlying86) ?_
                      refine LW.v rfl rfl (Val.ar rfl rfl rfl (IntWalk.i64_in _ (by omega))) ?_
                      refine LW.v rfl rfl (Val.cmp rfl rfl rfl) ?_
                      refine LW.re 126 (.bool false) rfl (by have := pop_len hP; rcases this with ⟨h5, h6⟩ | ⟨h5, h6⟩; (simp; omega); (rw [h5] at h120; cases h120)) ?_
                      refine LW.v rfl rfl (Val.pick_t rfl rfl) ?_
                      refine LW.v rfl rfl (Val.move rfl) ?_
                      refine LW.v rfl rfl (Val.move rfl) ?_
                      refine LW.v rfl rfl (Val.not rfl) ?_
                      refine LW.v rfl rfl (Val.move rfl) ?_
                      refine LW.split (d := 131) rfl (fun h131 => ?_) (fun h131 => ?_)
                      · replace h131 := bT h131
                        refine LW.v rfl rfl (Val.move rfl) ?_
                        refine LW.e rfl rfl (Eff.callV rfl Try.call44 (fun w hw => blenP_c b o2 l2 hk2 w (hw.sat.pick (ss := bgP 124 b o2 l2) (by repeat (first | exact .nil | apply Pick.cons | exact .here | apply Ext.there))))) ?_
                        intro _ _
                        refine LW.v rfl rfl (Val.move rfl) ?_
                        refine LW.v rfl rfl (Val.lenSl rfl Try.underlying86) ?_
                        refine LW.v rfl rfl (Val.cmp rfl rfl rfl) ?_
                        refine LW.re 136 (.bool false) rfl (by have := pop_len hP; rcases this with ⟨h5, h6⟩ | ⟨h5, h6⟩; (simp [h5] at h131); (simp; omega)) ?_
                        refine LW.v rfl rfl (Val.pick_t rfl rfl) ?_
                        refine LW.v rfl rfl (Val.pick_f rfl rfl) ?_
                        refine LW.nil ?_
                        refine PQ.seq ?_
                        refine CW.cond_f rfl ?_
                        refine CW.skip ?_
                        refine PQ.in_normal ?_
                        refine PQ.in_normal ?_
                        exact absurd h120 (by simp [h131])
                      · replace h131 := bF h131
                        refine LW.p rfl rfl ?_
                        refine LW.p rfl rfl ?_
                        refine LW.p rfl rfl ?_
                        refine LW.p rfl rfl ?_
                        refine LW.p rfl rfl ?_
                        refine LW.v rfl rfl (Val.pick_f rfl rfl) ?_
                        refine LW.v rfl rfl (Val.pick_f rfl rfl) ?_
                        refine LW.nil ?_
                        refine PQ.seq ?_
                        refine CW.cond_f rfl ?_
                        refine CW.skip ?_
                        refine PQ.in_normal ?_
                        refine PQ.in_normal ?_
                        refine PQ.joinedC ((k.2.1, k.2.2.1, o2, l2)) (⟨hI.id, hk2, by have := pop_len hP; simp only at this ⊢; omega⟩) (by repeat (first | exact trivial | refine ⟨rfl, ?_⟩)) (by repeat (first | exact .nil | apply Pick.cons | exact .here | apply Ext.there))
                    · replace h120 := bF h120
                      refine LW.p rfl rfl ?_
                      refine LW.p rfl rfl ?_
                      refine LW.p rfl rfl ?_
                      refine LW.p rfl rfl ?_
                      refine LW.p rfl rfl ?_
                      refine LW.p rfl rfl ?_
                      refine LW.v rfl rfl (Val.pick_f rfl rfl) ?_
                      refine LW.v rfl rfl (Val.move rfl) ?_
                      refine LW.v rfl rfl (Val.move rfl) ?_
                      refine LW.v rfl rfl (Val.not rfl) ?_
                      refine LW.v rfl rfl (Val.move rfl) ?_
                      refine LW.split (d := 131) rfl (fun h131 => ?_) (fun h131 => ?_)
                      · replace h131 := bT h131
                        refine LW.v rfl rfl (Val.move rfl) ?_
                        refine LW.e rfl rfl (Eff.callV rfl Try.call44 (fun w hw => blenP_c b o2 l2 hk2 w (hw.sat.pick (ss := bgP 124 b o2 l2) (by repeat (first | exact .nil | apply Pick.cons | exact .here | apply Ext.there))))) ?_
                        intro _ _
                        refine LW.v rfl rfl (Val.move rfl) ?_
                        refine LW.v rfl rfl (Val.lenSl rfl Try.underlying86) ?_
                        refine LW.v rfl rfl (Val.cmp rfl rfl rfl) ?_
                        refine LW.re 136 (.bool false) rfl (by have := pop_len hP; rcases this with ⟨h5, h6⟩ | ⟨h5, h6⟩; (simp [h5] at h131); (simp; omega)) ?_
                        refine LW.v rfl rfl (Val.pick_t rfl rfl) ?_
                        refine LW.v rfl rfl (Val.pick_f rfl rfl) ?_
                        refine LW.nil ?_
                        refine PQ.seq ?_
                        refine CW.cond_f rfl ?_
                        refine CW.skip ?_
                        refine PQ.in_normal ?_
                        refine PQ.in_normal ?_
                        refine PQ.joinedC ((k.2.1, k.2.2.1, o2, l2)) (⟨hI.id, hk2, by have := pop_len hP; simp only at this ⊢; omega⟩) (by repeat (first | exact trivial | refine ⟨rfl, ?_⟩)) (by repeat (first | exact .nil | apply Pick.cons | exact .here | apply Ext.there))
                      · replace h131 := bF h131
                        refine LW.p rfl rfl ?_
                        refine LW.p rfl rfl ?_
                        refine LW.p rfl rfl ?_
                        refine LW.p rfl rfl ?_
                        refine LW.p rfl rfl ?_
                        refine LW.v rfl rfl (Val.pick_f rfl rfl) ?_
                        refine LW.v rfl rfl (Val.pick_f rfl rfl) ?_
                        refine LW.nil ?_
                        refine PQ.seq ?_
                        refine CW.cond_f rfl ?_
                        refine CW.skip ?_
                        refine PQ.in_normal ?_
                        refine PQ.in_normal ?_
                        exact absurd h131 (by simp [h120])
                · replace h62 := bF h62
                  refine CW.skip ?_
                  refine PQ.in_normal ?_
                  refine PQ.in_normal ?_
                  refine PQ.joinedC ((k.2.1, k.2.2.1, k.2.2.2.1, k.2.2.2.2)) (⟨hI.id, hk, hl⟩) (by repeat (first | exact trivial | refine ⟨rfl, ?_⟩)) (by repeat (first | exact .nil | apply Pick.cons | exact .here | apply Ext.there))
      · intro y hy
        refine PQ.seq ?_
        refine CW.region ?_
        refine LW.v rfl rfl (Val.move rfl) ?_
        refine LW.v rfl rfl (Val.ar rfl rfl rfl (IntWalk.i64_in _ (by omega))) ?_
        refine LW.v rfl rfl (Val.assign rfl) ?_
        refine LW.nil ?_
        refine PQ.round ((k.1 + 1, y.1, y.2.1, y.2.2.1, y.2.2.2)) ⟨by simp only; omega, hy⟩ (by simp only; omega) (by repeat (first | exact trivial | refine ⟨rfl, ?_⟩)) (by repeat (first | exact .nil | apply Pick.cons | exact .here | apply Ext.there))
    · replace h31 := bF h31
      refine CW.exit ?_
      refine PQ.then_exit ?_
      refine PQ.then_exit ?_
      refine PQ.in_here ?_
      refine PQ.seq ?_
      refine CW.seq ?_
      refine CW.region ?_
      refine LW.e rfl rfl (Eff.callV rfl Try.call45 (fun w hw => awake10_c w)) ?_
      intro _ _
      refine LW.v rfl rfl (Val.assign rfl) ?_
      refine LW.nil ?_
      refine PQ.seq ?_
      refine CW.ret ?_
      refine PQ.ret1 rfl rfl ?_
      intro w' hw; exact ⟨rfl, hw.below⟩
end Go.Proofs.Ytgeblajdjdcghaa
