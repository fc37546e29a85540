/- Set, Drop with stamps; played; TableSorted. -/
import Derived.Test.YtaihimbjdgmjgaaTbF
import Derived.Lib.Hide
namespace Go.Proofs.Ytaihimbjdgmjgaa
open Go Go.RowKit V
set_option linter.unusedVariables false
set_option maxRecDepth 100000
open V (ownV ownG ownS ownOk Stp Vis itO)
theorem drop2_c (t : Nat) (m : Nat → Nat) (E : ME) (c : Nat → Nat) {f : ByteArray → Option Lk} {n : Nat} (hT : TK E c f n) (k : ByteArray) (hk : k.size ≤ 1000) (w : World) (hs : Sat (tbG t m E c) w) : Calls Try.prog 33 [.pointer (some ⟨t, 0, none⟩), .string k].toArray w fun e w' => ∃ x_ : ME × (Nat → Nat), TK x_.1 x_.2 (fdel f k) (if (f k).isSome then n - 1 else n) ∧ e = .returned (.tuple #[lkV ((f k).getD lk0), .bool (f k).isSome]) ∧ Hp ⟨w, ids (tbG t m E c)⟩ (tbG t m x_.1 x_.2) w' := by
  have hbk := bk_lt k
  refine V.calls (tbG t m E c) Try.func33 rfl Try.ntmps33 (Nat.le_of_ble_eq_true rfl) hs ?_
  refine CW.seq ?_
  refine CW.region ?_
  refine LW.e rfl rfl (Eff.allocA (by exact Try.zeroValue44)) ?_
  intro b4 _
  refine LW.v rfl rfl (Val.assign rfl) ?_
  refine LW.nil ?_
  refine PQ.seq ?_
  refine CW.seq ?_
  refine CW.region ?_
  refine LW.v rfl rfl (Val.move rfl) ?_
  refine LW.v rfl rfl (Val.move rfl) ?_
  refine LW.e rfl rfl (Eff.callV rfl Try.call50 (fun w hw => of_c t m E c k hk w (hw.sat.pick (ss := tbG t m E c) (by repeat (first | exact .nil | apply Pick.cons | exact .here | apply Ext.there))))) ?_
  intro _ _
  refine LW.v rfl rfl (Val.assign rfl) ?_
  refine LW.nil ?_
  refine PQ.seq ?_
  refine CW.seq ?_
  refine CW.region ?_
  refine LW.v rfl rfl (Val.move rfl) ?_
  refine LW.v rfl rfl (Val.move rfl) ?_
  refine LW.v rfl rfl (Val.lookup rfl rfl Try.underlying71 Try.underlying9 Try.zeroValue44 (by repeat (first | exact InS.nth (tbSeg_at m E c hbk) | refine .there ?_))) ?_
  refine LW.re 15 (.tuple [lkV ((f k).getD lk0), .bool (f k).isSome].toArray) rfl (by rw [fil_get, hT.ti.get]; cases f k <;> rfl) ?_
  refine LW.v rfl rfl (Val.move rfl) ?_
  refine LW.v rfl rfl (Val.extract rfl rfl) ?_
  refine LW.v rfl rfl (Val.extract rfl rfl) ?_
  refine LW.e rfl rfl (Eff.allocA (by exact Try.zeroValue44)) ?_
  intro b7 _
  first | (refine LW.eN rfl (Eff.storeW rfl rfl (by repeat (first | exact .here | apply Upd.there)) (by rfl) Try.sizeOf44 (by rfl)) ?_) | (refine LW.eN rfl (Eff.storeA (l' := _) rfl rfl (by repeat (first | exact .here | apply Upd.there)) (by rfl) (by decide) Try.sizeOf44 (by rfl)) ?_)
  intro _ _
  refine LW.v rfl rfl (Val.assign rfl) ?_
  refine LW.nil ?_
  refine PQ.seq ?_
  refine CW.seq ?_
  refine CW.region ?_
  refine LW.v rfl rfl (Val.move rfl) ?_
  refine LW.v rfl rfl (Val.move rfl) ?_
  refine LW.eN rfl (Eff.delete rfl rfl Try.underlying71 Try.underlying9 (by repeat (first | exact Upd.nth (tbSeg_at m E c hbk) | apply Upd.there))) ?_
  intro _ _
  refine LW.nil ?_
  refine PQ.seq ?_
  refine CW.seq ?_
  refine CW.region ?_
  first | (refine LW.v rfl rfl (Val.loadW rfl Try.isAgg44 (by repeat (first | exact .here | refine .there ?_)) (by exact Try.sizeOf44)) ?_) | (refine LW.v rfl rfl (Val.loadA [_, _, _, _, _] rfl Try.isAgg44 (by repeat (first | exact .here | refine .there ?_)) (by rfl) Try.sizeOf44) ?_)
  refine LW.v rfl rfl (Val.move rfl) ?_
  first | (refine LW.eN rfl (Eff.storeW rfl rfl (by repeat (first | exact .here | apply Upd.there)) (by rfl) Try.sizeOf44 (by rfl)) ?_) | (refine LW.eN rfl (Eff.storeA (l' := _) rfl rfl (by repeat (first | exact .here | apply Upd.there)) (by rfl) (by decide) Try.sizeOf44 (by rfl)) ?_)
  intro _ _
  refine LW.v rfl rfl (Val.assign rfl) ?_
  refine LW.nil ?_
  refine PQ.seq ?_
  refine CW.ret ?_
  refine PQ.retCT rfl rfl rfl (by repeat (first | exact .here | refine .there ?_)) Try.isAgg44 (by exact Try.sizeOf44) ?_
  intro w' hw; refine ⟨(mdel E k, c), hT.del k, rfl, ?_⟩
  rw [tbSeg_del] at hw
  exact hw.pick (by repeat (first | exact .nil | apply Pick.cons | exact .here | apply Ext.there))
theorem set2_c (t : Nat) (m : Nat → Nat) (E : ME) (c : Nat → Nat) {f : ByteArray → Option Lk} {n : Nat} (hT : TK E c f n) (x : Lk) (hk : x.key.size ≤ 1000) (w : World) (hs : Sat (tbG t m E c) w) : Calls Try.prog 31 [.pointer (some ⟨t, 0, none⟩), .agg (lkC x).toArray].toArray w fun e w' => ∃ x_ : ME × (Nat → Nat), TK x_.1 x_.2 (fset f x) (if (f x.key).isSome then n else n + 1) ∧ e = .returned (.bool (f x.key).isSome) ∧ Hp ⟨w, ids (tbG t m E c)⟩ (tbG t m x_.1 x_.2) w' := by
  have hbk := bk_lt x.key
  refine V.calls (tbG t m E c) Try.func31 rfl Try.ntmps31 (Nat.le_of_ble_eq_true rfl) hs ?_
  refine CW.seq ?_
  refine CW.region ?_
  refine LW.e rfl rfl (Eff.boxA rfl) ?_
  intro b3 _
  refine LW.v rfl rfl (Val.assign rfl) ?_
  refine LW.nil ?_
  refine PQ.seq ?_
  refine CW.seq ?_
  refine CW.region ?_
  refine LW.v rfl rfl (Val.move rfl) ?_
  refine LW.v rfl rfl (Val.fieldAddr 0 rfl Try.underlying44 rfl rfl Try.sizeOf9) ?_
  refine LW.v rfl rfl (Val.load rfl Try.isAgg9 (by repeat (first | exact .here | refine .there ?_)) (by rfl)) ?_
  refine LW.e rfl rfl (Eff.callV rfl Try.call50 (fun w hw => of_c t m E c x.key hk w (hw.sat.pick (ss := tbG t m E c) (by repeat (first | exact .nil | apply Pick.cons | exact .here | apply Ext.there))))) ?_
  intro _ _
  refine LW.v rfl rfl (Val.assign rfl) ?_
  refine LW.nil ?_
  refine PQ.seq ?_
  refine CW.seq ?_
  refine CW.seq ?_
  refine CW.region ?_
  refine LW.v rfl rfl (Val.move rfl) ?_
  refine LW.v rfl rfl (Val.eqM rfl rfl Try.underlying71) ?_
  refine LW.nil ?_
  refine PQ.seq ?_
  refine CW.cond_f rfl ?_
  refine CW.skip ?_
  refine PQ.seq ?_
  refine CW.seq ?_
  refine CW.region ?_
  refine LW.v rfl rfl (Val.move rfl) ?_
  refine LW.v rfl rfl (Val.fieldAddr 0 rfl Try.underlying44 rfl rfl Try.sizeOf9) ?_
  refine LW.v rfl rfl (Val.load rfl Try.isAgg9 (by repeat (first | exact .here | refine .there ?_)) (by rfl)) ?_
  refine LW.v rfl rfl (Val.lookup rfl rfl Try.underlying71 Try.underlying9 Try.zeroValue44 (by repeat (first | exact InS.nth (tbSeg_at m E c hbk) | refine .there ?_))) ?_
  refine LW.re 18 (.tuple [lkV ((f x.key).getD lk0), .bool (f x.key).isSome].toArray) rfl (by rw [fil_get, hT.ti.get]; cases f x.key <;> rfl) ?_
  refine LW.v rfl rfl (Val.move rfl) ?_
  refine LW.v rfl rfl (Val.extract rfl rfl) ?_
  refine LW.v rfl rfl (Val.extract rfl rfl) ?_
  refine LW.e rfl rfl (Eff.allocA (by exact Try.zeroValue44)) ?_
  intro b6 _
  first | (refine LW.eN rfl (Eff.storeW rfl rfl (by repeat (first | exact .here | apply Upd.there)) (by rfl) Try.sizeOf44 (by rfl)) ?_) | (refine LW.eN rfl (Eff.storeA (l' := _) rfl rfl (by repeat (first | exact .here | apply Upd.there)) (by rfl) (by decide) Try.sizeOf44 (by rfl)) ?_)
  intro _ _
  refine LW.v rfl rfl (Val.assign rfl) ?_
  refine LW.nil ?_
  refine PQ.seq ?_
  refine CW.seq ?_
  refine CW.region ?_
  refine LW.v rfl rfl (Val.move rfl) ?_
  refine LW.v rfl rfl (Val.fieldAddr 0 rfl Try.underlying44 rfl rfl Try.sizeOf9) ?_
  refine LW.v rfl rfl (Val.load rfl Try.isAgg9 (by repeat (first | exact .here | refine .there ?_)) (by rfl)) ?_
  first | (refine LW.v rfl rfl (Val.loadW rfl Try.isAgg44 (by repeat (first | exact .here | refine .there ?_)) (by exact Try.sizeOf44)) ?_) | (refine LW.v rfl rfl (Val.loadA [_, _, _, _, _] rfl Try.isAgg44 (by repeat (first | exact .here | refine .there ?_)) (by rfl) Try.sizeOf44) ?_)
  refine LW.eN rfl (Eff.mapUpdate rfl rfl rfl Try.underlying71 Try.underlying9 (by repeat (first | exact Upd.nth (tbSeg_at m E c hbk) | apply Upd.there))) ?_
  intro _ _
  refine LW.nil ?_
  refine PQ.seq ?_
  refine CW.seq ?_
  refine CW.region ?_
  refine LW.v rfl rfl (Val.move rfl) ?_
  refine LW.v rfl rfl (Val.assign rfl) ?_
  refine LW.nil ?_
  refine PQ.seq ?_
  refine CW.ret ?_
  refine PQ.ret1 rfl rfl ?_
  intro w' hw; refine ⟨(mput E x.key (lkV x) (c (bk x.key)), cput E c x.key), hT.set x hk, rfl, ?_⟩
  have e := tbSeg_put m E c x.key (lkV x)
  unfold lkV at e
  rw [e] at hw
  exact hw.pick (by repeat (first | exact .nil | apply Pick.cons | exact .here | apply Ext.there))
def TQ (E : ME) (c : Nat → Nat) (f : ByteArray → Option Lk) (j : Nat) : Prop := ∃ n, n ≤ j ∧ TK E c f n
theorem TQ.set {E' : ME} {c' : Nat → Nat} {f : ByteArray → Option Lk} {j n : Nat} (hn : n ≤ j) {x : Lk} (h : TK E' c' (fset f x) (if (f x.key).isSome then n else n + 1)) : TQ E' c' (fset f x) (j + 1) := ⟨_, by split <;> omega, h⟩
theorem TQ.del {E' : ME} {c' : Nat → Nat} {f : ByteArray → Option Lk} {j n : Nat} (hn : n ≤ j) {k : ByteArray} (h : TK E' c' (fdel f k) (if (f k).isSome then n - 1 else n)) : TQ E' c' (fdel f k) (j + 1) := ⟨_, by split <;> omega, h⟩
theorem TQ.keep {E : ME} {c : Nat → Nat} {f : ByteArray → Option Lk} {j n : Nat} (hn : n ≤ j) (h : TK E c f n) : TQ E c f (j + 1) := ⟨n, by omega, h⟩
theorem played2_c (p : Option Addr) (n cap : Nat) (acts : List Ac12) (w : World) (hn : acts.length = n) (h : V.slAt w p 8 Ac12.cells acts) (hF : Fit acts) : Calls Try.prog 14 [.slice p n cap].toArray w fun e w' => ∃ x : Nat × (Nat → Nat) × ME × (Nat → Nat), TQ x.2.2.1 x.2.2.2 (plF acts) n ∧ e = .returned (.pointer (some ⟨x.1, 0, none⟩)) ∧ Hp ⟨w, []⟩ (tbG x.1 x.2.1 x.2.2.1 x.2.2.2) w' := by
  have hn120 := hF.1
  refine V.calls [] Try.func14 rfl Try.ntmps14 (Nat.le_of_ble_eq_true rfl) (V.sat_nil _) ?_
  refine CW.seq ?_
  refine CW.region ?_
  refine LW.v rfl rfl (Val.assign rfl) ?_
  refine LW.nil ?_
  refine PQ.seq ?_
  refine CW.seq ?_
  refine CW.region ?_
  refine LW.e rfl rfl (Eff.callM ([]) (by repeat (first | exact .nil | apply Pick.cons | exact .here | apply Ext.there)) rfl Try.call30 (fun w hw hs => tnew_c w)) ?_
  rintro ⟨t, m⟩ _
  refine LW.v rfl rfl (Val.assign rfl) ?_
  refine LW.nil ?_
  refine PQ.seq ?_
  refine CW.seq ?_
  refine CW.seq ?_
  refine CW.region ?_
  refine LW.v rfl rfl (Val.assign rfl) ?_
  refine LW.nil ?_
  refine PQ.seq ?_
  refine CW.block ?_
  refine CW.loop (γ := Nat × ME × (Nat → Nat)) (fun k => [(0, .slice p n cap), (3, .pointer (some ⟨t, 0, none⟩)), (4, .int .i64 (k.1 : Nat))]) (fun k => tbG t m k.2.1 k.2.2) (fun k => k.1 ≤ n ∧ TQ k.2.1 k.2.2 (plF (acts.take k.1)) k.1) (fun k => n - k.1) ((0, [], fun _ => 0)) ⟨Nat.zero_le _, 0, Nat.le_refl _, TK.nil⟩ (by repeat (first | exact trivial | refine ⟨rfl, ?_⟩)) (by repeat (first | exact .nil | apply Pick.cons | exact .here | apply Ext.there)) ?_
  intro k
  rintro ⟨hk, n1, hn1, hT⟩
  refine CW.seq ?_
  refine CW.seq ?_
  refine CW.region ?_
  refine LW.v rfl rfl (Val.move rfl) ?_
  refine LW.v rfl rfl (Val.move rfl) ?_
  refine LW.v rfl rfl (Val.lenSl rfl Try.underlying37) ?_
  refine LW.v rfl rfl (Val.cmp rfl rfl rfl) ?_
  refine LW.v rfl rfl (Val.move rfl) ?_
  refine LW.split (d := 10) rfl (fun h10 => ?_) (fun h10 => ?_)
  · replace h10 := bT h10
    refine LW.v rfl rfl (Val.move rfl) ?_
    refine LW.v rfl rfl (Val.neP false rfl rfl Try.underlying39 (.inr ⟨rfl, rfl⟩)) ?_
    refine LW.v rfl rfl (Val.pick_t rfl rfl) ?_
    refine LW.nil ?_
    refine PQ.seq ?_
    refine CW.cond_t rfl ?_
    refine CW.skip ?_
    refine PQ.seq ?_
    refine CW.seq ?_
    refine CW.join (fun y : ME × (Nat → Nat) => TQ y.1 y.2 (plF (acts.take (k.1 + 1))) (k.1 + 1)) (fun y => [(0, .slice p n cap), (3, .pointer (some ⟨t, 0, none⟩)), (4, .int .i64 (k.1 : Nat))]) (fun y => tbG t m y.1 y.2) ?_ ?_
    · refine CW.block ?_
      refine CW.seq ?_
      refine CW.region ?_
      refine LW.v rfl rfl (Val.move rfl) ?_
      refine LW.v rfl rfl (Val.move rfl) ?_
      obtain ⟨bb, oo, s, rfl, hb, hs, h⟩ := V.slAt_at h hn (k := k.1) (by omega)
      first | (refine LW.v rfl rfl (Val.indexAddrN rfl rfl Try.underlying37 Try.sizeOf60 (by omega)) ?_) | (refine LW.v rfl rfl (Val.indexAddr rfl rfl Try.underlying37 Try.sizeOf60 (by omega) (by omega)) ?_)
      refine LW.v rfl rfl (Val.fieldAddr 0 rfl Try.underlying60 rfl rfl Try.sizeOf3) ?_
      refine LW.v rfl rfl (Val.loadO rfl Try.isAgg3 hb (by simp [ids]) (h k.1 s hs 0 _ rfl)) ?_
      refine LW.nil ?_
      refine PQ.seq ?_
      refine CW.block ?_
      refine CW.seq ?_
      refine CW.region ?_
      refine LW.v rfl rfl (Val.cmp rfl rfl rfl) ?_
      refine LW.v rfl rfl (Val.assign rfl) ?_
      refine LW.nil ?_
      refine PQ.seq ?_
      refine CW.cond rfl (fun h21 => ?_) (fun h21 => ?_)
      · replace h21 := bT h21
        refine CW.region ?_
        refine LW.v rfl rfl (Val.move rfl) ?_
        refine LW.v rfl rfl (Val.move rfl) ?_
        refine LW.v rfl rfl (Val.move rfl) ?_
        first | (refine LW.v rfl rfl (Val.indexAddrN rfl rfl Try.underlying37 Try.sizeOf60 (by omega)) ?_) | (refine LW.v rfl rfl (Val.indexAddr rfl rfl Try.underlying37 Try.sizeOf60 (by omega) (by omega)) ?_)
        refine LW.v rfl rfl (Val.fieldAddr 1 rfl Try.underlying60 rfl rfl Try.sizeOf44) ?_
        refine LW.v rfl rfl (Val.loadOA (cs := lkC s.l) rfl Try.isAgg44 hb (by simp [ids]) (V.rangeAt_sub (h k.1 s hs) 1 (c := lkC s.l) (r := [.int .i64 s.b, .bool s.past]) rfl) (by exact Try.sizeOf44)) ?_
        refine LW.e rfl rfl (Eff.callM (tbG t m k.2.1 k.2.2) (by repeat (first | exact .nil | apply Pick.cons | exact .here | apply Ext.there)) rfl Try.call31 (fun w hw hs_ => set2_c t m k.2.1 k.2.2 hT s.l (hF.at hs) w hs_)) ?_
        intro x hx
        refine LW.nil ?_
        refine PQ.in_normal ?_
        refine PQ.in_normal ?_
        refine PQ.joinedC (x) (by rw [plF_snoc hs, plStep, if_pos h21]; exact TQ.set hn1 hx) (by repeat (first | exact trivial | refine ⟨rfl, ?_⟩)) (by repeat (first | exact .nil | apply Pick.cons | exact .here | apply Ext.there))
      · replace h21 := bF h21
        refine CW.seq ?_
        refine CW.region ?_
        refine LW.v rfl rfl (Val.cmp rfl rfl rfl) ?_
        refine LW.v rfl rfl (Val.assign rfl) ?_
        refine LW.nil ?_
        refine PQ.seq ?_
        refine CW.cond rfl (fun h30 => ?_) (fun h30 => ?_)
        · replace h30 := bT h30
          refine CW.region ?_
          refine LW.v rfl rfl (Val.move rfl) ?_
          refine LW.v rfl rfl (Val.move rfl) ?_
          refine LW.v rfl rfl (Val.move rfl) ?_
          first | (refine LW.v rfl rfl (Val.indexAddrN rfl rfl Try.underlying37 Try.sizeOf60 (by omega)) ?_) | (refine LW.v rfl rfl (Val.indexAddr rfl rfl Try.underlying37 Try.sizeOf60 (by omega) (by omega)) ?_)
          refine LW.v rfl rfl (Val.fieldAddr 1 rfl Try.underlying60 rfl rfl Try.sizeOf44) ?_
          refine LW.v rfl rfl (Val.fieldAddr 0 rfl Try.underlying44 rfl rfl Try.sizeOf9) ?_
          refine LW.v rfl rfl (Val.loadO rfl Try.isAgg9 hb (by simp [ids]) (h k.1 s hs 1 _ rfl)) ?_
          refine LW.e rfl rfl (Eff.callM (tbG t m k.2.1 k.2.2) (by repeat (first | exact .nil | apply Pick.cons | exact .here | apply Ext.there)) rfl Try.call33 (fun w hw hs_ => drop2_c t m k.2.1 k.2.2 hT s.l.key (hF.at hs) w hs_)) ?_
          intro x hx
          refine LW.nil ?_
          refine PQ.in_normal ?_
          refine PQ.in_normal ?_
          refine PQ.joinedC (x) (by rw [plF_snoc hs, plStep, if_neg h21, if_pos h30]; exact TQ.del hn1 hx) (by repeat (first | exact trivial | refine ⟨rfl, ?_⟩)) (by repeat (first | exact .nil | apply Pick.cons | exact .here | apply Ext.there))
        · replace h30 := bF h30
          refine CW.skip ?_
          refine PQ.in_normal ?_
          refine PQ.in_normal ?_
          refine PQ.joinedC (k.2) (by rw [plF_snoc hs, plStep, if_neg h21, if_neg h30]; exact TQ.keep hn1 hT) (by repeat (first | exact trivial | refine ⟨rfl, ?_⟩)) (by repeat (first | exact .nil | apply Pick.cons | exact .here | apply Ext.there))
    · intro y hy
      refine PQ.seq ?_
      refine CW.region ?_
      refine LW.v rfl rfl (Val.move rfl) ?_
      refine LW.v rfl rfl (Val.ar rfl rfl rfl (IntWalk.i64_in _ (by omega))) ?_
      refine LW.v rfl rfl (Val.assign rfl) ?_
      refine LW.nil ?_
      refine PQ.round ((k.1 + 1, y.1, y.2)) ⟨by simp only; omega, hy⟩ (by simp only; omega) (by repeat (first | exact trivial | refine ⟨rfl, ?_⟩)) (by repeat (first | exact .nil | apply Pick.cons | exact .here | apply Ext.there))
  · replace h10 := bF h10
    refine LW.p rfl rfl ?_
    refine LW.p rfl rfl ?_
    refine LW.v rfl rfl (Val.pick_f rfl rfl) ?_
    refine LW.nil ?_
    refine PQ.seq ?_
    refine CW.cond_f rfl ?_
    refine CW.exit ?_
    refine PQ.then_exit ?_
    refine PQ.then_exit ?_
    refine PQ.in_here ?_
    refine PQ.seq ?_
    refine CW.seq ?_
    refine CW.region ?_
    refine LW.v rfl rfl (Val.move rfl) ?_
    refine LW.v rfl rfl (Val.assign rfl) ?_
    refine LW.nil ?_
    refine PQ.seq ?_
    refine CW.ret ?_
    refine PQ.ret1 rfl rfl ?_
    intro w' hw; refine ⟨(t, m, k.2.1, k.2.2), ?_, rfl, hw⟩
    have e : k.1 = n := by omega
    rw [e, List.take_of_length_le (by omega)] at hT
    exact ⟨n1, by omega, hT⟩
theorem own_some {sz n : Nat} {xs : List Value} {o : V.OwnO} (h : ownOk sz n xs o) (hn : 0 < n) : ∃ q, o = some q := by
  rcases o with _ | q
  · have h0 : n = 0 := h.2
    omega
  · exact ⟨q, rfl⟩
theorem lk_drop {L : List Lk} {k : Nat} {x : Lk} (rest : List Value) (h : L[k]? = some x) : ∃ q, (L.flatMap lkC ++ rest).drop (0 + k * 5) = lkC x ++ q := by
  obtain ⟨r, hr⟩ := V.drop_flatMap (enc := lkC) (sz := 5) (fun _ => rfl) L k x h
  have hlt := (List.getElem?_eq_some_iff.1 h).1
  have hlen := V.flatMap_len (enc := lkC) (k := 5) (fun _ => rfl) L
  have h2 : k * 5 + 5 ≤ L.length * 5 := by omega
  exact ⟨r ++ rest, by rw [Nat.zero_add, List.drop_append_of_le_length (by omega), hr, List.append_assoc]⟩
theorem cell_of_drop {l cs q : List Value} {a j : Nat} {v : Value} (h : l.drop a = cs ++ q) (hj : cs[j]? = some v) : l[a + j]? = some v := by
  have := congrArg (fun x : List Value => x[j]?) h
  simp only [List.getElem?_drop] at this
  rw [this, List.getElem?_append_left (List.getElem?_eq_some_iff.1 hj).1, hj]
theorem less_key {x y : Lk} (h : kL x < kL y) : Op.bytesLess x.key.toList y.key.toList = true := by
  rw [ByteArray.toList_eq, ByteArray.toList_eq, Go.Proofs.bytesLess_eq]
  exact decide_eq_true h
theorem tableSorted_c (p : Option Addr) (n cap : Nat) (acts : List Ac12) (w : World) (hn : acts.length = n) (h : V.slAt w p 8 Ac12.cells acts) (hm : n ≤ maxLen) : Calls Try.prog 4 [.slice p n cap].toArray w fun e w' => e = .returned (.bool true) ∧ Below w.heap.size w w' := by
  refine V.calls [] Try.func4 rfl Try.ntmps4 (Nat.le_of_ble_eq_true rfl) (V.sat_nil _) ?_
  refine CW.seq ?_
  refine CW.region ?_
  refine LW.v rfl rfl (Val.assign rfl) ?_
  refine LW.nil ?_
  refine PQ.seq ?_
  refine CW.seq ?_
  refine CW.seq ?_
  refine CW.region ?_
  refine LW.v rfl rfl (Val.move rfl) ?_
  refine LW.e rfl rfl (Eff.callR rfl Try.call12 (fun w hw => large12_c p n cap acts w hn (hw.slAt h (by simp [ids])) hm)) ?_
  intro lg hlg
  refine LW.nil ?_
  refine PQ.seq ?_
  refine CW.cond rfl (fun h7 => ?_) (fun h7 => ?_)
  · replace h7 := bT h7
    refine CW.seq ?_
    refine CW.region ?_
    refine LW.e rfl rfl (Eff.callV rfl Try.call13 (fun w hw => awake12_c w)) ?_
    intro _ _
    refine LW.v rfl rfl (Val.assign rfl) ?_
    refine LW.nil ?_
    refine PQ.seq ?_
    refine CW.ret ?_
    refine PQ.then_ret ?_
    refine PQ.ret1 rfl rfl ?_
    intro w' hw; exact ⟨rfl, hw.below⟩
  · replace h7 := bF h7
    refine CW.skip ?_
    refine PQ.seq ?_
    refine CW.seq ?_
    refine CW.region ?_
    refine LW.v rfl rfl (Val.move rfl) ?_
    refine LW.e rfl rfl (Eff.callM ([]) (by repeat (first | exact .nil | apply Pick.cons | exact .here | apply Ext.there)) rfl Try.call14 (fun w hw hs0 => played2_c p n cap acts w hn (hw.slAt h (by simp [ids])) (hlg h7))) ?_
    rintro ⟨t, m, E, c⟩ ⟨n1, hn1, hT⟩
    try simp only at hT
    refine LW.v rfl rfl (Val.assign rfl) ?_
    refine LW.nil ?_
    refine PQ.seq ?_
    refine CW.seq ?_
    refine CW.seq ?_
    refine CW.region ?_
    refine LW.v rfl rfl (Val.move rfl) ?_
    refine LW.v rfl rfl (Val.eqP false rfl rfl Try.underlying39 (.inr ⟨rfl, rfl⟩)) ?_
    refine LW.nil ?_
    refine PQ.seq ?_
    refine CW.cond_f rfl ?_
    refine CW.skip ?_
    refine PQ.seq ?_
    refine CW.seq ?_
    refine CW.region ?_
    refine LW.v rfl rfl (Val.move rfl) ?_
    refine LW.e rfl rfl (Eff.callM (tbG t m E c) (by repeat (first | exact .nil | apply Pick.cons | exact .here | apply Ext.there)) rfl Try.call15 (fun w hw hs0 => allT_c t m E c hT (by have := (hlg h7).1; omega) w hs0)) ?_
    rintro ⟨o, L⟩ ⟨hA, hok⟩
    simp only at hA hok
    refine LW.v rfl rfl (Val.assign rfl) ?_
    refine LW.nil ?_
    refine PQ.seq ?_
    refine CW.seq ?_
    refine CW.seq ?_
    refine CW.region ?_
    refine LW.v rfl rfl (Val.assign rfl) ?_
    refine LW.nil ?_
    refine PQ.seq ?_
    refine CW.block ?_
    refine CW.loop (γ := Nat) (fun k => [(3, .pointer (some ⟨t, 0, none⟩)), (4, ownV L.length o), (5, .int .i64 ((k + 1 : Nat) : Int))]) (fun _ => tbG t m E c ++ [ownG 44 (L.flatMap lkC) o]) (fun k => k ≤ L.length) (fun k => L.length - k) (0) (Nat.zero_le _) (by repeat (first | exact trivial | refine ⟨rfl, ?_⟩)) (by repeat (first | exact .nil | apply Pick.cons | exact .here | apply Ext.there)) ?_
    intro k
    intro hJ
    have hLn := hA.len
    have hF1 := (hlg h7).1
    refine CW.seq ?_
    refine CW.seq ?_
    refine CW.region ?_
    refine LW.v rfl rfl (Val.move rfl) ?_
    refine LW.v rfl rfl (Val.move rfl) ?_
    refine LW.v rfl rfl (Val.lenOwn rfl Try.underlying41 hok) ?_
    refine LW.v rfl rfl (Val.cmp rfl rfl rfl) ?_
    refine LW.nil ?_
    refine PQ.seq ?_
    refine CW.cond rfl (fun h18 => ?_) (fun h18 => ?_)
    · replace h18 := bT h18
      obtain ⟨⟨g, rest, capl⟩, rfl⟩ := own_some hok (by omega)
      obtain ⟨x, hx⟩ : ∃ x, L[k]? = some x := ⟨L[k]'(by omega), by simp⟩
      obtain ⟨y, hy⟩ : ∃ y, L[k + 1]? = some y := ⟨L[k + 1]'(by omega), by simp⟩
      obtain ⟨q1, hq1⟩ := lk_drop rest hx
      obtain ⟨q2, hq2⟩ := lk_drop rest hy
      have hxy : kL x < kL y := by
        have h1 := List.pairwise_iff_getElem.1 hA.up k (k + 1) (by omega) (by omega) (by omega)
        rw [(List.getElem?_eq_some_iff.1 hx).2, (List.getElem?_eq_some_iff.1 hy).2] at h1
        exact h1
      refine CW.skip ?_
      refine PQ.seq ?_
      refine CW.seq ?_
      refine CW.block ?_
      refine CW.seq ?_
      refine CW.quiet mixedT (by kernel_rfl) ?_
      refine QW.v rfl rfl (Val.move rfl) ?_
      refine QW.v rfl rfl (Val.move rfl) ?_
      refine QW.v rfl rfl (Val.ar rfl rfl rfl (IntWalk.i64_in _ (by omega))) ?_
      refine QW.re 23 (.int .i64 ((k : Nat) : Int)) rfl (by simp) ?_
      first | (refine QW.v rfl rfl (Val.indexAddrN rfl rfl Try.underlying41 Try.sizeOf44 (by omega)) ?_) | (refine QW.v rfl rfl (Val.indexAddr rfl rfl Try.underlying41 Try.sizeOf44 (by omega) (by omega)) ?_)
      refine QW.v rfl rfl (Val.fieldAddr 0 rfl Try.underlying44 rfl rfl Try.sizeOf9) ?_
      refine QW.v rfl rfl (Val.load (v := .string x.key) rfl Try.isAgg9 (show InS (g, .cells (L.flatMap lkC ++ rest).toArray 44 (0, 0)) _ from (by repeat (first | exact .here | refine .there ?_))) (cell_of_drop hq1 (j := 0) rfl)) ?_
      refine QW.v rfl rfl (Val.move rfl) ?_
      refine QW.v rfl rfl (Val.move rfl) ?_
      first | (refine QW.v rfl rfl (Val.indexAddrN rfl rfl Try.underlying41 Try.sizeOf44 (by omega)) ?_) | (refine QW.v rfl rfl (Val.indexAddr rfl rfl Try.underlying41 Try.sizeOf44 (by omega) (by omega)) ?_)
      refine QW.v rfl rfl (Val.fieldAddr 0 rfl Try.underlying44 rfl rfl Try.sizeOf9) ?_
      refine QW.v rfl rfl (Val.load (v := .string y.key) rfl Try.isAgg9 (show InS (g, .cells (L.flatMap lkC ++ rest).toArray 44 (0, 0)) _ from (by repeat (first | exact .here | refine .there ?_))) (cell_of_drop hq2 (j := 0) rfl)) ?_
      refine QW.v rfl rfl (Val.cmpS rfl rfl rfl) ?_
      refine QW.re 32 (.bool false) rfl (by rw [less_key hxy]; rfl) ?_
      refine QW.nil ?_
      refine PQ.seq ?_
      refine CW.cond_f rfl ?_
      refine CW.skip ?_
      refine PQ.in_normal ?_
      refine PQ.seq ?_
      refine CW.region ?_
      refine LW.v rfl rfl (Val.move rfl) ?_
      refine LW.v rfl rfl (Val.ar rfl rfl rfl (IntWalk.i64_in _ (by omega))) ?_
      refine LW.v rfl rfl (Val.assign rfl) ?_
      refine LW.nil ?_
      refine PQ.round (k + 1) (by omega) (by omega) (by repeat (first | exact trivial | refine ⟨rfl, ?_⟩)) (by repeat (first | exact .nil | apply Pick.cons | exact .here | apply Ext.there))
    · replace h18 := bF h18
      refine CW.exit ?_
      refine PQ.then_exit ?_
      refine PQ.then_exit ?_
      refine PQ.in_here ?_
      refine PQ.seq ?_
      refine CW.seq ?_
      refine CW.region ?_
      refine LW.v rfl rfl (Val.move rfl) ?_
      refine LW.v rfl rfl (Val.lenOwn rfl Try.underlying41 hok) ?_
      refine LW.v rfl rfl (Val.move rfl) ?_
      refine LW.e rfl rfl (Eff.callV rfl Try.call16 (fun w hw => len_c t m E c hT.ti (by have := (hlg h7).1; omega) w (hw.sat.pick (ss := tbG t m E c) (by repeat (first | exact .nil | apply Pick.cons | exact .here | apply Ext.there))))) ?_
      intro _ _
      refine LW.v rfl rfl (Val.cmp rfl rfl rfl) ?_
      refine LW.re 37 (.bool true) rfl (by simp [hA.len]) ?_
      refine LW.v rfl rfl (Val.move rfl) ?_
      refine LW.e rfl rfl (Eff.callV rfl Try.call13 (fun w hw => awake12_c w)) ?_
      intro _ _
      refine LW.v rfl rfl (Val.pick_t rfl rfl) ?_
      refine LW.v rfl rfl (Val.assign rfl) ?_
      refine LW.nil ?_
      refine PQ.seq ?_
      refine CW.ret ?_
      refine PQ.ret1 rfl rfl ?_
      intro w' hw; exact ⟨rfl, hw.below⟩
end Go.Proofs.Ytaihimbjdgmjgaa
