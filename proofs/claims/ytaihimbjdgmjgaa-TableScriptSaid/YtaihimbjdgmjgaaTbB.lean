/- TableLast: the walk of the law. -/
import Derived.Test.YtaihimbjdgmjgaaTbA
import Derived.Lib.Hide
namespace Go.Proofs.Ytaihimbjdgmjgaa
open Go Go.RowKit V
set_option linter.unusedVariables false
set_option maxRecDepth 100000
/-- An act as it lies in memory: eight cells. -/
structure Ac12 where
  d : Int
  l : Lk
  b : Int
  past : Bool
def Ac12.cells (s : Ac12) : List Value := .int .i64 s.d :: (lkC s.l ++ [.int .i64 s.b, .bool s.past])
/-- No act is more than is gone through. -/
def Fit (acts : List Ac12) : Prop := acts.length ≤ 120 ∧ ∀ a ∈ acts, a.l.key.size ≤ 200
theorem Fit.at {acts : List Ac12} (h : Fit acts) {i : Nat} {s : Ac12} (hs : acts[i]? = some s) : s.l.key.size ≤ 1000 := by
  have := h.2 s (List.mem_of_getElem? hs); omega
def plStep (f : ByteArray → Option Lk) (a : Ac12) : ByteArray → Option Lk := if a.d = 0 then fset f a.l else if a.d = 1 then fdel f a.l.key else f
def plF (acts : List Ac12) : ByteArray → Option Lk := acts.foldl plStep fun _ => none
def waStep (k : ByteArray) (o : Option Lk) (a : Ac12) : Option Lk := if a.l.key = k then (if a.d = 0 then some a.l else if a.d = 1 then none else o) else o
def waF (k : ByteArray) (acts : List Ac12) : Option Lk := acts.foldl (waStep k) none
theorem plF_key (k : ByteArray) (acts : List Ac12) : plF acts k = waF k acts := by
  have key : ∀ (l : List Ac12) (f : ByteArray → Option Lk) (o : Option Lk), f k = o → (l.foldl plStep f) k = l.foldl (waStep k) o := by
    intro l
    induction l with
    | nil => intro f o h; exact h
    | cons a r ih =>
      intro f o h
      simp only [List.foldl_cons]
      refine ih _ _ ?_
      subst h
      unfold plStep waStep fset fdel
      by_cases h0 : a.d = 0
      · by_cases hk : a.l.key = k
        · simp [h0, hk]
        · have : ¬ k = a.l.key := fun e => hk e.symm
          simp [h0, hk, this]
      · by_cases h1 : a.d = 1
        · by_cases hk : a.l.key = k
          · simp [h1, hk]
          · have : ¬ k = a.l.key := fun e => hk e.symm
            simp [h1, hk, this]
        · simp [h0, h1]
  exact key acts _ _ rfl
theorem take_snoc {α : Type} {l : List α} {k : Nat} {s : α} (h : l[k]? = some s) : l.take (k + 1) = l.take k ++ [s] := by
  have hlt := (List.getElem?_eq_some_iff.1 h).1
  rw [List.take_succ_eq_append_getElem hlt]
  congr 2
  have := List.getElem?_eq_getElem hlt
  rw [h] at this
  exact (Option.some.inj this).symm
theorem plF_snoc {acts : List Ac12} {k : Nat} {s : Ac12} (h : acts[k]? = some s) : plF (acts.take (k + 1)) = plStep (plF (acts.take k)) s := by
  rw [take_snoc h]; simp [plF]
theorem waF_snoc {q : ByteArray} {acts : List Ac12} {k : Nat} {s : Ac12} (h : acts[k]? = some s) : waF q (acts.take (k + 1)) = waStep q (waF q (acts.take k)) s := by
  rw [take_snoc h]; simp [waF]
def TP (E : ME) (f : ByteArray → Option Lk) (j : Nat) : Prop := ∃ n, n ≤ j ∧ TI E f n
theorem TP.set {E' : ME} {f : ByteArray → Option Lk} {j n : Nat} (hn : n ≤ j) {x : Lk} (h : TI E' (fset f x) (if (f x.key).isSome then n else n + 1)) : TP E' (fset f x) (j + 1) := ⟨_, by split <;> omega, h⟩
theorem TP.del {E' : ME} {f : ByteArray → Option Lk} {j n : Nat} (hn : n ≤ j) {k : ByteArray} (h : TI E' (fdel f k) (if (f k).isSome then n - 1 else n)) : TP E' (fdel f k) (j + 1) := ⟨_, by split <;> omega, h⟩
theorem TP.keep {E : ME} {f : ByteArray → Option Lk} {j n : Nat} (hn : n ≤ j) (h : TI E f n) : TP E f (j + 1) := ⟨n, by omega, h⟩
theorem large12_c (p : Option Addr) (n cap : Nat) (acts : List Ac12) (w : World) (hn : acts.length = n) (h : V.slAt w p 8 Ac12.cells acts) (hm : n ≤ maxLen) : Calls Try.prog 12 [.slice p n cap].toArray w fun e w' => ∃ b : Bool, (b = false → Fit acts) ∧ e = .returned (.bool b) ∧ Below w.heap.size w w' := by
  refine V.calls [] Try.func12 rfl Try.ntmps12 (Nat.le_of_ble_eq_true rfl) (V.sat_nil _) ?_
  refine CW.seq ?_
  refine CW.region ?_
  refine LW.v rfl rfl (Val.assign rfl) ?_
  refine LW.nil ?_
  refine PQ.seq ?_
  refine CW.seq ?_
  refine CW.seq ?_
  refine CW.region ?_
  refine LW.v rfl rfl (Val.move rfl) ?_
  refine LW.v rfl rfl (Val.lenSl rfl Try.underlying37) ?_
  refine LW.v rfl rfl (Val.cmp rfl rfl rfl) ?_
  refine LW.nil ?_
  refine PQ.seq ?_
  refine CW.cond rfl (fun h6 => ?_) (fun h6 => ?_)
  · replace h6 := bT h6
    refine CW.seq ?_
    refine CW.region ?_
    refine LW.v rfl rfl (Val.assign rfl) ?_
    refine LW.nil ?_
    refine PQ.seq ?_
    refine CW.ret ?_
    refine PQ.then_ret ?_
    refine PQ.ret1 rfl rfl ?_
    intro w' hw; exact ⟨true, (fun h => by cases h), rfl, hw.below⟩
  · replace h6 := bF h6
    refine CW.skip ?_
    refine PQ.seq ?_
    refine CW.seq ?_
    refine CW.seq ?_
    refine CW.region ?_
    refine LW.v rfl rfl (Val.assign rfl) ?_
    refine LW.nil ?_
    refine PQ.seq ?_
    refine CW.block ?_
    refine CW.loop (γ := Nat) (fun k => [(0, .slice p n cap), (3, .int .i64 (k : Nat))]) (fun _ => []) (fun k => k ≤ n ∧ ∀ i a, i < k → acts[i]? = some a → a.l.key.size ≤ 200) (fun k => n - k) (0) ⟨Nat.zero_le _, fun i a hi => by omega⟩ (by repeat (first | exact trivial | refine ⟨rfl, ?_⟩)) (by repeat (first | exact .nil | apply Pick.cons | exact .here | apply Ext.there)) ?_
    intro k
    intro hJ
    have hk := hJ.1
    refine CW.seq ?_
    refine CW.seq ?_
    refine CW.region ?_
    refine LW.v rfl rfl (Val.move rfl) ?_
    refine LW.v rfl rfl (Val.move rfl) ?_
    refine LW.v rfl rfl (Val.lenSl rfl Try.underlying37) ?_
    refine LW.v rfl rfl (Val.cmp rfl rfl rfl) ?_
    refine LW.nil ?_
    refine PQ.seq ?_
    refine CW.cond rfl (fun h10 => ?_) (fun h10 => ?_)
    · replace h10 := bT h10
      refine CW.skip ?_
      refine PQ.seq ?_
      refine CW.seq ?_
      refine CW.block ?_
      refine CW.seq ?_
      refine CW.region ?_
      refine LW.v rfl rfl (Val.move rfl) ?_
      refine LW.v rfl rfl (Val.move rfl) ?_
      obtain ⟨bb, oo, s, rfl, hb, hs, h⟩ := V.slAt_at h hn (k := k) (by omega)
      first | (refine LW.v rfl rfl (Val.indexAddrN rfl rfl Try.underlying37 Try.sizeOf60 (by omega)) ?_) | (refine LW.v rfl rfl (Val.indexAddr rfl rfl Try.underlying37 Try.sizeOf60 (by omega) (by omega)) ?_)
      refine LW.v rfl rfl (Val.fieldAddr 1 rfl Try.underlying60 rfl rfl Try.sizeOf44) ?_
      refine LW.v rfl rfl (Val.fieldAddr 0 rfl Try.underlying44 rfl rfl Try.sizeOf9) ?_
      refine LW.v rfl rfl (Val.loadO rfl Try.isAgg9 hb (by simp [ids]) (h k s hs 1 _ rfl)) ?_
      refine LW.v rfl rfl (Val.lenS rfl Try.underlying9) ?_
      refine LW.v rfl rfl (Val.cmp rfl rfl rfl) ?_
      refine LW.nil ?_
      refine PQ.seq ?_
      refine CW.cond rfl (fun h20 => ?_) (fun h20 => ?_)
      · replace h20 := bT h20
        refine CW.seq ?_
        refine CW.region ?_
        refine LW.v rfl rfl (Val.assign rfl) ?_
        refine LW.nil ?_
        refine PQ.seq ?_
        refine CW.ret ?_
        refine PQ.in_ret ?_
        refine PQ.then_ret ?_
        refine PQ.then_ret ?_
        refine PQ.in_ret ?_
        refine PQ.then_ret ?_
        refine PQ.ret1 rfl rfl ?_
        intro w' hw; exact ⟨true, (fun h => by cases h), rfl, hw.below⟩
      · replace h20 := bF h20
        refine CW.skip ?_
        refine PQ.in_normal ?_
        refine PQ.seq ?_
        refine CW.region ?_
        refine LW.v rfl rfl (Val.move rfl) ?_
        refine LW.v rfl rfl (Val.ar rfl rfl rfl (IntWalk.i64_in _ (by omega))) ?_
        refine LW.v rfl rfl (Val.assign rfl) ?_
        refine LW.nil ?_
        refine PQ.round (k + 1) ⟨by omega, fun i a hi ha => by rcases Nat.lt_or_ge i k with h1 | h1; exact hJ.2 i a h1 ha; obtain rfl : i = k := (by omega); rw [hs] at ha; cases ha; omega⟩ (by omega) (by repeat (first | exact trivial | refine ⟨rfl, ?_⟩)) (by repeat (first | exact .nil | apply Pick.cons | exact .here | apply Ext.there))
    · replace h10 := bF h10
      refine CW.exit ?_
      refine PQ.then_exit ?_
      refine PQ.then_exit ?_
      refine PQ.in_here ?_
      refine PQ.seq ?_
      refine CW.seq ?_
      refine CW.region ?_
      refine LW.v rfl rfl (Val.assign rfl) ?_
      refine LW.nil ?_
      refine PQ.seq ?_
      refine CW.ret ?_
      refine PQ.ret1 rfl rfl ?_
      intro w' hw; refine ⟨false, (fun _ => ⟨by omega, fun a ha => ?_⟩), rfl, hw.below⟩
      obtain ⟨i, hi⟩ := List.mem_iff_getElem?.1 ha
      have := (List.getElem?_eq_some_iff.1 hi).1
      exact hJ.2 i a (by omega) hi
def lb1 : Lk := ⟨⟨#[98]⟩, 0, 1, 0, 0⟩
def la0 : Lk := ⟨⟨#[97]⟩, 0, 0, 0, 0⟩
def lb2 : Lk := ⟨⟨#[98]⟩, 0, 2, 0, 0⟩
theorem awake12_c (w : World) : Calls Try.prog 13 [].toArray w fun e w' => e = .returned (.bool true) ∧ Below w.heap.size w w' := by
  have hab : ¬ (⟨#[97]⟩ : ByteArray) = ⟨#[98]⟩ := by decide
  have hba : ¬ (⟨#[98]⟩ : ByteArray) = ⟨#[97]⟩ := by decide
  refine V.calls [] Try.func13 rfl Try.ntmps13 (Nat.le_of_ble_eq_true rfl) (V.sat_nil _) ?_
  refine CW.seq ?_
  refine CW.region ?_
  refine LW.v rfl rfl (Val.assign rfl) ?_
  refine LW.nil ?_
  refine PQ.seq ?_
  refine CW.seq ?_
  refine CW.region ?_
  refine LW.e rfl rfl (Eff.callM ([]) (by repeat (first | exact .nil | apply Pick.cons | exact .here | apply Ext.there)) rfl Try.call30 (fun w hw hs => tnew_c w)) ?_
  rintro ⟨t, m⟩ _
  refine LW.v rfl rfl (Val.assign rfl) ?_
  refine LW.nil ?_
  refine PQ.seq ?_
  refine CW.seq ?_
  refine CW.seq ?_
  refine CW.region ?_
  refine LW.v rfl rfl (Val.move rfl) ?_
  refine LW.v rfl rfl (Val.eqP false rfl rfl Try.underlying39 (.inr ⟨rfl, rfl⟩)) ?_
  refine LW.v rfl rfl (Val.move rfl) ?_
  refine LW.v rfl rfl (Val.move rfl) ?_
  refine LW.v rfl rfl (Val.build [_, _, _, _, _] Try.zeroValue44 Try.underlying44 places44 rfl (by rfl)) ?_
  refine LW.e rfl rfl (Eff.callM (tbG t m [] (fun _ => 0)) (by repeat (first | exact .nil | apply Pick.cons | exact .here | apply Ext.there)) rfl Try.call31 (fun w hw hs => set_c t m [] (fun _ => 0) TI.nil lb1 (by decide) w hs)) ?_
  rintro ⟨E1, c1⟩ hT1
  try simp only at hT1
  refine LW.re 10 (.bool false) rfl (by simp [fset, lb1, la0, lb2, hab, hba]) ?_
  refine LW.v rfl rfl (Val.pick_f rfl rfl) ?_
  refine LW.v rfl rfl (Val.move rfl) ?_
  refine LW.v rfl rfl (Val.move rfl) ?_
  refine LW.v rfl rfl (Val.build [_, _, _, _, _] Try.zeroValue44 Try.underlying44 places44 rfl (by rfl)) ?_
  refine LW.e rfl rfl (Eff.callM (tbG t m E1 c1) (by repeat (first | exact .nil | apply Pick.cons | exact .here | apply Ext.there)) rfl Try.call31 (fun w hw hs => set_c t m E1 c1 hT1 la0 (by decide) w hs)) ?_
  rintro ⟨E2, c2⟩ hT2
  try simp only at hT2
  refine LW.re 15 (.bool false) rfl (by simp [fset, lb1, la0, lb2, hab, hba]) ?_
  refine LW.v rfl rfl (Val.pick_f rfl rfl) ?_
  refine LW.v rfl rfl (Val.move rfl) ?_
  refine LW.v rfl rfl (Val.move rfl) ?_
  refine LW.v rfl rfl (Val.build [_, _, _, _, _] Try.zeroValue44 Try.underlying44 places44 rfl (by rfl)) ?_
  refine LW.e rfl rfl (Eff.callM (tbG t m E2 c2) (by repeat (first | exact .nil | apply Pick.cons | exact .here | apply Ext.there)) rfl Try.call31 (fun w hw hs => set_c t m E2 c2 hT2 lb2 (by decide) w hs)) ?_
  rintro ⟨E3, c3⟩ hT3
  try simp only at hT3
  refine LW.re 20 (.bool true) rfl (by simp [fset, lb1, la0, lb2, hab, hba]) ?_
  refine LW.v rfl rfl (Val.not rfl) ?_
  refine LW.v rfl rfl (Val.pick_f rfl rfl) ?_
  refine LW.nil ?_
  refine PQ.seq ?_
  refine CW.cond_f rfl ?_
  refine CW.skip ?_
  refine PQ.seq ?_
  refine CW.seq ?_
  refine CW.region ?_
  refine LW.v rfl rfl (Val.move rfl) ?_
  refine LW.e rfl rfl (Eff.callV rfl Try.call18 (fun w hw => get_c t m E3 c3 hT3 ⟨#[98]⟩ (by decide) w (hw.sat.pick (ss := tbG t m E3 c3) (by repeat (first | exact .nil | apply Pick.cons | exact .here | apply Ext.there))))) ?_
  intro _ _
  refine LW.re 25 (.tuple [lkV lb2, .bool true].toArray) rfl (by simp [fset, lb1, la0, lb2, hab, hba]) ?_
  refine LW.v rfl rfl (Val.move rfl) ?_
  refine LW.v rfl rfl (Val.extract rfl rfl) ?_
  refine LW.v rfl rfl (Val.extract rfl rfl) ?_
  refine LW.e rfl rfl (Eff.allocA (by exact Try.zeroValue44)) ?_
  intro b2 _
  first | (refine LW.eN rfl (Eff.storeW rfl rfl (by repeat (first | exact .here | apply Upd.there)) (by rfl) Try.sizeOf44 (by rfl)) ?_) | (refine LW.eN rfl (Eff.storeA (l' := _) rfl rfl (by repeat (first | exact .here | apply Upd.there)) (by rfl) (by decide) Try.sizeOf44 (by rfl)) ?_)
  intro _ _
  refine LW.v rfl rfl (Val.assign rfl) ?_
  refine LW.nil ?_
  refine PQ.seq ?_
  refine CW.seq ?_
  refine CW.region ?_
  refine LW.v rfl rfl (Val.move rfl) ?_
  refine LW.v rfl rfl (Val.move rfl) ?_
  refine LW.v rfl rfl (Val.fieldAddr 2 rfl Try.underlying44 rfl rfl Try.sizeOf32) ?_
  refine LW.v rfl rfl (Val.load rfl Try.isAgg32 (by repeat (first | exact .here | refine .there ?_)) (by rfl)) ?_
  refine LW.v rfl rfl (Val.cmp rfl rfl rfl) ?_
  refine LW.v rfl rfl (Val.pick_t rfl rfl) ?_
  refine LW.v rfl rfl (Val.move rfl) ?_
  refine LW.v rfl rfl (Val.move rfl) ?_
  refine LW.e rfl rfl (Eff.callV rfl Try.call16 (fun w hw => len_c t m E3 c3 hT3 (by decide) w (hw.sat.pick (ss := tbG t m E3 c3) (by repeat (first | exact .nil | apply Pick.cons | exact .here | apply Ext.there))))) ?_
  intro _ _
  refine LW.re 36 (.int .i64 2) rfl (by simp [fset, lb1, la0, lb2, hab, hba]) ?_
  refine LW.v rfl rfl (Val.cmp rfl rfl rfl) ?_
  refine LW.v rfl rfl (Val.pick_t rfl rfl) ?_
  refine LW.v rfl rfl (Val.assign rfl) ?_
  refine LW.nil ?_
  refine PQ.seq ?_
  refine CW.ret ?_
  refine PQ.ret1 rfl rfl ?_
  intro w' hw; exact ⟨rfl, hw.below⟩
theorem played12_c (p : Option Addr) (n cap : Nat) (acts : List Ac12) (w : World) (hn : acts.length = n) (h : V.slAt w p 8 Ac12.cells acts) (hF : Fit acts) : Calls Try.prog 14 [.slice p n cap].toArray w fun e w' => ∃ x : Nat × (Nat → Nat) × ME × (Nat → Nat), TP x.2.2.1 (plF acts) n ∧ e = .returned (.pointer (some ⟨x.1, 0, none⟩)) ∧ Hp ⟨w, []⟩ (tbG x.1 x.2.1 x.2.2.1 x.2.2.2) w' := by
  have hn120 := hF.1
  refine V.calls [] Try.func14 rfl Try.ntmps14 (Nat.le_of_ble_eq_true rfl) (V.sat_nil _) ?_
  refine CW.seq ?_
  refine CW.region ?_
  refine LW.v rfl rfl (Val.assign rfl) ?_
  refine LW.nil ?_
  refine PQ.seq ?_
  refine CW.seq ?_
  refine CW.region ?_
  refine LW.e rfl rfl (Eff.callM ([]) (by repeat (first | exact .nil | apply Pick.cons | exact .here | apply Ext.there)) rfl Try.call30 (fun w hw hs => tnew_c w)) ?_
  rintro ⟨t, m⟩ _
  refine LW.v rfl rfl (Val.assign rfl) ?_
  refine LW.nil ?_
  refine PQ.seq ?_
  refine CW.seq ?_
  refine CW.seq ?_
  refine CW.region ?_
  refine LW.v rfl rfl (Val.assign rfl) ?_
  refine LW.nil ?_
  refine PQ.seq ?_
  refine CW.block ?_
  refine CW.loop (γ := Nat × ME × (Nat → Nat)) (fun k => [(0, .slice p n cap), (3, .pointer (some ⟨t, 0, none⟩)), (4, .int .i64 (k.1 : Nat))]) (fun k => tbG t m k.2.1 k.2.2) (fun k => k.1 ≤ n ∧ TP k.2.1 (plF (acts.take k.1)) k.1) (fun k => n - k.1) ((0, [], fun _ => 0)) ⟨Nat.zero_le _, 0, Nat.le_refl _, TI.nil⟩ (by repeat (first | exact trivial | refine ⟨rfl, ?_⟩)) (by repeat (first | exact .nil | apply Pick.cons | exact .here | apply Ext.there)) ?_
  intro k
  rintro ⟨hk, n1, hn1, hT⟩
  refine CW.seq ?_
  refine CW.seq ?_
  refine CW.region ?_
  refine LW.v rfl rfl (Val.move rfl) ?_
  refine LW.v rfl rfl (Val.move rfl) ?_
  refine LW.v rfl rfl (Val.lenSl rfl Try.underlying37) ?_
  refine LW.v rfl rfl (Val.cmp rfl rfl rfl) ?_
  refine LW.v rfl rfl (Val.move rfl) ?_
  refine LW.split (d := 10) rfl (fun h10 => ?_) (fun h10 => ?_)
  · replace h10 := bT h10
    refine LW.v rfl rfl (Val.move rfl) ?_
    refine LW.v rfl rfl (Val.neP false rfl rfl Try.underlying39 (.inr ⟨rfl, rfl⟩)) ?_
    refine LW.v rfl rfl (Val.pick_t rfl rfl) ?_
    refine LW.nil ?_
    refine PQ.seq ?_
    refine CW.cond_t rfl ?_
    refine CW.skip ?_
    refine PQ.seq ?_
    refine CW.seq ?_
    refine CW.join (fun y : ME × (Nat → Nat) => TP y.1 (plF (acts.take (k.1 + 1))) (k.1 + 1)) (fun y => [(0, .slice p n cap), (3, .pointer (some ⟨t, 0, none⟩)), (4, .int .i64 (k.1 : Nat))]) (fun y => tbG t m y.1 y.2) ?_ ?_
    · refine CW.block ?_
      refine CW.seq ?_
      refine CW.region ?_
      refine LW.v rfl rfl (Val.move rfl) ?_
      refine LW.v rfl rfl (Val.move rfl) ?_
      obtain ⟨bb, oo, s, rfl, hb, hs, h⟩ := V.slAt_at h hn (k := k.1) (by omega)
      first | (refine LW.v rfl rfl (Val.indexAddrN rfl rfl Try.underlying37 Try.sizeOf60 (by omega)) ?_) | (refine LW.v rfl rfl (Val.indexAddr rfl rfl Try.underlying37 Try.sizeOf60 (by omega) (by omega)) ?_)
      refine LW.v rfl rfl (Val.fieldAddr 0 rfl Try.underlying60 rfl rfl Try.sizeOf3) ?_
      refine LW.v rfl rfl (Val.loadO rfl Try.isAgg3 hb (by simp [ids]) (h k.1 s hs 0 _ rfl)) ?_
      refine LW.nil ?_
      refine PQ.seq ?_
      refine CW.block ?_
      refine CW.seq ?_
      refine CW.region ?_
      refine LW.v rfl rfl (Val.cmp rfl rfl rfl) ?_
      refine LW.v rfl rfl (Val.assign rfl) ?_
      refine LW.nil ?_
      refine PQ.seq ?_
      refine CW.cond rfl (fun h21 => ?_) (fun h21 => ?_)
      · replace h21 := bT h21
        refine CW.region ?_
        refine LW.v rfl rfl (Val.move rfl) ?_
        refine LW.v rfl rfl (Val.move rfl) ?_
        refine LW.v rfl rfl (Val.move rfl) ?_
        first | (refine LW.v rfl rfl (Val.indexAddrN rfl rfl Try.underlying37 Try.sizeOf60 (by omega)) ?_) | (refine LW.v rfl rfl (Val.indexAddr rfl rfl Try.underlying37 Try.sizeOf60 (by omega) (by omega)) ?_)
        refine LW.v rfl rfl (Val.fieldAddr 1 rfl Try.underlying60 rfl rfl Try.sizeOf44) ?_
        refine LW.v rfl rfl (Val.loadOA (cs := lkC s.l) rfl Try.isAgg44 hb (by simp [ids]) (V.rangeAt_sub (h k.1 s hs) 1 (c := lkC s.l) (r := [.int .i64 s.b, .bool s.past]) rfl) (by exact Try.sizeOf44)) ?_
        refine LW.e rfl rfl (Eff.callM (tbG t m k.2.1 k.2.2) (by repeat (first | exact .nil | apply Pick.cons | exact .here | apply Ext.there)) rfl Try.call31 (fun w hw hs_ => set_c t m k.2.1 k.2.2 hT s.l (hF.at hs) w hs_)) ?_
        intro x hx
        refine LW.nil ?_
        refine PQ.in_normal ?_
        refine PQ.in_normal ?_
        refine PQ.joinedC (x) (by rw [plF_snoc hs, plStep, if_pos h21]; exact TP.set hn1 hx) (by repeat (first | exact trivial | refine ⟨rfl, ?_⟩)) (by repeat (first | exact .nil | apply Pick.cons | exact .here | apply Ext.there))
      · replace h21 := bF h21
        refine CW.seq ?_
        refine CW.region ?_
        refine LW.v rfl rfl (Val.cmp rfl rfl rfl) ?_
        refine LW.v rfl rfl (Val.assign rfl) ?_
        refine LW.nil ?_
        refine PQ.seq ?_
        refine CW.cond rfl (fun h30 => ?_) (fun h30 => ?_)
        · replace h30 := bT h30
          refine CW.region ?_
          refine LW.v rfl rfl (Val.move rfl) ?_
          refine LW.v rfl rfl (Val.move rfl) ?_
          refine LW.v rfl rfl (Val.move rfl) ?_
          first | (refine LW.v rfl rfl (Val.indexAddrN rfl rfl Try.underlying37 Try.sizeOf60 (by omega)) ?_) | (refine LW.v rfl rfl (Val.indexAddr rfl rfl Try.underlying37 Try.sizeOf60 (by omega) (by omega)) ?_)
          refine LW.v rfl rfl (Val.fieldAddr 1 rfl Try.underlying60 rfl rfl Try.sizeOf44) ?_
          refine LW.v rfl rfl (Val.fieldAddr 0 rfl Try.underlying44 rfl rfl Try.sizeOf9) ?_
          refine LW.v rfl rfl (Val.loadO rfl Try.isAgg9 hb (by simp [ids]) (h k.1 s hs 1 _ rfl)) ?_
          refine LW.e rfl rfl (Eff.callM (tbG t m k.2.1 k.2.2) (by repeat (first | exact .nil | apply Pick.cons | exact .here | apply Ext.there)) rfl Try.call33 (fun w hw hs_ => drop_c t m k.2.1 k.2.2 hT s.l.key (hF.at hs) w hs_)) ?_
          intro x hx
          refine LW.nil ?_
          refine PQ.in_normal ?_
          refine PQ.in_normal ?_
          refine PQ.joinedC (x) (by rw [plF_snoc hs, plStep, if_neg h21, if_pos h30]; exact TP.del hn1 hx) (by repeat (first | exact trivial | refine ⟨rfl, ?_⟩)) (by repeat (first | exact .nil | apply Pick.cons | exact .here | apply Ext.there))
        · replace h30 := bF h30
          refine CW.skip ?_
          refine PQ.in_normal ?_
          refine PQ.in_normal ?_
          refine PQ.joinedC (k.2) (by rw [plF_snoc hs, plStep, if_neg h21, if_neg h30]; exact TP.keep hn1 hT) (by repeat (first | exact trivial | refine ⟨rfl, ?_⟩)) (by repeat (first | exact .nil | apply Pick.cons | exact .here | apply Ext.there))
    · intro y hy
      refine PQ.seq ?_
      refine CW.region ?_
      refine LW.v rfl rfl (Val.move rfl) ?_
      refine LW.v rfl rfl (Val.ar rfl rfl rfl (IntWalk.i64_in _ (by omega))) ?_
      refine LW.v rfl rfl (Val.assign rfl) ?_
      refine LW.nil ?_
      refine PQ.round ((k.1 + 1, y.1, y.2)) ⟨by simp only; omega, hy⟩ (by simp only; omega) (by repeat (first | exact trivial | refine ⟨rfl, ?_⟩)) (by repeat (first | exact .nil | apply Pick.cons | exact .here | apply Ext.there))
  · replace h10 := bF h10
    refine LW.p rfl rfl ?_
    refine LW.p rfl rfl ?_
    refine LW.v rfl rfl (Val.pick_f rfl rfl) ?_
    refine LW.nil ?_
    refine PQ.seq ?_
    refine CW.cond_f rfl ?_
    refine CW.exit ?_
    refine PQ.then_exit ?_
    refine PQ.then_exit ?_
    refine PQ.in_here ?_
    refine PQ.seq ?_
    refine CW.seq ?_
    refine CW.region ?_
    refine LW.v rfl rfl (Val.move rfl) ?_
    refine LW.v rfl rfl (Val.assign rfl) ?_
    refine LW.nil ?_
    refine PQ.seq ?_
    refine CW.ret ?_
    refine PQ.ret1 rfl rfl ?_
    intro w' hw; refine ⟨(t, m, k.2.1, k.2.2), ?_, rfl, hw⟩
    have e : k.1 = n := by omega
    rw [e, List.take_of_length_le (by omega)] at hT
    exact ⟨n1, by omega, hT⟩
end Go.Proofs.Ytaihimbjdgmjgaa
