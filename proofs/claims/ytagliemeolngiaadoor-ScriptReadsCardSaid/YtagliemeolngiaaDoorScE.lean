/- numbers; the line of a cut; awake. -/
import Derived.Test.YtagliemeolngiaaDoorScD
import Derived.Test.YtagliemeolngiaaDoorV16
import Derived.Lib.Hide
namespace Go.Proofs.YtagliemeolngiaaDoor
open Go Go.RowKit V
set_option linter.unusedVariables false
set_option maxRecDepth 100000
open V (str byC ownV ownG ownS ownOk)
theorem places44 : ∀ w, ((Array.mapM (fun (f : Field) => do pure (f.offset, ← sizeOf f.type)) (Tryd.prog.fieldsOf 44) : Sem (Array (Nat × Nat)))).run Tryd.prog w = .ok [(0, 1), (1, 1), (2, 1), (3, 5), (8, 1)].toArray w := by
  intro w; kernel_rfl
def decN (n : Nat) : List UInt8 := Go.Lib.decDigits n
/-- Texts as cells. -/
def stC (l : List (List UInt8)) : List Value := l.map str
theorem stC_len (l : List (List UInt8)) : (stC l).length = l.length := by simp [stC]
theorem stC_one (l : List (List UInt8)) : (stC l).all (·.oneCell') = true := by
  simp only [stC, List.all_map, List.all_eq_true]
  intro x _; rfl
theorem stC_append (a b : List (List UInt8)) : stC (a ++ b) = stC a ++ stC b := by simp [stC]
def numL (l : List Int) : List (List UInt8) := l.map fun x => decN x.toNat
def Fits (l : List Int) : Prop := ∀ x ∈ l, 0 ≤ x ∧ x ≤ 999999999
theorem take_num {l : List Int} {k : Nat} {x : Int} (h : l[k]? = some x) : numL (l.take (k + 1)) = numL (l.take k) ++ [decN x.toNat] := by
  have hlt := (List.getElem?_eq_some_iff.1 h).1
  rw [List.take_succ_eq_append_getElem hlt]
  have := List.getElem?_eq_getElem hlt
  rw [h] at this
  simp [numL, (Option.some.inj this).symm]
/-- strings.Join of texts of one's own. -/
theorem join_c (xs : List (List UInt8)) (o : V.OwnO) (sep : List UInt8) (hok : ownOk 1 xs.length (stC xs) o) (hN : xs.length ≤ 140737488355328) (hlen : (Go.Lib.join xs sep).length ≤ 140737488355328) (w : World) (hs : Sat (ownS 9 (stC xs) o) w) : Calls Tryd.prog 42 [ownV xs.length o, str sep].toArray w fun e w' => e = .returned (str (Go.Lib.join xs sep)) ∧ Below w.heap.size w w' := by
  rcases o with _ | ⟨g, rest, cap⟩
  · have h0 : xs.length = 0 := hok.2
    have : xs = [] := List.length_eq_zero_iff.1 h0
    subst this
    exact (Tryd.strings_Join_none none 0 ⟨sep.toArray⟩ w).mono fun e w' ⟨h1, h2⟩ => ⟨by rw [h1]; rfl, h2 ▸ Below.refl _ _⟩
  · have hown := hs.own (g, .cells (stC xs ++ rest).toArray 9 (0, 0)) (by simp [ownS])
    simp only at hown
    have hcap : (stC xs).length + rest.length = cap * 1 := hok.2
    rw [stC_len] at hcap
    have e1 : (xs.map fun x => (⟨x.toArray⟩ : ByteArray)).map (·.data.toList) = xs := by simp [Function.comp_def]
    have h := Tryd.strings_Join g 0 cap (xs.map fun x => (⟨x.toArray⟩ : ByteArray)) ⟨sep.toArray⟩ w (fun j x hj => by
      rw [Nat.zero_add]
      have hj' := (List.getElem?_eq_some_iff.1 hj).1
      simp only [List.length_map] at hj'
      refine V.cell_of_block hown ?_
      rw [List.getElem?_append_left (by rw [stC_len]; exact hj')]
      simp only [List.getElem?_map, Option.map_eq_some_iff] at hj
      obtain ⟨y, hy, rfl⟩ := hj
      simp [stC, hy, str]) (V.lt_of_some hown) (by simp; omega) (by simp; omega) (by rw [e1]; exact hlen)
    rw [e1, List.length_map] at h
    exact h
def ItoaOk (l : List Int) (w : World) : Prop := ∀ x ∈ l, 0 ≤ x → x ≤ 999999999 → ∀ w', Below w.heap.size w w' → Calls Tryd.prog 55 [.int .i64 x].toArray w' fun e w2 => e = .returned (str (decN x.toNat)) ∧ Below w'.heap.size w' w2
theorem itoaSmall (l : List Int) (w : World) (h : ∀ x ∈ l, x < 100) : ItoaOk l w := fun x hx h0 _ w' _ => by
  have h1 := h x hx
  have := Tryd.strconv_Itoa_small x.toNat (by omega) w'
  rw [show ((x.toNat : Nat) : Int) = x by omega] at this
  exact this.mono fun e w2 ⟨h1, h2⟩ => ⟨by rw [h1]; rfl, h2 ▸ Below.refl _ _⟩
theorem numbers_c (p : Option Addr) (n cap : Nat) (l : List Int) (hn : l.length = n) (hl : n ≤ 1000000) (w : World) (h : V.slAt w p 1 (fun x => [Value.int .i64 x]) l) (hf : Fits l) (hI : ItoaOk l w) : Calls Tryd.prog 41 [.slice p n cap].toArray w fun e w' => ∃ o : V.OwnO, ownOk 1 n (stC (numL l)) o ∧ e = .returned (.tuple #[ownV n o, .bool true]) ∧ Hp ⟨w, []⟩ [ownG 9 (stC (numL l)) o] w' := by
  refine V.calls [] Tryd.func41 rfl Tryd.ntmps41 (Nat.le_of_ble_eq_true rfl) (V.sat_nil _) ?_
  refine CW.seq ?_
  refine CW.region ?_
  refine LW.v rfl rfl (Val.assign rfl) ?_
  refine LW.v rfl rfl (Val.assign rfl) ?_
  refine LW.nil ?_
  refine PQ.seq ?_
  refine CW.seq ?_
  refine CW.region ?_
  refine LW.v rfl rfl (Val.assign rfl) ?_
  refine LW.nil ?_
  refine PQ.seq ?_
  refine CW.seq ?_
  refine CW.seq ?_
  refine CW.region ?_
  refine LW.v rfl rfl (Val.move rfl) ?_
  refine LW.v rfl rfl (Val.lenSl rfl Tryd.underlying42) ?_
  refine LW.v rfl rfl (Val.move rfl) ?_
  refine LW.nil ?_
  refine PQ.seq ?_
  refine CW.block ?_
  refine CW.perm (sg' := [ownG 9 (stC []) none]) ?_ (.refl _)
  refine CW.loop (γ := Nat × V.OwnO) (fun k => [(4, ownV k.1 k.2), (7, .slice p n cap), (8, .int .i64 (n : Nat)), (9, .int .i64 (k.1 : Nat))]) (fun k => [ownG 9 (stC (numL (l.take k.1))) k.2]) (fun k => k.1 ≤ n ∧ ownOk 1 k.1 (stC (numL (l.take k.1))) k.2) (fun k => n - k.1) ((0, none)) ⟨Nat.zero_le _, rfl, rfl⟩ (by repeat (first | exact trivial | refine ⟨rfl, ?_⟩)) (by repeat (first | exact .nil | apply Pick.cons | exact .here | apply Ext.there)) ?_
  intro k
  rintro ⟨hkn, hk⟩
  refine CW.seq ?_
  refine CW.region ?_
  refine LW.v rfl rfl (Val.cmp rfl rfl rfl) ?_
  refine LW.nil ?_
  refine PQ.seq ?_
  refine CW.seq ?_
  refine CW.cond rfl (fun h10 => ?_) (fun h10 => ?_)
  · replace h10 := bT h10
    obtain ⟨bb, oo, x, rfl, hb, hx, hh⟩ := V.slAt_at h hn (k := k.1) (by omega)
    have hfx := hf x (List.mem_of_getElem? hx)
    refine CW.skip ?_
    refine PQ.seq ?_
    refine CW.seq ?_
    refine CW.block ?_
    refine CW.seq ?_
    refine CW.region ?_
    first | (refine LW.v rfl rfl (Val.indexAddrN rfl rfl Tryd.underlying42 Tryd.sizeOf3 (by omega)) ?_) | (refine LW.v rfl rfl (Val.indexAddr rfl rfl Tryd.underlying42 Tryd.sizeOf3 (by omega) (by omega)) ?_)
    refine LW.v rfl rfl (Val.loadO rfl Tryd.isAgg3 hb (by simp [ids]) (hh k.1 x hx 0 _ rfl)) ?_
    refine LW.v rfl rfl (Val.assign rfl) ?_
    refine LW.nil ?_
    refine PQ.seq ?_
    refine CW.seq ?_
    refine CW.seq ?_
    refine CW.region ?_
    refine LW.v rfl rfl (Val.move rfl) ?_
    refine LW.v rfl rfl (Val.cmp rfl rfl rfl) ?_
    refine LW.re 14 (.bool false) rfl (by simp; omega) ?_
    refine LW.v rfl rfl (Val.move rfl) ?_
    refine LW.v rfl rfl (Val.move rfl) ?_
    refine LW.v rfl rfl (Val.cmp rfl rfl rfl) ?_
    refine LW.re 17 (.bool false) rfl (by simp; omega) ?_
    refine LW.v rfl rfl (Val.pick_f rfl rfl) ?_
    refine LW.nil ?_
    refine PQ.seq ?_
    refine CW.cond_f rfl ?_
    refine CW.skip ?_
    refine PQ.seq ?_
    refine CW.region ?_
    refine LW.v rfl rfl (Val.move rfl) ?_
    refine LW.v rfl rfl (Val.move rfl) ?_
    refine LW.e rfl rfl (Eff.callV rfl Tryd.call55 (fun w hw => hI x (List.mem_of_getElem? hx) hfx.1 hfx.2 w hw.below)) ?_
    intro _ _
    refine LW.e rfl rfl (Eff.buildSlice (rfl) [_] Tryd.underlying73 Tryd.sizeOf9 (by exact Tryd.zeroValue9) rfl rfl rfl rfl (by rfl)) ?_
    intro b22 _
    refine LW.e rfl rfl (Eff.appendAny (stC [decN x.toNat]) (sz := 1) (bytes := 16) (z := .string ⟨#[]⟩) (xs := stC (numL (l.take k.1))) (m0 := k.1) (o := k.2) (m := 1) (pk := [ownG 9 (stC (numL (l.take k.1))) k.2]) rfl rfl Tryd.underlying73 (by kernel_rfl) rfl (by omega) (by repeat (first | exact .nil | apply Pick.cons | exact .here | apply Ext.there)) (by simp) hk rfl (fun hm0 => ⟨b22, 0, rfl, fun w hw => V.range_of_block (o := 0) (cs := stC [decN x.toNat]) (r := []) (hw.own _ (show InS (b22, .cells (stC [decN x.toNat]).toArray 9 (0, 0)) _ from (by repeat (first | exact .here | refine .there ?_))).mem) rfl⟩) (stC_one _) (by omega) (by omega)) ?_
    intro o2 ho2
    refine LW.v rfl rfl (Val.assign rfl) ?_
    refine LW.nil ?_
    refine PQ.in_normal ?_
    refine PQ.seq ?_
    refine CW.region ?_
    refine LW.v rfl rfl (Val.ar rfl rfl rfl (IntWalk.i64_in _ (by omega))) ?_
    refine LW.v rfl rfl (Val.move rfl) ?_
    refine LW.nil ?_
    rw [← stC_append, ← take_num hx]
    refine PQ.round ((k.1 + 1, o2)) ⟨by simp only; omega, by rw [take_num hx, stC_append]; exact ho2⟩ (by simp only; omega) (by repeat (first | exact trivial | refine ⟨rfl, ?_⟩)) (by repeat (first | exact .nil | apply Pick.cons | exact .here | apply Ext.there))
  · replace h10 := bF h10
    refine CW.exit ?_
    refine PQ.then_exit ?_
    refine PQ.then_exit ?_
    refine PQ.in_here ?_
    refine PQ.seq ?_
    refine CW.seq ?_
    refine CW.region ?_
    refine LW.v rfl rfl (Val.move rfl) ?_
    refine LW.v rfl rfl (Val.assign rfl) ?_
    refine LW.v rfl rfl (Val.assign rfl) ?_
    refine LW.nil ?_
    refine PQ.seq ?_
    refine CW.ret ?_
    refine PQ.ret2 rfl rfl rfl ?_
    intro w' hw
    have e : k.1 = n := by omega
    have e2 : l.take k.1 = l := List.take_of_length_le (by omega)
    rw [e2, e] at hk
    rw [e2] at hw
    exact ⟨k.2, hk, by rw [e], hw⟩
theorem sat_ownG {e : Nat} {xs : List Value} {o : V.OwnO} {w : World} (h : Sat [ownG e xs o] w) : Sat (ownS e xs o) w := ⟨fun p hp => h.own p (by simpa [ownG] using hp), by have := h.nd; simpa [ownG] using this⟩
theorem numL_len (l : List Int) : (numL l).length = l.length := by simp [numL]
theorem lineCut_c (th ln k0 : Int) (s1 s2 s3 g : Value) (p : Option Addr) (n cap : Nat) (l : List Int) (hn : l.length = n) (hl : n ≤ 1000000) (w : World) (h : V.slAt w p 1 (fun x => [Value.int .i64 x]) l) (hf : Fits l) (hI : ItoaOk l w) (hj : (Go.Lib.join ([99, 117, 116] :: numL l) [32]).length ≤ 140737488355328) (h1 : s1.oneCell' = true) (h2 : s2.oneCell' = true) (h3 : s3.oneCell' = true) (h4 : g.oneCell' = true) : Calls Tryd.prog 22 [.agg [.int .i64 5, .int .i64 th, .int .i64 ln, .int .i64 k0, s1, s2, s3, g, .slice p n cap].toArray].toArray w fun e w' => e = .returned (.tuple #[str (Go.Lib.join ([99, 117, 116] :: numL l) [32]), .int .i64 0]) ∧ Below w.heap.size w w' := by
  refine V.calls [] Tryd.func22 rfl Tryd.ntmps22 (Nat.le_of_ble_eq_true rfl) (V.sat_nil _) ?_
  refine CW.seq ?_
  refine CW.region ?_
  refine LW.e rfl rfl (Eff.boxA rfl) ?_
  intro b1 _
  refine LW.v rfl rfl (Val.assign rfl) ?_
  refine LW.v rfl rfl (Val.assign rfl) ?_
  refine LW.nil ?_
  refine PQ.seq ?_
  refine CW.seq ?_
  refine CW.region ?_
  refine LW.v rfl rfl (Val.assign rfl) ?_
  refine LW.nil ?_
  refine PQ.seq ?_
  refine CW.seq ?_
  refine CW.region ?_
  refine LW.v rfl rfl (Val.assign rfl) ?_
  refine LW.nil ?_
  refine PQ.seq ?_
  refine CW.seq ?_
  refine CW.region ?_
  refine LW.v rfl rfl (Val.assign rfl) ?_
  refine LW.nil ?_
  refine PQ.seq ?_
  refine CW.seq ?_
  refine CW.seq ?_
  refine CW.region ?_
  refine LW.v rfl rfl (Val.fieldAddr 0 rfl Tryd.underlying44 rfl rfl Tryd.sizeOf3) ?_
  refine LW.v rfl rfl (Val.load rfl Tryd.isAgg3 (by repeat (first | exact .here | refine .there ?_)) (by rfl)) ?_
  refine LW.nil ?_
  refine PQ.seq ?_
  refine CW.block ?_
  refine CW.seq ?_
  refine CW.region ?_
  refine LW.v rfl rfl (Val.cmp rfl rfl rfl) ?_
  refine LW.v rfl rfl (Val.assign rfl) ?_
  refine LW.nil ?_
  refine PQ.seq ?_
  refine CW.cond_f rfl ?_
  refine CW.seq ?_
  refine CW.region ?_
  refine LW.v rfl rfl (Val.cmp rfl rfl rfl) ?_
  refine LW.v rfl rfl (Val.assign rfl) ?_
  refine LW.nil ?_
  refine PQ.seq ?_
  refine CW.cond_f rfl ?_
  refine CW.seq ?_
  refine CW.region ?_
  refine LW.v rfl rfl (Val.cmp rfl rfl rfl) ?_
  refine LW.v rfl rfl (Val.assign rfl) ?_
  refine LW.nil ?_
  refine PQ.seq ?_
  refine CW.cond_f rfl ?_
  refine CW.seq ?_
  refine CW.region ?_
  refine LW.v rfl rfl (Val.cmp rfl rfl rfl) ?_
  refine LW.v rfl rfl (Val.assign rfl) ?_
  refine LW.nil ?_
  refine PQ.seq ?_
  refine CW.cond_f rfl ?_
  refine CW.seq ?_
  refine CW.region ?_
  refine LW.v rfl rfl (Val.cmp rfl rfl rfl) ?_
  refine LW.v rfl rfl (Val.assign rfl) ?_
  refine LW.nil ?_
  refine PQ.seq ?_
  refine CW.cond_t rfl ?_
  refine CW.quiet mixed (by kernel_rfl) ?_
  refine QW.v rfl rfl (Val.fieldAddr 8 rfl Tryd.underlying44 rfl rfl Tryd.sizeOf42) ?_
  refine QW.v rfl rfl (Val.load rfl Tryd.isAgg42 (by repeat (first | exact .here | refine .there ?_)) (by rfl)) ?_
  refine QW.v rfl rfl (Val.assign rfl) ?_
  refine QW.v rfl rfl (Val.assign rfl) ?_
  refine QW.nil ?_
  refine PQ.in_normal ?_
  refine PQ.seq ?_
  refine CW.seq ?_
  refine CW.region ?_
  refine LW.v rfl rfl (Val.move rfl) ?_
  refine LW.e rfl rfl (Eff.callM ([]) (by repeat (first | exact .nil | apply Pick.cons | exact .here | apply Ext.there)) rfl Tryd.call41 (fun w hw hs => numbers_c p n cap l hn hl w (hw.slAt h (by simp [ids])) hf (fun x hx h0 h1 w2 hb => hI x hx h0 h1 w2 (hw.below.trans (hb.mono hw.size))))) ?_
  intro o9 ho9
  refine LW.v rfl rfl (Val.move rfl) ?_
  refine LW.v rfl rfl (Val.extract rfl rfl) ?_
  refine LW.v rfl rfl (Val.extract rfl rfl) ?_
  refine LW.v rfl rfl (Val.assign rfl) ?_
  refine LW.v rfl rfl (Val.assign rfl) ?_
  refine LW.nil ?_
  refine PQ.seq ?_
  refine CW.seq ?_
  refine CW.seq ?_
  refine CW.region ?_
  refine LW.v rfl rfl (Val.move rfl) ?_
  refine LW.v rfl rfl (Val.not rfl) ?_
  refine LW.nil ?_
  refine PQ.seq ?_
  refine CW.cond_f rfl ?_
  refine CW.skip ?_
  refine PQ.seq ?_
  refine CW.seq ?_
  refine CW.region ?_
  refine LW.v rfl rfl (Val.move rfl) ?_
  refine LW.e rfl rfl (Eff.buildSlice (rfl) [_] Tryd.underlying73 Tryd.sizeOf9 (by exact Tryd.zeroValue9) rfl rfl rfl rfl (by rfl)) ?_
  intro b53 _
  refine LW.v rfl rfl (Val.move rfl) ?_
  refine LW.e rfl rfl (Eff.appendOwn (sz := 1) (bytes := 16) (z := .string ⟨#[]⟩) (xs := stC [[99, 117, 116]]) (ys := stC (numL l)) (m0 := 1) (m := n) (o := some (b53, [], 1)) (oy := o9) (pk := [[(b53, .cells [str [99, 117, 116]].toArray 9 (0, 0))]]) (pk2 := [ownG 9 (stC (numL l)) o9]) rfl rfl Tryd.underlying73 (by kernel_rfl) rfl (by omega) (by repeat (first | exact .nil | apply Pick.cons | exact .here | apply Ext.there)) (by first | rfl | simp [V.ownG_some, stC]) ⟨rfl, rfl⟩ (by repeat (first | exact .nil | apply Pick.cons | exact .here | apply Ext.there)) (by simp) ho9 (stC_one _) (by omega) (by omega)) ?_
  intro o2 ho2
  refine LW.v rfl rfl (Val.move rfl) ?_
  refine LW.e rfl rfl (Eff.appendAny [] (sz := 1) (bytes := 16) (z := .string ⟨#[]⟩) (xs := stC [[99, 117, 116]] ++ stC (numL l)) (m0 := 1 + n) (o := o2) (m := 0) (pk := [ownG 9 (stC [[99, 117, 116]] ++ stC (numL l)) o2]) rfl rfl Tryd.underlying73 (by kernel_rfl) rfl (by omega) (by repeat (first | exact .nil | apply Pick.cons | exact .here | apply Ext.there)) (by simp) ho2 rfl (fun hm0 => absurd hm0 (by omega)) rfl (by omega) (by omega)) ?_
  intro o3 ho3
  rw [show stC [[99, 117, 116]] ++ stC (numL l) ++ [] = stC ([99, 117, 116] :: numL l) from by simp [stC], show 1 + n + 0 = ([99, 117, 116] :: numL l).length from by rw [List.length_cons, numL_len]; omega] at ho3
  rw [show stC [[99, 117, 116]] ++ stC (numL l) ++ [] = stC ([99, 117, 116] :: numL l) from by simp [stC], show 1 + n + 0 = ([99, 117, 116] :: numL l).length from by rw [List.length_cons, numL_len]; omega]
  refine LW.e rfl rfl (Eff.callV rfl Tryd.call42 (fun w hw => join_c ([99, 117, 116] :: numL l) o3 [32] ho3 (by rw [List.length_cons, numL_len]; omega) hj w (sat_ownG (hw.sat.pick (ss := [ownG 9 (stC ([99, 117, 116] :: numL l)) o3]) (by repeat (first | exact .nil | apply Pick.cons | exact .here | apply Ext.there)))))) ?_
  intro _ _
  refine LW.v rfl rfl (Val.assign rfl) ?_
  refine LW.v rfl rfl (Val.assign rfl) ?_
  refine LW.nil ?_
  refine PQ.seq ?_
  refine CW.ret ?_
  refine PQ.ret2 rfl rfl rfl ?_
  intro w' hw; exact ⟨rfl, hw.below⟩
theorem join12 : Go.Lib.join ([99, 117, 116] :: numL [1, 2]) [32] = [99, 117, 116, 32, 49, 32, 50] := by
  have e1 : decN (1 : Int).toNat = [49] := by unfold decN; rw [Go.Lib.decDigits]; rfl
  have e2 : decN (2 : Int).toNat = [50] := by unfold decN; rw [Go.Lib.decDigits]; rfl
  simp only [numL, List.map_cons, List.map_nil, e1, e2]
  rfl
theorem awake28_c (w : World) : Calls Tryd.prog 11 [].toArray w fun e w' => e = .returned (.bool true) ∧ Below w.heap.size w w' := by
  refine V.calls [] Tryd.func11 rfl Tryd.ntmps11 (Nat.le_of_ble_eq_true rfl) (V.sat_nil _) ?_
  refine CW.seq ?_
  refine CW.region ?_
  refine LW.v rfl rfl (Val.assign rfl) ?_
  refine LW.nil ?_
  refine PQ.seq ?_
  refine CW.seq ?_
  refine CW.region ?_
  refine LW.e rfl rfl (Eff.callV rfl Tryd.call12 (fun w hw => text_c [97, 37, 50, 48, 98, 37, 50, 53] (by decide) w)) ?_
  intro _ _
  refine LW.re 6 (.tuple [str [97, 32, 98, 37], .bool true].toArray) rfl (by rw [show textF [97, 37, 50, 48, 98, 37, 50, 53] = some [97, 32, 98, 37] from by decide]; rfl) ?_
  refine LW.v rfl rfl (Val.move rfl) ?_
  refine LW.v rfl rfl (Val.extract rfl rfl) ?_
  refine LW.v rfl rfl (Val.extract rfl rfl) ?_
  refine LW.v rfl rfl (Val.assign rfl) ?_
  refine LW.v rfl rfl (Val.assign rfl) ?_
  refine LW.nil ?_
  refine PQ.seq ?_
  refine CW.seq ?_
  refine CW.region ?_
  refine LW.e rfl rfl (Eff.buildSlice (rfl) [_, _] Tryd.underlying42 Tryd.sizeOf3 (by exact Tryd.zeroValue3) rfl rfl rfl rfl (by rfl)) ?_
  intro b10 _
  refine LW.v rfl rfl (Val.build [_, _, _, _, _, _, _, _, _] Tryd.zeroValue44 Tryd.underlying44 places44 rfl (by rfl)) ?_
  refine LW.e rfl rfl (Eff.callV rfl Tryd.call22 (fun w hw => lineCut_c 0 0 0 (str []) (str []) (str []) (.slice none 0 0) (some ⟨b10, 0, none⟩) 2 2 [1, 2] rfl (by omega) w (V.slAt_flat (cs := [.int .i64 1, .int .i64 2]) (r := []) hw (fun _ => rfl) rfl (by repeat (first | exact .here | refine .there ?_))) (by intro x hx; simp at hx; omega) (itoaSmall _ _ (by intro x hx; simp at hx; omega)) (by rw [join12]; decide) rfl rfl rfl rfl)) ?_
  intro _ _
  refine LW.re 12 (.tuple [str [99, 117, 116, 32, 49, 32, 50], .int .i64 0].toArray) rfl (by rw [join12]) ?_
  refine LW.v rfl rfl (Val.move rfl) ?_
  refine LW.v rfl rfl (Val.extract rfl rfl) ?_
  refine LW.v rfl rfl (Val.extract rfl rfl) ?_
  refine LW.v rfl rfl (Val.assign rfl) ?_
  refine LW.v rfl rfl (Val.assign rfl) ?_
  refine LW.nil ?_
  refine PQ.seq ?_
  refine CW.seq ?_
  refine CW.region ?_
  refine LW.e rfl rfl (Eff.callV rfl Tryd.call14 (fun w hw => word_c [] (by decide) w)) ?_
  intro _ _
  refine LW.v rfl rfl (Val.eqStr rfl rfl) ?_
  refine LW.re 16 (.bool true) rfl rfl ?_
  refine LW.v rfl rfl (Val.move rfl) ?_
  refine LW.e rfl rfl (Eff.callV rfl Tryd.call14 (fun w hw => word_c [45] (by decide) w)) ?_
  intro _ _
  refine LW.v rfl rfl (Val.eqStr rfl rfl) ?_
  refine LW.re 19 (.bool true) rfl rfl ?_
  refine LW.v rfl rfl (Val.pick_t rfl rfl) ?_
  refine LW.v rfl rfl (Val.move rfl) ?_
  refine LW.v rfl rfl (Val.move rfl) ?_
  refine LW.v rfl rfl (Val.eqStr rfl rfl) ?_
  refine LW.re 23 (.bool true) rfl rfl ?_
  refine LW.v rfl rfl (Val.pick_t rfl rfl) ?_
  refine LW.v rfl rfl (Val.move rfl) ?_
  refine LW.v rfl rfl (Val.move rfl) ?_
  refine LW.v rfl rfl (Val.pick_t rfl rfl) ?_
  refine LW.v rfl rfl (Val.move rfl) ?_
  refine LW.v rfl rfl (Val.move rfl) ?_
  refine LW.v rfl rfl (Val.eqStr rfl rfl) ?_
  refine LW.re 30 (.bool true) rfl rfl ?_
  refine LW.v rfl rfl (Val.pick_t rfl rfl) ?_
  refine LW.v rfl rfl (Val.move rfl) ?_
  refine LW.v rfl rfl (Val.move rfl) ?_
  refine LW.v rfl rfl (Val.cmp rfl rfl rfl) ?_
  refine LW.re 34 (.bool true) rfl rfl ?_
  refine LW.v rfl rfl (Val.pick_t rfl rfl) ?_
  refine LW.v rfl rfl (Val.assign rfl) ?_
  refine LW.nil ?_
  refine PQ.seq ?_
  refine CW.ret ?_
  refine PQ.ret1 rfl rfl ?_
  intro w' hw; exact ⟨rfl, hw.below⟩
end Go.Proofs.YtagliemeolngiaaDoor
