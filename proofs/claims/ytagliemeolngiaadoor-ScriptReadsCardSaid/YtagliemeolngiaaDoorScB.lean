/- Words and texts: what they are; the functions plain, Word, hex. -/
import Derived.Test.YtagliemeolngiaaDoorScA
import Derived.Test.YtagliemeolngiaaDoorSh
import Derived.Lib.Hide
namespace Go.Proofs.YtagliemeolngiaaDoor
open Go Go.RowKit V
set_option linter.unusedVariables false
set_option maxRecDepth 100000
open V (str byC ownV ownG ownS ownOk)
/-- A builder as one segment. -/
theorem wbP_c (b : Nat) (u : Bool) (o : V.OwnO) (l : List UInt8) (hk : sbOk o l) (hl : l.length ≤ 1000000) (c : UInt8) (w : World) (hs : Sat (sbG b u o l) w) : Calls Tryd.prog 28 [.pointer (some ⟨b, 0, none⟩), .int .u8 (c.toNat : Nat)].toArray w fun e w' => ∃ o' : V.OwnO, sbOk o' (l ++ [c]) ∧ e = .returned .nilIface ∧ Hp ⟨w, ids (sbG b u o l)⟩ (sbG b true o' (l ++ [c])) w' :=
  (wb_c b u o l hk hl c w (sbG_sat hs)).mono fun e w' ⟨o', h1, h2, h3⟩ => ⟨o', h1, h2, by rw [sbG_ids]; exact sbG_hp h3⟩
theorem wsP_c (b : Nat) (u : Bool) (o : V.OwnO) (l : List UInt8) (hk : sbOk o l) (hl : l.length ≤ 1000000) (m : List UInt8) (hm : m.length ≤ 1000000) (hne : m ≠ []) (w : World) (hs : Sat (sbG b u o l) w) : Calls Tryd.prog 33 [.pointer (some ⟨b, 0, none⟩), str m].toArray w fun e w' => ∃ o' : V.OwnO, sbOk o' (l ++ m) ∧ e = .returned (.tuple #[.int .i64 (m.length : Nat), .nilIface]) ∧ Hp ⟨w, ids (sbG b u o l)⟩ (sbG b true o' (l ++ m)) w' :=
  (ws_c b u o l hk hl m hm w (sbG_sat hs)).mono fun e w' ⟨o', h1, h2, h3⟩ => ⟨o', h1 hne, h2, by rw [sbG_ids]; exact sbG_hp h3⟩
theorem stP_c (b : Nat) (u : Bool) (o : V.OwnO) (l : List UInt8) (hk : sbOk o l) (hl : l.length ≤ 1000000) (w : World) (hs : Sat (sbG b u o l) w) : Calls Tryd.prog 30 [.pointer (some ⟨b, 0, none⟩)].toArray w fun e w' => ∃ _u : Unit, True ∧ e = .returned (str l) ∧ Hp ⟨w, ids (sbG b u o l)⟩ [] w' :=
  (st_c b u o l hk hl w (sbG_sat hs)).mono fun e w' ⟨o', h1, h2, h3⟩ => ⟨o', h1, h2, by rw [sbG_ids]; exact h3⟩
def hexL : List UInt8 := [48, 49, 50, 51, 52, 53, 54, 55, 56, 57, 97, 98, 99, 100, 101, 102]
def plainB (c : UInt8) : Bool := decide (33 ≤ c.toNat) && decide (c.toNat ≤ 126) && decide (c.toNat ≠ 37) && decide (c.toNat ≠ 59)
def hexD (n : Nat) : UInt8 := hexL.getD n 0
def escB (c : UInt8) : List UInt8 := [37, hexD (c.toNat / 16), hexD (c.toNat % 16)]
def wB (c : UInt8) : List UInt8 := if plainB c then [c] else escB c
def wordF (s : List UInt8) : List UInt8 := if s = [] then [45] else if s = [45] then [37, 50, 100] else s.flatMap wB
theorem wB_len (c : UInt8) : (wB c).length ≤ 3 := by unfold wB escB; split <;> simp
theorem flat_wB_len (s : List UInt8) : (s.flatMap wB).length ≤ 3 * s.length := by
  induction s with
  | nil => simp
  | cons c r ih => simp only [List.flatMap_cons, List.length_append, List.length_cons]; have := wB_len c; omega
theorem take_wB {s : List UInt8} {k : Nat} {c : UInt8} (h : s[k]? = some c) : (s.take (k + 1)).flatMap wB = (s.take k).flatMap wB ++ wB c := by
  have hlt := (List.getElem?_eq_some_iff.1 h).1
  rw [List.take_succ_eq_append_getElem hlt, List.flatMap_append]
  have := List.getElem?_eq_getElem hlt
  rw [h] at this
  simp [(Option.some.inj this).symm]
theorem hex_at {n : Nat} (h : n < 16) : ((hexL.drop n).take (n + 1 - n)) = [hexD n] := by
  have : ∀ n : Fin 16, ((hexL.drop n.val).take (n.val + 1 - n.val)) = [hexD n.val] := by decide
  exact this ⟨n, h⟩
theorem u8_wrap {x : Int} (h0 : 0 ≤ x) (h1 : x < 256) : IntKind.u8.wrap x = x := IntWalk.u8_in _ (by omega)
theorem u8_lt (c : UInt8) : c.toNat < 256 := c.toNat_lt
theorem plain_c (c : UInt8) (w : World) : Calls Tryd.prog 32 [.int .u8 (c.toNat : Nat)].toArray w fun e w' => e = .returned (.bool (plainB c)) ∧ Below w.heap.size w w' := by
  refine V.calls [] Tryd.func32 rfl Tryd.ntmps32 (Nat.le_of_ble_eq_true rfl) (V.sat_nil _) ?_
  refine CW.seq ?_
  refine CW.region ?_
  refine LW.v rfl rfl (Val.assign rfl) ?_
  refine LW.nil ?_
  refine PQ.seq ?_
  refine CW.seq ?_
  refine CW.region ?_
  refine LW.v rfl rfl (Val.move rfl) ?_
  refine LW.v rfl rfl (Val.cmp rfl rfl rfl) ?_
  refine LW.v rfl rfl (Val.move rfl) ?_
  refine LW.split (d := 5) rfl (fun h5 => ?_) (fun h5 => ?_)
  · replace h5 := bT h5
    refine LW.v rfl rfl (Val.move rfl) ?_
    refine LW.v rfl rfl (Val.cmp rfl rfl rfl) ?_
    refine LW.v rfl rfl (Val.pick_t rfl rfl) ?_
    refine LW.v rfl rfl (Val.move rfl) ?_
    refine LW.split (d := 9) rfl (fun h9 => ?_) (fun h9 => ?_)
    · replace h9 := bT h9
      refine LW.v rfl rfl (Val.move rfl) ?_
      refine LW.v rfl rfl (Val.cmp rfl rfl rfl) ?_
      refine LW.v rfl rfl (Val.pick_t rfl rfl) ?_
      refine LW.v rfl rfl (Val.move rfl) ?_
      refine LW.split (d := 13) rfl (fun h13 => ?_) (fun h13 => ?_)
      · replace h13 := bT h13
        refine LW.v rfl rfl (Val.move rfl) ?_
        refine LW.v rfl rfl (Val.cmp rfl rfl rfl) ?_
        refine LW.v rfl rfl (Val.pick_t rfl rfl) ?_
        refine LW.v rfl rfl (Val.assign rfl) ?_
        refine LW.nil ?_
        refine PQ.seq ?_
        refine CW.ret ?_
        refine PQ.ret1 rfl rfl ?_
        intro w' hw; exact ⟨by congr 2; first | (rw [Bool.eq_iff_iff]; simp only [plainB, Bool.and_eq_true, decide_eq_true_eq, bne_iff_ne, ne_eq]; omega) | (symm; simp only [plainB, Bool.and_eq_false_iff, decide_eq_false_iff_not]; omega), hw.below⟩
      · replace h13 := bF h13
        refine LW.p rfl rfl ?_
        refine LW.p rfl rfl ?_
        refine LW.v rfl rfl (Val.pick_f rfl rfl) ?_
        refine LW.v rfl rfl (Val.assign rfl) ?_
        refine LW.nil ?_
        refine PQ.seq ?_
        refine CW.ret ?_
        refine PQ.ret1 rfl rfl ?_
        intro w' hw; exact ⟨by congr 2; first | (rw [Bool.eq_iff_iff]; simp only [plainB, Bool.and_eq_true, decide_eq_true_eq, bne_iff_ne, ne_eq]; omega) | (symm; simp only [plainB, Bool.and_eq_false_iff, decide_eq_false_iff_not]; omega), hw.below⟩
    · replace h9 := bF h9
      refine LW.p rfl rfl ?_
      refine LW.p rfl rfl ?_
      refine LW.v rfl rfl (Val.pick_f rfl rfl) ?_
      refine LW.v rfl rfl (Val.move rfl) ?_
      refine LW.p rfl rfl ?_
      refine LW.p rfl rfl ?_
      refine LW.v rfl rfl (Val.pick_f rfl rfl) ?_
      refine LW.v rfl rfl (Val.assign rfl) ?_
      refine LW.nil ?_
      refine PQ.seq ?_
      refine CW.ret ?_
      refine PQ.ret1 rfl rfl ?_
      intro w' hw; exact ⟨by congr 2; first | (rw [Bool.eq_iff_iff]; simp only [plainB, Bool.and_eq_true, decide_eq_true_eq, bne_iff_ne, ne_eq]; omega) | (symm; simp only [plainB, Bool.and_eq_false_iff, decide_eq_false_iff_not]; omega), hw.below⟩
  · replace h5 := bF h5
    refine LW.p rfl rfl ?_
    refine LW.p rfl rfl ?_
    refine LW.v rfl rfl (Val.pick_f rfl rfl) ?_
    refine LW.v rfl rfl (Val.move rfl) ?_
    refine LW.p rfl rfl ?_
    refine LW.p rfl rfl ?_
    refine LW.v rfl rfl (Val.pick_f rfl rfl) ?_
    refine LW.v rfl rfl (Val.move rfl) ?_
    refine LW.p rfl rfl ?_
    refine LW.p rfl rfl ?_
    refine LW.v rfl rfl (Val.pick_f rfl rfl) ?_
    refine LW.v rfl rfl (Val.assign rfl) ?_
    refine LW.nil ?_
    refine PQ.seq ?_
    refine CW.ret ?_
    refine PQ.ret1 rfl rfl ?_
    intro w' hw; exact ⟨by congr 2; first | (rw [Bool.eq_iff_iff]; simp only [plainB, Bool.and_eq_true, decide_eq_true_eq, bne_iff_ne, ne_eq]; omega) | (symm; simp only [plainB, Bool.and_eq_false_iff, decide_eq_false_iff_not]; omega), hw.below⟩
theorem rplain_c (c : UInt8) (w : World) : Calls Tryd.prog 34 [.int .u8 (c.toNat : Nat)].toArray w fun e w' => e = .returned (.bool (plainB c)) ∧ Below w.heap.size w w' := by
  refine V.calls [] Tryd.func34 rfl Tryd.ntmps34 (Nat.le_of_ble_eq_true rfl) (V.sat_nil _) ?_
  refine CW.seq ?_
  refine CW.region ?_
  refine LW.v rfl rfl (Val.assign rfl) ?_
  refine LW.nil ?_
  refine PQ.seq ?_
  refine CW.seq ?_
  refine CW.region ?_
  refine LW.v rfl rfl (Val.move rfl) ?_
  refine LW.v rfl rfl (Val.cmp rfl rfl rfl) ?_
  refine LW.v rfl rfl (Val.move rfl) ?_
  refine LW.split (d := 5) rfl (fun h5 => ?_) (fun h5 => ?_)
  · replace h5 := bT h5
    refine LW.v rfl rfl (Val.move rfl) ?_
    refine LW.v rfl rfl (Val.cmp rfl rfl rfl) ?_
    refine LW.v rfl rfl (Val.pick_t rfl rfl) ?_
    refine LW.v rfl rfl (Val.move rfl) ?_
    refine LW.split (d := 9) rfl (fun h9 => ?_) (fun h9 => ?_)
    · replace h9 := bT h9
      refine LW.v rfl rfl (Val.move rfl) ?_
      refine LW.v rfl rfl (Val.cmp rfl rfl rfl) ?_
      refine LW.v rfl rfl (Val.pick_t rfl rfl) ?_
      refine LW.v rfl rfl (Val.move rfl) ?_
      refine LW.split (d := 13) rfl (fun h13 => ?_) (fun h13 => ?_)
      · replace h13 := bT h13
        refine LW.v rfl rfl (Val.move rfl) ?_
        refine LW.v rfl rfl (Val.cmp rfl rfl rfl) ?_
        refine LW.v rfl rfl (Val.pick_t rfl rfl) ?_
        refine LW.v rfl rfl (Val.assign rfl) ?_
        refine LW.nil ?_
        refine PQ.seq ?_
        refine CW.ret ?_
        refine PQ.ret1 rfl rfl ?_
        intro w' hw; exact ⟨by congr 2; first | (rw [Bool.eq_iff_iff]; simp only [plainB, Bool.and_eq_true, decide_eq_true_eq, bne_iff_ne, ne_eq]; omega) | (symm; simp only [plainB, Bool.and_eq_false_iff, decide_eq_false_iff_not]; omega), hw.below⟩
      · replace h13 := bF h13
        refine LW.p rfl rfl ?_
        refine LW.p rfl rfl ?_
        refine LW.v rfl rfl (Val.pick_f rfl rfl) ?_
        refine LW.v rfl rfl (Val.assign rfl) ?_
        refine LW.nil ?_
        refine PQ.seq ?_
        refine CW.ret ?_
        refine PQ.ret1 rfl rfl ?_
        intro w' hw; exact ⟨by congr 2; first | (rw [Bool.eq_iff_iff]; simp only [plainB, Bool.and_eq_true, decide_eq_true_eq, bne_iff_ne, ne_eq]; omega) | (symm; simp only [plainB, Bool.and_eq_false_iff, decide_eq_false_iff_not]; omega), hw.below⟩
    · replace h9 := bF h9
      refine LW.p rfl rfl ?_
      refine LW.p rfl rfl ?_
      refine LW.v rfl rfl (Val.pick_f rfl rfl) ?_
      refine LW.v rfl rfl (Val.move rfl) ?_
      refine LW.p rfl rfl ?_
      refine LW.p rfl rfl ?_
      refine LW.v rfl rfl (Val.pick_f rfl rfl) ?_
      refine LW.v rfl rfl (Val.assign rfl) ?_
      refine LW.nil ?_
      refine PQ.seq ?_
      refine CW.ret ?_
      refine PQ.ret1 rfl rfl ?_
      intro w' hw; exact ⟨by congr 2; first | (rw [Bool.eq_iff_iff]; simp only [plainB, Bool.and_eq_true, decide_eq_true_eq, bne_iff_ne, ne_eq]; omega) | (symm; simp only [plainB, Bool.and_eq_false_iff, decide_eq_false_iff_not]; omega), hw.below⟩
  · replace h5 := bF h5
    refine LW.p rfl rfl ?_
    refine LW.p rfl rfl ?_
    refine LW.v rfl rfl (Val.pick_f rfl rfl) ?_
    refine LW.v rfl rfl (Val.move rfl) ?_
    refine LW.p rfl rfl ?_
    refine LW.p rfl rfl ?_
    refine LW.v rfl rfl (Val.pick_f rfl rfl) ?_
    refine LW.v rfl rfl (Val.move rfl) ?_
    refine LW.p rfl rfl ?_
    refine LW.p rfl rfl ?_
    refine LW.v rfl rfl (Val.pick_f rfl rfl) ?_
    refine LW.v rfl rfl (Val.assign rfl) ?_
    refine LW.nil ?_
    refine PQ.seq ?_
    refine CW.ret ?_
    refine PQ.ret1 rfl rfl ?_
    intro w' hw; exact ⟨by congr 2; first | (rw [Bool.eq_iff_iff]; simp only [plainB, Bool.and_eq_true, decide_eq_true_eq, bne_iff_ne, ne_eq]; omega) | (symm; simp only [plainB, Bool.and_eq_false_iff, decide_eq_false_iff_not]; omega), hw.below⟩
def hexI (c : UInt8) : Int := Go.Lib.indexByte hexL c
theorem indexByte_lt (c : UInt8) : ∀ l : List UInt8, Go.Lib.indexByte l c < (l.length : Nat) ∨ l = []
  | [] => .inr rfl
  | b :: r => .inl (by
    unfold Go.Lib.indexByte
    rcases indexByte_lt c r with h | h
    · simp only [List.length_cons]
      split
      · omega
      · split
        · omega
        · omega
    · subst h
      simp only [Go.Lib.indexByte, List.length_cons]
      split
      · omega
      · simp)
theorem hexI_range (c : UInt8) : -1 ≤ hexI c ∧ hexI c < 16 := by
  refine ⟨Go.Lib.indexByte_ge _ _, ?_⟩
  rcases indexByte_lt c hexL with h | h
  · exact h
  · cases h
theorem ib_c (c : UInt8) (w : World) : Calls Tryd.prog 29 [str hexL, .int .u8 (c.toNat : Nat)].toArray w fun e w' => e = .returned (.int .i64 (hexI c)) ∧ Below w.heap.size w w' := (Tryd.strings_IndexByte ⟨hexL.toArray⟩ (c.toNat : Nat) w).mono fun e w' ⟨h1, h2⟩ => ⟨by rw [h1]; unfold hexI; simp, h2 ▸ Below.refl _ _⟩
theorem hex_get {k : Nat} (h : k < 16) : ∃ u, hexL[k]? = some u := ⟨hexL[k]'(by simpa [hexL] using h), by simp [hexL]⟩
theorem indexByte_first {c : UInt8} : ∀ {l : List UInt8} {k : Nat}, l[k]? = some c → (∀ (i : Nat) (u : UInt8), i < k → l[i]? = some u → u ≠ c) → Go.Lib.indexByte l c = (k : Nat)
  | [], k, h, _ => by simp at h
  | b :: r, 0, h, _ => by simp at h; subst h; simp [Go.Lib.indexByte]
  | b :: r, k + 1, h, hf => by
    have hb : b ≠ c := hf 0 b (by omega) rfl
    have ih := indexByte_first (l := r) (k := k) (by simpa using h) (fun i u hi hu => hf (i + 1) u (by omega) (by simpa using hu))
    unfold Go.Lib.indexByte
    have h1 : (b == c) = false := by simpa using hb
    rw [h1, ih]
    simp only [Bool.false_eq_true, if_false]
    rw [if_neg (by simp)]
    omega
theorem indexByte_no {c : UInt8} : ∀ {l : List UInt8}, (∀ (i : Nat) (u : UInt8), l[i]? = some u → u ≠ c) → Go.Lib.indexByte l c = -1
  | [], _ => rfl
  | b :: r, hf => by
    have hb : b ≠ c := hf 0 b rfl
    have ih := indexByte_no (l := r) (fun i u hu => hf (i + 1) u (by simpa using hu))
    unfold Go.Lib.indexByte
    have h1 : (b == c) = false := by simpa using hb
    rw [h1, ih]; rfl
theorem u8_inj {a b : UInt8} (h : (a.toNat : Int) = (b.toNat : Nat)) : a = b := UInt8.toNat_inj.1 (by omega)
theorem rhex_c (c : UInt8) (w : World) : Calls Tryd.prog 31 [.int .u8 (c.toNat : Nat)].toArray w fun e w' => e = .returned (.int .i64 (hexI c)) ∧ Below w.heap.size w w' := by
  refine V.calls [] Tryd.func31 rfl Tryd.ntmps31 (Nat.le_of_ble_eq_true rfl) (V.sat_nil _) ?_
  refine CW.seq ?_
  refine CW.region ?_
  refine LW.v rfl rfl (Val.assign rfl) ?_
  refine LW.nil ?_
  refine PQ.seq ?_
  refine CW.seq ?_
  refine CW.seq ?_
  refine CW.region ?_
  refine LW.v rfl rfl (Val.assign rfl) ?_
  refine LW.nil ?_
  refine PQ.seq ?_
  refine CW.block ?_
  refine CW.loop (γ := Nat) (fun k => [(0, .int .u8 (c.toNat : Nat)), (3, .int .i64 (k : Nat))]) (fun _ => []) (fun k => k ≤ 16 ∧ ∀ i v, i < k → hexL[i]? = some v → v ≠ c) (fun k => 16 - k) (0) ⟨Nat.zero_le _, fun i v h => by omega⟩ (by repeat (first | exact trivial | refine ⟨rfl, ?_⟩)) (by repeat (first | exact .nil | apply Pick.cons | exact .here | apply Ext.there)) ?_
  intro k
  intro hJ
  have hJ1 := hJ.1
  refine CW.seq ?_
  refine CW.seq ?_
  refine CW.region ?_
  refine LW.v rfl rfl (Val.move rfl) ?_
  refine LW.v rfl rfl (Val.cmp rfl rfl rfl) ?_
  refine LW.nil ?_
  refine PQ.seq ?_
  refine CW.cond rfl (fun h5 => ?_) (fun h5 => ?_)
  · replace h5 := bT h5
    refine CW.skip ?_
    refine PQ.seq ?_
    refine CW.seq ?_
    refine CW.block ?_
    refine CW.seq ?_
    refine CW.region ?_
    refine LW.v rfl rfl (Val.move rfl) ?_
    obtain ⟨u, hu⟩ := hex_get (show k < 16 by omega)
    refine LW.v rfl rfl (Val.indexStr (l := hexL) rfl rfl Tryd.underlying9 hu) ?_
    refine LW.v rfl rfl (Val.move rfl) ?_
    refine LW.v rfl rfl (Val.cmp rfl rfl rfl) ?_
    refine LW.nil ?_
    refine PQ.seq ?_
    refine CW.cond rfl (fun h11 => ?_) (fun h11 => ?_)
    · replace h11 := bT h11
      refine CW.seq ?_
      refine CW.region ?_
      refine LW.v rfl rfl (Val.move rfl) ?_
      refine LW.v rfl rfl (Val.assign rfl) ?_
      refine LW.nil ?_
      refine PQ.seq ?_
      refine CW.ret ?_
      refine PQ.in_ret ?_
      refine PQ.then_ret ?_
      refine PQ.then_ret ?_
      refine PQ.in_ret ?_
      refine PQ.then_ret ?_
      refine PQ.ret1 rfl rfl ?_
      intro w' hw; exact ⟨by rw [show hexI c = ((k : Nat) : Int) from indexByte_first (by rw [hu, u8_inj h11]) (fun i v hi hv => hJ.2 i v hi hv)], hw.below⟩
    · replace h11 := bF h11
      refine CW.skip ?_
      refine PQ.in_normal ?_
      refine PQ.seq ?_
      refine CW.region ?_
      refine LW.v rfl rfl (Val.move rfl) ?_
      refine LW.v rfl rfl (Val.ar rfl rfl rfl (IntWalk.i64_in _ (by omega))) ?_
      refine LW.v rfl rfl (Val.assign rfl) ?_
      refine LW.nil ?_
      refine PQ.round (k + 1) ⟨by omega, fun i v hi hv => by rcases Nat.lt_or_ge i k with h1 | h1; exact hJ.2 i v h1 hv; obtain rfl : i = k := (by omega); rw [hu] at hv; cases hv; intro e; exact h11 (by rw [e])⟩ (by omega) (by repeat (first | exact trivial | refine ⟨rfl, ?_⟩)) (by repeat (first | exact .nil | apply Pick.cons | exact .here | apply Ext.there))
  · replace h5 := bF h5
    refine CW.exit ?_
    refine PQ.then_exit ?_
    refine PQ.then_exit ?_
    refine PQ.in_here ?_
    refine PQ.seq ?_
    refine CW.seq ?_
    refine CW.region ?_
    refine LW.v rfl rfl (Val.assign rfl) ?_
    refine LW.nil ?_
    refine PQ.seq ?_
    refine CW.ret ?_
    refine PQ.ret1 rfl rfl ?_
    intro w' hw; exact ⟨by rw [show hexI c = -1 from indexByte_no (fun i v hv => hJ.2 i v (by have := (List.getElem?_eq_some_iff.1 hv).1; have h16 : hexL.length = 16 := rfl; omega) hv)], hw.below⟩
end Go.Proofs.YtagliemeolngiaaDoor
