/- Text, of the program and of the document. -/
import Derived.Test.YtagliemeolngiaaDoorScC
import Derived.Lib.Hide
namespace Go.Proofs.YtagliemeolngiaaDoor
open Go Go.RowKit V
set_option linter.unusedVariables false
set_option maxRecDepth 100000
open V (str byC ownV ownG ownS ownOk)
def dB (a b : UInt8) : UInt8 := UInt8.ofNat (16 * hexI a + hexI b).toNat
/-- What a word is decoded to. -/
def decF : List UInt8 → Option (List UInt8)
  | [] => some []
  | c :: r => if c ≠ 37 then (decF r).map (c :: ·) else match r with
    | a :: b :: r' => if hexI a < 0 ∨ hexI b < 0 then none else (decF r').map (dB a b :: ·)
    | _ => none
theorem decF_plain {c : UInt8} {r : List UInt8} (hn : c ≠ 37) : decF (c :: r) = (decF r).map (c :: ·) := by
  rcases r with _ | ⟨a, _ | ⟨b, r⟩⟩ <;> simp [decF, hn]
theorem decF_esc {a b : UInt8} {r : List UInt8} (hx : ¬ hexI a < 0) (hy : ¬ hexI b < 0) : decF (37 :: a :: b :: r) = (decF r).map (dB a b :: ·) := by
  have : ¬ (hexI a < 0 ∨ hexI b < 0) := by omega
  simp [decF, this]
theorem decF_bad {a b : UInt8} {r : List UInt8} (hx : hexI a < 0 ∨ hexI b < 0) : decF (37 :: a :: b :: r) = none := by
  simp [decF, hx]
theorem decF_short {r : List UInt8} (h : r.length < 2) : decF (37 :: r) = none := by
  rcases r with _ | ⟨a, _ | ⟨b, r⟩⟩
  · simp [decF]
  · simp [decF]
  · simp at h; omega
def textF (w : List UInt8) : Option (List UInt8) := if w = [45] then some [] else match decF w with
  | none => none
  | some s => if wordF s = w then some s else none
theorem drop_at {l : List UInt8} {k : Nat} {c : UInt8} (h : l[k]? = some c) : l.drop k = c :: l.drop (k + 1) := by
  have hlt := (List.getElem?_eq_some_iff.1 h).1
  rw [List.drop_eq_getElem_cons hlt]
  have := List.getElem?_eq_getElem hlt
  rw [h] at this
  rw [(Option.some.inj this)]
def DI (l acc : List UInt8) (k : Nat) : Prop := decF l = (decF (l.drop k)).map (acc ++ ·)
theorem DI.start (l : List UInt8) : DI l [] 0 := by unfold DI; simp
theorem DI.plain {l acc : List UInt8} {k : Nat} {c : UInt8} (h : DI l acc k) (hc : l[k]? = some c) (hn : c ≠ 37) : DI l (acc ++ [c]) (k + 1) := by
  unfold DI at h ⊢
  rw [h, drop_at hc, decF_plain hn, Option.map_map]
  congr 1; funext x; simp
theorem DI.esc {l acc : List UInt8} {k : Nat} {a b : UInt8} (h : DI l acc k) (hc : l[k]? = some 37) (ha : l[k + 1]? = some a) (hb : l[k + 2]? = some b) (hx : ¬ hexI a < 0) (hy : ¬ hexI b < 0) : DI l (acc ++ [dB a b]) (k + 2 + 1) := by
  unfold DI at h ⊢
  rw [h, drop_at hc, drop_at ha, drop_at hb, decF_esc hx hy, Option.map_map]
  congr 1; funext x; simp
theorem DI.short {l acc : List UInt8} {k : Nat} (h : DI l acc k) (hc : l[k]? = some 37) (hs : l.length ≤ k + 2) : decF l = none := by
  unfold DI at h
  rw [h, drop_at hc, decF_short (by rw [List.length_drop]; omega)]; rfl
theorem DI.bad {l acc : List UInt8} {k : Nat} {a b : UInt8} (h : DI l acc k) (hc : l[k]? = some 37) (ha : l[k + 1]? = some a) (hb : l[k + 2]? = some b) (hx : hexI a < 0 ∨ hexI b < 0) : decF l = none := by
  unfold DI at h
  rw [h, drop_at hc, drop_at ha, drop_at hb, decF_bad hx]; rfl
theorem DI.fin {l acc : List UInt8} {k : Nat} (h : DI l acc k) (hk : l.length ≤ k) : decF l = some acc := by
  unfold DI at h
  rw [h, List.drop_of_length_le hk]; simp [decF]
theorem text_none {l : List UInt8} (hd : l ≠ [45]) (h : decF l = none) : textF l = none := by unfold textF; rw [if_neg hd, h]
theorem text_some {l s : List UInt8} (hd : l ≠ [45]) (h : decF l = some s) : textF l = if wordF s = l then some s else none := by unfold textF; rw [if_neg hd, h]
theorem text_dash : textF [45] = some [] := rfl
def textV (o : Option (List UInt8)) : Value := .tuple #[str (o.getD []), .bool o.isSome]
theorem or16 {x y : Int} (h0 : 0 ≤ x) (h1 : x < 16) (h2 : 0 ≤ y) (h3 : y < 16) : IntKind.i64.wrap (BitVec.ofInt IntKind.i64.bits (x * 16) ||| BitVec.ofInt IntKind.i64.bits y).toNat = 16 * x + y := by
  have key : ∀ a b : Fin 16, IntKind.i64.wrap (BitVec.ofInt IntKind.i64.bits ((a.val : Int) * 16) ||| BitVec.ofInt IntKind.i64.bits (b.val : Int)).toNat = 16 * (a.val : Int) + (b.val : Int) := by decide +kernel
  obtain ⟨a, rfl⟩ := Int.eq_ofNat_of_zero_le h0
  obtain ⟨b, rfl⟩ := Int.eq_ofNat_of_zero_le h2
  exact key ⟨a, by omega⟩ ⟨b, by omega⟩
theorem shl4 {x : Int} (h0 : 0 ≤ x) (h1 : x < 16) : IntKind.i64.wrap (x * 2 ^ (min (4 : Int).toNat IntKind.i64.bits)) = x * 16 := by
  have : (2 : Int) ^ (min (4 : Int).toNat IntKind.i64.bits) = 16 := by decide
  rw [this, IntWalk.i64_in _ (by omega)]
theorem dB_val {a b : UInt8} (hx : ¬ hexI a < 0) (hy : ¬ hexI b < 0) : IntKind.u8.wrap (16 * hexI a + hexI b) = (((dB a b).toNat : Nat) : Int) := by
  have h1 := (hexI_range a).2
  have h2 := (hexI_range b).2
  have h3 : (dB a b).toNat = (16 * hexI a + hexI b).toNat := by
    unfold dB
    rw [UInt8.toNat_ofNat']
    omega
  rw [IntWalk.u8_in _ (by omega), h3]
  omega
theorem ne37 {c : UInt8} (h : ¬ ((c.toNat : Nat) : Int) = 37) : c ≠ 37 := fun e => h (by subst e; rfl)
theorem eq37 {c : UInt8} (h : ((c.toNat : Nat) : Int) = 37) : c = 37 := u8_inj (b := 37) h
theorem text_c (l : List UInt8) (hl : l.length ≤ 100000) (w : World) : Calls Tryd.prog 12 [str l].toArray w fun e w' => e = .returned (textV (textF l)) ∧ Below w.heap.size w w' := by
  refine V.calls [] Tryd.func12 rfl Tryd.ntmps12 (Nat.le_of_ble_eq_true rfl) (V.sat_nil _) ?_
  refine CW.seq ?_
  refine CW.region ?_
  refine LW.v rfl rfl (Val.assign rfl) ?_
  refine LW.v rfl rfl (Val.assign rfl) ?_
  refine LW.nil ?_
  refine PQ.seq ?_
  refine CW.seq ?_
  refine CW.seq ?_
  refine CW.region ?_
  refine LW.v rfl rfl (Val.move rfl) ?_
  refine LW.v rfl rfl (Val.eqStr rfl rfl) ?_
  refine LW.nil ?_
  refine PQ.seq ?_
  refine CW.cond rfl (fun h10 => ?_) (fun h10 => ?_)
  · replace h10 := bT h10
    refine CW.seq ?_
    refine CW.region ?_
    refine LW.v rfl rfl (Val.assign rfl) ?_
    refine LW.v rfl rfl (Val.assign rfl) ?_
    refine LW.nil ?_
    refine PQ.seq ?_
    refine CW.ret ?_
    refine PQ.then_ret ?_
    refine PQ.ret2 rfl rfl rfl ?_
    intro w' hw; exact ⟨by rw [h10]; rfl, hw.below⟩
  · replace h10 := bF h10
    refine CW.skip ?_
    refine PQ.seq ?_
    refine CW.seq ?_
    refine CW.region ?_
    refine LW.e rfl rfl (Eff.allocA (by exact Tryd.zeroValue57)) ?_
    intro b4 _
    refine LW.nil ?_
    refine PQ.seq ?_
    refine CW.seq ?_
    refine CW.seq ?_
    refine CW.region ?_
    refine LW.v rfl rfl (Val.assign rfl) ?_
    refine LW.nil ?_
    refine PQ.seq ?_
    refine CW.block ?_
    refine CW.loop (γ := Nat × Bool × V.OwnO × List UInt8) (fun k => [(0, str l), (4, .pointer (some ⟨b4, 0, none⟩)), (5, .int .i64 (k.1 : Nat))]) (fun k => sbG b4 k.2.1 k.2.2.1 k.2.2.2) (fun k => k.1 ≤ l.length ∧ k.2.2.2.length ≤ k.1 ∧ sbOk k.2.2.1 k.2.2.2 ∧ DI l k.2.2.2 k.1) (fun k => l.length - k.1) ((0, false, none, [])) ⟨Nat.zero_le _, Nat.le_refl _, sbOk_nil, DI.start l⟩ (by repeat (first | exact trivial | refine ⟨rfl, ?_⟩)) (by repeat (first | exact .nil | apply Pick.cons | exact .here | apply Ext.there)) ?_
    intro k
    rintro ⟨hkn, hal, hk, hD⟩
    refine CW.seq ?_
    refine CW.seq ?_
    refine CW.region ?_
    refine LW.v rfl rfl (Val.move rfl) ?_
    refine LW.v rfl rfl (Val.move rfl) ?_
    refine LW.v rfl rfl (Val.lenStr rfl Tryd.underlying9) ?_
    refine LW.v rfl rfl (Val.cmp rfl rfl rfl) ?_
    refine LW.nil ?_
    refine PQ.seq ?_
    refine CW.cond rfl (fun h14 => ?_) (fun h14 => ?_)
    · replace h14 := bT h14
      obtain ⟨c, hc⟩ : ∃ c, l[k.1]? = some c := ⟨l[k.1]'(by omega), by simp⟩
      refine CW.skip ?_
      refine PQ.seq ?_
      refine CW.seq ?_
      refine CW.join (fun y : Nat × V.OwnO × List UInt8 => (k.1 ≤ y.1 ∧ y.1 + 1 ≤ l.length) ∧ y.2.2.length ≤ y.1 + 1 ∧ sbOk y.2.1 y.2.2 ∧ DI l y.2.2 (y.1 + 1)) (fun y => [(0, str l), (4, .pointer (some ⟨b4, 0, none⟩)), (5, .int .i64 (y.1 : Nat))]) (fun y => sbG b4 true y.2.1 y.2.2) ?_ ?_
      · refine CW.block ?_
        refine CW.seq ?_
        refine CW.seq ?_
        refine CW.region ?_
        refine LW.v rfl rfl (Val.move rfl) ?_
        refine LW.v rfl rfl (Val.move rfl) ?_
        refine LW.v rfl rfl (Val.indexStr (l := l) rfl rfl Tryd.underlying9 hc) ?_
        refine LW.v rfl rfl (Val.cmp rfl rfl rfl) ?_
        refine LW.nil ?_
        refine PQ.seq ?_
        refine CW.cond rfl (fun h20 => ?_) (fun h20 => ?_)
        · replace h20 := bT h20
          refine CW.seq ?_
          refine CW.region ?_
          refine LW.v rfl rfl (Val.move rfl) ?_
          refine LW.v rfl rfl (Val.move rfl) ?_
          refine LW.v rfl rfl (Val.indexStr (l := l) rfl rfl Tryd.underlying9 hc) ?_
          refine LW.e rfl rfl (Eff.callM (sbG b4 k.2.1 k.2.2.1 k.2.2.2) (by repeat (first | exact .nil | apply Pick.cons | exact .here | apply Ext.there)) rfl Tryd.call28 (fun w hw hs0 => wbP_c b4 k.2.1 k.2.2.1 k.2.2.2 hk (by omega) c w hs0)) ?_
          intro o2 ho2
          refine LW.nil ?_
          refine PQ.seq ?_
          refine CW.exit ?_
          refine PQ.then_exit ?_
          refine PQ.in_here ?_
          refine PQ.joinedC ((k.1, o2, k.2.2.2 ++ [c])) (⟨⟨by simp only; omega, by simp only; omega⟩, by rw [List.length_append, List.length_singleton]; omega, ho2, hD.plain hc (ne37 h20)⟩) (by repeat (first | exact trivial | refine ⟨rfl, ?_⟩)) (by repeat (first | exact .nil | apply Pick.cons | exact .here | apply Ext.there))
        · replace h20 := bF h20
          refine CW.skip ?_
          refine PQ.seq ?_
          refine CW.seq ?_
          refine CW.seq ?_
          refine CW.region ?_
          refine LW.v rfl rfl (Val.move rfl) ?_
          refine LW.v rfl rfl (Val.ar rfl rfl rfl (IntWalk.i64_in _ (by omega))) ?_
          refine LW.v rfl rfl (Val.move rfl) ?_
          refine LW.v rfl rfl (Val.lenStr rfl Tryd.underlying9) ?_
          refine LW.v rfl rfl (Val.cmp rfl rfl rfl) ?_
          refine LW.nil ?_
          refine PQ.seq ?_
          refine CW.cond rfl (fun h29 => ?_) (fun h29 => ?_)
          · replace h29 := bT h29
            refine CW.seq ?_
            refine CW.region ?_
            refine LW.v rfl rfl (Val.assign rfl) ?_
            refine LW.v rfl rfl (Val.assign rfl) ?_
            refine LW.nil ?_
            refine PQ.seq ?_
            refine CW.ret ?_
            refine PQ.then_ret ?_
            refine PQ.in_ret ?_
            refine PQ.then_ret ?_
            refine PQ.then_ret ?_
            refine PQ.in_ret ?_
            refine PQ.then_ret ?_
            refine PQ.ret2 rfl rfl rfl ?_
            have h20 := eq37 h20
            subst h20
            intro w' hw; exact ⟨by rw [text_none h10 (hD.short hc (by omega))]; rfl, hw.below⟩
          · replace h29 := bF h29
            have h20 := eq37 h20
            subst h20
            obtain ⟨a, ha⟩ : ∃ a, l[k.1 + 1]? = some a := ⟨l[k.1 + 1]'(by omega), by simp⟩
            obtain ⟨b, hb⟩ : ∃ b, l[k.1 + 2]? = some b := ⟨l[k.1 + 2]'(by omega), by simp⟩
            have hra := hexI_range a
            have hrb := hexI_range b
            refine CW.skip ?_
            refine PQ.seq ?_
            refine CW.seq ?_
            refine CW.quiet mixed (by kernel_rfl) ?_
            refine QW.v rfl rfl (Val.move rfl) ?_
            refine QW.v rfl rfl (Val.move rfl) ?_
            refine QW.v rfl rfl (Val.ar rfl rfl rfl (IntWalk.i64_in _ (by omega))) ?_
            refine QW.re 32 (.int .i64 ((k.1 + 1 : Nat) : Int)) rfl (by simp) ?_
            refine QW.v rfl rfl (Val.indexStr (l := l) rfl rfl Tryd.underlying9 ha) ?_
            refine QW.c rfl rfl (Qcall.of rfl Tryd.call29 (fun w hw => ib_c a w)) ?_
            refine QW.v rfl rfl (Val.move rfl) ?_
            refine QW.v rfl rfl (Val.move rfl) ?_
            refine QW.v rfl rfl (Val.ar rfl rfl rfl (IntWalk.i64_in _ (by omega))) ?_
            refine QW.re 37 (.int .i64 ((k.1 + 2 : Nat) : Int)) rfl (by simp) ?_
            refine QW.v rfl rfl (Val.indexStr (l := l) rfl rfl Tryd.underlying9 hb) ?_
            refine QW.c rfl rfl (Qcall.of rfl Tryd.call29 (fun w hw => ib_c b w)) ?_
            refine QW.v rfl rfl (Val.assign rfl) ?_
            refine QW.v rfl rfl (Val.assign rfl) ?_
            refine QW.nil ?_
            refine PQ.seq ?_
            refine CW.seq ?_
            refine CW.seq ?_
            refine CW.region ?_
            refine LW.v rfl rfl (Val.move rfl) ?_
            refine LW.v rfl rfl (Val.cmp rfl rfl rfl) ?_
            refine LW.v rfl rfl (Val.move rfl) ?_
            refine LW.split (d := 42) rfl (fun h42 => ?_) (fun h42 => ?_)
            · replace h42 := bT h42
              refine LW.p rfl rfl ?_
              refine LW.p rfl rfl ?_
              refine LW.v rfl rfl (Val.pick_t rfl rfl) ?_
              refine LW.nil ?_
              refine PQ.seq ?_
              refine CW.cond_t rfl ?_
              refine CW.seq ?_
              refine CW.region ?_
              refine LW.v rfl rfl (Val.assign rfl) ?_
              refine LW.v rfl rfl (Val.assign rfl) ?_
              refine LW.nil ?_
              refine PQ.seq ?_
              refine CW.ret ?_
              refine PQ.then_ret ?_
              refine PQ.in_ret ?_
              refine PQ.then_ret ?_
              refine PQ.then_ret ?_
              refine PQ.in_ret ?_
              refine PQ.then_ret ?_
              refine PQ.ret2 rfl rfl rfl ?_
              intro w' hw; exact ⟨by rw [text_none h10 (hD.bad hc ha hb (.inl h42))]; rfl, hw.below⟩
            · replace h42 := bF h42
              refine LW.v rfl rfl (Val.move rfl) ?_
              refine LW.v rfl rfl (Val.cmp rfl rfl rfl) ?_
              refine LW.v rfl rfl (Val.pick_f rfl rfl) ?_
              refine LW.nil ?_
              refine PQ.seq ?_
              refine CW.cond rfl (fun h45 => ?_) (fun h45 => ?_)
              · replace h45 := bT h45
                refine CW.seq ?_
                refine CW.region ?_
                refine LW.v rfl rfl (Val.assign rfl) ?_
                refine LW.v rfl rfl (Val.assign rfl) ?_
                refine LW.nil ?_
                refine PQ.seq ?_
                refine CW.ret ?_
                refine PQ.then_ret ?_
                refine PQ.in_ret ?_
                refine PQ.then_ret ?_
                refine PQ.then_ret ?_
                refine PQ.in_ret ?_
                refine PQ.then_ret ?_
                refine PQ.ret2 rfl rfl rfl ?_
                intro w' hw; exact ⟨by rw [text_none h10 (hD.bad hc ha hb (.inr h45))]; rfl, hw.below⟩
              · replace h45 := bF h45
                refine CW.skip ?_
                refine PQ.seq ?_
                refine CW.seq ?_
                refine CW.region ?_
                refine LW.v rfl rfl (Val.move rfl) ?_
                refine LW.v rfl rfl (Val.shl rfl rfl (by omega)) ?_
                refine LW.re 47 (.int .i64 (hexI a * 16)) rfl (by rw [shl4 (by omega) (by omega)]) ?_
                refine LW.v rfl rfl (Val.move rfl) ?_
                refine LW.v rfl rfl (Val.or rfl rfl) ?_
                refine LW.re 49 (.int .i64 (16 * hexI a + hexI b)) rfl (by rw [or16 (by omega) (by omega) (by omega) (by omega)]) ?_
                refine LW.v rfl rfl (Val.convI rfl Tryd.underlying3 Tryd.underlying5) ?_
                refine LW.re 50 (.int .u8 (((dB a b).toNat : Nat) : Int)) rfl (by rw [dB_val (by omega) (by omega)]) ?_
                refine LW.e rfl rfl (Eff.callM (sbG b4 k.2.1 k.2.2.1 k.2.2.2) (by repeat (first | exact .nil | apply Pick.cons | exact .here | apply Ext.there)) rfl Tryd.call28 (fun w hw hs0 => wbP_c b4 k.2.1 k.2.2.1 k.2.2.2 hk (by omega) (dB a b) w hs0)) ?_
                intro o2 ho2
                refine LW.nil ?_
                refine PQ.seq ?_
                refine CW.region ?_
                refine LW.v rfl rfl (Val.move rfl) ?_
                refine LW.v rfl rfl (Val.ar rfl rfl rfl (IntWalk.i64_in _ (by omega))) ?_
                refine LW.v rfl rfl (Val.assign rfl) ?_
                refine LW.nil ?_
                refine PQ.in_normal ?_
                refine PQ.joinedC ((k.1 + 2, o2, k.2.2.2 ++ [dB a b])) (⟨⟨by simp only; omega, by simp only; omega⟩, by rw [List.length_append, List.length_singleton]; simp only; omega, ho2, hD.esc hc ha hb (by omega) (by omega)⟩) (by repeat (first | exact trivial | refine ⟨rfl, ?_⟩)) (by repeat (first | exact .nil | apply Pick.cons | exact .here | apply Ext.there))
      · intro y hy
        have hyl := hy.1.2
        refine PQ.seq ?_
        refine CW.region ?_
        refine LW.v rfl rfl (Val.move rfl) ?_
        refine LW.v rfl rfl (Val.ar rfl rfl rfl (IntWalk.i64_in _ (by omega))) ?_
        refine LW.v rfl rfl (Val.assign rfl) ?_
        refine LW.nil ?_
        refine PQ.round ((y.1 + 1, true, y.2.1, y.2.2)) ⟨hy.1.2, hy.2.1, hy.2.2.1, hy.2.2.2⟩ (by have := hy.1; simp only; omega) (by repeat (first | exact trivial | refine ⟨rfl, ?_⟩)) (by repeat (first | exact .nil | apply Pick.cons | exact .here | apply Ext.there))
    · replace h14 := bF h14
      refine CW.exit ?_
      refine PQ.then_exit ?_
      refine PQ.then_exit ?_
      refine PQ.in_here ?_
      refine PQ.seq ?_
      refine CW.seq ?_
      refine CW.region ?_
      refine LW.e rfl rfl (Eff.callM (sbG b4 k.2.1 k.2.2.1 k.2.2.2) (by repeat (first | exact .nil | apply Pick.cons | exact .here | apply Ext.there)) rfl Tryd.call30 (fun w hw hs0 => stP_c b4 k.2.1 k.2.2.1 k.2.2.2 hk (by omega) w hs0)) ?_
      intro _ _
      refine LW.v rfl rfl (Val.assign rfl) ?_
      refine LW.nil ?_
      refine PQ.seq ?_
      refine CW.seq ?_
      refine CW.seq ?_
      refine CW.region ?_
      refine LW.v rfl rfl (Val.move rfl) ?_
      refine LW.e rfl rfl (Eff.callV rfl Tryd.call14 (fun w hw => word_c k.2.2.2 (by omega) w)) ?_
      intro _ _
      refine LW.v rfl rfl (Val.move rfl) ?_
      refine LW.v rfl rfl (Val.neStr rfl rfl) ?_
      refine LW.nil ?_
      refine PQ.seq ?_
      refine CW.cond rfl (fun h58 => ?_) (fun h58 => ?_)
      · replace h58 := bT h58
        refine CW.seq ?_
        refine CW.region ?_
        refine LW.v rfl rfl (Val.assign rfl) ?_
        refine LW.v rfl rfl (Val.assign rfl) ?_
        refine LW.nil ?_
        refine PQ.seq ?_
        refine CW.ret ?_
        refine PQ.then_ret ?_
        refine PQ.ret2 rfl rfl rfl ?_
        intro w' hw; exact ⟨by rw [text_some h10 (hD.fin (by omega)), if_neg h58]; rfl, hw.below⟩
      · replace h58 := bF h58
        refine CW.skip ?_
        refine PQ.seq ?_
        refine CW.seq ?_
        refine CW.region ?_
        refine LW.v rfl rfl (Val.move rfl) ?_
        refine LW.v rfl rfl (Val.assign rfl) ?_
        refine LW.v rfl rfl (Val.assign rfl) ?_
        refine LW.nil ?_
        refine PQ.seq ?_
        refine CW.ret ?_
        refine PQ.ret2 rfl rfl rfl ?_
        intro w' hw; exact ⟨by rw [text_some h10 (hD.fin (by omega)), if_pos h58]; rfl, hw.below⟩
theorem rtext_c (l : List UInt8) (hl : l.length ≤ 100000) (w : World) : Calls Tryd.prog 13 [str l].toArray w fun e w' => e = .returned (textV (textF l)) ∧ Below w.heap.size w w' := by
  refine V.calls [] Tryd.func13 rfl Tryd.ntmps13 (Nat.le_of_ble_eq_true rfl) (V.sat_nil _) ?_
  refine CW.seq ?_
  refine CW.region ?_
  refine LW.v rfl rfl (Val.assign rfl) ?_
  refine LW.v rfl rfl (Val.assign rfl) ?_
  refine LW.nil ?_
  refine PQ.seq ?_
  refine CW.seq ?_
  refine CW.seq ?_
  refine CW.region ?_
  refine LW.v rfl rfl (Val.move rfl) ?_
  refine LW.v rfl rfl (Val.eqStr rfl rfl) ?_
  refine LW.nil ?_
  refine PQ.seq ?_
  refine CW.cond rfl (fun h7 => ?_) (fun h7 => ?_)
  · replace h7 := bT h7
    refine CW.seq ?_
    refine CW.region ?_
    refine LW.v rfl rfl (Val.assign rfl) ?_
    refine LW.v rfl rfl (Val.assign rfl) ?_
    refine LW.nil ?_
    refine PQ.seq ?_
    refine CW.ret ?_
    refine PQ.then_ret ?_
    refine PQ.ret2 rfl rfl rfl ?_
    intro w' hw; exact ⟨by subst h7; rfl, hw.below⟩
  · replace h7 := bF h7
    refine CW.skip ?_
    refine PQ.seq ?_
    refine CW.seq ?_
    refine CW.region ?_
    refine LW.v rfl rfl (Val.assign rfl) ?_
    refine LW.nil ?_
    refine PQ.seq ?_
    refine CW.seq ?_
    refine CW.seq ?_
    refine CW.region ?_
    refine LW.v rfl rfl (Val.assign rfl) ?_
    refine LW.nil ?_
    refine PQ.seq ?_
    refine CW.block ?_
    refine CW.perm (sg' := [ownG 5 (byC []) none]) ?_ (.refl _)
    refine CW.loop (γ := Nat × V.OwnO × List UInt8) (fun k => [(0, str l), (4, ownV k.2.2.length k.2.1), (5, .int .i64 (k.1 : Nat))]) (fun k => [ownG 5 (byC k.2.2) k.2.1]) (fun k => k.1 ≤ l.length ∧ k.2.2.length ≤ k.1 ∧ ownOk 1 k.2.2.length (byC k.2.2) k.2.1 ∧ DI l k.2.2 k.1 ∧ (l = [45] → k.1 = 0 ∧ k.2.2 = [])) (fun k => l.length - k.1) ((0, none, [])) ⟨Nat.zero_le _, Nat.le_refl _, ⟨rfl, rfl⟩, DI.start l, fun _ => ⟨rfl, rfl⟩⟩ (by repeat (first | exact trivial | refine ⟨rfl, ?_⟩)) (by repeat (first | exact .nil | apply Pick.cons | exact .here | apply Ext.there)) ?_
    intro k
    rintro ⟨hkn, hal, hk, hD, hz⟩
    refine CW.seq ?_
    refine CW.seq ?_
    refine CW.region ?_
    refine LW.v rfl rfl (Val.move rfl) ?_
    refine LW.v rfl rfl (Val.move rfl) ?_
    refine LW.v rfl rfl (Val.lenStr rfl Tryd.underlying9) ?_
    refine LW.v rfl rfl (Val.cmp rfl rfl rfl) ?_
    refine LW.v rfl rfl (Val.move rfl) ?_
    refine LW.split (d := 12) rfl (fun h12 => ?_) (fun h12 => ?_)
    · replace h12 := bT h12
      obtain ⟨c, hc⟩ : ∃ c, l[k.1]? = some c := ⟨l[k.1]'(by omega), by simp⟩
      refine LW.v rfl rfl (Val.move rfl) ?_
      refine LW.v rfl rfl (Val.neStr rfl rfl) ?_
      refine LW.v rfl rfl (Val.pick_t rfl rfl) ?_
      refine LW.nil ?_
      refine PQ.seq ?_
      refine CW.cond rfl (fun h15 => ?_) (fun h15 => ?_)
      · replace h15 := bT h15
        skip
        refine CW.skip ?_
        refine PQ.seq ?_
        refine CW.seq ?_
        refine CW.join (fun y : Nat × V.OwnO × List UInt8 => (k.1 ≤ y.1 ∧ y.1 + 1 ≤ l.length) ∧ y.2.2.length ≤ y.1 + 1 ∧ ownOk 1 y.2.2.length (byC y.2.2) y.2.1 ∧ DI l y.2.2 (y.1 + 1)) (fun y => [(0, str l), (4, ownV y.2.2.length y.2.1), (5, .int .i64 (y.1 : Nat))]) (fun y => [ownG 5 (byC y.2.2) y.2.1]) ?_ ?_
        · refine CW.block ?_
          refine CW.seq ?_
          refine CW.seq ?_
          refine CW.region ?_
          refine LW.v rfl rfl (Val.move rfl) ?_
          refine LW.v rfl rfl (Val.move rfl) ?_
          refine LW.v rfl rfl (Val.indexStr (l := l) rfl rfl Tryd.underlying9 hc) ?_
          refine LW.v rfl rfl (Val.cmp rfl rfl rfl) ?_
          refine LW.nil ?_
          refine PQ.seq ?_
          refine CW.cond rfl (fun h21 => ?_) (fun h21 => ?_)
          · replace h21 := bT h21
            refine CW.seq ?_
            refine CW.region ?_
            refine LW.v rfl rfl (Val.move rfl) ?_
            refine LW.v rfl rfl (Val.move rfl) ?_
            refine LW.v rfl rfl (Val.move rfl) ?_
            refine LW.v rfl rfl (Val.indexStr (l := l) rfl rfl Tryd.underlying9 hc) ?_
            refine LW.e rfl rfl (Eff.buildSlice (rfl) [_] Tryd.underlying55 Tryd.sizeOf5 (by exact Tryd.zeroValue5) rfl rfl rfl rfl (by rfl)) ?_
            intro b26 _
            refine LW.e rfl rfl (Eff.appendAny (byC [c]) (sz := 1) (bytes := 1) (z := .int .u8 0) (xs := byC k.2.2) (m0 := k.2.2.length) (o := k.2.1) (m := 1) (pk := [ownG 5 (byC k.2.2) k.2.1]) rfl rfl Tryd.underlying55 (by kernel_rfl) rfl (by omega) (by repeat (first | exact .nil | apply Pick.cons | exact .here | apply Ext.there)) (by simp) hk rfl (fun hm0 => ⟨b26, 0, rfl, fun w hw => V.range_of_block (o := 0) (cs := byC [c]) (r := []) (hw.own _ (show InS (b26, .cells (byC [c]).toArray 5 (0, 0)) _ from (by repeat (first | exact .here | refine .there ?_))).mem) rfl⟩) (V.byC_one _) (by omega) (by omega)) ?_
            intro o2 ho2
            refine LW.v rfl rfl (Val.assign rfl) ?_
            refine LW.nil ?_
            refine PQ.seq ?_
            refine CW.exit ?_
            refine PQ.then_exit ?_
            refine PQ.in_here ?_
            have h1 : (k.2.2 ++ [c]).length = k.2.2.length + 1 := by simp
            have h2 : ownOk 1 (k.2.2 ++ [c]).length (byC (k.2.2 ++ [c])) o2 := by rw [V.byC_append, h1]; exact ho2
            rw [← V.byC_append, ← h1]
            refine PQ.joinedC ((k.1, o2, k.2.2 ++ [c])) (⟨⟨by simp only; omega, by simp only; omega⟩, by simp only [List.length_append, List.length_singleton]; omega, h2, hD.plain hc (ne37 h21)⟩) (by repeat (first | exact trivial | refine ⟨rfl, ?_⟩)) (by repeat (first | exact .nil | apply Pick.cons | exact .here | apply Ext.there))
          · replace h21 := bF h21
            refine CW.skip ?_
            refine PQ.seq ?_
            refine CW.seq ?_
            refine CW.seq ?_
            refine CW.region ?_
            refine LW.v rfl rfl (Val.move rfl) ?_
            refine LW.v rfl rfl (Val.ar rfl rfl rfl (IntWalk.i64_in _ (by omega))) ?_
            refine LW.v rfl rfl (Val.move rfl) ?_
            refine LW.v rfl rfl (Val.lenStr rfl Tryd.underlying9) ?_
            refine LW.v rfl rfl (Val.cmp rfl rfl rfl) ?_
            refine LW.v rfl rfl (Val.move rfl) ?_
            refine LW.split (d := 33) rfl (fun h33 => ?_) (fun h33 => ?_)
            · replace h33 := bT h33
              refine LW.p rfl rfl ?_
              refine LW.p rfl rfl ?_
              refine LW.p rfl rfl ?_
              refine LW.p rfl rfl ?_
              refine LW.p rfl rfl ?_
              refine LW.p rfl rfl ?_
              refine LW.v rfl rfl (Val.pick_t rfl rfl) ?_
              refine LW.v rfl rfl (Val.move rfl) ?_
              refine LW.p rfl rfl ?_
              refine LW.p rfl rfl ?_
              refine LW.p rfl rfl ?_
              refine LW.p rfl rfl ?_
              refine LW.p rfl rfl ?_
              refine LW.p rfl rfl ?_
              refine LW.v rfl rfl (Val.pick_t rfl rfl) ?_
              refine LW.nil ?_
              refine PQ.seq ?_
              refine CW.cond_t rfl ?_
              refine CW.seq ?_
              refine CW.region ?_
              refine LW.v rfl rfl (Val.assign rfl) ?_
              refine LW.v rfl rfl (Val.assign rfl) ?_
              refine LW.nil ?_
              refine PQ.seq ?_
              refine CW.ret ?_
              refine PQ.then_ret ?_
              refine PQ.in_ret ?_
              refine PQ.then_ret ?_
              refine PQ.then_ret ?_
              refine PQ.in_ret ?_
              refine PQ.then_ret ?_
              refine PQ.ret2 rfl rfl rfl ?_
              have hd : l ≠ [45] := h15
              have h21 := eq37 h21
              subst h21
              intro w' hw; exact ⟨by rw [text_none hd (hD.short hc (by omega))]; rfl, hw.below⟩
            · replace h33 := bF h33
              have h21 := eq37 h21
              subst h21
              obtain ⟨a, ha⟩ : ∃ a, l[k.1 + 1]? = some a := ⟨l[k.1 + 1]'(by omega), by simp⟩
              obtain ⟨b, hb⟩ : ∃ b, l[k.1 + 2]? = some b := ⟨l[k.1 + 2]'(by omega), by simp⟩
              have hra := hexI_range a
              have hrb := hexI_range b
              refine LW.v rfl rfl (Val.move rfl) ?_
              refine LW.v rfl rfl (Val.move rfl) ?_
              refine LW.v rfl rfl (Val.ar rfl rfl rfl (IntWalk.i64_in _ (by omega))) ?_
              refine LW.re 36 (.int .i64 ((k.1 + 1 : Nat) : Int)) rfl (by simp) ?_
              refine LW.v rfl rfl (Val.indexStr (l := l) rfl rfl Tryd.underlying9 ha) ?_
              refine LW.e rfl rfl (Eff.callV rfl Tryd.call31 (fun w hw => rhex_c a w)) ?_
              intro _ _
              refine LW.v rfl rfl (Val.cmp rfl rfl rfl) ?_
              refine LW.v rfl rfl (Val.pick_f rfl rfl) ?_
              refine LW.v rfl rfl (Val.move rfl) ?_
              refine LW.split (d := 41) rfl (fun h41 => ?_) (fun h41 => ?_)
              · replace h41 := bT h41
                refine LW.p rfl rfl ?_
                refine LW.p rfl rfl ?_
                refine LW.p rfl rfl ?_
                refine LW.p rfl rfl ?_
                refine LW.p rfl rfl ?_
                refine LW.p rfl rfl ?_
                refine LW.v rfl rfl (Val.pick_t rfl rfl) ?_
                refine LW.nil ?_
                refine PQ.seq ?_
                refine CW.cond_t rfl ?_
                refine CW.seq ?_
                refine CW.region ?_
                refine LW.v rfl rfl (Val.assign rfl) ?_
                refine LW.v rfl rfl (Val.assign rfl) ?_
                refine LW.nil ?_
                refine PQ.seq ?_
                refine CW.ret ?_
                refine PQ.then_ret ?_
                refine PQ.in_ret ?_
                refine PQ.then_ret ?_
                refine PQ.then_ret ?_
                refine PQ.in_ret ?_
                refine PQ.then_ret ?_
                refine PQ.ret2 rfl rfl rfl ?_
                have hd : l ≠ [45] := h15
                intro w' hw; exact ⟨by rw [text_none hd (hD.bad hc ha hb (.inl (by omega)))]; rfl, hw.below⟩
              · replace h41 := bF h41
                refine LW.v rfl rfl (Val.move rfl) ?_
                refine LW.v rfl rfl (Val.move rfl) ?_
                refine LW.v rfl rfl (Val.ar rfl rfl rfl (IntWalk.i64_in _ (by omega))) ?_
                refine LW.re 44 (.int .i64 ((k.1 + 2 : Nat) : Int)) rfl (by simp) ?_
                refine LW.v rfl rfl (Val.indexStr (l := l) rfl rfl Tryd.underlying9 hb) ?_
                refine LW.e rfl rfl (Eff.callV rfl Tryd.call31 (fun w hw => rhex_c b w)) ?_
                intro _ _
                refine LW.v rfl rfl (Val.cmp rfl rfl rfl) ?_
                refine LW.v rfl rfl (Val.pick_f rfl rfl) ?_
                refine LW.nil ?_
                refine PQ.seq ?_
                refine CW.cond rfl (fun h48 => ?_) (fun h48 => ?_)
                · replace h48 := bT h48
                  refine CW.seq ?_
                  refine CW.region ?_
                  refine LW.v rfl rfl (Val.assign rfl) ?_
                  refine LW.v rfl rfl (Val.assign rfl) ?_
                  refine LW.nil ?_
                  refine PQ.seq ?_
                  refine CW.ret ?_
                  refine PQ.then_ret ?_
                  refine PQ.in_ret ?_
                  refine PQ.then_ret ?_
                  refine PQ.then_ret ?_
                  refine PQ.in_ret ?_
                  refine PQ.then_ret ?_
                  refine PQ.ret2 rfl rfl rfl ?_
                  have hd : l ≠ [45] := h15
                  intro w' hw; exact ⟨by rw [text_none hd (hD.bad hc ha hb (.inr (by omega)))]; rfl, hw.below⟩
                · replace h48 := bF h48
                  refine CW.skip ?_
                  refine PQ.seq ?_
                  refine CW.seq ?_
                  refine CW.drawn ([]) mixed (by repeat (first | exact .nil | apply Pick.cons | exact .here | apply Ext.there)) ?_
                  refine RW.v 0 rfl (by kernel_rfl) (by kernel_rfl) (by kernel_rfl) (fun _ _ _ h => h) rfl rfl (Val.move rfl) ?_
                  refine RW.v 1 rfl (by kernel_rfl) (by kernel_rfl) (by kernel_rfl) (fun _ _ _ h => h) rfl rfl (Val.move rfl) ?_
                  refine RW.v 2 rfl (by kernel_rfl) (by kernel_rfl) (by kernel_rfl) (fun _ _ _ h => h) rfl rfl (Val.move rfl) ?_
                  refine RW.v 3 rfl (by kernel_rfl) (by kernel_rfl) (by kernel_rfl) (fun _ _ _ h => h) rfl rfl (Val.ar rfl rfl rfl (IntWalk.i64_in _ (by omega))) ?_
                  refine RW.re 52 (.int .i64 ((k.1 + 1 : Nat) : Int)) rfl (by simp) ?_
                  refine RW.v 4 rfl (by kernel_rfl) (by kernel_rfl) (by kernel_rfl) (fun _ _ _ h => h) rfl rfl (Val.indexStr (l := l) rfl rfl Tryd.underlying9 ha) ?_
                  refine RW.v 7 rfl (by kernel_rfl) (by kernel_rfl) (by kernel_rfl) (fun _ _ _ h => h) rfl rfl (Val.move rfl) ?_
                  refine RW.v 8 rfl (by kernel_rfl) (by kernel_rfl) (by kernel_rfl) (fun _ _ _ h => h) rfl rfl (Val.move rfl) ?_
                  refine RW.v 9 rfl (by kernel_rfl) (by kernel_rfl) (by kernel_rfl) (fun _ _ _ h => h) rfl rfl (Val.ar rfl rfl rfl (IntWalk.i64_in _ (by omega))) ?_
                  refine RW.re 58 (.int .i64 ((k.1 + 2 : Nat) : Int)) rfl (by simp) ?_
                  refine RW.v 10 rfl (by kernel_rfl) (by kernel_rfl) (by kernel_rfl) (fun _ _ _ h => h) rfl rfl (Val.indexStr (l := l) rfl rfl Tryd.underlying9 hb) ?_
                  refine RW.e 5 rfl (by kernel_rfl) rfl rfl (Eff.callV rfl Tryd.call31 (fun w hw => rhex_c a w)) (fun x => ⟨_, (by repeat (first | exact .nil | apply Pick.cons | exact .here | apply Ext.there))⟩) ?_
                  intro _ _
                  refine RW.v 6 rfl (by kernel_rfl) (by kernel_rfl) (by kernel_rfl) (fun _ _ _ h => h) rfl rfl (Val.ar rfl rfl rfl (IntWalk.i64_in _ (by omega))) ?_
                  refine RW.e 11 rfl (by kernel_rfl) rfl rfl (Eff.callV rfl Tryd.call31 (fun w hw => rhex_c b w)) (fun x => ⟨_, (by repeat (first | exact .nil | apply Pick.cons | exact .here | apply Ext.there))⟩) ?_
                  intro _ _
                  refine RW.v 12 rfl (by kernel_rfl) (by kernel_rfl) (by kernel_rfl) (fun _ _ _ h => h) rfl rfl (Val.ar rfl rfl rfl (IntWalk.i64_in _ (by omega))) ?_
                  refine RW.v 13 rfl (by kernel_rfl) (by kernel_rfl) (by kernel_rfl) (fun _ _ _ h => h) rfl rfl (Val.convI rfl Tryd.underlying3 Tryd.underlying5) ?_
                  refine RW.re 62 (.int .u8 (((dB a b).toNat : Nat) : Int)) rfl (by rw [dB_val (by omega) (by omega)]) ?_
                  refine RW.e 14 rfl (by kernel_rfl) rfl rfl (Eff.buildSlice (rfl) [_] Tryd.underlying55 Tryd.sizeOf5 (by exact Tryd.zeroValue5) rfl rfl rfl rfl (by rfl)) (fun x => ⟨_, (by repeat (first | exact .nil | apply Pick.cons | exact .here | apply Ext.there))⟩) ?_
                  intro b63 _
                  refine RW.e 15 rfl (by kernel_rfl) rfl rfl (Eff.appendAny (byC [dB a b]) (sz := 1) (bytes := 1) (z := .int .u8 0) (xs := byC k.2.2) (m0 := k.2.2.length) (o := k.2.1) (m := 1) (pk := [ownG 5 (byC k.2.2) k.2.1]) rfl rfl Tryd.underlying55 (by kernel_rfl) rfl (by omega) (by repeat (first | exact .nil | apply Pick.cons | exact .here | apply Ext.there)) (by simp) hk rfl (fun hm0 => ⟨b63, 0, rfl, fun w hw => V.range_of_block (o := 0) (cs := byC [dB a b]) (r := []) (hw.own _ (show InS (b63, .cells (byC [dB a b]).toArray 5 (0, 0)) _ from (by repeat (first | exact .here | refine .there ?_))).mem) rfl⟩) (V.byC_one _) (by omega) (by omega)) (fun x => ⟨_, (by repeat (first | exact .nil | apply Pick.cons | exact .here | apply Ext.there))⟩) ?_
                  intro o2 ho2
                  refine RW.v 16 rfl (by kernel_rfl) (by kernel_rfl) (by kernel_rfl) (fun _ _ _ h => h) rfl rfl (Val.assign rfl) ?_
                  refine RW.done (by kernel_rfl) ?_
                  refine PQ.seq ?_
                  refine CW.region ?_
                  refine LW.v rfl rfl (Val.move rfl) ?_
                  refine LW.v rfl rfl (Val.ar rfl rfl rfl (IntWalk.i64_in _ (by omega))) ?_
                  refine LW.v rfl rfl (Val.assign rfl) ?_
                  refine LW.nil ?_
                  refine PQ.in_normal ?_
                  have h1 : (k.2.2 ++ [dB a b]).length = k.2.2.length + 1 := by simp
                  have h2 : ownOk 1 (k.2.2 ++ [dB a b]).length (byC (k.2.2 ++ [dB a b])) o2 := by rw [V.byC_append, h1]; exact ho2
                  rw [← V.byC_append, ← h1]
                  refine PQ.joinedC ((k.1 + 2, o2, k.2.2 ++ [dB a b])) (⟨⟨by simp only; omega, by simp only; omega⟩, by simp only [List.length_append, List.length_singleton]; omega, h2, hD.esc hc ha hb (by omega) (by omega)⟩) (by repeat (first | exact trivial | refine ⟨rfl, ?_⟩)) (by repeat (first | exact .nil | apply Pick.cons | exact .here | apply Ext.there))
        · intro y hy
          have hyl := hy.1.2
          refine PQ.seq ?_
          refine CW.region ?_
          refine LW.v rfl rfl (Val.move rfl) ?_
          refine LW.v rfl rfl (Val.ar rfl rfl rfl (IntWalk.i64_in _ (by omega))) ?_
          refine LW.v rfl rfl (Val.assign rfl) ?_
          refine LW.nil ?_
          refine PQ.round ((y.1 + 1, y.2.1, y.2.2)) ⟨hy.1.2, hy.2.1, hy.2.2.1, hy.2.2.2, fun e => absurd e h15⟩ (by have := hy.1; simp only; omega) (by repeat (first | exact trivial | refine ⟨rfl, ?_⟩)) (by repeat (first | exact .nil | apply Pick.cons | exact .here | apply Ext.there))
      · replace h15 := bF h15
        skip
        refine CW.exit ?_
        refine PQ.then_exit ?_
        refine PQ.then_exit ?_
        refine PQ.in_here ?_
        refine PQ.seq ?_
        refine CW.seq ?_
        refine CW.seq ?_
        refine CW.region ?_
        refine LW.v rfl rfl (Val.move rfl) ?_
        refine LW.v rfl rfl (Val.convBytes (l := k.2.2) (o := k.2.1) (pk := [ownG 5 (byC k.2.2) k.2.1]) rfl Tryd.underlying55 Tryd.underlying5 Tryd.underlying9 hk (by repeat (first | exact .nil | apply Pick.cons | exact .here | apply Ext.there)) (by simp)) ?_
        refine LW.e rfl rfl (Eff.callV rfl Tryd.call15 (fun w hw => rword_c k.2.2 (by omega) w)) ?_
        intro _ _
        refine LW.v rfl rfl (Val.move rfl) ?_
        refine LW.v rfl rfl (Val.neStr rfl rfl) ?_
        refine LW.nil ?_
        refine PQ.seq ?_
        refine CW.cond rfl (fun h71 => ?_) (fun h71 => ?_)
        · replace h71 := bT h71
          refine CW.seq ?_
          refine CW.region ?_
          refine LW.v rfl rfl (Val.assign rfl) ?_
          refine LW.v rfl rfl (Val.assign rfl) ?_
          refine LW.nil ?_
          refine PQ.seq ?_
          refine CW.ret ?_
          refine PQ.then_ret ?_
          refine PQ.ret2 rfl rfl rfl ?_
          intro w' hw
          refine ⟨?_, hw.below⟩
          by_cases hd : l = [45]
          · obtain ⟨-, ha0⟩ := hz hd
            subst hd; rw [ha0] at h71; exact absurd rfl h71
          · rw [text_some hd (hD.fin (by first | omega | exact absurd h15 hd)), if_neg h71]; rfl
        · replace h71 := bF h71
          refine CW.skip ?_
          refine PQ.seq ?_
          refine CW.seq ?_
          refine CW.region ?_
          refine LW.v rfl rfl (Val.move rfl) ?_
          refine LW.v rfl rfl (Val.convBytes (l := k.2.2) (o := k.2.1) (pk := [ownG 5 (byC k.2.2) k.2.1]) rfl Tryd.underlying55 Tryd.underlying5 Tryd.underlying9 hk (by repeat (first | exact .nil | apply Pick.cons | exact .here | apply Ext.there)) (by simp)) ?_
          refine LW.v rfl rfl (Val.assign rfl) ?_
          refine LW.v rfl rfl (Val.assign rfl) ?_
          refine LW.nil ?_
          refine PQ.seq ?_
          refine CW.ret ?_
          refine PQ.ret2 rfl rfl rfl ?_
          intro w' hw
          refine ⟨?_, hw.below⟩
          by_cases hd : l = [45]
          · obtain ⟨-, ha0⟩ := hz hd
            subst hd; rw [ha0]; rfl
          · rw [text_some hd (hD.fin (by first | omega | exact absurd h15 hd)), if_pos h71]; rfl
    · replace h12 := bF h12
      refine LW.p rfl rfl ?_
      refine LW.p rfl rfl ?_
      refine LW.v rfl rfl (Val.pick_f rfl rfl) ?_
      refine LW.nil ?_
      refine PQ.seq ?_
      refine CW.cond_f rfl ?_
      refine CW.exit ?_
      refine PQ.then_exit ?_
      refine PQ.then_exit ?_
      refine PQ.in_here ?_
      refine PQ.seq ?_
      refine CW.seq ?_
      refine CW.seq ?_
      refine CW.region ?_
      refine LW.v rfl rfl (Val.move rfl) ?_
      refine LW.v rfl rfl (Val.convBytes (l := k.2.2) (o := k.2.1) (pk := [ownG 5 (byC k.2.2) k.2.1]) rfl Tryd.underlying55 Tryd.underlying5 Tryd.underlying9 hk (by repeat (first | exact .nil | apply Pick.cons | exact .here | apply Ext.there)) (by simp)) ?_
      refine LW.e rfl rfl (Eff.callV rfl Tryd.call15 (fun w hw => rword_c k.2.2 (by omega) w)) ?_
      intro _ _
      refine LW.v rfl rfl (Val.move rfl) ?_
      refine LW.v rfl rfl (Val.neStr rfl rfl) ?_
      refine LW.nil ?_
      refine PQ.seq ?_
      refine CW.cond rfl (fun h71 => ?_) (fun h71 => ?_)
      · replace h71 := bT h71
        refine CW.seq ?_
        refine CW.region ?_
        refine LW.v rfl rfl (Val.assign rfl) ?_
        refine LW.v rfl rfl (Val.assign rfl) ?_
        refine LW.nil ?_
        refine PQ.seq ?_
        refine CW.ret ?_
        refine PQ.then_ret ?_
        refine PQ.ret2 rfl rfl rfl ?_
        intro w' hw
        refine ⟨?_, hw.below⟩
        by_cases hd : l = [45]
        · obtain ⟨-, ha0⟩ := hz hd
          subst hd; rw [ha0] at h71; exact absurd rfl h71
        · rw [text_some hd (hD.fin (by first | omega | exact absurd h15 hd)), if_neg h71]; rfl
      · replace h71 := bF h71
        refine CW.skip ?_
        refine PQ.seq ?_
        refine CW.seq ?_
        refine CW.region ?_
        refine LW.v rfl rfl (Val.move rfl) ?_
        refine LW.v rfl rfl (Val.convBytes (l := k.2.2) (o := k.2.1) (pk := [ownG 5 (byC k.2.2) k.2.1]) rfl Tryd.underlying55 Tryd.underlying5 Tryd.underlying9 hk (by repeat (first | exact .nil | apply Pick.cons | exact .here | apply Ext.there)) (by simp)) ?_
        refine LW.v rfl rfl (Val.assign rfl) ?_
        refine LW.v rfl rfl (Val.assign rfl) ?_
        refine LW.nil ?_
        refine PQ.seq ?_
        refine CW.ret ?_
        refine PQ.ret2 rfl rfl rfl ?_
        intro w' hw
        refine ⟨?_, hw.below⟩
        by_cases hd : l = [45]
        · obtain ⟨-, ha0⟩ := hz hd
          subst hd; rw [ha0]; rfl
        · rw [text_some hd (hD.fin (by first | omega | exact absurd h15 hd)), if_pos h71]; rfl
end Go.Proofs.YtagliemeolngiaaDoor
