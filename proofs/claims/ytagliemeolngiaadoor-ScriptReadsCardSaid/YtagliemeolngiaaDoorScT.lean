/- Events read out of words. -/
import Derived.Test.YtagliemeolngiaaDoorScS
import Derived.Lib.Hide
namespace Go.Proofs.YtagliemeolngiaaDoor
open Go Go.RowKit V
set_option linter.unusedVariables false
set_option maxRecDepth 100000
open V (str byC ownV ownG ownS ownOk)
def pNum : List (List UInt8) → Option (Int × List (List UInt8))
  | [] => none
  | w :: r => (numF w).map fun (n : Nat) => ((n : Int), r)
def pNums : List (List UInt8) → Option (List Int)
  | [] => some []
  | w :: r => (numF w).bind fun (n : Nat) => (pNums r).map fun l => (n : Int) :: l
def e0 (k th ln : Int) (c : Cq) : Evq := ⟨k, th, ln, c, nilSl⟩
/-- An event, its group's calls, its lines. -/
abbrev AEv := Evq × List Cq × List Int
def pEvent : List (List UInt8) → Option (AEv × List (List UInt8))
  | [] => none
  | w :: r =>
    if w = [99, 97, 108, 108] then (pNum r).bind fun x => (pCall x.2).map fun y => ((e0 1 x.1 0 y.1.1, y.1.2, []), y.2)
    else if w = [115, 116, 101, 112] then (pNum r).map fun x => ((e0 2 x.1 0 (c0q 0), [], []), x.2)
    else if w = [107, 101, 101, 112] then some ((e0 3 0 0 (c0q 0), [], []), r)
    else if w = [98, 97, 99, 107] then (pNum r).map fun x => ((e0 4 0 x.1 (c0q 0), [], []), x.2)
    else if w = [99, 117, 116] then (pNums r).map fun kl => ((e0 5 0 0 (c0q 0), [], kl), [])
    else if w = [114, 101, 118, 105, 118, 101] then some ((e0 6 0 0 (c0q 0), [], []), r)
    else none
/-- The number of the next word, read. -/
theorem pres_num (bad : Bool) (q : Bool × List UInt8) : PRes bad (bad || (wl q).isEmpty || (numF ((wl q).headD [])).isNone) (pNum (wl q)) (((numF ((wl q).headD [])).getD 0 : Nat) : Int) (wl (nxq q)) := by
  rw [nxq_wl]
  refine ⟨fun hb => by rw [hb]; simp, fun hb => ?_⟩
  rw [hb]
  cases wl q with
  | nil => exact ⟨fun e => by simp at e, fun _ => rfl⟩
  | cons w r =>
    cases hn : numF w with
    | none => exact ⟨fun e => by simp [hn] at e, fun _ => by simp [pNum, hn]⟩
    | some n => exact ⟨fun _ => by simp [pNum, hn], fun e => by simp [hn] at e⟩
theorem PRes.bind {α β : Type} {b1 b2 b3 : Bool} {p : Option (α × List (List UInt8))} {v : α} {L : List (List UInt8)} (h : PRes b1 b2 p v L) {f : α × List (List UInt8) → Option (β × List (List UInt8))} {u : β} {L2 : List (List UInt8)} (h2 : PRes b2 b3 (f (v, L)) u L2) : PRes b1 b3 (p.bind f) u L2 := by
  refine ⟨fun hb => h2.1 (h.1 hb), fun hb => ?_⟩
  obtain ⟨h3, h4⟩ := h.2 hb
  cases hb2 : b2 with
  | true => rw [h4 hb2]; exact ⟨(fun h5 => by rw [h2.1 hb2] at h5; cases h5), fun _ => rfl⟩
  | false => rw [h3 hb2]; exact h2.2 hb2
theorem PRes.map {α β : Type} {b1 b2 : Bool} {p : Option (α × List (List UInt8))} {v : α} {L : List (List UInt8)} (h : PRes b1 b2 p v L) (f : α × List (List UInt8) → β × List (List UInt8)) {u : β} {L2 : List (List UInt8)} (hf : f (v, L) = (u, L2)) : PRes b1 b2 (p.map f) u L2 := by
  refine ⟨h.1, fun hb => ⟨fun h5 => by rw [(h.2 hb).1 h5, Option.map_some, hf], fun h5 => by rw [(h.2 hb).2 h5]; rfl⟩⟩
theorem PRes.refl {α : Type} (bad : Bool) (v : α) (L : List (List UInt8)) : PRes bad bad (some (v, L)) v L := ⟨fun h => h, fun h => ⟨fun _ => rfl, fun h2 => by rw [h] at h2; cases h2⟩⟩
theorem PRes.bad {α : Type} (bad : Bool) (v : α) (L : List (List UInt8)) : PRes bad true none v L := ⟨fun _ => rfl, fun _ => ⟨(fun h => by cases h), fun _ => rfl⟩⟩
/-- Numbers, read in part. -/
def PN (bad bd : Bool) (ws : List (List UInt8)) (i : Nat) (kl : List Int) : Prop := (bad = true → bd = true) ∧ (bad = false → (bd = false → pNums ws = (pNums (ws.drop i)).map fun l => kl ++ l) ∧ (bd = true → pNums ws = none))
theorem PN.step {bad bd : Bool} {ws : List (List UInt8)} {i : Nat} {kl : List Int} {x : List UInt8} (h : PN bad bd ws i kl) (hx : ws[i]? = some x) : PN bad (bd || (numF x).isNone) ws (i + 1) (kl ++ [(((numF x).getD 0 : Nat) : Int)]) := by
  have hi := (List.getElem?_eq_some_iff.1 hx).1
  have hd : ws.drop i = x :: ws.drop (i + 1) := by
    rw [List.drop_eq_getElem_cons hi]
    have := List.getElem?_eq_getElem hi
    rw [hx] at this
    rw [Option.some.inj this]
  refine ⟨fun hb => by rw [h.1 hb]; rfl, fun hb => ?_⟩
  obtain ⟨h1, h2⟩ := h.2 hb
  rw [hd] at h1
  cases hbd : bd with
  | true => exact ⟨fun e => by simp at e, fun _ => h2 hbd⟩
  | false =>
    rw [h1 hbd]
    cases hn : numF x with
    | none => exact ⟨fun e => by simp at e, fun _ => by simp [pNums, hn]⟩
    | some n => refine ⟨fun _ => ?_, fun e => by simp at e⟩; simp only [pNums, hn, Option.bind_some, Option.getD_some]; cases pNums (ws.drop (i + 1)) <;> simp
theorem wl_eq {q : Bool × List UInt8} {c : List UInt8} (h : (wl q).headD [] = c) (hc : c ≠ []) : wl q = c :: wl (nxq q) ∧ (wl q).isEmpty = false := by
  rw [nxq_wl]
  cases hw : wl q with
  | nil => rw [hw] at h; exact absurd h.symm hc
  | cons a r => rw [hw] at h; simp only [List.headD_cons] at h; subst h; exact ⟨rfl, rfl⟩
theorem pEv1 (r : List (List UInt8)) : pEvent ([99, 97, 108, 108] :: r) = (pNum r).bind fun x => (pCall x.2).map fun y => ((e0 1 x.1 0 y.1.1, y.1.2, []), y.2) := rfl
theorem pEv2 (r : List (List UInt8)) : pEvent ([115, 116, 101, 112] :: r) = (pNum r).map fun x => ((e0 2 x.1 0 (c0q 0), [], []), x.2) := rfl
theorem pEv3 (r : List (List UInt8)) : pEvent ([107, 101, 101, 112] :: r) = some ((e0 3 0 0 (c0q 0), [], []), r) := rfl
theorem pEv4 (r : List (List UInt8)) : pEvent ([98, 97, 99, 107] :: r) = (pNum r).map fun x => ((e0 4 0 x.1 (c0q 0), [], []), x.2) := rfl
theorem pEv5 (r : List (List UInt8)) : pEvent ([99, 117, 116] :: r) = (pNums r).map fun kl => ((e0 5 0 0 (c0q 0), [], kl), []) := rfl
theorem pEv6 (r : List (List UInt8)) : pEvent ([114, 101, 118, 105, 118, 101] :: r) = some ((e0 6 0 0 (c0q 0), [], []), r) := rfl
/-- What reading an event leaves: the event, its group's calls, its lines, with where these lie. -/
abbrev YEv := (Evq × List Cq × V.OwnO × List Int × V.OwnO) × (Bool × List UInt8) × Bool
def YOk (bad : Bool) (L : List (List UInt8)) (y : YEv) : Prop := PRes bad y.2.2 (pEvent L) (y.1.1, y.1.2.1, y.1.2.2.2.1) (wl y.2.1) ∧ QOk y.2.1 ∧ ownOk 5 y.1.2.1.length (y.1.2.1.flatMap Cq.cells) y.1.2.2.1 ∧ ownOk 1 y.1.2.2.2.1.length (y.1.2.2.2.1.flatMap intC) y.1.2.2.2.2 ∧ (y.1.1.call.grp = nilSl ∧ y.1.1.keep = nilSl ∧ y.1.1.call.small) ∧ (∀ x ∈ y.1.2.1, x.grp = nilSl ∧ x.small) ∧ y.1.2.2.2.1.length ≤ 70001
theorem spl_all (c : UInt8) : ∀ (u : List UInt8) (x : List UInt8), x ∈ spl c u → x.length ≤ u.length
  | [], x, h => by simp [spl] at h; subst h; simp
  | y :: r, x, h => by
    simp only [spl] at h
    split at h
    · rcases List.mem_cons.1 h with rfl | h
      · simp
      · have := spl_all c r x h; simp; omega
    · split at h
      · simp at h; subst h; simp
      · rename_i a t' hs
        rcases List.mem_cons.1 h with rfl | h
        · have := spl_all c r a (by rw [hs]; simp)
          simp; omega
        · have := spl_all c r x (by rw [hs]; simp [h])
          simp; omega
theorem wl_all {q : Bool × List UInt8} (h : QOk q) (x : List UInt8) (hx : x ∈ wl q) : x.length ≤ 70000 := by
  unfold wl at hx
  split at hx
  · have := spl_all 32 q.2 x hx; unfold QOk at h; omega
  · simp at hx
theorem rdevent_c {W : World} (hN : NumLib W) (r m s : Nat) (q : Bool × List UInt8) (bad : Bool) (hq : QOk q) (w : World) (hO : Ov W w) (hR : ∀ b ∈ ids [rdS r m s q bad], W.heap.size ≤ b) (hs : Sat [rdS r m s q bad] w) : Calls Tryd.prog 48 [.pointer (some ⟨r, 0, none⟩)].toArray w fun e w' => ∃ y : YEv, YOk bad (wl q) y ∧ e = .returned (.agg (y.1.1.re (ownSl y.1.2.1.length y.1.2.2.1) (ownSl y.1.2.2.2.1.length y.1.2.2.2.2)).cells.toArray) ∧ Hp ⟨w, ids [rdS r m s q bad]⟩ [rdS r m s y.2.1 y.2.2, ownG 41 (y.1.2.1.flatMap Cq.cells) y.1.2.2.1, ownG 3 (y.1.2.2.2.1.flatMap intC) y.1.2.2.2.2] w' := by
  refine V.calls [rdS r m s q bad] Tryd.func48 rfl Tryd.ntmps48 (Nat.le_of_ble_eq_true rfl) hs ?_
  have hwq0 := wl_len hq
  refine CW.seq ?_
  refine CW.region ?_
  refine LW.e rfl rfl (Eff.allocA (by exact Tryd.zeroValue44)) ?_
  intro b2 _
  refine LW.nil ?_
  refine PQ.seq ?_
  refine CW.seq ?_
  refine CW.seq ?_
  refine CW.region ?_
  refine LW.v rfl rfl (Val.move rfl) ?_
  refine LW.e rfl rfl (Eff.callM ([rdS r m s q bad]) (by repeat (first | exact .nil | apply Pick.cons | exact .here | apply Ext.there)) rfl Tryd.call59 (fun w hw hs0 => rword2_c r m s q bad hq w hs0)) ?_
  intro _ _
  refine LW.nil ?_
  refine PQ.seq ?_
  refine CW.block ?_
  refine CW.seq ?_
  refine CW.region ?_
  refine LW.v rfl rfl (Val.eqStr rfl rfl) ?_
  refine LW.v rfl rfl (Val.assign rfl) ?_
  refine LW.nil ?_
  refine PQ.seq ?_
  refine CW.cond rfl (fun h8 => ?_) (fun h8 => ?_)
  · replace h8 := bT h8
    have h8n : (wl q).headD [] = [99, 97, 108, 108] := by simpa using h8
    rw [show (bad || (wl q).isEmpty) = bad from by rw [(wl_eq h8n (by simp)).2]; simp]
    refine CW.seq ?_
    refine CW.region ?_
    refine LW.v rfl rfl (Val.move rfl) ?_
    refine LW.v rfl rfl (Val.move rfl) ?_
    refine LW.e rfl rfl (Eff.callM ([rdS r m s (nxq q) bad]) (by repeat (first | exact .nil | apply Pick.cons | exact .here | apply Ext.there)) rfl Tryd.call59 (fun w hw hs0 => rword2_c r m s (nxq q) bad (nxq_ok hq) w hs0)) ?_
    intro _ _
    refine LW.e rfl rfl (Eff.callM ([rdS r m s (nxq (nxq q)) (bad || (wl (nxq q)).isEmpty)]) (by repeat (first | exact .nil | apply Pick.cons | exact .here | apply Ext.there)) rfl Tryd.call60 (fun w hw hs0 => number_c hN r m s (nxq (nxq q)) (bad || (wl (nxq q)).isEmpty) ((wl (nxq q)).headD []) (by have := wl_len (nxq_ok hq); omega) w (hO.hp hR hw) hR hs0)) ?_
    intro _ _
    refine LW.v rfl rfl (Val.move rfl) ?_
    refine LW.e rfl rfl (Eff.callM ([rdS r m s (nxq (nxq q)) (bad || (wl (nxq q)).isEmpty || (numF ((wl (nxq q)).headD [])).isNone)]) (by repeat (first | exact .nil | apply Pick.cons | exact .here | apply Ext.there)) rfl Tryd.call61 (fun w hw hs0 => rdcall_c r m s (nxq (nxq q)) (bad || (wl (nxq q)).isEmpty || (numF ((wl (nxq q)).headD [])).isNone) (nxq_ok (nxq_ok hq)) w hs0)) ?_
    intro y hy
    refine LW.v rfl rfl (Val.build [_, _, _, _, _, _, _, _, _] Tryd.zeroValue44 Tryd.underlying44 places44 rfl (by rfl)) ?_
    first | (refine LW.eN rfl (Eff.storeW rfl rfl (by repeat (first | exact .here | exact .inner .here | exact .inner (.inner .here) | apply Upd.there)) (by rfl) Tryd.sizeOf44 (by rfl)) ?_) | (refine LW.eN rfl (Eff.storeW rfl rfl (by repeat (first | exact .here | exact .inner .here | exact .inner (.inner .here) | apply Upd.there)) (by rfl) Tryd.sizeOf44 (by simp only [ownSl_v]; rfl)) ?_)
    intro _ _
    refine LW.nil ?_
    refine PQ.seq ?_
    refine CW.ret ?_
    refine PQ.in_ret ?_
    refine PQ.then_ret ?_
    refine V.PQ.retC rfl rfl (by repeat (first | exact .here | exact .inner .here | exact .inner (.inner .here) | refine .there ?_)) Tryd.isAgg44 (by exact Tryd.sizeOf44) ?_
    intro w' hw
    obtain ⟨hwc, hwe⟩ := wl_eq h8n (by simp)
    have hpe : pEvent (wl q) = pEvent ([99, 97, 108, 108] :: wl (nxq q)) := by rw [hwc]
    refine ⟨((e0 1 (((numF ((wl (nxq q)).headD [])).getD 0 : Nat) : Int) 0 y.1.1, y.1.2.1, y.1.2.2, [], none), y.2.1, y.2.2), ⟨?_, hy.2.1, hy.2.2.1, ⟨rfl, rfl⟩, ⟨hy.2.2.2.1.1, rfl, hy.2.2.2.1.2⟩, hy.2.2.2.2, by simp⟩, rfl, (hw.pick (ss := [rdS r m s y.2.1 y.2.2, ownG 41 (y.1.2.1.flatMap Cq.cells) y.1.2.2]) (by repeat (first | exact .nil | apply Pick.cons | exact .here | apply Ext.there))).perm (by first | exact .refl _ | (simp [V.ownG, V.ownS]; done))⟩
    rw [hpe, pEv1]
    exact (pres_num bad (nxq q)).bind (hy.1.map _ rfl)
  · replace h8 := bF h8
    have h8n : ¬ (wl q).headD [] = [99, 97, 108, 108] := by simpa using h8
    refine CW.seq ?_
    refine CW.region ?_
    refine LW.v rfl rfl (Val.eqStr rfl rfl) ?_
    refine LW.v rfl rfl (Val.assign rfl) ?_
    refine LW.nil ?_
    refine PQ.seq ?_
    refine CW.cond rfl (fun h17 => ?_) (fun h17 => ?_)
    · replace h17 := bT h17
      have h17n : (wl q).headD [] = [115, 116, 101, 112] := by simpa using h17
      rw [show (bad || (wl q).isEmpty) = bad from by rw [(wl_eq h17n (by simp)).2]; simp]
      refine CW.seq ?_
      refine CW.region ?_
      refine LW.v rfl rfl (Val.move rfl) ?_
      refine LW.v rfl rfl (Val.move rfl) ?_
      refine LW.e rfl rfl (Eff.callM ([rdS r m s (nxq q) bad]) (by repeat (first | exact .nil | apply Pick.cons | exact .here | apply Ext.there)) rfl Tryd.call59 (fun w hw hs0 => rword2_c r m s (nxq q) bad (nxq_ok hq) w hs0)) ?_
      intro _ _
      refine LW.e rfl rfl (Eff.callM ([rdS r m s (nxq (nxq q)) (bad || (wl (nxq q)).isEmpty)]) (by repeat (first | exact .nil | apply Pick.cons | exact .here | apply Ext.there)) rfl Tryd.call60 (fun w hw hs0 => number_c hN r m s (nxq (nxq q)) (bad || (wl (nxq q)).isEmpty) ((wl (nxq q)).headD []) (by have := wl_len (nxq_ok hq); omega) w (hO.hp hR hw) hR hs0)) ?_
      intro _ _
      refine LW.v rfl rfl (Val.build [_, _, _, _, _, _, _, _, _] Tryd.zeroValue44 Tryd.underlying44 places44 rfl (by rfl)) ?_
      first | (refine LW.eN rfl (Eff.storeW rfl rfl (by repeat (first | exact .here | exact .inner .here | exact .inner (.inner .here) | apply Upd.there)) (by rfl) Tryd.sizeOf44 (by rfl)) ?_) | (refine LW.eN rfl (Eff.storeW rfl rfl (by repeat (first | exact .here | exact .inner .here | exact .inner (.inner .here) | apply Upd.there)) (by rfl) Tryd.sizeOf44 (by simp only [ownSl_v]; rfl)) ?_)
      intro _ _
      refine LW.nil ?_
      refine PQ.seq ?_
      refine CW.ret ?_
      refine PQ.in_ret ?_
      refine PQ.then_ret ?_
      refine V.PQ.retC rfl rfl (by repeat (first | exact .here | exact .inner .here | exact .inner (.inner .here) | refine .there ?_)) Tryd.isAgg44 (by exact Tryd.sizeOf44) ?_
      intro w' hw
      obtain ⟨hwc, hwe⟩ := wl_eq h17n (by simp)
      have hpe : pEvent (wl q) = pEvent ([115, 116, 101, 112] :: wl (nxq q)) := by rw [hwc]
      refine ⟨((e0 2 (((numF ((wl (nxq q)).headD [])).getD 0 : Nat) : Int) 0 (c0q 0), [], none, [], none), nxq (nxq q), (bad || (wl (nxq q)).isEmpty || (numF ((wl (nxq q)).headD [])).isNone)), ⟨?_, nxq_ok (nxq_ok hq), ⟨rfl, rfl⟩, ⟨rfl, rfl⟩, ⟨rfl, rfl, by unfold e0 Cq.small c0q; simp⟩, by simp, by simp⟩, rfl, (hw.pick (ss := [rdS r m s (nxq (nxq q)) (bad || (wl (nxq q)).isEmpty || (numF ((wl (nxq q)).headD [])).isNone)]) (by repeat (first | exact .nil | apply Pick.cons | exact .here | apply Ext.there))).perm (by first | exact .refl _ | (simp [V.ownG, V.ownS]; done))⟩
      rw [hpe, pEv2]
      exact (pres_num bad (nxq q)).map _ rfl
    · replace h17 := bF h17
      have h17n : ¬ (wl q).headD [] = [115, 116, 101, 112] := by simpa using h17
      refine CW.seq ?_
      refine CW.region ?_
      refine LW.v rfl rfl (Val.eqStr rfl rfl) ?_
      refine LW.v rfl rfl (Val.assign rfl) ?_
      refine LW.nil ?_
      refine PQ.seq ?_
      refine CW.cond rfl (fun h24 => ?_) (fun h24 => ?_)
      · replace h24 := bT h24
        have h24n : (wl q).headD [] = [107, 101, 101, 112] := by simpa using h24
        rw [show (bad || (wl q).isEmpty) = bad from by rw [(wl_eq h24n (by simp)).2]; simp]
        refine CW.seq ?_
        refine CW.region ?_
        refine LW.v rfl rfl (Val.build [_, _, _, _, _, _, _, _, _] Tryd.zeroValue44 Tryd.underlying44 places44 rfl (by rfl)) ?_
        first | (refine LW.eN rfl (Eff.storeW rfl rfl (by repeat (first | exact .here | exact .inner .here | exact .inner (.inner .here) | apply Upd.there)) (by rfl) Tryd.sizeOf44 (by rfl)) ?_) | (refine LW.eN rfl (Eff.storeW rfl rfl (by repeat (first | exact .here | exact .inner .here | exact .inner (.inner .here) | apply Upd.there)) (by rfl) Tryd.sizeOf44 (by simp only [ownSl_v]; rfl)) ?_)
        intro _ _
        refine LW.nil ?_
        refine PQ.seq ?_
        refine CW.ret ?_
        refine PQ.in_ret ?_
        refine PQ.then_ret ?_
        refine V.PQ.retC rfl rfl (by repeat (first | exact .here | exact .inner .here | exact .inner (.inner .here) | refine .there ?_)) Tryd.isAgg44 (by exact Tryd.sizeOf44) ?_
        intro w' hw
        obtain ⟨hwc, hwe⟩ := wl_eq h24n (by simp)
        have hpe : pEvent (wl q) = pEvent ([107, 101, 101, 112] :: wl (nxq q)) := by rw [hwc]
        refine ⟨((e0 3 0 0 (c0q 0), [], none, [], none), nxq q, bad), ⟨?_, nxq_ok hq, ⟨rfl, rfl⟩, ⟨rfl, rfl⟩, ⟨rfl, rfl, by unfold e0 Cq.small c0q; simp⟩, by simp, by simp⟩, rfl, (hw.pick (ss := [rdS r m s (nxq q) bad]) (by repeat (first | exact .nil | apply Pick.cons | exact .here | apply Ext.there))).perm (by first | exact .refl _ | (simp [V.ownG, V.ownS]; done))⟩
        rw [hpe, pEv3]
        exact PRes.refl _ _ _
      · replace h24 := bF h24
        have h24n : ¬ (wl q).headD [] = [107, 101, 101, 112] := by simpa using h24
        refine CW.seq ?_
        refine CW.region ?_
        refine LW.v rfl rfl (Val.eqStr rfl rfl) ?_
        refine LW.v rfl rfl (Val.assign rfl) ?_
        refine LW.nil ?_
        refine PQ.seq ?_
        refine CW.cond rfl (fun h27 => ?_) (fun h27 => ?_)
        · replace h27 := bT h27
          have h27n : (wl q).headD [] = [98, 97, 99, 107] := by simpa using h27
          rw [show (bad || (wl q).isEmpty) = bad from by rw [(wl_eq h27n (by simp)).2]; simp]
          refine CW.seq ?_
          refine CW.region ?_
          refine LW.v rfl rfl (Val.move rfl) ?_
          refine LW.v rfl rfl (Val.move rfl) ?_
          refine LW.e rfl rfl (Eff.callM ([rdS r m s (nxq q) bad]) (by repeat (first | exact .nil | apply Pick.cons | exact .here | apply Ext.there)) rfl Tryd.call59 (fun w hw hs0 => rword2_c r m s (nxq q) bad (nxq_ok hq) w hs0)) ?_
          intro _ _
          refine LW.e rfl rfl (Eff.callM ([rdS r m s (nxq (nxq q)) (bad || (wl (nxq q)).isEmpty)]) (by repeat (first | exact .nil | apply Pick.cons | exact .here | apply Ext.there)) rfl Tryd.call60 (fun w hw hs0 => number_c hN r m s (nxq (nxq q)) (bad || (wl (nxq q)).isEmpty) ((wl (nxq q)).headD []) (by have := wl_len (nxq_ok hq); omega) w (hO.hp hR hw) hR hs0)) ?_
          intro _ _
          refine LW.v rfl rfl (Val.build [_, _, _, _, _, _, _, _, _] Tryd.zeroValue44 Tryd.underlying44 places44 rfl (by rfl)) ?_
          first | (refine LW.eN rfl (Eff.storeW rfl rfl (by repeat (first | exact .here | exact .inner .here | exact .inner (.inner .here) | apply Upd.there)) (by rfl) Tryd.sizeOf44 (by rfl)) ?_) | (refine LW.eN rfl (Eff.storeW rfl rfl (by repeat (first | exact .here | exact .inner .here | exact .inner (.inner .here) | apply Upd.there)) (by rfl) Tryd.sizeOf44 (by simp only [ownSl_v]; rfl)) ?_)
          intro _ _
          refine LW.nil ?_
          refine PQ.seq ?_
          refine CW.ret ?_
          refine PQ.in_ret ?_
          refine PQ.then_ret ?_
          refine V.PQ.retC rfl rfl (by repeat (first | exact .here | exact .inner .here | exact .inner (.inner .here) | refine .there ?_)) Tryd.isAgg44 (by exact Tryd.sizeOf44) ?_
          intro w' hw
          obtain ⟨hwc, hwe⟩ := wl_eq h27n (by simp)
          have hpe : pEvent (wl q) = pEvent ([98, 97, 99, 107] :: wl (nxq q)) := by rw [hwc]
          refine ⟨((e0 4 0 (((numF ((wl (nxq q)).headD [])).getD 0 : Nat) : Int) (c0q 0), [], none, [], none), nxq (nxq q), (bad || (wl (nxq q)).isEmpty || (numF ((wl (nxq q)).headD [])).isNone)), ⟨?_, nxq_ok (nxq_ok hq), ⟨rfl, rfl⟩, ⟨rfl, rfl⟩, ⟨rfl, rfl, by unfold e0 Cq.small c0q; simp⟩, by simp, by simp⟩, rfl, (hw.pick (ss := [rdS r m s (nxq (nxq q)) (bad || (wl (nxq q)).isEmpty || (numF ((wl (nxq q)).headD [])).isNone)]) (by repeat (first | exact .nil | apply Pick.cons | exact .here | apply Ext.there))).perm (by first | exact .refl _ | (simp [V.ownG, V.ownS]; done))⟩
          rw [hpe, pEv4]
          exact (pres_num bad (nxq q)).map _ rfl
        · replace h27 := bF h27
          have h27n : ¬ (wl q).headD [] = [98, 97, 99, 107] := by simpa using h27
          refine CW.seq ?_
          refine CW.region ?_
          refine LW.v rfl rfl (Val.eqStr rfl rfl) ?_
          refine LW.v rfl rfl (Val.assign rfl) ?_
          refine LW.nil ?_
          refine PQ.seq ?_
          refine CW.cond rfl (fun h34 => ?_) (fun h34 => ?_)
          · replace h34 := bT h34
            have h34n : (wl q).headD [] = [99, 117, 116] := by simpa using h34
            rw [show (bad || (wl q).isEmpty) = bad from by rw [(wl_eq h34n (by simp)).2]; simp]
            refine CW.seq ?_
            refine CW.region ?_
            refine LW.v rfl rfl (Val.build [_, _, _, _, _, _, _, _, _] Tryd.zeroValue44 Tryd.underlying44 places44 rfl (by rfl)) ?_
            refine LW.e rfl rfl (Eff.allocA (by exact Tryd.zeroValue44)) ?_
            intro b3 _
            refine LW.eN rfl (Eff.storeW (cs := [.int .i64 5, .int .i64 0, .int .i64 0, .int .i64 0, str [], str [], str [], .slice none 0 0, ownV 0 none]) rfl rfl (by repeat (first | exact .here | exact .inner .here | exact .inner (.inner .here) | apply Upd.there)) (by rfl) Tryd.sizeOf44 (by rfl)) ?_
            intro _ _
            refine LW.nil ?_
            refine PQ.seq ?_
            refine CW.seq ?_
            refine CW.seq ?_
            refine CW.region ?_
            refine LW.v rfl rfl (Val.move rfl) ?_
            refine LW.e rfl rfl (Eff.callM ([rdS r m s (nxq q) bad]) (by repeat (first | exact .nil | apply Pick.cons | exact .here | apply Ext.there)) rfl Tryd.call49 (fun w hw hs0 => rest_c r m s (nxq q) bad (nxq_ok hq) w hs0)) ?_
            intro y9 hy9
            refine LW.v rfl rfl (Val.lenOwn rfl Tryd.underlying73 hy9.1) ?_
            refine LW.v rfl rfl (Val.move rfl) ?_
            refine LW.nil ?_
            refine PQ.seq ?_
            refine CW.block ?_
            refine V.CW.addOwn 3 ?_
            refine CW.loop (γ := Nat × V.OwnO × List Int × Bool) (fun k => [(0, .pointer (some ⟨r, 0, none⟩)), (2, .pointer (some ⟨b2, 0, none⟩)), (3, .pointer (some ⟨b3, 0, none⟩)), (38, ownV (wl (nxq q)).length y9.1), (39, .int .i64 ((wl (nxq q)).length : Nat)), (40, .int .i64 (k.1 : Nat))]) (fun k => [rdS r m s y9.2 k.2.2.2, [(b2, .cells [.int .i64 0, .int .i64 0, .int .i64 0, .int .i64 0, .string ⟨#[]⟩, .string ⟨#[]⟩, .string ⟨#[]⟩, .slice none 0 0, .slice none 0 0].toArray 44 (0, 0))], [(b3, .cells [.int .i64 5, .int .i64 0, .int .i64 0, .int .i64 0, str [], str [], str [], .slice none 0 0, ownV k.2.2.1.length k.2.1].toArray 44 (0, 0))], ownG 3 (k.2.2.1.flatMap intC) k.2.1, ownG 9 (stC (wl (nxq q))) y9.1]) (fun k => k.1 ≤ (wl (nxq q)).length ∧ ownOk 1 k.2.2.1.length (k.2.2.1.flatMap intC) k.2.1 ∧ k.2.2.1.length = k.1 ∧ PN bad k.2.2.2 (wl (nxq q)) k.1 k.2.2.1) (fun k => (wl (nxq q)).length - k.1) ((0, none, [], bad)) ⟨Nat.zero_le _, ⟨rfl, rfl⟩, rfl, ⟨fun h => h, fun h => ⟨fun _ => by simp, fun h2 => by simp only at h2; rw [h] at h2; cases h2⟩⟩⟩ (by repeat (first | exact trivial | refine ⟨rfl, ?_⟩)) (by repeat (first | exact .nil | apply Pick.cons | exact .here | apply Ext.there)) ?_
            intro k
            rintro ⟨hk1, hk2, hk3, hkp⟩
            have hcn := wl_count (nxq_ok hq)
            refine CW.seq ?_
            refine CW.region ?_
            refine LW.v rfl rfl (Val.cmp rfl rfl rfl) ?_
            refine LW.nil ?_
            refine PQ.seq ?_
            refine CW.seq ?_
            refine CW.cond rfl (fun h41 => ?_) (fun h41 => ?_)
            · replace h41 := bT h41
              have hgo := hy9.1
              obtain ⟨⟨g, rest, cap⟩, hgy⟩ := own_some hgo (by omega)
              rw [hgy] at hgo
              obtain ⟨x, hx⟩ : ∃ x, (wl (nxq q))[k.1]? = some x := ⟨(wl (nxq q))[k.1]'(by omega), by simp⟩
              have hxl : x.length ≤ 70000 := wl_all (nxq_ok hq) x (List.mem_of_getElem? hx)
              refine CW.re 38 (ownV (wl (nxq q)).length (some (g, rest, cap))) rfl (by rw [hgy]) ?_
              rw [hgy, V.ownG_some]
              refine CW.skip ?_
              refine PQ.seq ?_
              refine CW.seq ?_
              refine CW.block ?_
              refine CW.seq ?_
              refine CW.region ?_
              first | (refine LW.v rfl rfl (Val.indexAddrN rfl rfl Tryd.underlying73 Tryd.sizeOf9 (by omega)) ?_) | (refine LW.v rfl rfl (Val.indexAddr rfl rfl Tryd.underlying73 Tryd.sizeOf9 (by omega) (by omega)) ?_)
              refine LW.v rfl rfl (Val.load (T := 9) (v := str x) rfl Tryd.isAgg9 (by repeat (first | exact .here | exact .inner .here | exact .inner (.inner .here) | refine .there ?_)) (by rw [Nat.zero_add, Nat.mul_one, List.getElem?_append_left (by rw [stC_len]; omega)]; simp [stC, hx])) ?_
              refine LW.v rfl rfl (Val.assign rfl) ?_
              refine LW.nil ?_
              refine PQ.seq ?_
              refine CW.regJoin (fun o9 : V.OwnO => ownOk 1 (k.2.2.1.length + 1) (k.2.2.1.flatMap intC ++ intC (((numF x).getD 0 : Nat) : Int)) o9) (fun _ => [(0, .pointer (some ⟨r, 0, none⟩)), (2, .pointer (some ⟨b2, 0, none⟩)), (3, .pointer (some ⟨b3, 0, none⟩)), (38, ownV (wl (nxq q)).length (some (g, rest, cap))), (39, .int .i64 ((wl (nxq q)).length : Nat)), (40, .int .i64 (k.1 : Nat))]) (fun o9 => [rdS r m s y9.2 (k.2.2.2 || (numF x).isNone), [(b2, .cells [.int .i64 0, .int .i64 0, .int .i64 0, .int .i64 0, .string ⟨#[]⟩, .string ⟨#[]⟩, .string ⟨#[]⟩, .slice none 0 0, .slice none 0 0].toArray 44 (0, 0))], [(b3, .cells [.int .i64 5, .int .i64 0, .int .i64 0, .int .i64 0, str [], str [], str [], .slice none 0 0, ownV (k.2.2.1.length + 1) o9].toArray 44 (0, 0))], ownG 3 (k.2.2.1.flatMap intC ++ intC (((numF x).getD 0 : Nat) : Int)) o9, [(g, .cells (stC (wl (nxq q)) ++ rest).toArray 9 (0, 0))]]) ?_ ?_
              · refine CW.drawn ([]) mixed (by repeat (first | exact .nil | apply Pick.cons | exact .here | apply Ext.there)) ?_
                refine RW.v 0 rfl (by kernel_rfl) (by kernel_rfl) (by kernel_rfl) (fun _ _ _ h => h) rfl rfl (Val.fieldAddr 8 rfl Tryd.underlying44 rfl rfl Tryd.sizeOf42) ?_
                refine RW.v 2 rfl (by kernel_rfl) (by kernel_rfl) (by kernel_rfl) (fun _ _ _ h => h) rfl rfl (Val.move rfl) ?_
                refine RW.v 3 rfl (by kernel_rfl) (by kernel_rfl) (by kernel_rfl) (fun _ _ _ h => h) rfl rfl (Val.move rfl) ?_
                refine RW.any [1, 4] (by kernel_rfl) (by simp) ?_
                intro i hi
                simp only [List.mem_cons, List.not_mem_nil, or_false] at hi
                rcases hi with rfl | rfl
                · refine RO.e rfl rfl rfl (Eff.ofVal (Val.load (v := ownV k.2.2.1.length k.2.1) rfl Tryd.isAgg42 (by repeat (first | exact .here | exact .inner .here | exact .inner (.inner .here) | refine .there ?_)) (by rfl))) (fun x => ⟨_, (by repeat (first | exact .nil | apply Pick.cons | exact .here | apply Ext.there))⟩) ?_
                  intro _ _
                  refine RW.e 4 rfl (by kernel_rfl) rfl rfl (Eff.callM ([rdS r m s y9.2 k.2.2.2]) (by repeat (first | exact .nil | apply Pick.cons | exact .here | apply Ext.there)) rfl Tryd.call60 (fun w hw hs0 => number_c hN r m s y9.2 k.2.2.2 x (by omega) w (hO.hp hR hw) hR hs0)) (fun x => ⟨_, (by repeat (first | exact .nil | apply Pick.cons | exact .here | apply Ext.there))⟩) ?_
                  intro _ _
                  refine RW.e 5 rfl (by kernel_rfl) rfl rfl (Eff.buildSlice (rfl) [_] Tryd.underlying42 Tryd.sizeOf3 (by exact Tryd.zeroValue3) rfl rfl rfl rfl (by rfl)) (fun x => ⟨_, (by repeat (first | exact .nil | apply Pick.cons | exact .here | apply Ext.there))⟩) ?_
                  intro b49 _
                  refine RW.e 6 rfl (by kernel_rfl) rfl rfl (Eff.appendAny (intC (((numF x).getD 0 : Nat) : Int)) (sz := 1) (bytes := 8) (z := .int .i64 0) (xs := k.2.2.1.flatMap intC) (m0 := k.2.2.1.length) (o := k.2.1) (m := 1) (pk := [ownG 3 (k.2.2.1.flatMap intC) k.2.1]) rfl rfl Tryd.underlying42 (by kernel_rfl) rfl (by omega) (by repeat (first | exact .nil | apply Pick.cons | exact .here | apply Ext.there)) (by simp) hk2 rfl (fun hm0 => ⟨b49, 0, rfl, fun w hw => V.range_of_block (o := 0) (cs := intC (((numF x).getD 0 : Nat) : Int)) (r := []) (hw.own _ (show InS (b49, .cells (intC (((numF x).getD 0 : Nat) : Int)).toArray 3 (0, 0)) _ from (by repeat (first | exact .here | exact .inner .here | exact .inner (.inner .here) | refine .there ?_))).mem) rfl⟩) rfl (by omega) (by omega)) (fun x => ⟨_, (by repeat (first | exact .nil | apply Pick.cons | exact .here | apply Ext.there))⟩) ?_
                  intro o9 ho9
                  refine RW.v 7 rfl (by kernel_rfl) (by kernel_rfl) (by kernel_rfl) (fun _ _ _ h => h) rfl rfl (Val.fieldAddr 8 rfl Tryd.underlying44 rfl rfl Tryd.sizeOf42) ?_
                  refine RW.eN 8 rfl (by kernel_rfl) rfl (Eff.store rfl rfl (V.ownV_one _ _) (by repeat (first | exact .here | exact .inner .here | exact .inner (.inner .here) | apply Upd.there)) (by rfl) (by rfl) Tryd.sizeOf42) (fun x => ⟨_, (by repeat (first | exact .nil | apply Pick.cons | exact .here | apply Ext.there))⟩) ?_
                  intro _ _
                  refine RW.done (by kernel_rfl) ?_
                  refine PQ.joined (o9) (ho9) (by repeat (first | exact trivial | refine ⟨rfl, ?_⟩)) (by repeat (first | exact .nil | apply Pick.cons | exact .here | apply Ext.there))
                · refine RO.e rfl rfl rfl (Eff.callM ([rdS r m s y9.2 k.2.2.2]) (by repeat (first | exact .nil | apply Pick.cons | exact .here | apply Ext.there)) rfl Tryd.call60 (fun w hw hs0 => number_c hN r m s y9.2 k.2.2.2 x (by omega) w (hO.hp hR hw) hR hs0)) (fun x => ⟨_, (by repeat (first | exact .nil | apply Pick.cons | exact .here | apply Ext.there))⟩) ?_
                  intro _ _
                  refine RW.any [1, 5] (by kernel_rfl) (by simp) ?_
                  intro i hi
                  simp only [List.mem_cons, List.not_mem_nil, or_false] at hi
                  rcases hi with rfl | rfl
                  · refine RO.e rfl rfl rfl (Eff.ofVal (Val.load (v := ownV k.2.2.1.length k.2.1) rfl Tryd.isAgg42 (by repeat (first | exact .here | exact .inner .here | exact .inner (.inner .here) | refine .there ?_)) (by rfl))) (fun x => ⟨_, (by repeat (first | exact .nil | apply Pick.cons | exact .here | apply Ext.there))⟩) ?_
                    intro _ _
                    refine RW.e 5 rfl (by kernel_rfl) rfl rfl (Eff.buildSlice (rfl) [_] Tryd.underlying42 Tryd.sizeOf3 (by exact Tryd.zeroValue3) rfl rfl rfl rfl (by rfl)) (fun x => ⟨_, (by repeat (first | exact .nil | apply Pick.cons | exact .here | apply Ext.there))⟩) ?_
                    intro b49 _
                    refine RW.e 6 rfl (by kernel_rfl) rfl rfl (Eff.appendAny (intC (((numF x).getD 0 : Nat) : Int)) (sz := 1) (bytes := 8) (z := .int .i64 0) (xs := k.2.2.1.flatMap intC) (m0 := k.2.2.1.length) (o := k.2.1) (m := 1) (pk := [ownG 3 (k.2.2.1.flatMap intC) k.2.1]) rfl rfl Tryd.underlying42 (by kernel_rfl) rfl (by omega) (by repeat (first | exact .nil | apply Pick.cons | exact .here | apply Ext.there)) (by simp) hk2 rfl (fun hm0 => ⟨b49, 0, rfl, fun w hw => V.range_of_block (o := 0) (cs := intC (((numF x).getD 0 : Nat) : Int)) (r := []) (hw.own _ (show InS (b49, .cells (intC (((numF x).getD 0 : Nat) : Int)).toArray 3 (0, 0)) _ from (by repeat (first | exact .here | exact .inner .here | exact .inner (.inner .here) | refine .there ?_))).mem) rfl⟩) rfl (by omega) (by omega)) (fun x => ⟨_, (by repeat (first | exact .nil | apply Pick.cons | exact .here | apply Ext.there))⟩) ?_
                    intro o9 ho9
                    refine RW.v 7 rfl (by kernel_rfl) (by kernel_rfl) (by kernel_rfl) (fun _ _ _ h => h) rfl rfl (Val.fieldAddr 8 rfl Tryd.underlying44 rfl rfl Tryd.sizeOf42) ?_
                    refine RW.eN 8 rfl (by kernel_rfl) rfl (Eff.store rfl rfl (V.ownV_one _ _) (by repeat (first | exact .here | exact .inner .here | exact .inner (.inner .here) | apply Upd.there)) (by rfl) (by rfl) Tryd.sizeOf42) (fun x => ⟨_, (by repeat (first | exact .nil | apply Pick.cons | exact .here | apply Ext.there))⟩) ?_
                    intro _ _
                    refine RW.done (by kernel_rfl) ?_
                    refine PQ.joined (o9) (ho9) (by repeat (first | exact trivial | refine ⟨rfl, ?_⟩)) (by repeat (first | exact .nil | apply Pick.cons | exact .here | apply Ext.there))
                  · refine RO.e rfl rfl rfl (Eff.buildSlice (rfl) [_] Tryd.underlying42 Tryd.sizeOf3 (by exact Tryd.zeroValue3) rfl rfl rfl rfl (by rfl)) (fun x => ⟨_, (by repeat (first | exact .nil | apply Pick.cons | exact .here | apply Ext.there))⟩) ?_
                    intro b49 _
                    refine RW.e 1 rfl (by kernel_rfl) rfl rfl (Eff.ofVal (Val.load (v := ownV k.2.2.1.length k.2.1) rfl Tryd.isAgg42 (by repeat (first | exact .here | exact .inner .here | exact .inner (.inner .here) | refine .there ?_)) (by rfl))) (fun x => ⟨_, (by repeat (first | exact .nil | apply Pick.cons | exact .here | apply Ext.there))⟩) ?_
                    intro _ _
                    refine RW.e 6 rfl (by kernel_rfl) rfl rfl (Eff.appendAny (intC (((numF x).getD 0 : Nat) : Int)) (sz := 1) (bytes := 8) (z := .int .i64 0) (xs := k.2.2.1.flatMap intC) (m0 := k.2.2.1.length) (o := k.2.1) (m := 1) (pk := [ownG 3 (k.2.2.1.flatMap intC) k.2.1]) rfl rfl Tryd.underlying42 (by kernel_rfl) rfl (by omega) (by repeat (first | exact .nil | apply Pick.cons | exact .here | apply Ext.there)) (by simp) hk2 rfl (fun hm0 => ⟨b49, 0, rfl, fun w hw => V.range_of_block (o := 0) (cs := intC (((numF x).getD 0 : Nat) : Int)) (r := []) (hw.own _ (show InS (b49, .cells (intC (((numF x).getD 0 : Nat) : Int)).toArray 3 (0, 0)) _ from (by repeat (first | exact .here | exact .inner .here | exact .inner (.inner .here) | refine .there ?_))).mem) rfl⟩) rfl (by omega) (by omega)) (fun x => ⟨_, (by repeat (first | exact .nil | apply Pick.cons | exact .here | apply Ext.there))⟩) ?_
                    intro o9 ho9
                    refine RW.v 7 rfl (by kernel_rfl) (by kernel_rfl) (by kernel_rfl) (fun _ _ _ h => h) rfl rfl (Val.fieldAddr 8 rfl Tryd.underlying44 rfl rfl Tryd.sizeOf42) ?_
                    refine RW.eN 8 rfl (by kernel_rfl) rfl (Eff.store rfl rfl (V.ownV_one _ _) (by repeat (first | exact .here | exact .inner .here | exact .inner (.inner .here) | apply Upd.there)) (by rfl) (by rfl) Tryd.sizeOf42) (fun x => ⟨_, (by repeat (first | exact .nil | apply Pick.cons | exact .here | apply Ext.there))⟩) ?_
                    intro _ _
                    refine RW.done (by kernel_rfl) ?_
                    refine PQ.joined (o9) (ho9) (by repeat (first | exact trivial | refine ⟨rfl, ?_⟩)) (by repeat (first | exact .nil | apply Pick.cons | exact .here | apply Ext.there))
              · intro o9 ho9
                refine PQ.in_normal ?_
                refine PQ.seq ?_
                refine CW.region ?_
                refine LW.v rfl rfl (Val.ar rfl rfl rfl (IntWalk.i64_in _ (by omega))) ?_
                refine LW.v rfl rfl (Val.move rfl) ?_
                refine LW.nil ?_
                rw [show k.2.2.1.flatMap intC ++ intC (((numF x).getD 0 : Nat) : Int) = (k.2.2.1 ++ [(((numF x).getD 0 : Nat) : Int)]).flatMap intC from by rw [flat_snoc], show k.2.2.1.length + 1 = (k.2.2.1 ++ [(((numF x).getD 0 : Nat) : Int)]).length from by simp]
                refine PQ.round ((k.1 + 1, o9, k.2.2.1 ++ [(((numF x).getD 0 : Nat) : Int)], (k.2.2.2 || (numF x).isNone))) ⟨by simp only; omega, by simp only [List.length_append, List.length_cons, List.length_nil]; rw [flat_snoc]; exact ho9, by simp only [List.length_append, List.length_cons, List.length_nil]; omega, hkp.step hx⟩ (by simp only; omega) (by repeat (first | exact trivial | refine ⟨rfl, ?_⟩)) (by repeat (first | exact .nil | apply Pick.cons | exact .here | apply Ext.there))
            · replace h41 := bF h41
              refine CW.exit ?_
              refine PQ.then_exit ?_
              refine PQ.then_exit ?_
              refine PQ.in_here ?_
              refine PQ.seq ?_
              refine CW.seq ?_
              refine CW.region ?_
              first | (refine LW.v rfl rfl (Val.loadW rfl Tryd.isAgg44 (by repeat (first | exact .here | exact .inner .here | exact .inner (.inner .here) | refine .there ?_)) (by exact Tryd.sizeOf44)) ?_) | (refine LW.v rfl rfl (Val.loadA [_, _, _, _, _, _, _, _, _] rfl Tryd.isAgg44 (by repeat (first | exact .here | exact .inner .here | exact .inner (.inner .here) | refine .there ?_)) (by rfl) Tryd.sizeOf44) ?_)
              first | (refine LW.eN rfl (Eff.storeW rfl rfl (by repeat (first | exact .here | exact .inner .here | exact .inner (.inner .here) | apply Upd.there)) (by rfl) Tryd.sizeOf44 (by rfl)) ?_) | (refine LW.eN rfl (Eff.storeW rfl rfl (by repeat (first | exact .here | exact .inner .here | exact .inner (.inner .here) | apply Upd.there)) (by rfl) Tryd.sizeOf44 (by simp only [ownSl_v]; rfl)) ?_)
              intro _ _
              refine LW.nil ?_
              refine PQ.seq ?_
              refine CW.ret ?_
              refine PQ.in_ret ?_
              refine PQ.then_ret ?_
              refine V.PQ.retC rfl rfl (by repeat (first | exact .here | exact .inner .here | exact .inner (.inner .here) | refine .there ?_)) Tryd.isAgg44 (by exact Tryd.sizeOf44) ?_
              intro w' hw
              obtain ⟨hwc, hwe⟩ := wl_eq h34n (by simp)
              have hpe : pEvent (wl q) = pEvent ([99, 117, 116] :: wl (nxq q)) := by rw [hwc]
              have e1 : (wl (nxq q)).drop k.1 = [] := List.drop_eq_nil_iff.2 (by omega)
              have hkp2 := hkp
              unfold PN at hkp2
              rw [e1] at hkp2
              refine ⟨((e0 5 0 0 (c0q 0), [], none, k.2.2.1, k.2.1), y9.2, k.2.2.2), ⟨?_, hy9.2.2, ⟨rfl, rfl⟩, hk2, ⟨rfl, rfl, by unfold e0 Cq.small c0q; simp⟩, by simp, by simp only; omega⟩, by simp only [ownSl_v]; rfl, (hw.pick (ss := [rdS r m s y9.2 k.2.2.2, ownG 3 (k.2.2.1.flatMap intC) k.2.1]) (by repeat (first | exact .nil | apply Pick.cons | exact .here | apply Ext.there))).perm (by first | exact .refl _ | (simp [V.ownG, V.ownS]; done))⟩
              rw [hpe, pEv5, hy9.2.1]
              exact ⟨hkp2.1, fun hb => ⟨fun h8 => by rw [(hkp2.2 hb).1 h8]; simp [pNums], fun h8 => by rw [(hkp2.2 hb).2 h8]; rfl⟩⟩
          · replace h34 := bF h34
            have h34n : ¬ (wl q).headD [] = [99, 117, 116] := by simpa using h34
            refine CW.seq ?_
            refine CW.region ?_
            refine LW.v rfl rfl (Val.eqStr rfl rfl) ?_
            refine LW.v rfl rfl (Val.assign rfl) ?_
            refine LW.nil ?_
            refine PQ.seq ?_
            refine CW.cond rfl (fun h54 => ?_) (fun h54 => ?_)
            · replace h54 := bT h54
              have h54n : (wl q).headD [] = [114, 101, 118, 105, 118, 101] := by simpa using h54
              rw [show (bad || (wl q).isEmpty) = bad from by rw [(wl_eq h54n (by simp)).2]; simp]
              refine CW.seq ?_
              refine CW.region ?_
              refine LW.v rfl rfl (Val.build [_, _, _, _, _, _, _, _, _] Tryd.zeroValue44 Tryd.underlying44 places44 rfl (by rfl)) ?_
              first | (refine LW.eN rfl (Eff.storeW rfl rfl (by repeat (first | exact .here | exact .inner .here | exact .inner (.inner .here) | apply Upd.there)) (by rfl) Tryd.sizeOf44 (by rfl)) ?_) | (refine LW.eN rfl (Eff.storeW rfl rfl (by repeat (first | exact .here | exact .inner .here | exact .inner (.inner .here) | apply Upd.there)) (by rfl) Tryd.sizeOf44 (by simp only [ownSl_v]; rfl)) ?_)
              intro _ _
              refine LW.nil ?_
              refine PQ.seq ?_
              refine CW.ret ?_
              refine PQ.in_ret ?_
              refine PQ.then_ret ?_
              refine V.PQ.retC rfl rfl (by repeat (first | exact .here | exact .inner .here | exact .inner (.inner .here) | refine .there ?_)) Tryd.isAgg44 (by exact Tryd.sizeOf44) ?_
              intro w' hw
              obtain ⟨hwc, hwe⟩ := wl_eq h54n (by simp)
              have hpe : pEvent (wl q) = pEvent ([114, 101, 118, 105, 118, 101] :: wl (nxq q)) := by rw [hwc]
              refine ⟨((e0 6 0 0 (c0q 0), [], none, [], none), nxq q, bad), ⟨?_, nxq_ok hq, ⟨rfl, rfl⟩, ⟨rfl, rfl⟩, ⟨rfl, rfl, by unfold e0 Cq.small c0q; simp⟩, by simp, by simp⟩, rfl, (hw.pick (ss := [rdS r m s (nxq q) bad]) (by repeat (first | exact .nil | apply Pick.cons | exact .here | apply Ext.there))).perm (by first | exact .refl _ | (simp [V.ownG, V.ownS]; done))⟩
              rw [hpe, pEv6]
              exact PRes.refl _ _ _
            · replace h54 := bF h54
              have h54n : ¬ (wl q).headD [] = [114, 101, 118, 105, 118, 101] := by simpa using h54
              refine CW.skip ?_
              refine PQ.in_normal ?_
              refine PQ.seq ?_
              refine CW.seq ?_
              refine CW.region ?_
              refine LW.v rfl rfl (Val.move rfl) ?_
              refine LW.v rfl rfl (Val.nilCheck rfl) ?_
              refine LW.v rfl rfl (Val.fieldAddr 1 rfl Tryd.underlying87 rfl rfl Tryd.sizeOf4) ?_
              refine LW.eN rfl (Eff.store rfl rfl rfl (by repeat (first | exact .here | exact .inner .here | exact .inner (.inner .here) | apply Upd.there)) (by rfl) (by rfl) Tryd.sizeOf4) ?_
              intro _ _
              refine LW.nil ?_
              refine PQ.seq ?_
              refine CW.seq ?_
              refine CW.region ?_
              refine LW.v rfl rfl (Val.build [_, _, _, _, _, _, _, _, _] Tryd.zeroValue44 Tryd.underlying44 places44 rfl (by rfl)) ?_
              first | (refine LW.eN rfl (Eff.storeW rfl rfl (by repeat (first | exact .here | exact .inner .here | exact .inner (.inner .here) | apply Upd.there)) (by rfl) Tryd.sizeOf44 (by rfl)) ?_) | (refine LW.eN rfl (Eff.storeW rfl rfl (by repeat (first | exact .here | exact .inner .here | exact .inner (.inner .here) | apply Upd.there)) (by rfl) Tryd.sizeOf44 (by simp only [ownSl_v]; rfl)) ?_)
              intro _ _
              refine LW.nil ?_
              refine PQ.seq ?_
              refine CW.ret ?_
              refine V.PQ.retC rfl rfl (by repeat (first | exact .here | exact .inner .here | exact .inner (.inner .here) | refine .there ?_)) Tryd.isAgg44 (by exact Tryd.sizeOf44) ?_
              intro w' hw
              refine ⟨((e0 0 0 0 (c0q 0), [], none, [], none), nxq q, true), ⟨?_, nxq_ok hq, ⟨rfl, rfl⟩, ⟨rfl, rfl⟩, ⟨rfl, rfl, by unfold e0 Cq.small c0q; simp⟩, by simp, by simp⟩, rfl, (hw.pick (ss := [rdS r m s (nxq q) true]) (by repeat (first | exact .nil | apply Pick.cons | exact .here | apply Ext.there))).perm (by first | exact .refl _ | (simp [V.ownG, V.ownS]; done))⟩
              have hpe : pEvent (wl q) = none := by
                cases hwq : wl q with
                | nil => rfl
                | cons w1 r1 =>
                  rw [hwq] at h8n h17n h24n h27n h34n h54n
                  simp only [List.headD_cons] at h8n h17n h24n h27n h34n h54n
                  simp only [pEvent]
                  rw [if_neg h8n, if_neg h17n, if_neg h24n, if_neg h27n, if_neg h34n, if_neg h54n]
              rw [hpe]
              exact PRes.bad _ _ _
end Go.Proofs.YtagliemeolngiaaDoor
