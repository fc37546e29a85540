/- The words of calls and groups; numbers; the line of an event. -/
import Derived.Test.YtagliemeolngiaaDoorScG
import Derived.Lib.Hide
namespace Go.Proofs.YtagliemeolngiaaDoor
open Go Go.RowKit V
set_option linter.unusedVariables false
set_option maxRecDepth 100000
open V (str byC ownV ownG ownS ownOk)
def sw (x : Cq) : List (List UInt8) := (singleF x).getD []
/-- The words of a group's calls. -/
def gwords : List (List (List UInt8)) → List (List UInt8)
  | [] => []
  | a :: r => a ++ r.flatMap fun y => [59] :: y
def gw (l : List Cq) : List (List UInt8) := gwords (l.map sw)
theorem gw_snoc {l : List Cq} {i : Nat} {x : Cq} (h : l[i]? = some x) : gw (l.take (i + 1)) = gw (l.take i) ++ (if i = 0 then sw x else [59] :: sw x) := by
  have hi := (List.getElem?_eq_some_iff.1 h).1
  unfold gw
  rw [List.take_add_one, h, List.map_append]
  cases i with
  | zero => simp [gwords]
  | succ j =>
    cases l with
    | nil => simp at hi
    | cons a r => simp [gwords]
def callF (c : Cq) (gl : List Cq) : Option (List (List UInt8)) := if c.ck = 7 then (if gl ≠ [] ∧ ∀ x ∈ gl, (singleF x).isSome = true then some ([103, 114, 111, 117, 112] :: gw gl) else none) else singleF c
theorem sw_len (x : Cq) : (sw x).length ≤ 3 := by
  unfold sw
  cases h : singleF x with
  | none => simp
  | some ws => exact singleF_len h
theorem gw_len : ∀ {l : List Cq} {i : Nat}, i ≤ l.length → (gw (l.take i)).length ≤ 4 * i
  | l, 0, _ => by simp [gw, gwords]
  | l, i + 1, h => by
    have ih := gw_len (l := l) (i := i) (by omega)
    have hx : l[i]? = some l[i] := List.getElem?_eq_getElem (by omega)
    have h1 := sw_len l[i]
    rw [gw_snoc hx, List.length_append]
    split
    · omega
    · rw [List.length_cons]; omega
theorem words_c (c : Cq) (gl : List Cq) (hc : c.small) (hgs : ∀ x ∈ gl, x.small) (hgl : gl.length ≤ 70001) (w : World) (hn : c.grp.n = gl.length) (h : V.slAt w c.grp.a 5 Cq.cells gl) : Calls Tryd.prog 40 [.agg c.cells.toArray].toArray w fun e w' => ∃ y : V.OwnO × List (List UInt8), WsOk (callF c gl) y ∧ e = .returned (.tuple #[ownV y.2.length y.1, .bool (callF c gl).isSome]) ∧ Hp ⟨w, []⟩ [ownG 9 (stC y.2) y.1] w' := by
  refine V.calls [] Tryd.func40 rfl Tryd.ntmps40 (Nat.le_of_ble_eq_true rfl) (V.sat_nil _) ?_
  refine CW.seq ?_
  refine CW.region ?_
  refine LW.e rfl rfl (Eff.boxA rfl) ?_
  intro b1 _
  refine LW.v rfl rfl (Val.assign rfl) ?_
  refine LW.v rfl rfl (Val.assign rfl) ?_
  refine LW.nil ?_
  refine PQ.seq ?_
  refine CW.seq ?_
  refine CW.seq ?_
  refine CW.region ?_
  refine LW.v rfl rfl (Val.fieldAddr 0 rfl Tryd.underlying41 rfl rfl Tryd.sizeOf3) ?_
  refine LW.v rfl rfl (Val.load rfl Tryd.isAgg3 (by repeat (first | exact .here | refine .there ?_)) (by rfl)) ?_
  refine LW.v rfl rfl (Val.cmp rfl rfl rfl) ?_
  refine LW.nil ?_
  refine PQ.seq ?_
  refine CW.cond rfl (fun h11 => ?_) (fun h11 => ?_)
  · replace h11 := bT h11
    refine CW.seq ?_
    refine CW.region ?_
    first | (refine LW.v rfl rfl (Val.loadW rfl Tryd.isAgg41 (by repeat (first | exact .here | refine .there ?_)) (by exact Tryd.sizeOf41)) ?_) | (refine LW.v rfl rfl (Val.loadA [_, _, _, _, _] rfl Tryd.isAgg41 (by repeat (first | exact .here | refine .there ?_)) (by rfl) Tryd.sizeOf41) ?_)
    refine LW.e rfl rfl (Eff.callM ([]) .nil rfl Tryd.call54 (fun w hw hs0 => single_c c hc w)) ?_
    intro y hy
    refine LW.v rfl rfl (Val.extract rfl rfl) ?_
    refine LW.v rfl rfl (Val.extract rfl rfl) ?_
    refine LW.v rfl rfl (Val.assign rfl) ?_
    refine LW.v rfl rfl (Val.assign rfl) ?_
    refine LW.nil ?_
    refine PQ.seq ?_
    refine CW.ret ?_
    refine PQ.then_ret ?_
    refine PQ.ret2 rfl rfl rfl ?_
    intro w' hw
    have e7 : callF c gl = singleF c := by unfold callF; rw [if_neg h11]
    rw [e7]
    exact ⟨y, hy, rfl, hw.pick (by repeat (first | exact .nil | apply Pick.cons | exact .here | apply Ext.there))⟩
  · replace h11 := bF h11
    refine CW.skip ?_
    refine PQ.seq ?_
    refine CW.seq ?_
    refine CW.region ?_
    refine LW.e rfl rfl (Eff.buildSlice (rfl) [_] Tryd.underlying73 Tryd.sizeOf9 (by exact Tryd.zeroValue9) rfl rfl rfl rfl (by rfl)) ?_
    intro b16 _
    refine LW.v rfl rfl (Val.assign rfl) ?_
    refine LW.nil ?_
    refine PQ.seq ?_
    refine CW.seq ?_
    refine CW.seq ?_
    refine CW.region ?_
    refine LW.v rfl rfl (Val.fieldAddr 4 rfl Tryd.underlying41 rfl rfl Tryd.sizeOf39) ?_
    refine LW.v rfl rfl (Val.load (v := .slice c.grp.a gl.length c.grp.c) rfl Tryd.isAgg39 (by repeat (first | exact .here | refine .there ?_)) (by rw [← hn]; rfl)) ?_
    refine LW.v rfl rfl (Val.lenSl rfl Tryd.underlying39) ?_
    refine LW.v rfl rfl (Val.move rfl) ?_
    refine LW.nil ?_
    refine PQ.seq ?_
    refine CW.block ?_
    refine CW.loop (γ := Nat × V.OwnO) (fun k => [(4, ownV ([103, 114, 111, 117, 112] :: gw (gl.take k.1)).length k.2), (18, .slice c.grp.a gl.length c.grp.c), (19, .int .i64 (gl.length : Nat)), (20, .int .i64 (k.1 : Nat)), (1, .pointer (some ⟨b1, 0, none⟩))]) (fun k => [ownG 9 (stC ([103, 114, 111, 117, 112] :: gw (gl.take k.1))) k.2, [(b1, .cells c.cells.toArray 41 (0, 0))]]) (fun k => k.1 ≤ gl.length ∧ ownOk 1 ([103, 114, 111, 117, 112] :: gw (gl.take k.1)).length (stC ([103, 114, 111, 117, 112] :: gw (gl.take k.1))) k.2 ∧ ∀ z ∈ gl.take k.1, (singleF z).isSome = true) (fun k => gl.length - k.1) ((0, some (b16, [], 1))) ⟨Nat.zero_le _, ⟨rfl, rfl⟩, by simp⟩ (by repeat (first | exact trivial | refine ⟨rfl, ?_⟩)) (by repeat (first | exact .nil | apply Pick.cons | exact .here | apply Ext.there)) ?_
    intro k
    rintro ⟨hk1, hk2, hk3⟩
    have hgwl := gw_len hk1
    have hWl : ([103, 114, 111, 117, 112] :: gw (gl.take k.1)).length = (gw (gl.take k.1)).length + 1 := by simp
    refine CW.seq ?_
    refine CW.region ?_
    refine LW.v rfl rfl (Val.cmp rfl rfl rfl) ?_
    refine LW.nil ?_
    refine PQ.seq ?_
    refine CW.seq ?_
    refine CW.cond rfl (fun h21 => ?_) (fun h21 => ?_)
    · replace h21 := bT h21
      obtain ⟨bg, og, x, hpa, hbg, hx, hrg⟩ := V.slAt_at h rfl (k := k.1) (by omega)
      have hxs := hgs x (List.mem_of_getElem? hx)
      refine CW.re 18 (.slice (some ⟨bg, og, none⟩) gl.length c.grp.c) rfl (by rw [hpa]) ?_
      refine CW.skip ?_
      refine PQ.seq ?_
      refine CW.seq ?_
      refine CW.block ?_
      refine CW.seq ?_
      refine CW.region ?_
      refine LW.v rfl rfl (Val.move rfl) ?_
      first | (refine LW.v rfl rfl (Val.indexAddrN rfl rfl Tryd.underlying39 Tryd.sizeOf41 (by omega)) ?_) | (refine LW.v rfl rfl (Val.indexAddr rfl rfl Tryd.underlying39 Tryd.sizeOf41 (by omega) (by omega)) ?_)
      refine LW.v rfl rfl (Val.loadOA rfl Tryd.isAgg41 hbg (by simp [ids]) (hrg _ _ hx) Tryd.sizeOf41) ?_
      refine LW.e rfl rfl (Eff.allocA (by exact Tryd.zeroValue41)) ?_
      intro b6 _
      refine LW.v rfl rfl (Val.assign rfl) ?_
      first | (refine LW.eN rfl (Eff.storeW rfl rfl (by repeat (first | exact .here | apply Upd.there)) (by rfl) Tryd.sizeOf41 (by rfl)) ?_) | (refine LW.eN rfl (Eff.storeA (l' := _) rfl rfl (by repeat (first | exact .here | apply Upd.there)) (by rfl) (by decide) Tryd.sizeOf41 (by rfl)) ?_)
      intro _ _
      refine LW.nil ?_
      refine PQ.seq ?_
      refine CW.seq ?_
      refine CW.seq ?_
      refine CW.region ?_
      refine LW.v rfl rfl (Val.move rfl) ?_
      refine LW.v rfl rfl (Val.cmp rfl rfl rfl) ?_
      refine LW.nil ?_
      refine PQ.seq ?_
      refine CW.cond rfl (fun h26 => ?_) (fun h26 => ?_)
      · replace h26 := bT h26
        refine CW.region ?_
        refine LW.v rfl rfl (Val.move rfl) ?_
        refine LW.e rfl rfl (Eff.buildSlice (rfl) [_] Tryd.underlying73 Tryd.sizeOf9 (by exact Tryd.zeroValue9) rfl rfl rfl rfl (by rfl)) ?_
        intro b28 _
        refine LW.e rfl rfl (Eff.appendAny (stC [[59]]) (sz := 1) (bytes := 16) (z := .string ⟨#[]⟩) (xs := stC ([103, 114, 111, 117, 112] :: gw (gl.take k.1))) (m0 := ([103, 114, 111, 117, 112] :: gw (gl.take k.1)).length) (o := k.2) (m := 1) (pk := [ownG 9 (stC ([103, 114, 111, 117, 112] :: gw (gl.take k.1))) k.2]) rfl rfl Tryd.underlying73 (by kernel_rfl) rfl (by omega) (by repeat (first | exact .nil | apply Pick.cons | exact .here | apply Ext.there)) (by simp) hk2 rfl (fun hm0 => ⟨b28, 0, rfl, fun w hw => V.range_of_block (o := 0) (cs := stC [[59]]) (r := []) (hw.own _ (show InS (b28, .cells (stC [[59]]).toArray 9 (0, 0)) _ from (by repeat (first | exact .here | refine .there ?_))).mem) rfl⟩) (stC_one _) (by omega) (by omega)) ?_
        intro o5 ho5
        refine LW.v rfl rfl (Val.assign rfl) ?_
        refine LW.nil ?_
        refine PQ.seq ?_
        refine CW.seq ?_
        refine CW.region ?_
        first | (refine LW.v rfl rfl (Val.loadW rfl Tryd.isAgg41 (by repeat (first | exact .here | refine .there ?_)) (by exact Tryd.sizeOf41)) ?_) | (refine LW.v rfl rfl (Val.loadA [_, _, _, _, _] rfl Tryd.isAgg41 (by repeat (first | exact .here | refine .there ?_)) (by rfl) Tryd.sizeOf41) ?_)
        refine LW.e rfl rfl (Eff.callM ([]) .nil rfl Tryd.call54 (fun w hw hs0 => single_c x hxs w)) ?_
        intro y hy
        refine LW.v rfl rfl (Val.move rfl) ?_
        refine LW.v rfl rfl (Val.extract rfl rfl) ?_
        refine LW.v rfl rfl (Val.extract rfl rfl) ?_
        refine LW.v rfl rfl (Val.assign rfl) ?_
        refine LW.v rfl rfl (Val.assign rfl) ?_
        refine LW.nil ?_
        refine PQ.seq ?_
        refine CW.seq ?_
        refine CW.seq ?_
        refine CW.region ?_
        refine LW.v rfl rfl (Val.move rfl) ?_
        refine LW.v rfl rfl (Val.not rfl) ?_
        refine LW.nil ?_
        refine PQ.seq ?_
        refine CW.cond rfl (fun h36 => ?_) (fun h36 => ?_)
        · replace h36 := bT h36
          have h36p : singleF x = none := by rw [← Option.isNone_iff_eq_none, ← Option.isSome_eq_false_iff]; simpa using h36
          replace h36 := h36p
          refine CW.seq ?_
          refine CW.region ?_
          refine LW.v rfl rfl (Val.assign rfl) ?_
          refine LW.v rfl rfl (Val.assign rfl) ?_
          refine LW.nil ?_
          refine PQ.seq ?_
          refine CW.ret ?_
          refine PQ.then_ret ?_
          refine PQ.in_ret ?_
          refine PQ.then_ret ?_
          refine PQ.then_ret ?_
          refine PQ.in_ret ?_
          refine PQ.then_ret ?_
          refine PQ.ret2 rfl rfl rfl ?_
          intro w' hw
          have hno : callF c gl = none := by
            unfold callF
            rw [if_pos h11, if_neg]
            rintro ⟨_, ha⟩
            have := ha x (List.mem_of_getElem? hx)
            rw [h36] at this
            cases this
          exact ⟨(none, []), ⟨⟨rfl, rfl⟩, fun ws h => by rw [hno] at h; cases h⟩, by rw [hno]; rfl, (hw.pick (ss := []) .nil).perm (.refl _)⟩
        · replace h36 := bF h36
          obtain ⟨ws, hws⟩ : ∃ ws, singleF x = some ws := Option.isSome_iff_exists.1 (by simpa using h36)
          have hyl : y.2.length ≤ 3 := by rw [hy.2 ws hws]; exact singleF_len hws
          refine CW.skip ?_
          refine PQ.seq ?_
          refine CW.region ?_
          refine LW.v rfl rfl (Val.move rfl) ?_
          refine LW.v rfl rfl (Val.move rfl) ?_
          refine LW.e rfl rfl (Eff.appendOwn (sz := 1) (bytes := 16) (z := .string ⟨#[]⟩) (xs := stC ([103, 114, 111, 117, 112] :: gw (gl.take k.1)) ++ stC [[59]]) (ys := stC y.2) (m0 := (([103, 114, 111, 117, 112] :: gw (gl.take k.1)).length + 1)) (m := y.2.length) (o := o5) (oy := y.1) (pk := [ownG 9 (stC ([103, 114, 111, 117, 112] :: gw (gl.take k.1)) ++ stC [[59]]) o5]) (pk2 := [ownG 9 (stC y.2) y.1]) rfl rfl Tryd.underlying73 (by kernel_rfl) rfl (by omega) (by repeat (first | exact .nil | apply Pick.cons | exact .here | apply Ext.there)) (by simp) ho5 (by repeat (first | exact .nil | apply Pick.cons | exact .here | apply Ext.there)) (by simp) hy.1 (stC_one _) (by omega) (by omega)) ?_
          intro o9 ho9
          refine LW.v rfl rfl (Val.assign rfl) ?_
          refine LW.nil ?_
          refine PQ.in_normal ?_
          refine PQ.seq ?_
          refine CW.region ?_
          refine LW.v rfl rfl (Val.ar rfl rfl rfl (IntWalk.i64_in _ (by omega))) ?_
          refine LW.v rfl rfl (Val.move rfl) ?_
          refine LW.nil ?_
          refine PQ.re 18 (.slice c.grp.a gl.length c.grp.c) rfl (by rw [hpa]) ?_
          have hyw : y.2 = sw x := by unfold sw; rw [hws]; exact hy.2 ws hws
          have hW : ([103, 114, 111, 117, 112] :: gw (gl.take (k.1 + 1))) = ([103, 114, 111, 117, 112] :: gw (gl.take k.1)) ++ [[59]] ++ y.2 := by rw [gw_snoc hx, if_neg (by omega), hyw]; simp
          have hallp : ∀ z ∈ gl.take (k.1 + 1), (singleF z).isSome = true := by
            intro z hz
            rw [List.take_add_one, hx] at hz
            rcases List.mem_append.1 hz with hz | hz
            · exact hk3 z hz
            · simp at hz; subst hz; rw [hws]; rfl
          have hstC : stC ([103, 114, 111, 117, 112] :: gw (gl.take (k.1 + 1))) = stC ([103, 114, 111, 117, 112] :: gw (gl.take k.1)) ++ stC [[59]] ++ stC y.2 := by rw [hW]; simp [stC]
          have hlen : ([103, 114, 111, 117, 112] :: gw (gl.take (k.1 + 1))).length = ([103, 114, 111, 117, 112] :: gw (gl.take k.1)).length + 1 + y.2.length := by rw [hW]; simp only [List.length_append, List.length_cons, List.length_nil]; (try omega)
          refine PQ.segs (ss := [ownG 9 (stC ([103, 114, 111, 117, 112] :: gw (gl.take k.1)) ++ stC [[59]] ++ stC y.2) o9, [(b1, .cells c.cells.toArray 41 (0, 0))]]) ?_ (by repeat (first | exact .nil | apply Pick.cons | exact .here | apply Ext.there))
          rw [← hstC]
          refine PQ.round ((k.1 + 1, o9)) ⟨by simp only; omega, by simp only; rw [hlen, hstC]; exact ho9, hallp⟩ (by simp only; omega) (by exact ⟨by simp only; rw [hlen]; rfl, rfl, rfl, rfl, rfl, trivial⟩) (by repeat (first | exact .nil | apply Pick.cons | exact .here | apply Ext.there))
      · replace h26 := bF h26
        refine CW.skip ?_
        refine PQ.seq ?_
        refine CW.seq ?_
        refine CW.region ?_
        first | (refine LW.v rfl rfl (Val.loadW rfl Tryd.isAgg41 (by repeat (first | exact .here | refine .there ?_)) (by exact Tryd.sizeOf41)) ?_) | (refine LW.v rfl rfl (Val.loadA [_, _, _, _, _] rfl Tryd.isAgg41 (by repeat (first | exact .here | refine .there ?_)) (by rfl) Tryd.sizeOf41) ?_)
        refine LW.e rfl rfl (Eff.callM ([]) .nil rfl Tryd.call54 (fun w hw hs0 => single_c x hxs w)) ?_
        intro y hy
        refine LW.v rfl rfl (Val.move rfl) ?_
        refine LW.v rfl rfl (Val.extract rfl rfl) ?_
        refine LW.v rfl rfl (Val.extract rfl rfl) ?_
        refine LW.v rfl rfl (Val.assign rfl) ?_
        refine LW.v rfl rfl (Val.assign rfl) ?_
        refine LW.nil ?_
        refine PQ.seq ?_
        refine CW.seq ?_
        refine CW.seq ?_
        refine CW.region ?_
        refine LW.v rfl rfl (Val.move rfl) ?_
        refine LW.v rfl rfl (Val.not rfl) ?_
        refine LW.nil ?_
        refine PQ.seq ?_
        refine CW.cond rfl (fun h36 => ?_) (fun h36 => ?_)
        · replace h36 := bT h36
          have h36p : singleF x = none := by rw [← Option.isNone_iff_eq_none, ← Option.isSome_eq_false_iff]; simpa using h36
          replace h36 := h36p
          refine CW.seq ?_
          refine CW.region ?_
          refine LW.v rfl rfl (Val.assign rfl) ?_
          refine LW.v rfl rfl (Val.assign rfl) ?_
          refine LW.nil ?_
          refine PQ.seq ?_
          refine CW.ret ?_
          refine PQ.then_ret ?_
          refine PQ.in_ret ?_
          refine PQ.then_ret ?_
          refine PQ.then_ret ?_
          refine PQ.in_ret ?_
          refine PQ.then_ret ?_
          refine PQ.ret2 rfl rfl rfl ?_
          intro w' hw
          have hno : callF c gl = none := by
            unfold callF
            rw [if_pos h11, if_neg]
            rintro ⟨_, ha⟩
            have := ha x (List.mem_of_getElem? hx)
            rw [h36] at this
            cases this
          exact ⟨(none, []), ⟨⟨rfl, rfl⟩, fun ws h => by rw [hno] at h; cases h⟩, by rw [hno]; rfl, (hw.pick (ss := []) .nil).perm (.refl _)⟩
        · replace h36 := bF h36
          obtain ⟨ws, hws⟩ : ∃ ws, singleF x = some ws := Option.isSome_iff_exists.1 (by simpa using h36)
          have hyl : y.2.length ≤ 3 := by rw [hy.2 ws hws]; exact singleF_len hws
          refine CW.skip ?_
          refine PQ.seq ?_
          refine CW.region ?_
          refine LW.v rfl rfl (Val.move rfl) ?_
          refine LW.v rfl rfl (Val.move rfl) ?_
          refine LW.e rfl rfl (Eff.appendOwn (sz := 1) (bytes := 16) (z := .string ⟨#[]⟩) (xs := stC ([103, 114, 111, 117, 112] :: gw (gl.take k.1))) (ys := stC y.2) (m0 := ([103, 114, 111, 117, 112] :: gw (gl.take k.1)).length) (m := y.2.length) (o := k.2) (oy := y.1) (pk := [ownG 9 (stC ([103, 114, 111, 117, 112] :: gw (gl.take k.1))) k.2]) (pk2 := [ownG 9 (stC y.2) y.1]) rfl rfl Tryd.underlying73 (by kernel_rfl) rfl (by omega) (by repeat (first | exact .nil | apply Pick.cons | exact .here | apply Ext.there)) (by simp) hk2 (by repeat (first | exact .nil | apply Pick.cons | exact .here | apply Ext.there)) (by simp) hy.1 (stC_one _) (by omega) (by omega)) ?_
          intro o9 ho9
          refine LW.v rfl rfl (Val.assign rfl) ?_
          refine LW.nil ?_
          refine PQ.in_normal ?_
          refine PQ.seq ?_
          refine CW.region ?_
          refine LW.v rfl rfl (Val.ar rfl rfl rfl (IntWalk.i64_in _ (by omega))) ?_
          refine LW.v rfl rfl (Val.move rfl) ?_
          refine LW.nil ?_
          refine PQ.re 18 (.slice c.grp.a gl.length c.grp.c) rfl (by rw [hpa]) ?_
          have hyw : y.2 = sw x := by unfold sw; rw [hws]; exact hy.2 ws hws
          have hW : ([103, 114, 111, 117, 112] :: gw (gl.take (k.1 + 1))) = ([103, 114, 111, 117, 112] :: gw (gl.take k.1)) ++ y.2 := by rw [gw_snoc hx, if_pos (by omega), hyw]; simp
          have hallp : ∀ z ∈ gl.take (k.1 + 1), (singleF z).isSome = true := by
            intro z hz
            rw [List.take_add_one, hx] at hz
            rcases List.mem_append.1 hz with hz | hz
            · exact hk3 z hz
            · simp at hz; subst hz; rw [hws]; rfl
          have hstC : stC ([103, 114, 111, 117, 112] :: gw (gl.take (k.1 + 1))) = stC ([103, 114, 111, 117, 112] :: gw (gl.take k.1)) ++ stC y.2 := by rw [hW]; simp [stC]
          have hlen : ([103, 114, 111, 117, 112] :: gw (gl.take (k.1 + 1))).length = ([103, 114, 111, 117, 112] :: gw (gl.take k.1)).length + y.2.length := by rw [hW]; simp only [List.length_append, List.length_cons, List.length_nil]; (try omega)
          refine PQ.segs (ss := [ownG 9 (stC ([103, 114, 111, 117, 112] :: gw (gl.take k.1)) ++ stC y.2) o9, [(b1, .cells c.cells.toArray 41 (0, 0))]]) ?_ (by repeat (first | exact .nil | apply Pick.cons | exact .here | apply Ext.there))
          rw [← hstC]
          refine PQ.round ((k.1 + 1, o9)) ⟨by simp only; omega, by simp only; rw [hlen, hstC]; exact ho9, hallp⟩ (by simp only; omega) (by exact ⟨by simp only; rw [hlen]; rfl, rfl, rfl, rfl, rfl, trivial⟩) (by repeat (first | exact .nil | apply Pick.cons | exact .here | apply Ext.there))
    · replace h21 := bF h21
      refine CW.exit ?_
      refine PQ.then_exit ?_
      refine PQ.then_exit ?_
      refine PQ.in_here ?_
      refine PQ.seq ?_
      refine CW.seq ?_
      refine CW.quiet mixed (by kernel_rfl) ?_
      refine QW.v rfl rfl (Val.move rfl) ?_
      refine QW.v rfl rfl (Val.fieldAddr 4 rfl Tryd.underlying41 rfl rfl Tryd.sizeOf39) ?_
      refine QW.v rfl rfl (Val.load (v := .slice c.grp.a gl.length c.grp.c) rfl Tryd.isAgg39 (by repeat (first | exact .here | refine .there ?_)) (by rw [← hn]; rfl)) ?_
      refine QW.v rfl rfl (Val.lenSl rfl Tryd.underlying39) ?_
      refine QW.v rfl rfl (Val.cmp rfl rfl rfl) ?_
      refine QW.v rfl rfl (Val.assign rfl) ?_
      refine QW.v rfl rfl (Val.assign rfl) ?_
      refine QW.nil ?_
      refine PQ.seq ?_
      refine CW.ret ?_
      refine PQ.ret2 rfl rfl rfl ?_
      intro w' hw
      have e1 : gl.take k.1 = gl := List.take_of_length_le (by omega)
      rw [e1] at hk2 hk3 hw
      have hcF : (callF c gl).isSome = decide (((gl.length : Nat) : Int) > 0) ∧ ∀ ws, callF c gl = some ws → ([103, 114, 111, 117, 112] :: gw gl) = ws := by
        unfold callF
        rw [if_pos h11]
        by_cases hg : gl = []
        · rw [if_neg (fun h => h.1 hg)]; subst hg; exact ⟨rfl, fun ws h => by cases h⟩
        · rw [if_pos ⟨hg, hk3⟩]
          have := List.length_pos_iff.2 hg
          exact ⟨by rw [Option.isSome_some, eq_comm, decide_eq_true_iff]; omega, fun ws h => by cases h; rfl⟩
      exact ⟨(k.2, [103, 114, 111, 117, 112] :: gw gl), ⟨hk2, hcF.2⟩, by rw [hcF.1, e1], hw.pick (by repeat (first | exact .nil | apply Pick.cons | exact .here | apply Ext.there))⟩
def fitsB (l : List Int) : Bool := l.all fun x => decide (0 ≤ x) && decide (x ≤ 999999999)
/-- Numbers are written, in whatever memory behind this one. -/
def ItoaAll (w : World) : Prop := ∀ x : Int, 0 ≤ x → x ≤ 999999999 → ∀ w', Below w.heap.size w w' → Calls Tryd.prog 55 [.int .i64 x].toArray w' fun e w2 => e = .returned (str (decN x.toNat)) ∧ Below w'.heap.size w' w2
theorem ItoaAll.mono {w w1 : World} (h : ItoaAll w) (hb : Below w.heap.size w w1) : ItoaAll w1 := fun x h0 h1 w2 h2 => h x h0 h1 w2 (hb.trans (h2.mono hb.size))
theorem fitsB_no {l : List Int} {x : Int} (hx : x ∈ l) (h : x < 0 ∨ 999999999 < x) : fitsB l = false := by
  cases hb : fitsB l with
  | false => rfl
  | true =>
    have := List.all_eq_true.1 hb x hx
    simp at this; omega
theorem numbersA_c (p : Option Addr) (n cap : Nat) (l : List Int) (hn : l.length = n) (hl : n ≤ 100000) (w : World) (h : V.slAt w p 1 (fun x => [Value.int .i64 x]) l) (hI : ItoaAll w) : Calls Tryd.prog 41 [.slice p n cap].toArray w fun e w' => ∃ y : V.OwnO × List (List UInt8), (ownOk 1 y.2.length (stC y.2) y.1 ∧ (fitsB l = true → y.2 = numL l) ∧ y.2.length ≤ l.length) ∧ e = .returned (.tuple #[ownV y.2.length y.1, .bool (fitsB l)]) ∧ Hp ⟨w, []⟩ [ownG 9 (stC y.2) y.1] w' := by
  refine V.calls [] Tryd.func41 rfl Tryd.ntmps41 (Nat.le_of_ble_eq_true rfl) (V.sat_nil _) ?_
  refine CW.seq ?_
  refine CW.region ?_
  refine LW.v rfl rfl (Val.assign rfl) ?_
  refine LW.v rfl rfl (Val.assign rfl) ?_
  refine LW.nil ?_
  refine PQ.seq ?_
  refine CW.seq ?_
  refine CW.region ?_
  refine LW.v rfl rfl (Val.assign rfl) ?_
  refine LW.nil ?_
  refine PQ.seq ?_
  refine CW.seq ?_
  refine CW.seq ?_
  refine CW.region ?_
  refine LW.v rfl rfl (Val.move rfl) ?_
  refine LW.v rfl rfl (Val.lenSl rfl Tryd.underlying42) ?_
  refine LW.v rfl rfl (Val.move rfl) ?_
  refine LW.nil ?_
  refine PQ.seq ?_
  refine CW.block ?_
  refine V.CW.perm (sg' := [ownG 9 (stC []) none]) ?_ (.refl _)
  refine CW.loop (γ := Nat × V.OwnO) (fun k => [(4, ownV (numL (l.take k.1)).length k.2), (7, .slice p n cap), (8, .int .i64 (n : Nat)), (9, .int .i64 (k.1 : Nat))]) (fun k => [ownG 9 (stC (numL (l.take k.1))) k.2]) (fun k => k.1 ≤ n ∧ ownOk 1 (numL (l.take k.1)).length (stC (numL (l.take k.1))) k.2 ∧ ∀ x ∈ l.take k.1, 0 ≤ x ∧ x ≤ 999999999) (fun k => n - k.1) ((0, none)) ⟨Nat.zero_le _, ⟨rfl, rfl⟩, by simp⟩ (by repeat (first | exact trivial | refine ⟨rfl, ?_⟩)) (by repeat (first | exact .nil | apply Pick.cons | exact .here | apply Ext.there)) ?_
  intro k
  rintro ⟨hk1, hk2, hk3⟩
  refine CW.seq ?_
  refine CW.region ?_
  refine LW.v rfl rfl (Val.cmp rfl rfl rfl) ?_
  refine LW.nil ?_
  refine PQ.seq ?_
  refine CW.seq ?_
  refine CW.cond rfl (fun h10 => ?_) (fun h10 => ?_)
  · replace h10 := bT h10
    obtain ⟨bb, oo, x, rfl, hb, hx, hh⟩ := V.slAt_at h hn (k := k.1) (by omega)
    have hnl : (numL (l.take k.1)).length = k.1 := by rw [numL_len, List.length_take, Nat.min_eq_left (by omega)]
    refine CW.skip ?_
    refine PQ.seq ?_
    refine CW.seq ?_
    refine CW.block ?_
    refine CW.seq ?_
    refine CW.region ?_
    first | (refine LW.v rfl rfl (Val.indexAddrN rfl rfl Tryd.underlying42 Tryd.sizeOf3 (by omega)) ?_) | (refine LW.v rfl rfl (Val.indexAddr rfl rfl Tryd.underlying42 Tryd.sizeOf3 (by omega) (by omega)) ?_)
    refine LW.v rfl rfl (Val.loadO rfl Tryd.isAgg3 hb (by simp [ids]) (hh k.1 x hx 0 _ rfl)) ?_
    refine LW.v rfl rfl (Val.assign rfl) ?_
    refine LW.nil ?_
    refine PQ.seq ?_
    refine CW.seq ?_
    refine CW.seq ?_
    refine CW.region ?_
    refine LW.v rfl rfl (Val.move rfl) ?_
    refine LW.v rfl rfl (Val.cmp rfl rfl rfl) ?_
    refine LW.v rfl rfl (Val.move rfl) ?_
    refine LW.split (d := 15) rfl (fun h15 => ?_) (fun h15 => ?_)
    · replace h15 := bT h15
      refine LW.p rfl rfl ?_
      refine LW.p rfl rfl ?_
      refine LW.v rfl rfl (Val.pick_t rfl rfl) ?_
      refine LW.nil ?_
      refine PQ.seq ?_
      refine CW.cond_t rfl ?_
      refine CW.seq ?_
      refine CW.region ?_
      refine LW.v rfl rfl (Val.assign rfl) ?_
      refine LW.v rfl rfl (Val.assign rfl) ?_
      refine LW.nil ?_
      refine PQ.seq ?_
      refine CW.ret ?_
      refine PQ.then_ret ?_
      refine PQ.in_ret ?_
      refine PQ.then_ret ?_
      refine PQ.then_ret ?_
      refine PQ.in_ret ?_
      refine PQ.then_ret ?_
      refine PQ.ret2 rfl rfl rfl ?_
      intro w' hw
      have hno : fitsB l = false := fitsB_no (List.mem_of_getElem? hx) (by omega)
      exact ⟨(none, []), ⟨⟨rfl, rfl⟩, (fun h => by rw [hno] at h; cases h), Nat.zero_le _⟩, by rw [hno]; rfl, (hw.pick (ss := []) .nil).perm (.refl _)⟩
    · replace h15 := bF h15
      refine LW.v rfl rfl (Val.move rfl) ?_
      refine LW.v rfl rfl (Val.cmp rfl rfl rfl) ?_
      refine LW.v rfl rfl (Val.pick_f rfl rfl) ?_
      refine LW.nil ?_
      refine PQ.seq ?_
      refine CW.cond rfl (fun h18 => ?_) (fun h18 => ?_)
      · replace h18 := bT h18
        have hx0 : x < 0 ∨ 999999999 < x := by
          first
          | omega
          | (have := h18; simp at this; omega)
        refine CW.seq ?_
        refine CW.region ?_
        refine LW.v rfl rfl (Val.assign rfl) ?_
        refine LW.v rfl rfl (Val.assign rfl) ?_
        refine LW.nil ?_
        refine PQ.seq ?_
        refine CW.ret ?_
        refine PQ.then_ret ?_
        refine PQ.in_ret ?_
        refine PQ.then_ret ?_
        refine PQ.then_ret ?_
        refine PQ.in_ret ?_
        refine PQ.then_ret ?_
        refine PQ.ret2 rfl rfl rfl ?_
        intro w' hw
        have hno : fitsB l = false := fitsB_no (List.mem_of_getElem? hx) (by omega)
        exact ⟨(none, []), ⟨⟨rfl, rfl⟩, (fun h => by rw [hno] at h; cases h), Nat.zero_le _⟩, by rw [hno]; rfl, (hw.pick (ss := []) .nil).perm (.refl _)⟩
      · replace h18 := bF h18
        have hx0 : 0 ≤ x ∧ x ≤ 999999999 := by
          first
          | omega
          | (have := h18; simp at this; omega)
        refine CW.skip ?_
        refine PQ.seq ?_
        refine CW.region ?_
        refine LW.v rfl rfl (Val.move rfl) ?_
        refine LW.v rfl rfl (Val.move rfl) ?_
        refine LW.e rfl rfl (Eff.callV rfl Tryd.call55 (fun w hw => hI x (by omega) (by omega) w hw.below)) ?_
        intro _ _
        refine LW.e rfl rfl (Eff.buildSlice (rfl) [_] Tryd.underlying73 Tryd.sizeOf9 (by exact Tryd.zeroValue9) rfl rfl rfl rfl (by rfl)) ?_
        intro b22 _
        refine LW.e rfl rfl (Eff.appendAny (stC [decN x.toNat]) (sz := 1) (bytes := 16) (z := .string ⟨#[]⟩) (xs := stC (numL (l.take k.1))) (m0 := (numL (l.take k.1)).length) (o := k.2) (m := 1) (pk := [ownG 9 (stC (numL (l.take k.1))) k.2]) rfl rfl Tryd.underlying73 (by kernel_rfl) rfl (by omega) (by repeat (first | exact .nil | apply Pick.cons | exact .here | apply Ext.there)) (by simp) hk2 rfl (fun hm0 => ⟨b22, 0, rfl, fun w hw => V.range_of_block (o := 0) (cs := stC [decN x.toNat]) (r := []) (hw.own _ (show InS (b22, .cells (stC [decN x.toNat]).toArray 9 (0, 0)) _ from (by repeat (first | exact .here | refine .there ?_))).mem) rfl⟩) (stC_one _) (by omega) (by omega)) ?_
        intro o9 ho9
        refine LW.v rfl rfl (Val.assign rfl) ?_
        refine LW.nil ?_
        refine PQ.in_normal ?_
        refine PQ.seq ?_
        refine CW.region ?_
        refine LW.v rfl rfl (Val.ar rfl rfl rfl (IntWalk.i64_in _ (by omega))) ?_
        refine LW.v rfl rfl (Val.move rfl) ?_
        refine LW.nil ?_
        refine PQ.segs (ss := [ownG 9 (stC (numL (l.take k.1)) ++ stC [decN x.toNat]) o9]) ?_ (by repeat (first | exact .nil | apply Pick.cons | exact .here | apply Ext.there))
        rw [← stC_append, ← take_num hx]
        refine PQ.round ((k.1 + 1, o9)) ⟨by simp only; omega, by simp only; rw [take_num hx, stC_append, List.length_append]; exact ho9, fun z hz => by
          simp only at hz
          rw [List.take_add_one, hx] at hz
          rcases List.mem_append.1 hz with hz | hz
          · exact hk3 z hz
          · simp at hz; subst hz; omega⟩ (by simp only; omega) (by exact ⟨by simp only; rw [take_num hx, List.length_append]; rfl, rfl, rfl, rfl, trivial⟩) (by repeat (first | exact .nil | apply Pick.cons | exact .here | apply Ext.there))
  · replace h10 := bF h10
    refine CW.exit ?_
    refine PQ.then_exit ?_
    refine PQ.then_exit ?_
    refine PQ.in_here ?_
    refine PQ.seq ?_
    refine CW.seq ?_
    refine CW.region ?_
    refine LW.v rfl rfl (Val.move rfl) ?_
    refine LW.v rfl rfl (Val.assign rfl) ?_
    refine LW.v rfl rfl (Val.assign rfl) ?_
    refine LW.nil ?_
    refine PQ.seq ?_
    refine CW.ret ?_
    refine PQ.ret2 rfl rfl rfl ?_
    intro w' hw
    have e1 : l.take k.1 = l := List.take_of_length_le (by omega)
    rw [e1] at hk2 hk3 hw
    have hy : fitsB l = true := List.all_eq_true.2 fun x hx => by have := hk3 x hx; simp; omega
    exact ⟨(k.2, numL l), ⟨hk2, fun _ => rfl, by rw [numL_len]; exact Nat.le_refl _⟩, by rw [hy, e1], hw⟩
end Go.Proofs.YtagliemeolngiaaDoor
