/- some, Ended; the walk of StoryEnds. -/
import Derived.Test.YtaihimbjdgmjgaaSeB
import Derived.Lib.Hide
namespace Go.Proofs.Ytaihimbjdgmjgaa
open Go Go.RowKit V
set_option linter.unusedVariables false
set_option maxRecDepth 100000
open V (ownV ownG ownS ownOk)
def Sto.scal (s : Sto) : Int × Int × ByteArray × ByteArray × ByteArray × Int × Bool × ByteArray × Int × Int × Int := (s.th, s.call.ck, s.call.key, s.call.val, s.call.to, s.cd, s.fd, s.av, s.ep, s.bg, s.en)
/-- s' is a copy of s. -/
def SmR (W : Rdg) (w : World) (s : Sto) : Prop := ∃ gl pl hl, W s gl pl hl ∧ RdS w s gl pl hl ∧ Small s gl
theorem SmR.hp {W : Rdg} {w0 w : World} {sg : Sg} {s : Sto} (h : SmR W w0 s) (hw : Hp ⟨w0, []⟩ sg w) : SmR W w s := by
  obtain ⟨gl, pl, hl, a, b, c⟩ := h
  exact ⟨gl, pl, hl, a, b.hp hw, c⟩
def CpW (W : Rdg) (w : World) (s s' : Sto) : Prop := s'.scal = s.scal ∧ ∃ gl pl hl gl', W s gl pl hl ∧ Small s gl ∧ RdS w s' gl' pl hl ∧ gl'.map clK = gl.map clK ∧ ∀ x ∈ gl', x.grp.n = 0
def AllCp (W : Rdg) (w : World) (F L : List Sto) : Prop := L.length = F.length ∧ ∀ (i : Nat) (s s' : Sto), F[i]? = some s → L[i]? = some s' → CpW W w s s'
theorem AllCp.snoc {W : Rdg} {w : World} {F L : List Sto} {s s' : Sto} (h : AllCp W w F L) (h' : CpW W w s s') : AllCp W w (F ++ [s]) (L ++ [s']) := ⟨by simp [h.1], fun i a b ha hb => by
  by_cases hi : i < F.length
  · rw [List.getElem?_append_left hi] at ha
    rw [List.getElem?_append_left (by have := h.1; omega)] at hb
    exact h.2 i a b ha hb
  · rw [List.getElem?_append_right (by omega)] at ha
    rw [List.getElem?_append_right (by have := h.1; omega), h.1] at hb
    cases hq : i - F.length with
    | zero => rw [hq] at ha hb; simp at ha hb; subst ha; subst hb; exact h'
    | succ m => rw [hq] at ha; simp at ha⟩
theorem AllCp.en {W : Rdg} {w : World} {F L : List Sto} (h : AllCp W w F L) : L.map Sto.en = F.map Sto.en := by
  refine List.ext_getElem? fun i => ?_
  rw [List.getElem?_map, List.getElem?_map]
  by_cases hi : i < F.length
  · have h1 : F[i]? = some F[i] := List.getElem?_eq_getElem hi
    have h2 : L[i]? = some (L[i]'(by have := h.1; omega)) := List.getElem?_eq_getElem _
    have h3 := (h.2 i _ _ h1 h2).1
    rw [h1, h2]
    simp only [Option.map_some, Option.some.injEq]
    unfold Sto.scal at h3
    simp only [Prod.mk.injEq] at h3
    exact h3.2.2.2.2.2.2.2.2.2.2
  · rw [List.getElem?_eq_none (by have := h.1; omega), List.getElem?_eq_none (by omega)]
theorem filter_snoc {l : List Sto} {q : Sto → Bool} {k : Nat} {s : Sto} (hs : l[k]? = some s) : (l.take (k + 1)).filter q = (l.take k).filter q ++ (if q s then [s] else []) := by
  rw [take_snoc hs, List.filter_append]
  by_cases h : q s <;> simp [h]
theorem own_len {o : V.OwnO} {L L' : List Sto} (h : ownOk 14 L.length (L.flatMap Sto.cells) o) (e : L'.length = L.length) : ownOk 14 L'.length (L'.flatMap Sto.cells) o := by
  refine ⟨V.flatMap_len sto_len _, ?_⟩
  have h2 := h.2
  rcases o with _ | ⟨g, rest, cap⟩
  · exact e.trans h2
  · simp only at h2 ⊢
    rw [V.flatMap_len sto_len] at h2 ⊢
    rw [e]; exact h2
theorem some_c (f : FuncId) (q : Sto → Bool) (hf : ∀ (args : Array Value) (w : World), (callFunc f args).run Try.prog w = .ok (.enter f args) w) (hq : ∀ (s : Sto) (w : World), Calls Try.prog f [.agg s.cells.toArray].toArray w fun e w' => e = .returned (.bool (q s)) ∧ Below w.heap.size w w')
    (R : Rdg) (p : Option Addr) (n cap : Nat) (l : List Sto) (W : World) (hn : l.length = n) (h : V.slAt W p 14 Sto.cells l) (hm : n ≤ 60) (hS : ∀ i, i < n → ∀ s, l[i]? = some s → SmR R W s) : Calls Try.prog 41 [.slice p n cap, .func (.func f) #[] #[]].toArray W fun e w' => ∃ y : V.OwnO × List Sto × V.Seg, (ownOk 14 y.2.1.length (y.2.1.flatMap Sto.cells) y.1 ∧ (y.2.1.length ≤ 60 ∧ y.2.1.length = (l.filter q).length) ∧ ∀ w, Sat [y.2.2] w → AllCp R w (l.filter q) y.2.1) ∧ e = .returned (ownV y.2.1.length y.1) ∧ Hp ⟨W, []⟩ [ownG 36 (y.2.1.flatMap Sto.cells) y.1, y.2.2] w' := by
  refine V.calls [] Try.func41 rfl Try.ntmps41 (Nat.le_of_ble_eq_true rfl) (V.sat_nil _) ?_
  refine CW.seq ?_
  refine CW.region ?_
  refine LW.v rfl rfl (Val.assign rfl) ?_
  refine LW.nil ?_
  refine PQ.seq ?_
  refine CW.seq ?_
  refine CW.region ?_
  refine LW.v rfl rfl (Val.assign rfl) ?_
  refine LW.nil ?_
  refine PQ.seq ?_
  refine CW.seq ?_
  refine CW.seq ?_
  refine CW.region ?_
  refine LW.v rfl rfl (Val.move rfl) ?_
  refine LW.v rfl rfl (Val.lenSl rfl Try.underlying22) ?_
  refine LW.v rfl rfl (Val.move rfl) ?_
  refine LW.nil ?_
  refine PQ.seq ?_
  refine CW.block ?_
  refine V.CW.addOwn 36 ?_
  refine V.CW.perm (sg' := [ownG 36 (([] : List Sto).flatMap Sto.cells) none, []]) ?_ (.refl _)
  refine CW.loop (γ := Nat × V.OwnO × List Sto × V.Seg) (fun k => [(8, .slice p n cap), (9, .int .i64 (n : Nat)), (10, .int .i64 (k.1 : Nat)), (1, .func (.func f) #[] #[]), (5, ownV k.2.2.1.length k.2.1)]) (fun k => [ownG 36 (k.2.2.1.flatMap Sto.cells) k.2.1, k.2.2.2]) (fun k => k.1 ≤ n ∧ ownOk 14 k.2.2.1.length (k.2.2.1.flatMap Sto.cells) k.2.1 ∧ (k.2.2.1.length ≤ k.1 ∧ k.2.2.1.length = ((l.take k.1).filter q).length) ∧ (∀ w, Sat [k.2.2.2] w → AllCp R w ((l.take k.1).filter q) k.2.2.1)) (fun k => n - k.1) ((0, none, [], [])) ⟨Nat.zero_le _, ⟨rfl, rfl⟩, ⟨Nat.le_refl _, rfl⟩, fun w hw => ⟨rfl, fun i s s' hs => by simp at hs⟩⟩ (by exact ⟨rfl, rfl, rfl, rfl, rfl, trivial⟩) (by repeat (first | exact .nil | apply Pick.cons | exact .here | apply Ext.there)) ?_
  intro k
  rintro ⟨hk1, hk2, ⟨hk3, hk5⟩, hk4⟩
  refine CW.seq ?_
  refine CW.region ?_
  refine LW.v rfl rfl (Val.cmp rfl rfl rfl) ?_
  refine LW.nil ?_
  refine PQ.seq ?_
  refine CW.seq ?_
  refine CW.cond rfl (fun h11 => ?_) (fun h11 => ?_)
  · replace h11 := bT h11
    obtain ⟨b, o, s, rfl, hb, hsx, hr⟩ := V.slAt_at h hn (k := k.1) (by omega)
    obtain ⟨gl, pl, hl, hR, ⟨h1, h2, h3, h4, h5, h6⟩, hSm⟩ := hS k.1 (by omega) s hsx
    refine CW.skip ?_
    refine PQ.seq ?_
    refine CW.seq ?_
    refine CW.block ?_
    refine CW.seq ?_
    refine CW.region ?_
    first | (refine LW.v rfl rfl (Val.indexAddrN rfl rfl Try.underlying22 Try.sizeOf36 (by omega)) ?_) | (refine LW.v rfl rfl (Val.indexAddr rfl rfl Try.underlying22 Try.sizeOf36 (by omega) (by omega)) ?_)
    refine LW.v rfl rfl (Val.loadOA rfl Try.isAgg36 hb (by simp [ids]) (hr k.1 s hsx) Try.sizeOf36) ?_
    refine LW.e rfl rfl (Eff.allocA (by exact Try.zeroValue36)) ?_
    intro b7 _
    first | (refine LW.eN rfl (Eff.storeW rfl rfl (by repeat (first | exact .here | apply Upd.there)) (by rfl) Try.sizeOf36 (by rfl)) ?_) | (refine LW.eN rfl (Eff.storeA (l' := _) rfl rfl (by repeat (first | exact .here | apply Upd.there)) (by rfl) (by decide) Try.sizeOf36 (by rfl)) ?_)
    intro _ _
    refine LW.nil ?_
    refine PQ.seq ?_
    refine CW.seq ?_
    refine CW.region ?_
    refine LW.v rfl rfl (Val.move rfl) ?_
    first | (refine LW.v rfl rfl (Val.loadW rfl Try.isAgg36 (by repeat (first | exact .here | refine .there ?_)) (by exact Try.sizeOf36)) ?_) | (refine LW.v rfl rfl (Val.loadA [_, _, _, _, _, _, _, _, _, _, _, _, _, _] rfl Try.isAgg36 (by repeat (first | exact .here | refine .there ?_)) (by rfl) Try.sizeOf36) ?_)
    refine LW.e rfl rfl (Eff.callFV (f := f) (caps := []) rfl rfl hf (fun w hw => hq s w)) ?_
    intro _ _
    refine LW.nil ?_
    refine PQ.seq ?_
    refine CW.cond rfl (fun h16 => ?_) (fun h16 => ?_)
    · replace h16 := bT h16
      refine CW.seq ?_
      refine CW.drawn ([]) mixed (by repeat (first | exact .nil | apply Pick.cons | exact .here | apply Ext.there)) ?_
      refine RW.v 0 rfl (by kernel_rfl) (by kernel_rfl) (by kernel_rfl) (fun _ _ _ h => h) rfl rfl (Val.fieldAddr 1 rfl Try.underlying36 rfl rfl Try.sizeOf28) ?_
      refine RW.v 3 rfl (by kernel_rfl) (by kernel_rfl) (by kernel_rfl) (fun _ _ _ h => h) rfl rfl (Val.fieldAddr 6 rfl Try.underlying36 rfl rfl Try.sizeOf34) ?_
      refine RW.any [1, 4] (by kernel_rfl) (by simp) ?_
      intro i hi
      simp only [List.mem_cons, List.not_mem_nil, or_false] at hi
      rcases hi with rfl | rfl
      · refine RO.e rfl rfl rfl (Eff.ofVal (Val.loadA s.call.cells (r := s.cells.drop 6) rfl Try.isAgg28 (by repeat (first | exact .here | refine .there ?_)) (by rfl) Try.sizeOf28)) (fun x => ⟨_, (by repeat (first | exact .nil | apply Pick.cons | exact .here | apply Ext.there))⟩) ?_
        intro _ _
        refine RW.any [2, 4] (by kernel_rfl) (by simp) ?_
        intro i hi
        simp only [List.mem_cons, List.not_mem_nil, or_false] at hi
        rcases hi with rfl | rfl
        · refine RO.e rfl rfl rfl (Eff.callM ([]) .nil rfl Try.call61 (fun w hw hs => call_c s.call gl h1 (by have := hSm.1; omega) hSm.2.1 w (hw.slAt h2 (by simp [ids])))) (fun x => ⟨_, (by repeat (first | exact .nil | apply Pick.cons | exact .here | apply Ext.there))⟩) ?_
          intro y1 hy1
          refine RW.e 4 rfl (by kernel_rfl) rfl rfl (Eff.ofVal (Val.loadA (ansC s) (r := s.cells.drop 12) rfl Try.isAgg34 (by repeat (first | exact .here | refine .there ?_)) (by rfl) Try.sizeOf34)) (fun x => ⟨_, (by repeat (first | exact .nil | apply Pick.cons | exact .here | apply Ext.there))⟩) ?_
          intro _ _
          refine RW.v 6 rfl (by kernel_rfl) (by kernel_rfl) (by kernel_rfl) (fun _ _ _ h => h) rfl rfl (Val.fieldAddr 1 rfl Try.underlying36 rfl rfl Try.sizeOf28) ?_
          refine RW.e 5 rfl (by kernel_rfl) rfl rfl (Eff.callM ([]) .nil rfl Try.call62 (fun w hw hs => answer_c s pl hl h3 h5 (by have := hSm.2.2; omega) w (hw.slAt h4 (by simp [ids])) (hw.slAt h6 (by simp [ids])))) (fun x => ⟨_, (by repeat (first | exact .nil | apply Pick.cons | exact .here | apply Ext.there))⟩) ?_
          intro y2 hy2
          refine RW.eN 7 rfl (by kernel_rfl) rfl (Eff.storeA (l := s.cells) (cs := (s.call.re (ownSl y1.2.length y1.1)).cells) (l' := (s.reC (ownSl y1.2.length y1.1)).cells) rfl rfl (by repeat (first | exact .here | apply Upd.there)) (by rfl) (by rw [cl_len, sto_len]; omega) Try.sizeOf28 (cl_one _)) (fun x => ⟨_, (by repeat (first | exact .nil | apply Pick.cons | exact .here | apply Ext.there))⟩) ?_
          intro _ _
          refine RW.v 8 rfl (by kernel_rfl) (by kernel_rfl) (by kernel_rfl) (fun _ _ _ h => h) rfl rfl (Val.fieldAddr 6 rfl Try.underlying36 rfl rfl Try.sizeOf34) ?_
          refine RW.eN 9 rfl (by kernel_rfl) rfl (Eff.storeA (l := (s.reC (ownSl y1.2.length y1.1)).cells) (cs := (ansC ((s.reC (ownSl y1.2.length y1.1)).reA (ownSl pl.length y2.1) (ownSl hl.length y2.2)))) (l' := (((s.reC (ownSl y1.2.length y1.1)).reA (ownSl pl.length y2.1) (ownSl hl.length y2.2))).cells) rfl rfl (by repeat (first | exact .here | apply Upd.there)) (by rfl) (by rw [sto_len]; show 6 + 6 ≤ 14; omega) Try.sizeOf34 (by rfl)) (fun x => ⟨_, (by repeat (first | exact .nil | apply Pick.cons | exact .here | apply Ext.there))⟩) ?_
          intro _ _
          refine RW.done (by kernel_rfl) ?_
          refine PQ.seq ?_
          refine CW.region ?_
          refine LW.v rfl rfl (Val.move rfl) ?_
          refine LW.v rfl rfl (Val.loadW (l := (((s.reC (ownSl y1.2.length y1.1)).reA (ownSl pl.length y2.1) (ownSl hl.length y2.2))).cells) rfl Try.isAgg36 (by repeat (first | exact .here | refine .there ?_)) (by exact Try.sizeOf36)) ?_
          refine LW.e rfl rfl (Eff.buildSlice (rfl) [_, _, _, _, _, _, _, _, _, _, _, _, _, _] Try.underlying22 Try.sizeOf36 (by exact Try.zeroValue36) rfl rfl rfl rfl (by rfl)) ?_
          intro b27 _
          refine LW.e rfl rfl (Eff.appendAny ((((s.reC (ownSl y1.2.length y1.1)).reA (ownSl pl.length y2.1) (ownSl hl.length y2.2))).cells) (sz := 14) (bytes := 192) (z := .agg #[.int .i64 0, .int .i64 0, .string ⟨#[]⟩, .string ⟨#[]⟩, .string ⟨#[]⟩, .slice none 0 0, .int .i64 0, .bool false, .string ⟨#[]⟩, .slice none 0 0, .slice none 0 0, .int .u64 0, .int .i64 0, .int .i64 0]) (xs := k.2.2.1.flatMap Sto.cells) (m0 := k.2.2.1.length) (o := k.2.1) (m := 1) (pk := [ownG 36 (k.2.2.1.flatMap Sto.cells) k.2.1]) rfl rfl Try.underlying22 (by kernel_rfl) rfl (by omega) (by repeat (first | exact .nil | apply Pick.cons | exact .here | apply Ext.there)) (by simp) hk2 (by rfl) (fun hm0 => ⟨b27, 0, rfl, fun w hw => V.range_of_block (o := 0) (cs := (((s.reC (ownSl y1.2.length y1.1)).reA (ownSl pl.length y2.1) (ownSl hl.length y2.2))).cells) (r := []) (hw.own _ (show InS (b27, .cells ((((s.reC (ownSl y1.2.length y1.1)).reA (ownSl pl.length y2.1) (ownSl hl.length y2.2))).cells).toArray 36 (0, 0)) _ from (by repeat (first | exact .here | refine .there ?_))).mem) rfl⟩) (by rfl) (by omega) (by omega)) ?_
          intro o9 ho9
          refine LW.v rfl rfl (Val.assign rfl) ?_
          refine LW.nil ?_
          refine PQ.in_normal ?_
          refine PQ.seq ?_
          refine CW.region ?_
          refine LW.v rfl rfl (Val.ar rfl rfl rfl (IntWalk.i64_in _ (by omega))) ?_
          refine LW.v rfl rfl (Val.move rfl) ?_
          refine LW.nil ?_
          refine PQ.segs (ss := [ownG 36 (k.2.2.1.flatMap Sto.cells ++ (((s.reC (ownSl y1.2.length y1.1)).reA (ownSl pl.length y2.1) (ownSl hl.length y2.2))).cells) o9, k.2.2.2, ownG 28 (y1.2.flatMap Cl.cells) y1.1, ownG 106 (pl.flatMap Pr.cells) y2.1, ownG 4 (hl.flatMap boolC) y2.2]) ?_ (by repeat (first | exact .nil | apply Pick.cons | exact .here | apply Ext.there))
          refine V.PQ.perm (sg' := [ownG 36 ((k.2.2.1 ++ [((s.reC (ownSl y1.2.length y1.1)).reA (ownSl pl.length y2.1) (ownSl hl.length y2.2))]).flatMap Sto.cells) o9, k.2.2.2 ++ (ownG 28 (y1.2.flatMap Cl.cells) y1.1 ++ (ownG 106 (pl.flatMap Pr.cells) y2.1 ++ ownG 4 (hl.flatMap boolC) y2.2))]) ?_ (by rw [flat_snoc]; simp only [List.flatten_cons, List.flatten_nil, List.append_nil, List.append_assoc]; exact .refl _)
          refine PQ.round ((k.1 + 1, o9, k.2.2.1 ++ [((s.reC (ownSl y1.2.length y1.1)).reA (ownSl pl.length y2.1) (ownSl hl.length y2.2))], k.2.2.2 ++ (ownG 28 (y1.2.flatMap Cl.cells) y1.1 ++ (ownG 106 (pl.flatMap Pr.cells) y2.1 ++ ownG 4 (hl.flatMap boolC) y2.2)))) ⟨by simp only; omega, by have := ho9; simp only [flat_snoc, List.length_append]; exact this, ⟨by simp only [List.length_append, List.length_cons, List.length_nil]; omega, by rw [filter_snoc hsx, if_pos h16]; simp only [List.length_append, List.length_cons, List.length_nil]; omega⟩, fun w hw => by
            rw [filter_snoc hsx, if_pos h16]
            exact (hk4 w (sat_l hw)).snoc ⟨rfl, gl, pl, hl, y1.2, hR, hSm, ⟨ownSl_n hy1.1, ownSl_at cl_len hy1.1 (sat_l (sat_r hw)), ownSl_n hy2.1, ownSl_at pr_len hy2.1 (sat_l (sat_r (sat_r hw))), ownSl_n hy2.2, ownSl_at bo_len hy2.2 (sat_r (sat_r (sat_r hw)))⟩, hy1.2.1, hy1.2.2⟩⟩ (by simp only; omega) (by exact ⟨rfl, rfl, rfl, rfl, by simp only [List.length_append, List.length_cons, List.length_nil]; rfl, trivial⟩) (by repeat (first | exact .nil | apply Pick.cons | exact .here | apply Ext.there))
        · refine RO.e rfl rfl rfl (Eff.ofVal (Val.loadA (ansC s) (r := s.cells.drop 12) rfl Try.isAgg34 (by repeat (first | exact .here | refine .there ?_)) (by rfl) Try.sizeOf34)) (fun x => ⟨_, (by repeat (first | exact .nil | apply Pick.cons | exact .here | apply Ext.there))⟩) ?_
          intro _ _
          refine RW.e 2 rfl (by kernel_rfl) rfl rfl (Eff.callM ([]) .nil rfl Try.call61 (fun w hw hs => call_c s.call gl h1 (by have := hSm.1; omega) hSm.2.1 w (hw.slAt h2 (by simp [ids])))) (fun x => ⟨_, (by repeat (first | exact .nil | apply Pick.cons | exact .here | apply Ext.there))⟩) ?_
          intro y1 hy1
          refine RW.v 6 rfl (by kernel_rfl) (by kernel_rfl) (by kernel_rfl) (fun _ _ _ h => h) rfl rfl (Val.fieldAddr 1 rfl Try.underlying36 rfl rfl Try.sizeOf28) ?_
          refine RW.e 5 rfl (by kernel_rfl) rfl rfl (Eff.callM ([]) .nil rfl Try.call62 (fun w hw hs => answer_c s pl hl h3 h5 (by have := hSm.2.2; omega) w (hw.slAt h4 (by simp [ids])) (hw.slAt h6 (by simp [ids])))) (fun x => ⟨_, (by repeat (first | exact .nil | apply Pick.cons | exact .here | apply Ext.there))⟩) ?_
          intro y2 hy2
          refine RW.eN 7 rfl (by kernel_rfl) rfl (Eff.storeA (l := s.cells) (cs := (s.call.re (ownSl y1.2.length y1.1)).cells) (l' := (s.reC (ownSl y1.2.length y1.1)).cells) rfl rfl (by repeat (first | exact .here | apply Upd.there)) (by rfl) (by rw [cl_len, sto_len]; omega) Try.sizeOf28 (cl_one _)) (fun x => ⟨_, (by repeat (first | exact .nil | apply Pick.cons | exact .here | apply Ext.there))⟩) ?_
          intro _ _
          refine RW.v 8 rfl (by kernel_rfl) (by kernel_rfl) (by kernel_rfl) (fun _ _ _ h => h) rfl rfl (Val.fieldAddr 6 rfl Try.underlying36 rfl rfl Try.sizeOf34) ?_
          refine RW.eN 9 rfl (by kernel_rfl) rfl (Eff.storeA (l := (s.reC (ownSl y1.2.length y1.1)).cells) (cs := (ansC ((s.reC (ownSl y1.2.length y1.1)).reA (ownSl pl.length y2.1) (ownSl hl.length y2.2)))) (l' := (((s.reC (ownSl y1.2.length y1.1)).reA (ownSl pl.length y2.1) (ownSl hl.length y2.2))).cells) rfl rfl (by repeat (first | exact .here | apply Upd.there)) (by rfl) (by rw [sto_len]; show 6 + 6 ≤ 14; omega) Try.sizeOf34 (by rfl)) (fun x => ⟨_, (by repeat (first | exact .nil | apply Pick.cons | exact .here | apply Ext.there))⟩) ?_
          intro _ _
          refine RW.done (by kernel_rfl) ?_
          refine PQ.seq ?_
          refine CW.region ?_
          refine LW.v rfl rfl (Val.move rfl) ?_
          refine LW.v rfl rfl (Val.loadW (l := (((s.reC (ownSl y1.2.length y1.1)).reA (ownSl pl.length y2.1) (ownSl hl.length y2.2))).cells) rfl Try.isAgg36 (by repeat (first | exact .here | refine .there ?_)) (by exact Try.sizeOf36)) ?_
          refine LW.e rfl rfl (Eff.buildSlice (rfl) [_, _, _, _, _, _, _, _, _, _, _, _, _, _] Try.underlying22 Try.sizeOf36 (by exact Try.zeroValue36) rfl rfl rfl rfl (by rfl)) ?_
          intro b27 _
          refine LW.e rfl rfl (Eff.appendAny ((((s.reC (ownSl y1.2.length y1.1)).reA (ownSl pl.length y2.1) (ownSl hl.length y2.2))).cells) (sz := 14) (bytes := 192) (z := .agg #[.int .i64 0, .int .i64 0, .string ⟨#[]⟩, .string ⟨#[]⟩, .string ⟨#[]⟩, .slice none 0 0, .int .i64 0, .bool false, .string ⟨#[]⟩, .slice none 0 0, .slice none 0 0, .int .u64 0, .int .i64 0, .int .i64 0]) (xs := k.2.2.1.flatMap Sto.cells) (m0 := k.2.2.1.length) (o := k.2.1) (m := 1) (pk := [ownG 36 (k.2.2.1.flatMap Sto.cells) k.2.1]) rfl rfl Try.underlying22 (by kernel_rfl) rfl (by omega) (by repeat (first | exact .nil | apply Pick.cons | exact .here | apply Ext.there)) (by simp) hk2 (by rfl) (fun hm0 => ⟨b27, 0, rfl, fun w hw => V.range_of_block (o := 0) (cs := (((s.reC (ownSl y1.2.length y1.1)).reA (ownSl pl.length y2.1) (ownSl hl.length y2.2))).cells) (r := []) (hw.own _ (show InS (b27, .cells ((((s.reC (ownSl y1.2.length y1.1)).reA (ownSl pl.length y2.1) (ownSl hl.length y2.2))).cells).toArray 36 (0, 0)) _ from (by repeat (first | exact .here | refine .there ?_))).mem) rfl⟩) (by rfl) (by omega) (by omega)) ?_
          intro o9 ho9
          refine LW.v rfl rfl (Val.assign rfl) ?_
          refine LW.nil ?_
          refine PQ.in_normal ?_
          refine PQ.seq ?_
          refine CW.region ?_
          refine LW.v rfl rfl (Val.ar rfl rfl rfl (IntWalk.i64_in _ (by omega))) ?_
          refine LW.v rfl rfl (Val.move rfl) ?_
          refine LW.nil ?_
          refine PQ.segs (ss := [ownG 36 (k.2.2.1.flatMap Sto.cells ++ (((s.reC (ownSl y1.2.length y1.1)).reA (ownSl pl.length y2.1) (ownSl hl.length y2.2))).cells) o9, k.2.2.2, ownG 28 (y1.2.flatMap Cl.cells) y1.1, ownG 106 (pl.flatMap Pr.cells) y2.1, ownG 4 (hl.flatMap boolC) y2.2]) ?_ (by repeat (first | exact .nil | apply Pick.cons | exact .here | apply Ext.there))
          refine V.PQ.perm (sg' := [ownG 36 ((k.2.2.1 ++ [((s.reC (ownSl y1.2.length y1.1)).reA (ownSl pl.length y2.1) (ownSl hl.length y2.2))]).flatMap Sto.cells) o9, k.2.2.2 ++ (ownG 28 (y1.2.flatMap Cl.cells) y1.1 ++ (ownG 106 (pl.flatMap Pr.cells) y2.1 ++ ownG 4 (hl.flatMap boolC) y2.2))]) ?_ (by rw [flat_snoc]; simp only [List.flatten_cons, List.flatten_nil, List.append_nil, List.append_assoc]; exact .refl _)
          refine PQ.round ((k.1 + 1, o9, k.2.2.1 ++ [((s.reC (ownSl y1.2.length y1.1)).reA (ownSl pl.length y2.1) (ownSl hl.length y2.2))], k.2.2.2 ++ (ownG 28 (y1.2.flatMap Cl.cells) y1.1 ++ (ownG 106 (pl.flatMap Pr.cells) y2.1 ++ ownG 4 (hl.flatMap boolC) y2.2)))) ⟨by simp only; omega, by have := ho9; simp only [flat_snoc, List.length_append]; exact this, ⟨by simp only [List.length_append, List.length_cons, List.length_nil]; omega, by rw [filter_snoc hsx, if_pos h16]; simp only [List.length_append, List.length_cons, List.length_nil]; omega⟩, fun w hw => by
            rw [filter_snoc hsx, if_pos h16]
            exact (hk4 w (sat_l hw)).snoc ⟨rfl, gl, pl, hl, y1.2, hR, hSm, ⟨ownSl_n hy1.1, ownSl_at cl_len hy1.1 (sat_l (sat_r hw)), ownSl_n hy2.1, ownSl_at pr_len hy2.1 (sat_l (sat_r (sat_r hw))), ownSl_n hy2.2, ownSl_at bo_len hy2.2 (sat_r (sat_r (sat_r hw)))⟩, hy1.2.1, hy1.2.2⟩⟩ (by simp only; omega) (by exact ⟨rfl, rfl, rfl, rfl, by simp only [List.length_append, List.length_cons, List.length_nil]; rfl, trivial⟩) (by repeat (first | exact .nil | apply Pick.cons | exact .here | apply Ext.there))
      · refine RO.e rfl rfl rfl (Eff.ofVal (Val.loadA (ansC s) (r := s.cells.drop 12) rfl Try.isAgg34 (by repeat (first | exact .here | refine .there ?_)) (by rfl) Try.sizeOf34)) (fun x => ⟨_, (by repeat (first | exact .nil | apply Pick.cons | exact .here | apply Ext.there))⟩) ?_
        intro _ _
        refine RW.e 1 rfl (by kernel_rfl) rfl rfl (Eff.ofVal (Val.loadA s.call.cells (r := s.cells.drop 6) rfl Try.isAgg28 (by repeat (first | exact .here | refine .there ?_)) (by rfl) Try.sizeOf28)) (fun x => ⟨_, (by repeat (first | exact .nil | apply Pick.cons | exact .here | apply Ext.there))⟩) ?_
        intro _ _
        refine RW.e 2 rfl (by kernel_rfl) rfl rfl (Eff.callM ([]) .nil rfl Try.call61 (fun w hw hs => call_c s.call gl h1 (by have := hSm.1; omega) hSm.2.1 w (hw.slAt h2 (by simp [ids])))) (fun x => ⟨_, (by repeat (first | exact .nil | apply Pick.cons | exact .here | apply Ext.there))⟩) ?_
        intro y1 hy1
        refine RW.v 6 rfl (by kernel_rfl) (by kernel_rfl) (by kernel_rfl) (fun _ _ _ h => h) rfl rfl (Val.fieldAddr 1 rfl Try.underlying36 rfl rfl Try.sizeOf28) ?_
        refine RW.e 5 rfl (by kernel_rfl) rfl rfl (Eff.callM ([]) .nil rfl Try.call62 (fun w hw hs => answer_c s pl hl h3 h5 (by have := hSm.2.2; omega) w (hw.slAt h4 (by simp [ids])) (hw.slAt h6 (by simp [ids])))) (fun x => ⟨_, (by repeat (first | exact .nil | apply Pick.cons | exact .here | apply Ext.there))⟩) ?_
        intro y2 hy2
        refine RW.eN 7 rfl (by kernel_rfl) rfl (Eff.storeA (l := s.cells) (cs := (s.call.re (ownSl y1.2.length y1.1)).cells) (l' := (s.reC (ownSl y1.2.length y1.1)).cells) rfl rfl (by repeat (first | exact .here | apply Upd.there)) (by rfl) (by rw [cl_len, sto_len]; omega) Try.sizeOf28 (cl_one _)) (fun x => ⟨_, (by repeat (first | exact .nil | apply Pick.cons | exact .here | apply Ext.there))⟩) ?_
        intro _ _
        refine RW.v 8 rfl (by kernel_rfl) (by kernel_rfl) (by kernel_rfl) (fun _ _ _ h => h) rfl rfl (Val.fieldAddr 6 rfl Try.underlying36 rfl rfl Try.sizeOf34) ?_
        refine RW.eN 9 rfl (by kernel_rfl) rfl (Eff.storeA (l := (s.reC (ownSl y1.2.length y1.1)).cells) (cs := (ansC ((s.reC (ownSl y1.2.length y1.1)).reA (ownSl pl.length y2.1) (ownSl hl.length y2.2)))) (l' := (((s.reC (ownSl y1.2.length y1.1)).reA (ownSl pl.length y2.1) (ownSl hl.length y2.2))).cells) rfl rfl (by repeat (first | exact .here | apply Upd.there)) (by rfl) (by rw [sto_len]; show 6 + 6 ≤ 14; omega) Try.sizeOf34 (by rfl)) (fun x => ⟨_, (by repeat (first | exact .nil | apply Pick.cons | exact .here | apply Ext.there))⟩) ?_
        intro _ _
        refine RW.done (by kernel_rfl) ?_
        refine PQ.seq ?_
        refine CW.region ?_
        refine LW.v rfl rfl (Val.move rfl) ?_
        refine LW.v rfl rfl (Val.loadW (l := (((s.reC (ownSl y1.2.length y1.1)).reA (ownSl pl.length y2.1) (ownSl hl.length y2.2))).cells) rfl Try.isAgg36 (by repeat (first | exact .here | refine .there ?_)) (by exact Try.sizeOf36)) ?_
        refine LW.e rfl rfl (Eff.buildSlice (rfl) [_, _, _, _, _, _, _, _, _, _, _, _, _, _] Try.underlying22 Try.sizeOf36 (by exact Try.zeroValue36) rfl rfl rfl rfl (by rfl)) ?_
        intro b27 _
        refine LW.e rfl rfl (Eff.appendAny ((((s.reC (ownSl y1.2.length y1.1)).reA (ownSl pl.length y2.1) (ownSl hl.length y2.2))).cells) (sz := 14) (bytes := 192) (z := .agg #[.int .i64 0, .int .i64 0, .string ⟨#[]⟩, .string ⟨#[]⟩, .string ⟨#[]⟩, .slice none 0 0, .int .i64 0, .bool false, .string ⟨#[]⟩, .slice none 0 0, .slice none 0 0, .int .u64 0, .int .i64 0, .int .i64 0]) (xs := k.2.2.1.flatMap Sto.cells) (m0 := k.2.2.1.length) (o := k.2.1) (m := 1) (pk := [ownG 36 (k.2.2.1.flatMap Sto.cells) k.2.1]) rfl rfl Try.underlying22 (by kernel_rfl) rfl (by omega) (by repeat (first | exact .nil | apply Pick.cons | exact .here | apply Ext.there)) (by simp) hk2 (by rfl) (fun hm0 => ⟨b27, 0, rfl, fun w hw => V.range_of_block (o := 0) (cs := (((s.reC (ownSl y1.2.length y1.1)).reA (ownSl pl.length y2.1) (ownSl hl.length y2.2))).cells) (r := []) (hw.own _ (show InS (b27, .cells ((((s.reC (ownSl y1.2.length y1.1)).reA (ownSl pl.length y2.1) (ownSl hl.length y2.2))).cells).toArray 36 (0, 0)) _ from (by repeat (first | exact .here | refine .there ?_))).mem) rfl⟩) (by rfl) (by omega) (by omega)) ?_
        intro o9 ho9
        refine LW.v rfl rfl (Val.assign rfl) ?_
        refine LW.nil ?_
        refine PQ.in_normal ?_
        refine PQ.seq ?_
        refine CW.region ?_
        refine LW.v rfl rfl (Val.ar rfl rfl rfl (IntWalk.i64_in _ (by omega))) ?_
        refine LW.v rfl rfl (Val.move rfl) ?_
        refine LW.nil ?_
        refine PQ.segs (ss := [ownG 36 (k.2.2.1.flatMap Sto.cells ++ (((s.reC (ownSl y1.2.length y1.1)).reA (ownSl pl.length y2.1) (ownSl hl.length y2.2))).cells) o9, k.2.2.2, ownG 28 (y1.2.flatMap Cl.cells) y1.1, ownG 106 (pl.flatMap Pr.cells) y2.1, ownG 4 (hl.flatMap boolC) y2.2]) ?_ (by repeat (first | exact .nil | apply Pick.cons | exact .here | apply Ext.there))
        refine V.PQ.perm (sg' := [ownG 36 ((k.2.2.1 ++ [((s.reC (ownSl y1.2.length y1.1)).reA (ownSl pl.length y2.1) (ownSl hl.length y2.2))]).flatMap Sto.cells) o9, k.2.2.2 ++ (ownG 28 (y1.2.flatMap Cl.cells) y1.1 ++ (ownG 106 (pl.flatMap Pr.cells) y2.1 ++ ownG 4 (hl.flatMap boolC) y2.2))]) ?_ (by rw [flat_snoc]; simp only [List.flatten_cons, List.flatten_nil, List.append_nil, List.append_assoc]; exact .refl _)
        refine PQ.round ((k.1 + 1, o9, k.2.2.1 ++ [((s.reC (ownSl y1.2.length y1.1)).reA (ownSl pl.length y2.1) (ownSl hl.length y2.2))], k.2.2.2 ++ (ownG 28 (y1.2.flatMap Cl.cells) y1.1 ++ (ownG 106 (pl.flatMap Pr.cells) y2.1 ++ ownG 4 (hl.flatMap boolC) y2.2)))) ⟨by simp only; omega, by have := ho9; simp only [flat_snoc, List.length_append]; exact this, ⟨by simp only [List.length_append, List.length_cons, List.length_nil]; omega, by rw [filter_snoc hsx, if_pos h16]; simp only [List.length_append, List.length_cons, List.length_nil]; omega⟩, fun w hw => by
          rw [filter_snoc hsx, if_pos h16]
          exact (hk4 w (sat_l hw)).snoc ⟨rfl, gl, pl, hl, y1.2, hR, hSm, ⟨ownSl_n hy1.1, ownSl_at cl_len hy1.1 (sat_l (sat_r hw)), ownSl_n hy2.1, ownSl_at pr_len hy2.1 (sat_l (sat_r (sat_r hw))), ownSl_n hy2.2, ownSl_at bo_len hy2.2 (sat_r (sat_r (sat_r hw)))⟩, hy1.2.1, hy1.2.2⟩⟩ (by simp only; omega) (by exact ⟨rfl, rfl, rfl, rfl, by simp only [List.length_append, List.length_cons, List.length_nil]; rfl, trivial⟩) (by repeat (first | exact .nil | apply Pick.cons | exact .here | apply Ext.there))
    · replace h16 := bF h16
      refine CW.skip ?_
      refine PQ.in_normal ?_
      refine PQ.seq ?_
      refine CW.region ?_
      refine LW.v rfl rfl (Val.ar rfl rfl rfl (IntWalk.i64_in _ (by omega))) ?_
      refine LW.v rfl rfl (Val.move rfl) ?_
      refine LW.nil ?_
      refine PQ.round ((k.1 + 1, k.2.1, k.2.2.1, k.2.2.2)) ⟨by simp only; omega, hk2, ⟨by simp only; omega, by rw [filter_snoc hsx, if_neg (by simp [h16]), List.append_nil]; exact hk5⟩, fun w hw => by
        rw [filter_snoc hsx, if_neg (by simp [h16]), List.append_nil]
        exact hk4 w hw⟩ (by simp only; omega) (by exact ⟨rfl, rfl, rfl, rfl, rfl, trivial⟩) (by repeat (first | exact .nil | apply Pick.cons | exact .here | apply Ext.there))
  · replace h11 := bF h11
    refine CW.exit ?_
    refine PQ.then_exit ?_
    refine PQ.then_exit ?_
    refine PQ.in_here ?_
    refine PQ.seq ?_
    refine CW.seq ?_
    refine CW.region ?_
    refine LW.v rfl rfl (Val.move rfl) ?_
    refine LW.v rfl rfl (Val.assign rfl) ?_
    refine LW.nil ?_
    refine PQ.seq ?_
    refine CW.ret ?_
    refine PQ.ret1 rfl rfl ?_
    intro w' hw
    have h9 : l.take k.1 = l := List.take_of_length_le (by omega)
    rw [h9] at hk4 hk5
    exact ⟨(k.2.1, k.2.2.1, k.2.2.2), ⟨hk2, ⟨by simp only; omega, hk5⟩, hk4⟩, rfl, hw⟩
def qE (s : Sto) : Bool := decide (0 ≤ s.en)
theorem ended1_c (s : Sto) (w : World) : Calls Try.prog 42 [.agg s.cells.toArray].toArray w fun e w' => e = .returned (.bool (qE s)) ∧ Below w.heap.size w w' := by
  refine V.calls [] Try.func42 rfl Try.ntmps42 (Nat.le_of_ble_eq_true rfl) (V.sat_nil _) ?_
  refine CW.seq ?_
  refine CW.region ?_
  refine LW.e rfl rfl (Eff.boxA rfl) ?_
  intro b1 _
  refine LW.v rfl rfl (Val.assign rfl) ?_
  refine LW.nil ?_
  refine PQ.seq ?_
  refine CW.seq ?_
  refine CW.region ?_
  refine LW.v rfl rfl (Val.fieldAddr 13 rfl Try.underlying36 rfl rfl Try.sizeOf3) ?_
  refine LW.v rfl rfl (Val.load rfl Try.isAgg3 (by repeat (first | exact .here | refine .there ?_)) (by rfl)) ?_
  refine LW.v rfl rfl (Val.cmp rfl rfl rfl) ?_
  refine LW.v rfl rfl (Val.assign rfl) ?_
  refine LW.nil ?_
  refine PQ.seq ?_
  refine CW.ret ?_
  refine PQ.ret1 rfl rfl ?_
  intro w hw; exact ⟨by unfold qE; rfl, hw.below⟩
theorem ended_c (R : Rdg) (p : Option Addr) (n cap : Nat) (l : List Sto) (W : World) (hn : l.length = n) (h : V.slAt W p 14 Sto.cells l) (hm : n ≤ 60) (hS : ∀ i, i < n → ∀ s, l[i]? = some s → SmR R W s) : Calls Try.prog 11 [.slice p n cap].toArray W fun e w' => ∃ y : V.OwnO × List Sto × V.Seg, (ownOk 14 y.2.1.length (y.2.1.flatMap Sto.cells) y.1 ∧ y.2.1.length ≤ 60 ∧ ∃ L1 : List Sto, (L1.length = y.2.1.length ∧ L1.length = (l.filter qE).length) ∧ (∀ w, Sat [y.2.2] w → AllCp R w (l.filter qE) L1) ∧ Sta Sto.en L1 y.2.1 ∧ Up Sto.en y.2.1) ∧ e = .returned (ownV y.2.1.length y.1) ∧ Hp ⟨W, []⟩ [ownG 36 (y.2.1.flatMap Sto.cells) y.1, y.2.2] w' := by
  refine V.calls [] Try.func11 rfl Try.ntmps11 (Nat.le_of_ble_eq_true rfl) (V.sat_nil _) ?_
  refine CW.seq ?_
  refine CW.region ?_
  refine LW.v rfl rfl (Val.assign rfl) ?_
  refine LW.nil ?_
  refine PQ.seq ?_
  refine CW.seq ?_
  refine CW.region ?_
  refine LW.v rfl rfl (Val.move rfl) ?_
  refine LW.e rfl rfl (Eff.callM ([]) .nil rfl Try.call41 (fun w hw hs => some_c 42 qE Try.call42 (fun s w => ended1_c s w) R p n cap l w hn (hw.slAt h (by simp [ids])) hm (fun i hi s hs => (hS i hi s hs).hp hw))) ?_
  rintro ⟨o1, L1, G1⟩ ⟨ho1, hl1, hc1⟩
  simp only at ho1 hl1 hc1
  refine LW.v rfl rfl (Val.assign rfl) ?_
  refine LW.nil ?_
  refine PQ.seq ?_
  refine CW.seq ?_
  refine CW.region ?_
  refine LW.v rfl rfl (Val.move rfl) ?_
  refine LW.e rfl rfl (Eff.callM ([ownG 36 (L1.flatMap Sto.cells) o1]) (by repeat (first | exact .nil | apply Pick.cons | exact .here | apply Ext.there)) rfl Try.call43 (fun w hw hs => sortStable_c o1 L1 ho1 (by omega) w hs)) ?_
  intro L2 hL2
  refine LW.nil ?_
  refine PQ.seq ?_
  refine CW.seq ?_
  refine CW.region ?_
  refine LW.v rfl rfl (Val.move rfl) ?_
  refine LW.v rfl rfl (Val.assign rfl) ?_
  refine LW.nil ?_
  refine PQ.seq ?_
  refine CW.ret ?_
  refine PQ.ret1 rfl rfl ?_
  intro w' hw
  refine ⟨(o1, L2, G1), ⟨own_len ho1 hL2.1.1, by rw [show L2.length = L1.length from hL2.1.1]; exact hl1.1, L1, ⟨hL2.1.1.symm, hl1.2⟩, hc1, hL2.1, hL2.2⟩, by simp only; rw [show L2.length = L1.length from hL2.1.1], hw.pick (by repeat (first | exact .nil | apply Pick.cons | exact .here | apply Ext.there))⟩
end Go.Proofs.Ytaihimbjdgmjgaa
