/- The line of an event, of the program and of the document. -/
import Derived.Test.YtagliemeolngiaaDoorScH
import Derived.Lib.Hide
namespace Go.Proofs.YtagliemeolngiaaDoor
open Go Go.RowKit V
set_option linter.unusedVariables false
set_option maxRecDepth 100000
open V (str byC ownV ownG ownS ownOk)
/-- An event as it lies in memory. -/
structure Evq where
  kind : Int
  th : Int
  ln : Int
  call : Cq
  keep : Sl
def Evq.cells (e : Evq) : List Value := [.int .i64 e.kind, .int .i64 e.th, .int .i64 e.ln, .int .i64 e.call.ck, str e.call.key, str e.call.val, str e.call.to, .slice e.call.grp.a e.call.grp.n e.call.grp.c, .slice e.keep.a e.keep.n e.keep.c]
theorem ev_len (e : Evq) : e.cells.length = 9 := rfl
theorem ev_one (e : Evq) : e.cells.all (·.oneCell') = true := rfl
def intC (x : Int) : List Value := [Value.int .i64 x]
/-- Words with a blank ahead of each. -/
def jt (r : List (List UInt8)) : List UInt8 := r.flatMap fun x => 32 :: x
def jn (ws : List (List UInt8)) : List UInt8 := Go.Lib.join ws [32]
theorem jt_append (a b : List (List UInt8)) : jt (a ++ b) = jt a ++ jt b := by simp [jt]
theorem jn_one (a : List UInt8) : jn [a] = a := by simp [jn, Go.Lib.join, List.intercalate]
theorem jn_two (a b : List UInt8) (r : List (List UInt8)) : jn (a :: b :: r) = a ++ 32 :: jn (b :: r) := by simp [jn, Go.Lib.join, List.intercalate, List.intersperse]
theorem jn_cons : ∀ (r : List (List UInt8)) (a : List UInt8), jn (a :: r) = a ++ jt r
  | [], a => by rw [jn_one]; simp [jt]
  | b :: r, a => by rw [jn_two, jn_cons r b]; simp [jt]
theorem jt_ne {ws : List (List UInt8)} (h : ws ≠ []) : jt ws = 32 :: jn ws := by
  cases ws with
  | nil => exact absurd rfl h
  | cons a r => rw [jn_cons]; simp [jt]
theorem single_ne {c : Cq} {ws : List (List UInt8)} (h : singleF c = some ws) : ws ≠ [] := by
  unfold singleF at h
  split at h
  · cases h
  · simp only [Option.map_eq_some_iff] at h
    obtain ⟨nm, _, rfl⟩ := h
    simp
theorem decN_lt {n : Nat} (h : n < 10) : decN n = [UInt8.ofNat (48 + n)] := by unfold decN; rw [Go.Lib.decDigits, dif_pos h]
theorem decN_ge {n : Nat} (h : ¬ n < 10) : decN n = decN (n / 10) ++ decN (n % 10) := by
  rw [decN_lt (n := n % 10) (by omega)]
  unfold decN; rw [Go.Lib.decDigits, dif_neg h]
theorem decN_len : ∀ (k n : Nat), n < 10 ^ (k + 1) → (decN n).length ≤ k + 1
  | 0, n, h => by rw [decN_lt (by omega)]; simp
  | k + 1, n, h => by
    by_cases hn : n < 10
    · rw [decN_lt hn]; simp
    · rw [decN_ge hn, List.length_append, decN_lt (n := n % 10) (by omega)]
      have := decN_len k (n / 10) (by rw [Nat.pow_succ] at h; omega)
      simp only [List.length_cons, List.length_nil]; omega
theorem decN_9 {x : Int} (h : x ≤ 999999999) : (decN x.toNat).length ≤ 9 := decN_len 8 x.toNat (by omega)
theorem fitsB_mem {l : List Int} (h : fitsB l = true) {x : Int} (hx : x ∈ l) : 0 ≤ x ∧ x ≤ 999999999 := by
  have := List.all_eq_true.1 h x hx
  simp at this; omega
theorem numL_jt {l : List Int} (h : fitsB l = true) : (jt (numL l)).length ≤ 10 * l.length := by
  induction l with
  | nil => simp [jt, numL]
  | cons x r ih =>
    have hx := fitsB_mem h (x := x) (by simp)
    have h1 := decN_9 hx.2
    have hr : fitsB r = true := List.all_eq_true.2 fun y hy => List.all_eq_true.1 h y (by simp [hy])
    have := ih hr
    simp only [numL, jt, List.map_cons, List.flatMap_cons, List.length_append, List.length_cons] at this ⊢
    omega
theorem jt_sw {x : Cq} (h : x.small) : (jt (sw x)).length ≤ 2000000 := by
  unfold sw singleF
  split
  · simp [jt]
  · cases hn : nameF x.ck with
    | none => simp [jt]
    | some nm =>
      have h1 := name_len hn
      have h2 := offs_len x.ck
      simp only [Option.map_some, Option.getD_some, jt, List.flatMap_cons, List.length_append, List.length_cons]
      have h3 : ∀ l : List Nat, l.length ≤ 2 → ((l.map fun o => wordF (x.fld o)).flatMap fun x => 32 :: x).length ≤ l.length * 900002 := by
        intro l _
        induction l with
        | nil => simp
        | cons o r ih =>
          have h4 := word_len (x.fld o)
          have h5 := h.fld o
          have := ih (by simp at *; omega)
          simp only [List.map_cons, List.flatMap_cons, List.length_append, List.length_cons]; omega
      have := h3 _ h2
      omega
theorem jt_gw {l : List Cq} (h : ∀ x ∈ l, x.small) : ∀ {i : Nat}, i ≤ l.length → (jt (gw (l.take i))).length ≤ 2000002 * i
  | 0, _ => by simp [gw, gwords, jt]
  | i + 1, hi => by
    have ih := jt_gw h (i := i) (by omega)
    have hx : l[i]? = some l[i] := List.getElem?_eq_getElem (by omega)
    have h1 := jt_sw (h l[i] (List.getElem_mem _))
    rw [gw_snoc hx, jt_append, List.length_append]
    split
    · omega
    · have : (jt ([59] :: sw l[i])).length = 2 + (jt (sw l[i])).length := by simp [jt]; omega
      omega
def lineP (e : Evq) (gl : List Cq) (kl : List Int) : Option (List UInt8 × List Int × List (List UInt8)) :=
  if e.kind = 1 then (callF e.call gl).map fun ws => ([99, 97, 108, 108], [e.th], ws) else if e.kind = 2 then some ([115, 116, 101, 112], [e.th], []) else if e.kind = 3 then some ([107, 101, 101, 112], [], []) else if e.kind = 4 then some ([98, 97, 99, 107], [e.ln], []) else if e.kind = 5 then some ([99, 117, 116], kl, []) else if e.kind = 6 then some ([114, 101, 118, 105, 118, 101], [], []) else none
def lineR : Option (List UInt8 × List Int × List (List UInt8)) → List UInt8 × Int
  | none => ([], 1)
  | some (nm, l, mo) => if fitsB l = true then (jn (nm :: (numL l ++ mo)), 0) else ([], 2)
def lineF (e : Evq) (gl : List Cq) (kl : List Int) : List UInt8 × Int := lineR (lineP e gl kl)
theorem jn_num {l : List Int} {mo : List (List UInt8)} (nm : List UInt8) (h : fitsB l = true) : (jn (nm :: (numL l ++ mo))).length ≤ nm.length + 10 * l.length + (jt mo).length := by
  rw [jn_cons, jt_append, List.length_append, List.length_append]
  have := numL_jt h; omega
/-- What is known of an event. -/
structure EvOk (w : World) (e : Evq) (gl : List Cq) (kl : List Int) : Prop where
  gn : e.call.grp.n = gl.length
  gs : V.slAt w e.call.grp.a 5 Cq.cells gl
  kn : kl.length = e.keep.n
  ks : V.slAt w e.keep.a 1 intC kl
  gl1 : gl.length ≤ 70001
  kl1 : e.keep.n ≤ 100000
  sm : e.call.small
  sg : ∀ x ∈ gl, x.small
theorem EvOk.hp {w0 w : World} {sg : Sg} {e : Evq} {gl : List Cq} {kl : List Int} (h : EvOk w0 e gl kl) (hw : Hp ⟨w0, []⟩ sg w) : EvOk w e gl kl := ⟨h.gn, hw.slAt h.gs (by simp), h.kn, hw.slAt h.ks (by simp), h.gl1, h.kl1, h.sm, h.sg⟩
theorem line_c (e : Evq) (gl : List Cq) (kl : List Int) (w : World) (h : EvOk w e gl kl) (hI : ItoaAll w) (hj : ∀ nm l mo, lineP e gl kl = some (nm, l, mo) → fitsB l = true → (jn (nm :: (numL l ++ mo))).length ≤ 140737488355328) : Calls Tryd.prog 22 [.agg e.cells.toArray].toArray w fun e' w' => e' = .returned (.tuple #[str (lineF e gl kl).1, .int .i64 (lineF e gl kl).2]) ∧ Below w.heap.size w w' := by
  refine V.calls [] Tryd.func22 rfl Tryd.ntmps22 (Nat.le_of_ble_eq_true rfl) (V.sat_nil _) ?_
  refine CW.seq ?_
  refine CW.region ?_
  refine LW.e rfl rfl (Eff.boxA rfl) ?_
  intro b1 _
  refine LW.v rfl rfl (Val.assign rfl) ?_
  refine LW.v rfl rfl (Val.assign rfl) ?_
  refine LW.nil ?_
  refine PQ.seq ?_
  refine CW.seq ?_
  refine CW.region ?_
  refine LW.v rfl rfl (Val.assign rfl) ?_
  refine LW.nil ?_
  refine PQ.seq ?_
  refine CW.seq ?_
  refine CW.region ?_
  refine LW.v rfl rfl (Val.assign rfl) ?_
  refine LW.nil ?_
  refine PQ.seq ?_
  refine CW.seq ?_
  refine CW.region ?_
  refine LW.v rfl rfl (Val.assign rfl) ?_
  refine LW.nil ?_
  refine PQ.seq ?_
  refine CW.seq ?_
  refine CW.seq ?_
  refine CW.region ?_
  refine LW.v rfl rfl (Val.fieldAddr 0 rfl Tryd.underlying44 rfl rfl Tryd.sizeOf3) ?_
  refine LW.v rfl rfl (Val.load rfl Tryd.isAgg3 (by repeat (first | exact .here | refine .there ?_)) (by rfl)) ?_
  refine LW.nil ?_
  refine PQ.seq ?_
  refine CW.block ?_
  refine CW.seq ?_
  refine CW.region ?_
  refine LW.v rfl rfl (Val.cmp rfl rfl rfl) ?_
  refine LW.v rfl rfl (Val.assign rfl) ?_
  refine LW.nil ?_
  refine PQ.seq ?_
  refine CW.cond rfl (fun h13 => ?_) (fun h13 => ?_)
  · replace h13 := bT h13
    refine CW.seq ?_
    refine CW.region ?_
    refine LW.v rfl rfl (Val.fieldAddr 3 rfl Tryd.underlying44 rfl rfl Tryd.sizeOf41) ?_
    refine LW.v rfl rfl (Val.loadA e.call.cells (r := [.slice e.keep.a e.keep.n e.keep.c]) rfl Tryd.isAgg41 (by repeat (first | exact .here | refine .there ?_)) (by rfl) Tryd.sizeOf41) ?_
    refine LW.e rfl rfl (Eff.callM ([]) .nil rfl Tryd.call40 (fun w hw hs0 => words_c e.call gl h.sm h.sg h.gl1 w h.gn (hw.slAt h.gs (by simp [ids])))) ?_
    intro y hy
    refine LW.v rfl rfl (Val.move rfl) ?_
    refine LW.v rfl rfl (Val.extract rfl rfl) ?_
    refine LW.v rfl rfl (Val.extract rfl rfl) ?_
    refine LW.v rfl rfl (Val.assign rfl) ?_
    refine LW.v rfl rfl (Val.assign rfl) ?_
    refine LW.nil ?_
    refine PQ.seq ?_
    refine CW.seq ?_
    refine CW.seq ?_
    refine CW.region ?_
    refine LW.v rfl rfl (Val.move rfl) ?_
    refine LW.v rfl rfl (Val.not rfl) ?_
    refine LW.nil ?_
    refine PQ.seq ?_
    refine CW.cond rfl (fun h22 => ?_) (fun h22 => ?_)
    · replace h22 := bT h22
      have h22n : callF e.call gl = none := by rw [← Option.isNone_iff_eq_none, ← Option.isSome_eq_false_iff]; simpa using h22
      refine CW.seq ?_
      refine CW.region ?_
      refine LW.v rfl rfl (Val.assign rfl) ?_
      refine LW.v rfl rfl (Val.assign rfl) ?_
      refine LW.nil ?_
      refine PQ.seq ?_
      refine CW.ret ?_
      refine PQ.then_ret ?_
      refine PQ.in_ret ?_
      refine PQ.then_ret ?_
      refine PQ.ret2 rfl rfl rfl ?_
      intro w' hw
      have hP : lineP e gl kl = none := by
        unfold lineP
        rw [if_pos (by omega), h22n]; rfl
      exact ⟨by unfold lineF; rw [hP]; rfl, hw.below⟩
    · replace h22 := bF h22
      obtain ⟨ws, hws⟩ : ∃ ws, callF e.call gl = some ws := Option.isSome_iff_exists.1 (by simpa using h22)
      have hyw := hy.2 ws hws
      have hyl : y.2.length ≤ 300000 := by
        rw [hyw]
        have h8 := h.gl1
        unfold callF at hws
        split at hws
        · split at hws
          · cases hws
            have h9 := gw_len (l := gl) (Nat.le_refl gl.length)
            rw [List.take_length] at h9
            simp only [List.length_cons]; omega
          · cases hws
        · have := singleF_len hws; omega
      refine CW.skip ?_
      refine PQ.seq ?_
      refine CW.drawn ([[(b1, .cells e.cells.toArray 44 (0, 0))]]) mixed (by repeat (first | exact .nil | apply Pick.cons | exact .here | apply Ext.there)) ?_
      refine RW.v 0 rfl (by kernel_rfl) (by kernel_rfl) (by kernel_rfl) (fun _ _ _ h => h) rfl rfl (Val.fieldAddr 1 rfl Tryd.underlying44 rfl rfl Tryd.sizeOf3) ?_
      refine RW.v 1 rfl (by kernel_rfl) (by kernel_rfl) (by kernel_rfl) (fun _ _ _ h => h) rfl rfl (Val.load rfl Tryd.isAgg3 (by repeat (first | exact .here | refine .there ?_)) (by rfl)) ?_
      refine RW.v 3 rfl (by kernel_rfl) (by kernel_rfl) (by kernel_rfl) (fun _ _ _ h => h) rfl rfl (Val.move rfl) ?_
      refine RW.v 4 rfl (by kernel_rfl) (by kernel_rfl) (by kernel_rfl) (fun _ _ _ h => h) rfl rfl (Val.assign rfl) ?_
      refine RW.e 2 rfl (by kernel_rfl) rfl rfl (Eff.buildSlice (rfl) [_] Tryd.underlying42 Tryd.sizeOf3 (by exact Tryd.zeroValue3) rfl rfl rfl rfl (by rfl)) (fun x => ⟨_, (by repeat (first | exact .nil | apply Pick.cons | exact .here | apply Ext.there))⟩) ?_
      intro b25 _
      refine RW.v 5 rfl (by kernel_rfl) (by kernel_rfl) (by kernel_rfl) (fun _ _ _ h => h) rfl rfl (Val.assign rfl) ?_
      refine RW.v 6 rfl (by kernel_rfl) (by kernel_rfl) (by kernel_rfl) (fun _ _ _ h => h) rfl rfl (Val.assign rfl) ?_
      refine RW.done (by kernel_rfl) ?_
      refine PQ.in_normal ?_
      refine PQ.seq ?_
      refine CW.seq ?_
      refine CW.region ?_
      refine LW.v rfl rfl (Val.move rfl) ?_
      refine LW.e rfl rfl (Eff.callM ([]) .nil rfl Tryd.call41 (fun w hw hs0 => numbersA_c (some ⟨b25, 0, none⟩) 1 1 [e.th] rfl (by omega) w (V.slAt_flat (enc := fun x => [Value.int .i64 x]) (cs := [.int .i64 e.th]) (r := []) hw (fun _ => rfl) rfl (by repeat (first | exact .here | refine .there ?_))) (hI.mono hw.below))) ?_
      rintro ⟨o9, n9⟩ ⟨ho9, hn9, hl9⟩
      simp only at ho9 hn9 hl9
      have hkl1 := h.kl1
      have hkn := h.kn
      try simp only [List.length_cons, List.length_nil] at hl9
      refine LW.v rfl rfl (Val.move rfl) ?_
      refine LW.v rfl rfl (Val.extract rfl rfl) ?_
      refine LW.v rfl rfl (Val.extract rfl rfl) ?_
      refine LW.v rfl rfl (Val.assign rfl) ?_
      refine LW.v rfl rfl (Val.assign rfl) ?_
      refine LW.nil ?_
      refine PQ.seq ?_
      refine CW.seq ?_
      refine CW.seq ?_
      refine CW.region ?_
      refine LW.v rfl rfl (Val.move rfl) ?_
      refine LW.v rfl rfl (Val.not rfl) ?_
      refine LW.nil ?_
      refine PQ.seq ?_
      refine CW.cond rfl (fun h51 => ?_) (fun h51 => ?_)
      · replace h51 := bT h51
        refine CW.seq ?_
        refine CW.region ?_
        refine LW.v rfl rfl (Val.assign rfl) ?_
        refine LW.v rfl rfl (Val.assign rfl) ?_
        refine LW.nil ?_
        refine PQ.seq ?_
        refine CW.ret ?_
        refine PQ.then_ret ?_
        refine PQ.ret2 rfl rfl rfl ?_
        intro w' hw
        have hP : lineP e gl kl = some ([99, 97, 108, 108], [e.th], ws) := by
          unfold lineP
          rw [if_pos (by omega)]
          rw [hws]; rfl
        have hno : ¬ fitsB [e.th] = true := by simpa using h51
        exact ⟨by unfold lineF; rw [hP]; simp only [lineR]; rw [if_neg hno]; rfl, hw.below⟩
      · replace h51 := bF h51
        have hfit : fitsB [e.th] = true := by simpa using h51
        refine CW.skip ?_
        refine PQ.seq ?_
        refine CW.seq ?_
        refine CW.region ?_
        refine LW.v rfl rfl (Val.move rfl) ?_
        refine LW.e rfl rfl (Eff.buildSlice (rfl) [_] Tryd.underlying73 Tryd.sizeOf9 (by exact Tryd.zeroValue9) rfl rfl rfl rfl (by rfl)) ?_
        intro b53 _
        refine LW.v rfl rfl (Val.move rfl) ?_
        refine LW.e rfl rfl (Eff.appendOwn (sz := 1) (bytes := 16) (z := .string ⟨#[]⟩) (xs := stC [[99, 97, 108, 108]]) (ys := stC n9) (m0 := 1) (m := n9.length) (o := some (b53, [], 1)) (oy := o9) (pk := [[(b53, .cells [str [99, 97, 108, 108]].toArray 9 (0, 0))]]) (pk2 := [ownG 9 (stC n9) o9]) rfl rfl Tryd.underlying73 (by kernel_rfl) rfl (by omega) (by repeat (first | exact .nil | apply Pick.cons | exact .here | apply Ext.there)) (by first | rfl | simp [V.ownG_some, stC]) ⟨rfl, rfl⟩ (by repeat (first | exact .nil | apply Pick.cons | exact .here | apply Ext.there)) (by simp) ho9 (stC_one _) (by omega) (by omega)) ?_
        intro o2 ho2
        refine LW.v rfl rfl (Val.move rfl) ?_
        refine LW.e rfl rfl (Eff.appendOwn (sz := 1) (bytes := 16) (z := .string ⟨#[]⟩) (xs := stC [[99, 97, 108, 108]] ++ stC n9) (ys := stC y.2) (m0 := 1 + n9.length) (m := y.2.length) (o := o2) (oy := y.1) (pk := [ownG 9 (stC [[99, 97, 108, 108]] ++ stC n9) o2]) (pk2 := [ownG 9 (stC y.2) y.1]) rfl rfl Tryd.underlying73 (by kernel_rfl) rfl (by omega) (by repeat (first | exact .nil | apply Pick.cons | exact .here | apply Ext.there)) (by simp) ho2 (by repeat (first | exact .nil | apply Pick.cons | exact .here | apply Ext.there)) (by first | rfl | simp [V.ownG, V.ownS, stC]) hy.1 (stC_one _) (by omega) (by omega)) ?_
        intro o3 ho3
        obtain ⟨ws3, hws3⟩ : ∃ ws3, ws3 = [99, 97, 108, 108] :: (numL [e.th] ++ y.2) := ⟨_, rfl⟩
        have e3 : stC [[99, 97, 108, 108]] ++ stC n9 ++ stC y.2 = stC ws3 := by rw [hws3, hn9 hfit]; simp [stC]
        have l3 : 1 + n9.length + y.2.length = ws3.length := by rw [hws3, hn9 hfit]; simp; try omega
        rw [e3, l3] at ho3
        rw [e3, l3]
        have hP : lineP e gl kl = some ([99, 97, 108, 108], [e.th], ws) := by
          unfold lineP
          rw [if_pos (by omega)]
          rw [hws]; rfl
        have hjn := hj _ _ _ hP hfit
        have hjn2 : (Go.Lib.join ws3 [32]).length ≤ 140737488355328 := by
          rw [hws3, hyw]; exact hjn
        have hwl : ws3.length ≤ 140737488355328 := by rw [← l3]; omega
        refine LW.e rfl rfl (Eff.callV rfl Tryd.call42 (fun w hw => join_c ws3 o3 [32] ho3 hwl hjn2 w (sat_ownG (hw.sat.pick (ss := [ownG 9 (stC ws3) o3]) (by repeat (first | exact .nil | apply Pick.cons | exact .here | apply Ext.there)))))) ?_
        intro _ _
        refine LW.v rfl rfl (Val.assign rfl) ?_
        refine LW.v rfl rfl (Val.assign rfl) ?_
        refine LW.nil ?_
        refine PQ.seq ?_
        refine CW.ret ?_
        refine PQ.ret2 rfl rfl rfl ?_
        intro w' hw
        exact ⟨by unfold lineF; rw [hP]; simp only [lineR]; rw [if_pos hfit, hws3, hyw]; rfl, hw.below⟩
  · replace h13 := bF h13
    refine CW.seq ?_
    refine CW.region ?_
    refine LW.v rfl rfl (Val.cmp rfl rfl rfl) ?_
    refine LW.v rfl rfl (Val.assign rfl) ?_
    refine LW.nil ?_
    refine PQ.seq ?_
    refine CW.cond rfl (fun h27 => ?_) (fun h27 => ?_)
    · replace h27 := bT h27
      refine CW.drawn ([[(b1, .cells e.cells.toArray 44 (0, 0))]]) mixed (by repeat (first | exact .nil | apply Pick.cons | exact .here | apply Ext.there)) ?_
      refine RW.v 0 rfl (by kernel_rfl) (by kernel_rfl) (by kernel_rfl) (fun _ _ _ h => h) rfl rfl (Val.fieldAddr 1 rfl Tryd.underlying44 rfl rfl Tryd.sizeOf3) ?_
      refine RW.v 1 rfl (by kernel_rfl) (by kernel_rfl) (by kernel_rfl) (fun _ _ _ h => h) rfl rfl (Val.load rfl Tryd.isAgg3 (by repeat (first | exact .here | refine .there ?_)) (by rfl)) ?_
      refine RW.v 3 rfl (by kernel_rfl) (by kernel_rfl) (by kernel_rfl) (fun _ _ _ h => h) rfl rfl (Val.assign rfl) ?_
      refine RW.e 2 rfl (by kernel_rfl) rfl rfl (Eff.buildSlice (rfl) [_] Tryd.underlying42 Tryd.sizeOf3 (by exact Tryd.zeroValue3) rfl rfl rfl rfl (by rfl)) (fun x => ⟨_, (by repeat (first | exact .nil | apply Pick.cons | exact .here | apply Ext.there))⟩) ?_
      intro b31 _
      refine RW.v 4 rfl (by kernel_rfl) (by kernel_rfl) (by kernel_rfl) (fun _ _ _ h => h) rfl rfl (Val.assign rfl) ?_
      refine RW.done (by kernel_rfl) ?_
      refine PQ.in_normal ?_
      refine PQ.seq ?_
      refine CW.seq ?_
      refine CW.region ?_
      refine LW.v rfl rfl (Val.move rfl) ?_
      refine LW.e rfl rfl (Eff.callM ([]) .nil rfl Tryd.call41 (fun w hw hs0 => numbersA_c (some ⟨b31, 0, none⟩) 1 1 [e.th] rfl (by omega) w (V.slAt_flat (enc := fun x => [Value.int .i64 x]) (cs := [.int .i64 e.th]) (r := []) hw (fun _ => rfl) rfl (by repeat (first | exact .here | refine .there ?_))) (hI.mono hw.below))) ?_
      rintro ⟨o9, n9⟩ ⟨ho9, hn9, hl9⟩
      simp only at ho9 hn9 hl9
      have hkl1 := h.kl1
      have hkn := h.kn
      try simp only [List.length_cons, List.length_nil] at hl9
      refine LW.v rfl rfl (Val.move rfl) ?_
      refine LW.v rfl rfl (Val.extract rfl rfl) ?_
      refine LW.v rfl rfl (Val.extract rfl rfl) ?_
      refine LW.v rfl rfl (Val.assign rfl) ?_
      refine LW.v rfl rfl (Val.assign rfl) ?_
      refine LW.nil ?_
      refine PQ.seq ?_
      refine CW.seq ?_
      refine CW.seq ?_
      refine CW.region ?_
      refine LW.v rfl rfl (Val.move rfl) ?_
      refine LW.v rfl rfl (Val.not rfl) ?_
      refine LW.nil ?_
      refine PQ.seq ?_
      refine CW.cond rfl (fun h51 => ?_) (fun h51 => ?_)
      · replace h51 := bT h51
        refine CW.seq ?_
        refine CW.region ?_
        refine LW.v rfl rfl (Val.assign rfl) ?_
        refine LW.v rfl rfl (Val.assign rfl) ?_
        refine LW.nil ?_
        refine PQ.seq ?_
        refine CW.ret ?_
        refine PQ.then_ret ?_
        refine PQ.ret2 rfl rfl rfl ?_
        intro w' hw
        have hP : lineP e gl kl = some ([115, 116, 101, 112], [e.th], []) := by
          unfold lineP
          rw [if_neg (by omega), if_pos (by omega)]
        have hno : ¬ fitsB [e.th] = true := by simpa using h51
        exact ⟨by unfold lineF; rw [hP]; simp only [lineR]; rw [if_neg hno]; rfl, hw.below⟩
      · replace h51 := bF h51
        have hfit : fitsB [e.th] = true := by simpa using h51
        refine CW.skip ?_
        refine PQ.seq ?_
        refine CW.seq ?_
        refine CW.region ?_
        refine LW.v rfl rfl (Val.move rfl) ?_
        refine LW.e rfl rfl (Eff.buildSlice (rfl) [_] Tryd.underlying73 Tryd.sizeOf9 (by exact Tryd.zeroValue9) rfl rfl rfl rfl (by rfl)) ?_
        intro b53 _
        refine LW.v rfl rfl (Val.move rfl) ?_
        refine LW.e rfl rfl (Eff.appendOwn (sz := 1) (bytes := 16) (z := .string ⟨#[]⟩) (xs := stC [[115, 116, 101, 112]]) (ys := stC n9) (m0 := 1) (m := n9.length) (o := some (b53, [], 1)) (oy := o9) (pk := [[(b53, .cells [str [115, 116, 101, 112]].toArray 9 (0, 0))]]) (pk2 := [ownG 9 (stC n9) o9]) rfl rfl Tryd.underlying73 (by kernel_rfl) rfl (by omega) (by repeat (first | exact .nil | apply Pick.cons | exact .here | apply Ext.there)) (by first | rfl | simp [V.ownG_some, stC]) ⟨rfl, rfl⟩ (by repeat (first | exact .nil | apply Pick.cons | exact .here | apply Ext.there)) (by simp) ho9 (stC_one _) (by omega) (by omega)) ?_
        intro o2 ho2
        refine LW.v rfl rfl (Val.move rfl) ?_
        refine LW.e rfl rfl (Eff.appendOwn (sz := 1) (bytes := 16) (z := .string ⟨#[]⟩) (xs := stC [[115, 116, 101, 112]] ++ stC n9) (ys := stC ([] : List (List UInt8))) (m0 := 1 + n9.length) (m := 0) (o := o2) (oy := none) (pk := [ownG 9 (stC [[115, 116, 101, 112]] ++ stC n9) o2]) (pk2 := []) rfl rfl Tryd.underlying73 (by kernel_rfl) rfl (by omega) (by repeat (first | exact .nil | apply Pick.cons | exact .here | apply Ext.there)) (by simp) ho2 .nil (by first | rfl | simp [V.ownG, V.ownS, stC]) ⟨rfl, rfl⟩ (stC_one _) (by omega) (by omega)) ?_
        intro o3 ho3
        obtain ⟨ws3, hws3⟩ : ∃ ws3, ws3 = [115, 116, 101, 112] :: (numL [e.th] ++ ([] : List (List UInt8))) := ⟨_, rfl⟩
        have e3 : stC [[115, 116, 101, 112]] ++ stC n9 ++ stC ([] : List (List UInt8)) = stC ws3 := by rw [hws3, hn9 hfit]; simp [stC]
        have l3 : 1 + n9.length + 0 = ws3.length := by rw [hws3, hn9 hfit]; simp; try omega
        rw [e3, l3] at ho3
        rw [e3, l3]
        have hP : lineP e gl kl = some ([115, 116, 101, 112], [e.th], []) := by
          unfold lineP
          rw [if_neg (by omega), if_pos (by omega)]
        have hjn := hj _ _ _ hP hfit
        have hjn2 : (Go.Lib.join ws3 [32]).length ≤ 140737488355328 := by
          rw [hws3]; exact hjn
        have hwl : ws3.length ≤ 140737488355328 := by rw [← l3]; omega
        refine LW.e rfl rfl (Eff.callV rfl Tryd.call42 (fun w hw => join_c ws3 o3 [32] ho3 hwl hjn2 w (sat_ownG (hw.sat.pick (ss := [ownG 9 (stC ws3) o3]) (by repeat (first | exact .nil | apply Pick.cons | exact .here | apply Ext.there)))))) ?_
        intro _ _
        refine LW.v rfl rfl (Val.assign rfl) ?_
        refine LW.v rfl rfl (Val.assign rfl) ?_
        refine LW.nil ?_
        refine PQ.seq ?_
        refine CW.ret ?_
        refine PQ.ret2 rfl rfl rfl ?_
        intro w' hw
        exact ⟨by unfold lineF; rw [hP]; simp only [lineR]; rw [if_pos hfit, hws3]; rfl, hw.below⟩
    · replace h27 := bF h27
      refine CW.seq ?_
      refine CW.region ?_
      refine LW.v rfl rfl (Val.cmp rfl rfl rfl) ?_
      refine LW.v rfl rfl (Val.assign rfl) ?_
      refine LW.nil ?_
      refine PQ.seq ?_
      refine CW.cond rfl (fun h32 => ?_) (fun h32 => ?_)
      · replace h32 := bT h32
        refine CW.region ?_
        refine LW.v rfl rfl (Val.assign rfl) ?_
        refine LW.nil ?_
        refine PQ.in_normal ?_
        refine PQ.seq ?_
        refine CW.seq ?_
        refine CW.region ?_
        refine LW.v rfl rfl (Val.move rfl) ?_
        refine LW.e rfl rfl (Eff.callM ([]) .nil rfl Tryd.call41 (fun w hw hs0 => numbersA_c none 0 0 [] rfl (by omega) w (.inl rfl) (hI.mono hw.below))) ?_
        rintro ⟨o9, n9⟩ ⟨ho9, hn9, hl9⟩
        simp only at ho9 hn9 hl9
        have hkl1 := h.kl1
        have hkn := h.kn
        try simp only [List.length_cons, List.length_nil] at hl9
        refine LW.v rfl rfl (Val.move rfl) ?_
        refine LW.v rfl rfl (Val.extract rfl rfl) ?_
        refine LW.v rfl rfl (Val.extract rfl rfl) ?_
        refine LW.v rfl rfl (Val.assign rfl) ?_
        refine LW.v rfl rfl (Val.assign rfl) ?_
        refine LW.nil ?_
        refine PQ.seq ?_
        refine CW.seq ?_
        refine CW.seq ?_
        refine CW.region ?_
        refine LW.v rfl rfl (Val.move rfl) ?_
        refine LW.v rfl rfl (Val.not rfl) ?_
        refine LW.nil ?_
        refine PQ.seq ?_
        refine CW.cond rfl (fun h51 => ?_) (fun h51 => ?_)
        · replace h51 := bT h51
          refine CW.seq ?_
          refine CW.region ?_
          refine LW.v rfl rfl (Val.assign rfl) ?_
          refine LW.v rfl rfl (Val.assign rfl) ?_
          refine LW.nil ?_
          refine PQ.seq ?_
          refine CW.ret ?_
          refine PQ.then_ret ?_
          refine PQ.ret2 rfl rfl rfl ?_
          intro w' hw
          have hP : lineP e gl kl = some ([107, 101, 101, 112], ([] : List Int), []) := by
            unfold lineP
            rw [if_neg (by omega), if_neg (by omega), if_pos (by omega)]
          have hno : ¬ fitsB ([] : List Int) = true := by simpa using h51
          exact ⟨by unfold lineF; rw [hP]; simp only [lineR]; rw [if_neg hno]; rfl, hw.below⟩
        · replace h51 := bF h51
          have hfit : fitsB ([] : List Int) = true := by simpa using h51
          refine CW.skip ?_
          refine PQ.seq ?_
          refine CW.seq ?_
          refine CW.region ?_
          refine LW.v rfl rfl (Val.move rfl) ?_
          refine LW.e rfl rfl (Eff.buildSlice (rfl) [_] Tryd.underlying73 Tryd.sizeOf9 (by exact Tryd.zeroValue9) rfl rfl rfl rfl (by rfl)) ?_
          intro b53 _
          refine LW.v rfl rfl (Val.move rfl) ?_
          refine LW.e rfl rfl (Eff.appendOwn (sz := 1) (bytes := 16) (z := .string ⟨#[]⟩) (xs := stC [[107, 101, 101, 112]]) (ys := stC n9) (m0 := 1) (m := n9.length) (o := some (b53, [], 1)) (oy := o9) (pk := [[(b53, .cells [str [107, 101, 101, 112]].toArray 9 (0, 0))]]) (pk2 := [ownG 9 (stC n9) o9]) rfl rfl Tryd.underlying73 (by kernel_rfl) rfl (by omega) (by repeat (first | exact .nil | apply Pick.cons | exact .here | apply Ext.there)) (by first | rfl | simp [V.ownG_some, stC]) ⟨rfl, rfl⟩ (by repeat (first | exact .nil | apply Pick.cons | exact .here | apply Ext.there)) (by simp) ho9 (stC_one _) (by omega) (by omega)) ?_
          intro o2 ho2
          refine LW.v rfl rfl (Val.move rfl) ?_
          refine LW.e rfl rfl (Eff.appendOwn (sz := 1) (bytes := 16) (z := .string ⟨#[]⟩) (xs := stC [[107, 101, 101, 112]] ++ stC n9) (ys := stC ([] : List (List UInt8))) (m0 := 1 + n9.length) (m := 0) (o := o2) (oy := none) (pk := [ownG 9 (stC [[107, 101, 101, 112]] ++ stC n9) o2]) (pk2 := []) rfl rfl Tryd.underlying73 (by kernel_rfl) rfl (by omega) (by repeat (first | exact .nil | apply Pick.cons | exact .here | apply Ext.there)) (by simp) ho2 .nil (by first | rfl | simp [V.ownG, V.ownS, stC]) ⟨rfl, rfl⟩ (stC_one _) (by omega) (by omega)) ?_
          intro o3 ho3
          obtain ⟨ws3, hws3⟩ : ∃ ws3, ws3 = [107, 101, 101, 112] :: (numL ([] : List Int) ++ ([] : List (List UInt8))) := ⟨_, rfl⟩
          have e3 : stC [[107, 101, 101, 112]] ++ stC n9 ++ stC ([] : List (List UInt8)) = stC ws3 := by rw [hws3, hn9 hfit]; simp [stC]
          have l3 : 1 + n9.length + 0 = ws3.length := by rw [hws3, hn9 hfit]; simp; try omega
          rw [e3, l3] at ho3
          rw [e3, l3]
          have hP : lineP e gl kl = some ([107, 101, 101, 112], ([] : List Int), []) := by
            unfold lineP
            rw [if_neg (by omega), if_neg (by omega), if_pos (by omega)]
          have hjn := hj _ _ _ hP hfit
          have hjn2 : (Go.Lib.join ws3 [32]).length ≤ 140737488355328 := by
            rw [hws3]; exact hjn
          have hwl : ws3.length ≤ 140737488355328 := by rw [← l3]; omega
          refine LW.e rfl rfl (Eff.callV rfl Tryd.call42 (fun w hw => join_c ws3 o3 [32] ho3 hwl hjn2 w (sat_ownG (hw.sat.pick (ss := [ownG 9 (stC ws3) o3]) (by repeat (first | exact .nil | apply Pick.cons | exact .here | apply Ext.there)))))) ?_
          intro _ _
          refine LW.v rfl rfl (Val.assign rfl) ?_
          refine LW.v rfl rfl (Val.assign rfl) ?_
          refine LW.nil ?_
          refine PQ.seq ?_
          refine CW.ret ?_
          refine PQ.ret2 rfl rfl rfl ?_
          intro w' hw
          exact ⟨by unfold lineF; rw [hP]; simp only [lineR]; rw [if_pos hfit, hws3]; rfl, hw.below⟩
      · replace h32 := bF h32
        refine CW.seq ?_
        refine CW.region ?_
        refine LW.v rfl rfl (Val.cmp rfl rfl rfl) ?_
        refine LW.v rfl rfl (Val.assign rfl) ?_
        refine LW.nil ?_
        refine PQ.seq ?_
        refine CW.cond rfl (fun h34 => ?_) (fun h34 => ?_)
        · replace h34 := bT h34
          refine CW.drawn ([[(b1, .cells e.cells.toArray 44 (0, 0))]]) mixed (by repeat (first | exact .nil | apply Pick.cons | exact .here | apply Ext.there)) ?_
          refine RW.v 0 rfl (by kernel_rfl) (by kernel_rfl) (by kernel_rfl) (fun _ _ _ h => h) rfl rfl (Val.fieldAddr 2 rfl Tryd.underlying44 rfl rfl Tryd.sizeOf3) ?_
          refine RW.v 1 rfl (by kernel_rfl) (by kernel_rfl) (by kernel_rfl) (fun _ _ _ h => h) rfl rfl (Val.load rfl Tryd.isAgg3 (by repeat (first | exact .here | refine .there ?_)) (by rfl)) ?_
          refine RW.v 3 rfl (by kernel_rfl) (by kernel_rfl) (by kernel_rfl) (fun _ _ _ h => h) rfl rfl (Val.assign rfl) ?_
          refine RW.e 2 rfl (by kernel_rfl) rfl rfl (Eff.buildSlice (rfl) [_] Tryd.underlying42 Tryd.sizeOf3 (by exact Tryd.zeroValue3) rfl rfl rfl rfl (by rfl)) (fun x => ⟨_, (by repeat (first | exact .nil | apply Pick.cons | exact .here | apply Ext.there))⟩) ?_
          intro b38 _
          refine RW.v 4 rfl (by kernel_rfl) (by kernel_rfl) (by kernel_rfl) (fun _ _ _ h => h) rfl rfl (Val.assign rfl) ?_
          refine RW.done (by kernel_rfl) ?_
          refine PQ.in_normal ?_
          refine PQ.seq ?_
          refine CW.seq ?_
          refine CW.region ?_
          refine LW.v rfl rfl (Val.move rfl) ?_
          refine LW.e rfl rfl (Eff.callM ([]) .nil rfl Tryd.call41 (fun w hw hs0 => numbersA_c (some ⟨b38, 0, none⟩) 1 1 [e.ln] rfl (by omega) w (V.slAt_flat (enc := fun x => [Value.int .i64 x]) (cs := [.int .i64 e.ln]) (r := []) hw (fun _ => rfl) rfl (by repeat (first | exact .here | refine .there ?_))) (hI.mono hw.below))) ?_
          rintro ⟨o9, n9⟩ ⟨ho9, hn9, hl9⟩
          simp only at ho9 hn9 hl9
          have hkl1 := h.kl1
          have hkn := h.kn
          try simp only [List.length_cons, List.length_nil] at hl9
          refine LW.v rfl rfl (Val.move rfl) ?_
          refine LW.v rfl rfl (Val.extract rfl rfl) ?_
          refine LW.v rfl rfl (Val.extract rfl rfl) ?_
          refine LW.v rfl rfl (Val.assign rfl) ?_
          refine LW.v rfl rfl (Val.assign rfl) ?_
          refine LW.nil ?_
          refine PQ.seq ?_
          refine CW.seq ?_
          refine CW.seq ?_
          refine CW.region ?_
          refine LW.v rfl rfl (Val.move rfl) ?_
          refine LW.v rfl rfl (Val.not rfl) ?_
          refine LW.nil ?_
          refine PQ.seq ?_
          refine CW.cond rfl (fun h51 => ?_) (fun h51 => ?_)
          · replace h51 := bT h51
            refine CW.seq ?_
            refine CW.region ?_
            refine LW.v rfl rfl (Val.assign rfl) ?_
            refine LW.v rfl rfl (Val.assign rfl) ?_
            refine LW.nil ?_
            refine PQ.seq ?_
            refine CW.ret ?_
            refine PQ.then_ret ?_
            refine PQ.ret2 rfl rfl rfl ?_
            intro w' hw
            have hP : lineP e gl kl = some ([98, 97, 99, 107], [e.ln], []) := by
              unfold lineP
              rw [if_neg (by omega), if_neg (by omega), if_neg (by omega), if_pos (by omega)]
            have hno : ¬ fitsB [e.ln] = true := by simpa using h51
            exact ⟨by unfold lineF; rw [hP]; simp only [lineR]; rw [if_neg hno]; rfl, hw.below⟩
          · replace h51 := bF h51
            have hfit : fitsB [e.ln] = true := by simpa using h51
            refine CW.skip ?_
            refine PQ.seq ?_
            refine CW.seq ?_
            refine CW.region ?_
            refine LW.v rfl rfl (Val.move rfl) ?_
            refine LW.e rfl rfl (Eff.buildSlice (rfl) [_] Tryd.underlying73 Tryd.sizeOf9 (by exact Tryd.zeroValue9) rfl rfl rfl rfl (by rfl)) ?_
            intro b53 _
            refine LW.v rfl rfl (Val.move rfl) ?_
            refine LW.e rfl rfl (Eff.appendOwn (sz := 1) (bytes := 16) (z := .string ⟨#[]⟩) (xs := stC [[98, 97, 99, 107]]) (ys := stC n9) (m0 := 1) (m := n9.length) (o := some (b53, [], 1)) (oy := o9) (pk := [[(b53, .cells [str [98, 97, 99, 107]].toArray 9 (0, 0))]]) (pk2 := [ownG 9 (stC n9) o9]) rfl rfl Tryd.underlying73 (by kernel_rfl) rfl (by omega) (by repeat (first | exact .nil | apply Pick.cons | exact .here | apply Ext.there)) (by first | rfl | simp [V.ownG_some, stC]) ⟨rfl, rfl⟩ (by repeat (first | exact .nil | apply Pick.cons | exact .here | apply Ext.there)) (by simp) ho9 (stC_one _) (by omega) (by omega)) ?_
            intro o2 ho2
            refine LW.v rfl rfl (Val.move rfl) ?_
            refine LW.e rfl rfl (Eff.appendOwn (sz := 1) (bytes := 16) (z := .string ⟨#[]⟩) (xs := stC [[98, 97, 99, 107]] ++ stC n9) (ys := stC ([] : List (List UInt8))) (m0 := 1 + n9.length) (m := 0) (o := o2) (oy := none) (pk := [ownG 9 (stC [[98, 97, 99, 107]] ++ stC n9) o2]) (pk2 := []) rfl rfl Tryd.underlying73 (by kernel_rfl) rfl (by omega) (by repeat (first | exact .nil | apply Pick.cons | exact .here | apply Ext.there)) (by simp) ho2 .nil (by first | rfl | simp [V.ownG, V.ownS, stC]) ⟨rfl, rfl⟩ (stC_one _) (by omega) (by omega)) ?_
            intro o3 ho3
            obtain ⟨ws3, hws3⟩ : ∃ ws3, ws3 = [98, 97, 99, 107] :: (numL [e.ln] ++ ([] : List (List UInt8))) := ⟨_, rfl⟩
            have e3 : stC [[98, 97, 99, 107]] ++ stC n9 ++ stC ([] : List (List UInt8)) = stC ws3 := by rw [hws3, hn9 hfit]; simp [stC]
            have l3 : 1 + n9.length + 0 = ws3.length := by rw [hws3, hn9 hfit]; simp; try omega
            rw [e3, l3] at ho3
            rw [e3, l3]
            have hP : lineP e gl kl = some ([98, 97, 99, 107], [e.ln], []) := by
              unfold lineP
              rw [if_neg (by omega), if_neg (by omega), if_neg (by omega), if_pos (by omega)]
            have hjn := hj _ _ _ hP hfit
            have hjn2 : (Go.Lib.join ws3 [32]).length ≤ 140737488355328 := by
              rw [hws3]; exact hjn
            have hwl : ws3.length ≤ 140737488355328 := by rw [← l3]; omega
            refine LW.e rfl rfl (Eff.callV rfl Tryd.call42 (fun w hw => join_c ws3 o3 [32] ho3 hwl hjn2 w (sat_ownG (hw.sat.pick (ss := [ownG 9 (stC ws3) o3]) (by repeat (first | exact .nil | apply Pick.cons | exact .here | apply Ext.there)))))) ?_
            intro _ _
            refine LW.v rfl rfl (Val.assign rfl) ?_
            refine LW.v rfl rfl (Val.assign rfl) ?_
            refine LW.nil ?_
            refine PQ.seq ?_
            refine CW.ret ?_
            refine PQ.ret2 rfl rfl rfl ?_
            intro w' hw
            exact ⟨by unfold lineF; rw [hP]; simp only [lineR]; rw [if_pos hfit, hws3]; rfl, hw.below⟩
        · replace h34 := bF h34
          refine CW.seq ?_
          refine CW.region ?_
          refine LW.v rfl rfl (Val.cmp rfl rfl rfl) ?_
          refine LW.v rfl rfl (Val.assign rfl) ?_
          refine LW.nil ?_
          refine PQ.seq ?_
          refine CW.cond rfl (fun h39 => ?_) (fun h39 => ?_)
          · replace h39 := bT h39
            refine CW.quiet mixed (by kernel_rfl) ?_
            refine QW.v rfl rfl (Val.fieldAddr 8 rfl Tryd.underlying44 rfl rfl Tryd.sizeOf42) ?_
            refine QW.v rfl rfl (Val.load rfl Tryd.isAgg42 (by repeat (first | exact .here | refine .there ?_)) (by rfl)) ?_
            refine QW.v rfl rfl (Val.assign rfl) ?_
            refine QW.v rfl rfl (Val.assign rfl) ?_
            refine QW.nil ?_
            refine PQ.in_normal ?_
            refine PQ.seq ?_
            refine CW.seq ?_
            refine CW.region ?_
            refine LW.v rfl rfl (Val.move rfl) ?_
            refine LW.e rfl rfl (Eff.callM ([]) .nil rfl Tryd.call41 (fun w hw hs0 => numbersA_c e.keep.a e.keep.n e.keep.c kl h.kn h.kl1 w (hw.slAt h.ks (by simp [ids])) (hI.mono hw.below))) ?_
            rintro ⟨o9, n9⟩ ⟨ho9, hn9, hl9⟩
            simp only at ho9 hn9 hl9
            have hkl1 := h.kl1
            have hkn := h.kn
            try simp only [List.length_cons, List.length_nil] at hl9
            refine LW.v rfl rfl (Val.move rfl) ?_
            refine LW.v rfl rfl (Val.extract rfl rfl) ?_
            refine LW.v rfl rfl (Val.extract rfl rfl) ?_
            refine LW.v rfl rfl (Val.assign rfl) ?_
            refine LW.v rfl rfl (Val.assign rfl) ?_
            refine LW.nil ?_
            refine PQ.seq ?_
            refine CW.seq ?_
            refine CW.seq ?_
            refine CW.region ?_
            refine LW.v rfl rfl (Val.move rfl) ?_
            refine LW.v rfl rfl (Val.not rfl) ?_
            refine LW.nil ?_
            refine PQ.seq ?_
            refine CW.cond rfl (fun h51 => ?_) (fun h51 => ?_)
            · replace h51 := bT h51
              refine CW.seq ?_
              refine CW.region ?_
              refine LW.v rfl rfl (Val.assign rfl) ?_
              refine LW.v rfl rfl (Val.assign rfl) ?_
              refine LW.nil ?_
              refine PQ.seq ?_
              refine CW.ret ?_
              refine PQ.then_ret ?_
              refine PQ.ret2 rfl rfl rfl ?_
              intro w' hw
              have hP : lineP e gl kl = some ([99, 117, 116], kl, []) := by
                unfold lineP
                rw [if_neg (by omega), if_neg (by omega), if_neg (by omega), if_neg (by omega), if_pos (by omega)]
              have hno : ¬ fitsB kl = true := by simpa using h51
              exact ⟨by unfold lineF; rw [hP]; simp only [lineR]; rw [if_neg hno]; rfl, hw.below⟩
            · replace h51 := bF h51
              have hfit : fitsB kl = true := by simpa using h51
              refine CW.skip ?_
              refine PQ.seq ?_
              refine CW.seq ?_
              refine CW.region ?_
              refine LW.v rfl rfl (Val.move rfl) ?_
              refine LW.e rfl rfl (Eff.buildSlice (rfl) [_] Tryd.underlying73 Tryd.sizeOf9 (by exact Tryd.zeroValue9) rfl rfl rfl rfl (by rfl)) ?_
              intro b53 _
              refine LW.v rfl rfl (Val.move rfl) ?_
              refine LW.e rfl rfl (Eff.appendOwn (sz := 1) (bytes := 16) (z := .string ⟨#[]⟩) (xs := stC [[99, 117, 116]]) (ys := stC n9) (m0 := 1) (m := n9.length) (o := some (b53, [], 1)) (oy := o9) (pk := [[(b53, .cells [str [99, 117, 116]].toArray 9 (0, 0))]]) (pk2 := [ownG 9 (stC n9) o9]) rfl rfl Tryd.underlying73 (by kernel_rfl) rfl (by omega) (by repeat (first | exact .nil | apply Pick.cons | exact .here | apply Ext.there)) (by first | rfl | simp [V.ownG_some, stC]) ⟨rfl, rfl⟩ (by repeat (first | exact .nil | apply Pick.cons | exact .here | apply Ext.there)) (by simp) ho9 (stC_one _) (by omega) (by omega)) ?_
              intro o2 ho2
              refine LW.v rfl rfl (Val.move rfl) ?_
              refine LW.e rfl rfl (Eff.appendOwn (sz := 1) (bytes := 16) (z := .string ⟨#[]⟩) (xs := stC [[99, 117, 116]] ++ stC n9) (ys := stC ([] : List (List UInt8))) (m0 := 1 + n9.length) (m := 0) (o := o2) (oy := none) (pk := [ownG 9 (stC [[99, 117, 116]] ++ stC n9) o2]) (pk2 := []) rfl rfl Tryd.underlying73 (by kernel_rfl) rfl (by omega) (by repeat (first | exact .nil | apply Pick.cons | exact .here | apply Ext.there)) (by simp) ho2 .nil (by first | rfl | simp [V.ownG, V.ownS, stC]) ⟨rfl, rfl⟩ (stC_one _) (by omega) (by omega)) ?_
              intro o3 ho3
              obtain ⟨ws3, hws3⟩ : ∃ ws3, ws3 = [99, 117, 116] :: (numL kl ++ ([] : List (List UInt8))) := ⟨_, rfl⟩
              have e3 : stC [[99, 117, 116]] ++ stC n9 ++ stC ([] : List (List UInt8)) = stC ws3 := by rw [hws3, hn9 hfit]; simp [stC]
              have l3 : 1 + n9.length + 0 = ws3.length := by rw [hws3, hn9 hfit]; simp; try omega
              rw [e3, l3] at ho3
              rw [e3, l3]
              have hP : lineP e gl kl = some ([99, 117, 116], kl, []) := by
                unfold lineP
                rw [if_neg (by omega), if_neg (by omega), if_neg (by omega), if_neg (by omega), if_pos (by omega)]
              have hjn := hj _ _ _ hP hfit
              have hjn2 : (Go.Lib.join ws3 [32]).length ≤ 140737488355328 := by
                rw [hws3]; exact hjn
              have hwl : ws3.length ≤ 140737488355328 := by rw [← l3]; omega
              refine LW.e rfl rfl (Eff.callV rfl Tryd.call42 (fun w hw => join_c ws3 o3 [32] ho3 hwl hjn2 w (sat_ownG (hw.sat.pick (ss := [ownG 9 (stC ws3) o3]) (by repeat (first | exact .nil | apply Pick.cons | exact .here | apply Ext.there)))))) ?_
              intro _ _
              refine LW.v rfl rfl (Val.assign rfl) ?_
              refine LW.v rfl rfl (Val.assign rfl) ?_
              refine LW.nil ?_
              refine PQ.seq ?_
              refine CW.ret ?_
              refine PQ.ret2 rfl rfl rfl ?_
              intro w' hw
              exact ⟨by unfold lineF; rw [hP]; simp only [lineR]; rw [if_pos hfit, hws3]; rfl, hw.below⟩
          · replace h39 := bF h39
            refine CW.seq ?_
            refine CW.region ?_
            refine LW.v rfl rfl (Val.cmp rfl rfl rfl) ?_
            refine LW.v rfl rfl (Val.assign rfl) ?_
            refine LW.nil ?_
            refine PQ.seq ?_
            refine CW.cond rfl (fun h43 => ?_) (fun h43 => ?_)
            · replace h43 := bT h43
              refine CW.region ?_
              refine LW.v rfl rfl (Val.assign rfl) ?_
              refine LW.nil ?_
              refine PQ.in_normal ?_
              refine PQ.seq ?_
              refine CW.seq ?_
              refine CW.region ?_
              refine LW.v rfl rfl (Val.move rfl) ?_
              refine LW.e rfl rfl (Eff.callM ([]) .nil rfl Tryd.call41 (fun w hw hs0 => numbersA_c none 0 0 [] rfl (by omega) w (.inl rfl) (hI.mono hw.below))) ?_
              rintro ⟨o9, n9⟩ ⟨ho9, hn9, hl9⟩
              simp only at ho9 hn9 hl9
              have hkl1 := h.kl1
              have hkn := h.kn
              try simp only [List.length_cons, List.length_nil] at hl9
              refine LW.v rfl rfl (Val.move rfl) ?_
              refine LW.v rfl rfl (Val.extract rfl rfl) ?_
              refine LW.v rfl rfl (Val.extract rfl rfl) ?_
              refine LW.v rfl rfl (Val.assign rfl) ?_
              refine LW.v rfl rfl (Val.assign rfl) ?_
              refine LW.nil ?_
              refine PQ.seq ?_
              refine CW.seq ?_
              refine CW.seq ?_
              refine CW.region ?_
              refine LW.v rfl rfl (Val.move rfl) ?_
              refine LW.v rfl rfl (Val.not rfl) ?_
              refine LW.nil ?_
              refine PQ.seq ?_
              refine CW.cond rfl (fun h51 => ?_) (fun h51 => ?_)
              · replace h51 := bT h51
                refine CW.seq ?_
                refine CW.region ?_
                refine LW.v rfl rfl (Val.assign rfl) ?_
                refine LW.v rfl rfl (Val.assign rfl) ?_
                refine LW.nil ?_
                refine PQ.seq ?_
                refine CW.ret ?_
                refine PQ.then_ret ?_
                refine PQ.ret2 rfl rfl rfl ?_
                intro w' hw
                have hP : lineP e gl kl = some ([114, 101, 118, 105, 118, 101], ([] : List Int), []) := by
                  unfold lineP
                  rw [if_neg (by omega), if_neg (by omega), if_neg (by omega), if_neg (by omega), if_neg (by omega), if_pos (by omega)]
                have hno : ¬ fitsB ([] : List Int) = true := by simpa using h51
                exact ⟨by unfold lineF; rw [hP]; simp only [lineR]; rw [if_neg hno]; rfl, hw.below⟩
              · replace h51 := bF h51
                have hfit : fitsB ([] : List Int) = true := by simpa using h51
                refine CW.skip ?_
                refine PQ.seq ?_
                refine CW.seq ?_
                refine CW.region ?_
                refine LW.v rfl rfl (Val.move rfl) ?_
                refine LW.e rfl rfl (Eff.buildSlice (rfl) [_] Tryd.underlying73 Tryd.sizeOf9 (by exact Tryd.zeroValue9) rfl rfl rfl rfl (by rfl)) ?_
                intro b53 _
                refine LW.v rfl rfl (Val.move rfl) ?_
                refine LW.e rfl rfl (Eff.appendOwn (sz := 1) (bytes := 16) (z := .string ⟨#[]⟩) (xs := stC [[114, 101, 118, 105, 118, 101]]) (ys := stC n9) (m0 := 1) (m := n9.length) (o := some (b53, [], 1)) (oy := o9) (pk := [[(b53, .cells [str [114, 101, 118, 105, 118, 101]].toArray 9 (0, 0))]]) (pk2 := [ownG 9 (stC n9) o9]) rfl rfl Tryd.underlying73 (by kernel_rfl) rfl (by omega) (by repeat (first | exact .nil | apply Pick.cons | exact .here | apply Ext.there)) (by first | rfl | simp [V.ownG_some, stC]) ⟨rfl, rfl⟩ (by repeat (first | exact .nil | apply Pick.cons | exact .here | apply Ext.there)) (by simp) ho9 (stC_one _) (by omega) (by omega)) ?_
                intro o2 ho2
                refine LW.v rfl rfl (Val.move rfl) ?_
                refine LW.e rfl rfl (Eff.appendOwn (sz := 1) (bytes := 16) (z := .string ⟨#[]⟩) (xs := stC [[114, 101, 118, 105, 118, 101]] ++ stC n9) (ys := stC ([] : List (List UInt8))) (m0 := 1 + n9.length) (m := 0) (o := o2) (oy := none) (pk := [ownG 9 (stC [[114, 101, 118, 105, 118, 101]] ++ stC n9) o2]) (pk2 := []) rfl rfl Tryd.underlying73 (by kernel_rfl) rfl (by omega) (by repeat (first | exact .nil | apply Pick.cons | exact .here | apply Ext.there)) (by simp) ho2 .nil (by first | rfl | simp [V.ownG, V.ownS, stC]) ⟨rfl, rfl⟩ (stC_one _) (by omega) (by omega)) ?_
                intro o3 ho3
                obtain ⟨ws3, hws3⟩ : ∃ ws3, ws3 = [114, 101, 118, 105, 118, 101] :: (numL ([] : List Int) ++ ([] : List (List UInt8))) := ⟨_, rfl⟩
                have e3 : stC [[114, 101, 118, 105, 118, 101]] ++ stC n9 ++ stC ([] : List (List UInt8)) = stC ws3 := by rw [hws3, hn9 hfit]; simp [stC]
                have l3 : 1 + n9.length + 0 = ws3.length := by rw [hws3, hn9 hfit]; simp; try omega
                rw [e3, l3] at ho3
                rw [e3, l3]
                have hP : lineP e gl kl = some ([114, 101, 118, 105, 118, 101], ([] : List Int), []) := by
                  unfold lineP
                  rw [if_neg (by omega), if_neg (by omega), if_neg (by omega), if_neg (by omega), if_neg (by omega), if_pos (by omega)]
                have hjn := hj _ _ _ hP hfit
                have hjn2 : (Go.Lib.join ws3 [32]).length ≤ 140737488355328 := by
                  rw [hws3]; exact hjn
                have hwl : ws3.length ≤ 140737488355328 := by rw [← l3]; omega
                refine LW.e rfl rfl (Eff.callV rfl Tryd.call42 (fun w hw => join_c ws3 o3 [32] ho3 hwl hjn2 w (sat_ownG (hw.sat.pick (ss := [ownG 9 (stC ws3) o3]) (by repeat (first | exact .nil | apply Pick.cons | exact .here | apply Ext.there)))))) ?_
                intro _ _
                refine LW.v rfl rfl (Val.assign rfl) ?_
                refine LW.v rfl rfl (Val.assign rfl) ?_
                refine LW.nil ?_
                refine PQ.seq ?_
                refine CW.ret ?_
                refine PQ.ret2 rfl rfl rfl ?_
                intro w' hw
                exact ⟨by unfold lineF; rw [hP]; simp only [lineR]; rw [if_pos hfit, hws3]; rfl, hw.below⟩
            · replace h43 := bF h43
              refine CW.seq ?_
              refine CW.region ?_
              refine LW.v rfl rfl (Val.assign rfl) ?_
              refine LW.v rfl rfl (Val.assign rfl) ?_
              refine LW.nil ?_
              refine PQ.seq ?_
              refine CW.ret ?_
              refine PQ.in_ret ?_
              refine PQ.then_ret ?_
              refine PQ.ret2 rfl rfl rfl ?_
              intro w' hw
              have hP : lineP e gl kl = none := by
                unfold lineP
                rw [if_neg (by omega), if_neg (by omega), if_neg (by omega), if_neg (by omega), if_neg (by omega), if_neg (by omega)]
              exact ⟨by unfold lineF; rw [hP]; rfl, hw.below⟩
end Go.Proofs.YtagliemeolngiaaDoor
