/- What the functions of story, its reference and its law do to a symbolic state. -/
import Derived.Test.YtgeblajdjdcghaaRows
import Derived.Test.YtgeblajdjdcghaaV4
import Derived.Lib.Hide
namespace Go.Proofs.Ytgeblajdjdcghaa
open Go Go.RowKit V
set_option linter.unusedVariables false
set_option maxRecDepth 100000
theorem ret_b {a b : Bool} (h : a = b) : Ending.returned (.bool a) = .returned (.bool b) := by rw [h]
theorem mixed : Try.prog.follows .mixedOrders = true := by kernel_rfl
/-- A slice value's three parts. -/
structure Sl where
  a : Option Addr
  n : Nat
  c : Nat
/-- A call as it lies in memory: five cells. -/
structure Cl where
  ck : Int
  key : ByteArray
  val : ByteArray
  to : ByteArray
  grp : Sl
def Cl.cells (s : Cl) : List Value := [.int .i64 s.ck, .string s.key, .string s.val, .string s.to, .slice s.grp.a s.grp.n s.grp.c]
/-- A story as it lies in memory: fourteen cells. -/
structure Sto where
  th : Int
  call : Cl
  cd : Int
  fd : Bool
  av : ByteArray
  prs : Sl
  hts : Sl
  ep : Int
  bg : Int
  en : Int
def Sto.cells (s : Sto) : List Value := [.int .i64 s.th, .int .i64 s.call.ck, .string s.call.key, .string s.call.val, .string s.call.to, .slice s.call.grp.a s.call.grp.n s.call.grp.c, .int .i64 s.cd, .bool s.fd, .string s.av, .slice s.prs.a s.prs.n s.prs.c, .slice s.hts.a s.hts.n s.hts.c, .int .u64 s.ep, .int .i64 s.bg, .int .i64 s.en]
def Sto.before (a b : Sto) : Bool := decide (0 ≤ a.en) && decide (a.en < b.bg)
/-- The story's call's group can be read. -/
def StoOk (w : World) (s : Sto) : Prop := ∃ gl : List Cl, s.call.grp.n = gl.length ∧ V.slAt w s.call.grp.a 5 Cl.cells gl
theorem StoOk.hp {w0 w : World} {sg : Sg} {s : Sto} (h : StoOk w0 s) (hw : Hp ⟨w0, []⟩ sg w) : StoOk w s := by
  obtain ⟨gl, h1, h2⟩ := h
  exact ⟨gl, h1, hw.slAt h2 (by simp)⟩
theorem before_c (a b : Sto) (w : World) : Calls Try.prog 15 [.agg a.cells.toArray, .agg b.cells.toArray].toArray w
    fun e w' => e = .returned (.bool (a.before b)) ∧ Below w.heap.size w w' := by
  refine V.calls [] Try.func15 rfl Try.ntmps15 (Nat.le_of_ble_eq_true rfl) (V.sat_nil _) ?_
  refine CW.seq ?_
  refine CW.region ?_
  refine LW.e rfl rfl (Eff.boxA rfl) ?_
  intro b2 _
  refine LW.e rfl rfl (Eff.boxA rfl) ?_
  intro b3 _
  refine LW.v rfl rfl (Val.assign rfl) ?_
  refine LW.nil ?_
  refine PQ.seq ?_
  refine CW.seq ?_
  refine CW.region ?_
  refine LW.v rfl rfl (Val.fieldAddr 13 rfl Try.underlying32 rfl rfl Try.sizeOf3) ?_
  refine LW.v rfl rfl (Val.load rfl Try.isAgg3 (by repeat (first | exact .here | refine .there ?_)) (by rfl)) ?_
  refine LW.v rfl rfl (Val.cmp rfl rfl rfl) ?_
  refine LW.v rfl rfl (Val.move rfl) ?_
  refine LW.split (d := 8) rfl (fun h8 => ?_) (fun h8 => ?_)
  · replace h8 := bT h8
    refine LW.v rfl rfl (Val.fieldAddr 13 rfl Try.underlying32 rfl rfl Try.sizeOf3) ?_
    refine LW.v rfl rfl (Val.load rfl Try.isAgg3 (by repeat (first | exact .here | refine .there ?_)) (by rfl)) ?_
    refine LW.v rfl rfl (Val.fieldAddr 12 rfl Try.underlying32 rfl rfl Try.sizeOf3) ?_
    refine LW.v rfl rfl (Val.load rfl Try.isAgg3 (by repeat (first | exact .here | refine .there ?_)) (by rfl)) ?_
    refine LW.v rfl rfl (Val.cmp rfl rfl rfl) ?_
    refine LW.v rfl rfl (Val.pick_t rfl rfl) ?_
    refine LW.v rfl rfl (Val.assign rfl) ?_
    refine LW.nil ?_
    refine PQ.seq ?_
    refine CW.ret ?_
    refine PQ.ret1 rfl rfl ?_
    intro w hw; exact ⟨ret_b (by simp only [Sto.before]; first | (simp; omega) | (simp [h8]; done)), hw.below⟩
  · replace h8 := bF h8
    refine LW.p rfl rfl ?_
    refine LW.p rfl rfl ?_
    refine LW.p rfl rfl ?_
    refine LW.p rfl rfl ?_
    refine LW.p rfl rfl ?_
    refine LW.v rfl rfl (Val.pick_f rfl rfl) ?_
    refine LW.v rfl rfl (Val.assign rfl) ?_
    refine LW.nil ?_
    refine PQ.seq ?_
    refine CW.ret ?_
    refine PQ.ret1 rfl rfl ?_
    intro w hw; exact ⟨ret_b (by simp only [Sto.before]; first | (simp; omega) | (simp [h8]; done)), hw.below⟩
theorem refBefore_c (a b : Sto) (w : World) : Calls Try.prog 16 [.agg a.cells.toArray, .agg b.cells.toArray].toArray w
    fun e w' => e = .returned (.bool (a.before b)) ∧ Below w.heap.size w w' := by
  refine V.calls [] Try.func16 rfl Try.ntmps16 (Nat.le_of_ble_eq_true rfl) (V.sat_nil _) ?_
  refine CW.seq ?_
  refine CW.region ?_
  refine LW.e rfl rfl (Eff.boxA rfl) ?_
  intro b2 _
  refine LW.e rfl rfl (Eff.boxA rfl) ?_
  intro b3 _
  refine LW.v rfl rfl (Val.assign rfl) ?_
  refine LW.nil ?_
  refine PQ.seq ?_
  refine CW.seq ?_
  refine CW.region ?_
  refine LW.v rfl rfl (Val.fieldAddr 13 rfl Try.underlying32 rfl rfl Try.sizeOf3) ?_
  refine LW.v rfl rfl (Val.load rfl Try.isAgg3 (by repeat (first | exact .here | refine .there ?_)) (by rfl)) ?_
  refine LW.v rfl rfl (Val.cmp rfl rfl rfl) ?_
  refine LW.v rfl rfl (Val.move rfl) ?_
  refine LW.split (d := 8) rfl (fun h8 => ?_) (fun h8 => ?_)
  · replace h8 := bT h8
    refine LW.v rfl rfl (Val.fieldAddr 13 rfl Try.underlying32 rfl rfl Try.sizeOf3) ?_
    refine LW.v rfl rfl (Val.load rfl Try.isAgg3 (by repeat (first | exact .here | refine .there ?_)) (by rfl)) ?_
    refine LW.v rfl rfl (Val.fieldAddr 12 rfl Try.underlying32 rfl rfl Try.sizeOf3) ?_
    refine LW.v rfl rfl (Val.load rfl Try.isAgg3 (by repeat (first | exact .here | refine .there ?_)) (by rfl)) ?_
    refine LW.v rfl rfl (Val.cmp rfl rfl rfl) ?_
    refine LW.v rfl rfl (Val.pick_t rfl rfl) ?_
    refine LW.v rfl rfl (Val.assign rfl) ?_
    refine LW.nil ?_
    refine PQ.seq ?_
    refine CW.ret ?_
    refine PQ.ret1 rfl rfl ?_
    intro w hw; exact ⟨ret_b (by simp only [Sto.before]; first | (simp; omega) | (simp [h8]; done)), hw.below⟩
  · replace h8 := bF h8
    refine LW.p rfl rfl ?_
    refine LW.p rfl rfl ?_
    refine LW.p rfl rfl ?_
    refine LW.p rfl rfl ?_
    refine LW.p rfl rfl ?_
    refine LW.v rfl rfl (Val.pick_f rfl rfl) ?_
    refine LW.v rfl rfl (Val.assign rfl) ?_
    refine LW.nil ?_
    refine PQ.seq ?_
    refine CW.ret ?_
    refine PQ.ret1 rfl rfl ?_
    intro w hw; exact ⟨ret_b (by simp only [Sto.before]; first | (simp; omega) | (simp [h8]; done)), hw.below⟩
def OkAt (l : List Sto) (i : Nat) : Prop := ∀ s, l[i]? = some s → 0 ≤ s.bg ∧ (∀ p j, i = j + 1 → l[j]? = some p → p.bg < s.bg) ∧ (s.en = -1 ∨ s.bg < s.en)
theorem ok_snoc {l : List Sto} {k : Nat} (h : ∀ i, i < k → OkAt l i) (h' : OkAt l k) : ∀ i, i < k + 1 → OkAt l i := fun i hi => by
  by_cases e : i = k
  · subst e; exact h'
  · exact h i (by omega)
def May (l : List Sto) : Prop := ∀ i, i < l.length → OkAt l i
theorem may_no {l : List Sto} {k : Nat} {s : Sto} (hs : l[k]? = some s) (h : s.bg < 0 ∨ (∃ p j, k = j + 1 ∧ l[j]? = some p ∧ s.bg ≤ p.bg) ∨ (s.en ≠ -1 ∧ s.en ≤ s.bg)) : ¬ May l := fun hm => by
  obtain ⟨h1, h2, h3⟩ := hm k (List.getElem?_eq_some_iff.1 hs).1 s hs
  rcases h with h | ⟨p, j, hj, hp, h⟩ | ⟨h, h'⟩
  · omega
  · have := h2 p j hj hp; omega
  · omega
theorem prev_is {l : List Sto} {k : Nat} {q s : Sto} (hq : l[k - 1]? = some q) (h : q.bg < s.bg) : ∀ p j, k = j + 1 → l[j]? = some p → p.bg < s.bg := fun p j hj hp => by
  obtain rfl : j = k - 1 := by omega
  have e := hq.symm.trans hp
  cases e
  exact h
theorem may_c (p : Option Addr) (n cap : Nat) (l : List Sto) (w : World) (hn : l.length = n) (h : V.slAt w p 14 Sto.cells l) (hm : n ≤ 1000) : Calls Try.prog 19 [.slice p n cap].toArray w
    fun e w' => ∃ x : Bool, (x = true ↔ May l) ∧ e = .returned (.bool x) ∧ Below w.heap.size w w' := by
  refine V.calls [] Try.func19 rfl Try.ntmps19 (Nat.le_of_ble_eq_true rfl) (V.sat_nil _) ?_
  refine CW.seq ?_
  refine CW.region ?_
  refine LW.v rfl rfl (Val.assign rfl) ?_
  refine LW.nil ?_
  refine PQ.seq ?_
  refine CW.seq ?_
  refine CW.seq ?_
  refine CW.region ?_
  refine LW.v rfl rfl (Val.move rfl) ?_
  refine LW.v rfl rfl (Val.lenSl rfl Try.underlying35) ?_
  refine LW.v rfl rfl (Val.move rfl) ?_
  refine LW.nil ?_
  refine PQ.seq ?_
  refine CW.block ?_
  refine CW.loop (γ := Nat) (fun k => [(0, .slice p n cap), (5, .slice p n cap), (6, .int .i64 (n : Nat)), (7, .int .i64 (k : Nat))]) (fun _ => []) (fun k => k ≤ n ∧ ∀ i, i < k → OkAt l i) (fun k => n - k) (0) ⟨Nat.zero_le _, fun i hi => by omega⟩ (by repeat (first | exact trivial | refine ⟨rfl, ?_⟩)) (by repeat (first | exact .nil | apply Pick.cons | exact .here | apply Ext.there)) ?_
  intro k
  intro hJ
  refine CW.seq ?_
  refine CW.region ?_
  refine LW.v rfl rfl (Val.cmp rfl rfl rfl) ?_
  refine LW.nil ?_
  refine PQ.seq ?_
  refine CW.seq ?_
  refine CW.cond rfl (fun h8 => ?_) (fun h8 => ?_)
  · replace h8 := bT h8
    refine CW.skip ?_
    refine PQ.seq ?_
    refine CW.seq ?_
    refine CW.block ?_
    refine CW.seq ?_
    refine CW.region ?_
    refine LW.v rfl rfl (Val.move rfl) ?_
    obtain ⟨b, o, s, rfl, hb, hs, h⟩ := V.slAt_at h hn (k := k) (by omega)
    refine LW.v rfl rfl (Val.indexAddrN rfl rfl Try.underlying35 Try.sizeOf32 (by omega)) ?_
    refine LW.v rfl rfl (Val.loadOA rfl Try.isAgg32 hb (by simp [ids]) (h k s hs) Try.sizeOf32) ?_
    refine LW.e rfl rfl (Eff.allocA (by exact Try.zeroValue32)) ?_
    intro b4 _
    refine LW.v rfl rfl (Val.assign rfl) ?_
    first | (refine LW.eN rfl (Eff.storeW rfl rfl (by repeat (first | exact .here | apply Upd.there)) (by rfl) Try.sizeOf32 (by rfl)) ?_) | (refine LW.eN rfl (Eff.storeA (l' := _) rfl rfl (by repeat (first | exact .here | apply Upd.there)) (by rfl) (by decide) Try.sizeOf32 (by rfl)) ?_)
    intro _ _
    refine LW.nil ?_
    refine PQ.seq ?_
    refine CW.seq ?_
    refine CW.quiet mixed (by kernel_rfl) ?_
    refine QW.v rfl rfl (Val.fieldAddr 12 rfl Try.underlying32 rfl rfl Try.sizeOf3) ?_
    refine QW.v rfl rfl (Val.load rfl Try.isAgg3 (by repeat (first | exact .here | refine .there ?_)) (by rfl)) ?_
    refine QW.v rfl rfl (Val.cmp rfl rfl rfl) ?_
    refine QW.v rfl rfl (Val.move rfl) ?_
    refine QW.split (d := 15) rfl (fun h15 => ?_) (fun h15 => ?_)
    · replace h15 := bT h15
      refine QW.p rfl rfl ?_
      refine QW.p rfl rfl ?_
      refine QW.p rfl rfl ?_
      refine QW.p rfl rfl ?_
      refine QW.p rfl rfl ?_
      refine QW.p rfl rfl ?_
      refine QW.p rfl rfl ?_
      refine QW.p rfl rfl ?_
      refine QW.p rfl rfl ?_
      refine QW.p rfl rfl ?_
      refine QW.p rfl rfl ?_
      refine QW.p rfl rfl ?_
      refine QW.p rfl rfl ?_
      refine QW.v rfl rfl (Val.pick_t rfl rfl) ?_
      refine QW.v rfl rfl (Val.move rfl) ?_
      refine QW.p rfl rfl ?_
      refine QW.p rfl rfl ?_
      refine QW.p rfl rfl ?_
      refine QW.p rfl rfl ?_
      refine QW.p rfl rfl ?_
      refine QW.p rfl rfl ?_
      refine QW.p rfl rfl ?_
      refine QW.p rfl rfl ?_
      refine QW.p rfl rfl ?_
      refine QW.p rfl rfl ?_
      refine QW.v rfl rfl (Val.pick_t rfl rfl) ?_
      refine QW.nil ?_
      refine PQ.seq ?_
      refine CW.cond_t rfl ?_
      refine CW.seq ?_
      refine CW.region ?_
      refine LW.v rfl rfl (Val.assign rfl) ?_
      refine LW.nil ?_
      refine PQ.seq ?_
      refine CW.ret ?_
      refine PQ.in_ret ?_
      refine PQ.then_ret ?_
      refine PQ.then_ret ?_
      refine PQ.in_ret ?_
      refine PQ.then_ret ?_
      refine PQ.ret1 rfl rfl ?_
      intro w hw; exact ⟨false, ⟨(fun h => by cases h), fun g => absurd g (may_no hs (.inl h15))⟩, rfl, hw.below⟩
    · replace h15 := bF h15
      refine QW.v rfl rfl (Val.move rfl) ?_
      refine QW.v rfl rfl (Val.cmp rfl rfl rfl) ?_
      refine QW.v rfl rfl (Val.move rfl) ?_
      refine QW.split (d := 18) rfl (fun h18 => ?_) (fun h18 => ?_)
      · replace h18 := bT h18
        refine QW.v rfl rfl (Val.move rfl) ?_
        refine QW.v rfl rfl (Val.move rfl) ?_
        refine QW.v rfl rfl (Val.ar rfl rfl rfl (IntWalk.i64_in _ (by omega))) ?_
        refine QW.re 21 (.int .i64 ((k - 1 : Nat) : Int)) rfl (by congr 1; omega) ?_
        refine QW.v rfl rfl (Val.indexAddrN rfl rfl Try.underlying35 Try.sizeOf32 (by omega)) ?_
        obtain ⟨q, hq⟩ : ∃ s, l[k - 1]? = some s := ⟨l[k - 1]'(by omega), by simp⟩
        refine QW.v rfl rfl (Val.fieldAddr 12 rfl Try.underlying32 rfl rfl Try.sizeOf3) ?_
        refine QW.v rfl rfl (Val.loadO rfl Try.isAgg3 hb (by simp [ids]) (h (k - 1) q hq 12 _ rfl)) ?_
        refine QW.v rfl rfl (Val.fieldAddr 12 rfl Try.underlying32 rfl rfl Try.sizeOf3) ?_
        refine QW.v rfl rfl (Val.load rfl Try.isAgg3 (by repeat (first | exact .here | refine .there ?_)) (by rfl)) ?_
        refine QW.v rfl rfl (Val.cmp rfl rfl rfl) ?_
        refine QW.v rfl rfl (Val.pick_t rfl rfl) ?_
        refine QW.v rfl rfl (Val.pick_f rfl rfl) ?_
        refine QW.v rfl rfl (Val.move rfl) ?_
        refine QW.split (d := 30) rfl (fun h30 => ?_) (fun h30 => ?_)
        · replace h30 := bT h30
          refine QW.p rfl rfl ?_
          refine QW.p rfl rfl ?_
          refine QW.p rfl rfl ?_
          refine QW.p rfl rfl ?_
          refine QW.p rfl rfl ?_
          refine QW.p rfl rfl ?_
          refine QW.p rfl rfl ?_
          refine QW.p rfl rfl ?_
          refine QW.p rfl rfl ?_
          refine QW.p rfl rfl ?_
          refine QW.v rfl rfl (Val.pick_t rfl rfl) ?_
          refine QW.nil ?_
          refine PQ.seq ?_
          refine CW.cond_t rfl ?_
          refine CW.seq ?_
          refine CW.region ?_
          refine LW.v rfl rfl (Val.assign rfl) ?_
          refine LW.nil ?_
          refine PQ.seq ?_
          refine CW.ret ?_
          refine PQ.in_ret ?_
          refine PQ.then_ret ?_
          refine PQ.then_ret ?_
          refine PQ.in_ret ?_
          refine PQ.then_ret ?_
          refine PQ.ret1 rfl rfl ?_
          intro w hw; exact ⟨false, ⟨(fun h => by cases h), fun g => absurd g (may_no hs (.inr (.inl ⟨q, k - 1, by omega, hq, h30⟩)))⟩, rfl, hw.below⟩
        · replace h30 := bF h30
          refine QW.v rfl rfl (Val.fieldAddr 13 rfl Try.underlying32 rfl rfl Try.sizeOf3) ?_
          refine QW.v rfl rfl (Val.load rfl Try.isAgg3 (by repeat (first | exact .here | refine .there ?_)) (by rfl)) ?_
          refine QW.v rfl rfl (Val.cmp rfl rfl rfl) ?_
          refine QW.v rfl rfl (Val.move rfl) ?_
          refine QW.split (d := 34) rfl (fun h34 => ?_) (fun h34 => ?_)
          · replace h34 := bT h34
            refine QW.v rfl rfl (Val.fieldAddr 13 rfl Try.underlying32 rfl rfl Try.sizeOf3) ?_
            refine QW.v rfl rfl (Val.load rfl Try.isAgg3 (by repeat (first | exact .here | refine .there ?_)) (by rfl)) ?_
            refine QW.v rfl rfl (Val.fieldAddr 12 rfl Try.underlying32 rfl rfl Try.sizeOf3) ?_
            refine QW.v rfl rfl (Val.load rfl Try.isAgg3 (by repeat (first | exact .here | refine .there ?_)) (by rfl)) ?_
            refine QW.v rfl rfl (Val.cmp rfl rfl rfl) ?_
            refine QW.v rfl rfl (Val.pick_t rfl rfl) ?_
            refine QW.v rfl rfl (Val.pick_f rfl rfl) ?_
            refine QW.nil ?_
            refine PQ.seq ?_
            refine CW.cond rfl (fun h41 => ?_) (fun h41 => ?_)
            · replace h41 := bT h41
              refine CW.seq ?_
              refine CW.region ?_
              refine LW.v rfl rfl (Val.assign rfl) ?_
              refine LW.nil ?_
              refine PQ.seq ?_
              refine CW.ret ?_
              refine PQ.in_ret ?_
              refine PQ.then_ret ?_
              refine PQ.then_ret ?_
              refine PQ.in_ret ?_
              refine PQ.then_ret ?_
              refine PQ.ret1 rfl rfl ?_
              intro w hw; exact ⟨false, ⟨(fun h => by cases h), fun g => absurd g (may_no hs (.inr (.inr ⟨h34, h41⟩)))⟩, rfl, hw.below⟩
            · replace h41 := bF h41
              refine CW.skip ?_
              refine PQ.in_normal ?_
              refine PQ.seq ?_
              refine CW.region ?_
              refine LW.v rfl rfl (Val.ar rfl rfl rfl (IntWalk.i64_in _ (by omega))) ?_
              refine LW.v rfl rfl (Val.move rfl) ?_
              refine LW.nil ?_
              refine PQ.round (k + 1) ⟨by omega, ok_snoc hJ.2 (fun s' hs' => by have e := hs.symm.trans hs'; cases e; exact ⟨h15, prev_is hq h30, by first | exact .inl h34 | exact .inr h41⟩)⟩ (by omega) (by repeat (first | exact trivial | refine ⟨rfl, ?_⟩)) (by repeat (first | exact .nil | apply Pick.cons | exact .here | apply Ext.there))
          · replace h34 := bF h34
            refine QW.p rfl rfl ?_
            refine QW.p rfl rfl ?_
            refine QW.p rfl rfl ?_
            refine QW.p rfl rfl ?_
            refine QW.p rfl rfl ?_
            refine QW.v rfl rfl (Val.pick_f rfl rfl) ?_
            refine QW.v rfl rfl (Val.pick_f rfl rfl) ?_
            refine QW.nil ?_
            refine PQ.seq ?_
            refine CW.cond_f rfl ?_
            refine CW.skip ?_
            refine PQ.in_normal ?_
            refine PQ.seq ?_
            refine CW.region ?_
            refine LW.v rfl rfl (Val.ar rfl rfl rfl (IntWalk.i64_in _ (by omega))) ?_
            refine LW.v rfl rfl (Val.move rfl) ?_
            refine LW.nil ?_
            refine PQ.round (k + 1) ⟨by omega, ok_snoc hJ.2 (fun s' hs' => by have e := hs.symm.trans hs'; cases e; exact ⟨h15, prev_is hq h30, by first | exact .inl h34 | exact .inr h41⟩)⟩ (by omega) (by repeat (first | exact trivial | refine ⟨rfl, ?_⟩)) (by repeat (first | exact .nil | apply Pick.cons | exact .here | apply Ext.there))
      · replace h18 := bF h18
        refine QW.p rfl rfl ?_
        refine QW.p rfl rfl ?_
        refine QW.p rfl rfl ?_
        refine QW.p rfl rfl ?_
        refine QW.p rfl rfl ?_
        refine QW.p rfl rfl ?_
        refine QW.p rfl rfl ?_
        refine QW.p rfl rfl ?_
        refine QW.p rfl rfl ?_
        refine QW.v rfl rfl (Val.pick_f rfl rfl) ?_
        refine QW.v rfl rfl (Val.pick_f rfl rfl) ?_
        refine QW.v rfl rfl (Val.move rfl) ?_
        refine QW.v rfl rfl (Val.fieldAddr 13 rfl Try.underlying32 rfl rfl Try.sizeOf3) ?_
        refine QW.v rfl rfl (Val.load rfl Try.isAgg3 (by repeat (first | exact .here | refine .there ?_)) (by rfl)) ?_
        refine QW.v rfl rfl (Val.cmp rfl rfl rfl) ?_
        refine QW.v rfl rfl (Val.move rfl) ?_
        refine QW.split (d := 34) rfl (fun h34 => ?_) (fun h34 => ?_)
        · replace h34 := bT h34
          refine QW.v rfl rfl (Val.fieldAddr 13 rfl Try.underlying32 rfl rfl Try.sizeOf3) ?_
          refine QW.v rfl rfl (Val.load rfl Try.isAgg3 (by repeat (first | exact .here | refine .there ?_)) (by rfl)) ?_
          refine QW.v rfl rfl (Val.fieldAddr 12 rfl Try.underlying32 rfl rfl Try.sizeOf3) ?_
          refine QW.v rfl rfl (Val.load rfl Try.isAgg3 (by repeat (first | exact .here | refine .there ?_)) (by rfl)) ?_
          refine QW.v rfl rfl (Val.cmp rfl rfl rfl) ?_
          refine QW.v rfl rfl (Val.pick_t rfl rfl) ?_
          refine QW.v rfl rfl (Val.pick_f rfl rfl) ?_
          refine QW.nil ?_
          refine PQ.seq ?_
          refine CW.cond rfl (fun h41 => ?_) (fun h41 => ?_)
          · replace h41 := bT h41
            refine CW.seq ?_
            refine CW.region ?_
            refine LW.v rfl rfl (Val.assign rfl) ?_
            refine LW.nil ?_
            refine PQ.seq ?_
            refine CW.ret ?_
            refine PQ.in_ret ?_
            refine PQ.then_ret ?_
            refine PQ.then_ret ?_
            refine PQ.in_ret ?_
            refine PQ.then_ret ?_
            refine PQ.ret1 rfl rfl ?_
            intro w hw; exact ⟨false, ⟨(fun h => by cases h), fun g => absurd g (may_no hs (.inr (.inr ⟨h34, h41⟩)))⟩, rfl, hw.below⟩
          · replace h41 := bF h41
            refine CW.skip ?_
            refine PQ.in_normal ?_
            refine PQ.seq ?_
            refine CW.region ?_
            refine LW.v rfl rfl (Val.ar rfl rfl rfl (IntWalk.i64_in _ (by omega))) ?_
            refine LW.v rfl rfl (Val.move rfl) ?_
            refine LW.nil ?_
            refine PQ.round (k + 1) ⟨by omega, ok_snoc hJ.2 (fun s' hs' => by have e := hs.symm.trans hs'; cases e; exact ⟨h15, fun p j hj => by omega, by first | exact .inl h34 | exact .inr h41⟩)⟩ (by omega) (by repeat (first | exact trivial | refine ⟨rfl, ?_⟩)) (by repeat (first | exact .nil | apply Pick.cons | exact .here | apply Ext.there))
        · replace h34 := bF h34
          refine QW.p rfl rfl ?_
          refine QW.p rfl rfl ?_
          refine QW.p rfl rfl ?_
          refine QW.p rfl rfl ?_
          refine QW.p rfl rfl ?_
          refine QW.v rfl rfl (Val.pick_f rfl rfl) ?_
          refine QW.v rfl rfl (Val.pick_f rfl rfl) ?_
          refine QW.nil ?_
          refine PQ.seq ?_
          refine CW.cond_f rfl ?_
          refine CW.skip ?_
          refine PQ.in_normal ?_
          refine PQ.seq ?_
          refine CW.region ?_
          refine LW.v rfl rfl (Val.ar rfl rfl rfl (IntWalk.i64_in _ (by omega))) ?_
          refine LW.v rfl rfl (Val.move rfl) ?_
          refine LW.nil ?_
          refine PQ.round (k + 1) ⟨by omega, ok_snoc hJ.2 (fun s' hs' => by have e := hs.symm.trans hs'; cases e; exact ⟨h15, fun p j hj => by omega, by first | exact .inl h34 | exact .inr h41⟩)⟩ (by omega) (by repeat (first | exact trivial | refine ⟨rfl, ?_⟩)) (by repeat (first | exact .nil | apply Pick.cons | exact .here | apply Ext.there))
  · replace h8 := bF h8
    refine CW.exit ?_
    refine PQ.then_exit ?_
    refine PQ.then_exit ?_
    refine PQ.in_here ?_
    refine PQ.seq ?_
    refine CW.seq ?_
    refine CW.region ?_
    refine LW.v rfl rfl (Val.assign rfl) ?_
    refine LW.nil ?_
    refine PQ.seq ?_
    refine CW.ret ?_
    refine PQ.ret1 rfl rfl ?_
    intro w hw; exact ⟨true, ⟨fun _ i hi => hJ.2 i (by omega), fun _ => rfl⟩, rfl, hw.below⟩
theorem weight_c (c : Cl) (gl : List Cl) (most : Int) (w : World) (hm : 0 ≤ most ∧ most ≤ 100000) (hg : gl.length = c.grp.n) (hs : V.slAt w c.grp.a 5 Cl.cells gl) : Calls Try.prog 52 [.agg c.cells.toArray, .int .i64 most].toArray w
    fun e w' => ∃ z : Int, True ∧ e = .returned (.int .i64 z) ∧ Below w.heap.size w w' := by
  refine V.calls [] Try.func52 rfl Try.ntmps52 (Nat.le_of_ble_eq_true rfl) (V.sat_nil _) ?_
  refine CW.seq ?_
  refine CW.region ?_
  refine LW.e rfl rfl (Eff.boxA rfl) ?_
  intro b2 _
  refine LW.v rfl rfl (Val.assign rfl) ?_
  refine LW.nil ?_
  refine PQ.seq ?_
  refine CW.seq ?_
  refine CW.region ?_
  refine LW.v rfl rfl (Val.assign rfl) ?_
  refine LW.nil ?_
  refine PQ.seq ?_
  refine CW.seq ?_
  refine CW.seq ?_
  refine CW.region ?_
  refine LW.v rfl rfl (Val.fieldAddr 1 rfl Try.underlying24 rfl rfl Try.sizeOf9) ?_
  refine LW.v rfl rfl (Val.load rfl Try.isAgg9 (by repeat (first | exact .here | refine .there ?_)) (by rfl)) ?_
  refine LW.v rfl rfl (Val.lenS rfl Try.underlying9) ?_
  refine LW.v rfl rfl (Val.move rfl) ?_
  refine LW.v rfl rfl (Val.cmp rfl rfl rfl) ?_
  refine LW.v rfl rfl (Val.move rfl) ?_
  refine LW.split (d := 13) rfl (fun h13 => ?_) (fun h13 => ?_)
  · replace h13 := bT h13
    refine LW.p rfl rfl ?_
    refine LW.p rfl rfl ?_
    refine LW.p rfl rfl ?_
    refine LW.p rfl rfl ?_
    refine LW.p rfl rfl ?_
    refine LW.v rfl rfl (Val.pick_t rfl rfl) ?_
    refine LW.v rfl rfl (Val.move rfl) ?_
    refine LW.p rfl rfl ?_
    refine LW.p rfl rfl ?_
    refine LW.p rfl rfl ?_
    refine LW.p rfl rfl ?_
    refine LW.p rfl rfl ?_
    refine LW.v rfl rfl (Val.pick_t rfl rfl) ?_
    refine LW.v rfl rfl (Val.move rfl) ?_
    refine LW.p rfl rfl ?_
    refine LW.p rfl rfl ?_
    refine LW.p rfl rfl ?_
    refine LW.p rfl rfl ?_
    refine LW.p rfl rfl ?_
    refine LW.v rfl rfl (Val.pick_t rfl rfl) ?_
    refine LW.nil ?_
    refine PQ.seq ?_
    refine CW.cond_t rfl ?_
    refine CW.seq ?_
    refine CW.region ?_
    refine LW.v rfl rfl (Val.move rfl) ?_
    refine LW.v rfl rfl (Val.ar rfl rfl rfl (IntWalk.i64_in _ (by omega))) ?_
    refine LW.v rfl rfl (Val.assign rfl) ?_
    refine LW.nil ?_
    refine PQ.seq ?_
    refine CW.ret ?_
    refine PQ.then_ret ?_
    refine PQ.ret1 rfl rfl ?_
    intro w hw; exact ⟨_, trivial, rfl, hw.below⟩
  · replace h13 := bF h13
    refine LW.v rfl rfl (Val.fieldAddr 2 rfl Try.underlying24 rfl rfl Try.sizeOf9) ?_
    refine LW.v rfl rfl (Val.load rfl Try.isAgg9 (by repeat (first | exact .here | refine .there ?_)) (by rfl)) ?_
    refine LW.v rfl rfl (Val.lenS rfl Try.underlying9) ?_
    refine LW.v rfl rfl (Val.move rfl) ?_
    refine LW.v rfl rfl (Val.cmp rfl rfl rfl) ?_
    refine LW.v rfl rfl (Val.pick_f rfl rfl) ?_
    refine LW.v rfl rfl (Val.move rfl) ?_
    refine LW.split (d := 20) rfl (fun h20 => ?_) (fun h20 => ?_)
    · replace h20 := bT h20
      refine LW.p rfl rfl ?_
      refine LW.p rfl rfl ?_
      refine LW.p rfl rfl ?_
      refine LW.p rfl rfl ?_
      refine LW.p rfl rfl ?_
      refine LW.v rfl rfl (Val.pick_t rfl rfl) ?_
      refine LW.v rfl rfl (Val.move rfl) ?_
      refine LW.p rfl rfl ?_
      refine LW.p rfl rfl ?_
      refine LW.p rfl rfl ?_
      refine LW.p rfl rfl ?_
      refine LW.p rfl rfl ?_
      refine LW.v rfl rfl (Val.pick_t rfl rfl) ?_
      refine LW.nil ?_
      refine PQ.seq ?_
      refine CW.cond_t rfl ?_
      refine CW.seq ?_
      refine CW.region ?_
      refine LW.v rfl rfl (Val.move rfl) ?_
      refine LW.v rfl rfl (Val.ar rfl rfl rfl (IntWalk.i64_in _ (by omega))) ?_
      refine LW.v rfl rfl (Val.assign rfl) ?_
      refine LW.nil ?_
      refine PQ.seq ?_
      refine CW.ret ?_
      refine PQ.then_ret ?_
      refine PQ.ret1 rfl rfl ?_
      intro w hw; exact ⟨_, trivial, rfl, hw.below⟩
    · replace h20 := bF h20
      refine LW.v rfl rfl (Val.fieldAddr 3 rfl Try.underlying24 rfl rfl Try.sizeOf9) ?_
      refine LW.v rfl rfl (Val.load rfl Try.isAgg9 (by repeat (first | exact .here | refine .there ?_)) (by rfl)) ?_
      refine LW.v rfl rfl (Val.lenS rfl Try.underlying9) ?_
      refine LW.v rfl rfl (Val.move rfl) ?_
      refine LW.v rfl rfl (Val.cmp rfl rfl rfl) ?_
      refine LW.v rfl rfl (Val.pick_f rfl rfl) ?_
      refine LW.v rfl rfl (Val.move rfl) ?_
      refine LW.split (d := 27) rfl (fun h27 => ?_) (fun h27 => ?_)
      · replace h27 := bT h27
        refine LW.p rfl rfl ?_
        refine LW.p rfl rfl ?_
        refine LW.p rfl rfl ?_
        refine LW.p rfl rfl ?_
        refine LW.p rfl rfl ?_
        refine LW.v rfl rfl (Val.pick_t rfl rfl) ?_
        refine LW.nil ?_
        refine PQ.seq ?_
        refine CW.cond_t rfl ?_
        refine CW.seq ?_
        refine CW.region ?_
        refine LW.v rfl rfl (Val.move rfl) ?_
        refine LW.v rfl rfl (Val.ar rfl rfl rfl (IntWalk.i64_in _ (by omega))) ?_
        refine LW.v rfl rfl (Val.assign rfl) ?_
        refine LW.nil ?_
        refine PQ.seq ?_
        refine CW.ret ?_
        refine PQ.then_ret ?_
        refine PQ.ret1 rfl rfl ?_
        intro w hw; exact ⟨_, trivial, rfl, hw.below⟩
      · replace h27 := bF h27
        refine LW.v rfl rfl (Val.fieldAddr 4 rfl Try.underlying24 rfl rfl Try.sizeOf22) ?_
        refine LW.v rfl rfl (Val.load rfl Try.isAgg22 (by repeat (first | exact .here | refine .there ?_)) (by rfl)) ?_
        refine LW.v rfl rfl (Val.lenSl rfl Try.underlying22) ?_
        refine LW.v rfl rfl (Val.move rfl) ?_
        refine LW.v rfl rfl (Val.cmp rfl rfl rfl) ?_
        refine LW.v rfl rfl (Val.pick_f rfl rfl) ?_
        refine LW.nil ?_
        refine PQ.seq ?_
        refine CW.cond rfl (fun h33 => ?_) (fun h33 => ?_)
        · replace h33 := bT h33
          refine CW.seq ?_
          refine CW.region ?_
          refine LW.v rfl rfl (Val.move rfl) ?_
          refine LW.v rfl rfl (Val.ar rfl rfl rfl (IntWalk.i64_in _ (by omega))) ?_
          refine LW.v rfl rfl (Val.assign rfl) ?_
          refine LW.nil ?_
          refine PQ.seq ?_
          refine CW.ret ?_
          refine PQ.then_ret ?_
          refine PQ.ret1 rfl rfl ?_
          intro w hw; exact ⟨_, trivial, rfl, hw.below⟩
        · replace h33 := bF h33
          refine CW.skip ?_
          refine PQ.seq ?_
          refine CW.seq ?_
          refine CW.region ?_
          refine LW.v rfl rfl (Val.fieldAddr 1 rfl Try.underlying24 rfl rfl Try.sizeOf9) ?_
          refine LW.v rfl rfl (Val.load rfl Try.isAgg9 (by repeat (first | exact .here | refine .there ?_)) (by rfl)) ?_
          refine LW.v rfl rfl (Val.lenS rfl Try.underlying9) ?_
          refine LW.v rfl rfl (Val.fieldAddr 2 rfl Try.underlying24 rfl rfl Try.sizeOf9) ?_
          refine LW.v rfl rfl (Val.load rfl Try.isAgg9 (by repeat (first | exact .here | refine .there ?_)) (by rfl)) ?_
          refine LW.v rfl rfl (Val.lenS rfl Try.underlying9) ?_
          refine LW.v rfl rfl (Val.ar rfl rfl rfl (IntWalk.i64_in _ (by omega))) ?_
          refine LW.v rfl rfl (Val.fieldAddr 3 rfl Try.underlying24 rfl rfl Try.sizeOf9) ?_
          refine LW.v rfl rfl (Val.load rfl Try.isAgg9 (by repeat (first | exact .here | refine .there ?_)) (by rfl)) ?_
          refine LW.v rfl rfl (Val.lenS rfl Try.underlying9) ?_
          refine LW.v rfl rfl (Val.ar rfl rfl rfl (IntWalk.i64_in _ (by omega))) ?_
          refine LW.v rfl rfl (Val.assign rfl) ?_
          refine LW.nil ?_
          refine PQ.seq ?_
          refine CW.seq ?_
          refine CW.seq ?_
          refine CW.region ?_
          refine LW.v rfl rfl (Val.assign rfl) ?_
          refine LW.nil ?_
          refine PQ.seq ?_
          refine CW.block ?_
          refine CW.loop (γ := Nat × Int) (fun k => [(1, .int .i64 most), (2, .pointer (some ⟨b2, 0, none⟩)), (5, .int .i64 k.2), (6, .int .i64 (k.1 : Nat))]) (fun _ => [[(b2, .cells c.cells.toArray 24 (0, 0))]]) (fun k => k.1 ≤ gl.length ∧ 0 ≤ k.2 ∧ k.2 ≤ 4 * most) (fun k => gl.length - k.1) ((0, (c.key.size : Int) + (c.val.size : Int) + (c.to.size : Int))) ⟨Nat.zero_le _, by omega, by simp only; omega⟩ (by repeat (first | exact trivial | refine ⟨rfl, ?_⟩)) (by repeat (first | exact .nil | apply Pick.cons | exact .here | apply Ext.there)) ?_
          intro k
          rintro ⟨hk0, hk1, hk2⟩
          refine CW.seq ?_
          refine CW.seq ?_
          refine CW.region ?_
          refine LW.v rfl rfl (Val.move rfl) ?_
          refine LW.v rfl rfl (Val.fieldAddr 4 rfl Try.underlying24 rfl rfl Try.sizeOf22) ?_
          refine LW.v rfl rfl (Val.load rfl Try.isAgg22 (by repeat (first | exact .here | refine .there ?_)) (by rfl)) ?_
          refine LW.v rfl rfl (Val.lenSl rfl Try.underlying22) ?_
          refine LW.v rfl rfl (Val.cmp rfl rfl rfl) ?_
          refine LW.v rfl rfl (Val.move rfl) ?_
          refine LW.split (d := 52) rfl (fun h52 => ?_) (fun h52 => ?_)
          · replace h52 := bT h52
            refine LW.v rfl rfl (Val.move rfl) ?_
            refine LW.v rfl rfl (Val.move rfl) ?_
            refine LW.v rfl rfl (Val.cmp rfl rfl rfl) ?_
            refine LW.v rfl rfl (Val.pick_t rfl rfl) ?_
            refine LW.nil ?_
            refine PQ.seq ?_
            refine CW.cond rfl (fun h56 => ?_) (fun h56 => ?_)
            · replace h56 := bT h56
              refine CW.skip ?_
              refine PQ.seq ?_
              refine CW.seq ?_
              refine CW.block ?_
              refine CW.seq ?_
              refine CW.region ?_
              refine LW.v rfl rfl (Val.fieldAddr 4 rfl Try.underlying24 rfl rfl Try.sizeOf22) ?_
              refine LW.v rfl rfl (Val.load rfl Try.isAgg22 (by repeat (first | exact .here | refine .there ?_)) (by rfl)) ?_
              refine LW.v rfl rfl (Val.move rfl) ?_
              obtain ⟨bg, og, x', hpa, hbg, hx, hr⟩ := V.slAt_at hs hg (k := k.1) (by omega)
              refine LW.re 60 (.slice (some ⟨bg, og, none⟩) c.grp.n c.grp.c) rfl (by rw [hpa]) ?_
              refine LW.v rfl rfl (Val.indexAddrN rfl rfl Try.underlying22 Try.sizeOf24 (by omega)) ?_
              refine LW.v rfl rfl (Val.loadOA rfl Try.isAgg24 hbg (by simp [ids]) (hr _ _ hx) Try.sizeOf24) ?_
              refine LW.e rfl rfl (Eff.allocA (by exact Try.zeroValue24)) ?_
              intro b7 _
              first | (refine LW.eN rfl (Eff.storeW rfl rfl (by repeat (first | exact .here | apply Upd.there)) (by rfl) Try.sizeOf24 (by rfl)) ?_) | (refine LW.eN rfl (Eff.storeA (l' := _) rfl rfl (by repeat (first | exact .here | apply Upd.there)) (by rfl) (by decide) Try.sizeOf24 (by rfl)) ?_)
              intro _ _
              refine LW.nil ?_
              refine PQ.seq ?_
              refine CW.seq ?_
              refine CW.seq ?_
              refine CW.region ?_
              refine LW.v rfl rfl (Val.fieldAddr 1 rfl Try.underlying24 rfl rfl Try.sizeOf9) ?_
              refine LW.v rfl rfl (Val.load rfl Try.isAgg9 (by repeat (first | exact .here | refine .there ?_)) (by rfl)) ?_
              refine LW.v rfl rfl (Val.lenS rfl Try.underlying9) ?_
              refine LW.v rfl rfl (Val.move rfl) ?_
              refine LW.v rfl rfl (Val.cmp rfl rfl rfl) ?_
              refine LW.v rfl rfl (Val.move rfl) ?_
              refine LW.split (d := 69) rfl (fun h69 => ?_) (fun h69 => ?_)
              · replace h69 := bT h69
                refine LW.p rfl rfl ?_
                refine LW.p rfl rfl ?_
                refine LW.p rfl rfl ?_
                refine LW.p rfl rfl ?_
                refine LW.p rfl rfl ?_
                refine LW.v rfl rfl (Val.pick_t rfl rfl) ?_
                refine LW.v rfl rfl (Val.move rfl) ?_
                refine LW.p rfl rfl ?_
                refine LW.p rfl rfl ?_
                refine LW.p rfl rfl ?_
                refine LW.p rfl rfl ?_
                refine LW.p rfl rfl ?_
                refine LW.v rfl rfl (Val.pick_t rfl rfl) ?_
                refine LW.v rfl rfl (Val.move rfl) ?_
                refine LW.p rfl rfl ?_
                refine LW.p rfl rfl ?_
                refine LW.p rfl rfl ?_
                refine LW.p rfl rfl ?_
                refine LW.v rfl rfl (Val.pick_t rfl rfl) ?_
                refine LW.nil ?_
                refine PQ.seq ?_
                refine CW.cond_t rfl ?_
                refine CW.seq ?_
                refine CW.region ?_
                refine LW.v rfl rfl (Val.move rfl) ?_
                refine LW.v rfl rfl (Val.ar rfl rfl rfl (IntWalk.i64_in _ (by omega))) ?_
                refine LW.v rfl rfl (Val.assign rfl) ?_
                refine LW.nil ?_
                refine PQ.seq ?_
                refine CW.ret ?_
                refine PQ.then_ret ?_
                refine PQ.in_ret ?_
                refine PQ.then_ret ?_
                refine PQ.then_ret ?_
                refine PQ.in_ret ?_
                refine PQ.then_ret ?_
                refine PQ.ret1 rfl rfl ?_
                intro w hw; exact ⟨_, trivial, rfl, hw.below⟩
              · replace h69 := bF h69
                refine LW.v rfl rfl (Val.fieldAddr 2 rfl Try.underlying24 rfl rfl Try.sizeOf9) ?_
                refine LW.v rfl rfl (Val.load rfl Try.isAgg9 (by repeat (first | exact .here | refine .there ?_)) (by rfl)) ?_
                refine LW.v rfl rfl (Val.lenS rfl Try.underlying9) ?_
                refine LW.v rfl rfl (Val.move rfl) ?_
                refine LW.v rfl rfl (Val.cmp rfl rfl rfl) ?_
                refine LW.v rfl rfl (Val.pick_f rfl rfl) ?_
                refine LW.v rfl rfl (Val.move rfl) ?_
                refine LW.split (d := 76) rfl (fun h76 => ?_) (fun h76 => ?_)
                · replace h76 := bT h76
                  refine LW.p rfl rfl ?_
                  refine LW.p rfl rfl ?_
                  refine LW.p rfl rfl ?_
                  refine LW.p rfl rfl ?_
                  refine LW.p rfl rfl ?_
                  refine LW.v rfl rfl (Val.pick_t rfl rfl) ?_
                  refine LW.v rfl rfl (Val.move rfl) ?_
                  refine LW.p rfl rfl ?_
                  refine LW.p rfl rfl ?_
                  refine LW.p rfl rfl ?_
                  refine LW.p rfl rfl ?_
                  refine LW.v rfl rfl (Val.pick_t rfl rfl) ?_
                  refine LW.nil ?_
                  refine PQ.seq ?_
                  refine CW.cond_t rfl ?_
                  refine CW.seq ?_
                  refine CW.region ?_
                  refine LW.v rfl rfl (Val.move rfl) ?_
                  refine LW.v rfl rfl (Val.ar rfl rfl rfl (IntWalk.i64_in _ (by omega))) ?_
                  refine LW.v rfl rfl (Val.assign rfl) ?_
                  refine LW.nil ?_
                  refine PQ.seq ?_
                  refine CW.ret ?_
                  refine PQ.then_ret ?_
                  refine PQ.in_ret ?_
                  refine PQ.then_ret ?_
                  refine PQ.then_ret ?_
                  refine PQ.in_ret ?_
                  refine PQ.then_ret ?_
                  refine PQ.ret1 rfl rfl ?_
                  intro w hw; exact ⟨_, trivial, rfl, hw.below⟩
                · replace h76 := bF h76
                  refine LW.v rfl rfl (Val.fieldAddr 3 rfl Try.underlying24 rfl rfl Try.sizeOf9) ?_
                  refine LW.v rfl rfl (Val.load rfl Try.isAgg9 (by repeat (first | exact .here | refine .there ?_)) (by rfl)) ?_
                  refine LW.v rfl rfl (Val.lenS rfl Try.underlying9) ?_
                  refine LW.v rfl rfl (Val.move rfl) ?_
                  refine LW.v rfl rfl (Val.cmp rfl rfl rfl) ?_
                  refine LW.v rfl rfl (Val.pick_f rfl rfl) ?_
                  refine LW.v rfl rfl (Val.move rfl) ?_
                  refine LW.split (d := 83) rfl (fun h83 => ?_) (fun h83 => ?_)
                  · replace h83 := bT h83
                    refine LW.p rfl rfl ?_
                    refine LW.p rfl rfl ?_
                    refine LW.p rfl rfl ?_
                    refine LW.p rfl rfl ?_
                    refine LW.v rfl rfl (Val.pick_t rfl rfl) ?_
                    refine LW.nil ?_
                    refine PQ.seq ?_
                    refine CW.cond_t rfl ?_
                    refine CW.seq ?_
                    refine CW.region ?_
                    refine LW.v rfl rfl (Val.move rfl) ?_
                    refine LW.v rfl rfl (Val.ar rfl rfl rfl (IntWalk.i64_in _ (by omega))) ?_
                    refine LW.v rfl rfl (Val.assign rfl) ?_
                    refine LW.nil ?_
                    refine PQ.seq ?_
                    refine CW.ret ?_
                    refine PQ.then_ret ?_
                    refine PQ.in_ret ?_
                    refine PQ.then_ret ?_
                    refine PQ.then_ret ?_
                    refine PQ.in_ret ?_
                    refine PQ.then_ret ?_
                    refine PQ.ret1 rfl rfl ?_
                    intro w hw; exact ⟨_, trivial, rfl, hw.below⟩
                  · replace h83 := bF h83
                    refine LW.v rfl rfl (Val.fieldAddr 4 rfl Try.underlying24 rfl rfl Try.sizeOf22) ?_
                    refine LW.v rfl rfl (Val.load rfl Try.isAgg22 (by repeat (first | exact .here | refine .there ?_)) (by rfl)) ?_
                    refine LW.v rfl rfl (Val.lenSl rfl Try.underlying22) ?_
                    refine LW.v rfl rfl (Val.cmp rfl rfl rfl) ?_
                    refine LW.v rfl rfl (Val.pick_f rfl rfl) ?_
                    refine LW.nil ?_
                    refine PQ.seq ?_
                    refine CW.cond rfl (fun h88 => ?_) (fun h88 => ?_)
                    · replace h88 := bT h88
                      refine CW.seq ?_
                      refine CW.region ?_
                      refine LW.v rfl rfl (Val.move rfl) ?_
                      refine LW.v rfl rfl (Val.ar rfl rfl rfl (IntWalk.i64_in _ (by omega))) ?_
                      refine LW.v rfl rfl (Val.assign rfl) ?_
                      refine LW.nil ?_
                      refine PQ.seq ?_
                      refine CW.ret ?_
                      refine PQ.then_ret ?_
                      refine PQ.in_ret ?_
                      refine PQ.then_ret ?_
                      refine PQ.then_ret ?_
                      refine PQ.in_ret ?_
                      refine PQ.then_ret ?_
                      refine PQ.ret1 rfl rfl ?_
                      intro w hw; exact ⟨_, trivial, rfl, hw.below⟩
                    · replace h88 := bF h88
                      refine CW.skip ?_
                      refine PQ.seq ?_
                      refine CW.region ?_
                      refine LW.v rfl rfl (Val.move rfl) ?_
                      refine LW.v rfl rfl (Val.fieldAddr 1 rfl Try.underlying24 rfl rfl Try.sizeOf9) ?_
                      refine LW.v rfl rfl (Val.load rfl Try.isAgg9 (by repeat (first | exact .here | refine .there ?_)) (by rfl)) ?_
                      refine LW.v rfl rfl (Val.lenS rfl Try.underlying9) ?_
                      refine LW.v rfl rfl (Val.ar rfl rfl rfl (IntWalk.i64_in _ (by omega))) ?_
                      refine LW.v rfl rfl (Val.fieldAddr 2 rfl Try.underlying24 rfl rfl Try.sizeOf9) ?_
                      refine LW.v rfl rfl (Val.load rfl Try.isAgg9 (by repeat (first | exact .here | refine .there ?_)) (by rfl)) ?_
                      refine LW.v rfl rfl (Val.lenS rfl Try.underlying9) ?_
                      refine LW.v rfl rfl (Val.ar rfl rfl rfl (IntWalk.i64_in _ (by omega))) ?_
                      refine LW.v rfl rfl (Val.fieldAddr 3 rfl Try.underlying24 rfl rfl Try.sizeOf9) ?_
                      refine LW.v rfl rfl (Val.load rfl Try.isAgg9 (by repeat (first | exact .here | refine .there ?_)) (by rfl)) ?_
                      refine LW.v rfl rfl (Val.lenS rfl Try.underlying9) ?_
                      refine LW.v rfl rfl (Val.ar rfl rfl rfl (IntWalk.i64_in _ (by omega))) ?_
                      refine LW.v rfl rfl (Val.assign rfl) ?_
                      refine LW.nil ?_
                      refine PQ.in_normal ?_
                      refine PQ.seq ?_
                      refine CW.region ?_
                      refine LW.v rfl rfl (Val.move rfl) ?_
                      refine LW.v rfl rfl (Val.ar rfl rfl rfl (IntWalk.i64_in _ (by omega))) ?_
                      refine LW.v rfl rfl (Val.assign rfl) ?_
                      refine LW.nil ?_
                      refine PQ.round ((k.1 + 1, k.2 + (x'.key.size : Int) + (x'.val.size : Int) + (x'.to.size : Int))) ⟨by simp only; omega, by simp only; omega, by simp only; omega⟩ (by simp only; omega) (by repeat (first | exact trivial | refine ⟨rfl, ?_⟩)) (by repeat (first | exact .nil | apply Pick.cons | exact .here | apply Ext.there))
            · replace h56 := bF h56
              refine CW.exit ?_
              refine PQ.then_exit ?_
              refine PQ.then_exit ?_
              refine PQ.in_here ?_
              refine PQ.seq ?_
              refine CW.seq ?_
              refine CW.region ?_
              refine LW.v rfl rfl (Val.move rfl) ?_
              refine LW.v rfl rfl (Val.move rfl) ?_
              refine LW.v rfl rfl (Val.ar rfl rfl rfl (IntWalk.i64_in _ (by omega))) ?_
              refine LW.v rfl rfl (Val.minI rfl rfl) ?_
              refine LW.v rfl rfl (Val.assign rfl) ?_
              refine LW.nil ?_
              refine PQ.seq ?_
              refine CW.ret ?_
              refine PQ.ret1 rfl rfl ?_
              intro w hw; exact ⟨_, trivial, rfl, hw.below⟩
          · replace h52 := bF h52
            refine LW.p rfl rfl ?_
            refine LW.p rfl rfl ?_
            refine LW.p rfl rfl ?_
            refine LW.v rfl rfl (Val.pick_f rfl rfl) ?_
            refine LW.nil ?_
            refine PQ.seq ?_
            refine CW.cond_f rfl ?_
            refine CW.exit ?_
            refine PQ.then_exit ?_
            refine PQ.then_exit ?_
            refine PQ.in_here ?_
            refine PQ.seq ?_
            refine CW.seq ?_
            refine CW.region ?_
            refine LW.v rfl rfl (Val.move rfl) ?_
            refine LW.v rfl rfl (Val.move rfl) ?_
            refine LW.v rfl rfl (Val.ar rfl rfl rfl (IntWalk.i64_in _ (by omega))) ?_
            refine LW.v rfl rfl (Val.minI rfl rfl) ?_
            refine LW.v rfl rfl (Val.assign rfl) ?_
            refine LW.nil ?_
            refine PQ.seq ?_
            refine CW.ret ?_
            refine PQ.ret1 rfl rfl ?_
            intro w hw; exact ⟨_, trivial, rfl, hw.below⟩
theorem large_c (p : Option Addr) (n cap : Nat) (l : List Sto) (w : World) (hn : l.length = n) (h : V.slAt w p 14 Sto.cells l) (ho : ∀ s ∈ l, StoOk w s) : Calls Try.prog 18 [.slice p n cap].toArray w
    fun e w' => ∃ x : Bool, (x = false → n ≤ 60) ∧ e = .returned (.bool x) ∧ Below w.heap.size w w' := by
  refine V.calls [] Try.func18 rfl Try.ntmps18 (Nat.le_of_ble_eq_true rfl) (V.sat_nil _) ?_
  refine CW.seq ?_
  refine CW.region ?_
  refine LW.v rfl rfl (Val.assign rfl) ?_
  refine LW.nil ?_
  refine PQ.seq ?_
  refine CW.seq ?_
  refine CW.seq ?_
  refine CW.region ?_
  refine LW.v rfl rfl (Val.move rfl) ?_
  refine LW.v rfl rfl (Val.lenSl rfl Try.underlying35) ?_
  refine LW.v rfl rfl (Val.cmp rfl rfl rfl) ?_
  refine LW.nil ?_
  refine PQ.seq ?_
  refine CW.cond rfl (fun h6 => ?_) (fun h6 => ?_)
  · replace h6 := bT h6
    refine CW.seq ?_
    refine CW.region ?_
    refine LW.v rfl rfl (Val.assign rfl) ?_
    refine LW.nil ?_
    refine PQ.seq ?_
    refine CW.ret ?_
    refine PQ.then_ret ?_
    refine PQ.ret1 rfl rfl ?_
    intro w hw; exact ⟨_, (fun h => by first | (cases h; done) | omega), rfl, hw.below⟩
  · replace h6 := bF h6
    refine CW.skip ?_
    refine PQ.seq ?_
    refine CW.seq ?_
    refine CW.seq ?_
    refine CW.region ?_
    refine LW.v rfl rfl (Val.assign rfl) ?_
    refine LW.nil ?_
    refine PQ.seq ?_
    refine CW.block ?_
    refine CW.loop (γ := Nat) (fun k => [(0, .slice p n cap), (3, .int .i64 (k : Nat))]) (fun _ => []) (fun k => k ≤ n) (fun k => n - k) (0) (Nat.zero_le _) (by repeat (first | exact trivial | refine ⟨rfl, ?_⟩)) (by repeat (first | exact .nil | apply Pick.cons | exact .here | apply Ext.there)) ?_
    intro k
    intro hJ
    refine CW.seq ?_
    refine CW.seq ?_
    refine CW.region ?_
    refine LW.v rfl rfl (Val.move rfl) ?_
    refine LW.v rfl rfl (Val.move rfl) ?_
    refine LW.v rfl rfl (Val.lenSl rfl Try.underlying35) ?_
    refine LW.v rfl rfl (Val.cmp rfl rfl rfl) ?_
    refine LW.nil ?_
    refine PQ.seq ?_
    refine CW.cond rfl (fun h10 => ?_) (fun h10 => ?_)
    · replace h10 := bT h10
      refine CW.skip ?_
      refine PQ.seq ?_
      refine CW.seq ?_
      refine CW.block ?_
      refine CW.seq ?_
      refine CW.region ?_
      refine LW.v rfl rfl (Val.move rfl) ?_
      refine LW.v rfl rfl (Val.move rfl) ?_
      obtain ⟨b, o, s, rfl, hb, hs, h⟩ := V.slAt_at h hn (k := k) (by omega)
      obtain ⟨gl, hgl, hgs⟩ := ho s (List.mem_of_getElem? hs)
      refine LW.v rfl rfl (Val.indexAddrN rfl rfl Try.underlying35 Try.sizeOf32 (by omega)) ?_
      refine LW.v rfl rfl (Val.fieldAddr 1 rfl Try.underlying32 rfl rfl Try.sizeOf24) ?_
      refine LW.v rfl rfl (Val.loadOA (cs := s.call.cells) rfl Try.isAgg24 hb (by simp [ids]) (V.rangeAt_sub (h k s hs) 1 rfl) Try.sizeOf24) ?_
      refine LW.e rfl rfl (Eff.callR rfl Try.call52 (fun w hw => weight_c s.call gl 600 w (by omega) hgl.symm (hw.slAt hgs (by simp [ids])))) ?_
      intro z _
      refine LW.v rfl rfl (Val.cmp rfl rfl rfl) ?_
      refine LW.v rfl rfl (Val.move rfl) ?_
      refine LW.split (d := 20) rfl (fun h20 => ?_) (fun h20 => ?_)
      · replace h20 := bT h20
        refine LW.p rfl rfl ?_
        refine LW.p rfl rfl ?_
        refine LW.p rfl rfl ?_
        refine LW.p rfl rfl ?_
        refine LW.p rfl rfl ?_
        refine LW.p rfl rfl ?_
        refine LW.p rfl rfl ?_
        refine LW.p rfl rfl ?_
        refine LW.v rfl rfl (Val.pick_t rfl rfl) ?_
        refine LW.v rfl rfl (Val.move rfl) ?_
        refine LW.p rfl rfl ?_
        refine LW.p rfl rfl ?_
        refine LW.p rfl rfl ?_
        refine LW.p rfl rfl ?_
        refine LW.p rfl rfl ?_
        refine LW.p rfl rfl ?_
        refine LW.p rfl rfl ?_
        refine LW.p rfl rfl ?_
        refine LW.v rfl rfl (Val.pick_t rfl rfl) ?_
        refine LW.v rfl rfl (Val.move rfl) ?_
        refine LW.p rfl rfl ?_
        refine LW.p rfl rfl ?_
        refine LW.p rfl rfl ?_
        refine LW.p rfl rfl ?_
        refine LW.p rfl rfl ?_
        refine LW.p rfl rfl ?_
        refine LW.p rfl rfl ?_
        refine LW.p rfl rfl ?_
        refine LW.v rfl rfl (Val.pick_t rfl rfl) ?_
        refine LW.nil ?_
        refine PQ.seq ?_
        refine CW.cond_t rfl ?_
        refine CW.seq ?_
        refine CW.region ?_
        refine LW.v rfl rfl (Val.assign rfl) ?_
        refine LW.nil ?_
        refine PQ.seq ?_
        refine CW.ret ?_
        refine PQ.in_ret ?_
        refine PQ.then_ret ?_
        refine PQ.then_ret ?_
        refine PQ.in_ret ?_
        refine PQ.then_ret ?_
        refine PQ.ret1 rfl rfl ?_
        intro w hw; exact ⟨_, (fun h => by first | (cases h; done) | omega), rfl, hw.below⟩
      · replace h20 := bF h20
        refine LW.v rfl rfl (Val.move rfl) ?_
        refine LW.v rfl rfl (Val.move rfl) ?_
        refine LW.v rfl rfl (Val.indexAddrN rfl rfl Try.underlying35 Try.sizeOf32 (by omega)) ?_
        refine LW.v rfl rfl (Val.fieldAddr 6 rfl Try.underlying32 rfl rfl Try.sizeOf30) ?_
        refine LW.v rfl rfl (Val.fieldAddr 3 rfl Try.underlying30 rfl rfl Try.sizeOf26) ?_
        refine LW.v rfl rfl (Val.loadO rfl Try.isAgg26 hb (by simp [ids]) (h k s hs 9 _ rfl)) ?_
        refine LW.v rfl rfl (Val.lenSl rfl Try.underlying26) ?_
        refine LW.v rfl rfl (Val.cmp rfl rfl rfl) ?_
        refine LW.v rfl rfl (Val.pick_f rfl rfl) ?_
        refine LW.v rfl rfl (Val.move rfl) ?_
        refine LW.split (d := 30) rfl (fun h30 => ?_) (fun h30 => ?_)
        · replace h30 := bT h30
          refine LW.p rfl rfl ?_
          refine LW.p rfl rfl ?_
          refine LW.p rfl rfl ?_
          refine LW.p rfl rfl ?_
          refine LW.p rfl rfl ?_
          refine LW.p rfl rfl ?_
          refine LW.p rfl rfl ?_
          refine LW.p rfl rfl ?_
          refine LW.v rfl rfl (Val.pick_t rfl rfl) ?_
          refine LW.v rfl rfl (Val.move rfl) ?_
          refine LW.p rfl rfl ?_
          refine LW.p rfl rfl ?_
          refine LW.p rfl rfl ?_
          refine LW.p rfl rfl ?_
          refine LW.p rfl rfl ?_
          refine LW.p rfl rfl ?_
          refine LW.p rfl rfl ?_
          refine LW.p rfl rfl ?_
          refine LW.v rfl rfl (Val.pick_t rfl rfl) ?_
          refine LW.nil ?_
          refine PQ.seq ?_
          refine CW.cond_t rfl ?_
          refine CW.seq ?_
          refine CW.region ?_
          refine LW.v rfl rfl (Val.assign rfl) ?_
          refine LW.nil ?_
          refine PQ.seq ?_
          refine CW.ret ?_
          refine PQ.in_ret ?_
          refine PQ.then_ret ?_
          refine PQ.then_ret ?_
          refine PQ.in_ret ?_
          refine PQ.then_ret ?_
          refine PQ.ret1 rfl rfl ?_
          intro w hw; exact ⟨_, (fun h => by first | (cases h; done) | omega), rfl, hw.below⟩
        · replace h30 := bF h30
          refine LW.v rfl rfl (Val.move rfl) ?_
          refine LW.v rfl rfl (Val.move rfl) ?_
          refine LW.v rfl rfl (Val.indexAddrN rfl rfl Try.underlying35 Try.sizeOf32 (by omega)) ?_
          refine LW.v rfl rfl (Val.fieldAddr 6 rfl Try.underlying32 rfl rfl Try.sizeOf30) ?_
          refine LW.v rfl rfl (Val.fieldAddr 4 rfl Try.underlying30 rfl rfl Try.sizeOf27) ?_
          refine LW.v rfl rfl (Val.loadO rfl Try.isAgg27 hb (by simp [ids]) (h k s hs 10 _ rfl)) ?_
          refine LW.v rfl rfl (Val.lenSl rfl Try.underlying27) ?_
          refine LW.v rfl rfl (Val.cmp rfl rfl rfl) ?_
          refine LW.v rfl rfl (Val.pick_f rfl rfl) ?_
          refine LW.v rfl rfl (Val.move rfl) ?_
          refine LW.split (d := 40) rfl (fun h40 => ?_) (fun h40 => ?_)
          · replace h40 := bT h40
            refine LW.p rfl rfl ?_
            refine LW.p rfl rfl ?_
            refine LW.p rfl rfl ?_
            refine LW.p rfl rfl ?_
            refine LW.p rfl rfl ?_
            refine LW.p rfl rfl ?_
            refine LW.p rfl rfl ?_
            refine LW.p rfl rfl ?_
            refine LW.v rfl rfl (Val.pick_t rfl rfl) ?_
            refine LW.nil ?_
            refine PQ.seq ?_
            refine CW.cond_t rfl ?_
            refine CW.seq ?_
            refine CW.region ?_
            refine LW.v rfl rfl (Val.assign rfl) ?_
            refine LW.nil ?_
            refine PQ.seq ?_
            refine CW.ret ?_
            refine PQ.in_ret ?_
            refine PQ.then_ret ?_
            refine PQ.then_ret ?_
            refine PQ.in_ret ?_
            refine PQ.then_ret ?_
            refine PQ.ret1 rfl rfl ?_
            intro w hw; exact ⟨_, (fun h => by first | (cases h; done) | omega), rfl, hw.below⟩
          · replace h40 := bF h40
            refine LW.v rfl rfl (Val.move rfl) ?_
            refine LW.v rfl rfl (Val.move rfl) ?_
            refine LW.v rfl rfl (Val.indexAddrN rfl rfl Try.underlying35 Try.sizeOf32 (by omega)) ?_
            refine LW.v rfl rfl (Val.fieldAddr 6 rfl Try.underlying32 rfl rfl Try.sizeOf30) ?_
            refine LW.v rfl rfl (Val.fieldAddr 2 rfl Try.underlying30 rfl rfl Try.sizeOf9) ?_
            refine LW.v rfl rfl (Val.loadO rfl Try.isAgg9 hb (by simp [ids]) (h k s hs 8 _ rfl)) ?_
            refine LW.v rfl rfl (Val.lenS rfl Try.underlying9) ?_
            refine LW.v rfl rfl (Val.cmp rfl rfl rfl) ?_
            refine LW.v rfl rfl (Val.pick_f rfl rfl) ?_
            refine LW.nil ?_
            refine PQ.seq ?_
            refine CW.cond rfl (fun h49 => ?_) (fun h49 => ?_)
            · replace h49 := bT h49
              refine CW.seq ?_
              refine CW.region ?_
              refine LW.v rfl rfl (Val.assign rfl) ?_
              refine LW.nil ?_
              refine PQ.seq ?_
              refine CW.ret ?_
              refine PQ.in_ret ?_
              refine PQ.then_ret ?_
              refine PQ.then_ret ?_
              refine PQ.in_ret ?_
              refine PQ.then_ret ?_
              refine PQ.ret1 rfl rfl ?_
              intro w hw; exact ⟨_, (fun h => by first | (cases h; done) | omega), rfl, hw.below⟩
            · replace h49 := bF h49
              refine CW.skip ?_
              refine PQ.in_normal ?_
              refine PQ.seq ?_
              refine CW.region ?_
              refine LW.v rfl rfl (Val.move rfl) ?_
              refine LW.v rfl rfl (Val.ar rfl rfl rfl (IntWalk.i64_in _ (by omega))) ?_
              refine LW.v rfl rfl (Val.assign rfl) ?_
              refine LW.nil ?_
              refine PQ.round (k + 1) (by omega) (by omega) (by repeat (first | exact trivial | refine ⟨rfl, ?_⟩)) (by repeat (first | exact .nil | apply Pick.cons | exact .here | apply Ext.there))
    · replace h10 := bF h10
      refine CW.exit ?_
      refine PQ.then_exit ?_
      refine PQ.then_exit ?_
      refine PQ.in_here ?_
      refine PQ.seq ?_
      refine CW.seq ?_
      refine CW.region ?_
      refine LW.v rfl rfl (Val.assign rfl) ?_
      refine LW.nil ?_
      refine PQ.seq ?_
      refine CW.ret ?_
      refine PQ.ret1 rfl rfl ?_
      intro w hw; exact ⟨_, (fun h => by first | (cases h; done) | omega), rfl, hw.below⟩
def stA : Sto := ⟨0, ⟨0, ⟨#[]⟩, ⟨#[]⟩, ⟨#[]⟩, ⟨none, 0, 0⟩⟩, 0, false, ⟨#[]⟩, ⟨none, 0, 0⟩, ⟨none, 0, 0⟩, 0, 1, 4⟩
def stB : Sto := ⟨0, ⟨0, ⟨#[]⟩, ⟨#[]⟩, ⟨#[]⟩, ⟨none, 0, 0⟩⟩, 0, false, ⟨#[]⟩, ⟨none, 0, 0⟩, ⟨none, 0, 0⟩, 0, 5, -1⟩
theorem may_AB : May [stA, stB] := by
  intro i hi s hs
  match i, hi with
  | 0, _ => cases hs; exact ⟨by decide, fun p j hj => by omega, .inr (by decide)⟩
  | 1, _ => cases hs; exact ⟨by decide, fun p j hj hp => by obtain rfl : j = 0 := by omega
                                                            cases hp; decide, .inl rfl⟩
theorem may_BA : ¬ May [stB, stA] := fun h => by
  have := (h 1 (by decide) stA rfl).2.1 stB 0 rfl rfl
  exact absurd this (by decide)
theorem sto_len (s : Sto) : s.cells.length = 14 := rfl
theorem cl_len (s : Cl) : s.cells.length = 5 := rfl
theorem places32 : ∀ w, ((Array.mapM (fun (f : Field) => do pure (f.offset, ← sizeOf f.type)) (Try.prog.fieldsOf 32) : Sem (Array (Nat × Nat)))).run Try.prog w = .ok [(0, 1), (1, 5), (6, 6), (12, 1), (13, 1)].toArray w := by
  intro w; kernel_rfl
theorem awake24_c (w : World) : Calls Try.prog 17 [].toArray w fun e w' => e = .returned (.bool true) ∧ Below w.heap.size w w' := by
  refine V.calls [] Try.func17 rfl Try.ntmps17 (Nat.le_of_ble_eq_true rfl) (V.sat_nil _) ?_
  refine CW.seq ?_
  refine CW.region ?_
  refine LW.v rfl rfl (Val.assign rfl) ?_
  refine LW.nil ?_
  refine PQ.seq ?_
  refine CW.seq ?_
  refine CW.region ?_
  refine LW.v rfl rfl (Val.build [_, _, _, _, _, _, _, _, _, _, _, _, _, _] Try.zeroValue32 Try.underlying32 places32 rfl (by rfl)) ?_
  refine LW.v rfl rfl (Val.build [_, _, _, _, _, _, _, _, _, _, _, _, _, _] Try.zeroValue32 Try.underlying32 places32 rfl (by rfl)) ?_
  refine LW.e rfl rfl (Eff.allocA (by exact Try.zeroValue32)) ?_
  intro b1 _
  refine LW.e rfl rfl (Eff.allocA (by exact Try.zeroValue32)) ?_
  intro b2 _
  first | (refine LW.eN rfl (Eff.storeW rfl rfl (by repeat (first | exact .here | apply Upd.there)) (by rfl) Try.sizeOf32 (by rfl)) ?_) | (refine LW.eN rfl (Eff.storeA (l' := _) rfl rfl (by repeat (first | exact .here | apply Upd.there)) (by rfl) (by decide) Try.sizeOf32 (by rfl)) ?_)
  intro _ _
  first | (refine LW.eN rfl (Eff.storeW rfl rfl (by repeat (first | exact .here | apply Upd.there)) (by rfl) Try.sizeOf32 (by rfl)) ?_) | (refine LW.eN rfl (Eff.storeA (l' := _) rfl rfl (by repeat (first | exact .here | apply Upd.there)) (by rfl) (by decide) Try.sizeOf32 (by rfl)) ?_)
  intro _ _
  refine LW.nil ?_
  refine PQ.seq ?_
  refine CW.seq ?_
  refine CW.region ?_
  first | (refine LW.v rfl rfl (Val.loadW rfl Try.isAgg32 (by repeat (first | exact .here | refine .there ?_)) (by exact Try.sizeOf32)) ?_) | (refine LW.v rfl rfl (Val.loadA [_, _, _, _, _, _, _, _, _, _, _, _, _, _] rfl Try.isAgg32 (by repeat (first | exact .here | refine .there ?_)) (by rfl) Try.sizeOf32) ?_)
  first | (refine LW.v rfl rfl (Val.loadW rfl Try.isAgg32 (by repeat (first | exact .here | refine .there ?_)) (by exact Try.sizeOf32)) ?_) | (refine LW.v rfl rfl (Val.loadA [_, _, _, _, _, _, _, _, _, _, _, _, _, _] rfl Try.isAgg32 (by repeat (first | exact .here | refine .there ?_)) (by rfl) Try.sizeOf32) ?_)
  refine LW.e rfl rfl (Eff.callV rfl Try.call15 (fun w hw => before_c stA stB w)) ?_
  intro _ _
  refine LW.re 7 (.bool true) rfl (by rfl) ?_
  refine LW.v rfl rfl (Val.move rfl) ?_
  first | (refine LW.v rfl rfl (Val.loadW rfl Try.isAgg32 (by repeat (first | exact .here | refine .there ?_)) (by exact Try.sizeOf32)) ?_) | (refine LW.v rfl rfl (Val.loadA [_, _, _, _, _, _, _, _, _, _, _, _, _, _] rfl Try.isAgg32 (by repeat (first | exact .here | refine .there ?_)) (by rfl) Try.sizeOf32) ?_)
  first | (refine LW.v rfl rfl (Val.loadW rfl Try.isAgg32 (by repeat (first | exact .here | refine .there ?_)) (by exact Try.sizeOf32)) ?_) | (refine LW.v rfl rfl (Val.loadA [_, _, _, _, _, _, _, _, _, _, _, _, _, _] rfl Try.isAgg32 (by repeat (first | exact .here | refine .there ?_)) (by rfl) Try.sizeOf32) ?_)
  refine LW.e rfl rfl (Eff.callV rfl Try.call15 (fun w hw => before_c stB stA w)) ?_
  intro _ _
  refine LW.re 11 (.bool false) rfl (by rfl) ?_
  refine LW.v rfl rfl (Val.not rfl) ?_
  refine LW.v rfl rfl (Val.pick_t rfl rfl) ?_
  refine LW.v rfl rfl (Val.move rfl) ?_
  first | (refine LW.v rfl rfl (Val.loadW rfl Try.isAgg32 (by repeat (first | exact .here | refine .there ?_)) (by exact Try.sizeOf32)) ?_) | (refine LW.v rfl rfl (Val.loadA [_, _, _, _, _, _, _, _, _, _, _, _, _, _] rfl Try.isAgg32 (by repeat (first | exact .here | refine .there ?_)) (by rfl) Try.sizeOf32) ?_)
  first | (refine LW.v rfl rfl (Val.loadW rfl Try.isAgg32 (by repeat (first | exact .here | refine .there ?_)) (by exact Try.sizeOf32)) ?_) | (refine LW.v rfl rfl (Val.loadA [_, _, _, _, _, _, _, _, _, _, _, _, _, _] rfl Try.isAgg32 (by repeat (first | exact .here | refine .there ?_)) (by rfl) Try.sizeOf32) ?_)
  refine LW.e rfl rfl (Eff.buildSlice (rfl) [_, _, _, _, _, _, _, _, _, _, _, _, _, _, _, _, _, _, _, _, _, _, _, _, _, _, _, _] Try.underlying35 Try.sizeOf32 (by exact Try.zeroValue32) rfl rfl rfl rfl (by rfl)) ?_
  intro b17 _
  refine LW.e rfl rfl (Eff.callR rfl Try.call19 (fun w hw => may_c (some ⟨b17, 0, none⟩) 2 2 [stA, stB] w rfl (V.slAt_flat hw sto_len (r := []) rfl (by repeat (first | exact .here | refine .there ?_))) (by omega))) ?_
  intro x hx
  obtain rfl : x = true := hx.2 may_AB
  refine LW.v rfl rfl (Val.pick_t rfl rfl) ?_
  refine LW.v rfl rfl (Val.move rfl) ?_
  first | (refine LW.v rfl rfl (Val.loadW rfl Try.isAgg32 (by repeat (first | exact .here | refine .there ?_)) (by exact Try.sizeOf32)) ?_) | (refine LW.v rfl rfl (Val.loadA [_, _, _, _, _, _, _, _, _, _, _, _, _, _] rfl Try.isAgg32 (by repeat (first | exact .here | refine .there ?_)) (by rfl) Try.sizeOf32) ?_)
  first | (refine LW.v rfl rfl (Val.loadW rfl Try.isAgg32 (by repeat (first | exact .here | refine .there ?_)) (by exact Try.sizeOf32)) ?_) | (refine LW.v rfl rfl (Val.loadA [_, _, _, _, _, _, _, _, _, _, _, _, _, _] rfl Try.isAgg32 (by repeat (first | exact .here | refine .there ?_)) (by rfl) Try.sizeOf32) ?_)
  refine LW.e rfl rfl (Eff.buildSlice (rfl) [_, _, _, _, _, _, _, _, _, _, _, _, _, _, _, _, _, _, _, _, _, _, _, _, _, _, _, _] Try.underlying35 Try.sizeOf32 (by exact Try.zeroValue32) rfl rfl rfl rfl (by rfl)) ?_
  intro b23 _
  refine LW.e rfl rfl (Eff.callR rfl Try.call19 (fun w hw => may_c (some ⟨b23, 0, none⟩) 2 2 [stB, stA] w rfl (V.slAt_flat hw sto_len (r := []) rfl (by repeat (first | exact .here | refine .there ?_))) (by omega))) ?_
  intro x hx
  obtain rfl : x = false := by
    cases x
    · rfl
    · exact absurd (hx.1 rfl) may_BA
  refine LW.v rfl rfl (Val.not rfl) ?_
  refine LW.v rfl rfl (Val.pick_t rfl rfl) ?_
  refine LW.v rfl rfl (Val.assign rfl) ?_
  refine LW.nil ?_
  refine PQ.seq ?_
  refine CW.ret ?_
  refine PQ.ret1 rfl rfl ?_
  intro w hw; exact ⟨rfl, hw.below⟩
theorem storyBefore_c (a b : Sto) (w : World) : Calls Try.prog 3 [.agg a.cells.toArray, .agg b.cells.toArray].toArray w fun e w' => e = .returned (.bool true) ∧ Below w.heap.size w w' := by
  refine V.calls [] Try.func3 rfl Try.ntmps3 (Nat.le_of_ble_eq_true rfl) (V.sat_nil _) ?_
  refine CW.seq ?_
  refine CW.region ?_
  refine LW.e rfl rfl (Eff.boxA rfl) ?_
  intro b2 _
  refine LW.e rfl rfl (Eff.boxA rfl) ?_
  intro b3 _
  refine LW.v rfl rfl (Val.assign rfl) ?_
  refine LW.nil ?_
  refine PQ.seq ?_
  refine CW.seq ?_
  refine CW.quiet mixed (by kernel_rfl) ?_
  first | (refine QW.v rfl rfl (Val.loadW rfl Try.isAgg32 (by repeat (first | exact .here | refine .there ?_)) (by exact Try.sizeOf32)) ?_) | (refine QW.v rfl rfl (Val.loadA [_, _, _, _, _, _, _, _, _, _, _, _, _, _] rfl Try.isAgg32 (by repeat (first | exact .here | refine .there ?_)) (by rfl) Try.sizeOf32) ?_)
  first | (refine QW.v rfl rfl (Val.loadW rfl Try.isAgg32 (by repeat (first | exact .here | refine .there ?_)) (by exact Try.sizeOf32)) ?_) | (refine QW.v rfl rfl (Val.loadA [_, _, _, _, _, _, _, _, _, _, _, _, _, _] rfl Try.isAgg32 (by repeat (first | exact .here | refine .there ?_)) (by rfl) Try.sizeOf32) ?_)
  refine QW.c rfl rfl (Qcall.of rfl Try.call15 (fun w hw => before_c a b w)) ?_
  first | (refine QW.v rfl rfl (Val.loadW rfl Try.isAgg32 (by repeat (first | exact .here | refine .there ?_)) (by exact Try.sizeOf32)) ?_) | (refine QW.v rfl rfl (Val.loadA [_, _, _, _, _, _, _, _, _, _, _, _, _, _] rfl Try.isAgg32 (by repeat (first | exact .here | refine .there ?_)) (by rfl) Try.sizeOf32) ?_)
  first | (refine QW.v rfl rfl (Val.loadW rfl Try.isAgg32 (by repeat (first | exact .here | refine .there ?_)) (by exact Try.sizeOf32)) ?_) | (refine QW.v rfl rfl (Val.loadA [_, _, _, _, _, _, _, _, _, _, _, _, _, _] rfl Try.isAgg32 (by repeat (first | exact .here | refine .there ?_)) (by rfl) Try.sizeOf32) ?_)
  refine QW.c rfl rfl (Qcall.of rfl Try.call16 (fun w hw => refBefore_c a b w)) ?_
  refine QW.v rfl rfl (Val.eqB rfl rfl Try.underlying4) ?_
  refine QW.re 11 (.bool true) rfl (by simp) ?_
  refine QW.v rfl rfl (Val.move rfl) ?_
  refine QW.c rfl rfl (Qcall.of rfl Try.call17 (fun w hw => awake24_c w)) ?_
  refine QW.v rfl rfl (Val.pick_t rfl rfl) ?_
  refine QW.v rfl rfl (Val.assign rfl) ?_
  refine QW.nil ?_
  refine PQ.seq ?_
  refine CW.ret ?_
  refine PQ.ret1 rfl rfl ?_
  intro w hw; exact ⟨rfl, hw.below⟩
theorem May.mono {l : List Sto} (hM : May l) : ∀ (d i : Nat) (a b : Sto), l[i]? = some a → l[i + d]? = some b → a.bg ≤ b.bg
  | 0, i, a, b, ha, hb => by rw [Nat.add_zero, ha] at hb; cases hb; exact Int.le_refl _
  | d + 1, i, a, b, ha, hb => by
    have hlt := (List.getElem?_eq_some_iff.1 hb).1
    have hc : l[i + d]? = some (l[i + d]'(by omega)) := List.getElem?_eq_getElem _
    have h1 := May.mono hM d i a _ ha hc
    have h2 := (hM (i + (d + 1)) hlt b hb).2.1 _ (i + d) (by omega) hc
    omega
theorem before_true {a b : Sto} (h : a.before b = true) : 0 ≤ a.en ∧ a.en < b.bg := by simpa [Sto.before] using h
theorem May.lt {l : List Sto} (hM : May l) {i j : Nat} {a b : Sto} (ha : l[i]? = some a) (hb : l[j]? = some b) (h : a.before b = true) : i < j := by
  rcases Nat.lt_or_ge i j with h' | h'
  · exact h'
  · obtain ⟨h1, h2⟩ := before_true h
    have h3 := hM.mono (i - j) j b a hb (by rw [show j + (i - j) = i by omega]; exact ha)
    have h4 := (hM i (List.getElem?_eq_some_iff.1 ha).1 a ha).2.2
    omega
theorem May.asym {l : List Sto} (hM : May l) {i j : Nat} {a b : Sto} (ha : l[i]? = some a) (hb : l[j]? = some b) (h : a.before b = true) : b.before a = false := by
  cases h' : b.before a
  · rfl
  · have := hM.lt ha hb h
    have := hM.lt hb ha h'
    omega
theorem May.trans {l : List Sto} (hM : May l) {j : Nat} {a b c : Sto} (hb : l[j]? = some b) (h : a.before b = true) (h' : b.before c = true) : a.before c = true := by
  obtain ⟨h1, h2⟩ := before_true h
  obtain ⟨h3, h4⟩ := before_true h'
  have h5 := (hM j (List.getElem?_eq_some_iff.1 hb).1 b hb).2.2
  simp only [Sto.before, Bool.and_eq_true, decide_eq_true_eq]
  omega
theorem storyOrder_c (p : Option Addr) (n cap : Nat) (l : List Sto) (w : World) (hn : l.length = n) (h : V.slAt w p 14 Sto.cells l) (ho : ∀ s ∈ l, StoOk w s) : Calls Try.prog 4 [.slice p n cap].toArray w
    fun e w' => e = .returned (.bool true) ∧ Below w.heap.size w w' := by
  refine V.calls [] Try.func4 rfl Try.ntmps4 (Nat.le_of_ble_eq_true rfl) (V.sat_nil _) ?_
  refine CW.seq ?_
  refine CW.region ?_
  refine LW.v rfl rfl (Val.assign rfl) ?_
  refine LW.nil ?_
  refine PQ.seq ?_
  refine CW.seq ?_
  refine CW.seq ?_
  refine CW.region ?_
  refine LW.v rfl rfl (Val.move rfl) ?_
  refine LW.e rfl rfl (Eff.callR rfl Try.call18 (fun w hw => large_c p n cap l w hn (hw.slAt h (by simp [ids])) (fun s hs => (ho s hs).hp hw))) ?_
  intro x hx
  refine LW.v rfl rfl (Val.move rfl) ?_
  refine LW.split (d := 9) rfl (fun h9 => ?_) (fun h9 => ?_)
  · replace h9 := bT h9
    refine LW.p rfl rfl ?_
    refine LW.p rfl rfl ?_
    refine LW.p rfl rfl ?_
    refine LW.v rfl rfl (Val.pick_t rfl rfl) ?_
    refine LW.v rfl rfl (Val.move rfl) ?_
    refine LW.p rfl rfl ?_
    refine LW.p rfl rfl ?_
    refine LW.p rfl rfl ?_
    refine LW.v rfl rfl (Val.pick_t rfl rfl) ?_
    refine LW.nil ?_
    refine PQ.seq ?_
    refine CW.cond_t rfl ?_
    refine CW.seq ?_
    refine CW.region ?_
    refine LW.e rfl rfl (Eff.callV rfl Try.call17 (fun w hw => awake24_c w)) ?_
    intro _ _
    refine LW.v rfl rfl (Val.assign rfl) ?_
    refine LW.nil ?_
    refine PQ.seq ?_
    refine CW.ret ?_
    refine PQ.then_ret ?_
    refine PQ.ret1 rfl rfl ?_
    intro w hw; exact ⟨rfl, hw.below⟩
  · replace h9 := bF h9
    have hx' := hx h9
    refine LW.v rfl rfl (Val.move rfl) ?_
    refine LW.v rfl rfl (Val.lenSl rfl Try.underlying35) ?_
    refine LW.v rfl rfl (Val.cmp rfl rfl rfl) ?_
    refine LW.v rfl rfl (Val.pick_f rfl rfl) ?_
    refine LW.v rfl rfl (Val.move rfl) ?_
    refine LW.split (d := 14) rfl (fun h14 => ?_) (fun h14 => ?_)
    · replace h14 := bT h14
      refine LW.p rfl rfl ?_
      refine LW.p rfl rfl ?_
      refine LW.p rfl rfl ?_
      refine LW.v rfl rfl (Val.pick_t rfl rfl) ?_
      refine LW.nil ?_
      refine PQ.seq ?_
      refine CW.cond_t rfl ?_
      refine CW.seq ?_
      refine CW.region ?_
      refine LW.e rfl rfl (Eff.callV rfl Try.call17 (fun w hw => awake24_c w)) ?_
      intro _ _
      refine LW.v rfl rfl (Val.assign rfl) ?_
      refine LW.nil ?_
      refine PQ.seq ?_
      refine CW.ret ?_
      refine PQ.then_ret ?_
      refine PQ.ret1 rfl rfl ?_
      intro w hw; exact ⟨rfl, hw.below⟩
    · replace h14 := bF h14
      refine LW.v rfl rfl (Val.move rfl) ?_
      refine LW.e rfl rfl (Eff.callR rfl Try.call19 (fun w hw => may_c p n cap l w hn (hw.slAt h (by simp [ids])) (by omega))) ?_
      intro y hM
      refine LW.v rfl rfl (Val.not rfl) ?_
      refine LW.v rfl rfl (Val.pick_f rfl rfl) ?_
      refine LW.nil ?_
      refine PQ.seq ?_
      refine CW.cond rfl (fun h18 => ?_) (fun h18 => ?_)
      · replace h18 := bT h18
        refine CW.seq ?_
        refine CW.region ?_
        refine LW.e rfl rfl (Eff.callV rfl Try.call17 (fun w hw => awake24_c w)) ?_
        intro _ _
        refine LW.v rfl rfl (Val.assign rfl) ?_
        refine LW.nil ?_
        refine PQ.seq ?_
        refine CW.ret ?_
        refine PQ.then_ret ?_
        refine PQ.ret1 rfl rfl ?_
        intro w hw; exact ⟨rfl, hw.below⟩
      · replace h18 := bF h18
        have hM : May l := hM.1 h18
        refine CW.skip ?_
        refine PQ.seq ?_
        refine CW.seq ?_
        refine CW.seq ?_
        refine CW.region ?_
        refine LW.v rfl rfl (Val.assign rfl) ?_
        refine LW.nil ?_
        refine PQ.seq ?_
        refine CW.block ?_
        refine CW.loop (γ := Nat) (fun i => [(0, .slice p n cap), (3, .int .i64 (i : Nat))]) (fun _ => []) (fun i => i ≤ n) (fun i => n - i) (0) (Nat.zero_le _) (by repeat (first | exact trivial | refine ⟨rfl, ?_⟩)) (by repeat (first | exact .nil | apply Pick.cons | exact .here | apply Ext.there)) ?_
        intro i
        intro hi
        refine CW.seq ?_
        refine CW.seq ?_
        refine CW.region ?_
        refine LW.v rfl rfl (Val.move rfl) ?_
        refine LW.v rfl rfl (Val.move rfl) ?_
        refine LW.v rfl rfl (Val.lenSl rfl Try.underlying35) ?_
        refine LW.v rfl rfl (Val.cmp rfl rfl rfl) ?_
        refine LW.nil ?_
        refine PQ.seq ?_
        refine CW.cond rfl (fun h23 => ?_) (fun h23 => ?_)
        · replace h23 := bT h23
          refine CW.skip ?_
          refine PQ.seq ?_
          refine CW.seq ?_
          refine CW.block ?_
          refine CW.seq ?_
          refine CW.region ?_
          refine LW.v rfl rfl (Val.assign rfl) ?_
          refine LW.nil ?_
          refine PQ.seq ?_
          refine CW.block ?_
          obtain ⟨b, o, si, rfl, hb, hsi, h⟩ := V.slAt_at h hn (k := i) (by omega)
          refine CW.loop (γ := Nat) (fun j => [(0, .slice (some ⟨b, o, none⟩) n cap), (3, .int .i64 (i : Nat)), (4, .int .i64 (j : Nat))]) (fun _ => []) (fun j => j ≤ n) (fun j => n - j) (0) (Nat.zero_le _) (by repeat (first | exact trivial | refine ⟨rfl, ?_⟩)) (by repeat (first | exact .nil | apply Pick.cons | exact .here | apply Ext.there)) ?_
          intro j
          intro hj
          refine CW.seq ?_
          refine CW.seq ?_
          refine CW.region ?_
          refine LW.v rfl rfl (Val.move rfl) ?_
          refine LW.v rfl rfl (Val.move rfl) ?_
          refine LW.v rfl rfl (Val.lenSl rfl Try.underlying35) ?_
          refine LW.v rfl rfl (Val.cmp rfl rfl rfl) ?_
          refine LW.nil ?_
          refine PQ.seq ?_
          refine CW.cond rfl (fun h29 => ?_) (fun h29 => ?_)
          · replace h29 := bT h29
            refine CW.skip ?_
            refine PQ.seq ?_
            refine CW.seq ?_
            refine CW.block ?_
            refine CW.seq ?_
            refine CW.quiet mixed (by kernel_rfl) ?_
            refine QW.v rfl rfl (Val.move rfl) ?_
            refine QW.v rfl rfl (Val.move rfl) ?_
            refine QW.v rfl rfl (Val.indexAddrN rfl rfl Try.underlying35 Try.sizeOf32 (by omega)) ?_
            refine QW.v rfl rfl (Val.loadOA rfl Try.isAgg32 hb (by simp [ids]) (h _ _ hsi) Try.sizeOf32) ?_
            refine QW.v rfl rfl (Val.move rfl) ?_
            refine QW.v rfl rfl (Val.move rfl) ?_
            obtain ⟨sj, hsj⟩ : ∃ s, l[j]? = some s := ⟨l[j]'(by omega), by simp⟩
            refine QW.v rfl rfl (Val.indexAddrN rfl rfl Try.underlying35 Try.sizeOf32 (by omega)) ?_
            refine QW.v rfl rfl (Val.loadOA rfl Try.isAgg32 hb (by simp [ids]) (h _ _ hsj) Try.sizeOf32) ?_
            refine QW.c rfl rfl (Qcall.of rfl Try.call15 (fun w hw => before_c si sj w)) ?_
            refine QW.split (d := 40) rfl (fun h40 => ?_) (fun h40 => ?_)
            · replace h40 := bT h40
              refine QW.v rfl rfl (Val.assign rfl) ?_
              refine QW.nil ?_
              refine PQ.seq ?_
              refine CW.seq ?_
              refine CW.seq ?_
              refine CW.quiet mixed (by kernel_rfl) ?_
              refine QW.v rfl rfl (Val.move rfl) ?_
              refine QW.v rfl rfl (Val.move rfl) ?_
              refine QW.v rfl rfl (Val.move rfl) ?_
              refine QW.v rfl rfl (Val.move rfl) ?_
              refine QW.v rfl rfl (Val.cmp rfl rfl rfl) ?_
              have hij := May.lt hM hsi hsj h40
              refine QW.v rfl rfl (Val.move rfl) ?_
              refine QW.split (d := 46) rfl (fun h46 => ?_) (fun h46 => ?_)
              · exact absurd (bT h46) (by omega)
              · replace h46 := bF h46
                refine QW.v rfl rfl (Val.move rfl) ?_
                refine QW.v rfl rfl (Val.move rfl) ?_
                refine QW.v rfl rfl (Val.indexAddrN rfl rfl Try.underlying35 Try.sizeOf32 (by omega)) ?_
                refine QW.v rfl rfl (Val.loadOA rfl Try.isAgg32 hb (by simp [ids]) (h _ _ hsj) Try.sizeOf32) ?_
                refine QW.v rfl rfl (Val.move rfl) ?_
                refine QW.v rfl rfl (Val.move rfl) ?_
                refine QW.v rfl rfl (Val.indexAddrN rfl rfl Try.underlying35 Try.sizeOf32 (by omega)) ?_
                refine QW.v rfl rfl (Val.loadOA rfl Try.isAgg32 hb (by simp [ids]) (h _ _ hsi) Try.sizeOf32) ?_
                refine QW.c rfl rfl (Qcall.of rfl Try.call15 (fun w hw => before_c sj si w)) ?_
                refine QW.re 55 (.bool false) rfl (by rw [May.asym hM hsi hsj h40]) ?_
                refine QW.v rfl rfl (Val.pick_f rfl rfl) ?_
                refine QW.v rfl rfl (Val.pick_t rfl rfl) ?_
                refine QW.nil ?_
                refine PQ.seq ?_
                refine CW.cond_f rfl ?_
                refine CW.skip ?_
                refine PQ.seq ?_
                refine CW.seq ?_
                refine CW.region ?_
                refine LW.v rfl rfl (Val.assign rfl) ?_
                refine LW.nil ?_
                refine PQ.seq ?_
                refine CW.block ?_
                refine CW.loop (γ := Nat) (fun k => [(0, .slice (some ⟨b, o, none⟩) n cap), (3, .int .i64 (i : Nat)), (4, .int .i64 (j : Nat)), (5, .bool true), (6, .int .i64 (k : Nat))]) (fun _ => []) (fun k => k ≤ n) (fun k => n - k) (0) (Nat.zero_le _) (by repeat (first | exact trivial | refine ⟨rfl, ?_⟩)) (by repeat (first | exact .nil | apply Pick.cons | exact .here | apply Ext.there)) ?_
                intro k
                intro hk
                refine CW.seq ?_
                refine CW.seq ?_
                refine CW.region ?_
                refine LW.v rfl rfl (Val.move rfl) ?_
                refine LW.v rfl rfl (Val.move rfl) ?_
                refine LW.v rfl rfl (Val.move rfl) ?_
                refine LW.v rfl rfl (Val.move rfl) ?_
                refine LW.v rfl rfl (Val.lenSl rfl Try.underlying35) ?_
                refine LW.v rfl rfl (Val.cmp rfl rfl rfl) ?_
                refine LW.v rfl rfl (Val.pick_t rfl rfl) ?_
                refine LW.nil ?_
                refine PQ.seq ?_
                refine CW.cond rfl (fun h64 => ?_) (fun h64 => ?_)
                · replace h64 := bT h64
                  refine CW.skip ?_
                  refine PQ.seq ?_
                  refine CW.seq ?_
                  refine CW.block ?_
                  refine CW.seq ?_
                  refine CW.quiet mixed (by kernel_rfl) ?_
                  refine QW.v rfl rfl (Val.move rfl) ?_
                  refine QW.v rfl rfl (Val.move rfl) ?_
                  refine QW.v rfl rfl (Val.indexAddrN rfl rfl Try.underlying35 Try.sizeOf32 (by omega)) ?_
                  refine QW.v rfl rfl (Val.loadOA rfl Try.isAgg32 hb (by simp [ids]) (h _ _ hsj) Try.sizeOf32) ?_
                  refine QW.v rfl rfl (Val.move rfl) ?_
                  refine QW.v rfl rfl (Val.move rfl) ?_
                  obtain ⟨sk, hsk⟩ : ∃ s, l[k]? = some s := ⟨l[k]'(by omega), by simp⟩
                  refine QW.v rfl rfl (Val.indexAddrN rfl rfl Try.underlying35 Try.sizeOf32 (by omega)) ?_
                  refine QW.v rfl rfl (Val.loadOA rfl Try.isAgg32 hb (by simp [ids]) (h _ _ hsk) Try.sizeOf32) ?_
                  refine QW.c rfl rfl (Qcall.of rfl Try.call15 (fun w hw => before_c sj sk w)) ?_
                  refine QW.split (d := 75) rfl (fun h75 => ?_) (fun h75 => ?_)
                  · replace h75 := bT h75
                    refine QW.v rfl rfl (Val.move rfl) ?_
                    refine QW.v rfl rfl (Val.move rfl) ?_
                    refine QW.v rfl rfl (Val.move rfl) ?_
                    refine QW.v rfl rfl (Val.indexAddrN rfl rfl Try.underlying35 Try.sizeOf32 (by omega)) ?_
                    refine QW.v rfl rfl (Val.loadOA rfl Try.isAgg32 hb (by simp [ids]) (h _ _ hsi) Try.sizeOf32) ?_
                    refine QW.v rfl rfl (Val.move rfl) ?_
                    refine QW.v rfl rfl (Val.move rfl) ?_
                    refine QW.v rfl rfl (Val.indexAddrN rfl rfl Try.underlying35 Try.sizeOf32 (by omega)) ?_
                    refine QW.v rfl rfl (Val.loadOA rfl Try.isAgg32 hb (by simp [ids]) (h _ _ hsk) Try.sizeOf32) ?_
                    refine QW.c rfl rfl (Qcall.of rfl Try.call15 (fun w hw => before_c si sk w)) ?_
                    refine QW.re 85 (.bool true) rfl (by rw [May.trans hM hsj h40 h75]) ?_
                    refine QW.v rfl rfl (Val.not rfl) ?_
                    refine QW.v rfl rfl (Val.pick_t rfl rfl) ?_
                    refine QW.nil ?_
                    refine PQ.seq ?_
                    refine CW.cond_f rfl ?_
                    refine CW.skip ?_
                    refine PQ.in_normal ?_
                    refine PQ.seq ?_
                    refine CW.region ?_
                    refine LW.v rfl rfl (Val.move rfl) ?_
                    refine LW.v rfl rfl (Val.ar rfl rfl rfl (IntWalk.i64_in _ (by omega))) ?_
                    refine LW.v rfl rfl (Val.assign rfl) ?_
                    refine LW.nil ?_
                    refine PQ.round (k + 1) (by omega) (by omega) (by repeat (first | exact trivial | refine ⟨rfl, ?_⟩)) (by repeat (first | exact .nil | apply Pick.cons | exact .here | apply Ext.there))
                  · replace h75 := bF h75
                    refine QW.v rfl rfl (Val.move rfl) ?_
                    refine QW.p rfl rfl ?_
                    refine QW.p rfl rfl ?_
                    refine QW.p rfl rfl ?_
                    refine QW.p rfl rfl ?_
                    refine QW.p rfl rfl ?_
                    refine QW.p rfl rfl ?_
                    refine QW.p rfl rfl ?_
                    refine QW.p rfl rfl ?_
                    refine QW.p rfl rfl ?_
                    refine QW.p rfl rfl ?_
                    refine QW.v rfl rfl (Val.pick_f rfl rfl) ?_
                    refine QW.nil ?_
                    refine PQ.seq ?_
                    refine CW.cond_f rfl ?_
                    refine CW.skip ?_
                    refine PQ.in_normal ?_
                    refine PQ.seq ?_
                    refine CW.region ?_
                    refine LW.v rfl rfl (Val.move rfl) ?_
                    refine LW.v rfl rfl (Val.ar rfl rfl rfl (IntWalk.i64_in _ (by omega))) ?_
                    refine LW.v rfl rfl (Val.assign rfl) ?_
                    refine LW.nil ?_
                    refine PQ.round (k + 1) (by omega) (by omega) (by repeat (first | exact trivial | refine ⟨rfl, ?_⟩)) (by repeat (first | exact .nil | apply Pick.cons | exact .here | apply Ext.there))
                · replace h64 := bF h64
                  refine CW.exit ?_
                  refine PQ.then_exit ?_
                  refine PQ.then_exit ?_
                  refine PQ.in_here ?_
                  refine PQ.in_normal ?_
                  refine PQ.seq ?_
                  refine CW.region ?_
                  refine LW.v rfl rfl (Val.move rfl) ?_
                  refine LW.v rfl rfl (Val.ar rfl rfl rfl (IntWalk.i64_in _ (by omega))) ?_
                  refine LW.v rfl rfl (Val.assign rfl) ?_
                  refine LW.nil ?_
                  refine PQ.round (j + 1) (by omega) (by omega) (by repeat (first | exact trivial | refine ⟨rfl, ?_⟩)) (by repeat (first | exact .nil | apply Pick.cons | exact .here | apply Ext.there))
            · replace h40 := bF h40
              refine QW.v rfl rfl (Val.assign rfl) ?_
              refine QW.nil ?_
              refine PQ.seq ?_
              refine CW.seq ?_
              refine CW.seq ?_
              refine CW.quiet mixed (by kernel_rfl) ?_
              refine QW.v rfl rfl (Val.move rfl) ?_
              refine QW.v rfl rfl (Val.move rfl) ?_
              refine QW.p rfl rfl ?_
              refine QW.p rfl rfl ?_
              refine QW.p rfl rfl ?_
              refine QW.p rfl rfl ?_
              refine QW.p rfl rfl ?_
              refine QW.p rfl rfl ?_
              refine QW.p rfl rfl ?_
              refine QW.p rfl rfl ?_
              refine QW.p rfl rfl ?_
              refine QW.p rfl rfl ?_
              refine QW.p rfl rfl ?_
              refine QW.p rfl rfl ?_
              refine QW.p rfl rfl ?_
              refine QW.p rfl rfl ?_
              refine QW.v rfl rfl (Val.pick_f rfl rfl) ?_
              refine QW.nil ?_
              refine PQ.seq ?_
              refine CW.cond_f rfl ?_
              refine CW.skip ?_
              refine PQ.seq ?_
              refine CW.seq ?_
              refine CW.region ?_
              refine LW.v rfl rfl (Val.assign rfl) ?_
              refine LW.nil ?_
              refine PQ.seq ?_
              refine CW.block ?_
              refine CW.loop (γ := Nat) (fun k => [(0, .slice (some ⟨b, o, none⟩) n cap), (3, .int .i64 (i : Nat)), (4, .int .i64 (j : Nat)), (5, .bool false), (6, .int .i64 (k : Nat))]) (fun _ => []) (fun k => k ≤ n) (fun k => n - k) (0) (Nat.zero_le _) (by repeat (first | exact trivial | refine ⟨rfl, ?_⟩)) (by repeat (first | exact .nil | apply Pick.cons | exact .here | apply Ext.there)) ?_
              intro k
              intro hk
              refine CW.seq ?_
              refine CW.seq ?_
              refine CW.region ?_
              refine LW.v rfl rfl (Val.move rfl) ?_
              refine LW.v rfl rfl (Val.move rfl) ?_
              refine LW.p rfl rfl ?_
              refine LW.p rfl rfl ?_
              refine LW.p rfl rfl ?_
              refine LW.p rfl rfl ?_
              refine LW.v rfl rfl (Val.pick_f rfl rfl) ?_
              refine LW.nil ?_
              refine PQ.seq ?_
              refine CW.cond_f rfl ?_
              refine CW.exit ?_
              refine PQ.then_exit ?_
              refine PQ.then_exit ?_
              refine PQ.in_here ?_
              refine PQ.in_normal ?_
              refine PQ.seq ?_
              refine CW.region ?_
              refine LW.v rfl rfl (Val.move rfl) ?_
              refine LW.v rfl rfl (Val.ar rfl rfl rfl (IntWalk.i64_in _ (by omega))) ?_
              refine LW.v rfl rfl (Val.assign rfl) ?_
              refine LW.nil ?_
              refine PQ.round (j + 1) (by omega) (by omega) (by repeat (first | exact trivial | refine ⟨rfl, ?_⟩)) (by repeat (first | exact .nil | apply Pick.cons | exact .here | apply Ext.there))
          · replace h29 := bF h29
            refine CW.exit ?_
            refine PQ.then_exit ?_
            refine PQ.then_exit ?_
            refine PQ.in_here ?_
            refine PQ.in_normal ?_
            refine PQ.seq ?_
            refine CW.region ?_
            refine LW.v rfl rfl (Val.move rfl) ?_
            refine LW.v rfl rfl (Val.ar rfl rfl rfl (IntWalk.i64_in _ (by omega))) ?_
            refine LW.v rfl rfl (Val.assign rfl) ?_
            refine LW.nil ?_
            refine PQ.round (i + 1) (by omega) (by omega) (by repeat (first | exact trivial | refine ⟨rfl, ?_⟩)) (by repeat (first | exact .nil | apply Pick.cons | exact .here | apply Ext.there))
        · replace h23 := bF h23
          refine CW.exit ?_
          refine PQ.then_exit ?_
          refine PQ.then_exit ?_
          refine PQ.in_here ?_
          refine PQ.seq ?_
          refine CW.seq ?_
          refine CW.region ?_
          refine LW.e rfl rfl (Eff.callV rfl Try.call17 (fun w hw => awake24_c w)) ?_
          intro _ _
          refine LW.v rfl rfl (Val.assign rfl) ?_
          refine LW.nil ?_
          refine PQ.seq ?_
          refine CW.ret ?_
          refine PQ.ret1 rfl rfl ?_
          intro w hw; exact ⟨rfl, hw.below⟩
end Go.Proofs.Ytgeblajdjdcghaa
