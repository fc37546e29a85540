/- What story.May, story.Before, Weight, large and awake do to a symbolic state; stories in memory. -/
import Derived.Test.YtaihimbjdgmjgaaRows
import Derived.Test.YtaihimbjdgmjgaaV21
import Derived.Test.YtaihimbjdgmjgaaSeP
import Derived.Lib.Hide
namespace Go.Proofs.Ytaihimbjdgmjgaa
open Go Go.RowKit V
set_option linter.unusedVariables false
set_option maxRecDepth 100000
theorem ret_b {a b : Bool} (h : a = b) : Ending.returned (.bool a) = .returned (.bool b) := by rw [h]
theorem mixed : Try.prog.follows .mixedOrders = true := by kernel_rfl
/-- A slice value's three parts. -/
structure Sl where
  a : Option Addr
  n : Nat
  c : Nat
/-- A call as it lies in memory: five cells. -/
structure Cl where
  ck : Int
  key : ByteArray
  val : ByteArray
  to : ByteArray
  grp : Sl
def Cl.cells (s : Cl) : List Value := [.int .i64 s.ck, .string s.key, .string s.val, .string s.to, .slice s.grp.a s.grp.n s.grp.c]
/-- A story as it lies in memory: fourteen cells. -/
structure Sto where
  th : Int
  call : Cl
  cd : Int
  fd : Bool
  av : ByteArray
  prs : Sl
  hts : Sl
  ep : Int
  bg : Int
  en : Int
def Sto.cells (s : Sto) : List Value := [.int .i64 s.th, .int .i64 s.call.ck, .string s.call.key, .string s.call.val, .string s.call.to, .slice s.call.grp.a s.call.grp.n s.call.grp.c, .int .i64 s.cd, .bool s.fd, .string s.av, .slice s.prs.a s.prs.n s.prs.c, .slice s.hts.a s.hts.n s.hts.c, .int .u64 s.ep, .int .i64 s.bg, .int .i64 s.en]
def Sto.before (a b : Sto) : Bool := decide (0 ≤ a.en) && decide (a.en < b.bg)
/-- A pair as it lies in memory. -/
structure Pr where
  k : ByteArray
  v : ByteArray
def Pr.cells (x : Pr) : List Value := [.string x.k, .string x.v]
def boolC (b : Bool) : List Value := [.bool b]
/-- What a story names, read. -/
abbrev Rdg := Sto → List Cl → List Pr → List Bool → Prop
def RdS (w : World) (s : Sto) (gl : List Cl) (pl : List Pr) (hl : List Bool) : Prop := s.call.grp.n = gl.length ∧ V.slAt w s.call.grp.a 5 Cl.cells gl ∧ s.prs.n = pl.length ∧ V.slAt w s.prs.a 2 Pr.cells pl ∧ s.hts.n = hl.length ∧ V.slAt w s.hts.a 1 boolC hl
theorem RdS.hp {w0 w : World} {sg : Sg} {s : Sto} {gl : List Cl} {pl : List Pr} {hl : List Bool} (h : RdS w0 s gl pl hl) (hw : Hp ⟨w0, []⟩ sg w) : RdS w s gl pl hl := ⟨h.1, hw.slAt h.2.1 (by simp), h.2.2.1, hw.slAt h.2.2.2.1 (by simp), h.2.2.2.2.1, hw.slAt h.2.2.2.2.2 (by simp)⟩
/-- What the story names can be read. -/
def StoOk (w : World) (s : Sto) : Prop := ∃ gl pl hl, RdS w s gl pl hl
/-- No group within a group; not too much. -/
def Small (s : Sto) (gl : List Cl) : Prop := (gl.length ≤ 600 ∧ s.call.key.size ≤ 600 ∧ ∀ x ∈ gl, x.key.size ≤ 600) ∧ (∀ x ∈ gl, x.grp.n = 0) ∧ s.prs.n ≤ 60 ∧ s.hts.n ≤ 60
theorem before_c (a b : Sto) (w : World) : Calls Try.prog 40 [.agg a.cells.toArray, .agg b.cells.toArray].toArray w
    fun e w' => e = .returned (.bool (a.before b)) ∧ Below w.heap.size w w' := by
  refine V.calls [] Try.func40 rfl Try.ntmps40 (Nat.le_of_ble_eq_true rfl) (V.sat_nil _) ?_
  refine CW.seq ?_
  refine CW.region ?_
  refine LW.e rfl rfl (Eff.boxA rfl) ?_
  intro b2 _
  refine LW.e rfl rfl (Eff.boxA rfl) ?_
  intro b3 _
  refine LW.v rfl rfl (Val.assign rfl) ?_
  refine LW.nil ?_
  refine PQ.seq ?_
  refine CW.seq ?_
  refine CW.region ?_
  refine LW.v rfl rfl (Val.fieldAddr 13 rfl Try.underlying36 rfl rfl Try.sizeOf3) ?_
  refine LW.v rfl rfl (Val.load rfl Try.isAgg3 (by repeat (first | exact .here | refine .there ?_)) (by rfl)) ?_
  refine LW.v rfl rfl (Val.cmp rfl rfl rfl) ?_
  refine LW.v rfl rfl (Val.move rfl) ?_
  refine LW.split (d := 8) rfl (fun h8 => ?_) (fun h8 => ?_)
  · replace h8 := bT h8
    refine LW.v rfl rfl (Val.fieldAddr 13 rfl Try.underlying36 rfl rfl Try.sizeOf3) ?_
    refine LW.v rfl rfl (Val.load rfl Try.isAgg3 (by repeat (first | exact .here | refine .there ?_)) (by rfl)) ?_
    refine LW.v rfl rfl (Val.fieldAddr 12 rfl Try.underlying36 rfl rfl Try.sizeOf3) ?_
    refine LW.v rfl rfl (Val.load rfl Try.isAgg3 (by repeat (first | exact .here | refine .there ?_)) (by rfl)) ?_
    refine LW.v rfl rfl (Val.cmp rfl rfl rfl) ?_
    refine LW.v rfl rfl (Val.pick_t rfl rfl) ?_
    refine LW.v rfl rfl (Val.assign rfl) ?_
    refine LW.nil ?_
    refine PQ.seq ?_
    refine CW.ret ?_
    refine PQ.ret1 rfl rfl ?_
    intro w hw; exact ⟨ret_b (by simp only [Sto.before]; first | (simp; omega) | (simp [h8]; done)), hw.below⟩
  · replace h8 := bF h8
    refine LW.p rfl rfl ?_
    refine LW.p rfl rfl ?_
    refine LW.p rfl rfl ?_
    refine LW.p rfl rfl ?_
    refine LW.p rfl rfl ?_
    refine LW.v rfl rfl (Val.pick_f rfl rfl) ?_
    refine LW.v rfl rfl (Val.assign rfl) ?_
    refine LW.nil ?_
    refine PQ.seq ?_
    refine CW.ret ?_
    refine PQ.ret1 rfl rfl ?_
    intro w hw; exact ⟨ret_b (by simp only [Sto.before]; first | (simp; omega) | (simp [h8]; done)), hw.below⟩
def OkAt (l : List Sto) (i : Nat) : Prop := ∀ s, l[i]? = some s → 0 ≤ s.bg ∧ (∀ p j, i = j + 1 → l[j]? = some p → p.bg < s.bg) ∧ (s.en = -1 ∨ s.bg < s.en)
theorem ok_snoc {l : List Sto} {k : Nat} (h : ∀ i, i < k → OkAt l i) (h' : OkAt l k) : ∀ i, i < k + 1 → OkAt l i := fun i hi => by
  by_cases e : i = k
  · subst e; exact h'
  · exact h i (by omega)
def May (l : List Sto) : Prop := ∀ i, i < l.length → OkAt l i
theorem may_no {l : List Sto} {k : Nat} {s : Sto} (hs : l[k]? = some s) (h : s.bg < 0 ∨ (∃ p j, k = j + 1 ∧ l[j]? = some p ∧ s.bg ≤ p.bg) ∨ (s.en ≠ -1 ∧ s.en ≤ s.bg)) : ¬ May l := fun hm => by
  obtain ⟨h1, h2, h3⟩ := hm k (List.getElem?_eq_some_iff.1 hs).1 s hs
  rcases h with h | ⟨p, j, hj, hp, h⟩ | ⟨h, h'⟩
  · omega
  · have := h2 p j hj hp; omega
  · omega
theorem prev_is {l : List Sto} {k : Nat} {q s : Sto} (hq : l[k - 1]? = some q) (h : q.bg < s.bg) : ∀ p j, k = j + 1 → l[j]? = some p → p.bg < s.bg := fun p j hj hp => by
  obtain rfl : j = k - 1 := by omega
  have e := hq.symm.trans hp
  cases e
  exact h
theorem may_c (p : Option Addr) (n cap : Nat) (l : List Sto) (w : World) (hn : l.length = n) (h : V.slAt w p 14 Sto.cells l) (hm : n ≤ 1000) : Calls Try.prog 22 [.slice p n cap].toArray w
    fun e w' => ∃ x : Bool, (x = true ↔ May l) ∧ e = .returned (.bool x) ∧ Below w.heap.size w w' := by
  refine V.calls [] Try.func22 rfl Try.ntmps22 (Nat.le_of_ble_eq_true rfl) (V.sat_nil _) ?_
  refine CW.seq ?_
  refine CW.region ?_
  refine LW.v rfl rfl (Val.assign rfl) ?_
  refine LW.nil ?_
  refine PQ.seq ?_
  refine CW.seq ?_
  refine CW.seq ?_
  refine CW.region ?_
  refine LW.v rfl rfl (Val.move rfl) ?_
  refine LW.v rfl rfl (Val.lenSl rfl Try.underlying22) ?_
  refine LW.v rfl rfl (Val.move rfl) ?_
  refine LW.nil ?_
  refine PQ.seq ?_
  refine CW.block ?_
  refine CW.loop (γ := Nat) (fun k => [(0, .slice p n cap), (5, .slice p n cap), (6, .int .i64 (n : Nat)), (7, .int .i64 (k : Nat))]) (fun _ => []) (fun k => k ≤ n ∧ ∀ i, i < k → OkAt l i) (fun k => n - k) (0) ⟨Nat.zero_le _, fun i hi => by omega⟩ (by repeat (first | exact trivial | refine ⟨rfl, ?_⟩)) (by repeat (first | exact .nil | apply Pick.cons | exact .here | apply Ext.there)) ?_
  intro k
  intro hJ
  refine CW.seq ?_
  refine CW.region ?_
  refine LW.v rfl rfl (Val.cmp rfl rfl rfl) ?_
  refine LW.nil ?_
  refine PQ.seq ?_
  refine CW.seq ?_
  refine CW.cond rfl (fun h8 => ?_) (fun h8 => ?_)
  · replace h8 := bT h8
    refine CW.skip ?_
    refine PQ.seq ?_
    refine CW.seq ?_
    refine CW.block ?_
    refine CW.seq ?_
    refine CW.region ?_
    refine LW.v rfl rfl (Val.move rfl) ?_
    obtain ⟨b, o, s, rfl, hb, hs, h⟩ := V.slAt_at h hn (k := k) (by omega)
    first | (refine LW.v rfl rfl (Val.indexAddrN rfl rfl Try.underlying22 Try.sizeOf36 (by omega)) ?_) | (refine LW.v rfl rfl (Val.indexAddr rfl rfl Try.underlying22 Try.sizeOf36 (by omega) (by omega)) ?_)
    refine LW.v rfl rfl (Val.loadOA rfl Try.isAgg36 hb (by simp [ids]) (h k s hs) Try.sizeOf36) ?_
    refine LW.e rfl rfl (Eff.allocA (by exact Try.zeroValue36)) ?_
    intro b4 _
    refine LW.v rfl rfl (Val.assign rfl) ?_
    first | (refine LW.eN rfl (Eff.storeW rfl rfl (by repeat (first | exact .here | apply Upd.there)) (by rfl) Try.sizeOf36 (by rfl)) ?_) | (refine LW.eN rfl (Eff.storeA (l' := _) rfl rfl (by repeat (first | exact .here | apply Upd.there)) (by rfl) (by decide) Try.sizeOf36 (by rfl)) ?_)
    intro _ _
    refine LW.nil ?_
    refine PQ.seq ?_
    refine CW.seq ?_
    refine CW.quiet mixed (by kernel_rfl) ?_
    refine QW.v rfl rfl (Val.fieldAddr 12 rfl Try.underlying36 rfl rfl Try.sizeOf3) ?_
    refine QW.v rfl rfl (Val.load rfl Try.isAgg3 (by repeat (first | exact .here | refine .there ?_)) (by rfl)) ?_
    refine QW.v rfl rfl (Val.cmp rfl rfl rfl) ?_
    refine QW.v rfl rfl (Val.move rfl) ?_
    refine QW.split (d := 15) rfl (fun h15 => ?_) (fun h15 => ?_)
    · replace h15 := bT h15
      refine QW.p rfl rfl ?_
      refine QW.p rfl rfl ?_
      refine QW.p rfl rfl ?_
      refine QW.p rfl rfl ?_
      refine QW.p rfl rfl ?_
      refine QW.p rfl rfl ?_
      refine QW.p rfl rfl ?_
      refine QW.p rfl rfl ?_
      refine QW.p rfl rfl ?_
      refine QW.p rfl rfl ?_
      refine QW.p rfl rfl ?_
      refine QW.p rfl rfl ?_
      refine QW.p rfl rfl ?_
      refine QW.v rfl rfl (Val.pick_t rfl rfl) ?_
      refine QW.v rfl rfl (Val.move rfl) ?_
      refine QW.p rfl rfl ?_
      refine QW.p rfl rfl ?_
      refine QW.p rfl rfl ?_
      refine QW.p rfl rfl ?_
      refine QW.p rfl rfl ?_
      refine QW.p rfl rfl ?_
      refine QW.p rfl rfl ?_
      refine QW.p rfl rfl ?_
      refine QW.p rfl rfl ?_
      refine QW.p rfl rfl ?_
      refine QW.v rfl rfl (Val.pick_t rfl rfl) ?_
      refine QW.nil ?_
      refine PQ.seq ?_
      refine CW.cond_t rfl ?_
      refine CW.seq ?_
      refine CW.region ?_
      refine LW.v rfl rfl (Val.assign rfl) ?_
      refine LW.nil ?_
      refine PQ.seq ?_
      refine CW.ret ?_
      refine PQ.in_ret ?_
      refine PQ.then_ret ?_
      refine PQ.then_ret ?_
      refine PQ.in_ret ?_
      refine PQ.then_ret ?_
      refine PQ.ret1 rfl rfl ?_
      intro w hw; exact ⟨false, ⟨(fun h => by cases h), fun g => absurd g (may_no hs (.inl h15))⟩, rfl, hw.below⟩
    · replace h15 := bF h15
      refine QW.v rfl rfl (Val.move rfl) ?_
      refine QW.v rfl rfl (Val.cmp rfl rfl rfl) ?_
      refine QW.v rfl rfl (Val.move rfl) ?_
      refine QW.split (d := 18) rfl (fun h18 => ?_) (fun h18 => ?_)
      · replace h18 := bT h18
        refine QW.v rfl rfl (Val.move rfl) ?_
        refine QW.v rfl rfl (Val.move rfl) ?_
        refine QW.v rfl rfl (Val.ar rfl rfl rfl (IntWalk.i64_in _ (by omega))) ?_
        refine QW.re 21 (.int .i64 ((k - 1 : Nat) : Int)) rfl (by congr 1; omega) ?_
        first | (refine QW.v rfl rfl (Val.indexAddrN rfl rfl Try.underlying22 Try.sizeOf36 (by omega)) ?_) | (refine QW.v rfl rfl (Val.indexAddr rfl rfl Try.underlying22 Try.sizeOf36 (by omega) (by omega)) ?_)
        obtain ⟨q, hq⟩ : ∃ s, l[k - 1]? = some s := ⟨l[k - 1]'(by omega), by simp⟩
        refine QW.v rfl rfl (Val.fieldAddr 12 rfl Try.underlying36 rfl rfl Try.sizeOf3) ?_
        refine QW.v rfl rfl (Val.loadO rfl Try.isAgg3 hb (by simp [ids]) (h (k - 1) q hq 12 _ rfl)) ?_
        refine QW.v rfl rfl (Val.fieldAddr 12 rfl Try.underlying36 rfl rfl Try.sizeOf3) ?_
        refine QW.v rfl rfl (Val.load rfl Try.isAgg3 (by repeat (first | exact .here | refine .there ?_)) (by rfl)) ?_
        refine QW.v rfl rfl (Val.cmp rfl rfl rfl) ?_
        refine QW.v rfl rfl (Val.pick_t rfl rfl) ?_
        refine QW.v rfl rfl (Val.pick_f rfl rfl) ?_
        refine QW.v rfl rfl (Val.move rfl) ?_
        refine QW.split (d := 30) rfl (fun h30 => ?_) (fun h30 => ?_)
        · replace h30 := bT h30
          refine QW.p rfl rfl ?_
          refine QW.p rfl rfl ?_
          refine QW.p rfl rfl ?_
          refine QW.p rfl rfl ?_
          refine QW.p rfl rfl ?_
          refine QW.p rfl rfl ?_
          refine QW.p rfl rfl ?_
          refine QW.p rfl rfl ?_
          refine QW.p rfl rfl ?_
          refine QW.p rfl rfl ?_
          refine QW.v rfl rfl (Val.pick_t rfl rfl) ?_
          refine QW.nil ?_
          refine PQ.seq ?_
          refine CW.cond_t rfl ?_
          refine CW.seq ?_
          refine CW.region ?_
          refine LW.v rfl rfl (Val.assign rfl) ?_
          refine LW.nil ?_
          refine PQ.seq ?_
          refine CW.ret ?_
          refine PQ.in_ret ?_
          refine PQ.then_ret ?_
          refine PQ.then_ret ?_
          refine PQ.in_ret ?_
          refine PQ.then_ret ?_
          refine PQ.ret1 rfl rfl ?_
          intro w hw; exact ⟨false, ⟨(fun h => by cases h), fun g => absurd g (may_no hs (.inr (.inl ⟨q, k - 1, by omega, hq, h30⟩)))⟩, rfl, hw.below⟩
        · replace h30 := bF h30
          refine QW.v rfl rfl (Val.fieldAddr 13 rfl Try.underlying36 rfl rfl Try.sizeOf3) ?_
          refine QW.v rfl rfl (Val.load rfl Try.isAgg3 (by repeat (first | exact .here | refine .there ?_)) (by rfl)) ?_
          refine QW.v rfl rfl (Val.cmp rfl rfl rfl) ?_
          refine QW.v rfl rfl (Val.move rfl) ?_
          refine QW.split (d := 34) rfl (fun h34 => ?_) (fun h34 => ?_)
          · replace h34 := bT h34
            refine QW.v rfl rfl (Val.fieldAddr 13 rfl Try.underlying36 rfl rfl Try.sizeOf3) ?_
            refine QW.v rfl rfl (Val.load rfl Try.isAgg3 (by repeat (first | exact .here | refine .there ?_)) (by rfl)) ?_
            refine QW.v rfl rfl (Val.fieldAddr 12 rfl Try.underlying36 rfl rfl Try.sizeOf3) ?_
            refine QW.v rfl rfl (Val.load rfl Try.isAgg3 (by repeat (first | exact .here | refine .there ?_)) (by rfl)) ?_
            refine QW.v rfl rfl (Val.cmp rfl rfl rfl) ?_
            refine QW.v rfl rfl (Val.pick_t rfl rfl) ?_
            refine QW.v rfl rfl (Val.pick_f rfl rfl) ?_
            refine QW.nil ?_
            refine PQ.seq ?_
            refine CW.cond rfl (fun h41 => ?_) (fun h41 => ?_)
            · replace h41 := bT h41
              refine CW.seq ?_
              refine CW.region ?_
              refine LW.v rfl rfl (Val.assign rfl) ?_
              refine LW.nil ?_
              refine PQ.seq ?_
              refine CW.ret ?_
              refine PQ.in_ret ?_
              refine PQ.then_ret ?_
              refine PQ.then_ret ?_
              refine PQ.in_ret ?_
              refine PQ.then_ret ?_
              refine PQ.ret1 rfl rfl ?_
              intro w hw; exact ⟨false, ⟨(fun h => by cases h), fun g => absurd g (may_no hs (.inr (.inr ⟨h34, h41⟩)))⟩, rfl, hw.below⟩
            · replace h41 := bF h41
              refine CW.skip ?_
              refine PQ.in_normal ?_
              refine PQ.seq ?_
              refine CW.region ?_
              refine LW.v rfl rfl (Val.ar rfl rfl rfl (IntWalk.i64_in _ (by omega))) ?_
              refine LW.v rfl rfl (Val.move rfl) ?_
              refine LW.nil ?_
              refine PQ.round (k + 1) ⟨by omega, ok_snoc hJ.2 (fun s' hs' => by have e := hs.symm.trans hs'; cases e; exact ⟨h15, prev_is hq h30, by first | exact .inl h34 | exact .inr h41⟩)⟩ (by omega) (by repeat (first | exact trivial | refine ⟨rfl, ?_⟩)) (by repeat (first | exact .nil | apply Pick.cons | exact .here | apply Ext.there))
          · replace h34 := bF h34
            refine QW.p rfl rfl ?_
            refine QW.p rfl rfl ?_
            refine QW.p rfl rfl ?_
            refine QW.p rfl rfl ?_
            refine QW.p rfl rfl ?_
            refine QW.v rfl rfl (Val.pick_f rfl rfl) ?_
            refine QW.v rfl rfl (Val.pick_f rfl rfl) ?_
            refine QW.nil ?_
            refine PQ.seq ?_
            refine CW.cond_f rfl ?_
            refine CW.skip ?_
            refine PQ.in_normal ?_
            refine PQ.seq ?_
            refine CW.region ?_
            refine LW.v rfl rfl (Val.ar rfl rfl rfl (IntWalk.i64_in _ (by omega))) ?_
            refine LW.v rfl rfl (Val.move rfl) ?_
            refine LW.nil ?_
            refine PQ.round (k + 1) ⟨by omega, ok_snoc hJ.2 (fun s' hs' => by have e := hs.symm.trans hs'; cases e; exact ⟨h15, prev_is hq h30, by first | exact .inl h34 | exact .inr h41⟩)⟩ (by omega) (by repeat (first | exact trivial | refine ⟨rfl, ?_⟩)) (by repeat (first | exact .nil | apply Pick.cons | exact .here | apply Ext.there))
      · replace h18 := bF h18
        refine QW.p rfl rfl ?_
        refine QW.p rfl rfl ?_
        refine QW.p rfl rfl ?_
        refine QW.p rfl rfl ?_
        refine QW.p rfl rfl ?_
        refine QW.p rfl rfl ?_
        refine QW.p rfl rfl ?_
        refine QW.p rfl rfl ?_
        refine QW.p rfl rfl ?_
        refine QW.v rfl rfl (Val.pick_f rfl rfl) ?_
        refine QW.v rfl rfl (Val.pick_f rfl rfl) ?_
        refine QW.v rfl rfl (Val.move rfl) ?_
        refine QW.v rfl rfl (Val.fieldAddr 13 rfl Try.underlying36 rfl rfl Try.sizeOf3) ?_
        refine QW.v rfl rfl (Val.load rfl Try.isAgg3 (by repeat (first | exact .here | refine .there ?_)) (by rfl)) ?_
        refine QW.v rfl rfl (Val.cmp rfl rfl rfl) ?_
        refine QW.v rfl rfl (Val.move rfl) ?_
        refine QW.split (d := 34) rfl (fun h34 => ?_) (fun h34 => ?_)
        · replace h34 := bT h34
          refine QW.v rfl rfl (Val.fieldAddr 13 rfl Try.underlying36 rfl rfl Try.sizeOf3) ?_
          refine QW.v rfl rfl (Val.load rfl Try.isAgg3 (by repeat (first | exact .here | refine .there ?_)) (by rfl)) ?_
          refine QW.v rfl rfl (Val.fieldAddr 12 rfl Try.underlying36 rfl rfl Try.sizeOf3) ?_
          refine QW.v rfl rfl (Val.load rfl Try.isAgg3 (by repeat (first | exact .here | refine .there ?_)) (by rfl)) ?_
          refine QW.v rfl rfl (Val.cmp rfl rfl rfl) ?_
          refine QW.v rfl rfl (Val.pick_t rfl rfl) ?_
          refine QW.v rfl rfl (Val.pick_f rfl rfl) ?_
          refine QW.nil ?_
          refine PQ.seq ?_
          refine CW.cond rfl (fun h41 => ?_) (fun h41 => ?_)
          · replace h41 := bT h41
            refine CW.seq ?_
            refine CW.region ?_
            refine LW.v rfl rfl (Val.assign rfl) ?_
            refine LW.nil ?_
            refine PQ.seq ?_
            refine CW.ret ?_
            refine PQ.in_ret ?_
            refine PQ.then_ret ?_
            refine PQ.then_ret ?_
            refine PQ.in_ret ?_
            refine PQ.then_ret ?_
            refine PQ.ret1 rfl rfl ?_
            intro w hw; exact ⟨false, ⟨(fun h => by cases h), fun g => absurd g (may_no hs (.inr (.inr ⟨h34, h41⟩)))⟩, rfl, hw.below⟩
          · replace h41 := bF h41
            refine CW.skip ?_
            refine PQ.in_normal ?_
            refine PQ.seq ?_
            refine CW.region ?_
            refine LW.v rfl rfl (Val.ar rfl rfl rfl (IntWalk.i64_in _ (by omega))) ?_
            refine LW.v rfl rfl (Val.move rfl) ?_
            refine LW.nil ?_
            refine PQ.round (k + 1) ⟨by omega, ok_snoc hJ.2 (fun s' hs' => by have e := hs.symm.trans hs'; cases e; exact ⟨h15, fun p j hj => by omega, by first | exact .inl h34 | exact .inr h41⟩)⟩ (by omega) (by repeat (first | exact trivial | refine ⟨rfl, ?_⟩)) (by repeat (first | exact .nil | apply Pick.cons | exact .here | apply Ext.there))
        · replace h34 := bF h34
          refine QW.p rfl rfl ?_
          refine QW.p rfl rfl ?_
          refine QW.p rfl rfl ?_
          refine QW.p rfl rfl ?_
          refine QW.p rfl rfl ?_
          refine QW.v rfl rfl (Val.pick_f rfl rfl) ?_
          refine QW.v rfl rfl (Val.pick_f rfl rfl) ?_
          refine QW.nil ?_
          refine PQ.seq ?_
          refine CW.cond_f rfl ?_
          refine CW.skip ?_
          refine PQ.in_normal ?_
          refine PQ.seq ?_
          refine CW.region ?_
          refine LW.v rfl rfl (Val.ar rfl rfl rfl (IntWalk.i64_in _ (by omega))) ?_
          refine LW.v rfl rfl (Val.move rfl) ?_
          refine LW.nil ?_
          refine PQ.round (k + 1) ⟨by omega, ok_snoc hJ.2 (fun s' hs' => by have e := hs.symm.trans hs'; cases e; exact ⟨h15, fun p j hj => by omega, by first | exact .inl h34 | exact .inr h41⟩)⟩ (by omega) (by repeat (first | exact trivial | refine ⟨rfl, ?_⟩)) (by repeat (first | exact .nil | apply Pick.cons | exact .here | apply Ext.there))
  · replace h8 := bF h8
    refine CW.exit ?_
    refine PQ.then_exit ?_
    refine PQ.then_exit ?_
    refine PQ.in_here ?_
    refine PQ.seq ?_
    refine CW.seq ?_
    refine CW.region ?_
    refine LW.v rfl rfl (Val.assign rfl) ?_
    refine LW.nil ?_
    refine PQ.seq ?_
    refine CW.ret ?_
    refine PQ.ret1 rfl rfl ?_
    intro w hw; exact ⟨true, ⟨fun _ i hi => hJ.2 i (by omega), fun _ => rfl⟩, rfl, hw.below⟩
theorem weight_c (c : Cl) (gl : List Cl) (most : Int) (w : World) (hm : 0 ≤ most ∧ most ≤ 100000) (hg : gl.length = c.grp.n) (hs : V.slAt w c.grp.a 5 Cl.cells gl) : Calls Try.prog 39 [.agg c.cells.toArray, .int .i64 most].toArray w
    fun e w' => ∃ z : Int, (z ≤ most → ((gl.length : Int) ≤ most ∧ ∀ x ∈ gl, x.grp.n = 0) ∧ (c.key.size : Int) ≤ most ∧ ∀ x ∈ gl, (x.key.size : Int) ≤ most) ∧ e = .returned (.int .i64 z) ∧ Below w.heap.size w w' := by
  refine V.calls [] Try.func39 rfl Try.ntmps39 (Nat.le_of_ble_eq_true rfl) (V.sat_nil _) ?_
  refine CW.seq ?_
  refine CW.region ?_
  refine LW.e rfl rfl (Eff.boxA rfl) ?_
  intro b2 _
  refine LW.v rfl rfl (Val.assign rfl) ?_
  refine LW.nil ?_
  refine PQ.seq ?_
  refine CW.seq ?_
  refine CW.region ?_
  refine LW.v rfl rfl (Val.assign rfl) ?_
  refine LW.nil ?_
  refine PQ.seq ?_
  refine CW.seq ?_
  refine CW.seq ?_
  refine CW.region ?_
  refine LW.v rfl rfl (Val.fieldAddr 1 rfl Try.underlying28 rfl rfl Try.sizeOf9) ?_
  refine LW.v rfl rfl (Val.load rfl Try.isAgg9 (by repeat (first | exact .here | refine .there ?_)) (by rfl)) ?_
  refine LW.v rfl rfl (Val.lenS rfl Try.underlying9) ?_
  refine LW.v rfl rfl (Val.move rfl) ?_
  refine LW.v rfl rfl (Val.cmp rfl rfl rfl) ?_
  refine LW.v rfl rfl (Val.move rfl) ?_
  refine LW.split (d := 13) rfl (fun h13 => ?_) (fun h13 => ?_)
  · replace h13 := bT h13
    refine LW.p rfl rfl ?_
    refine LW.p rfl rfl ?_
    refine LW.p rfl rfl ?_
    refine LW.p rfl rfl ?_
    refine LW.p rfl rfl ?_
    refine LW.v rfl rfl (Val.pick_t rfl rfl) ?_
    refine LW.v rfl rfl (Val.move rfl) ?_
    refine LW.p rfl rfl ?_
    refine LW.p rfl rfl ?_
    refine LW.p rfl rfl ?_
    refine LW.p rfl rfl ?_
    refine LW.p rfl rfl ?_
    refine LW.v rfl rfl (Val.pick_t rfl rfl) ?_
    refine LW.v rfl rfl (Val.move rfl) ?_
    refine LW.p rfl rfl ?_
    refine LW.p rfl rfl ?_
    refine LW.p rfl rfl ?_
    refine LW.p rfl rfl ?_
    refine LW.p rfl rfl ?_
    refine LW.v rfl rfl (Val.pick_t rfl rfl) ?_
    refine LW.nil ?_
    refine PQ.seq ?_
    refine CW.cond_t rfl ?_
    refine CW.seq ?_
    refine CW.region ?_
    refine LW.v rfl rfl (Val.move rfl) ?_
    refine LW.v rfl rfl (Val.ar rfl rfl rfl (IntWalk.i64_in _ (by omega))) ?_
    refine LW.v rfl rfl (Val.assign rfl) ?_
    refine LW.nil ?_
    refine PQ.seq ?_
    refine CW.ret ?_
    refine PQ.then_ret ?_
    refine PQ.ret1 rfl rfl ?_
    intro w hw; exact ⟨_, fun h => by omega, rfl, hw.below⟩
  · replace h13 := bF h13
    refine LW.v rfl rfl (Val.fieldAddr 2 rfl Try.underlying28 rfl rfl Try.sizeOf9) ?_
    refine LW.v rfl rfl (Val.load rfl Try.isAgg9 (by repeat (first | exact .here | refine .there ?_)) (by rfl)) ?_
    refine LW.v rfl rfl (Val.lenS rfl Try.underlying9) ?_
    refine LW.v rfl rfl (Val.move rfl) ?_
    refine LW.v rfl rfl (Val.cmp rfl rfl rfl) ?_
    refine LW.v rfl rfl (Val.pick_f rfl rfl) ?_
    refine LW.v rfl rfl (Val.move rfl) ?_
    refine LW.split (d := 20) rfl (fun h20 => ?_) (fun h20 => ?_)
    · replace h20 := bT h20
      refine LW.p rfl rfl ?_
      refine LW.p rfl rfl ?_
      refine LW.p rfl rfl ?_
      refine LW.p rfl rfl ?_
      refine LW.p rfl rfl ?_
      refine LW.v rfl rfl (Val.pick_t rfl rfl) ?_
      refine LW.v rfl rfl (Val.move rfl) ?_
      refine LW.p rfl rfl ?_
      refine LW.p rfl rfl ?_
      refine LW.p rfl rfl ?_
      refine LW.p rfl rfl ?_
      refine LW.p rfl rfl ?_
      refine LW.v rfl rfl (Val.pick_t rfl rfl) ?_
      refine LW.nil ?_
      refine PQ.seq ?_
      refine CW.cond_t rfl ?_
      refine CW.seq ?_
      refine CW.region ?_
      refine LW.v rfl rfl (Val.move rfl) ?_
      refine LW.v rfl rfl (Val.ar rfl rfl rfl (IntWalk.i64_in _ (by omega))) ?_
      refine LW.v rfl rfl (Val.assign rfl) ?_
      refine LW.nil ?_
      refine PQ.seq ?_
      refine CW.ret ?_
      refine PQ.then_ret ?_
      refine PQ.ret1 rfl rfl ?_
      intro w hw; exact ⟨_, fun h => by omega, rfl, hw.below⟩
    · replace h20 := bF h20
      refine LW.v rfl rfl (Val.fieldAddr 3 rfl Try.underlying28 rfl rfl Try.sizeOf9) ?_
      refine LW.v rfl rfl (Val.load rfl Try.isAgg9 (by repeat (first | exact .here | refine .there ?_)) (by rfl)) ?_
      refine LW.v rfl rfl (Val.lenS rfl Try.underlying9) ?_
      refine LW.v rfl rfl (Val.move rfl) ?_
      refine LW.v rfl rfl (Val.cmp rfl rfl rfl) ?_
      refine LW.v rfl rfl (Val.pick_f rfl rfl) ?_
      refine LW.v rfl rfl (Val.move rfl) ?_
      refine LW.split (d := 27) rfl (fun h27 => ?_) (fun h27 => ?_)
      · replace h27 := bT h27
        refine LW.p rfl rfl ?_
        refine LW.p rfl rfl ?_
        refine LW.p rfl rfl ?_
        refine LW.p rfl rfl ?_
        refine LW.p rfl rfl ?_
        refine LW.v rfl rfl (Val.pick_t rfl rfl) ?_
        refine LW.nil ?_
        refine PQ.seq ?_
        refine CW.cond_t rfl ?_
        refine CW.seq ?_
        refine CW.region ?_
        refine LW.v rfl rfl (Val.move rfl) ?_
        refine LW.v rfl rfl (Val.ar rfl rfl rfl (IntWalk.i64_in _ (by omega))) ?_
        refine LW.v rfl rfl (Val.assign rfl) ?_
        refine LW.nil ?_
        refine PQ.seq ?_
        refine CW.ret ?_
        refine PQ.then_ret ?_
        refine PQ.ret1 rfl rfl ?_
        intro w hw; exact ⟨_, fun h => by omega, rfl, hw.below⟩
      · replace h27 := bF h27
        refine LW.v rfl rfl (Val.fieldAddr 4 rfl Try.underlying28 rfl rfl Try.sizeOf26) ?_
        refine LW.v rfl rfl (Val.load rfl Try.isAgg26 (by repeat (first | exact .here | refine .there ?_)) (by rfl)) ?_
        refine LW.v rfl rfl (Val.lenSl rfl Try.underlying26) ?_
        refine LW.v rfl rfl (Val.move rfl) ?_
        refine LW.v rfl rfl (Val.cmp rfl rfl rfl) ?_
        refine LW.v rfl rfl (Val.pick_f rfl rfl) ?_
        refine LW.nil ?_
        refine PQ.seq ?_
        refine CW.cond rfl (fun h33 => ?_) (fun h33 => ?_)
        · replace h33 := bT h33
          refine CW.seq ?_
          refine CW.region ?_
          refine LW.v rfl rfl (Val.move rfl) ?_
          refine LW.v rfl rfl (Val.ar rfl rfl rfl (IntWalk.i64_in _ (by omega))) ?_
          refine LW.v rfl rfl (Val.assign rfl) ?_
          refine LW.nil ?_
          refine PQ.seq ?_
          refine CW.ret ?_
          refine PQ.then_ret ?_
          refine PQ.ret1 rfl rfl ?_
          intro w hw; exact ⟨_, fun h => by omega, rfl, hw.below⟩
        · replace h33 := bF h33
          refine CW.skip ?_
          refine PQ.seq ?_
          refine CW.seq ?_
          refine CW.region ?_
          refine LW.v rfl rfl (Val.fieldAddr 1 rfl Try.underlying28 rfl rfl Try.sizeOf9) ?_
          refine LW.v rfl rfl (Val.load rfl Try.isAgg9 (by repeat (first | exact .here | refine .there ?_)) (by rfl)) ?_
          refine LW.v rfl rfl (Val.lenS rfl Try.underlying9) ?_
          refine LW.v rfl rfl (Val.fieldAddr 2 rfl Try.underlying28 rfl rfl Try.sizeOf9) ?_
          refine LW.v rfl rfl (Val.load rfl Try.isAgg9 (by repeat (first | exact .here | refine .there ?_)) (by rfl)) ?_
          refine LW.v rfl rfl (Val.lenS rfl Try.underlying9) ?_
          refine LW.v rfl rfl (Val.ar rfl rfl rfl (IntWalk.i64_in _ (by omega))) ?_
          refine LW.v rfl rfl (Val.fieldAddr 3 rfl Try.underlying28 rfl rfl Try.sizeOf9) ?_
          refine LW.v rfl rfl (Val.load rfl Try.isAgg9 (by repeat (first | exact .here | refine .there ?_)) (by rfl)) ?_
          refine LW.v rfl rfl (Val.lenS rfl Try.underlying9) ?_
          refine LW.v rfl rfl (Val.ar rfl rfl rfl (IntWalk.i64_in _ (by omega))) ?_
          refine LW.v rfl rfl (Val.assign rfl) ?_
          refine LW.nil ?_
          refine PQ.seq ?_
          refine CW.seq ?_
          refine CW.seq ?_
          refine CW.region ?_
          refine LW.v rfl rfl (Val.assign rfl) ?_
          refine LW.nil ?_
          refine PQ.seq ?_
          refine CW.block ?_
          refine CW.loop (γ := Nat × Int) (fun k => [(1, .int .i64 most), (2, .pointer (some ⟨b2, 0, none⟩)), (5, .int .i64 k.2), (6, .int .i64 (k.1 : Nat))]) (fun _ => [[(b2, .cells c.cells.toArray 28 (0, 0))]]) (fun k => k.1 ≤ gl.length ∧ ((c.key.size : Int) ≤ k.2 ∧ 0 ≤ k.2) ∧ k.2 ≤ 4 * most ∧ ∀ i, i < k.1 → ∀ x, gl[i]? = some x → x.grp.n = 0 ∧ (x.key.size : Int) ≤ k.2) (fun k => gl.length - k.1) ((0, (c.key.size : Int) + (c.val.size : Int) + (c.to.size : Int))) ⟨Nat.zero_le _, ⟨by simp only; omega, by simp only; omega⟩, by simp only; omega, fun i hi => by omega⟩ (by repeat (first | exact trivial | refine ⟨rfl, ?_⟩)) (by repeat (first | exact .nil | apply Pick.cons | exact .here | apply Ext.there)) ?_
          intro k
          rintro ⟨hk0, ⟨hk1a, hk1⟩, hk2, hk3⟩
          refine CW.seq ?_
          refine CW.seq ?_
          refine CW.region ?_
          refine LW.v rfl rfl (Val.move rfl) ?_
          refine LW.v rfl rfl (Val.fieldAddr 4 rfl Try.underlying28 rfl rfl Try.sizeOf26) ?_
          refine LW.v rfl rfl (Val.load rfl Try.isAgg26 (by repeat (first | exact .here | refine .there ?_)) (by rfl)) ?_
          refine LW.v rfl rfl (Val.lenSl rfl Try.underlying26) ?_
          refine LW.v rfl rfl (Val.cmp rfl rfl rfl) ?_
          refine LW.v rfl rfl (Val.move rfl) ?_
          refine LW.split (d := 52) rfl (fun h52 => ?_) (fun h52 => ?_)
          · replace h52 := bT h52
            refine LW.v rfl rfl (Val.move rfl) ?_
            refine LW.v rfl rfl (Val.move rfl) ?_
            refine LW.v rfl rfl (Val.cmp rfl rfl rfl) ?_
            refine LW.v rfl rfl (Val.pick_t rfl rfl) ?_
            refine LW.nil ?_
            refine PQ.seq ?_
            refine CW.cond rfl (fun h56 => ?_) (fun h56 => ?_)
            · replace h56 := bT h56
              refine CW.skip ?_
              refine PQ.seq ?_
              refine CW.seq ?_
              refine CW.block ?_
              refine CW.seq ?_
              refine CW.region ?_
              refine LW.v rfl rfl (Val.fieldAddr 4 rfl Try.underlying28 rfl rfl Try.sizeOf26) ?_
              refine LW.v rfl rfl (Val.load rfl Try.isAgg26 (by repeat (first | exact .here | refine .there ?_)) (by rfl)) ?_
              refine LW.v rfl rfl (Val.move rfl) ?_
              obtain ⟨bg, og, x', hpa, hbg, hx, hr⟩ := V.slAt_at hs hg (k := k.1) (by omega)
              refine LW.re 60 (.slice (some ⟨bg, og, none⟩) c.grp.n c.grp.c) rfl (by rw [hpa]) ?_
              first | (refine LW.v rfl rfl (Val.indexAddrN rfl rfl Try.underlying26 Try.sizeOf28 (by omega)) ?_) | (refine LW.v rfl rfl (Val.indexAddr rfl rfl Try.underlying26 Try.sizeOf28 (by omega) (by omega)) ?_)
              refine LW.v rfl rfl (Val.loadOA rfl Try.isAgg28 hbg (by simp [ids]) (hr _ _ hx) Try.sizeOf28) ?_
              refine LW.e rfl rfl (Eff.allocA (by exact Try.zeroValue28)) ?_
              intro b7 _
              first | (refine LW.eN rfl (Eff.storeW rfl rfl (by repeat (first | exact .here | apply Upd.there)) (by rfl) Try.sizeOf28 (by rfl)) ?_) | (refine LW.eN rfl (Eff.storeA (l' := _) rfl rfl (by repeat (first | exact .here | apply Upd.there)) (by rfl) (by decide) Try.sizeOf28 (by rfl)) ?_)
              intro _ _
              refine LW.nil ?_
              refine PQ.seq ?_
              refine CW.seq ?_
              refine CW.seq ?_
              refine CW.region ?_
              refine LW.v rfl rfl (Val.fieldAddr 1 rfl Try.underlying28 rfl rfl Try.sizeOf9) ?_
              refine LW.v rfl rfl (Val.load rfl Try.isAgg9 (by repeat (first | exact .here | refine .there ?_)) (by rfl)) ?_
              refine LW.v rfl rfl (Val.lenS rfl Try.underlying9) ?_
              refine LW.v rfl rfl (Val.move rfl) ?_
              refine LW.v rfl rfl (Val.cmp rfl rfl rfl) ?_
              refine LW.v rfl rfl (Val.move rfl) ?_
              refine LW.split (d := 69) rfl (fun h69 => ?_) (fun h69 => ?_)
              · replace h69 := bT h69
                refine LW.p rfl rfl ?_
                refine LW.p rfl rfl ?_
                refine LW.p rfl rfl ?_
                refine LW.p rfl rfl ?_
                refine LW.p rfl rfl ?_
                refine LW.v rfl rfl (Val.pick_t rfl rfl) ?_
                refine LW.v rfl rfl (Val.move rfl) ?_
                refine LW.p rfl rfl ?_
                refine LW.p rfl rfl ?_
                refine LW.p rfl rfl ?_
                refine LW.p rfl rfl ?_
                refine LW.p rfl rfl ?_
                refine LW.v rfl rfl (Val.pick_t rfl rfl) ?_
                refine LW.v rfl rfl (Val.move rfl) ?_
                refine LW.p rfl rfl ?_
                refine LW.p rfl rfl ?_
                refine LW.p rfl rfl ?_
                refine LW.p rfl rfl ?_
                refine LW.v rfl rfl (Val.pick_t rfl rfl) ?_
                refine LW.nil ?_
                refine PQ.seq ?_
                refine CW.cond_t rfl ?_
                refine CW.seq ?_
                refine CW.region ?_
                refine LW.v rfl rfl (Val.move rfl) ?_
                refine LW.v rfl rfl (Val.ar rfl rfl rfl (IntWalk.i64_in _ (by omega))) ?_
                refine LW.v rfl rfl (Val.assign rfl) ?_
                refine LW.nil ?_
                refine PQ.seq ?_
                refine CW.ret ?_
                refine PQ.then_ret ?_
                refine PQ.in_ret ?_
                refine PQ.then_ret ?_
                refine PQ.then_ret ?_
                refine PQ.in_ret ?_
                refine PQ.then_ret ?_
                refine PQ.ret1 rfl rfl ?_
                intro w hw; exact ⟨_, fun h => by omega, rfl, hw.below⟩
              · replace h69 := bF h69
                refine LW.v rfl rfl (Val.fieldAddr 2 rfl Try.underlying28 rfl rfl Try.sizeOf9) ?_
                refine LW.v rfl rfl (Val.load rfl Try.isAgg9 (by repeat (first | exact .here | refine .there ?_)) (by rfl)) ?_
                refine LW.v rfl rfl (Val.lenS rfl Try.underlying9) ?_
                refine LW.v rfl rfl (Val.move rfl) ?_
                refine LW.v rfl rfl (Val.cmp rfl rfl rfl) ?_
                refine LW.v rfl rfl (Val.pick_f rfl rfl) ?_
                refine LW.v rfl rfl (Val.move rfl) ?_
                refine LW.split (d := 76) rfl (fun h76 => ?_) (fun h76 => ?_)
                · replace h76 := bT h76
                  refine LW.p rfl rfl ?_
                  refine LW.p rfl rfl ?_
                  refine LW.p rfl rfl ?_
                  refine LW.p rfl rfl ?_
                  refine LW.p rfl rfl ?_
                  refine LW.v rfl rfl (Val.pick_t rfl rfl) ?_
                  refine LW.v rfl rfl (Val.move rfl) ?_
                  refine LW.p rfl rfl ?_
                  refine LW.p rfl rfl ?_
                  refine LW.p rfl rfl ?_
                  refine LW.p rfl rfl ?_
                  refine LW.v rfl rfl (Val.pick_t rfl rfl) ?_
                  refine LW.nil ?_
                  refine PQ.seq ?_
                  refine CW.cond_t rfl ?_
                  refine CW.seq ?_
                  refine CW.region ?_
                  refine LW.v rfl rfl (Val.move rfl) ?_
                  refine LW.v rfl rfl (Val.ar rfl rfl rfl (IntWalk.i64_in _ (by omega))) ?_
                  refine LW.v rfl rfl (Val.assign rfl) ?_
                  refine LW.nil ?_
                  refine PQ.seq ?_
                  refine CW.ret ?_
                  refine PQ.then_ret ?_
                  refine PQ.in_ret ?_
                  refine PQ.then_ret ?_
                  refine PQ.then_ret ?_
                  refine PQ.in_ret ?_
                  refine PQ.then_ret ?_
                  refine PQ.ret1 rfl rfl ?_
                  intro w hw; exact ⟨_, fun h => by omega, rfl, hw.below⟩
                · replace h76 := bF h76
                  refine LW.v rfl rfl (Val.fieldAddr 3 rfl Try.underlying28 rfl rfl Try.sizeOf9) ?_
                  refine LW.v rfl rfl (Val.load rfl Try.isAgg9 (by repeat (first | exact .here | refine .there ?_)) (by rfl)) ?_
                  refine LW.v rfl rfl (Val.lenS rfl Try.underlying9) ?_
                  refine LW.v rfl rfl (Val.move rfl) ?_
                  refine LW.v rfl rfl (Val.cmp rfl rfl rfl) ?_
                  refine LW.v rfl rfl (Val.pick_f rfl rfl) ?_
                  refine LW.v rfl rfl (Val.move rfl) ?_
                  refine LW.split (d := 83) rfl (fun h83 => ?_) (fun h83 => ?_)
                  · replace h83 := bT h83
                    refine LW.p rfl rfl ?_
                    refine LW.p rfl rfl ?_
                    refine LW.p rfl rfl ?_
                    refine LW.p rfl rfl ?_
                    refine LW.v rfl rfl (Val.pick_t rfl rfl) ?_
                    refine LW.nil ?_
                    refine PQ.seq ?_
                    refine CW.cond_t rfl ?_
                    refine CW.seq ?_
                    refine CW.region ?_
                    refine LW.v rfl rfl (Val.move rfl) ?_
                    refine LW.v rfl rfl (Val.ar rfl rfl rfl (IntWalk.i64_in _ (by omega))) ?_
                    refine LW.v rfl rfl (Val.assign rfl) ?_
                    refine LW.nil ?_
                    refine PQ.seq ?_
                    refine CW.ret ?_
                    refine PQ.then_ret ?_
                    refine PQ.in_ret ?_
                    refine PQ.then_ret ?_
                    refine PQ.then_ret ?_
                    refine PQ.in_ret ?_
                    refine PQ.then_ret ?_
                    refine PQ.ret1 rfl rfl ?_
                    intro w hw; exact ⟨_, fun h => by omega, rfl, hw.below⟩
                  · replace h83 := bF h83
                    refine LW.v rfl rfl (Val.fieldAddr 4 rfl Try.underlying28 rfl rfl Try.sizeOf26) ?_
                    refine LW.v rfl rfl (Val.load rfl Try.isAgg26 (by repeat (first | exact .here | refine .there ?_)) (by rfl)) ?_
                    refine LW.v rfl rfl (Val.lenSl rfl Try.underlying26) ?_
                    refine LW.v rfl rfl (Val.cmp rfl rfl rfl) ?_
                    refine LW.v rfl rfl (Val.pick_f rfl rfl) ?_
                    refine LW.nil ?_
                    refine PQ.seq ?_
                    refine CW.cond rfl (fun h88 => ?_) (fun h88 => ?_)
                    · replace h88 := bT h88
                      refine CW.seq ?_
                      refine CW.region ?_
                      refine LW.v rfl rfl (Val.move rfl) ?_
                      refine LW.v rfl rfl (Val.ar rfl rfl rfl (IntWalk.i64_in _ (by omega))) ?_
                      refine LW.v rfl rfl (Val.assign rfl) ?_
                      refine LW.nil ?_
                      refine PQ.seq ?_
                      refine CW.ret ?_
                      refine PQ.then_ret ?_
                      refine PQ.in_ret ?_
                      refine PQ.then_ret ?_
                      refine PQ.then_ret ?_
                      refine PQ.in_ret ?_
                      refine PQ.then_ret ?_
                      refine PQ.ret1 rfl rfl ?_
                      intro w hw; exact ⟨_, fun h => by omega, rfl, hw.below⟩
                    · replace h88 := bF h88
                      refine CW.skip ?_
                      refine PQ.seq ?_
                      refine CW.region ?_
                      refine LW.v rfl rfl (Val.move rfl) ?_
                      refine LW.v rfl rfl (Val.fieldAddr 1 rfl Try.underlying28 rfl rfl Try.sizeOf9) ?_
                      refine LW.v rfl rfl (Val.load rfl Try.isAgg9 (by repeat (first | exact .here | refine .there ?_)) (by rfl)) ?_
                      refine LW.v rfl rfl (Val.lenS rfl Try.underlying9) ?_
                      refine LW.v rfl rfl (Val.ar rfl rfl rfl (IntWalk.i64_in _ (by omega))) ?_
                      refine LW.v rfl rfl (Val.fieldAddr 2 rfl Try.underlying28 rfl rfl Try.sizeOf9) ?_
                      refine LW.v rfl rfl (Val.load rfl Try.isAgg9 (by repeat (first | exact .here | refine .there ?_)) (by rfl)) ?_
                      refine LW.v rfl rfl (Val.lenS rfl Try.underlying9) ?_
                      refine LW.v rfl rfl (Val.ar rfl rfl rfl (IntWalk.i64_in _ (by omega))) ?_
                      refine LW.v rfl rfl (Val.fieldAddr 3 rfl Try.underlying28 rfl rfl Try.sizeOf9) ?_
                      refine LW.v rfl rfl (Val.load rfl Try.isAgg9 (by repeat (first | exact .here | refine .there ?_)) (by rfl)) ?_
                      refine LW.v rfl rfl (Val.lenS rfl Try.underlying9) ?_
                      refine LW.v rfl rfl (Val.ar rfl rfl rfl (IntWalk.i64_in _ (by omega))) ?_
                      refine LW.v rfl rfl (Val.assign rfl) ?_
                      refine LW.nil ?_
                      refine PQ.in_normal ?_
                      refine PQ.seq ?_
                      refine CW.region ?_
                      refine LW.v rfl rfl (Val.move rfl) ?_
                      refine LW.v rfl rfl (Val.ar rfl rfl rfl (IntWalk.i64_in _ (by omega))) ?_
                      refine LW.v rfl rfl (Val.assign rfl) ?_
                      refine LW.nil ?_
                      refine PQ.round ((k.1 + 1, k.2 + (x'.key.size : Int) + (x'.val.size : Int) + (x'.to.size : Int))) ⟨by simp only; omega, ⟨by simp only; omega, by simp only; omega⟩, by simp only; omega, fun i hi y hy => by
                        by_cases e : i = k.1
                        · subst e; rw [hx] at hy; cases hy; exact ⟨by omega, by simp only; omega⟩
                        · have h9 := hk3 i (by simp only at hi; omega) y hy
                          exact ⟨h9.1, by simp only; omega⟩⟩ (by simp only; omega) (by repeat (first | exact trivial | refine ⟨rfl, ?_⟩)) (by repeat (first | exact .nil | apply Pick.cons | exact .here | apply Ext.there))
            · replace h56 := bF h56
              refine CW.exit ?_
              refine PQ.then_exit ?_
              refine PQ.then_exit ?_
              refine PQ.in_here ?_
              refine PQ.seq ?_
              refine CW.seq ?_
              refine CW.region ?_
              refine LW.v rfl rfl (Val.move rfl) ?_
              refine LW.v rfl rfl (Val.move rfl) ?_
              refine LW.v rfl rfl (Val.ar rfl rfl rfl (IntWalk.i64_in _ (by omega))) ?_
              refine LW.v rfl rfl (Val.minI rfl rfl) ?_
              refine LW.v rfl rfl (Val.assign rfl) ?_
              refine LW.nil ?_
              refine PQ.seq ?_
              refine CW.ret ?_
              refine PQ.ret1 rfl rfl ?_
              intro w hw; exact ⟨_, fun h => by split at h <;> omega, rfl, hw.below⟩
          · replace h52 := bF h52
            refine LW.p rfl rfl ?_
            refine LW.p rfl rfl ?_
            refine LW.p rfl rfl ?_
            refine LW.v rfl rfl (Val.pick_f rfl rfl) ?_
            refine LW.nil ?_
            refine PQ.seq ?_
            refine CW.cond_f rfl ?_
            refine CW.exit ?_
            refine PQ.then_exit ?_
            refine PQ.then_exit ?_
            refine PQ.in_here ?_
            refine PQ.seq ?_
            refine CW.seq ?_
            refine CW.region ?_
            refine LW.v rfl rfl (Val.move rfl) ?_
            refine LW.v rfl rfl (Val.move rfl) ?_
            refine LW.v rfl rfl (Val.ar rfl rfl rfl (IntWalk.i64_in _ (by omega))) ?_
            refine LW.v rfl rfl (Val.minI rfl rfl) ?_
            refine LW.v rfl rfl (Val.assign rfl) ?_
            refine LW.nil ?_
            refine PQ.seq ?_
            refine CW.ret ?_
            refine PQ.ret1 rfl rfl ?_
            intro w hw
            exact ⟨_, fun h => ⟨⟨by omega, fun x hx => by
              obtain ⟨i, hi, rfl⟩ := List.getElem_of_mem hx
              exact (hk3 i (by omega) _ (List.getElem?_eq_getElem hi)).1⟩, by omega, fun x hx => by
              obtain ⟨i, hi, rfl⟩ := List.getElem_of_mem hx
              have := (hk3 i (by omega) _ (List.getElem?_eq_getElem hi)).2
              omega⟩, rfl, hw.below⟩
theorem large_c (R : Rdg) (p : Option Addr) (n cap : Nat) (l : List Sto) (w : World) (hn : l.length = n) (h : V.slAt w p 14 Sto.cells l) (ho : ∀ s ∈ l, ∃ gl pl hl, R s gl pl hl ∧ RdS w s gl pl hl) : Calls Try.prog 9 [.slice p n cap].toArray w
    fun e w' => ∃ x : Bool, (x = false → n ≤ 60 ∧ ∀ i, i < n → ∀ s, l[i]? = some s → ∃ gl pl hl, R s gl pl hl ∧ Small s gl) ∧ e = .returned (.bool x) ∧ Below w.heap.size w w' := by
  refine V.calls [] Try.func9 rfl Try.ntmps9 (Nat.le_of_ble_eq_true rfl) (V.sat_nil _) ?_
  refine CW.seq ?_
  refine CW.region ?_
  refine LW.v rfl rfl (Val.assign rfl) ?_
  refine LW.nil ?_
  refine PQ.seq ?_
  refine CW.seq ?_
  refine CW.seq ?_
  refine CW.region ?_
  refine LW.v rfl rfl (Val.move rfl) ?_
  refine LW.v rfl rfl (Val.lenSl rfl Try.underlying22) ?_
  refine LW.v rfl rfl (Val.cmp rfl rfl rfl) ?_
  refine LW.nil ?_
  refine PQ.seq ?_
  refine CW.cond rfl (fun h6 => ?_) (fun h6 => ?_)
  · replace h6 := bT h6
    refine CW.seq ?_
    refine CW.region ?_
    refine LW.v rfl rfl (Val.assign rfl) ?_
    refine LW.nil ?_
    refine PQ.seq ?_
    refine CW.ret ?_
    refine PQ.then_ret ?_
    refine PQ.ret1 rfl rfl ?_
    intro w hw; exact ⟨_, (fun h => by first | (cases h; done) | exact ⟨by omega, fun i hi => hJ.2 i (by omega)⟩), rfl, hw.below⟩
  · replace h6 := bF h6
    refine CW.skip ?_
    refine PQ.seq ?_
    refine CW.seq ?_
    refine CW.seq ?_
    refine CW.region ?_
    refine LW.v rfl rfl (Val.assign rfl) ?_
    refine LW.nil ?_
    refine PQ.seq ?_
    refine CW.block ?_
    refine CW.loop (γ := Nat) (fun k => [(0, .slice p n cap), (3, .int .i64 (k : Nat))]) (fun _ => []) (fun k => k ≤ n ∧ ∀ i, i < k → ∀ s, l[i]? = some s → ∃ gl pl hl, R s gl pl hl ∧ Small s gl) (fun k => n - k) (0) ⟨Nat.zero_le _, fun i hi => by omega⟩ (by repeat (first | exact trivial | refine ⟨rfl, ?_⟩)) (by repeat (first | exact .nil | apply Pick.cons | exact .here | apply Ext.there)) ?_
    intro k
    intro hJ
    refine CW.seq ?_
    refine CW.seq ?_
    refine CW.region ?_
    refine LW.v rfl rfl (Val.move rfl) ?_
    refine LW.v rfl rfl (Val.move rfl) ?_
    refine LW.v rfl rfl (Val.lenSl rfl Try.underlying22) ?_
    refine LW.v rfl rfl (Val.cmp rfl rfl rfl) ?_
    refine LW.nil ?_
    refine PQ.seq ?_
    refine CW.cond rfl (fun h10 => ?_) (fun h10 => ?_)
    · replace h10 := bT h10
      refine CW.skip ?_
      refine PQ.seq ?_
      refine CW.seq ?_
      refine CW.block ?_
      refine CW.seq ?_
      refine CW.region ?_
      refine LW.v rfl rfl (Val.move rfl) ?_
      refine LW.v rfl rfl (Val.move rfl) ?_
      obtain ⟨b, o, s, rfl, hb, hs, h⟩ := V.slAt_at h hn (k := k) (by omega)
      obtain ⟨gl, pl, hl, hR, hgl, hgs, hpl, hps, hhl, hhs⟩ := ho s (List.mem_of_getElem? hs)
      first | (refine LW.v rfl rfl (Val.indexAddrN rfl rfl Try.underlying22 Try.sizeOf36 (by omega)) ?_) | (refine LW.v rfl rfl (Val.indexAddr rfl rfl Try.underlying22 Try.sizeOf36 (by omega) (by omega)) ?_)
      refine LW.v rfl rfl (Val.fieldAddr 1 rfl Try.underlying36 rfl rfl Try.sizeOf28) ?_
      refine LW.v rfl rfl (Val.loadOA (cs := s.call.cells) rfl Try.isAgg28 hb (by simp [ids]) (V.rangeAt_sub (h k s hs) 1 rfl) Try.sizeOf28) ?_
      refine LW.e rfl rfl (Eff.callR rfl Try.call39 (fun w hw => weight_c s.call gl 600 w (by omega) hgl.symm (hw.slAt hgs (by simp [ids])))) ?_
      intro z hz
      refine LW.v rfl rfl (Val.cmp rfl rfl rfl) ?_
      refine LW.v rfl rfl (Val.move rfl) ?_
      refine LW.split (d := 20) rfl (fun h20 => ?_) (fun h20 => ?_)
      · replace h20 := bT h20
        refine LW.p rfl rfl ?_
        refine LW.p rfl rfl ?_
        refine LW.p rfl rfl ?_
        refine LW.p rfl rfl ?_
        refine LW.p rfl rfl ?_
        refine LW.p rfl rfl ?_
        refine LW.p rfl rfl ?_
        refine LW.p rfl rfl ?_
        refine LW.v rfl rfl (Val.pick_t rfl rfl) ?_
        refine LW.v rfl rfl (Val.move rfl) ?_
        refine LW.p rfl rfl ?_
        refine LW.p rfl rfl ?_
        refine LW.p rfl rfl ?_
        refine LW.p rfl rfl ?_
        refine LW.p rfl rfl ?_
        refine LW.p rfl rfl ?_
        refine LW.p rfl rfl ?_
        refine LW.p rfl rfl ?_
        refine LW.v rfl rfl (Val.pick_t rfl rfl) ?_
        refine LW.v rfl rfl (Val.move rfl) ?_
        refine LW.p rfl rfl ?_
        refine LW.p rfl rfl ?_
        refine LW.p rfl rfl ?_
        refine LW.p rfl rfl ?_
        refine LW.p rfl rfl ?_
        refine LW.p rfl rfl ?_
        refine LW.p rfl rfl ?_
        refine LW.p rfl rfl ?_
        refine LW.v rfl rfl (Val.pick_t rfl rfl) ?_
        refine LW.nil ?_
        refine PQ.seq ?_
        refine CW.cond_t rfl ?_
        refine CW.seq ?_
        refine CW.region ?_
        refine LW.v rfl rfl (Val.assign rfl) ?_
        refine LW.nil ?_
        refine PQ.seq ?_
        refine CW.ret ?_
        refine PQ.in_ret ?_
        refine PQ.then_ret ?_
        refine PQ.then_ret ?_
        refine PQ.in_ret ?_
        refine PQ.then_ret ?_
        refine PQ.ret1 rfl rfl ?_
        intro w hw; exact ⟨_, (fun h => by first | (cases h; done) | exact ⟨by omega, fun i hi => hJ.2 i (by omega)⟩), rfl, hw.below⟩
      · replace h20 := bF h20
        refine LW.v rfl rfl (Val.move rfl) ?_
        refine LW.v rfl rfl (Val.move rfl) ?_
        first | (refine LW.v rfl rfl (Val.indexAddrN rfl rfl Try.underlying22 Try.sizeOf36 (by omega)) ?_) | (refine LW.v rfl rfl (Val.indexAddr rfl rfl Try.underlying22 Try.sizeOf36 (by omega) (by omega)) ?_)
        refine LW.v rfl rfl (Val.fieldAddr 6 rfl Try.underlying36 rfl rfl Try.sizeOf34) ?_
        refine LW.v rfl rfl (Val.fieldAddr 3 rfl Try.underlying34 rfl rfl Try.sizeOf30) ?_
        refine LW.v rfl rfl (Val.loadO rfl Try.isAgg30 hb (by simp [ids]) (h k s hs 9 _ rfl)) ?_
        refine LW.v rfl rfl (Val.lenSl rfl Try.underlying30) ?_
        refine LW.v rfl rfl (Val.cmp rfl rfl rfl) ?_
        refine LW.v rfl rfl (Val.pick_f rfl rfl) ?_
        refine LW.v rfl rfl (Val.move rfl) ?_
        refine LW.split (d := 30) rfl (fun h30 => ?_) (fun h30 => ?_)
        · replace h30 := bT h30
          refine LW.p rfl rfl ?_
          refine LW.p rfl rfl ?_
          refine LW.p rfl rfl ?_
          refine LW.p rfl rfl ?_
          refine LW.p rfl rfl ?_
          refine LW.p rfl rfl ?_
          refine LW.p rfl rfl ?_
          refine LW.p rfl rfl ?_
          refine LW.v rfl rfl (Val.pick_t rfl rfl) ?_
          refine LW.v rfl rfl (Val.move rfl) ?_
          refine LW.p rfl rfl ?_
          refine LW.p rfl rfl ?_
          refine LW.p rfl rfl ?_
          refine LW.p rfl rfl ?_
          refine LW.p rfl rfl ?_
          refine LW.p rfl rfl ?_
          refine LW.p rfl rfl ?_
          refine LW.p rfl rfl ?_
          refine LW.v rfl rfl (Val.pick_t rfl rfl) ?_
          refine LW.nil ?_
          refine PQ.seq ?_
          refine CW.cond_t rfl ?_
          refine CW.seq ?_
          refine CW.region ?_
          refine LW.v rfl rfl (Val.assign rfl) ?_
          refine LW.nil ?_
          refine PQ.seq ?_
          refine CW.ret ?_
          refine PQ.in_ret ?_
          refine PQ.then_ret ?_
          refine PQ.then_ret ?_
          refine PQ.in_ret ?_
          refine PQ.then_ret ?_
          refine PQ.ret1 rfl rfl ?_
          intro w hw; exact ⟨_, (fun h => by first | (cases h; done) | exact ⟨by omega, fun i hi => hJ.2 i (by omega)⟩), rfl, hw.below⟩
        · replace h30 := bF h30
          refine LW.v rfl rfl (Val.move rfl) ?_
          refine LW.v rfl rfl (Val.move rfl) ?_
          first | (refine LW.v rfl rfl (Val.indexAddrN rfl rfl Try.underlying22 Try.sizeOf36 (by omega)) ?_) | (refine LW.v rfl rfl (Val.indexAddr rfl rfl Try.underlying22 Try.sizeOf36 (by omega) (by omega)) ?_)
          refine LW.v rfl rfl (Val.fieldAddr 6 rfl Try.underlying36 rfl rfl Try.sizeOf34) ?_
          refine LW.v rfl rfl (Val.fieldAddr 4 rfl Try.underlying34 rfl rfl Try.sizeOf31) ?_
          refine LW.v rfl rfl (Val.loadO rfl Try.isAgg31 hb (by simp [ids]) (h k s hs 10 _ rfl)) ?_
          refine LW.v rfl rfl (Val.lenSl rfl Try.underlying31) ?_
          refine LW.v rfl rfl (Val.cmp rfl rfl rfl) ?_
          refine LW.v rfl rfl (Val.pick_f rfl rfl) ?_
          refine LW.v rfl rfl (Val.move rfl) ?_
          refine LW.split (d := 40) rfl (fun h40 => ?_) (fun h40 => ?_)
          · replace h40 := bT h40
            refine LW.p rfl rfl ?_
            refine LW.p rfl rfl ?_
            refine LW.p rfl rfl ?_
            refine LW.p rfl rfl ?_
            refine LW.p rfl rfl ?_
            refine LW.p rfl rfl ?_
            refine LW.p rfl rfl ?_
            refine LW.p rfl rfl ?_
            refine LW.v rfl rfl (Val.pick_t rfl rfl) ?_
            refine LW.nil ?_
            refine PQ.seq ?_
            refine CW.cond_t rfl ?_
            refine CW.seq ?_
            refine CW.region ?_
            refine LW.v rfl rfl (Val.assign rfl) ?_
            refine LW.nil ?_
            refine PQ.seq ?_
            refine CW.ret ?_
            refine PQ.in_ret ?_
            refine PQ.then_ret ?_
            refine PQ.then_ret ?_
            refine PQ.in_ret ?_
            refine PQ.then_ret ?_
            refine PQ.ret1 rfl rfl ?_
            intro w hw; exact ⟨_, (fun h => by first | (cases h; done) | exact ⟨by omega, fun i hi => hJ.2 i (by omega)⟩), rfl, hw.below⟩
          · replace h40 := bF h40
            refine LW.v rfl rfl (Val.move rfl) ?_
            refine LW.v rfl rfl (Val.move rfl) ?_
            first | (refine LW.v rfl rfl (Val.indexAddrN rfl rfl Try.underlying22 Try.sizeOf36 (by omega)) ?_) | (refine LW.v rfl rfl (Val.indexAddr rfl rfl Try.underlying22 Try.sizeOf36 (by omega) (by omega)) ?_)
            refine LW.v rfl rfl (Val.fieldAddr 6 rfl Try.underlying36 rfl rfl Try.sizeOf34) ?_
            refine LW.v rfl rfl (Val.fieldAddr 2 rfl Try.underlying34 rfl rfl Try.sizeOf9) ?_
            refine LW.v rfl rfl (Val.loadO rfl Try.isAgg9 hb (by simp [ids]) (h k s hs 8 _ rfl)) ?_
            refine LW.v rfl rfl (Val.lenS rfl Try.underlying9) ?_
            refine LW.v rfl rfl (Val.cmp rfl rfl rfl) ?_
            refine LW.v rfl rfl (Val.pick_f rfl rfl) ?_
            refine LW.nil ?_
            refine PQ.seq ?_
            refine CW.cond rfl (fun h49 => ?_) (fun h49 => ?_)
            · replace h49 := bT h49
              refine CW.seq ?_
              refine CW.region ?_
              refine LW.v rfl rfl (Val.assign rfl) ?_
              refine LW.nil ?_
              refine PQ.seq ?_
              refine CW.ret ?_
              refine PQ.in_ret ?_
              refine PQ.then_ret ?_
              refine PQ.then_ret ?_
              refine PQ.in_ret ?_
              refine PQ.then_ret ?_
              refine PQ.ret1 rfl rfl ?_
              intro w hw; exact ⟨_, (fun h => by first | (cases h; done) | exact ⟨by omega, fun i hi => hJ.2 i (by omega)⟩), rfl, hw.below⟩
            · replace h49 := bF h49
              refine CW.skip ?_
              refine PQ.in_normal ?_
              refine PQ.seq ?_
              refine CW.region ?_
              refine LW.v rfl rfl (Val.move rfl) ?_
              refine LW.v rfl rfl (Val.ar rfl rfl rfl (IntWalk.i64_in _ (by omega))) ?_
              refine LW.v rfl rfl (Val.assign rfl) ?_
              refine LW.nil ?_
              refine PQ.round (k + 1) ⟨by omega, fun i hi y hy => by
                by_cases e : i = k
                · subst e; rw [hs] at hy; cases hy
                  have h8 := hz (by omega)
                  exact ⟨gl, pl, hl, hR, ⟨by have := h8.1.1; omega, by have := h8.2.1; omega, fun x hx => by have := h8.2.2 x hx; omega⟩, h8.1.2, by omega, by omega⟩
                · exact hJ.2 i (by omega) y hy⟩ (by omega) (by repeat (first | exact trivial | refine ⟨rfl, ?_⟩)) (by repeat (first | exact .nil | apply Pick.cons | exact .here | apply Ext.there))
    · replace h10 := bF h10
      refine CW.exit ?_
      refine PQ.then_exit ?_
      refine PQ.then_exit ?_
      refine PQ.in_here ?_
      refine PQ.seq ?_
      refine CW.seq ?_
      refine CW.region ?_
      refine LW.v rfl rfl (Val.assign rfl) ?_
      refine LW.nil ?_
      refine PQ.seq ?_
      refine CW.ret ?_
      refine PQ.ret1 rfl rfl ?_
      intro w hw; exact ⟨_, (fun h => by first | (cases h; done) | exact ⟨by omega, fun i hi => hJ.2 i (by omega)⟩), rfl, hw.below⟩
def stA : Sto := ⟨0, ⟨0, ⟨#[]⟩, ⟨#[]⟩, ⟨#[]⟩, ⟨none, 0, 0⟩⟩, 0, false, ⟨#[]⟩, ⟨none, 0, 0⟩, ⟨none, 0, 0⟩, 0, 1, 4⟩
def stB : Sto := ⟨0, ⟨0, ⟨#[]⟩, ⟨#[]⟩, ⟨#[]⟩, ⟨none, 0, 0⟩⟩, 0, false, ⟨#[]⟩, ⟨none, 0, 0⟩, ⟨none, 0, 0⟩, 0, 5, -1⟩
theorem may_AB : May [stA, stB] := by
  intro i hi s hs
  match i, hi with
  | 0, _ => cases hs; exact ⟨by decide, fun p j hj => by omega, .inr (by decide)⟩
  | 1, _ => cases hs; exact ⟨by decide, fun p j hj hp => by obtain rfl : j = 0 := by omega
                                                            cases hp; decide, .inl rfl⟩
theorem may_BA : ¬ May [stB, stA] := fun h => by
  have := (h 1 (by decide) stA rfl).2.1 stB 0 rfl rfl
  exact absurd this (by decide)
theorem sto_len (s : Sto) : s.cells.length = 14 := rfl
theorem cl_len (s : Cl) : s.cells.length = 5 := rfl
theorem places36 : ∀ w, ((Array.mapM (fun (f : Field) => do pure (f.offset, ← sizeOf f.type)) (Try.prog.fieldsOf 36) : Sem (Array (Nat × Nat)))).run Try.prog w = .ok [(0, 1), (1, 5), (6, 6), (12, 1), (13, 1)].toArray w := by
  intro w; kernel_rfl
theorem awake24_c (w : World) : Calls Try.prog 10 [].toArray w fun e w' => e = .returned (.bool true) ∧ Below w.heap.size w w' := by
  refine V.calls [] Try.func10 rfl Try.ntmps10 (Nat.le_of_ble_eq_true rfl) (V.sat_nil _) ?_
  refine CW.seq ?_
  refine CW.region ?_
  refine LW.v rfl rfl (Val.assign rfl) ?_
  refine LW.nil ?_
  refine PQ.seq ?_
  refine CW.seq ?_
  refine CW.region ?_
  refine LW.v rfl rfl (Val.build [_, _, _, _, _, _, _, _, _, _, _, _, _, _] Try.zeroValue36 Try.underlying36 places36 rfl (by rfl)) ?_
  refine LW.v rfl rfl (Val.build [_, _, _, _, _, _, _, _, _, _, _, _, _, _] Try.zeroValue36 Try.underlying36 places36 rfl (by rfl)) ?_
  refine LW.e rfl rfl (Eff.allocA (by exact Try.zeroValue36)) ?_
  intro b1 _
  refine LW.e rfl rfl (Eff.allocA (by exact Try.zeroValue36)) ?_
  intro b2 _
  first | (refine LW.eN rfl (Eff.storeW rfl rfl (by repeat (first | exact .here | apply Upd.there)) (by rfl) Try.sizeOf36 (by rfl)) ?_) | (refine LW.eN rfl (Eff.storeA (l' := _) rfl rfl (by repeat (first | exact .here | apply Upd.there)) (by rfl) (by decide) Try.sizeOf36 (by rfl)) ?_)
  intro _ _
  first | (refine LW.eN rfl (Eff.storeW rfl rfl (by repeat (first | exact .here | apply Upd.there)) (by rfl) Try.sizeOf36 (by rfl)) ?_) | (refine LW.eN rfl (Eff.storeA (l' := _) rfl rfl (by repeat (first | exact .here | apply Upd.there)) (by rfl) (by decide) Try.sizeOf36 (by rfl)) ?_)
  intro _ _
  refine LW.nil ?_
  refine PQ.seq ?_
  refine CW.seq ?_
  refine CW.region ?_
  first | (refine LW.v rfl rfl (Val.loadW rfl Try.isAgg36 (by repeat (first | exact .here | refine .there ?_)) (by exact Try.sizeOf36)) ?_) | (refine LW.v rfl rfl (Val.loadA [_, _, _, _, _, _, _, _, _, _, _, _, _, _] rfl Try.isAgg36 (by repeat (first | exact .here | refine .there ?_)) (by rfl) Try.sizeOf36) ?_)
  first | (refine LW.v rfl rfl (Val.loadW rfl Try.isAgg36 (by repeat (first | exact .here | refine .there ?_)) (by exact Try.sizeOf36)) ?_) | (refine LW.v rfl rfl (Val.loadA [_, _, _, _, _, _, _, _, _, _, _, _, _, _] rfl Try.isAgg36 (by repeat (first | exact .here | refine .there ?_)) (by rfl) Try.sizeOf36) ?_)
  refine LW.e rfl rfl (Eff.callV rfl Try.call40 (fun w hw => before_c stA stB w)) ?_
  intro _ _
  refine LW.re 7 (.bool true) rfl (by rfl) ?_
  refine LW.v rfl rfl (Val.move rfl) ?_
  first | (refine LW.v rfl rfl (Val.loadW rfl Try.isAgg36 (by repeat (first | exact .here | refine .there ?_)) (by exact Try.sizeOf36)) ?_) | (refine LW.v rfl rfl (Val.loadA [_, _, _, _, _, _, _, _, _, _, _, _, _, _] rfl Try.isAgg36 (by repeat (first | exact .here | refine .there ?_)) (by rfl) Try.sizeOf36) ?_)
  first | (refine LW.v rfl rfl (Val.loadW rfl Try.isAgg36 (by repeat (first | exact .here | refine .there ?_)) (by exact Try.sizeOf36)) ?_) | (refine LW.v rfl rfl (Val.loadA [_, _, _, _, _, _, _, _, _, _, _, _, _, _] rfl Try.isAgg36 (by repeat (first | exact .here | refine .there ?_)) (by rfl) Try.sizeOf36) ?_)
  refine LW.e rfl rfl (Eff.callV rfl Try.call40 (fun w hw => before_c stB stA w)) ?_
  intro _ _
  refine LW.re 11 (.bool false) rfl (by rfl) ?_
  refine LW.v rfl rfl (Val.not rfl) ?_
  refine LW.v rfl rfl (Val.pick_t rfl rfl) ?_
  refine LW.v rfl rfl (Val.move rfl) ?_
  first | (refine LW.v rfl rfl (Val.loadW rfl Try.isAgg36 (by repeat (first | exact .here | refine .there ?_)) (by exact Try.sizeOf36)) ?_) | (refine LW.v rfl rfl (Val.loadA [_, _, _, _, _, _, _, _, _, _, _, _, _, _] rfl Try.isAgg36 (by repeat (first | exact .here | refine .there ?_)) (by rfl) Try.sizeOf36) ?_)
  first | (refine LW.v rfl rfl (Val.loadW rfl Try.isAgg36 (by repeat (first | exact .here | refine .there ?_)) (by exact Try.sizeOf36)) ?_) | (refine LW.v rfl rfl (Val.loadA [_, _, _, _, _, _, _, _, _, _, _, _, _, _] rfl Try.isAgg36 (by repeat (first | exact .here | refine .there ?_)) (by rfl) Try.sizeOf36) ?_)
  refine LW.e rfl rfl (Eff.buildSlice (rfl) [_, _, _, _, _, _, _, _, _, _, _, _, _, _, _, _, _, _, _, _, _, _, _, _, _, _, _, _] Try.underlying22 Try.sizeOf36 (by exact Try.zeroValue36) rfl rfl rfl rfl (by rfl)) ?_
  intro b17 _
  refine LW.e rfl rfl (Eff.callR rfl Try.call22 (fun w hw => may_c (some ⟨b17, 0, none⟩) 2 2 [stA, stB] w rfl (V.slAt_flat hw sto_len (r := []) rfl (by repeat (first | exact .here | refine .there ?_))) (by omega))) ?_
  intro x hx
  obtain rfl : x = true := hx.2 may_AB
  refine LW.v rfl rfl (Val.pick_t rfl rfl) ?_
  refine LW.v rfl rfl (Val.move rfl) ?_
  first | (refine LW.v rfl rfl (Val.loadW rfl Try.isAgg36 (by repeat (first | exact .here | refine .there ?_)) (by exact Try.sizeOf36)) ?_) | (refine LW.v rfl rfl (Val.loadA [_, _, _, _, _, _, _, _, _, _, _, _, _, _] rfl Try.isAgg36 (by repeat (first | exact .here | refine .there ?_)) (by rfl) Try.sizeOf36) ?_)
  first | (refine LW.v rfl rfl (Val.loadW rfl Try.isAgg36 (by repeat (first | exact .here | refine .there ?_)) (by exact Try.sizeOf36)) ?_) | (refine LW.v rfl rfl (Val.loadA [_, _, _, _, _, _, _, _, _, _, _, _, _, _] rfl Try.isAgg36 (by repeat (first | exact .here | refine .there ?_)) (by rfl) Try.sizeOf36) ?_)
  refine LW.e rfl rfl (Eff.buildSlice (rfl) [_, _, _, _, _, _, _, _, _, _, _, _, _, _, _, _, _, _, _, _, _, _, _, _, _, _, _, _] Try.underlying22 Try.sizeOf36 (by exact Try.zeroValue36) rfl rfl rfl rfl (by rfl)) ?_
  intro b23 _
  refine LW.e rfl rfl (Eff.callR rfl Try.call22 (fun w hw => may_c (some ⟨b23, 0, none⟩) 2 2 [stB, stA] w rfl (V.slAt_flat hw sto_len (r := []) rfl (by repeat (first | exact .here | refine .there ?_))) (by omega))) ?_
  intro x hx
  obtain rfl : x = false := by
    cases x
    · rfl
    · exact absurd (hx.1 rfl) may_BA
  refine LW.v rfl rfl (Val.not rfl) ?_
  refine LW.v rfl rfl (Val.pick_t rfl rfl) ?_
  refine LW.v rfl rfl (Val.assign rfl) ?_
  refine LW.nil ?_
  refine PQ.seq ?_
  refine CW.ret ?_
  refine PQ.ret1 rfl rfl ?_
  intro w hw; exact ⟨rfl, hw.below⟩
end Go.Proofs.Ytaihimbjdgmjgaa
