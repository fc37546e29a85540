/- What the functions of sum, place.Bucket and table do to a symbolic state. -/
import Derived.Test.YtaihimbjdgmjgaaRows
import Derived.Test.YtaihimbjdgmjgaaV6
import Derived.Lib.Hide
namespace Go.Proofs.Ytaihimbjdgmjgaa
open Go Go.RowKit V
set_option linter.unusedVariables false
set_option maxRecDepth 100000
theorem mixedT : Try.prog.follows .mixedOrders = true := by kernel_rfl
theorem places74 : ∀ w, ((Array.mapM (fun (f : Field) => do pure (f.offset, ← sizeOf f.type)) (Try.prog.fieldsOf 74) : Sem (Array (Nat × Nat)))).run Try.prog w = .ok [(0, 8)].toArray w := by
  intro w; kernel_rfl
theorem places44 : ∀ w, ((Array.mapM (fun (f : Field) => do pure (f.offset, ← sizeOf f.type)) (Try.prog.fieldsOf 44) : Sem (Array (Nat × Nat)))).run Try.prog w = .ok [(0, 1), (1, 1), (2, 1), (3, 1), (4, 1)].toArray w := by
  intro w; kernel_rfl
def xorF (a b : Int) : Int := IntKind.u32.wrap (BitVec.ofInt IntKind.u32.bits a ^^^ BitVec.ofInt IntKind.u32.bits b).toNat
def halfF (c : Int) : Int := IntKind.u32.wrap (c.tdiv 2)
def bitF (c : Int) : Int := if c.tmod 2 = 0 then halfF c else xorF (halfF c) 3988292384
def bitsF (c : Int) : Nat → Int
  | 0 => c
  | k + 1 => bitF (bitsF c k)
def stepF (c x : Int) : Int := bitsF (xorF c (IntKind.u32.wrap x)) 8
def textF (s : ByteArray) : Nat → Int
  | 0 => 4294967295
  | k + 1 => stepF (textF s k) ((s.data.getD k 0).toNat : Nat)
def sumF (s : ByteArray) : Int := xorF (textF s s.size) 4294967295
def bkI (s : ByteArray) : Int := IntKind.i64.wrap ((sumF s).tmod 8)
def bk (s : ByteArray) : Nat := (bkI s).toNat
theorem xorF_nonneg (a b : Int) : 0 ≤ xorF a b ∧ xorF a b < 4294967296 := by
  unfold xorF
  have h := (BitVec.ofInt IntKind.u32.bits a ^^^ BitVec.ofInt IntKind.u32.bits b).isLt
  have h2 : (2 : Nat) ^ IntKind.u32.bits = 4294967296 := by decide
  rw [h2] at h
  rw [IntWalk.u32_in _ (by omega)]
  omega
theorem bkI_range (s : ByteArray) : 0 ≤ bkI s ∧ bkI s < 8 := by
  have h := (xorF_nonneg (textF s s.size) 4294967295).1
  have h1 : 0 ≤ (sumF s).tmod 8 := Int.tmod_nonneg 8 h
  have h2 : (sumF s).tmod 8 < 8 := Int.tmod_lt_of_pos _ (by decide)
  unfold bkI
  rw [IntWalk.i64_in _ (by omega)]
  omega
theorem bk_lt (s : ByteArray) : bk s < 8 := by have := bkI_range s; unfold bk; omega
theorem bk_eq (s : ByteArray) : bkI s = (bk s : Nat) := by have := bkI_range s; unfold bk; omega
theorem byte_at (s : ByteArray) {k : Nat} (h : k < s.size) : s[k]? = some (s.data.getD k 0) := by
  rw [getElem?_pos s k h]
  have h' : k < s.data.size := h
  congr 1
  simp only [Array.getD, dif_pos h']
  rfl
theorem sumStep_c (c x : Int) (w : World) : Calls Try.prog 70 [.int .u32 c, .int .u8 x].toArray w fun e w' => e = .returned (.int .u32 (stepF c x)) ∧ Below w.heap.size w w' := by
  refine V.calls [] Try.func70 rfl Try.ntmps70 (Nat.le_of_ble_eq_true rfl) (V.sat_nil _) ?_
  refine CW.seq ?_
  refine CW.region ?_
  refine LW.v rfl rfl (Val.assign rfl) ?_
  refine LW.nil ?_
  refine PQ.seq ?_
  refine CW.scope ?_
  refine CW.seq ?_
  refine CW.region ?_
  refine LW.v rfl rfl (Val.move rfl) ?_
  refine LW.v rfl rfl (Val.move rfl) ?_
  refine LW.v rfl rfl (Val.convI rfl Try.underlying5 Try.underlying83) ?_
  refine LW.v rfl rfl (Val.xor rfl rfl) ?_
  refine LW.v rfl rfl (Val.assign rfl) ?_
  refine LW.nil ?_
  refine PQ.seq ?_
  refine CW.seq ?_
  refine CW.region ?_
  refine LW.v rfl rfl (Val.assign rfl) ?_
  refine LW.nil ?_
  refine PQ.seq ?_
  refine CW.seq ?_
  refine CW.label ?_
  refine PQ.seq ?_
  refine CW.seq ?_
  refine CW.block ?_
  refine CW.loop (γ := Nat) (fun k => [(0, .int .u32 (bitsF (xorF c (IntKind.u32.wrap x)) k)), (5, .int .i64 (k : Nat))]) (fun _ => []) (fun k => k ≤ 8) (fun k => 8 - k) (0) (Nat.zero_le _) (by repeat (first | exact trivial | refine ⟨rfl, ?_⟩)) (by repeat (first | exact .nil | apply Pick.cons | exact .here | apply Ext.there)) ?_
  intro k
  intro hJ
  refine CW.seq ?_
  refine CW.seq ?_
  refine CW.region ?_
  refine LW.v rfl rfl (Val.move rfl) ?_
  refine LW.v rfl rfl (Val.cmp rfl rfl rfl) ?_
  refine LW.nil ?_
  refine PQ.seq ?_
  refine CW.cond rfl (fun h11 => ?_) (fun h11 => ?_)
  · replace h11 := bT h11
    refine CW.skip ?_
    refine PQ.seq ?_
    refine CW.block ?_
    refine CW.seq ?_
    refine CW.region ?_
    refine LW.v rfl rfl (Val.move rfl) ?_
    refine LW.v rfl rfl (Val.ar rfl rfl rfl (IntWalk.i64_in _ (by omega))) ?_
    refine LW.v rfl rfl (Val.assign rfl) ?_
    refine LW.nil ?_
    refine PQ.seq ?_
    refine CW.seq ?_
    refine CW.seq ?_
    refine CW.region ?_
    refine LW.v rfl rfl (Val.move rfl) ?_
    refine LW.v rfl rfl (Val.rem rfl rfl (by omega)) ?_
    refine LW.v rfl rfl (Val.cmp rfl rfl rfl) ?_
    refine LW.nil ?_
    refine PQ.seq ?_
    refine CW.cond rfl (fun h16 => ?_) (fun h16 => ?_)
    · replace h16 := bT h16
      refine CW.seq ?_
      refine CW.region ?_
      refine LW.v rfl rfl (Val.move rfl) ?_
      refine LW.v rfl rfl (Val.quo rfl rfl (by omega)) ?_
      refine LW.v rfl rfl (Val.assign rfl) ?_
      refine LW.nil ?_
      refine PQ.seq ?_
      refine CW.exit ?_
      refine PQ.then_exit ?_
      refine PQ.in_here ?_
      have hv : bitsF (xorF c (IntKind.u32.wrap x)) (k + 1) = _ := if_pos h16
      refine PQ.round (k + 1) (by first | omega | (simp only; omega)) (by omega) ⟨congrArg (fun v => some (Value.int .u32 v)) hv.symm, rfl, trivial⟩ (by repeat (first | exact .nil | apply Pick.cons | exact .here | apply Ext.there))
    · replace h16 := bF h16
      refine CW.skip ?_
      refine PQ.seq ?_
      refine CW.region ?_
      refine LW.v rfl rfl (Val.move rfl) ?_
      refine LW.v rfl rfl (Val.quo rfl rfl (by omega)) ?_
      refine LW.v rfl rfl (Val.xor rfl rfl) ?_
      refine LW.v rfl rfl (Val.assign rfl) ?_
      refine LW.nil ?_
      refine PQ.in_normal ?_
      have hv : bitsF (xorF c (IntKind.u32.wrap x)) (k + 1) = _ := if_neg h16
      refine PQ.round (k + 1) (by first | omega | (simp only; omega)) (by omega) ⟨congrArg (fun v => some (Value.int .u32 v)) hv.symm, rfl, trivial⟩ (by repeat (first | exact .nil | apply Pick.cons | exact .here | apply Ext.there))
  · replace h11 := bF h11
    refine CW.exit ?_
    refine PQ.then_exit ?_
    refine PQ.then_exit ?_
    refine PQ.in_here ?_
    refine PQ.seq ?_
    refine CW.seq ?_
    refine CW.region ?_
    refine LW.v rfl rfl (Val.move rfl) ?_
    refine LW.v rfl rfl (Val.assign rfl) ?_
    refine LW.nil ?_
    refine PQ.seq ?_
    refine CW.ret ?_
    refine PQ.in_scope rfl ?_
    refine PQ.ret1 rfl rfl ?_
    intro w' hw; obtain rfl : k = 8 := by omega
    exact ⟨rfl, hw.below⟩
theorem sumText_c (s : ByteArray) (hs : s.size ≤ 1000) (w : World) : Calls Try.prog 51 [.string s].toArray w fun e w' => e = .returned (.int .u32 (sumF s)) ∧ Below w.heap.size w w' := by
  refine V.calls [] Try.func51 rfl Try.ntmps51 (Nat.le_of_ble_eq_true rfl) (V.sat_nil _) ?_
  refine CW.seq ?_
  refine CW.region ?_
  refine LW.v rfl rfl (Val.assign rfl) ?_
  refine LW.nil ?_
  refine PQ.seq ?_
  refine CW.seq ?_
  refine CW.region ?_
  refine LW.v rfl rfl (Val.assign rfl) ?_
  refine LW.nil ?_
  refine PQ.seq ?_
  refine CW.seq ?_
  refine CW.seq ?_
  refine CW.region ?_
  refine LW.v rfl rfl (Val.move rfl) ?_
  refine LW.v rfl rfl (Val.lenS rfl Try.underlying9) ?_
  refine LW.v rfl rfl (Val.move rfl) ?_
  refine LW.nil ?_
  refine PQ.seq ?_
  refine CW.block ?_
  refine CW.loop (γ := Nat) (fun k => [(0, .string s), (3, .int .u32 (textF s k)), (6, .int .i64 (s.size : Nat)), (7, .int .i64 (k : Nat))]) (fun _ => []) (fun k => k ≤ s.size) (fun k => s.size - k) (0) (Nat.zero_le _) (by repeat (first | exact trivial | refine ⟨rfl, ?_⟩)) (by repeat (first | exact .nil | apply Pick.cons | exact .here | apply Ext.there)) ?_
  intro k
  intro hJ
  refine CW.seq ?_
  refine CW.region ?_
  refine LW.v rfl rfl (Val.cmp rfl rfl rfl) ?_
  refine LW.nil ?_
  refine PQ.seq ?_
  refine CW.seq ?_
  refine CW.cond rfl (fun h8 => ?_) (fun h8 => ?_)
  · replace h8 := bT h8
    refine CW.skip ?_
    refine PQ.seq ?_
    refine CW.seq ?_
    refine CW.block ?_
    refine CW.seq ?_
    refine CW.region ?_
    refine LW.v rfl rfl (Val.move rfl) ?_
    refine LW.v rfl rfl (Val.assign rfl) ?_
    refine LW.nil ?_
    refine PQ.seq ?_
    refine CW.region ?_
    refine LW.v rfl rfl (Val.move rfl) ?_
    refine LW.v rfl rfl (Val.move rfl) ?_
    refine LW.v rfl rfl (Val.move rfl) ?_
    refine LW.v rfl rfl (Val.indexS rfl rfl Try.underlying9 (byte_at s (by omega))) ?_
    refine LW.e rfl rfl (Eff.callV rfl Try.call70 (fun w hw => sumStep_c _ _ w)) ?_
    intro _ _
    refine LW.v rfl rfl (Val.assign rfl) ?_
    refine LW.nil ?_
    refine PQ.in_normal ?_
    refine PQ.seq ?_
    refine CW.region ?_
    refine LW.v rfl rfl (Val.ar rfl rfl rfl (IntWalk.i64_in _ (by omega))) ?_
    refine LW.v rfl rfl (Val.move rfl) ?_
    refine LW.nil ?_
    refine PQ.round (k + 1) (by first | omega | (simp only; omega)) (by omega) (by repeat (first | exact trivial | refine ⟨rfl, ?_⟩)) (by repeat (first | exact .nil | apply Pick.cons | exact .here | apply Ext.there))
  · replace h8 := bF h8
    refine CW.exit ?_
    refine PQ.then_exit ?_
    refine PQ.then_exit ?_
    refine PQ.in_here ?_
    refine PQ.seq ?_
    refine CW.seq ?_
    refine CW.region ?_
    refine LW.v rfl rfl (Val.move rfl) ?_
    refine LW.v rfl rfl (Val.xor rfl rfl) ?_
    refine LW.v rfl rfl (Val.assign rfl) ?_
    refine LW.nil ?_
    refine PQ.seq ?_
    refine CW.ret ?_
    refine PQ.ret1 rfl rfl ?_
    intro w' hw; obtain rfl : k = s.size := by omega
    exact ⟨rfl, hw.below⟩
theorem bucket_c (s : ByteArray) (hs : s.size ≤ 1000) (w : World) : Calls Try.prog 19 [.string s].toArray w fun e w' => e = .returned (.int .i64 (bk s : Nat)) ∧ Below w.heap.size w w' := by
  rw [← bk_eq]
  refine V.calls [] Try.func19 rfl Try.ntmps19 (Nat.le_of_ble_eq_true rfl) (V.sat_nil _) ?_
  refine CW.seq ?_
  refine CW.region ?_
  refine LW.v rfl rfl (Val.assign rfl) ?_
  refine LW.nil ?_
  refine PQ.seq ?_
  refine CW.seq ?_
  refine CW.region ?_
  refine LW.v rfl rfl (Val.move rfl) ?_
  refine LW.e rfl rfl (Eff.callV rfl Try.call51 (fun w hw => sumText_c s hs w)) ?_
  intro _ _
  refine LW.v rfl rfl (Val.rem rfl rfl (by omega)) ?_
  refine LW.v rfl rfl (Val.convI rfl Try.underlying83 Try.underlying3) ?_
  refine LW.v rfl rfl (Val.assign rfl) ?_
  refine LW.nil ?_
  refine PQ.seq ?_
  refine CW.ret ?_
  refine PQ.ret1 rfl rfl ?_
  intro w' hw; exact ⟨rfl, hw.below⟩
/-! ### A table's blocks -/
structure Lk where
  key : ByteArray
  id : Int
  ver : Int
  line : Int
  cls : Int
  deriving DecidableEq
def lkC (x : Lk) : List Value := [.string x.key, .int .u64 x.id, .int .u64 x.ver, .int .i64 x.line, .int .i64 x.cls]
def lk0 : Lk := ⟨⟨#[]⟩, 0, 0, 0, 0⟩
def lkV (x : Lk) : Value := .agg (lkC x).toArray
def fil (E : ME) (i : Nat) : ME := E.filter fun e => bk e.2.1 == i
def tbCells (m : Nat → Nat) : List Value := (List.range 8).map fun i => .map (some (m i))
def tbSeg (m : Nat → Nat) (E : ME) (c : Nat → Nat) : Seg := (List.range 8).map fun i => (m i, mpO (fil E i) (c i))
def tbG (t : Nat) (m : Nat → Nat) (E : ME) (c : Nat → Nat) : Sg := [[(t, .cells (tbCells m).toArray 74 (0, 0))], tbSeg m E c]
theorem tbCells_at (m : Nat → Nat) {i : Nat} (h : i < 8) : (tbCells m)[i]? = some (.map (some (m i))) := by simp [tbCells, h]
theorem tbSeg_at (m : Nat → Nat) (E : ME) (c : Nat → Nat) {i : Nat} (h : i < 8) : (tbSeg m E c)[i]? = some (m i, mpO (fil E i) (c i)) := by simp [tbSeg, h]
theorem tbSeg_set (m : Nat → Nat) (E E' : ME) (c c' : Nat → Nat) (i : Nat) (h : i < 8) (hE : ∀ j, j ≠ i → fil E' j = fil E j) (hc : ∀ j, j ≠ i → c' j = c j) : (tbSeg m E c).set i (m i, mpO (fil E' i) (c' i)) = tbSeg m E' c' := by
  apply List.ext_getElem?
  intro j
  rw [List.getElem?_set]
  split
  · rename_i e
    subst e
    rw [tbSeg_at m E' c' h, if_pos (by simp [tbSeg, h])]
  · rename_i e
    by_cases hj : j < 8
    · rw [tbSeg_at m E c hj, tbSeg_at m E' c' hj, hE j (fun e' => e e'.symm), hc j (fun e' => e e'.symm)]
    · rw [List.getElem?_eq_none (by simp [tbSeg]; omega), List.getElem?_eq_none (by simp [tbSeg]; omega)]
/-- A table has the links that f tells, n of them. -/
structure TI (E : ME) (f : ByteArray → Option Lk) (n : Nat) : Prop where
  get : ∀ k, mget E k = (f k).map lkV
  nd : mnd E
  len : E.length = n
def fset (f : ByteArray → Option Lk) (x : Lk) : ByteArray → Option Lk := fun q => if q = x.key then some x else f q
def fdel (f : ByteArray → Option Lk) (k : ByteArray) : ByteArray → Option Lk := fun q => if q = k then none else f q
theorem TI.nil : TI [] (fun _ => none) 0 := ⟨fun _ => rfl, by simp [mnd], rfl⟩
theorem mupd_length (k : ByteArray) (v : Value) (E : ME) : (mupd E k v).length = E.length := by
  have := congrArg List.length (mupd_keys k v E)
  simpa using this
theorem TI.set {E : ME} {f : ByteArray → Option Lk} {n : Nat} (h : TI E f n) (x : Lk) (c : Nat) : TI (mput E x.key (lkV x) c) (fset f x) (if (f x.key).isSome then n else n + 1) := by
  refine ⟨fun k => ?_, mnd_mput _ _ _ _ h.nd, ?_⟩
  · rw [mget_mput]
    unfold fset
    split
    · rfl
    · exact h.get k
  · unfold mput
    rw [h.get]
    cases hf : f x.key with
    | none => simp [h.len]
    | some y => simp [mupd_length, h.len]
theorem mdel_length (k : ByteArray) : ∀ (E : ME), (mdel E k).length = if (mget E k).isSome then E.length - 1 else E.length
  | [] => by simp [mdel]
  | e :: r => by
    simp only [mdel, mget]
    split
    · simp
    · simp only [List.length_cons, mdel_length k r]
      split
      · rename_i h
        have : r ≠ [] := fun e => by subst e; simp [mget] at h
        have := List.length_pos_iff.2 this
        omega
      · rfl
theorem TI.del {E : ME} {f : ByteArray → Option Lk} {n : Nat} (h : TI E f n) (k : ByteArray) : TI (mdel E k) (fdel f k) (if (f k).isSome then n - 1 else n) := by
  refine ⟨fun q => ?_, mnd_mdel _ _ h.nd, ?_⟩
  · rw [mget_mdel _ _ _ h.nd]
    unfold fdel
    split
    · rfl
    · exact h.get q
  · rw [mdel_length, h.get]
    cases f k <;> simp [h.len]
theorem fil_get (E : ME) (k : ByteArray) : mget (fil E (bk k)) k = mget E k := mget_filter (fun q => bk q == bk k) k (by simp) E
theorem fil_put (E : ME) (k : ByteArray) (v : Value) (c : Nat) : fil (mput E k v c) (bk k) = mput (fil E (bk k)) k v c := by
  have := mput_filter (fun q => bk q == bk k) k v c E
  rw [if_pos (by simp)] at this
  exact this
theorem fil_put_out (E : ME) (k : ByteArray) (v : Value) (c j : Nat) (h : j ≠ bk k) : fil (mput E k v c) j = fil E j := by
  have := mput_filter (fun q => bk q == j) k v c E
  rw [if_neg (by simp; exact fun e => h e.symm)] at this
  exact this
theorem fil_del (E : ME) (k : ByteArray) : fil (mdel E k) (bk k) = mdel (fil E (bk k)) k := by
  have := mdel_filter (fun q => bk q == bk k) k E
  rw [if_pos (by simp)] at this
  exact this
theorem fil_del_out (E : ME) (k : ByteArray) (j : Nat) (h : j ≠ bk k) : fil (mdel E k) j = fil E j := by
  have := mdel_filter (fun q => bk q == j) k E
  rw [if_neg (by simp; exact fun e => h e.symm)] at this
  exact this
def cput (E : ME) (c : Nat → Nat) (k : ByteArray) : Nat → Nat := fun j => if j = bk k then mclk (fil E (bk k)) k (c (bk k)) else c j
theorem tbSeg_put (m : Nat → Nat) (E : ME) (c : Nat → Nat) (k : ByteArray) (v : Value) : (tbSeg m E c).set (bk k) (m (bk k), mpO (mput (fil E (bk k)) k v (c (bk k))) (mclk (fil E (bk k)) k (c (bk k)))) = tbSeg m (mput E k v (c (bk k))) (cput E c k) := by
  have := tbSeg_set m E (mput E k v (c (bk k))) c (cput E c k) (bk k) (bk_lt k) (fun j hj => fil_put_out _ _ _ _ _ hj) (fun j hj => if_neg hj)
  rw [fil_put] at this
  rw [← this]
  simp [cput]
theorem tbSeg_del (m : Nat → Nat) (E : ME) (c : Nat → Nat) (k : ByteArray) : (tbSeg m E c).set (bk k) (m (bk k), mpO (mdel (fil E (bk k)) k) (c (bk k))) = tbSeg m (mdel E k) c := by
  have := tbSeg_set m E (mdel E k) c c (bk k) (bk_lt k) (fun j hj => fil_del_out _ _ _ hj) (fun j hj => rfl)
  rw [fil_del] at this
  exact this
theorem of_c (t : Nat) (m : Nat → Nat) (E : ME) (c : Nat → Nat) (k : ByteArray) (hk : k.size ≤ 1000) (w : World) (hs : Sat (tbG t m E c) w) : Calls Try.prog 50 [.pointer (some ⟨t, 0, none⟩), .string k].toArray w fun e w' => e = .returned (.map (some (m (bk k)))) ∧ Below w.heap.size w w' := by
  have hbk := bk_lt k
  refine V.calls (tbG t m E c) Try.func50 rfl Try.ntmps50 (Nat.le_of_ble_eq_true rfl) hs ?_
  refine CW.seq ?_
  refine CW.region ?_
  refine LW.v rfl rfl (Val.assign rfl) ?_
  refine LW.nil ?_
  refine PQ.seq ?_
  refine CW.seq ?_
  refine CW.seq ?_
  refine CW.region ?_
  refine LW.v rfl rfl (Val.move rfl) ?_
  refine LW.v rfl rfl (Val.eqP false rfl rfl Try.underlying39 (.inr ⟨rfl, rfl⟩)) ?_
  refine LW.nil ?_
  refine PQ.seq ?_
  refine CW.cond_f rfl ?_
  refine CW.skip ?_
  refine PQ.seq ?_
  refine CW.seq ?_
  refine CW.quiet mixedT (by kernel_rfl) ?_
  refine QW.v rfl rfl (Val.move rfl) ?_
  refine QW.v rfl rfl (Val.move rfl) ?_
  refine QW.c rfl rfl (Qcall.of rfl Try.call19 (fun w hw => bucket_c k hk w)) ?_
  refine QW.v rfl rfl (Val.nilCheck rfl) ?_
  refine QW.v rfl rfl (Val.fieldAddr 0 rfl Try.underlying74 rfl rfl Try.sizeOf72) ?_
  first | (refine QW.v rfl rfl (Val.indexAddrA rfl rfl Try.underlying72 Try.sizeOf71 (by omega)) ?_) | (refine QW.v rfl rfl (Val.indexAddrAI rfl rfl Try.underlying72 Try.sizeOf71 (by omega) (by omega)) ?_)
  refine QW.v rfl rfl (Val.load (l := tbCells m) rfl Try.isAgg71 (by repeat (first | exact .here | refine .there ?_)) (by simp only [Nat.zero_add, Nat.mul_one]; exact tbCells_at m hbk)) ?_
  refine QW.v rfl rfl (Val.assign rfl) ?_
  refine QW.nil ?_
  refine PQ.seq ?_
  refine CW.ret ?_
  refine PQ.ret1 rfl rfl ?_
  intro w' hw; exact ⟨rfl, hw.ro (by repeat (first | exact .nil | apply Pick.cons | exact .here | apply Ext.there)) hs⟩
theorem get_c (t : Nat) (m : Nat → Nat) (E : ME) (c : Nat → Nat) {f : ByteArray → Option Lk} {n : Nat} (hT : TI E f n) (k : ByteArray) (hk : k.size ≤ 1000) (w : World) (hs : Sat (tbG t m E c) w) : Calls Try.prog 18 [.pointer (some ⟨t, 0, none⟩), .string k].toArray w fun e w' => e = .returned (.tuple #[lkV ((f k).getD lk0), .bool (f k).isSome]) ∧ Below w.heap.size w w' := by
  have hbk := bk_lt k
  refine V.calls (tbG t m E c) Try.func18 rfl Try.ntmps18 (Nat.le_of_ble_eq_true rfl) hs ?_
  refine CW.seq ?_
  refine CW.region ?_
  refine LW.e rfl rfl (Eff.allocA (by exact Try.zeroValue44)) ?_
  intro b4 _
  refine LW.v rfl rfl (Val.assign rfl) ?_
  refine LW.nil ?_
  refine PQ.seq ?_
  refine CW.seq ?_
  refine CW.region ?_
  refine LW.v rfl rfl (Val.move rfl) ?_
  refine LW.v rfl rfl (Val.move rfl) ?_
  refine LW.e rfl rfl (Eff.callV rfl Try.call50 (fun w hw => of_c t m E c k hk w (hw.sat.pick (ss := tbG t m E c) (by repeat (first | exact .nil | apply Pick.cons | exact .here | apply Ext.there))))) ?_
  intro _ _
  refine LW.v rfl rfl (Val.move rfl) ?_
  refine LW.v rfl rfl (Val.lookup rfl rfl Try.underlying71 Try.underlying9 Try.zeroValue44 (by repeat (first | exact InS.nth (tbSeg_at m E c hbk) | refine .there ?_))) ?_
  refine LW.re 13 (.tuple [lkV ((f k).getD lk0), .bool (f k).isSome].toArray) rfl (by rw [fil_get, hT.get]; cases f k <;> rfl) ?_
  refine LW.v rfl rfl (Val.move rfl) ?_
  refine LW.v rfl rfl (Val.extract rfl rfl) ?_
  refine LW.v rfl rfl (Val.extract rfl rfl) ?_
  refine LW.e rfl rfl (Eff.allocA (by exact Try.zeroValue44)) ?_
  intro b6 _
  first | (refine LW.eN rfl (Eff.storeW rfl rfl (by repeat (first | exact .here | apply Upd.there)) (by rfl) Try.sizeOf44 (by rfl)) ?_) | (refine LW.eN rfl (Eff.storeA (l' := _) rfl rfl (by repeat (first | exact .here | apply Upd.there)) (by rfl) (by decide) Try.sizeOf44 (by rfl)) ?_)
  intro _ _
  refine LW.v rfl rfl (Val.assign rfl) ?_
  refine LW.nil ?_
  refine PQ.seq ?_
  refine CW.seq ?_
  refine CW.region ?_
  first | (refine LW.v rfl rfl (Val.loadW rfl Try.isAgg44 (by repeat (first | exact .here | refine .there ?_)) (by exact Try.sizeOf44)) ?_) | (refine LW.v rfl rfl (Val.loadA [_, _, _, _, _] rfl Try.isAgg44 (by repeat (first | exact .here | refine .there ?_)) (by rfl) Try.sizeOf44) ?_)
  refine LW.v rfl rfl (Val.move rfl) ?_
  first | (refine LW.eN rfl (Eff.storeW rfl rfl (by repeat (first | exact .here | apply Upd.there)) (by rfl) Try.sizeOf44 (by rfl)) ?_) | (refine LW.eN rfl (Eff.storeA (l' := _) rfl rfl (by repeat (first | exact .here | apply Upd.there)) (by rfl) (by decide) Try.sizeOf44 (by rfl)) ?_)
  intro _ _
  refine LW.v rfl rfl (Val.assign rfl) ?_
  refine LW.nil ?_
  refine PQ.seq ?_
  refine CW.ret ?_
  refine PQ.retCT rfl rfl rfl (by repeat (first | exact .here | refine .there ?_)) Try.isAgg44 (by exact Try.sizeOf44) ?_
  intro w' hw; exact ⟨rfl, hw.ro (by repeat (first | exact .nil | apply Pick.cons | exact .here | apply Ext.there)) hs⟩
theorem drop_c (t : Nat) (m : Nat → Nat) (E : ME) (c : Nat → Nat) {f : ByteArray → Option Lk} {n : Nat} (hT : TI E f n) (k : ByteArray) (hk : k.size ≤ 1000) (w : World) (hs : Sat (tbG t m E c) w) : Calls Try.prog 33 [.pointer (some ⟨t, 0, none⟩), .string k].toArray w fun e w' => ∃ x : ME × (Nat → Nat), TI x.1 (fdel f k) (if (f k).isSome then n - 1 else n) ∧ e = .returned (.tuple #[lkV ((f k).getD lk0), .bool (f k).isSome]) ∧ Hp ⟨w, ids (tbG t m E c)⟩ (tbG t m x.1 x.2) w' := by
  have hbk := bk_lt k
  refine V.calls (tbG t m E c) Try.func33 rfl Try.ntmps33 (Nat.le_of_ble_eq_true rfl) hs ?_
  refine CW.seq ?_
  refine CW.region ?_
  refine LW.e rfl rfl (Eff.allocA (by exact Try.zeroValue44)) ?_
  intro b4 _
  refine LW.v rfl rfl (Val.assign rfl) ?_
  refine LW.nil ?_
  refine PQ.seq ?_
  refine CW.seq ?_
  refine CW.region ?_
  refine LW.v rfl rfl (Val.move rfl) ?_
  refine LW.v rfl rfl (Val.move rfl) ?_
  refine LW.e rfl rfl (Eff.callV rfl Try.call50 (fun w hw => of_c t m E c k hk w (hw.sat.pick (ss := tbG t m E c) (by repeat (first | exact .nil | apply Pick.cons | exact .here | apply Ext.there))))) ?_
  intro _ _
  refine LW.v rfl rfl (Val.assign rfl) ?_
  refine LW.nil ?_
  refine PQ.seq ?_
  refine CW.seq ?_
  refine CW.region ?_
  refine LW.v rfl rfl (Val.move rfl) ?_
  refine LW.v rfl rfl (Val.move rfl) ?_
  refine LW.v rfl rfl (Val.lookup rfl rfl Try.underlying71 Try.underlying9 Try.zeroValue44 (by repeat (first | exact InS.nth (tbSeg_at m E c hbk) | refine .there ?_))) ?_
  refine LW.re 15 (.tuple [lkV ((f k).getD lk0), .bool (f k).isSome].toArray) rfl (by rw [fil_get, hT.get]; cases f k <;> rfl) ?_
  refine LW.v rfl rfl (Val.move rfl) ?_
  refine LW.v rfl rfl (Val.extract rfl rfl) ?_
  refine LW.v rfl rfl (Val.extract rfl rfl) ?_
  refine LW.e rfl rfl (Eff.allocA (by exact Try.zeroValue44)) ?_
  intro b7 _
  first | (refine LW.eN rfl (Eff.storeW rfl rfl (by repeat (first | exact .here | apply Upd.there)) (by rfl) Try.sizeOf44 (by rfl)) ?_) | (refine LW.eN rfl (Eff.storeA (l' := _) rfl rfl (by repeat (first | exact .here | apply Upd.there)) (by rfl) (by decide) Try.sizeOf44 (by rfl)) ?_)
  intro _ _
  refine LW.v rfl rfl (Val.assign rfl) ?_
  refine LW.nil ?_
  refine PQ.seq ?_
  refine CW.seq ?_
  refine CW.region ?_
  refine LW.v rfl rfl (Val.move rfl) ?_
  refine LW.v rfl rfl (Val.move rfl) ?_
  refine LW.eN rfl (Eff.delete rfl rfl Try.underlying71 Try.underlying9 (by repeat (first | exact Upd.nth (tbSeg_at m E c hbk) | apply Upd.there))) ?_
  intro _ _
  refine LW.nil ?_
  refine PQ.seq ?_
  refine CW.seq ?_
  refine CW.region ?_
  first | (refine LW.v rfl rfl (Val.loadW rfl Try.isAgg44 (by repeat (first | exact .here | refine .there ?_)) (by exact Try.sizeOf44)) ?_) | (refine LW.v rfl rfl (Val.loadA [_, _, _, _, _] rfl Try.isAgg44 (by repeat (first | exact .here | refine .there ?_)) (by rfl) Try.sizeOf44) ?_)
  refine LW.v rfl rfl (Val.move rfl) ?_
  first | (refine LW.eN rfl (Eff.storeW rfl rfl (by repeat (first | exact .here | apply Upd.there)) (by rfl) Try.sizeOf44 (by rfl)) ?_) | (refine LW.eN rfl (Eff.storeA (l' := _) rfl rfl (by repeat (first | exact .here | apply Upd.there)) (by rfl) (by decide) Try.sizeOf44 (by rfl)) ?_)
  intro _ _
  refine LW.v rfl rfl (Val.assign rfl) ?_
  refine LW.nil ?_
  refine PQ.seq ?_
  refine CW.ret ?_
  refine PQ.retCT rfl rfl rfl (by repeat (first | exact .here | refine .there ?_)) Try.isAgg44 (by exact Try.sizeOf44) ?_
  intro w' hw; refine ⟨(mdel E k, c), hT.del k, rfl, ?_⟩
  rw [tbSeg_del] at hw
  exact hw.pick (by repeat (first | exact .nil | apply Pick.cons | exact .here | apply Ext.there))
theorem set_c (t : Nat) (m : Nat → Nat) (E : ME) (c : Nat → Nat) {f : ByteArray → Option Lk} {n : Nat} (hT : TI E f n) (x : Lk) (hk : x.key.size ≤ 1000) (w : World) (hs : Sat (tbG t m E c) w) : Calls Try.prog 31 [.pointer (some ⟨t, 0, none⟩), .agg (lkC x).toArray].toArray w fun e w' => ∃ x_ : ME × (Nat → Nat), TI x_.1 (fset f x) (if (f x.key).isSome then n else n + 1) ∧ e = .returned (.bool (f x.key).isSome) ∧ Hp ⟨w, ids (tbG t m E c)⟩ (tbG t m x_.1 x_.2) w' := by
  have hbk := bk_lt x.key
  refine V.calls (tbG t m E c) Try.func31 rfl Try.ntmps31 (Nat.le_of_ble_eq_true rfl) hs ?_
  refine CW.seq ?_
  refine CW.region ?_
  refine LW.e rfl rfl (Eff.boxA rfl) ?_
  intro b3 _
  refine LW.v rfl rfl (Val.assign rfl) ?_
  refine LW.nil ?_
  refine PQ.seq ?_
  refine CW.seq ?_
  refine CW.region ?_
  refine LW.v rfl rfl (Val.move rfl) ?_
  refine LW.v rfl rfl (Val.fieldAddr 0 rfl Try.underlying44 rfl rfl Try.sizeOf9) ?_
  refine LW.v rfl rfl (Val.load rfl Try.isAgg9 (by repeat (first | exact .here | refine .there ?_)) (by rfl)) ?_
  refine LW.e rfl rfl (Eff.callV rfl Try.call50 (fun w hw => of_c t m E c x.key hk w (hw.sat.pick (ss := tbG t m E c) (by repeat (first | exact .nil | apply Pick.cons | exact .here | apply Ext.there))))) ?_
  intro _ _
  refine LW.v rfl rfl (Val.assign rfl) ?_
  refine LW.nil ?_
  refine PQ.seq ?_
  refine CW.seq ?_
  refine CW.seq ?_
  refine CW.region ?_
  refine LW.v rfl rfl (Val.move rfl) ?_
  refine LW.v rfl rfl (Val.eqM rfl rfl Try.underlying71) ?_
  refine LW.nil ?_
  refine PQ.seq ?_
  refine CW.cond_f rfl ?_
  refine CW.skip ?_
  refine PQ.seq ?_
  refine CW.seq ?_
  refine CW.region ?_
  refine LW.v rfl rfl (Val.move rfl) ?_
  refine LW.v rfl rfl (Val.fieldAddr 0 rfl Try.underlying44 rfl rfl Try.sizeOf9) ?_
  refine LW.v rfl rfl (Val.load rfl Try.isAgg9 (by repeat (first | exact .here | refine .there ?_)) (by rfl)) ?_
  refine LW.v rfl rfl (Val.lookup rfl rfl Try.underlying71 Try.underlying9 Try.zeroValue44 (by repeat (first | exact InS.nth (tbSeg_at m E c hbk) | refine .there ?_))) ?_
  refine LW.re 18 (.tuple [lkV ((f x.key).getD lk0), .bool (f x.key).isSome].toArray) rfl (by rw [fil_get, hT.get]; cases f x.key <;> rfl) ?_
  refine LW.v rfl rfl (Val.move rfl) ?_
  refine LW.v rfl rfl (Val.extract rfl rfl) ?_
  refine LW.v rfl rfl (Val.extract rfl rfl) ?_
  refine LW.e rfl rfl (Eff.allocA (by exact Try.zeroValue44)) ?_
  intro b6 _
  first | (refine LW.eN rfl (Eff.storeW rfl rfl (by repeat (first | exact .here | apply Upd.there)) (by rfl) Try.sizeOf44 (by rfl)) ?_) | (refine LW.eN rfl (Eff.storeA (l' := _) rfl rfl (by repeat (first | exact .here | apply Upd.there)) (by rfl) (by decide) Try.sizeOf44 (by rfl)) ?_)
  intro _ _
  refine LW.v rfl rfl (Val.assign rfl) ?_
  refine LW.nil ?_
  refine PQ.seq ?_
  refine CW.seq ?_
  refine CW.region ?_
  refine LW.v rfl rfl (Val.move rfl) ?_
  refine LW.v rfl rfl (Val.fieldAddr 0 rfl Try.underlying44 rfl rfl Try.sizeOf9) ?_
  refine LW.v rfl rfl (Val.load rfl Try.isAgg9 (by repeat (first | exact .here | refine .there ?_)) (by rfl)) ?_
  first | (refine LW.v rfl rfl (Val.loadW rfl Try.isAgg44 (by repeat (first | exact .here | refine .there ?_)) (by exact Try.sizeOf44)) ?_) | (refine LW.v rfl rfl (Val.loadA [_, _, _, _, _] rfl Try.isAgg44 (by repeat (first | exact .here | refine .there ?_)) (by rfl) Try.sizeOf44) ?_)
  refine LW.eN rfl (Eff.mapUpdate rfl rfl rfl Try.underlying71 Try.underlying9 (by repeat (first | exact Upd.nth (tbSeg_at m E c hbk) | apply Upd.there))) ?_
  intro _ _
  refine LW.nil ?_
  refine PQ.seq ?_
  refine CW.seq ?_
  refine CW.region ?_
  refine LW.v rfl rfl (Val.move rfl) ?_
  refine LW.v rfl rfl (Val.assign rfl) ?_
  refine LW.nil ?_
  refine PQ.seq ?_
  refine CW.ret ?_
  refine PQ.ret1 rfl rfl ?_
  intro w' hw; refine ⟨(mput E x.key (lkV x) (c (bk x.key)), cput E c x.key), hT.set x _, rfl, ?_⟩
  have e := tbSeg_put m E c x.key (lkV x)
  unfold lkV at e
  rw [e] at hw
  exact hw.pick (by repeat (first | exact .nil | apply Pick.cons | exact .here | apply Ext.there))
def lenTo (E : ME) : Nat → Nat
  | 0 => 0
  | k + 1 => lenTo E k + (fil E k).length
theorem lenTo_nil : ∀ k, lenTo [] k = 0
  | 0 => rfl
  | k + 1 => by simp [lenTo, lenTo_nil k, fil]
theorem lenTo_cons (e : Nat × ByteArray × Value) (E : ME) : ∀ k, lenTo (e :: E) k = lenTo E k + if bk e.2.1 < k then 1 else 0
  | 0 => by simp [lenTo]
  | k + 1 => by
    simp only [lenTo, lenTo_cons e E k, fil, List.filter_cons]
    by_cases h : bk e.2.1 = k
    · have : ¬ bk e.2.1 < k := by omega
      have h2 : bk e.2.1 < k + 1 := by omega
      simp [h]; omega
    · have h3 : (bk e.2.1 == k) = false := by simpa using h
      rw [h3]
      by_cases h4 : bk e.2.1 < k
      · have : bk e.2.1 < k + 1 := by omega
        simp [h4, this]; omega
      · have : ¬ bk e.2.1 < k + 1 := by omega
        simp [h4, this]
theorem lenTo_all : ∀ E : ME, lenTo E 8 = E.length
  | [] => lenTo_nil 8
  | e :: r => by rw [lenTo_cons, lenTo_all r, if_pos (bk_lt _)]; rfl
theorem fil_le (E : ME) (k : Nat) : (fil E k).length ≤ E.length := List.length_filter_le ..
theorem lenTo_le (E : ME) : ∀ k, lenTo E k ≤ k * E.length
  | 0 => by simp [lenTo]
  | k + 1 => by have h1 := lenTo_le E k; have h2 := fil_le E k; simp only [lenTo, Nat.add_mul, Nat.one_mul]; omega
theorem len_c (t : Nat) (m : Nat → Nat) (E : ME) (c : Nat → Nat) {f : ByteArray → Option Lk} {n : Nat} (hT : TI E f n) (hn : n ≤ 1000) (w : World) (hs : Sat (tbG t m E c) w) : Calls Try.prog 16 [.pointer (some ⟨t, 0, none⟩)].toArray w fun e w' => e = .returned (.int .i64 (n : Nat)) ∧ Below w.heap.size w w' := by
  have hlen := hT.len
  rw [← hlen]
  refine V.calls (tbG t m E c) Try.func16 rfl Try.ntmps16 (Nat.le_of_ble_eq_true rfl) hs ?_
  refine CW.seq ?_
  refine CW.region ?_
  refine LW.v rfl rfl (Val.assign rfl) ?_
  refine LW.nil ?_
  refine PQ.seq ?_
  refine CW.seq ?_
  refine CW.region ?_
  refine LW.v rfl rfl (Val.assign rfl) ?_
  refine LW.nil ?_
  refine PQ.seq ?_
  refine CW.seq ?_
  refine CW.seq ?_
  refine CW.region ?_
  refine LW.v rfl rfl (Val.move rfl) ?_
  refine LW.v rfl rfl (Val.neP false rfl rfl Try.underlying39 (.inr ⟨rfl, rfl⟩)) ?_
  refine LW.nil ?_
  refine PQ.seq ?_
  refine CW.cond_t rfl ?_
  refine CW.seq ?_
  refine CW.region ?_
  refine LW.v rfl rfl (Val.move rfl) ?_
  refine LW.v rfl rfl (Val.nilCheck rfl) ?_
  refine LW.v rfl rfl (Val.fieldAddr 0 rfl Try.underlying74 rfl rfl Try.sizeOf72) ?_
  first | (refine LW.v rfl rfl (Val.loadW rfl Try.isAgg72 (by repeat (first | exact .here | refine .there ?_)) (by exact Try.sizeOf72)) ?_) | (refine LW.v rfl rfl (Val.loadA [_, _, _, _, _, _, _, _] rfl Try.isAgg72 (by repeat (first | exact .here | refine .there ?_)) (by rfl) Try.sizeOf72) ?_)
  refine LW.v rfl rfl (Val.move rfl) ?_
  refine LW.nil ?_
  refine PQ.seq ?_
  refine CW.block ?_
  refine CW.loop (γ := Nat) (fun k => [(3, .int .i64 (lenTo E k : Nat)), (11, .agg (tbCells m).toArray), (12, .int .i64 (k : Nat))]) (fun _ => tbG t m E c) (fun k => k ≤ 8) (fun k => 8 - k) (0) (Nat.zero_le _) (by repeat (first | exact trivial | refine ⟨rfl, ?_⟩)) (by repeat (first | exact .nil | apply Pick.cons | exact .here | apply Ext.there)) ?_
  intro k
  intro hJ
  have hb1 := lenTo_le E k
  have hb2 := fil_le E k
  have hb3 : k * E.length ≤ 8 * 1000 := Nat.mul_le_mul (by omega) (by omega)
  refine CW.seq ?_
  refine CW.region ?_
  refine LW.v rfl rfl (Val.cmp rfl rfl rfl) ?_
  refine LW.nil ?_
  refine PQ.seq ?_
  refine CW.seq ?_
  refine CW.cond rfl (fun h13 => ?_) (fun h13 => ?_)
  · replace h13 := bT h13
    refine CW.skip ?_
    refine PQ.seq ?_
    refine CW.seq ?_
    refine CW.block ?_
    refine CW.seq ?_
    refine CW.region ?_
    refine LW.v rfl rfl (Val.indexArr rfl rfl Try.underlying72 Try.sizeOf71 Try.isAgg71 (by omega) (tbCells_at m (by omega))) ?_
    refine LW.v rfl rfl (Val.assign rfl) ?_
    refine LW.nil ?_
    refine PQ.seq ?_
    refine CW.region ?_
    refine LW.v rfl rfl (Val.move rfl) ?_
    refine LW.v rfl rfl (Val.move rfl) ?_
    refine LW.v rfl rfl (Val.lenM rfl Try.underlying71 (by repeat (first | exact InS.nth (tbSeg_at m E c (by omega : k < 8)) | refine .there ?_))) ?_
    refine LW.v rfl rfl (Val.ar rfl rfl rfl (IntWalk.i64_in _ (by omega))) ?_
    refine LW.v rfl rfl (Val.assign rfl) ?_
    refine LW.nil ?_
    refine PQ.in_normal ?_
    refine PQ.seq ?_
    refine CW.region ?_
    refine LW.v rfl rfl (Val.ar rfl rfl rfl (IntWalk.i64_in _ (by omega))) ?_
    refine LW.v rfl rfl (Val.move rfl) ?_
    refine LW.nil ?_
    refine PQ.round (k + 1) (by first | omega | (simp only; omega)) (by omega) (by repeat (first | exact trivial | refine ⟨rfl, ?_⟩)) (by repeat (first | exact .nil | apply Pick.cons | exact .here | apply Ext.there))
  · replace h13 := bF h13
    refine CW.exit ?_
    refine PQ.then_exit ?_
    refine PQ.then_exit ?_
    refine PQ.in_here ?_
    refine PQ.seq ?_
    refine CW.seq ?_
    refine CW.region ?_
    refine LW.v rfl rfl (Val.move rfl) ?_
    refine LW.v rfl rfl (Val.assign rfl) ?_
    refine LW.nil ?_
    refine PQ.seq ?_
    refine CW.ret ?_
    refine PQ.ret1 rfl rfl ?_
    intro w' hw; obtain rfl : k = 8 := by omega
    exact ⟨by rw [lenTo_all], hw.ro (by repeat (first | exact .nil | apply Pick.cons | exact .here | apply Ext.there)) hs⟩
def nwCells (m : Nat → Nat) (k : Nat) : List Value := (List.range 8).map fun i => if i < k then .map (some (m i)) else .map none
def nwSeg (m : Nat → Nat) (k : Nat) : Seg := (List.range k).map fun i => (m i, mpO [] 0)
def nwG (t : Nat) (m : Nat → Nat) (k : Nat) : Sg := [[(t, .cells (nwCells m k).toArray 74 (0, 0))], nwSeg m k]
def mset (m : Nat → Nat) (k b : Nat) : Nat → Nat := fun i => if i = k then b else m i
theorem nwCells_set (m : Nat → Nat) (k b : Nat) : (nwCells m k).set k (.map (some b)) = nwCells (mset m k b) (k + 1) := by
  apply List.ext_getElem?
  intro j
  rw [List.getElem?_set]
  by_cases hj : j < 8
  · split
    · rename_i e; subst e; simp [nwCells, hj, mset]
    · rename_i e
      have e1 : ¬ j = k := fun h => e h.symm
      have e2 : (j < k + 1) = (j < k) := by simp only [eq_iff_iff]; omega
      simp [nwCells, hj, mset, e1, e2]
  · rw [List.getElem?_eq_none (by simp [nwCells]; omega), List.getElem?_eq_none (by simp [nwCells]; omega)]
    simp [nwCells]; omega
theorem nwSeg_succ (m : Nat → Nat) (k b : Nat) : nwSeg (mset m k b) (k + 1) = nwSeg m k ++ [(b, mpO [] 0)] := by
  unfold nwSeg
  rw [List.range_succ, List.map_append]
  congr 1
  · apply List.map_congr_left
    intro i hi
    have : ¬ i = k := by simp at hi; omega
    simp [mset, this]
  · simp [mset]
theorem nwG_end (t : Nat) (m : Nat → Nat) : nwG t m 8 = tbG t m [] (fun _ => 0) := by
  unfold nwG tbG nwSeg tbSeg nwCells tbCells
  have : ((List.range 8).map fun i => if i < 8 then Value.map (some (m i)) else .map none) = (List.range 8).map fun i => .map (some (m i)) := by
    apply List.map_congr_left
    intro i hi
    rw [if_pos (by simpa using hi)]
  rw [this]
  rfl
theorem tnew_c (w : World) : Calls Try.prog 30 [].toArray w fun e w' => ∃ x : Nat × (Nat → Nat), True ∧ e = .returned (.pointer (some ⟨x.1, 0, none⟩)) ∧ Hp ⟨w, []⟩ (tbG x.1 x.2 [] (fun _ => 0)) w' := by
  refine V.calls [] Try.func30 rfl Try.ntmps30 (Nat.le_of_ble_eq_true rfl) (V.sat_nil _) ?_
  refine CW.seq ?_
  refine CW.region ?_
  refine LW.v rfl rfl (Val.assign rfl) ?_
  refine LW.nil ?_
  refine PQ.seq ?_
  refine CW.seq ?_
  refine CW.region ?_
  refine LW.v rfl rfl (Val.build [_, _, _, _, _, _, _, _] Try.zeroValue74 Try.underlying74 places74 rfl (by rfl)) ?_
  refine LW.e rfl rfl (Eff.boxA rfl) ?_
  intro b4 _
  refine LW.v rfl rfl (Val.assign rfl) ?_
  refine LW.nil ?_
  refine PQ.seq ?_
  refine CW.seq ?_
  refine CW.seq ?_
  refine CW.region ?_
  refine LW.v rfl rfl (Val.move rfl) ?_
  refine LW.nil ?_
  refine PQ.seq ?_
  refine CW.block ?_
  refine CW.perm (sg' := nwG b4 (fun _ => 0) 0) ?_ (.refl _)
  refine CW.loop (γ := Nat × (Nat → Nat)) (fun k => [(1, .pointer (some ⟨b4, 0, none⟩)), (5, .int .i64 (k.1 : Nat))]) (fun k => nwG b4 k.2 k.1) (fun k => k.1 ≤ 8) (fun k => 8 - k.1) ((0, fun _ => 0)) (Nat.zero_le _) (by repeat (first | exact trivial | refine ⟨rfl, ?_⟩)) (by repeat (first | exact .nil | apply Pick.cons | exact .here | apply Ext.there)) ?_
  intro k
  intro hJ
  refine CW.seq ?_
  refine CW.region ?_
  refine LW.v rfl rfl (Val.cmp rfl rfl rfl) ?_
  refine LW.nil ?_
  refine PQ.seq ?_
  refine CW.seq ?_
  refine CW.cond rfl (fun h6 => ?_) (fun h6 => ?_)
  · replace h6 := bT h6
    refine CW.skip ?_
    refine PQ.seq ?_
    refine CW.seq ?_
    refine CW.block ?_
    refine CW.seq ?_
    refine CW.region ?_
    refine LW.v rfl rfl (Val.move rfl) ?_
    refine LW.v rfl rfl (Val.assign rfl) ?_
    refine LW.nil ?_
    refine PQ.seq ?_
    refine CW.region ?_
    refine LW.v rfl rfl (Val.move rfl) ?_
    refine LW.v rfl rfl (Val.move rfl) ?_
    refine LW.e rfl rfl (Eff.makeMap) ?_
    intro b10 _
    refine LW.v rfl rfl (Val.nilCheck rfl) ?_
    refine LW.v rfl rfl (Val.fieldAddr 0 rfl Try.underlying74 rfl rfl Try.sizeOf72) ?_
    first | (refine LW.v rfl rfl (Val.indexAddrA rfl rfl Try.underlying72 Try.sizeOf71 (by omega)) ?_) | (refine LW.v rfl rfl (Val.indexAddrAI rfl rfl Try.underlying72 Try.sizeOf71 (by omega) (by omega)) ?_)
    refine LW.eN rfl (Eff.storeX (l := nwCells k.2 k.1) rfl rfl rfl (by repeat (first | exact .here | apply Upd.there)) rfl (by simp [nwCells]; omega) Try.sizeOf71) ?_
    intro _ _
    refine LW.nil ?_
    refine PQ.in_normal ?_
    refine PQ.seq ?_
    refine CW.region ?_
    refine LW.v rfl rfl (Val.ar rfl rfl rfl (IntWalk.i64_in _ (by omega))) ?_
    refine LW.v rfl rfl (Val.move rfl) ?_
    refine LW.nil ?_
    refine PQ.perm (sg' := nwG b4 (mset k.2 k.1 b10) (k.1 + 1)) ?_ ?_
    · refine PQ.round (k.1 + 1, mset k.2 k.1 b10) (by simp only; omega) (by simp only; omega) (by repeat (first | exact trivial | refine ⟨rfl, ?_⟩)) (by repeat (first | exact .nil | apply Pick.cons | exact .here | apply Ext.there))
    · unfold nwG
      rw [nwSeg_succ, ← nwCells_set]
      simp only [List.flatten_cons, List.flatten_nil, List.append_nil, List.singleton_append, List.cons_append, Nat.zero_add, Nat.mul_one]
      first | exact ((List.perm_append_singleton _ _).symm.cons _).symm.trans (.refl _) | exact (List.Perm.swap ..).trans (List.Perm.cons _ (List.perm_append_singleton _ _).symm)
  · replace h6 := bF h6
    refine CW.exit ?_
    refine PQ.then_exit ?_
    refine PQ.then_exit ?_
    refine PQ.in_here ?_
    refine PQ.seq ?_
    refine CW.seq ?_
    refine CW.region ?_
    refine LW.v rfl rfl (Val.move rfl) ?_
    refine LW.v rfl rfl (Val.assign rfl) ?_
    refine LW.nil ?_
    refine PQ.seq ?_
    refine CW.ret ?_
    refine PQ.ret1 rfl rfl ?_
    intro w' hw; refine ⟨(b4, k.2), trivial, rfl, ?_⟩
    obtain ⟨k, m⟩ := k
    obtain rfl : k = 8 := by simp only at *; omega
    rw [← nwG_end]
    exact hw
end Go.Proofs.Ytaihimbjdgmjgaa
