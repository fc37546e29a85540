/- Lists of calls: repeated, made of two lines. -/
import Derived.Test.YtipnpnkniihdjaaTwB
import Derived.Lib.Hide
namespace Go.Proofs.Ytipnpnkniihdjaa
open Go Go.RowKit V
set_option linter.unusedVariables false
set_option maxRecDepth 100000
open V (str byC ownV ownG ownS ownOk)
theorem places38 : ∀ w, ((Array.mapM (fun (f : Field) => do pure (f.offset, ← sizeOf f.type)) (Try.prog.fieldsOf 38) : Sem (Array (Nat × Nat)))).run Try.prog w = .ok [(0, 1), (1, 1), (2, 1), (3, 1), (4, 1)].toArray w := by
  intro w; kernel_rfl
/-- A call that is no group. -/
structure Cl where
  ck : Int
  key : List UInt8
  val : List UInt8
deriving DecidableEq
instance : Inhabited Cl := ⟨⟨0, [], []⟩⟩
def clC (c : Cl) : List Value := [.int .i64 c.ck, str c.key, str c.val, str [], .slice none 0 0]
theorem clC_len (c : Cl) : (clC c).length = 5 := rfl
def dqC : Cl := ⟨5, [], []⟩
def enC (v : List UInt8) : Cl := ⟨4, [], v⟩
theorem own_some {sz n : Nat} {xs : List Value} {o : V.OwnO} (h : ownOk sz n xs o) (hn : 0 < n) : ∃ q, o = some q := by
  rcases o with _ | q
  · have h0 : n = 0 := h.2
    omega
  · exact ⟨q, rfl⟩
theorem flat_snoc {α : Type} {enc : α → List Value} (l : List α) (x : α) : (l ++ [x]).flatMap enc = l.flatMap enc ++ enc x := by simp
theorem fin40 (p : Nat → Prop) (h : ∀ i : Fin 41, p i.val) (n : Nat) (hn : n ≤ 40) : p n := h ⟨n, by omega⟩
theorem and32 {n : Nat} (hn : n ≤ 40) : IntKind.u64.wrap (BitVec.ofInt IntKind.u64.bits ((n : Nat) : Int) &&& BitVec.ofInt IntKind.u64.bits 4294967295).toNat = (n : Nat) := fin40 (fun n => IntKind.u64.wrap (BitVec.ofInt IntKind.u64.bits ((n : Nat) : Int) &&& BitVec.ofInt IntKind.u64.bits 4294967295).toNat = (n : Nat)) (by decide +kernel) n hn
theorem shr32 {n : Nat} (hn : n ≤ 40) : ((n : Nat) : Int).fdiv (2 ^ (min (32 : Int).toNat IntKind.u64.bits)) = 0 := fin40 (fun n => ((n : Nat) : Int).fdiv (2 ^ (min (32 : Int).toNat IntKind.u64.bits)) = 0) (by decide +kernel) n hn
theorem mul64_c (n : Nat) (hn : n ≤ 40) (w : World) : Calls Try.prog 67 [.int .u64 ((1 : Nat) : Int), .int .u64 (n : Nat)].toArray w fun e w' => e = .returned (.tuple #[.int .u64 ((0 : Nat) : Int), .int .u64 (n : Nat)]) ∧ Below w.heap.size w w' := by
  refine V.calls [] Try.func67 rfl Try.ntmps67 (Nat.le_of_ble_eq_true rfl) (V.sat_nil _) ?_
  refine CW.seq ?_
  refine CW.region ?_
  refine LW.v rfl rfl (Val.assign rfl) ?_
  refine LW.v rfl rfl (Val.assign rfl) ?_
  refine LW.nil ?_
  refine PQ.seq ?_
  refine CW.seq ?_
  refine CW.region ?_
  refine LW.v rfl rfl (Val.move rfl) ?_
  refine LW.v rfl rfl (Val.and rfl rfl) ?_
  refine LW.re 15 (.int .u64 ((1 : Nat) : Int)) rfl (by rw [and32 (n := 1) (by omega)]) ?_
  refine LW.v rfl rfl (Val.assign rfl) ?_
  refine LW.nil ?_
  refine PQ.seq ?_
  refine CW.seq ?_
  refine CW.region ?_
  refine LW.v rfl rfl (Val.move rfl) ?_
  refine LW.v rfl rfl (Val.shr rfl rfl (by omega)) ?_
  refine LW.re 17 (.int .u64 ((0 : Nat) : Int)) rfl (by rw [shr32 (n := 1) (by omega)] <;> rfl) ?_
  refine LW.v rfl rfl (Val.assign rfl) ?_
  refine LW.nil ?_
  refine PQ.seq ?_
  refine CW.seq ?_
  refine CW.region ?_
  refine LW.v rfl rfl (Val.move rfl) ?_
  refine LW.v rfl rfl (Val.and rfl rfl) ?_
  refine LW.re 19 (.int .u64 ((n : Nat) : Int)) rfl (by rw [and32 (n := n) (by omega)]) ?_
  refine LW.v rfl rfl (Val.assign rfl) ?_
  refine LW.nil ?_
  refine PQ.seq ?_
  refine CW.seq ?_
  refine CW.region ?_
  refine LW.v rfl rfl (Val.move rfl) ?_
  refine LW.v rfl rfl (Val.shr rfl rfl (by omega)) ?_
  refine LW.re 21 (.int .u64 ((0 : Nat) : Int)) rfl (by rw [shr32 (n := n) (by omega)] <;> rfl) ?_
  refine LW.v rfl rfl (Val.assign rfl) ?_
  refine LW.nil ?_
  refine PQ.seq ?_
  refine CW.seq ?_
  refine CW.region ?_
  refine LW.v rfl rfl (Val.move rfl) ?_
  refine LW.v rfl rfl (Val.move rfl) ?_
  refine LW.v rfl rfl (Val.ar rfl rfl rfl (IntWalk.u64_in _ (by omega))) ?_
  refine LW.re 24 (.int .u64 ((n : Nat) : Int)) rfl (by congr 1 <;> omega) ?_
  refine LW.v rfl rfl (Val.assign rfl) ?_
  refine LW.nil ?_
  refine PQ.seq ?_
  refine CW.seq ?_
  refine CW.region ?_
  refine LW.v rfl rfl (Val.move rfl) ?_
  refine LW.v rfl rfl (Val.move rfl) ?_
  refine LW.v rfl rfl (Val.ar rfl rfl rfl (IntWalk.u64_in _ (by omega))) ?_
  refine LW.re 27 (.int .u64 ((0 : Nat) : Int)) rfl (by congr 1 <;> omega) ?_
  refine LW.v rfl rfl (Val.move rfl) ?_
  refine LW.v rfl rfl (Val.shr rfl rfl (by omega)) ?_
  refine LW.re 29 (.int .u64 ((0 : Nat) : Int)) rfl (by rw [shr32 (n := n) (by omega)] <;> rfl) ?_
  refine LW.v rfl rfl (Val.ar rfl rfl rfl (IntWalk.u64_in _ (by omega))) ?_
  refine LW.re 30 (.int .u64 ((0 : Nat) : Int)) rfl (by rfl) ?_
  refine LW.v rfl rfl (Val.assign rfl) ?_
  refine LW.nil ?_
  refine PQ.seq ?_
  refine CW.seq ?_
  refine CW.region ?_
  refine LW.v rfl rfl (Val.move rfl) ?_
  refine LW.v rfl rfl (Val.and rfl rfl) ?_
  refine LW.re 32 (.int .u64 ((0 : Nat) : Int)) rfl (by rw [and32 (n := 0) (by omega)]) ?_
  refine LW.v rfl rfl (Val.assign rfl) ?_
  refine LW.nil ?_
  refine PQ.seq ?_
  refine CW.seq ?_
  refine CW.region ?_
  refine LW.v rfl rfl (Val.move rfl) ?_
  refine LW.v rfl rfl (Val.shr rfl rfl (by omega)) ?_
  refine LW.re 34 (.int .u64 ((0 : Nat) : Int)) rfl (by rw [shr32 (n := 0) (by omega)] <;> rfl) ?_
  refine LW.v rfl rfl (Val.assign rfl) ?_
  refine LW.nil ?_
  refine PQ.seq ?_
  refine CW.seq ?_
  refine CW.region ?_
  refine LW.v rfl rfl (Val.move rfl) ?_
  refine LW.v rfl rfl (Val.move rfl) ?_
  refine LW.v rfl rfl (Val.move rfl) ?_
  refine LW.v rfl rfl (Val.ar rfl rfl rfl (IntWalk.u64_in _ (by omega))) ?_
  refine LW.re 38 (.int .u64 ((0 : Nat) : Int)) rfl (by rfl) ?_
  refine LW.v rfl rfl (Val.ar rfl rfl rfl (IntWalk.u64_in _ (by omega))) ?_
  refine LW.re 39 (.int .u64 ((0 : Nat) : Int)) rfl (by rfl) ?_
  refine LW.v rfl rfl (Val.assign rfl) ?_
  refine LW.nil ?_
  refine PQ.seq ?_
  refine CW.seq ?_
  refine CW.region ?_
  refine LW.v rfl rfl (Val.move rfl) ?_
  refine LW.v rfl rfl (Val.move rfl) ?_
  refine LW.v rfl rfl (Val.ar rfl rfl rfl (IntWalk.u64_in _ (by omega))) ?_
  refine LW.re 42 (.int .u64 ((0 : Nat) : Int)) rfl (by rfl) ?_
  refine LW.v rfl rfl (Val.move rfl) ?_
  refine LW.v rfl rfl (Val.ar rfl rfl rfl (IntWalk.u64_in _ (by omega))) ?_
  refine LW.re 44 (.int .u64 ((0 : Nat) : Int)) rfl (by rfl) ?_
  refine LW.v rfl rfl (Val.move rfl) ?_
  refine LW.v rfl rfl (Val.shr rfl rfl (by omega)) ?_
  refine LW.re 46 (.int .u64 ((0 : Nat) : Int)) rfl (by rw [shr32 (n := 0) (by omega)] <;> rfl) ?_
  refine LW.v rfl rfl (Val.ar rfl rfl rfl (IntWalk.u64_in _ (by omega))) ?_
  refine LW.re 47 (.int .u64 ((0 : Nat) : Int)) rfl (by rfl) ?_
  refine LW.v rfl rfl (Val.assign rfl) ?_
  refine LW.nil ?_
  refine PQ.seq ?_
  refine CW.seq ?_
  refine CW.region ?_
  refine LW.v rfl rfl (Val.move rfl) ?_
  refine LW.v rfl rfl (Val.move rfl) ?_
  refine LW.v rfl rfl (Val.ar rfl rfl rfl (IntWalk.u64_in _ (by omega))) ?_
  refine LW.re 50 (.int .u64 ((n : Nat) : Int)) rfl (by congr 1 <;> omega) ?_
  refine LW.v rfl rfl (Val.assign rfl) ?_
  refine LW.nil ?_
  refine PQ.seq ?_
  refine CW.ret ?_
  refine PQ.ret2 rfl rfl rfl ?_
  intro w' hw; exact ⟨rfl, hw.below⟩
theorem mul_c (n : Nat) (hn : n ≤ 40) (w : World) : Calls Try.prog 55 [.int .u64 ((1 : Nat) : Int), .int .u64 (n : Nat)].toArray w fun e w' => e = .returned (.tuple #[.int .u64 ((0 : Nat) : Int), .int .u64 (n : Nat)]) ∧ Below w.heap.size w w' := by
  refine V.calls [] Try.func55 rfl Try.ntmps55 (Nat.le_of_ble_eq_true rfl) (V.sat_nil _) ?_
  refine CW.seq ?_
  refine CW.region ?_
  refine LW.v rfl rfl (Val.assign rfl) ?_
  refine LW.v rfl rfl (Val.assign rfl) ?_
  refine LW.nil ?_
  refine PQ.seq ?_
  refine CW.seq ?_
  refine CW.cond_f rfl ?_
  refine CW.skip ?_
  refine PQ.seq ?_
  refine CW.seq ?_
  refine CW.region ?_
  refine LW.v rfl rfl (Val.move rfl) ?_
  refine LW.v rfl rfl (Val.move rfl) ?_
  refine LW.e rfl rfl (Eff.callV rfl Try.call67 (fun w hw => mul64_c n hn w)) ?_
  intro _ _
  refine LW.v rfl rfl (Val.move rfl) ?_
  refine LW.v rfl rfl (Val.extract rfl rfl) ?_
  refine LW.v rfl rfl (Val.extract rfl rfl) ?_
  refine LW.v rfl rfl (Val.assign rfl) ?_
  refine LW.v rfl rfl (Val.assign rfl) ?_
  refine LW.nil ?_
  refine PQ.seq ?_
  refine CW.seq ?_
  refine CW.region ?_
  refine LW.v rfl rfl (Val.move rfl) ?_
  refine LW.v rfl rfl (Val.move rfl) ?_
  refine LW.v rfl rfl (Val.assign rfl) ?_
  refine LW.v rfl rfl (Val.assign rfl) ?_
  refine LW.nil ?_
  refine PQ.seq ?_
  refine CW.ret ?_
  refine PQ.ret2 rfl rfl rfl ?_
  intro w' hw; exact ⟨rfl, hw.below⟩
theorem src_at {α : Type} {w : World} {b o sz : Nat} {enc : α → List Value} {l : List α} {i : Nat} {x : α} (h : V.slAt w (some ⟨b, o, none⟩) sz enc l) (hx : l[i]? = some x) : w.rangeAt b (o + i * sz) (enc x) := by
  rcases h with h | ⟨b2, o2, hp, hb, hr⟩
  · rw [h] at hx; simp at hx
  · simp only [Option.some.injEq, Addr.mk.injEq] at hp
    obtain ⟨rfl, rfl, _⟩ := hp
    exact hr i x hx
theorem rep_flat (c : Cl) (i : Nat) : ((List.replicate i c).flatMap clC).length = i * 5 := by
  rw [V.flatMap_len clC_len, List.length_replicate]
theorem rep_zero (n : Nat) : V.repL [.int .i64 0, .string ⟨#[]⟩, .string ⟨#[]⟩, .string ⟨#[]⟩, .slice none 0 0] n = (List.replicate n (⟨0, [], []⟩ : Cl)).flatMap clC := by
  induction n with
  | zero => rfl
  | succ n ih => rw [List.replicate_succ, List.flatMap_cons, ← ih]; rfl
theorem rep_add (c : Cl) (i j : Nat) : (List.replicate i c).flatMap clC ++ (List.replicate j c).flatMap clC = (List.replicate (i + j) c).flatMap clC := by
  rw [← List.flatMap_append, List.replicate_append_replicate]
theorem rep_one (cs : List Cl) : ∀ v ∈ cs.flatMap clC, v.oneCell' = true := fun v hv => by
  obtain ⟨c, _, hc⟩ := List.mem_flatMap.1 hv
  simp only [clC, List.mem_cons, List.not_mem_nil, or_false] at hc
  rcases hc with rfl | rfl | rfl | rfl | rfl <;> rfl
/-- So many of the first cells are the call's, the rest are zero. -/
def rpC (n i : Nat) : List Value := (List.replicate i dqC).flatMap clC ++ (List.replicate (n - i) (⟨0, [], []⟩ : Cl)).flatMap clC
theorem rpC_copy {n i m : Nat} (h : i + m ≤ n) : (rpC n i).take (i * 5) ++ (List.replicate m dqC).flatMap clC ++ (rpC n i).drop (i * 5 + ((List.replicate m dqC).flatMap clC).length) = rpC n (i + m) := by
  unfold rpC
  rw [List.take_append_of_le_length (by rw [rep_flat]; omega), List.take_of_length_le (by rw [rep_flat]; omega), rep_add, rep_flat, List.drop_append, rep_flat, List.drop_eq_nil_iff.2 (by rw [rep_flat]; omega), List.nil_append, show i * 5 + m * 5 - i * 5 = m * 5 by omega, show n - i = m + (n - (i + m)) by omega, ← rep_add (⟨0, [], []⟩ : Cl) m, List.drop_append_of_le_length (by rw [rep_flat]; omega), List.drop_eq_nil_iff.2 (by rw [rep_flat]; omega), List.nil_append]
theorem rpC_len {n i : Nat} (h : i ≤ n) : (rpC n i).length = n * 5 := by unfold rpC; rw [List.length_append, rep_flat, rep_flat]; omega
theorem rpC_pre {n i m : Nat} (h : m ≤ i) (hi : i ≤ n) : rpC n i = (List.replicate m dqC).flatMap clC ++ (rpC n i).drop (m * 5) := by
  have h1 : (rpC n i).take (m * 5) = (List.replicate m dqC).flatMap clC := by
    unfold rpC
    rw [List.take_append_of_le_length (by rw [rep_flat]; omega), show i = m + (i - m) by omega, ← rep_add, List.take_append_of_le_length (by rw [rep_flat]; omega), List.take_of_length_le (by rw [rep_flat]; omega)]
  conv => lhs; rw [← List.take_append_drop (m * 5) (rpC n i), h1]
theorem rpC_end (n : Nat) : rpC n n = (List.replicate n dqC).flatMap clC := by unfold rpC; simp
theorem repeatN_c (p : Option Addr) (n : Nat) (h0 : 1 ≤ n) (hn : n ≤ 40) (w : World) (hs : V.slAt w p 5 clC [dqC]) : Calls Try.prog 34 [.slice p 1 1, .int .i64 (n : Nat)].toArray w fun e w' => ∃ o : V.OwnO, ownOk 5 n ((List.replicate n dqC).flatMap clC) o ∧ e = .returned (ownV n o) ∧ Hp ⟨w, []⟩ [ownG 38 ((List.replicate n dqC).flatMap clC) o] w' := by
  obtain ⟨xb, xo, rfl⟩ : ∃ b o, p = some ⟨b, o, none⟩ := by
    rcases hs with h | ⟨b, o, h, _⟩
    · cases h
    · exact ⟨b, o, h⟩
  refine V.calls [] Try.func34 rfl Try.ntmps34 (Nat.le_of_ble_eq_true rfl) (V.sat_nil _) ?_
  refine CW.seq ?_
  refine CW.region ?_
  refine LW.v rfl rfl (Val.assign rfl) ?_
  refine LW.nil ?_
  refine PQ.seq ?_
  refine CW.seq ?_
  refine CW.seq ?_
  refine CW.region ?_
  refine LW.v rfl rfl (Val.move rfl) ?_
  refine LW.v rfl rfl (Val.cmp rfl rfl rfl) ?_
  refine LW.re 10 (.bool false) rfl (by congr 1 <;> simp) ?_
  refine LW.nil ?_
  refine PQ.seq ?_
  refine CW.cond_f rfl ?_
  refine CW.skip ?_
  refine PQ.seq ?_
  refine CW.seq ?_
  refine CW.region ?_
  refine LW.v rfl rfl (Val.move rfl) ?_
  refine LW.v rfl rfl (Val.lenSl rfl Try.underlying28) ?_
  refine LW.v rfl rfl (Val.convI rfl Try.underlying3 Try.underlying71) ?_
  refine LW.re 15 (.int .u64 ((1 : Nat) : Int)) rfl (by rfl) ?_
  refine LW.v rfl rfl (Val.move rfl) ?_
  refine LW.v rfl rfl (Val.convI rfl Try.underlying3 Try.underlying71) ?_
  refine LW.re 17 (.int .u64 ((n : Nat) : Int)) rfl (by rw [IntWalk.u64_in _ (by omega)]) ?_
  refine LW.e rfl rfl (Eff.callV rfl Try.call55 (fun w hw => mul_c n hn w)) ?_
  intro _ _
  refine LW.v rfl rfl (Val.move rfl) ?_
  refine LW.v rfl rfl (Val.extract rfl rfl) ?_
  refine LW.v rfl rfl (Val.extract rfl rfl) ?_
  refine LW.v rfl rfl (Val.assign rfl) ?_
  refine LW.v rfl rfl (Val.assign rfl) ?_
  refine LW.nil ?_
  refine PQ.seq ?_
  refine CW.seq ?_
  refine CW.seq ?_
  refine CW.region ?_
  refine LW.v rfl rfl (Val.move rfl) ?_
  refine LW.v rfl rfl (Val.cmp rfl rfl rfl) ?_
  refine LW.re 22 (.bool false) rfl (by rfl) ?_
  refine LW.v rfl rfl (Val.move rfl) ?_
  refine LW.v rfl rfl (Val.move rfl) ?_
  refine LW.v rfl rfl (Val.cmp rfl rfl rfl) ?_
  refine LW.re 25 (.bool false) rfl (by congr 1; simp; omega) ?_
  refine LW.v rfl rfl (Val.pick_f rfl rfl) ?_
  refine LW.nil ?_
  refine PQ.seq ?_
  refine CW.cond_f rfl ?_
  refine CW.skip ?_
  refine PQ.seq ?_
  refine CW.seq ?_
  refine CW.region ?_
  refine LW.v rfl rfl (Val.move rfl) ?_
  refine LW.v rfl rfl (Val.convI rfl Try.underlying71 Try.underlying3) ?_
  refine LW.re 29 (.int .i64 ((n : Nat) : Int)) rfl (by rw [IntWalk.i64_in _ (by omega)]) ?_
  refine LW.e rfl rfl (Eff.makeSlice (by_ := 80) rfl rfl Try.underlying28 (by kernel_rfl) Try.sizeOf38 (by exact Try.zeroValue38) rfl rfl (by omega) (by omega) (by omega)) ?_
  intro b30 _
  refine V.LW.perm (sg' := [[(b30, .cells (rpC n 0).toArray 38 (0, 0))]]) ?_ (by rw [rep_zero]; unfold rpC; simp)
  refine LW.v rfl rfl (Val.assign rfl) ?_
  refine LW.nil ?_
  refine PQ.seq ?_
  refine CW.seq ?_
  refine CW.region ?_
  refine LW.v rfl rfl (Val.move rfl) ?_
  refine LW.v rfl rfl (Val.move rfl) ?_
  refine LW.e rfl rfl (Eff.copy (sz := 5) (gb := b30) (o := 0) (m := 1) (a := ⟨xb, xo, none⟩) (cur := rpC n 0) (cs := clC dqC) (cells' := rpC n 1) rfl rfl Try.underlying28 (by kernel_rfl) (by repeat (first | exact .here | exact .inner .here | exact .inner (.inner .here) | apply Upd.there)) (by have := rpC_copy (n := n) (i := 0) (m := 1) (by omega); simpa using this) (Nat.min_eq_left (by omega)) rfl (fun w hw j v hv => by have h8 := src_at (i := 0) (hw.slAt hs (by simp [ids])) rfl; have h9 := h8 j v hv; rw [Addr.add_mid]; simpa using h9) (by rw [rpC_len (by omega)]; show 0 + 5 ≤ n * 5; omega) rfl) ?_
  intro _ _
  refine LW.v rfl rfl (Val.assign rfl) ?_
  refine LW.nil ?_
  refine PQ.seq ?_
  refine CW.seq ?_
  refine CW.block ?_
  refine CW.loop (γ := Nat) (fun i => [(7, .slice (some ⟨b30, 0, none⟩) n n), (8, .int .i64 (i : Nat))]) (fun i => [[(b30, .cells (rpC n i).toArray 38 (0, 0))]]) (fun i => 1 ≤ i ∧ i ≤ n) (fun i => n - i) (1) ⟨Nat.le_refl _, h0⟩ (by repeat (first | exact trivial | refine ⟨rfl, ?_⟩)) (by repeat (first | exact .nil | apply Pick.cons | exact .here | apply Ext.there)) ?_
  intro i
  rintro ⟨hi1, hi2⟩
  refine CW.seq ?_
  refine CW.seq ?_
  refine CW.region ?_
  refine LW.v rfl rfl (Val.move rfl) ?_
  refine LW.v rfl rfl (Val.move rfl) ?_
  refine LW.v rfl rfl (Val.lenSl rfl Try.underlying28) ?_
  refine LW.v rfl rfl (Val.cmp rfl rfl rfl) ?_
  refine LW.nil ?_
  refine PQ.seq ?_
  refine CW.cond rfl (fun h37 => ?_) (fun h37 => ?_)
  · replace h37 := bT h37
    have hin : i < n := by omega
    refine CW.skip ?_
    refine PQ.seq ?_
    refine CW.block ?_
    refine CW.drawn ([]) mixed (by repeat (first | exact .nil | apply Pick.cons | exact .here | apply Ext.there)) ?_
    refine RW.v 0 rfl (by kernel_rfl) (by kernel_rfl) (by kernel_rfl) (fun _ _ _ h => h) rfl rfl (Val.move rfl) ?_
    refine RW.v 1 rfl (by kernel_rfl) (by kernel_rfl) (by kernel_rfl) (fun _ _ _ h => h) rfl rfl (Val.move rfl) ?_
    refine RW.v 2 rfl (by kernel_rfl) (by kernel_rfl) (by kernel_rfl) (fun _ _ _ h => h) rfl rfl (Val.move rfl) ?_
    refine RW.v 3 rfl (by kernel_rfl) (by kernel_rfl) (by kernel_rfl) (fun _ _ _ h => h) rfl rfl (Val.slice i n n rfl Try.underlying28 Try.sizeOf38 ⟨_, rfl⟩ rfl rfl (fun _ => rfl) (by omega) (by omega) (Nat.le_refl _)) ?_
    refine RW.re 41 (.slice (some ⟨b30, i * 5, none⟩) (n - i) (n - i)) rfl (by rw [if_neg (by omega)]; simp) ?_
    refine RW.v 4 rfl (by kernel_rfl) (by kernel_rfl) (by kernel_rfl) (fun _ _ _ h => h) rfl rfl (Val.move rfl) ?_
    refine RW.v 5 rfl (by kernel_rfl) (by kernel_rfl) (by kernel_rfl) (fun _ _ _ h => h) rfl rfl (Val.move rfl) ?_
    refine RW.v 6 rfl (by kernel_rfl) (by kernel_rfl) (by kernel_rfl) (fun _ _ _ h => h) rfl rfl (Val.slice 0 i n rfl Try.underlying28 Try.sizeOf38 rfl ⟨_, rfl⟩ rfl (fun h => by cases h) (by omega) (by omega) (Nat.le_refl _)) ?_
    refine RW.re 44 (.slice (some ⟨b30, 0, none⟩) i n) rfl (by rw [if_neg (by omega)]; simp) ?_
    refine RW.e 7 rfl (by kernel_rfl) rfl rfl (Eff.copy (sz := 5) (gb := b30) (o := i * 5) (m := min (n - i) i) (a := ⟨b30, 0, none⟩) (cur := rpC n i) (cs := (List.replicate (min (n - i) i) dqC).flatMap clC) (cells' := rpC n (i + min (n - i) i)) rfl rfl Try.underlying28 (by kernel_rfl) (by repeat (first | exact .here | exact .inner .here | exact .inner (.inner .here) | apply Upd.there)) (rpC_copy (by omega)) (by rw [Nat.min_comm]) (rep_flat _ _) (fun w hw j v hv => by have h8 := hw.own _ (show InS (b30, .cells (rpC n i).toArray 38 (0, 0)) _ from (by repeat (first | exact .here | exact .inner .here | exact .inner (.inner .here) | refine .there ?_))).mem; have h9 : w.rangeAt b30 0 ((List.replicate (min (n - i) i) dqC).flatMap clC) := V.range_of_block (o := 0) (r := (rpC n i).drop (min (n - i) i * 5)) h8 (by rw [List.drop_zero]; exact rpC_pre (by omega) (by omega)); have h10 := h9 j v hv; rw [Addr.add_mid]; simpa using h10) (by rw [rpC_len (by omega), rep_flat]; omega) (List.all_eq_true.2 (rep_one _))) (fun x => ⟨_, (by repeat (first | exact .nil | apply Pick.cons | exact .here | apply Ext.there))⟩) ?_
    intro _ _
    refine RW.v 8 rfl (by kernel_rfl) (by kernel_rfl) (by kernel_rfl) (fun _ _ _ h => h) rfl rfl (Val.ar rfl rfl rfl (IntWalk.i64_in _ (by omega))) ?_
    refine RW.re 46 (.int .i64 ((i + min (n - i) i : Nat) : Int)) rfl (by simp) ?_
    refine RW.v 9 rfl (by kernel_rfl) (by kernel_rfl) (by kernel_rfl) (fun _ _ _ h => h) rfl rfl (Val.assign rfl) ?_
    refine RW.done (by kernel_rfl) ?_
    refine PQ.in_normal ?_
    refine PQ.round (i + min (n - i) i) ⟨by omega, by omega⟩ (by omega) (by repeat (first | exact trivial | refine ⟨rfl, ?_⟩)) (by repeat (first | exact .nil | apply Pick.cons | exact .here | apply Ext.there))
  · replace h37 := bF h37
    refine CW.exit ?_
    refine PQ.then_exit ?_
    refine PQ.then_exit ?_
    refine PQ.in_here ?_
    refine PQ.seq ?_
    refine CW.seq ?_
    refine CW.region ?_
    refine LW.v rfl rfl (Val.move rfl) ?_
    refine LW.v rfl rfl (Val.assign rfl) ?_
    refine LW.nil ?_
    refine PQ.seq ?_
    refine CW.ret ?_
    refine PQ.ret1 rfl rfl ?_
    have hie : i = n := by omega
    subst hie
    rw [rpC_end]
    intro w' hw
    exact ⟨some (b30, [], i), ⟨rep_flat _ _, by simp [clC_len]⟩, rfl, hw.perm (by simp [V.ownG_some])⟩
theorem repeat0_c (p : Option Addr) (n : Nat) (h0 : n = 0) (w : World) (hs : V.slAt w p 5 clC [dqC]) : Calls Try.prog 34 [.slice p 1 1, .int .i64 (n : Nat)].toArray w fun e w' => ∃ o : V.OwnO, ownOk 5 n ((List.replicate n dqC).flatMap clC) o ∧ e = .returned (ownV n o) ∧ Hp ⟨w, []⟩ [ownG 38 ((List.replicate n dqC).flatMap clC) o] w' := by
  subst h0
  obtain ⟨xb, xo, rfl⟩ : ∃ b o, p = some ⟨b, o, none⟩ := by
    rcases hs with h | ⟨b, o, h, _⟩
    · cases h
    · exact ⟨b, o, h⟩
  refine V.calls [] Try.func34 rfl Try.ntmps34 (Nat.le_of_ble_eq_true rfl) (V.sat_nil _) ?_
  refine CW.seq ?_
  refine CW.region ?_
  refine LW.v rfl rfl (Val.assign rfl) ?_
  refine LW.nil ?_
  refine PQ.seq ?_
  refine CW.seq ?_
  refine CW.seq ?_
  refine CW.region ?_
  refine LW.v rfl rfl (Val.move rfl) ?_
  refine LW.v rfl rfl (Val.cmp rfl rfl rfl) ?_
  refine LW.re 10 (.bool false) rfl (by rfl) ?_
  refine LW.nil ?_
  refine PQ.seq ?_
  refine CW.cond_f rfl ?_
  refine CW.skip ?_
  refine PQ.seq ?_
  refine CW.seq ?_
  refine CW.region ?_
  refine LW.v rfl rfl (Val.move rfl) ?_
  refine LW.v rfl rfl (Val.lenSl rfl Try.underlying28) ?_
  refine LW.v rfl rfl (Val.convI rfl Try.underlying3 Try.underlying71) ?_
  refine LW.re 15 (.int .u64 ((1 : Nat) : Int)) rfl (by rfl) ?_
  refine LW.v rfl rfl (Val.move rfl) ?_
  refine LW.v rfl rfl (Val.convI rfl Try.underlying3 Try.underlying71) ?_
  refine LW.re 17 (.int .u64 ((0 : Nat) : Int)) rfl (by rfl) ?_
  refine LW.e rfl rfl (Eff.callV rfl Try.call55 (fun w hw => mul_c 0 (by omega) w)) ?_
  intro _ _
  refine LW.v rfl rfl (Val.move rfl) ?_
  refine LW.v rfl rfl (Val.extract rfl rfl) ?_
  refine LW.v rfl rfl (Val.extract rfl rfl) ?_
  refine LW.v rfl rfl (Val.assign rfl) ?_
  refine LW.v rfl rfl (Val.assign rfl) ?_
  refine LW.nil ?_
  refine PQ.seq ?_
  refine CW.seq ?_
  refine CW.seq ?_
  refine CW.region ?_
  refine LW.v rfl rfl (Val.move rfl) ?_
  refine LW.v rfl rfl (Val.cmp rfl rfl rfl) ?_
  refine LW.re 22 (.bool false) rfl (by rfl) ?_
  refine LW.v rfl rfl (Val.move rfl) ?_
  refine LW.v rfl rfl (Val.move rfl) ?_
  refine LW.v rfl rfl (Val.cmp rfl rfl rfl) ?_
  refine LW.re 25 (.bool false) rfl (by rfl) ?_
  refine LW.v rfl rfl (Val.pick_f rfl rfl) ?_
  refine LW.nil ?_
  refine PQ.seq ?_
  refine CW.cond_f rfl ?_
  refine CW.skip ?_
  refine PQ.seq ?_
  refine CW.seq ?_
  refine CW.region ?_
  refine LW.v rfl rfl (Val.move rfl) ?_
  refine LW.v rfl rfl (Val.convI rfl Try.underlying71 Try.underlying3) ?_
  refine LW.re 29 (.int .i64 0) rfl (by rfl) ?_
  refine LW.e rfl rfl (Eff.makeSlice0 (by_ := 80) rfl rfl Try.underlying28 (by kernel_rfl) Try.sizeOf38) ?_
  intro b30 _
  refine LW.v rfl rfl (Val.assign rfl) ?_
  refine LW.nil ?_
  refine PQ.seq ?_
  refine CW.seq ?_
  refine CW.region ?_
  refine LW.v rfl rfl (Val.move rfl) ?_
  refine LW.v rfl rfl (Val.move rfl) ?_
  refine LW.e rfl rfl (Eff.copy (sz := 5) (gb := b30) (o := 0) (m := 0) (a := ⟨xb, xo, none⟩) (cur := []) (cs := []) (cells' := []) rfl rfl Try.underlying28 (by kernel_rfl) (by repeat (first | exact .here | exact .inner .here | exact .inner (.inner .here) | apply Upd.there)) rfl rfl rfl (fun w hw j v hv => by simp at hv) (Nat.le_refl _) rfl) ?_
  intro _ _
  refine LW.v rfl rfl (Val.assign rfl) ?_
  refine LW.nil ?_
  refine PQ.seq ?_
  refine CW.seq ?_
  refine CW.block ?_
  refine CW.loop (γ := Nat) (fun i => [(7, .slice (some ⟨b30, 0, none⟩) 0 0), (8, .int .i64 0)]) (fun i => [[(b30, .cells ([] : List Value).toArray 38 (0, 0))]]) (fun i => True) (fun i => 0) (0) trivial (by repeat (first | exact trivial | refine ⟨rfl, ?_⟩)) (by repeat (first | exact .nil | apply Pick.cons | exact .here | apply Ext.there)) ?_
  intro k
  intro _
  refine CW.seq ?_
  refine CW.seq ?_
  refine CW.region ?_
  refine LW.v rfl rfl (Val.move rfl) ?_
  refine LW.v rfl rfl (Val.move rfl) ?_
  refine LW.v rfl rfl (Val.lenSl rfl Try.underlying28) ?_
  refine LW.v rfl rfl (Val.cmp rfl rfl rfl) ?_
  refine LW.re 37 (.bool false) rfl (by rfl) ?_
  refine LW.nil ?_
  refine PQ.seq ?_
  refine CW.cond_f rfl ?_
  refine CW.exit ?_
  refine PQ.then_exit ?_
  refine PQ.then_exit ?_
  refine PQ.in_here ?_
  refine PQ.seq ?_
  refine CW.seq ?_
  refine CW.region ?_
  refine LW.v rfl rfl (Val.move rfl) ?_
  refine LW.v rfl rfl (Val.assign rfl) ?_
  refine LW.nil ?_
  refine PQ.seq ?_
  refine CW.ret ?_
  refine PQ.ret1 rfl rfl ?_
  intro w' hw
  exact ⟨some (b30, [], 0), ⟨rfl, rfl⟩, rfl, hw.perm (by simp [V.ownG_some])⟩
theorem repeat_c (p : Option Addr) (n : Nat) (hn : n ≤ 40) (w : World) (hs : V.slAt w p 5 clC [dqC]) : Calls Try.prog 34 [.slice p 1 1, .int .i64 (n : Nat)].toArray w fun e w' => ∃ o : V.OwnO, ownOk 5 n ((List.replicate n dqC).flatMap clC) o ∧ e = .returned (ownV n o) ∧ Hp ⟨w, []⟩ [ownG 38 ((List.replicate n dqC).flatMap clC) o] w' := by
  by_cases h : n = 0
  · exact repeat0_c p n h w hs
  · exact repeatN_c p n (by omega) hn w hs
end Go.Proofs.Ytipnpnkniihdjaa
