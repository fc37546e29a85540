/- What the functions of limbo that read do to a symbolic state. -/
import Derived.Test.YtgeblajdjdcghaaRdB
import Derived.Test.YtgeblajdjdcghaaV9
import Derived.Lib.Hide
namespace Go.Proofs.Ytgeblajdjdcghaa
open Go Go.RowKit V
set_option linter.unusedVariables false
set_option maxRecDepth 100000
theorem places80 : ∀ w, ((Array.mapM (fun (f : Field) => do pure (f.offset, ← sizeOf f.type)) (Try.prog.fieldsOf 80) : Sem (Array (Nat × Nat)))).run Try.prog w = .ok [(0, 1), (1, 1), (2, 1), (3, 1), (4, 1)].toArray w := by
  intro w; kernel_rfl
theorem places124 : ∀ w, ((Array.mapM (fun (f : Field) => do pure (f.offset, ← sizeOf f.type)) (Try.prog.fieldsOf 124) : Sem (Array (Nat × Nat)))).run Try.prog w = .ok [(0, 1)].toArray w := by
  intro w; kernel_rfl
structure En where
  line : Int
  cls : Int
  r : Int
  d : Int
  anti : Int
  deriving DecidableEq
def enC (x : En) : List Value := [.int .i64 x.line, .int .i64 x.cls, .int .u64 x.r, .int .u64 x.d, .int .i64 x.anti]
def enV (x : En) : Value := .agg (enC x).toArray
def en0 : En := ⟨0, 0, 0, 0, 0⟩
def enCs (l : List En) (rest : List Value) : List Value := l.flatMap enC ++ rest
/-- A bag of type T at b: none: nothing was ever put in; some (g, rest, cap): the entries lie in block g, rest behind them. -/
def bgV (l : List En) : Option (Nat × List Value × Nat) → Value
  | none => .slice none 0 0
  | some (g, _, cap) => .slice (some ⟨g, 0, none⟩) l.length cap
def bgA (l : List En) : Option (Nat × List Value × Nat) → Sg
  | none => []
  | some (g, rest, _) => [[(g, .cells (enCs l rest).toArray 80 (0, 0))]]
def bgG (T b : Nat) (o : Option (Nat × List Value × Nat)) (l : List En) : Sg := [(b, .cells [bgV l o].toArray T (0, 0))] :: bgA l o
def bgOk (o : Option (Nat × List Value × Nat)) (l : List En) : Prop := match o with
  | none => l = []
  | some (_, rest, cap) => l.length * 5 + rest.length = cap * 5
theorem flat_length (l : List En) : (l.flatMap enC).length = l.length * 5 := by
  induction l with
  | nil => rfl
  | cons x r ih => simp only [List.flatMap_cons, List.length_append, ih, List.length_cons]; show 5 + _ = _; omega
theorem ent_drop {l : List En} {i : Nat} {x : En} (rest : List Value) (h : l[i]? = some x) : ∃ r, (enCs l rest).drop (0 + i * 5) = enC x ++ r := by
  obtain ⟨r, hr⟩ := V.drop_flatMap (enc := enC) (sz := 5) (fun _ => rfl) l i x h
  have hi := (List.getElem?_eq_some_iff.1 h).1
  refine ⟨r ++ rest, ?_⟩
  unfold enCs
  rw [Nat.zero_add, List.drop_append_of_le_length (by rw [flat_length]; omega), hr, List.append_assoc]
theorem ent_cell {l : List En} {i : Nat} {x : En} (rest : List Value) (h : l[i]? = some x) (j : Nat) {v : Value} (hj : (enC x)[j]? = some v) : (enCs l rest)[0 + i * 5 + j]? = some v := by
  obtain ⟨r, hr⟩ := ent_drop rest h
  rw [← List.getElem?_drop, hr, List.getElem?_append_left (List.getElem?_eq_some_iff.1 hj).1, hj]
theorem blen_c (b : Nat) (o : Option (Nat × List Value × Nat)) (l : List En) (hk : bgOk o l) (w : World) (hs : Sat (bgG 124 b o l) w) : Calls Try.prog 44 [.pointer (some ⟨b, 0, none⟩)].toArray w fun e w' => e = .returned (.int .i64 (l.length : Nat)) ∧ Below w.heap.size w w' := by
  rcases o with _ | ⟨g, rest, cap⟩
  · obtain rfl : l = [] := hk
    refine V.calls (bgG 124 b none []) Try.func44 rfl Try.ntmps44 (Nat.le_of_ble_eq_true rfl) hs ?_
    refine CW.seq ?_
    refine CW.region ?_
    refine LW.v rfl rfl (Val.assign rfl) ?_
    refine LW.nil ?_
    refine PQ.seq ?_
    refine CW.seq ?_
    refine CW.seq ?_
    refine CW.region ?_
    refine LW.v rfl rfl (Val.move rfl) ?_
    refine LW.v rfl rfl (Val.eqP false rfl rfl Try.underlying76 (.inr ⟨rfl, rfl⟩)) ?_
    refine LW.nil ?_
    refine PQ.seq ?_
    refine CW.cond_f rfl ?_
    refine CW.skip ?_
    refine PQ.seq ?_
    refine CW.seq ?_
    refine CW.region ?_
    refine LW.v rfl rfl (Val.move rfl) ?_
    refine LW.v rfl rfl (Val.nilCheck rfl) ?_
    refine LW.v rfl rfl (Val.fieldAddr 0 rfl Try.underlying124 rfl rfl Try.sizeOf86) ?_
    refine LW.v rfl rfl (Val.load rfl Try.isAgg86 (by repeat (first | exact .here | refine .there ?_)) (by rfl)) ?_
    refine LW.v rfl rfl (Val.lenSl rfl Try.underlying86) ?_
    refine LW.v rfl rfl (Val.assign rfl) ?_
    refine LW.nil ?_
    refine PQ.seq ?_
    refine CW.ret ?_
    refine PQ.ret1 rfl rfl ?_
    intro w' hw; exact ⟨rfl, hw.ro (by repeat (first | exact .nil | apply Pick.cons | exact .here | apply Ext.there)) hs⟩
  · refine V.calls (bgG 124 b (some (g, rest, cap)) l) Try.func44 rfl Try.ntmps44 (Nat.le_of_ble_eq_true rfl) hs ?_
    refine CW.seq ?_
    refine CW.region ?_
    refine LW.v rfl rfl (Val.assign rfl) ?_
    refine LW.nil ?_
    refine PQ.seq ?_
    refine CW.seq ?_
    refine CW.seq ?_
    refine CW.region ?_
    refine LW.v rfl rfl (Val.move rfl) ?_
    refine LW.v rfl rfl (Val.eqP false rfl rfl Try.underlying76 (.inr ⟨rfl, rfl⟩)) ?_
    refine LW.nil ?_
    refine PQ.seq ?_
    refine CW.cond_f rfl ?_
    refine CW.skip ?_
    refine PQ.seq ?_
    refine CW.seq ?_
    refine CW.region ?_
    refine LW.v rfl rfl (Val.move rfl) ?_
    refine LW.v rfl rfl (Val.nilCheck rfl) ?_
    refine LW.v rfl rfl (Val.fieldAddr 0 rfl Try.underlying124 rfl rfl Try.sizeOf86) ?_
    refine LW.v rfl rfl (Val.load rfl Try.isAgg86 (by repeat (first | exact .here | refine .there ?_)) (by rfl)) ?_
    refine LW.v rfl rfl (Val.lenSl rfl Try.underlying86) ?_
    refine LW.v rfl rfl (Val.assign rfl) ?_
    refine LW.nil ?_
    refine PQ.seq ?_
    refine CW.ret ?_
    refine PQ.ret1 rfl rfl ?_
    intro w' hw; exact ⟨rfl, hw.ro (by repeat (first | exact .nil | apply Pick.cons | exact .here | apply Ext.there)) hs⟩
theorem entries_c (b : Nat) (w : World) : Calls Try.prog 80 [.pointer (some ⟨b, 0, none⟩)].toArray w fun e w' => ∃ cb : Nat, True ∧ e = .returned (.func (.func 83) #[] #[.pointer (some ⟨cb, 0, none⟩)]) ∧ Hp ⟨w, []⟩ [[(cb, .cells [.pointer (some ⟨b, 0, none⟩)].toArray 76 (0, 0))]] w' := by
  refine V.calls [] Try.func80 rfl Try.ntmps80 (Nat.le_of_ble_eq_true rfl) (V.sat_nil _) ?_
  refine CW.seq ?_
  refine CW.region ?_
  refine LW.e rfl rfl (Eff.boxS rfl rfl) ?_
  intro b1 _
  refine LW.v rfl rfl (Val.assign rfl) ?_
  refine LW.nil ?_
  refine PQ.seq ?_
  refine CW.seq ?_
  refine CW.region ?_
  refine LW.v rfl rfl (Val.makeFunc rfl rfl) ?_
  refine LW.v rfl rfl (Val.assign rfl) ?_
  refine LW.nil ?_
  refine PQ.seq ?_
  refine CW.ret ?_
  refine PQ.ret1 rfl rfl ?_
  intro w' hw; exact ⟨b1, trivial, rfl, hw⟩
def eiV (x : Int × En) : List Value := [.int .i64 x.1, enV x.2]
def enL (l : List En) : List (Int × En) := l.zipIdx.map fun p => ((p.2 : Int), p.1)
theorem enL_length (l : List En) : (enL l).length = l.length := by simp [enL]
theorem enL_at {l : List En} {k : Nat} {x : En} (h : l[k]? = some x) : (enL l)[k]? = some ((k : Int), x) := by simp [enL, List.getElem?_zipIdx, h]
theorem takeL {α : Type} {l : List α} {k : Nat} {s : α} (h : l[k]? = some s) : l.take k ++ [s] = l.take (k + 1) := by
  have hlt := (List.getElem?_eq_some_iff.1 h).1
  rw [List.take_succ_eq_append_getElem hlt]
  congr 2
  have := List.getElem?_eq_getElem hlt
  rw [h] at this
  exact Option.some.inj this
def itG (cb b : Nat) (o : Option (Nat × List Value × Nat)) (l : List En) : Sg := [(cb, .cells [.pointer (some ⟨b, 0, none⟩)].toArray 76 (0, 0))] :: bgG 124 b o l
theorem ent_stops (cb : Nat) (b : Nat) (o : Option (Nat × List Value × Nat)) (l : List En) (hk : bgOk o l) (hl : l.length ≤ 1000) (w : World) (hs : Sat (itG cb b o l) w) :
    SeqStopsK (Wd none) 1 Try.prog 83 [.pointer (some ⟨cb, 0, none⟩)].toArray (fun x => (eiV x).toArray) (KpK (ids (itG cb b o l))) (fun xs => xs = enL l) (fun pre => pre <+: enL l) l.length w := by
  intro L J Jx W hb hJ hJx hY h0
  refine callsIn_wd.2 ?_
  have hs0 : Sat (itG cb b o l) W := hs.below hb
  have hZ : ∀ k w w', J ((enL l).take k) w → Below w.heap.size w w' → J ((enL l).take k) w' := fun k w w' h hb => abides_below hJ h hb
  have e0 : (#[Value.func (.yield L) #[] #[]] ++ [Value.pointer (some ⟨cb, 0, none⟩)].toArray : Array Value) = [Value.func (.yield L) #[] #[], Value.pointer (some ⟨cb, 0, none⟩)].toArray := by simp
  rw [e0]
  rcases o with _ | ⟨g, rest, cap⟩
  · obtain rfl : l = [] := hk
    refine V.callsI (H := fun w => J ((enL []).take 0) w ∧ Sat (itG cb b none []) w) Try.func83 rfl Try.ntmps83 (Nat.le_of_ble_eq_true rfl) ⟨h0, hs0⟩ ?_
    refine CI.seq ?_
    refine CI.region ?_
    refine LI.z rfl rfl (fun w hz hs => Val.load rfl Try.isAgg76 (by repeat (first | exact .here | refine .there ?_)) (by rfl)) ?_
    refine LI.zc rfl rfl rfl Try.call44 (fun w w' h hb => hZ 0 w w' h hb) (fun w hs => blen_c b none [] rfl w (hs.pick (ss := bgG 124 b none []) (by repeat (first | exact .nil | apply Pick.cons | exact .here | apply Ext.there)))) ?_
    skip
    refine LI.z rfl rfl (fun w hz hs => Val.move rfl) ?_
    refine LI.nil ?_
    refine PI.seq ?_
    refine CI.block ?_
    refine CI.loop (γ := Unit) (fun k => (fun k => [(5, .int .i64 (0 : Nat)), (6, .int .i64 (k : Nat))]) 0) (fun k w => J [] w ∧ Sat (itG cb b none []) w) (fun k => 0) () (by repeat (first | exact trivial | refine ⟨rfl, ?_⟩)) (fun w h => h) ?_
    rintro ⟨⟩
    simp only
    refine CI.seq ?_
    refine CI.region ?_
    refine LI.z rfl rfl (fun w hz hs => Val.cmp rfl rfl rfl) ?_
    refine LI.nil ?_
    refine PI.seq ?_
    refine CI.seq ?_
    refine CI.cond rfl (fun h7 => ?_) (fun h7 => ?_)
    · exact absurd (bT h7) (by simp)
    · replace h7 := bF h7
      refine CI.exit ?_
      refine PI.then_exit ?_
      refine PI.then_exit ?_
      refine PI.in_here ?_
      refine PI.end0 rfl ?_
      rintro w' ⟨hj, _⟩; refine ⟨⟨_, rfl⟩, .inl ⟨_, rfl, ?_⟩⟩
      exact hj
  · refine V.callsI (H := fun w => J ((enL l).take 0) w ∧ Sat (itG cb b (some (g, rest, cap)) l) w) Try.func83 rfl Try.ntmps83 (Nat.le_of_ble_eq_true rfl) ⟨h0, hs0⟩ ?_
    refine CI.seq ?_
    refine CI.region ?_
    refine LI.z rfl rfl (fun w hz hs => Val.load rfl Try.isAgg76 (by repeat (first | exact .here | refine .there ?_)) (by rfl)) ?_
    refine LI.zc rfl rfl rfl Try.call44 (fun w w' h hb => hZ 0 w w' h hb) (fun w hs => blen_c b (some (g, rest, cap)) l hk w (hs.pick (ss := bgG 124 b (some (g, rest, cap)) l) (by repeat (first | exact .nil | apply Pick.cons | exact .here | apply Ext.there)))) ?_
    skip
    refine LI.z rfl rfl (fun w hz hs => Val.move rfl) ?_
    refine LI.nil ?_
    refine PI.seq ?_
    refine CI.block ?_
    refine CI.loop (γ := {k : Nat // k ≤ l.length}) (fun k => (fun k => [(0, .func (.yield L) #[] #[]), (1, .pointer (some ⟨cb, 0, none⟩)), (5, .int .i64 (l.length : Nat)), (6, .int .i64 (k : Nat))]) k.1) (fun k w => J ((enL l).take k.1) w ∧ Sat (itG cb b (some (g, rest, cap)) l) w) (fun k => l.length - k.1) ⟨0, Nat.zero_le _⟩ (by repeat (first | exact trivial | refine ⟨rfl, ?_⟩)) (fun w h => h) ?_
    rintro ⟨k, hk1⟩
    simp only
    refine CI.seq ?_
    refine CI.region ?_
    refine LI.z rfl rfl (fun w hz hs => Val.cmp rfl rfl rfl) ?_
    refine LI.nil ?_
    refine PI.seq ?_
    refine CI.seq ?_
    refine CI.cond rfl (fun h7 => ?_) (fun h7 => ?_)
    · replace h7 := bT h7
      refine CI.skip ?_
      refine PI.seq ?_
      refine CI.seq ?_
      refine CI.block ?_
      refine CI.seq ?_
      refine CI.region ?_
      refine LI.z rfl rfl (fun w hz hs => Val.move rfl) ?_
      refine LI.z rfl rfl (fun w hz hs => Val.assign rfl) ?_
      refine LI.nil ?_
      refine PI.seq ?_
      refine CI.seq ?_
      refine CI.region ?_
      refine LI.z rfl rfl (fun w hz hs => Val.move rfl) ?_
      refine LI.z rfl rfl (fun w hz hs => Val.move rfl) ?_
      refine LI.z rfl rfl (fun w hz hs => Val.load rfl Try.isAgg76 (by repeat (first | exact .here | refine .there ?_)) (by rfl)) ?_
      refine LI.z rfl rfl (fun w hz hs => Val.nilCheck rfl) ?_
      refine LI.z rfl rfl (fun w hz hs => Val.fieldAddr 0 rfl Try.underlying124 rfl rfl Try.sizeOf86) ?_
      refine LI.z rfl rfl (fun w hz hs => Val.load rfl Try.isAgg86 (by repeat (first | exact .here | refine .there ?_)) (by rfl)) ?_
      obtain ⟨x, hx⟩ : ∃ x, l[k]? = some x := ⟨l[k]'(by omega), by simp⟩
      obtain ⟨r, hr⟩ := ent_drop rest hx
      refine LI.z rfl rfl (fun w hz hs => Val.move rfl) ?_
      first | (refine LI.z rfl rfl (fun w hz hs => Val.indexAddrN rfl rfl Try.underlying86 Try.sizeOf80 (by omega)) ?_) | (refine LI.z rfl rfl (fun w hz hs => Val.indexAddr rfl rfl Try.underlying86 Try.sizeOf80 (by omega) (by omega)) ?_)
      refine LI.z rfl rfl (fun w hz hs => Val.loadA (cs := enC x) rfl Try.isAgg80 (by repeat (first | exact .here | refine .there ?_)) hr (by exact Try.sizeOf80)) ?_
      refine LI.y (Hy := fun c w => match c with | true => J ((enL l).take (k + 1)) w ∧ Sat (itG cb b (some (g, rest, cap)) l) w | false => Jx ((enL l).take (k + 1)) w ∧ Sat [] w) rfl rfl rfl rfl ?_ ?_
      · rintro w ⟨hj, hs⟩
        obtain ⟨fn, tm, ac, bd, hr, hR⟩ := hY _ ((k : Int), x) w hj (by simp [enL_length]; omega)
        refine ⟨fn, tm, ac, bd, hr, hR.mono ?_⟩
        rintro e w' (⟨rfl, hj', hkp⟩ | ⟨rfl, hj'⟩)
        · rw [takeL (enL_at hx)] at hj'
          exact ⟨true, rfl, hj', hs.kept hkp (fun _ h => h)⟩
        · rw [takeL (enL_at hx)] at hj'
          exact ⟨false, rfl, hj', V.sat_nil _⟩
      intro c
      refine LI.split (d := 18) rfl (fun h18 => ?_) (fun h18 => ?_)
      · replace h18 := bT h18
        subst h18
        refine LI.z rfl rfl (fun w hz hs => Val.not rfl) ?_
        refine LI.nil ?_
        refine PI.seq ?_
        refine CI.cond_f rfl ?_
        refine CI.skip ?_
        refine PI.in_normal ?_
        refine PI.seq ?_
        refine CI.region ?_
        refine LI.z rfl rfl (fun w hz hs => Val.ar rfl rfl rfl (IntWalk.i64_in _ (by omega))) ?_
        refine LI.z rfl rfl (fun w hz hs => Val.move rfl) ?_
        refine LI.nil ?_
        refine PI.round ⟨k + 1, by omega⟩ (by simp only; omega) (by repeat (first | exact trivial | refine ⟨rfl, ?_⟩)) (fun w h => h)
      · replace h18 := bF h18
        subst h18
        refine LI.z rfl rfl (fun w hz hs => Val.not rfl) ?_
        refine LI.nil ?_
        refine PI.seq ?_
        refine CI.cond_t rfl ?_
        refine CI.ret ?_
        refine PI.in_ret ?_
        refine PI.then_ret ?_
        refine PI.then_ret ?_
        refine PI.in_ret ?_
        refine PI.ret0 rfl ?_
        rintro w' ⟨hj, _⟩; exact ⟨⟨_, rfl⟩, .inr ⟨_, List.take_prefix _ _, hj⟩⟩
    · replace h7 := bF h7
      refine CI.exit ?_
      refine PI.then_exit ?_
      refine PI.then_exit ?_
      refine PI.in_here ?_
      refine PI.end0 rfl ?_
      rintro w' ⟨hj, _⟩; refine ⟨⟨_, rfl⟩, .inl ⟨_, rfl, ?_⟩⟩
      obtain rfl : k = l.length := by omega
      rwa [List.take_of_length_le (by simp [enL_length])] at hj
end Go.Proofs.Ytgeblajdjdcghaa
