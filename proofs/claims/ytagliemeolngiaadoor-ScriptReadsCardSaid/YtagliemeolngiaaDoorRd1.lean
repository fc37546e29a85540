import Derived.Test.YtagliemeolngiaaDoorScZ
import Derived.Test.YtagliemeolngiaaDoorScY
import Derived.Lib.Hide
/- The document's split and number. -/
namespace Go.Proofs.YtagliemeolngiaaDoor
open Go Go.RowKit V
set_option linter.unusedVariables false
set_option maxRecDepth 100000
open V (str byC ownV ownG ownS ownOk)
theorem spl_pre (c : UInt8) : ∀ (u : List UInt8), (∀ x ∈ u, x ≠ c) → spl c u = [u] ∧ ∀ v, spl c (u ++ c :: v) = u :: spl c v
  | [], _ => ⟨rfl, fun v => by simp [spl]⟩
  | x :: r, h => by
    obtain ⟨h1, h2⟩ := spl_pre c r (fun y hy => h y (by simp [hy]))
    have hx : x ≠ c := h x (by simp)
    refine ⟨by simp [spl, hx, h1], fun v => by simp [spl, hx, h2 v]⟩
/-- A text, split so far. -/
def SI (c : UInt8) (s : List UInt8) (a i : Nat) (L : List (List UInt8)) : Prop := (i ≤ s.length ∧ a ≤ i ∧ (∀ j, a ≤ j → j < i → s[j]? ≠ some c) ∧ spl c s = L ++ spl c (s.drop a)) ∨ (i = s.length + 1 ∧ L = spl c s)
theorem SI.cnt {c : UInt8} {s : List UInt8} {a i : Nat} {L : List (List UInt8)} (h : SI c s a i L) : L.length ≤ s.length + 1 := by
  have h1 := spl_len c s
  rcases h with ⟨_, _, _, h⟩ | ⟨_, h⟩
  · rw [h] at h1; simp at h1; omega
  · rw [h]; exact h1
theorem SI.keep {c d : UInt8} {s : List UInt8} {a i : Nat} {L : List (List UInt8)} (h : SI c s a i L) (hd : s[i]? = some d) (hc : d ≠ c) : SI c s a (i + 1) L := by
  have hi := (List.getElem?_eq_some_iff.1 hd).1
  rcases h with ⟨h1, h2, h3, h4⟩ | ⟨h1, _⟩
  · refine .inl ⟨by omega, by omega, fun j h5 h6 => ?_, h4⟩
    by_cases hj : j = i
    · subst hj; rw [hd]; intro e; exact hc (Option.some.inj e)
    · exact h3 j h5 (by omega)
  · omega
theorem SI.mid {c : UInt8} {s : List UInt8} {a i : Nat} (h3 : ∀ j, a ≤ j → j < i → s[j]? ≠ some c) : ∀ x ∈ (s.drop a).take (i - a), x ≠ c := fun x hx e => by
  subst e
  obtain ⟨j, hj, he⟩ := List.getElem_of_mem hx
  have hj2 : j < i - a := by rw [List.length_take] at hj; omega
  refine h3 (a + j) (by omega) (by omega) ?_
  rw [← List.getElem?_drop, ← List.getElem?_take_of_lt hj2, List.getElem?_eq_getElem hj, he]
theorem SI.cut {c : UInt8} {s : List UInt8} {a i : Nat} {L : List (List UInt8)} (h : SI c s a i L) (hd : s[i]? = some c) : SI c s (i + 1) (i + 1) (L ++ [(s.drop a).take (i - a)]) := by
  have hi := (List.getElem?_eq_some_iff.1 hd).1
  rcases h with ⟨h1, h2, h3, h4⟩ | ⟨h1, _⟩
  · refine .inl ⟨by omega, Nat.le_refl _, fun j h5 h6 => by omega, ?_⟩
    have e : s.drop a = (s.drop a).take (i - a) ++ c :: s.drop (i + 1) := by
      conv => lhs; rw [← List.take_append_drop (i - a) (s.drop a)]
      rw [List.drop_drop, show a + (i - a) = i by omega, drop_at hd]
    rw [h4, List.append_assoc]
    congr 1
    conv => lhs; rw [e]
    rw [(spl_pre c _ (SI.mid h3)).2]; rfl
  · omega
theorem SI.fin {c : UInt8} {s : List UInt8} {a i : Nat} {L : List (List UInt8)} (h : SI c s a i L) (hi : i = s.length) : SI c s (i + 1) (i + 1) (L ++ [(s.drop a).take (i - a)]) := by
  rcases h with ⟨h1, h2, h3, h4⟩ | ⟨h1, _⟩
  · refine .inr ⟨by omega, ?_⟩
    have e : (s.drop a).take (i - a) = s.drop a := List.take_of_length_le (by rw [List.length_drop]; omega)
    have := SI.mid h3
    rw [e] at this ⊢
    rw [h4, (spl_pre c _ this).1]
  · omega
theorem SI.last {c : UInt8} {s : List UInt8} {a i : Nat} {L : List (List UInt8)} (h : SI c s a i L) (hi : s.length < i) : L = spl c s := by
  rcases h with ⟨h1, _⟩ | ⟨_, h2⟩
  · omega
  · exact h2
theorem rsplit_c (s : List UInt8) (c : UInt8) (hs : s.length ≤ 70000) (w : World) : Calls Tryd.prog 50 [str s, .int .u8 (c.toNat : Nat)].toArray w fun e w' => ∃ o : V.OwnO, ownOk 1 (spl c s).length (stC (spl c s)) o ∧ e = .returned (ownV (spl c s).length o) ∧ Hp ⟨w, []⟩ [ownG 9 (stC (spl c s)) o] w' := by
  refine V.calls [] Tryd.func50 rfl Tryd.ntmps50 (Nat.le_of_ble_eq_true rfl) (V.sat_nil _) ?_
  refine CW.seq ?_
  refine CW.region ?_
  refine LW.v rfl rfl (Val.assign rfl) ?_
  refine LW.nil ?_
  refine PQ.seq ?_
  refine CW.seq ?_
  refine CW.region ?_
  refine LW.v rfl rfl (Val.assign rfl) ?_
  refine LW.nil ?_
  refine PQ.seq ?_
  refine CW.seq ?_
  refine CW.region ?_
  refine LW.v rfl rfl (Val.assign rfl) ?_
  refine LW.nil ?_
  refine PQ.seq ?_
  refine CW.seq ?_
  refine CW.seq ?_
  refine CW.region ?_
  refine LW.v rfl rfl (Val.assign rfl) ?_
  refine LW.nil ?_
  refine PQ.seq ?_
  refine CW.block ?_
  refine V.CW.perm (sg' := [ownG 9 (stC ([] : List (List UInt8))) none]) ?_ (.refl _)
  refine CW.loop (γ := Nat × Nat × List (List UInt8) × V.OwnO) (fun k => [(0, str s), (1, .int .u8 (c.toNat : Nat)), (5, ownV k.2.2.1.length k.2.2.2), (6, .int .i64 (k.1 : Nat)), (7, .int .i64 (k.2.1 : Nat))]) (fun k => [ownG 9 (stC k.2.2.1) k.2.2.2]) (fun k => SI c s k.1 k.2.1 k.2.2.1 ∧ ownOk 1 k.2.2.1.length (stC k.2.2.1) k.2.2.2) (fun k => s.length + 1 - k.2.1) ((0, 0, [], none)) ⟨.inl ⟨Nat.zero_le _, Nat.le_refl _, fun j _ h2 => absurd h2 (Nat.not_lt_zero j), rfl⟩, ⟨rfl, rfl⟩⟩ (by repeat (first | exact trivial | refine ⟨rfl, ?_⟩)) (by repeat (first | exact .nil | apply Pick.cons | exact .here | apply Ext.there)) ?_
  intro k
  rintro ⟨hSI, hk2⟩
  refine CW.seq ?_
  refine CW.seq ?_
  refine CW.region ?_
  refine LW.v rfl rfl (Val.move rfl) ?_
  refine LW.v rfl rfl (Val.move rfl) ?_
  refine LW.v rfl rfl (Val.lenStr rfl Tryd.underlying9) ?_
  refine LW.v rfl rfl (Val.cmp rfl rfl rfl) ?_
  refine LW.nil ?_
  refine PQ.seq ?_
  refine CW.cond rfl (fun h11 => ?_) (fun h11 => ?_)
  · replace h11 := bT h11
    have hcn := hSI.cnt
    have hle : k.1 ≤ k.2.1 := by
      rcases hSI with ⟨_, h8, _⟩ | ⟨h8, _⟩
      · exact h8
      · omega
    refine CW.skip ?_
    refine PQ.seq ?_
    refine CW.seq ?_
    refine CW.block ?_
    refine CW.seq ?_
    refine CW.region ?_
    refine LW.v rfl rfl (Val.move rfl) ?_
    refine LW.v rfl rfl (Val.move rfl) ?_
    refine LW.v rfl rfl (Val.lenStr rfl Tryd.underlying9) ?_
    refine LW.v rfl rfl (Val.cmp rfl rfl rfl) ?_
    refine LW.v rfl rfl (Val.move rfl) ?_
    refine LW.split (d := 18) rfl (fun h18 => ?_) (fun h18 => ?_)
    · replace h18 := bT h18
      refine LW.p rfl rfl ?_
      refine LW.p rfl rfl ?_
      refine LW.p rfl rfl ?_
      refine LW.p rfl rfl ?_
      refine LW.p rfl rfl ?_
      refine LW.v rfl rfl (Val.pick_t rfl rfl) ?_
      refine LW.nil ?_
      refine PQ.seq ?_
      refine CW.cond_t rfl ?_
      refine CW.seq ?_
      refine CW.region ?_
      refine LW.v rfl rfl (Val.move rfl) ?_
      refine LW.v rfl rfl (Val.move rfl) ?_
      refine LW.v rfl rfl (Val.move rfl) ?_
      refine LW.v rfl rfl (Val.move rfl) ?_
      refine LW.v rfl rfl (Val.sliceStr (l := s) k.1 k.2.1 rfl Tryd.underlying9 ⟨_, rfl⟩ ⟨_, rfl⟩ hle (by omega)) ?_
      refine LW.e rfl rfl (Eff.buildSlice (rfl) [_] Tryd.underlying73 Tryd.sizeOf9 (by exact Tryd.zeroValue9) rfl rfl rfl rfl (by rfl)) ?_
      intro b30 _
      refine LW.e rfl rfl (Eff.appendAny (stC [((s.drop k.1).take (k.2.1 - k.1))]) (sz := 1) (bytes := 16) (z := .string ⟨#[]⟩) (xs := stC k.2.2.1) (m0 := k.2.2.1.length) (o := k.2.2.2) (m := 1) (pk := [ownG 9 (stC k.2.2.1) k.2.2.2]) rfl rfl Tryd.underlying73 (by kernel_rfl) rfl (by omega) (by repeat (first | exact .nil | apply Pick.cons | exact .here | apply Ext.there)) (by simp) hk2 rfl (fun hm0 => ⟨b30, 0, rfl, fun w hw => V.range_of_block (o := 0) (cs := stC [((s.drop k.1).take (k.2.1 - k.1))]) (r := []) (hw.own _ (show InS (b30, .cells (stC [((s.drop k.1).take (k.2.1 - k.1))]).toArray 9 (0, 0)) _ from (by repeat (first | exact .here | exact .inner .here | exact .inner (.inner .here) | refine .there ?_))).mem) rfl⟩) (stC_one _) (by omega) (by omega)) ?_
      intro o9 ho9
      refine LW.v rfl rfl (Val.assign rfl) ?_
      refine LW.nil ?_
      refine PQ.seq ?_
      refine CW.region ?_
      refine LW.v rfl rfl (Val.move rfl) ?_
      refine LW.v rfl rfl (Val.ar rfl rfl rfl (IntWalk.i64_in _ (by omega))) ?_
      refine LW.v rfl rfl (Val.assign rfl) ?_
      refine LW.nil ?_
      refine PQ.in_normal ?_
      refine PQ.seq ?_
      refine CW.region ?_
      refine LW.v rfl rfl (Val.move rfl) ?_
      refine LW.v rfl rfl (Val.ar rfl rfl rfl (IntWalk.i64_in _ (by omega))) ?_
      refine LW.v rfl rfl (Val.assign rfl) ?_
      refine LW.nil ?_
      have hLn : (k.2.2.1 ++ [((s.drop k.1).take (k.2.1 - k.1))]).length = k.2.2.1.length + 1 := by simp
      have hLf : stC (k.2.2.1 ++ [((s.drop k.1).take (k.2.1 - k.1))]) = stC k.2.2.1 ++ stC [((s.drop k.1).take (k.2.1 - k.1))] := by simp [stC]
      rw [← hLf]
      refine PQ.round ((k.2.1 + 1, k.2.1 + 1, k.2.2.1 ++ [((s.drop k.1).take (k.2.1 - k.1))], o9)) ⟨hSI.fin (by omega), by rw [hLn, hLf]; exact ho9⟩ (by simp only; omega) (by simp only; rw [hLn]; exact ⟨rfl, rfl, rfl, rfl, rfl, trivial⟩) (by repeat (first | exact .nil | apply Pick.cons | exact .here | apply Ext.there))
    · replace h18 := bF h18
      obtain ⟨x, hx⟩ : ∃ x, s[k.2.1]? = some x := ⟨s[k.2.1]'(by omega), by simp⟩
      refine LW.v rfl rfl (Val.move rfl) ?_
      refine LW.v rfl rfl (Val.move rfl) ?_
      refine LW.v rfl rfl (Val.indexStr (l := s) rfl rfl Tryd.underlying9 hx) ?_
      refine LW.v rfl rfl (Val.move rfl) ?_
      refine LW.v rfl rfl (Val.cmp rfl rfl rfl) ?_
      refine LW.v rfl rfl (Val.pick_f rfl rfl) ?_
      refine LW.nil ?_
      refine PQ.seq ?_
      refine CW.cond rfl (fun h24 => ?_) (fun h24 => ?_)
      · replace h24 := bT h24
        have h24 : x = c := by first | exact u8_inj h24 | (apply u8_inj; omega)
        refine CW.seq ?_
        refine CW.region ?_
        refine LW.v rfl rfl (Val.move rfl) ?_
        refine LW.v rfl rfl (Val.move rfl) ?_
        refine LW.v rfl rfl (Val.move rfl) ?_
        refine LW.v rfl rfl (Val.move rfl) ?_
        refine LW.v rfl rfl (Val.sliceStr (l := s) k.1 k.2.1 rfl Tryd.underlying9 ⟨_, rfl⟩ ⟨_, rfl⟩ hle (by omega)) ?_
        refine LW.e rfl rfl (Eff.buildSlice (rfl) [_] Tryd.underlying73 Tryd.sizeOf9 (by exact Tryd.zeroValue9) rfl rfl rfl rfl (by rfl)) ?_
        intro b30 _
        refine LW.e rfl rfl (Eff.appendAny (stC [((s.drop k.1).take (k.2.1 - k.1))]) (sz := 1) (bytes := 16) (z := .string ⟨#[]⟩) (xs := stC k.2.2.1) (m0 := k.2.2.1.length) (o := k.2.2.2) (m := 1) (pk := [ownG 9 (stC k.2.2.1) k.2.2.2]) rfl rfl Tryd.underlying73 (by kernel_rfl) rfl (by omega) (by repeat (first | exact .nil | apply Pick.cons | exact .here | apply Ext.there)) (by simp) hk2 rfl (fun hm0 => ⟨b30, 0, rfl, fun w hw => V.range_of_block (o := 0) (cs := stC [((s.drop k.1).take (k.2.1 - k.1))]) (r := []) (hw.own _ (show InS (b30, .cells (stC [((s.drop k.1).take (k.2.1 - k.1))]).toArray 9 (0, 0)) _ from (by repeat (first | exact .here | exact .inner .here | exact .inner (.inner .here) | refine .there ?_))).mem) rfl⟩) (stC_one _) (by omega) (by omega)) ?_
        intro o9 ho9
        refine LW.v rfl rfl (Val.assign rfl) ?_
        refine LW.nil ?_
        refine PQ.seq ?_
        refine CW.region ?_
        refine LW.v rfl rfl (Val.move rfl) ?_
        refine LW.v rfl rfl (Val.ar rfl rfl rfl (IntWalk.i64_in _ (by omega))) ?_
        refine LW.v rfl rfl (Val.assign rfl) ?_
        refine LW.nil ?_
        refine PQ.in_normal ?_
        refine PQ.seq ?_
        refine CW.region ?_
        refine LW.v rfl rfl (Val.move rfl) ?_
        refine LW.v rfl rfl (Val.ar rfl rfl rfl (IntWalk.i64_in _ (by omega))) ?_
        refine LW.v rfl rfl (Val.assign rfl) ?_
        refine LW.nil ?_
        have hLn : (k.2.2.1 ++ [((s.drop k.1).take (k.2.1 - k.1))]).length = k.2.2.1.length + 1 := by simp
        have hLf : stC (k.2.2.1 ++ [((s.drop k.1).take (k.2.1 - k.1))]) = stC k.2.2.1 ++ stC [((s.drop k.1).take (k.2.1 - k.1))] := by simp [stC]
        rw [← hLf]
        refine PQ.round ((k.2.1 + 1, k.2.1 + 1, k.2.2.1 ++ [((s.drop k.1).take (k.2.1 - k.1))], o9)) ⟨hSI.cut (by rw [hx, h24]), by rw [hLn, hLf]; exact ho9⟩ (by simp only; omega) (by simp only; rw [hLn]; exact ⟨rfl, rfl, rfl, rfl, rfl, trivial⟩) (by repeat (first | exact .nil | apply Pick.cons | exact .here | apply Ext.there))
      · replace h24 := bF h24
        have h24 : x ≠ c := by intro e; subst e; exact h24 rfl
        refine CW.skip ?_
        refine PQ.in_normal ?_
        refine PQ.seq ?_
        refine CW.region ?_
        refine LW.v rfl rfl (Val.move rfl) ?_
        refine LW.v rfl rfl (Val.ar rfl rfl rfl (IntWalk.i64_in _ (by omega))) ?_
        refine LW.v rfl rfl (Val.assign rfl) ?_
        refine LW.nil ?_
        refine PQ.round ((k.1, k.2.1 + 1, k.2.2.1, k.2.2.2)) ⟨hSI.keep hx h24, hk2⟩ (by simp only; omega) (by repeat (first | exact trivial | refine ⟨rfl, ?_⟩)) (by repeat (first | exact .nil | apply Pick.cons | exact .here | apply Ext.there))
  · replace h11 := bF h11
    refine CW.exit ?_
    refine PQ.then_exit ?_
    refine PQ.then_exit ?_
    refine PQ.in_here ?_
    refine PQ.seq ?_
    refine CW.seq ?_
    refine CW.region ?_
    refine LW.v rfl rfl (Val.move rfl) ?_
    refine LW.v rfl rfl (Val.assign rfl) ?_
    refine LW.nil ?_
    refine PQ.seq ?_
    refine CW.ret ?_
    refine PQ.ret1 rfl rfl ?_
    have hL := hSI.last (by omega)
    intro w' hw
    rw [← hL]
    exact ⟨k.2.2.2, hk2, rfl, hw⟩
/-- The number that digits tell. -/
def digV (l : List UInt8) : Nat := l.foldl (fun n c => n * 10 + (c.toNat - 48)) 0
def isD (c : UInt8) : Prop := 48 ≤ c.toNat ∧ c.toNat ≤ 57
theorem digV_snoc (l : List UInt8) (c : UInt8) : digV (l ++ [c]) = digV l * 10 + (c.toNat - 48) := by simp [digV]
theorem digV_lt : ∀ (n : Nat) (l : List UInt8), l.length = n → (∀ c ∈ l, isD c) → digV l < 10 ^ n
  | 0, l, h, _ => by
    obtain rfl := List.length_eq_zero_iff.1 h
    decide
  | n + 1, l, h, hd => by
    rcases List.eq_nil_or_concat l with rfl | ⟨u, c, rfl⟩
    · simp at h
    · rw [List.concat_eq_append] at hd h ⊢
      have h1 := digV_lt n u (by simpa using h) (fun x hx => hd x (by simp [hx]))
      have h2 := hd c (by simp)
      unfold isD at h2
      rw [digV_snoc, Nat.pow_succ]; omega
theorem digV_pos : ∀ (n : Nat) (x : UInt8) (l : List UInt8), l.length = n → x.toNat ≠ 48 → isD x → 1 ≤ digV (x :: l)
  | 0, x, l, h, hx, hd => by
    obtain rfl := List.length_eq_zero_iff.1 h
    unfold isD at hd
    simp [digV]; omega
  | n + 1, x, l, h, hx, hd => by
    rcases List.eq_nil_or_concat l with rfl | ⟨u, c, rfl⟩
    · simp at h
    · rw [List.concat_eq_append] at h ⊢
      have := digV_pos n x u (by simpa using h) hx hd
      rw [show x :: (u ++ [c]) = (x :: u) ++ [c] from rfl, digV_snoc]; omega
theorem dig_of {c : UInt8} (h : isD c) : UInt8.ofNat (48 + (c.toNat - 48)) = c := by
  unfold isD at h
  rw [show 48 + (c.toNat - 48) = c.toNat by omega]
  simp
theorem decN_more {n : Nat} (h : ¬ n < 10) : decN n = decN (n / 10) ++ [UInt8.ofNat (48 + n % 10)] := by rw [decN_ge h, decN_lt (by omega : n % 10 < 10)]
theorem decN_digV : ∀ (n : Nat) (l : List UInt8), l.length = n + 1 → (∀ c ∈ l, isD c) → (n = 0 ∨ ∀ c, l[0]? = some c → c.toNat ≠ 48) → decN (digV l) = l
  | 0, l, h, hd, _ => by
    obtain ⟨c, rfl⟩ := List.length_eq_one_iff.1 h
    have h2 := hd c (by simp)
    have hv : digV [c] = c.toNat - 48 := by simp [digV]
    unfold isD at h2
    rw [hv, decN_lt (by omega), dig_of (by unfold isD; omega)]
  | n + 1, l, h, hd, h0 => by
    rcases List.eq_nil_or_concat l with rfl | ⟨u, c, rfl⟩
    · simp at h
    · rw [List.concat_eq_append] at h hd h0 ⊢
      have hl : u.length = n + 1 := by simpa using h
      have h2 := hd c (by simp)
      rcases h0 with h0 | h0
      · omega
      have h3 : ∀ d, u[0]? = some d → d.toNat ≠ 48 := fun d h8 => h0 d (by rw [List.getElem?_append_left (by omega)]; exact h8)
      have ih := decN_digV n u hl (fun x hx => hd x (by simp [hx])) (.inr h3)
      cases u with
      | nil => simp at hl
      | cons x r =>
        have hp := digV_pos _ x r rfl (h3 x rfl) (hd x (by simp))
        unfold isD at h2
        rw [digV_snoc, decN_more (by omega), show (digV (x :: r) * 10 + (c.toNat - 48)) / 10 = digV (x :: r) by omega, ih, show (digV (x :: r) * 10 + (c.toNat - 48)) % 10 = c.toNat - 48 by omega, dig_of (by unfold isD; omega)]
theorem decN_isD : ∀ (k n : Nat), n ≤ k → ∀ c ∈ decN n, isD c
  | 0, n, h, c, hc => by
    obtain rfl : n = 0 := by omega
    rw [decN_lt (by omega)] at hc
    simp at hc; subst hc; unfold isD; decide
  | k + 1, n, h, c, hc => by
    by_cases hn : n < 10
    · rw [decN_lt hn] at hc
      simp only [List.mem_singleton] at hc; subst hc; unfold isD
      rw [UInt8.toNat_ofNat']; omega
    · rw [decN_more (by omega)] at hc
      rcases List.mem_append.1 hc with hc | hc
      · exact decN_isD k (n / 10) (by omega) c hc
      · simp only [List.mem_singleton] at hc; subst hc; unfold isD
        rw [UInt8.toNat_ofNat']; omega
theorem numF_yes {u : List UInt8} (h1 : 1 ≤ u.length) (h2 : u.length ≤ 9) (h3 : ∀ c ∈ u, isD c) (h4 : u.length = 1 ∨ ∀ c, u[0]? = some c → c.toNat ≠ 48) : numF u = some (digV u) := by
  have e := decN_digV (u.length - 1) u (by omega) h3 (by rcases h4 with h4 | h4; exact .inl (by omega); exact .inr h4)
  have hlt := digV_lt _ u rfl h3
  have hle : 10 ^ u.length ≤ 10 ^ 9 := Nat.pow_le_pow_right (by omega) h2
  have := numF_decN (n := digV u) (by omega)
  rw [e] at this
  exact this
theorem numF_no {u : List UInt8} (h : u.length < 1 ∨ 9 < u.length ∨ (∃ c ∈ u, ¬ isD c) ∨ (1 < u.length ∧ ∃ r, u = 48 :: r)) : numF u = none := by
  cases hn : numF u with
  | none => rfl
  | some n =>
    exfalso
    obtain ⟨h1, h2⟩ := numF_some hn
    have h3 : (decN n).length ≤ 9 := decN_len 8 n (by omega)
    have h4 : decN n ≠ [] := decN_ne n
    have h5 := List.length_pos_iff.2 h4
    rw [← h1] at h3 h5
    rcases h with h | h | ⟨c, hc, h⟩ | ⟨h, r, rfl⟩
    · omega
    · omega
    · rw [h1] at hc; exact h (decN_isD n n (Nat.le_refl _) c hc)
    · have : r ≠ [] := by intro e; subst e; simp at h
      rw [numF_zeros this] at hn; cases hn
theorem rnumber_c (u : List UInt8) (w : World) : Calls Tryd.prog 62 [str u].toArray w fun e w' => e = .returned (.tuple #[.int .i64 (((numF u).getD 0 : Nat) : Int), .bool (numF u).isSome]) ∧ Below w.heap.size w w' := by
  refine V.calls [] Tryd.func62 rfl Tryd.ntmps62 (Nat.le_of_ble_eq_true rfl) (V.sat_nil _) ?_
  refine CW.seq ?_
  refine CW.region ?_
  refine LW.v rfl rfl (Val.assign rfl) ?_
  refine LW.v rfl rfl (Val.assign rfl) ?_
  refine LW.nil ?_
  refine PQ.seq ?_
  refine CW.seq ?_
  refine CW.seq ?_
  refine CW.region ?_
  refine LW.v rfl rfl (Val.move rfl) ?_
  refine LW.v rfl rfl (Val.lenStr rfl Tryd.underlying9) ?_
  refine LW.v rfl rfl (Val.cmp rfl rfl rfl) ?_
  refine LW.v rfl rfl (Val.move rfl) ?_
  refine LW.split (d := 9) rfl (fun h9 => ?_) (fun h9 => ?_)
  · replace h9 := bT h9
    refine LW.p rfl rfl ?_
    refine LW.p rfl rfl ?_
    refine LW.p rfl rfl ?_
    refine LW.v rfl rfl (Val.pick_t rfl rfl) ?_
    refine LW.v rfl rfl (Val.move rfl) ?_
    refine LW.p rfl rfl ?_
    refine LW.p rfl rfl ?_
    refine LW.p rfl rfl ?_
    refine LW.p rfl rfl ?_
    refine LW.p rfl rfl ?_
    refine LW.p rfl rfl ?_
    refine LW.p rfl rfl ?_
    refine LW.p rfl rfl ?_
    refine LW.v rfl rfl (Val.pick_t rfl rfl) ?_
    refine LW.nil ?_
    refine PQ.seq ?_
    refine CW.cond_t rfl ?_
    refine CW.seq ?_
    refine CW.region ?_
    refine LW.v rfl rfl (Val.assign rfl) ?_
    refine LW.v rfl rfl (Val.assign rfl) ?_
    refine LW.nil ?_
    refine PQ.seq ?_
    refine CW.ret ?_
    refine PQ.then_ret ?_
    refine PQ.ret2 rfl rfl rfl ?_
    intro w' hw; exact ⟨by rw [numF_no (.inl (by omega))]; rfl, hw.below⟩
  · replace h9 := bF h9
    refine LW.v rfl rfl (Val.move rfl) ?_
    refine LW.v rfl rfl (Val.lenStr rfl Tryd.underlying9) ?_
    refine LW.v rfl rfl (Val.cmp rfl rfl rfl) ?_
    refine LW.v rfl rfl (Val.pick_f rfl rfl) ?_
    refine LW.v rfl rfl (Val.move rfl) ?_
    refine LW.split (d := 14) rfl (fun h14 => ?_) (fun h14 => ?_)
    · replace h14 := bT h14
      refine LW.p rfl rfl ?_
      refine LW.p rfl rfl ?_
      refine LW.p rfl rfl ?_
      refine LW.p rfl rfl ?_
      refine LW.p rfl rfl ?_
      refine LW.p rfl rfl ?_
      refine LW.p rfl rfl ?_
      refine LW.p rfl rfl ?_
      refine LW.v rfl rfl (Val.pick_t rfl rfl) ?_
      refine LW.nil ?_
      refine PQ.seq ?_
      refine CW.cond_t rfl ?_
      refine CW.seq ?_
      refine CW.region ?_
      refine LW.v rfl rfl (Val.assign rfl) ?_
      refine LW.v rfl rfl (Val.assign rfl) ?_
      refine LW.nil ?_
      refine PQ.seq ?_
      refine CW.ret ?_
      refine PQ.then_ret ?_
      refine PQ.ret2 rfl rfl rfl ?_
      intro w' hw; exact ⟨by rw [numF_no (.inr (.inl (by omega)))]; rfl, hw.below⟩
    · replace h14 := bF h14
      obtain ⟨x0, hx0⟩ : ∃ x, u[0]? = some x := ⟨u[0]'(by omega), by simp⟩
      have hx48 : ((x0.toNat : Nat) : Int) = 48 → ∃ r, u = 48 :: r := fun h8 => by
        have := u8_inj (b := 48) h8
        subst this
        cases u with
        | nil => simp at hx0
        | cons a r => simp at hx0; subst hx0; exact ⟨r, rfl⟩
      refine LW.v rfl rfl (Val.move rfl) ?_
      refine LW.v rfl rfl (Val.indexStr (l := u) rfl rfl Tryd.underlying9 hx0) ?_
      refine LW.v rfl rfl (Val.cmp rfl rfl rfl) ?_
      refine LW.v rfl rfl (Val.move rfl) ?_
      refine LW.split (d := 18) rfl (fun h18 => ?_) (fun h18 => ?_)
      · replace h18 := bT h18
        refine LW.v rfl rfl (Val.move rfl) ?_
        refine LW.v rfl rfl (Val.lenStr rfl Tryd.underlying9) ?_
        refine LW.v rfl rfl (Val.cmp rfl rfl rfl) ?_
        refine LW.v rfl rfl (Val.pick_t rfl rfl) ?_
        refine LW.v rfl rfl (Val.pick_f rfl rfl) ?_
        refine LW.nil ?_
        refine PQ.seq ?_
        refine CW.cond rfl (fun h23 => ?_) (fun h23 => ?_)
        · replace h23 := bT h23
          refine CW.seq ?_
          refine CW.region ?_
          refine LW.v rfl rfl (Val.assign rfl) ?_
          refine LW.v rfl rfl (Val.assign rfl) ?_
          refine LW.nil ?_
          refine PQ.seq ?_
          refine CW.ret ?_
          refine PQ.then_ret ?_
          refine PQ.ret2 rfl rfl rfl ?_
          have h1 := hx48 (by omega)
          intro w' hw; exact ⟨by rw [numF_no (.inr (.inr (.inr ⟨by omega, h1⟩)))]; rfl, hw.below⟩
        · replace h23 := bF h23
          refine CW.skip ?_
          refine PQ.seq ?_
          refine CW.seq ?_
          refine CW.region ?_
          refine LW.v rfl rfl (Val.assign rfl) ?_
          refine LW.nil ?_
          refine PQ.seq ?_
          refine CW.seq ?_
          refine CW.seq ?_
          refine CW.region ?_
          refine LW.v rfl rfl (Val.assign rfl) ?_
          refine LW.nil ?_
          refine PQ.seq ?_
          refine CW.block ?_
          have hz : u.length = 1 ∨ ∀ c, u[0]? = some c → c.toNat ≠ 48 := by
            first
            | exact .inr fun c hc => by rw [hx0] at hc; cases hc; omega
            | exact .inl (by omega)
            | exact .inr fun c hc => by rw [hx0] at hc; cases hc; exact fun e => h18 (by omega)
          refine CW.loop (γ := Nat × Unit) (fun k => [(0, str u), (4, .int .i64 (digV (u.take k.1) : Nat)), (5, .int .i64 (k.1 : Nat))]) (fun _ => []) (fun k => k.1 ≤ u.length ∧ ∀ i c, i < k.1 → u[i]? = some c → isD c) (fun k => u.length - k.1) ((0, ())) ⟨Nat.zero_le _, fun i c h => absurd h (by omega)⟩ (by repeat (first | exact trivial | refine ⟨rfl, ?_⟩)) (by repeat (first | exact .nil | apply Pick.cons | exact .here | apply Ext.there)) ?_
          intro k
          rintro ⟨hk1, hkD⟩
          refine CW.seq ?_
          refine CW.seq ?_
          refine CW.region ?_
          refine LW.v rfl rfl (Val.move rfl) ?_
          refine LW.v rfl rfl (Val.move rfl) ?_
          refine LW.v rfl rfl (Val.lenStr rfl Tryd.underlying9) ?_
          refine LW.v rfl rfl (Val.cmp rfl rfl rfl) ?_
          refine LW.nil ?_
          refine PQ.seq ?_
          refine CW.cond rfl (fun h27 => ?_) (fun h27 => ?_)
          · replace h27 := bT h27
            obtain ⟨c, hc⟩ : ∃ c, u[k.1]? = some c := ⟨u[k.1]'(by omega), by simp⟩
            have hV := digV_lt _ (u.take k.1) rfl (fun c hc => by obtain ⟨i, hi⟩ := List.mem_iff_getElem?.1 hc; have h8 := (List.getElem?_eq_some_iff.1 hi).1; rw [List.length_take] at h8; rw [List.getElem?_take_of_lt (by omega)] at hi; exact hkD i c (by omega) hi)
            have hV2 : 10 ^ (u.take k.1).length ≤ 10 ^ 9 := Nat.pow_le_pow_right (by omega) (by rw [List.length_take]; omega)
            refine CW.skip ?_
            refine PQ.seq ?_
            refine CW.seq ?_
            refine CW.block ?_
            refine CW.seq ?_
            refine CW.seq ?_
            refine CW.region ?_
            refine LW.v rfl rfl (Val.move rfl) ?_
            refine LW.v rfl rfl (Val.move rfl) ?_
            refine LW.v rfl rfl (Val.indexStr (l := u) rfl rfl Tryd.underlying9 hc) ?_
            refine LW.v rfl rfl (Val.cmp rfl rfl rfl) ?_
            refine LW.v rfl rfl (Val.move rfl) ?_
            refine LW.split (d := 34) rfl (fun h34 => ?_) (fun h34 => ?_)
            · replace h34 := bT h34
              refine LW.p rfl rfl ?_
              refine LW.p rfl rfl ?_
              refine LW.p rfl rfl ?_
              refine LW.p rfl rfl ?_
              refine LW.v rfl rfl (Val.pick_t rfl rfl) ?_
              refine LW.nil ?_
              refine PQ.seq ?_
              refine CW.cond_t rfl ?_
              refine CW.seq ?_
              refine CW.region ?_
              refine LW.v rfl rfl (Val.assign rfl) ?_
              refine LW.v rfl rfl (Val.assign rfl) ?_
              refine LW.nil ?_
              refine PQ.seq ?_
              refine CW.ret ?_
              refine PQ.then_ret ?_
              refine PQ.in_ret ?_
              refine PQ.then_ret ?_
              refine PQ.then_ret ?_
              refine PQ.in_ret ?_
              refine PQ.then_ret ?_
              refine PQ.ret2 rfl rfl rfl ?_
              intro w' hw; exact ⟨by rw [numF_no (.inr (.inr (.inl ⟨c, List.mem_of_getElem? hc, by unfold isD; omega⟩)))]; rfl, hw.below⟩
            · replace h34 := bF h34
              refine LW.v rfl rfl (Val.move rfl) ?_
              refine LW.v rfl rfl (Val.move rfl) ?_
              refine LW.v rfl rfl (Val.indexStr (l := u) rfl rfl Tryd.underlying9 hc) ?_
              refine LW.v rfl rfl (Val.cmp rfl rfl rfl) ?_
              refine LW.v rfl rfl (Val.pick_f rfl rfl) ?_
              refine LW.nil ?_
              refine PQ.seq ?_
              refine CW.cond rfl (fun h39 => ?_) (fun h39 => ?_)
              · replace h39 := bT h39
                refine CW.seq ?_
                refine CW.region ?_
                refine LW.v rfl rfl (Val.assign rfl) ?_
                refine LW.v rfl rfl (Val.assign rfl) ?_
                refine LW.nil ?_
                refine PQ.seq ?_
                refine CW.ret ?_
                refine PQ.then_ret ?_
                refine PQ.in_ret ?_
                refine PQ.then_ret ?_
                refine PQ.then_ret ?_
                refine PQ.in_ret ?_
                refine PQ.then_ret ?_
                refine PQ.ret2 rfl rfl rfl ?_
                intro w' hw; exact ⟨by rw [numF_no (.inr (.inr (.inl ⟨c, List.mem_of_getElem? hc, by unfold isD; omega⟩)))]; rfl, hw.below⟩
              · replace h39 := bF h39
                refine CW.skip ?_
                refine PQ.seq ?_
                refine CW.region ?_
                refine LW.v rfl rfl (Val.move rfl) ?_
                refine LW.v rfl rfl (Val.ar rfl rfl rfl (IntWalk.i64_in _ (by omega))) ?_
                refine LW.v rfl rfl (Val.move rfl) ?_
                refine LW.v rfl rfl (Val.move rfl) ?_
                refine LW.v rfl rfl (Val.indexStr (l := u) rfl rfl Tryd.underlying9 hc) ?_
                refine LW.v rfl rfl (Val.ar rfl rfl rfl (IntWalk.u8_in _ (by omega))) ?_
                refine LW.re 45 (.int .u8 ((c.toNat - 48 : Nat) : Int)) rfl (by first | (congr 1; omega) | (rw [IntWalk.u8_in _ (by omega)]; congr 1; omega)) ?_
                refine LW.v rfl rfl (Val.convI rfl Tryd.underlying5 Tryd.underlying3) ?_
                refine LW.re 46 (.int .i64 ((c.toNat - 48 : Nat) : Int)) rfl (by rw [IntWalk.i64_in _ (by omega)]) ?_
                refine LW.v rfl rfl (Val.ar rfl rfl rfl (IntWalk.i64_in _ (by omega))) ?_
                refine LW.re 47 (.int .i64 ((digV (u.take (k.1 + 1)) : Nat) : Int)) rfl (by rw [List.take_add_one, hc, Option.toList_some, digV_snoc] <;> (congr 1 <;> omega)) ?_
                refine LW.v rfl rfl (Val.assign rfl) ?_
                refine LW.nil ?_
                refine PQ.in_normal ?_
                refine PQ.seq ?_
                refine CW.region ?_
                refine LW.v rfl rfl (Val.move rfl) ?_
                refine LW.v rfl rfl (Val.ar rfl rfl rfl (IntWalk.i64_in _ (by omega))) ?_
                refine LW.v rfl rfl (Val.assign rfl) ?_
                refine LW.nil ?_
                refine PQ.round ((k.1 + 1, ())) ⟨by simp only; omega, fun i d h8 h9 => by
                  by_cases hi : i = k.1
                  · subst hi; rw [hc] at h9; cases h9; unfold isD; omega
                  · exact hkD i d (by simp only at h8; omega) h9⟩ (by simp only; omega) (by repeat (first | exact trivial | refine ⟨rfl, ?_⟩)) (by repeat (first | exact .nil | apply Pick.cons | exact .here | apply Ext.there))
          · replace h27 := bF h27
            refine CW.exit ?_
            refine PQ.then_exit ?_
            refine PQ.then_exit ?_
            refine PQ.in_here ?_
            refine PQ.seq ?_
            refine CW.seq ?_
            refine CW.region ?_
            refine LW.v rfl rfl (Val.move rfl) ?_
            refine LW.v rfl rfl (Val.assign rfl) ?_
            refine LW.v rfl rfl (Val.assign rfl) ?_
            refine LW.nil ?_
            refine PQ.seq ?_
            refine CW.ret ?_
            refine PQ.ret2 rfl rfl rfl ?_
            intro w' hw; exact ⟨by rw [numF_yes (by omega) (by omega) (fun c hc => by obtain ⟨i, hi⟩ := List.mem_iff_getElem?.1 hc; exact hkD i c (by have := (List.getElem?_eq_some_iff.1 hi).1; omega) hi) hz]; rw [show u.take k.1 = u from List.take_of_length_le (by omega)]; rfl, hw.below⟩
      · replace h18 := bF h18
        refine LW.p rfl rfl ?_
        refine LW.p rfl rfl ?_
        refine LW.p rfl rfl ?_
        refine LW.v rfl rfl (Val.pick_f rfl rfl) ?_
        refine LW.v rfl rfl (Val.pick_f rfl rfl) ?_
        refine LW.nil ?_
        refine PQ.seq ?_
        refine CW.cond_f rfl ?_
        refine CW.skip ?_
        refine PQ.seq ?_
        refine CW.seq ?_
        refine CW.region ?_
        refine LW.v rfl rfl (Val.assign rfl) ?_
        refine LW.nil ?_
        refine PQ.seq ?_
        refine CW.seq ?_
        refine CW.seq ?_
        refine CW.region ?_
        refine LW.v rfl rfl (Val.assign rfl) ?_
        refine LW.nil ?_
        refine PQ.seq ?_
        refine CW.block ?_
        have hz : u.length = 1 ∨ ∀ c, u[0]? = some c → c.toNat ≠ 48 := by
          first
          | exact .inr fun c hc => by rw [hx0] at hc; cases hc; omega
          | exact .inl (by omega)
          | exact .inr fun c hc => by rw [hx0] at hc; cases hc; exact fun e => h18 (by omega)
        refine CW.loop (γ := Nat × Unit) (fun k => [(0, str u), (4, .int .i64 (digV (u.take k.1) : Nat)), (5, .int .i64 (k.1 : Nat))]) (fun _ => []) (fun k => k.1 ≤ u.length ∧ ∀ i c, i < k.1 → u[i]? = some c → isD c) (fun k => u.length - k.1) ((0, ())) ⟨Nat.zero_le _, fun i c h => absurd h (by omega)⟩ (by repeat (first | exact trivial | refine ⟨rfl, ?_⟩)) (by repeat (first | exact .nil | apply Pick.cons | exact .here | apply Ext.there)) ?_
        intro k
        rintro ⟨hk1, hkD⟩
        refine CW.seq ?_
        refine CW.seq ?_
        refine CW.region ?_
        refine LW.v rfl rfl (Val.move rfl) ?_
        refine LW.v rfl rfl (Val.move rfl) ?_
        refine LW.v rfl rfl (Val.lenStr rfl Tryd.underlying9) ?_
        refine LW.v rfl rfl (Val.cmp rfl rfl rfl) ?_
        refine LW.nil ?_
        refine PQ.seq ?_
        refine CW.cond rfl (fun h27 => ?_) (fun h27 => ?_)
        · replace h27 := bT h27
          obtain ⟨c, hc⟩ : ∃ c, u[k.1]? = some c := ⟨u[k.1]'(by omega), by simp⟩
          have hV := digV_lt _ (u.take k.1) rfl (fun c hc => by obtain ⟨i, hi⟩ := List.mem_iff_getElem?.1 hc; have h8 := (List.getElem?_eq_some_iff.1 hi).1; rw [List.length_take] at h8; rw [List.getElem?_take_of_lt (by omega)] at hi; exact hkD i c (by omega) hi)
          have hV2 : 10 ^ (u.take k.1).length ≤ 10 ^ 9 := Nat.pow_le_pow_right (by omega) (by rw [List.length_take]; omega)
          refine CW.skip ?_
          refine PQ.seq ?_
          refine CW.seq ?_
          refine CW.block ?_
          refine CW.seq ?_
          refine CW.seq ?_
          refine CW.region ?_
          refine LW.v rfl rfl (Val.move rfl) ?_
          refine LW.v rfl rfl (Val.move rfl) ?_
          refine LW.v rfl rfl (Val.indexStr (l := u) rfl rfl Tryd.underlying9 hc) ?_
          refine LW.v rfl rfl (Val.cmp rfl rfl rfl) ?_
          refine LW.v rfl rfl (Val.move rfl) ?_
          refine LW.split (d := 34) rfl (fun h34 => ?_) (fun h34 => ?_)
          · replace h34 := bT h34
            refine LW.p rfl rfl ?_
            refine LW.p rfl rfl ?_
            refine LW.p rfl rfl ?_
            refine LW.p rfl rfl ?_
            refine LW.v rfl rfl (Val.pick_t rfl rfl) ?_
            refine LW.nil ?_
            refine PQ.seq ?_
            refine CW.cond_t rfl ?_
            refine CW.seq ?_
            refine CW.region ?_
            refine LW.v rfl rfl (Val.assign rfl) ?_
            refine LW.v rfl rfl (Val.assign rfl) ?_
            refine LW.nil ?_
            refine PQ.seq ?_
            refine CW.ret ?_
            refine PQ.then_ret ?_
            refine PQ.in_ret ?_
            refine PQ.then_ret ?_
            refine PQ.then_ret ?_
            refine PQ.in_ret ?_
            refine PQ.then_ret ?_
            refine PQ.ret2 rfl rfl rfl ?_
            intro w' hw; exact ⟨by rw [numF_no (.inr (.inr (.inl ⟨c, List.mem_of_getElem? hc, by unfold isD; omega⟩)))]; rfl, hw.below⟩
          · replace h34 := bF h34
            refine LW.v rfl rfl (Val.move rfl) ?_
            refine LW.v rfl rfl (Val.move rfl) ?_
            refine LW.v rfl rfl (Val.indexStr (l := u) rfl rfl Tryd.underlying9 hc) ?_
            refine LW.v rfl rfl (Val.cmp rfl rfl rfl) ?_
            refine LW.v rfl rfl (Val.pick_f rfl rfl) ?_
            refine LW.nil ?_
            refine PQ.seq ?_
            refine CW.cond rfl (fun h39 => ?_) (fun h39 => ?_)
            · replace h39 := bT h39
              refine CW.seq ?_
              refine CW.region ?_
              refine LW.v rfl rfl (Val.assign rfl) ?_
              refine LW.v rfl rfl (Val.assign rfl) ?_
              refine LW.nil ?_
              refine PQ.seq ?_
              refine CW.ret ?_
              refine PQ.then_ret ?_
              refine PQ.in_ret ?_
              refine PQ.then_ret ?_
              refine PQ.then_ret ?_
              refine PQ.in_ret ?_
              refine PQ.then_ret ?_
              refine PQ.ret2 rfl rfl rfl ?_
              intro w' hw; exact ⟨by rw [numF_no (.inr (.inr (.inl ⟨c, List.mem_of_getElem? hc, by unfold isD; omega⟩)))]; rfl, hw.below⟩
            · replace h39 := bF h39
              refine CW.skip ?_
              refine PQ.seq ?_
              refine CW.region ?_
              refine LW.v rfl rfl (Val.move rfl) ?_
              refine LW.v rfl rfl (Val.ar rfl rfl rfl (IntWalk.i64_in _ (by omega))) ?_
              refine LW.v rfl rfl (Val.move rfl) ?_
              refine LW.v rfl rfl (Val.move rfl) ?_
              refine LW.v rfl rfl (Val.indexStr (l := u) rfl rfl Tryd.underlying9 hc) ?_
              refine LW.v rfl rfl (Val.ar rfl rfl rfl (IntWalk.u8_in _ (by omega))) ?_
              refine LW.re 45 (.int .u8 ((c.toNat - 48 : Nat) : Int)) rfl (by first | (congr 1; omega) | (rw [IntWalk.u8_in _ (by omega)]; congr 1; omega)) ?_
              refine LW.v rfl rfl (Val.convI rfl Tryd.underlying5 Tryd.underlying3) ?_
              refine LW.re 46 (.int .i64 ((c.toNat - 48 : Nat) : Int)) rfl (by rw [IntWalk.i64_in _ (by omega)]) ?_
              refine LW.v rfl rfl (Val.ar rfl rfl rfl (IntWalk.i64_in _ (by omega))) ?_
              refine LW.re 47 (.int .i64 ((digV (u.take (k.1 + 1)) : Nat) : Int)) rfl (by rw [List.take_add_one, hc, Option.toList_some, digV_snoc] <;> (congr 1 <;> omega)) ?_
              refine LW.v rfl rfl (Val.assign rfl) ?_
              refine LW.nil ?_
              refine PQ.in_normal ?_
              refine PQ.seq ?_
              refine CW.region ?_
              refine LW.v rfl rfl (Val.move rfl) ?_
              refine LW.v rfl rfl (Val.ar rfl rfl rfl (IntWalk.i64_in _ (by omega))) ?_
              refine LW.v rfl rfl (Val.assign rfl) ?_
              refine LW.nil ?_
              refine PQ.round ((k.1 + 1, ())) ⟨by simp only; omega, fun i d h8 h9 => by
                by_cases hi : i = k.1
                · subst hi; rw [hc] at h9; cases h9; unfold isD; omega
                · exact hkD i d (by simp only at h8; omega) h9⟩ (by simp only; omega) (by repeat (first | exact trivial | refine ⟨rfl, ?_⟩)) (by repeat (first | exact .nil | apply Pick.cons | exact .here | apply Ext.there))
        · replace h27 := bF h27
          refine CW.exit ?_
          refine PQ.then_exit ?_
          refine PQ.then_exit ?_
          refine PQ.in_here ?_
          refine PQ.seq ?_
          refine CW.seq ?_
          refine CW.region ?_
          refine LW.v rfl rfl (Val.move rfl) ?_
          refine LW.v rfl rfl (Val.assign rfl) ?_
          refine LW.v rfl rfl (Val.assign rfl) ?_
          refine LW.nil ?_
          refine PQ.seq ?_
          refine CW.ret ?_
          refine PQ.ret2 rfl rfl rfl ?_
          intro w' hw; exact ⟨by rw [numF_yes (by omega) (by omega) (fun c hc => by obtain ⟨i, hi⟩ := List.mem_iff_getElem?.1 hc; exact hkD i c (by have := (List.getElem?_eq_some_iff.1 hi).1; omega) hi) hz]; rw [show u.take k.1 = u from List.take_of_length_le (by omega)]; rfl, hw.below⟩
end Go.Proofs.YtagliemeolngiaaDoor

/- The document's calls, read out of words. -/
namespace Go.Proofs.YtagliemeolngiaaDoor
open Go Go.RowKit V
set_option linter.unusedVariables false
set_option maxRecDepth 100000
open V (str byC ownV ownG ownS ownOk)
def stE (x : List UInt8) : List Value := [str x]
theorem stE_at {w : World} {p : Option Addr} {L : List (List UInt8)} (h : V.slAt w p 1 stE L) (hne : L ≠ []) : ∃ b o, p = some ⟨b, o, none⟩ ∧ b < w.heap.size ∧ ∀ i x, L[i]? = some x → w.rangeAt b (o + i * 1) [str x] := by
  rcases h with h | ⟨b, o, h1, h2, h3⟩
  · exact absurd h hne
  · exact ⟨b, o, h1, h2, h3⟩
/-- A part of words in memory. -/
theorem stE_part {w : World} {b o : Nat} {L : List (List UInt8)} (h : V.slAt w (some ⟨b, o, none⟩) 1 stE L) (k n : Nat) : V.slAt w (some ⟨b, o + k * 1, none⟩) 1 stE ((L.drop k).take n) := by
  rcases h with h | ⟨b2, o2, hp, hb, hr⟩
  · left; rw [h]; simp
  · simp only [Option.some.injEq, Addr.mk.injEq] at hp
    obtain ⟨rfl, rfl, _⟩ := hp
    refine .inr ⟨b, o + k * 1, rfl, hb, fun i x hx => ?_⟩
    have hi : i < n := by have := (List.getElem?_eq_some_iff.1 hx).1; rw [List.length_take] at this; omega
    rw [List.getElem?_take_of_lt hi, List.getElem?_drop] at hx
    have := hr (k + i) x hx
    rw [show o + k * 1 + i * 1 = o + (k + i) * 1 by omega]
    exact this
/-- A call that is no group, of all the words. -/
def pS1 : List (List UInt8) → Option Cq
  | [] => none
  | w :: r => match pSingle w r with
    | some (c, []) => some c
    | _ => none
theorem pT_ok : ∀ {os : List Nat} {c c' : Cq} {L L' : List (List UInt8)}, (∀ x ∈ L, x.length ≤ 70000) → c.grp = nilSl ∧ c.small → pTexts os c L = some (c', L') → c'.grp = nilSl ∧ c'.small
  | [], c, c', L, L', _, hc, h => by simp only [pTexts, Option.some.injEq, Prod.mk.injEq] at h; rw [← h.1]; exact hc
  | o :: os, c, c', [], L', _, _, h => by simp [pTexts] at h
  | o :: os, c, c', w :: L, L', hL, hc, h => by
    simp only [pTexts] at h
    cases ht : textF w with
    | none => rw [ht] at h; cases h
    | some x =>
      rw [ht] at h
      have hx := textF_len (w := w)
      rw [ht] at hx
      have := hL w (by simp)
      simp only [Option.getD_some] at hx
      exact pT_ok (fun y hy => hL y (by simp [hy])) ⟨(set_ck _ _ _).2.trans hc.1, set_small hc.2 (by omega)⟩ h
theorem pS1_ok {L : List (List UInt8)} {c : Cq} (hL : ∀ x ∈ L, x.length ≤ 70000) (h : pS1 L = some c) : c.grp = nilSl ∧ c.small := by
  cases L with
  | nil => cases h
  | cons w r =>
    simp only [pS1] at h
    split at h
    · rename_i d hd
      simp only [Option.some.injEq] at h; subst h
      unfold pSingle at hd
      split at hd
      · cases hd
      · exact pT_ok (fun y hy => hL y (by simp [hy])) ⟨rfl, by unfold Cq.small c0q; simp⟩ hd
    · cases h
theorem pT_mem : ∀ {os : List Nat} {c c' : Cq} {L L' : List (List UInt8)}, pTexts os c L = some (c', L') → ∀ x ∈ L', x ∈ L
  | [], c, c', L, L', h => by simp only [pTexts, Option.some.injEq, Prod.mk.injEq] at h; rw [← h.2]; exact fun x hx => hx
  | o :: os, c, c', [], L', h => by simp [pTexts] at h
  | o :: os, c, c', w :: L, L', h => by
    simp only [pTexts] at h
    split at h
    · cases h
    · exact fun x hx => by simp [pT_mem h x hx]
theorem text_semi : textF [59] = none := by decide +kernel
theorem pT_app : ∀ (os : List Nat) (c : Cq) (u r : List (List UInt8)), pTexts os c (u ++ [59] :: r) = (pTexts os c u).map fun y => (y.1, y.2 ++ [59] :: r)
  | [], c, u, r => rfl
  | o :: os, c, [], r => by simp [pTexts, text_semi]
  | o :: os, c, w :: u, r => by
    simp only [List.cons_append, pTexts]
    cases textF w with
    | none => rfl
    | some x => exact pT_app os (c.set o x) u r
theorem pSg_app (nm : List UInt8) (u r : List (List UInt8)) : pSingle nm (u ++ [59] :: r) = (pSingle nm u).map fun y => (y.1, y.2 ++ [59] :: r) := by
  unfold pSingle
  split
  · rfl
  · exact pT_app _ _ _ _
theorem pGr_part {u : List (List UInt8)} (hn : ∀ x ∈ u, x ≠ [59]) (hne : u ≠ []) : (pS1 u = none → pGr u = none ∧ ∀ r, pGr (u ++ [59] :: r) = none) ∧ ∀ c, pS1 u = some c → pGr u = some ([c], []) ∧ ∀ r, pGr (u ++ [59] :: r) = (pGr r).map fun y => (c :: y.1, y.2) := by
  cases u with
  | nil => exact absurd rfl hne
  | cons w v =>
    simp only [pS1, List.cons_append, pGr_cons, pSg_app]
    cases hp : pSingle w v with
    | none => simp
    | some y =>
      obtain ⟨c, L⟩ := y
      cases L with
      | nil => refine ⟨(fun h => by cases h), fun d hd => ?_⟩; simp only [Option.some.injEq] at hd; subst hd; exact ⟨rfl, fun r => by simp⟩
      | cons x L =>
        have hx : x ≠ [59] := by
          unfold pSingle at hp
          split at hp
          · cases hp
          · exact hn x (by simp [pT_mem hp x (by simp)])
        refine ⟨fun _ => ⟨by simp [hx], fun r => by simp [hx]⟩, (fun d hd => by cases hd)⟩
theorem pGr_semi (r : List (List UInt8)) : pGr ([59] :: r) = none := by
  rw [pGr_cons]
  have : pSingle [59] r = none := by unfold pSingle; rw [if_pos (.inl (by decide))]
  rw [this]
/-- The text of a word, if the walk has come past it. -/
def tx (L : List (List UInt8)) (i j : Nat) : List UInt8 := if j < i then (textF ((L[j]?).getD [])).getD [] else []
theorem tx_set {L : List (List UInt8)} {i : Nat} {x : List UInt8} (h1 : 1 ≤ i) (h3 : i ≤ 3) (hx : L[i]? = some x) : [str (tx L i 1), str (tx L i 2), str (tx L i 3)].set (i - 1) (str ((textF x).getD [])) = [str (tx L (i + 1) 1), str (tx L (i + 1) 2), str (tx L (i + 1) 3)] := by
  obtain rfl | rfl | rfl : i = 1 ∨ i = 2 ∨ i = 3 := by omega
  all_goals simp [tx, hx]
def TOk (L : List (List UInt8)) (i : Nat) : Prop := ∀ j x, 1 ≤ j → j < i → L[j]? = some x → (textF x).isSome = true
theorem pS1_bad {L : List (List UInt8)} {i : Nat} {x : List UInt8} (h1 : 1 ≤ i) (hx : L[i]? = some x) (ht : textF x = none) : pS1 L = none := by
  cases L with
  | nil => rfl
  | cons w r =>
    simp only [pS1]
    have key : ∀ (os : List Nat) (c c' : Cq) (u : List (List UInt8)) (j : Nat), u[j]? = some x → pTexts os c u ≠ some (c', []) := by
      intro os
      induction os with
      | nil => intro c c' u j hj h; simp only [pTexts, Option.some.injEq, Prod.mk.injEq] at h; rw [h.2] at hj; simp at hj
      | cons o os ih =>
        intro c c' u j hj h
        cases u with
        | nil => simp at hj
        | cons a u =>
          simp only [pTexts] at h
          cases j with
          | zero => simp at hj; subst hj; rw [ht] at h; cases h
          | succ j =>
            cases hta : textF a with
            | none => rw [hta] at h; cases h
            | some z => rw [hta] at h; exact ih _ _ _ j (by simpa using hj) h
    have hr : r[i - 1]? = some x := by
      obtain ⟨j, rfl⟩ : ∃ j, i = j + 1 := ⟨i - 1, by omega⟩
      simpa using hx
    split
    · rename_i d hd
      exfalso
      unfold pSingle at hd
      split at hd
      · cases hd
      · exact key _ _ _ _ _ hr hd
    · rfl
theorem pS1_0 {L : List (List UInt8)} {w : List UInt8} (k : Int) (hw : L[0]? = some w) (hk : kindF w = k) (ho : offs k = []) (h0 : ¬ (k = 0 ∨ k = 7)) (hl : L.length = 1) : pS1 L = some (c0q k) := by
  obtain ⟨a, rfl⟩ := List.length_eq_one_iff.1 hl
  simp at hw; subst hw
  simp only [pS1, pSingle]
  rw [hk, if_neg h0, ho]; rfl
theorem pS1_1 {L : List (List UInt8)} {w : List UInt8} {i : Nat} (k : Int) (o : Nat) (hw : L[0]? = some w) (hk : kindF w = k) (ho : offs k = [o]) (h0 : ¬ (k = 0 ∨ k = 7)) (hl : L.length = 2) (hi : 2 ≤ i) (ht : TOk L i) : pS1 L = some ((c0q k).set o (tx L i 1)) := by
  obtain ⟨a, x, rfl⟩ : ∃ a x, L = [a, x] := by match L, hl with | [a, x], _ => exact ⟨a, x, rfl⟩
  simp at hw; subst hw
  have h1 := ht 1 x (by omega) (by omega) rfl
  obtain ⟨y, hy⟩ := Option.isSome_iff_exists.1 h1
  simp only [pS1, pSingle]
  rw [hk, if_neg h0, ho]
  simp only [pTexts, hy, tx, if_pos (show 1 < i by omega), List.getElem?_cons_succ, List.getElem?_cons_zero, Option.getD_some]
theorem pS1_2 {L : List (List UInt8)} {w : List UInt8} {i : Nat} (k : Int) (o1 o2 : Nat) (hw : L[0]? = some w) (hk : kindF w = k) (ho : offs k = [o1, o2]) (h0 : ¬ (k = 0 ∨ k = 7)) (hl : L.length = 3) (hi : 3 ≤ i) (ht : TOk L i) : pS1 L = some (((c0q k).set o1 (tx L i 1)).set o2 (tx L i 2)) := by
  obtain ⟨a, x, z, rfl⟩ : ∃ a x z, L = [a, x, z] := by match L, hl with | [a, x, z], _ => exact ⟨a, x, z, rfl⟩
  simp at hw; subst hw
  obtain ⟨y, hy⟩ := Option.isSome_iff_exists.1 (ht 1 x (by omega) (by omega) rfl)
  obtain ⟨v, hv⟩ := Option.isSome_iff_exists.1 (ht 2 z (by omega) (by omega) rfl)
  simp only [pS1, pSingle]
  rw [hk, if_neg h0, ho]
  simp only [pTexts, hy, hv, tx, if_pos (show 1 < i by omega), if_pos (show 2 < i by omega), List.getElem?_cons_succ, List.getElem?_cons_zero, Option.getD_some]
theorem pS1_len {w : List UInt8} {r : List (List UInt8)} (h : r.length ≠ (offs (kindF w)).length) : pS1 (w :: r) = none := by
  simp only [pS1]
  have key : ∀ (os : List Nat) (c c' : Cq) (u : List (List UInt8)), u.length ≠ os.length → pTexts os c u ≠ some (c', []) := by
    intro os
    induction os with
    | nil => intro c c' u hu h; simp only [pTexts, Option.some.injEq, Prod.mk.injEq] at h; rw [h.2] at hu; simp at hu
    | cons o os ih =>
      intro c c' u hu h
      cases u with
      | nil => simp [pTexts] at h
      | cons a u =>
        simp only [pTexts] at h
        cases hta : textF a with
        | none => rw [hta] at h; cases h
        | some z => rw [hta] at h; exact ih _ _ _ (by simpa using hu) h
  split
  · rename_i d hd
    exfalso
    unfold pSingle at hd
    split at hd
    · cases hd
    · exact key _ _ _ _ h hd
  · rfl
theorem pS1_none {L : List (List UInt8)} {w : List UInt8} (hw : L[0]? = some w) (h1 : ¬ (w = [103, 101, 116] ∧ L.length = 2)) (h2 : ¬ (w = [100, 101, 108] ∧ L.length = 2)) (h3 : ¬ (w = [112, 117, 116] ∧ L.length = 3)) (h4 : ¬ (w = [101, 110, 113] ∧ L.length = 2)) (h5 : ¬ (w = [100, 101, 113] ∧ L.length = 1)) (h6 : ¬ (w = [115, 121, 110, 99] ∧ L.length = 1)) (h7 : ¬ (w = [115, 99, 97, 110] ∧ L.length = 3)) : pS1 L = none := by
  cases L with
  | nil => rfl
  | cons a r =>
    simp at hw; subst hw
    simp only [List.length_cons] at h1 h2 h3 h4 h5 h6 h7
    by_cases e1 : a = [103, 101, 116]
    · subst e1; exact pS1_len (by rw [show (offs (kindF [103, 101, 116])).length = 1 by decide]; intro e; exact h1 ⟨rfl, by omega⟩)
    by_cases e2 : a = [100, 101, 108]
    · subst e2; exact pS1_len (by rw [show (offs (kindF [100, 101, 108])).length = 1 by decide]; intro e; exact h2 ⟨rfl, by omega⟩)
    by_cases e3 : a = [112, 117, 116]
    · subst e3; exact pS1_len (by rw [show (offs (kindF [112, 117, 116])).length = 2 by decide]; intro e; exact h3 ⟨rfl, by omega⟩)
    by_cases e4 : a = [101, 110, 113]
    · subst e4; exact pS1_len (by rw [show (offs (kindF [101, 110, 113])).length = 1 by decide]; intro e; exact h4 ⟨rfl, by omega⟩)
    by_cases e5 : a = [100, 101, 113]
    · subst e5; exact pS1_len (by rw [show (offs (kindF [100, 101, 113])).length = 0 by decide]; intro e; exact h5 ⟨rfl, by omega⟩)
    by_cases e6 : a = [115, 121, 110, 99]
    · subst e6; exact pS1_len (by rw [show (offs (kindF [115, 121, 110, 99])).length = 0 by decide]; intro e; exact h6 ⟨rfl, by omega⟩)
    by_cases e7 : a = [115, 99, 97, 110]
    · subst e7; exact pS1_len (by rw [show (offs (kindF [115, 99, 97, 110])).length = 2 by decide]; intro e; exact h7 ⟨rfl, by omega⟩)
    simp only [pS1, pSingle]
    rw [if_pos]
    unfold kindF
    by_cases e8 : a = [103, 114, 111, 117, 112]
    · subst e8; exact .inr (by decide)
    · left; simp [e1, e2, e3, e4, e5, e6, e7, e8]
theorem rcalled1_c (p : Option Addr) (cap : Nat) (L : List (List UInt8)) (hne : L ≠ []) (hL : ∀ x ∈ L, x.length ≤ 70000) (hcnt : L.length ≤ 70001) (w : World) (hs : V.slAt w p 1 stE L) : Calls Tryd.prog 63 [.slice p L.length cap, .bool true].toArray w fun e w' => e = .returned (.tuple #[.agg ((pS1 L).getD (c0q 0)).cells.toArray, .bool (pS1 L).isSome]) ∧ Below w.heap.size w w' := by
  obtain ⟨x0, hx0⟩ : ∃ x, L[0]? = some x := ⟨L[0]'(by have := List.length_pos_iff.2 hne; omega), by simp⟩
  obtain ⟨pb, po, rfl, hb, hr⟩ := stE_at hs hne
  have hpos := List.length_pos_iff.2 hne
  refine V.calls [] Tryd.func63 rfl Tryd.ntmps63 (Nat.le_of_ble_eq_true rfl) (V.sat_nil _) ?_
  refine CW.seq ?_
  refine CW.region ?_
  refine LW.e rfl rfl (Eff.allocA (by exact Tryd.zeroValue41)) ?_
  intro b4 _
  refine LW.v rfl rfl (Val.assign rfl) ?_
  refine LW.nil ?_
  refine PQ.seq ?_
  refine CW.seq ?_
  refine CW.region ?_
  refine LW.v rfl rfl (Val.build [_, _, _, _, _] Tryd.zeroValue41 Tryd.underlying41 places41 rfl (by rfl)) ?_
  refine LW.e rfl rfl (Eff.allocA (by exact Tryd.zeroValue41)) ?_
  intro b6 _
  first | (refine LW.eN rfl (Eff.storeW rfl rfl (by repeat (first | exact .here | exact .inner .here | exact .inner (.inner .here) | apply Upd.there)) (by rfl) Tryd.sizeOf41 (by rfl)) ?_) | (refine LW.eN rfl (Eff.storeA (l' := _) rfl rfl (by repeat (first | exact .here | exact .inner .here | exact .inner (.inner .here) | apply Upd.there)) (by rfl) (by decide) Tryd.sizeOf41 (by rfl)) ?_)
  intro _ _
  refine LW.nil ?_
  refine PQ.seq ?_
  refine CW.seq ?_
  refine CW.region ?_
  refine LW.e rfl rfl (Eff.allocA (by exact Tryd.zeroValue111)) ?_
  intro b7 _
  refine LW.nil ?_
  refine PQ.seq ?_
  refine CW.seq ?_
  refine CW.join (fun i9 : Nat => 1 ≤ i9 ∧ i9 ≤ 4 ∧ i9 ≤ L.length ∧ (x0 ≠ [103, 114, 111, 117, 112] → TOk L i9) ∧ (L.length ≤ i9 ∨ 4 ≤ i9)) (fun i9 => [(0, .slice (some ⟨pb, po, none⟩) L.length cap), (1, .bool true), (4, .pointer (some ⟨b4, 0, none⟩)), (5, .bool false), (6, .pointer (some ⟨b6, 0, none⟩)), (7, .pointer (some ⟨b7, 0, none⟩))]) (fun i9 => [[(b7, .cells [str (tx L i9 1), str (tx L i9 2), str (tx L i9 3)].toArray 111 (0, 0))], [(b6, .cells [.int .i64 0, .string ⟨#[]⟩, .string ⟨#[]⟩, .string ⟨#[]⟩, .slice none 0 0].toArray 41 (0, 0))], [(b4, .cells [.int .i64 0, .string ⟨#[]⟩, .string ⟨#[]⟩, .string ⟨#[]⟩, .slice none 0 0].toArray 41 (0, 0))]]) ?_ ?_
  · refine CW.seq ?_
    refine CW.region ?_
    refine LW.v rfl rfl (Val.assign rfl) ?_
    refine LW.nil ?_
    refine PQ.seq ?_
    refine CW.block ?_
    refine V.CW.perm (sg' := [[(b7, .cells [str (tx L 1 1), str (tx L 1 2), str (tx L 1 3)].toArray 111 (0, 0))], [(b6, .cells [.int .i64 0, .string ⟨#[]⟩, .string ⟨#[]⟩, .string ⟨#[]⟩, .slice none 0 0].toArray 41 (0, 0))], [(b4, .cells [.int .i64 0, .string ⟨#[]⟩, .string ⟨#[]⟩, .string ⟨#[]⟩, .slice none 0 0].toArray 41 (0, 0))]]) ?_ (.refl _)
    refine CW.loop (γ := Nat) (fun i9 => [(0, .slice (some ⟨pb, po, none⟩) L.length cap), (1, .bool true), (4, .pointer (some ⟨b4, 0, none⟩)), (5, .bool false), (6, .pointer (some ⟨b6, 0, none⟩)), (7, .pointer (some ⟨b7, 0, none⟩)), (8, .int .i64 (i9 : Nat))]) (fun i9 => [[(b7, .cells [str (tx L i9 1), str (tx L i9 2), str (tx L i9 3)].toArray 111 (0, 0))], [(b6, .cells [.int .i64 0, .string ⟨#[]⟩, .string ⟨#[]⟩, .string ⟨#[]⟩, .slice none 0 0].toArray 41 (0, 0))], [(b4, .cells [.int .i64 0, .string ⟨#[]⟩, .string ⟨#[]⟩, .string ⟨#[]⟩, .slice none 0 0].toArray 41 (0, 0))]]) (fun i9 => 1 ≤ i9 ∧ i9 ≤ 4 ∧ i9 ≤ L.length ∧ (x0 ≠ [103, 114, 111, 117, 112] → TOk L i9)) (fun i9 => 4 - i9) (1) ⟨Nat.le_refl _, by omega, hpos, fun _ j x h1 h2 => by omega⟩ (by repeat (first | exact trivial | refine ⟨rfl, ?_⟩)) (by repeat (first | exact .nil | apply Pick.cons | exact .here | apply Ext.there)) ?_
    intro i9
    rintro ⟨hi1, hi4, hiL, hT⟩
    refine CW.seq ?_
    refine CW.seq ?_
    refine CW.region ?_
    refine LW.v rfl rfl (Val.move rfl) ?_
    refine LW.v rfl rfl (Val.move rfl) ?_
    refine LW.v rfl rfl (Val.lenSl rfl Tryd.underlying73) ?_
    refine LW.v rfl rfl (Val.cmp rfl rfl rfl) ?_
    refine LW.v rfl rfl (Val.move rfl) ?_
    refine LW.split (d := 21) rfl (fun h21 => ?_) (fun h21 => ?_)
    · replace h21 := bT h21
      refine LW.v rfl rfl (Val.move rfl) ?_
      refine LW.v rfl rfl (Val.cmp rfl rfl rfl) ?_
      refine LW.v rfl rfl (Val.pick_t rfl rfl) ?_
      refine LW.nil ?_
      refine PQ.seq ?_
      refine CW.cond rfl (fun h24 => ?_) (fun h24 => ?_)
      · replace h24 := bT h24
        obtain ⟨x, hx⟩ : ∃ x, L[i9]? = some x := ⟨L[i9]'(by omega), by simp⟩
        refine CW.skip ?_
        refine PQ.seq ?_
        refine CW.seq ?_
        refine CW.block ?_
        refine CW.seq ?_
        refine CW.region ?_
        refine LW.v rfl rfl (Val.move rfl) ?_
        refine LW.v rfl rfl (Val.move rfl) ?_
        first | (refine LW.v rfl rfl (Val.indexAddrN rfl rfl Tryd.underlying73 Tryd.sizeOf9 (by omega)) ?_) | (refine LW.v rfl rfl (Val.indexAddr rfl rfl Tryd.underlying73 Tryd.sizeOf9 (by omega) (by omega)) ?_)
        refine LW.v rfl rfl (Val.loadO rfl Tryd.isAgg9 hb (by simp [ids]) (hr i9 x hx 0 _ rfl)) ?_
        refine LW.e rfl rfl (Eff.callV rfl Tryd.call13 (fun w hw => rtext_c x (by have := hL x (List.mem_of_getElem? hx); omega) w)) ?_
        intro _ _
        refine LW.v rfl rfl (Val.move rfl) ?_
        refine LW.v rfl rfl (Val.extract rfl rfl) ?_
        refine LW.v rfl rfl (Val.extract rfl rfl) ?_
        refine LW.v rfl rfl (Val.assign rfl) ?_
        refine LW.v rfl rfl (Val.assign rfl) ?_
        refine LW.nil ?_
        refine PQ.seq ?_
        refine CW.seq ?_
        refine CW.seq ?_
        refine CW.region ?_
        refine LW.v rfl rfl (Val.move rfl) ?_
        refine LW.v rfl rfl (Val.not rfl) ?_
        refine LW.v rfl rfl (Val.move rfl) ?_
        refine LW.split (d := 37) rfl (fun h37 => ?_) (fun h37 => ?_)
        · replace h37 := bT h37
          refine LW.v rfl rfl (Val.move rfl) ?_
          first | (refine LW.v rfl rfl (Val.indexAddrN rfl rfl Tryd.underlying73 Tryd.sizeOf9 (by omega)) ?_) | (refine LW.v rfl rfl (Val.indexAddr rfl rfl Tryd.underlying73 Tryd.sizeOf9 (by omega) (by omega)) ?_)
          refine LW.v rfl rfl (Val.loadO rfl Tryd.isAgg9 hb (by simp [ids]) (hr 0 x0 hx0 0 _ rfl)) ?_
          refine LW.v rfl rfl (Val.neStr rfl rfl) ?_
          refine LW.v rfl rfl (Val.pick_t rfl rfl) ?_
          refine LW.nil ?_
          refine PQ.seq ?_
          refine CW.cond rfl (fun h42 => ?_) (fun h42 => ?_)
          · replace h42 := bT h42
            refine CW.seq ?_
            refine CW.region ?_
            first | (refine LW.v rfl rfl (Val.loadW rfl Tryd.isAgg41 (by repeat (first | exact .here | exact .inner .here | exact .inner (.inner .here) | refine .there ?_)) (by exact Tryd.sizeOf41)) ?_) | (refine LW.v rfl rfl (Val.loadA [_, _, _, _, _] rfl Tryd.isAgg41 (by repeat (first | exact .here | exact .inner .here | exact .inner (.inner .here) | refine .there ?_)) (by rfl) Tryd.sizeOf41) ?_)
            first | (refine LW.eN rfl (Eff.storeW rfl rfl (by repeat (first | exact .here | exact .inner .here | exact .inner (.inner .here) | apply Upd.there)) (by rfl) Tryd.sizeOf41 (by rfl)) ?_) | (refine LW.eN rfl (Eff.storeA (l' := _) rfl rfl (by repeat (first | exact .here | exact .inner .here | exact .inner (.inner .here) | apply Upd.there)) (by rfl) (by decide) Tryd.sizeOf41 (by rfl)) ?_)
            intro _ _
            refine LW.v rfl rfl (Val.assign rfl) ?_
            refine LW.nil ?_
            refine PQ.seq ?_
            refine CW.ret ?_
            refine PQ.then_ret ?_
            refine PQ.in_ret ?_
            refine PQ.then_ret ?_
            refine PQ.then_ret ?_
            refine PQ.in_ret ?_
            refine PQ.then_ret ?_
            refine PQ.retCT rfl rfl rfl (by repeat (first | exact .here | exact .inner .here | exact .inner (.inner .here) | refine .there ?_)) Tryd.isAgg41 (by exact Tryd.sizeOf41) ?_
            intro w' hw
            have hp : pS1 L = none := pS1_bad hi1 hx (by cases hq : textF x with | none => rfl | some z => rw [hq] at h37; simp at h37)
            rw [hp]
            exact ⟨rfl, hw.below⟩
          · replace h42 := bF h42
            refine CW.skip ?_
            refine PQ.seq ?_
            refine CW.region ?_
            refine LW.v rfl rfl (Val.move rfl) ?_
            refine LW.v rfl rfl (Val.ar rfl rfl rfl (IntWalk.i64_in _ (by omega))) ?_
            refine LW.re 45 (.int .i64 ((i9 - 1 : Nat) : Int)) rfl (by congr 1; omega) ?_
            refine LW.v rfl rfl (Val.move rfl) ?_
            first | (refine LW.v rfl rfl (Val.indexAddrA rfl rfl Tryd.underlying111 Tryd.sizeOf9 (by omega)) ?_) | (refine LW.v rfl rfl (Val.indexAddrAI rfl rfl Tryd.underlying111 Tryd.sizeOf9 (by omega) (by omega)) ?_)
            refine LW.eN rfl (Eff.storeX (l' := [str (tx L (i9 + 1) 1), str (tx L (i9 + 1) 2), str (tx L (i9 + 1) 3)]) rfl rfl rfl (by repeat (first | exact .here | exact .inner .here | exact .inner (.inner .here) | apply Upd.there)) (by simpa using tx_set hi1 (by omega) hx) (by simp; omega) Tryd.sizeOf9) ?_
            intro _ _
            refine LW.nil ?_
            refine PQ.in_normal ?_
            refine PQ.seq ?_
            refine CW.region ?_
            refine LW.v rfl rfl (Val.move rfl) ?_
            refine LW.v rfl rfl (Val.ar rfl rfl rfl (IntWalk.i64_in _ (by omega))) ?_
            refine LW.v rfl rfl (Val.assign rfl) ?_
            refine LW.nil ?_
            refine PQ.round (i9 + 1) ⟨by omega, by omega, by omega, fun hng j y h1 h2 h3 => by
              by_cases hj : j = i9
              · subst hj; rw [hx] at h3; cases h3; first | (exact absurd h41 hng) | (exact absurd h42 hng) | (exact h37) | (trace_state; fail)
              · exact hT hng j y h1 (by omega) h3⟩ (by omega) (by repeat (first | exact trivial | refine ⟨rfl, ?_⟩)) (by repeat (first | exact .nil | apply Pick.cons | exact .here | apply Ext.there))
        · replace h37 := bF h37
          refine LW.p rfl rfl ?_
          refine LW.p rfl rfl ?_
          refine LW.p rfl rfl ?_
          refine LW.p rfl rfl ?_
          refine LW.v rfl rfl (Val.pick_f rfl rfl) ?_
          refine LW.nil ?_
          refine PQ.seq ?_
          refine CW.cond_f rfl ?_
          refine CW.skip ?_
          refine PQ.seq ?_
          refine CW.region ?_
          refine LW.v rfl rfl (Val.move rfl) ?_
          refine LW.v rfl rfl (Val.ar rfl rfl rfl (IntWalk.i64_in _ (by omega))) ?_
          refine LW.re 45 (.int .i64 ((i9 - 1 : Nat) : Int)) rfl (by congr 1; omega) ?_
          refine LW.v rfl rfl (Val.move rfl) ?_
          first | (refine LW.v rfl rfl (Val.indexAddrA rfl rfl Tryd.underlying111 Tryd.sizeOf9 (by omega)) ?_) | (refine LW.v rfl rfl (Val.indexAddrAI rfl rfl Tryd.underlying111 Tryd.sizeOf9 (by omega) (by omega)) ?_)
          refine LW.eN rfl (Eff.storeX (l' := [str (tx L (i9 + 1) 1), str (tx L (i9 + 1) 2), str (tx L (i9 + 1) 3)]) rfl rfl rfl (by repeat (first | exact .here | exact .inner .here | exact .inner (.inner .here) | apply Upd.there)) (by simpa using tx_set hi1 (by omega) hx) (by simp; omega) Tryd.sizeOf9) ?_
          intro _ _
          refine LW.nil ?_
          refine PQ.in_normal ?_
          refine PQ.seq ?_
          refine CW.region ?_
          refine LW.v rfl rfl (Val.move rfl) ?_
          refine LW.v rfl rfl (Val.ar rfl rfl rfl (IntWalk.i64_in _ (by omega))) ?_
          refine LW.v rfl rfl (Val.assign rfl) ?_
          refine LW.nil ?_
          refine PQ.round (i9 + 1) ⟨by omega, by omega, by omega, fun hng j y h1 h2 h3 => by
            by_cases hj : j = i9
            · subst hj; rw [hx] at h3; cases h3; first | (exact absurd h41 hng) | (exact absurd h42 hng) | (exact h37) | (trace_state; fail)
            · exact hT hng j y h1 (by omega) h3⟩ (by omega) (by repeat (first | exact trivial | refine ⟨rfl, ?_⟩)) (by repeat (first | exact .nil | apply Pick.cons | exact .here | apply Ext.there))
      · replace h24 := bF h24
        refine CW.exit ?_
        refine PQ.then_exit ?_
        refine PQ.then_exit ?_
        refine PQ.in_here ?_
        refine PQ.joinedC (i9) (⟨hi1, hi4, hiL, hT, by omega⟩) (by repeat (first | exact trivial | refine ⟨rfl, ?_⟩)) (by repeat (first | exact .nil | apply Pick.cons | exact .here | apply Ext.there))
    · replace h21 := bF h21
      refine LW.p rfl rfl ?_
      refine LW.p rfl rfl ?_
      refine LW.v rfl rfl (Val.pick_f rfl rfl) ?_
      refine LW.nil ?_
      refine PQ.seq ?_
      refine CW.cond_f rfl ?_
      refine CW.exit ?_
      refine PQ.then_exit ?_
      refine PQ.then_exit ?_
      refine PQ.in_here ?_
      refine PQ.joinedC (i9) (⟨hi1, hi4, hiL, hT, by omega⟩) (by repeat (first | exact trivial | refine ⟨rfl, ?_⟩)) (by repeat (first | exact .nil | apply Pick.cons | exact .here | apply Ext.there))
  · rintro i9 ⟨hi1, hi4, hiL, hT, hie⟩
    refine PQ.seq ?_
    refine CW.seq ?_
    refine CW.region ?_
    refine LW.v rfl rfl (Val.move rfl) ?_
    refine LW.v rfl rfl (Val.lenSl rfl Tryd.underlying73) ?_
    refine LW.v rfl rfl (Val.ar rfl rfl rfl (IntWalk.i64_in _ (by omega))) ?_
    refine LW.v rfl rfl (Val.assign rfl) ?_
    refine LW.nil ?_
    refine PQ.seq ?_
    refine CW.seq ?_
    refine CW.block ?_
    refine CW.seq ?_
    refine CW.regJoin (fun b : Bool => (b = true → x0 = [103, 101, 116] ∧ L.length = 2) ∧ (b = false → ¬ (x0 = [103, 101, 116] ∧ L.length = 2))) (fun b => [(0, .slice (some ⟨pb, po, none⟩) L.length cap), (1, .bool true), (4, .pointer (some ⟨b4, 0, none⟩)), (5, .bool false), (6, .pointer (some ⟨b6, 0, none⟩)), (7, .pointer (some ⟨b7, 0, none⟩)), (11, .int .i64 ((L.length : Int) - 1)), (51, .bool b)]) (fun _ => [[(b7, .cells [str (tx L i9 1), str (tx L i9 2), str (tx L i9 3)].toArray 111 (0, 0))], [(b6, .cells [.int .i64 0, .string ⟨#[]⟩, .string ⟨#[]⟩, .string ⟨#[]⟩, .slice none 0 0].toArray 41 (0, 0))], [(b4, .cells [.int .i64 0, .string ⟨#[]⟩, .string ⟨#[]⟩, .string ⟨#[]⟩, .slice none 0 0].toArray 41 (0, 0))]]) ?_ ?_
    · refine CW.region ?_
      refine LW.v rfl rfl (Val.move rfl) ?_
      first | (refine LW.v rfl rfl (Val.indexAddrN rfl rfl Tryd.underlying73 Tryd.sizeOf9 (by omega)) ?_) | (refine LW.v rfl rfl (Val.indexAddr rfl rfl Tryd.underlying73 Tryd.sizeOf9 (by omega) (by omega)) ?_)
      refine LW.v rfl rfl (Val.loadO rfl Tryd.isAgg9 hb (by simp [ids]) (hr 0 x0 hx0 0 _ rfl)) ?_
      refine LW.v rfl rfl (Val.eqStr rfl rfl) ?_
      refine LW.v rfl rfl (Val.move rfl) ?_
      refine LW.split (d := 56) rfl (fun h56 => ?_) (fun h56 => ?_)
      · replace h56 := bT h56
        refine LW.v rfl rfl (Val.move rfl) ?_
        refine LW.v rfl rfl (Val.cmp rfl rfl rfl) ?_
        refine LW.split (d := 58) rfl (fun h58 => ?_) (fun h58 => ?_)
        · replace h58 := bT h58
          refine LW.v rfl rfl (Val.pick_t rfl rfl) ?_
          refine LW.v rfl rfl (Val.assign rfl) ?_
          refine LW.nil ?_
          refine PQ.joined (true) (⟨fun _ => ⟨h56, by omega⟩, (fun h => by cases h)⟩) (by repeat (first | exact trivial | refine ⟨rfl, ?_⟩)) (by repeat (first | exact .nil | apply Pick.cons | exact .here | apply Ext.there))
        · replace h58 := bF h58
          refine LW.v rfl rfl (Val.pick_t rfl rfl) ?_
          refine LW.v rfl rfl (Val.assign rfl) ?_
          refine LW.nil ?_
          refine PQ.joined (false) (⟨(fun h => by cases h), fun _ h => h58 (by omega)⟩) (by repeat (first | exact trivial | refine ⟨rfl, ?_⟩)) (by repeat (first | exact .nil | apply Pick.cons | exact .here | apply Ext.there))
      · replace h56 := bF h56
        refine LW.p rfl rfl ?_
        refine LW.p rfl rfl ?_
        refine LW.v rfl rfl (Val.pick_f rfl rfl) ?_
        refine LW.v rfl rfl (Val.assign rfl) ?_
        refine LW.nil ?_
        refine PQ.joined (false) (⟨(fun h => by cases h), fun _ h => h56 h.1⟩) (by repeat (first | exact trivial | refine ⟨rfl, ?_⟩)) (by repeat (first | exact .nil | apply Pick.cons | exact .here | apply Ext.there))
    · intro bb51 hb51
      refine PQ.seq ?_
      refine CW.cond rfl (fun h51 => ?_) (fun h51 => ?_)
      · replace h51 := bT h51
        have e51 := hb51.1 h51
        refine CW.seq ?_
        refine CW.region ?_
        first | (refine LW.v rfl rfl (Val.indexAddrA rfl rfl Tryd.underlying111 Tryd.sizeOf9 (by omega)) ?_) | (refine LW.v rfl rfl (Val.indexAddrAI rfl rfl Tryd.underlying111 Tryd.sizeOf9 (by omega) (by omega)) ?_)
        refine LW.v rfl rfl (Val.load (v := str (tx L i9 1)) rfl Tryd.isAgg9 (by repeat (first | exact .here | exact .inner .here | exact .inner (.inner .here) | refine .there ?_)) (by rfl)) ?_
        refine LW.v rfl rfl (Val.build [_, _, _, _, _] Tryd.zeroValue41 Tryd.underlying41 places41 rfl (by rfl)) ?_
        first | (refine LW.eN rfl (Eff.storeW rfl rfl (by repeat (first | exact .here | exact .inner .here | exact .inner (.inner .here) | apply Upd.there)) (by rfl) Tryd.sizeOf41 (by rfl)) ?_) | (refine LW.eN rfl (Eff.storeA (l' := _) rfl rfl (by repeat (first | exact .here | exact .inner .here | exact .inner (.inner .here) | apply Upd.there)) (by rfl) (by decide) Tryd.sizeOf41 (by rfl)) ?_)
        intro _ _
        refine LW.v rfl rfl (Val.assign rfl) ?_
        refine LW.nil ?_
        refine PQ.seq ?_
        refine CW.ret ?_
        refine PQ.in_ret ?_
        refine PQ.then_ret ?_
        refine PQ.retCT rfl rfl rfl (by repeat (first | exact .here | exact .inner .here | exact .inner (.inner .here) | refine .there ?_)) Tryd.isAgg41 (by exact Tryd.sizeOf41) ?_
        intro w' hw
        have hp : pS1 L = _ := pS1_1 1 1 hx0 (by rw [e51.1]; decide) (by decide) (by decide) e51.2 (by omega) (hT (by rw [e51.1]; decide))
        rw [hp]
        exact ⟨rfl, hw.below⟩
      · replace h51 := bF h51
        have n51 := hb51.2 h51
        refine CW.seq ?_
        refine CW.regJoin (fun b : Bool => (b = true → x0 = [100, 101, 108] ∧ L.length = 2) ∧ (b = false → ¬ (x0 = [100, 101, 108] ∧ L.length = 2))) (fun b => [(0, .slice (some ⟨pb, po, none⟩) L.length cap), (1, .bool true), (4, .pointer (some ⟨b4, 0, none⟩)), (5, .bool false), (6, .pointer (some ⟨b6, 0, none⟩)), (7, .pointer (some ⟨b7, 0, none⟩)), (11, .int .i64 ((L.length : Int) - 1)), (63, .bool b)]) (fun _ => [[(b7, .cells [str (tx L i9 1), str (tx L i9 2), str (tx L i9 3)].toArray 111 (0, 0))], [(b6, .cells [.int .i64 0, .string ⟨#[]⟩, .string ⟨#[]⟩, .string ⟨#[]⟩, .slice none 0 0].toArray 41 (0, 0))], [(b4, .cells [.int .i64 0, .string ⟨#[]⟩, .string ⟨#[]⟩, .string ⟨#[]⟩, .slice none 0 0].toArray 41 (0, 0))]]) ?_ ?_
        · refine CW.region ?_
          refine LW.v rfl rfl (Val.move rfl) ?_
          first | (refine LW.v rfl rfl (Val.indexAddrN rfl rfl Tryd.underlying73 Tryd.sizeOf9 (by omega)) ?_) | (refine LW.v rfl rfl (Val.indexAddr rfl rfl Tryd.underlying73 Tryd.sizeOf9 (by omega) (by omega)) ?_)
          refine LW.v rfl rfl (Val.loadO rfl Tryd.isAgg9 hb (by simp [ids]) (hr 0 x0 hx0 0 _ rfl)) ?_
          refine LW.v rfl rfl (Val.eqStr rfl rfl) ?_
          refine LW.v rfl rfl (Val.move rfl) ?_
          refine LW.split (d := 68) rfl (fun h68 => ?_) (fun h68 => ?_)
          · replace h68 := bT h68
            refine LW.v rfl rfl (Val.move rfl) ?_
            refine LW.v rfl rfl (Val.cmp rfl rfl rfl) ?_
            refine LW.split (d := 70) rfl (fun h70 => ?_) (fun h70 => ?_)
            · replace h70 := bT h70
              refine LW.v rfl rfl (Val.pick_t rfl rfl) ?_
              refine LW.v rfl rfl (Val.assign rfl) ?_
              refine LW.nil ?_
              refine PQ.joined (true) (⟨fun _ => ⟨h68, by omega⟩, (fun h => by cases h)⟩) (by repeat (first | exact trivial | refine ⟨rfl, ?_⟩)) (by repeat (first | exact .nil | apply Pick.cons | exact .here | apply Ext.there))
            · replace h70 := bF h70
              refine LW.v rfl rfl (Val.pick_t rfl rfl) ?_
              refine LW.v rfl rfl (Val.assign rfl) ?_
              refine LW.nil ?_
              refine PQ.joined (false) (⟨(fun h => by cases h), fun _ h => h70 (by omega)⟩) (by repeat (first | exact trivial | refine ⟨rfl, ?_⟩)) (by repeat (first | exact .nil | apply Pick.cons | exact .here | apply Ext.there))
          · replace h68 := bF h68
            refine LW.p rfl rfl ?_
            refine LW.p rfl rfl ?_
            refine LW.v rfl rfl (Val.pick_f rfl rfl) ?_
            refine LW.v rfl rfl (Val.assign rfl) ?_
            refine LW.nil ?_
            refine PQ.joined (false) (⟨(fun h => by cases h), fun _ h => h68 h.1⟩) (by repeat (first | exact trivial | refine ⟨rfl, ?_⟩)) (by repeat (first | exact .nil | apply Pick.cons | exact .here | apply Ext.there))
        · intro bb63 hb63
          refine PQ.seq ?_
          refine CW.cond rfl (fun h63 => ?_) (fun h63 => ?_)
          · replace h63 := bT h63
            have e63 := hb63.1 h63
            refine CW.seq ?_
            refine CW.region ?_
            first | (refine LW.v rfl rfl (Val.indexAddrA rfl rfl Tryd.underlying111 Tryd.sizeOf9 (by omega)) ?_) | (refine LW.v rfl rfl (Val.indexAddrAI rfl rfl Tryd.underlying111 Tryd.sizeOf9 (by omega) (by omega)) ?_)
            refine LW.v rfl rfl (Val.load (v := str (tx L i9 1)) rfl Tryd.isAgg9 (by repeat (first | exact .here | exact .inner .here | exact .inner (.inner .here) | refine .there ?_)) (by rfl)) ?_
            refine LW.v rfl rfl (Val.build [_, _, _, _, _] Tryd.zeroValue41 Tryd.underlying41 places41 rfl (by rfl)) ?_
            first | (refine LW.eN rfl (Eff.storeW rfl rfl (by repeat (first | exact .here | exact .inner .here | exact .inner (.inner .here) | apply Upd.there)) (by rfl) Tryd.sizeOf41 (by rfl)) ?_) | (refine LW.eN rfl (Eff.storeA (l' := _) rfl rfl (by repeat (first | exact .here | exact .inner .here | exact .inner (.inner .here) | apply Upd.there)) (by rfl) (by decide) Tryd.sizeOf41 (by rfl)) ?_)
            intro _ _
            refine LW.v rfl rfl (Val.assign rfl) ?_
            refine LW.nil ?_
            refine PQ.seq ?_
            refine CW.ret ?_
            refine PQ.in_ret ?_
            refine PQ.then_ret ?_
            refine PQ.retCT rfl rfl rfl (by repeat (first | exact .here | exact .inner .here | exact .inner (.inner .here) | refine .there ?_)) Tryd.isAgg41 (by exact Tryd.sizeOf41) ?_
            intro w' hw
            have hp : pS1 L = _ := pS1_1 3 1 hx0 (by rw [e63.1]; decide) (by decide) (by decide) e63.2 (by omega) (hT (by rw [e63.1]; decide))
            rw [hp]
            exact ⟨rfl, hw.below⟩
          · replace h63 := bF h63
            have n63 := hb63.2 h63
            refine CW.seq ?_
            refine CW.regJoin (fun b : Bool => (b = true → x0 = [112, 117, 116] ∧ L.length = 3) ∧ (b = false → ¬ (x0 = [112, 117, 116] ∧ L.length = 3))) (fun b => [(0, .slice (some ⟨pb, po, none⟩) L.length cap), (1, .bool true), (4, .pointer (some ⟨b4, 0, none⟩)), (5, .bool false), (6, .pointer (some ⟨b6, 0, none⟩)), (7, .pointer (some ⟨b7, 0, none⟩)), (11, .int .i64 ((L.length : Int) - 1)), (75, .bool b)]) (fun _ => [[(b7, .cells [str (tx L i9 1), str (tx L i9 2), str (tx L i9 3)].toArray 111 (0, 0))], [(b6, .cells [.int .i64 0, .string ⟨#[]⟩, .string ⟨#[]⟩, .string ⟨#[]⟩, .slice none 0 0].toArray 41 (0, 0))], [(b4, .cells [.int .i64 0, .string ⟨#[]⟩, .string ⟨#[]⟩, .string ⟨#[]⟩, .slice none 0 0].toArray 41 (0, 0))]]) ?_ ?_
            · refine CW.region ?_
              refine LW.v rfl rfl (Val.move rfl) ?_
              first | (refine LW.v rfl rfl (Val.indexAddrN rfl rfl Tryd.underlying73 Tryd.sizeOf9 (by omega)) ?_) | (refine LW.v rfl rfl (Val.indexAddr rfl rfl Tryd.underlying73 Tryd.sizeOf9 (by omega) (by omega)) ?_)
              refine LW.v rfl rfl (Val.loadO rfl Tryd.isAgg9 hb (by simp [ids]) (hr 0 x0 hx0 0 _ rfl)) ?_
              refine LW.v rfl rfl (Val.eqStr rfl rfl) ?_
              refine LW.v rfl rfl (Val.move rfl) ?_
              refine LW.split (d := 80) rfl (fun h80 => ?_) (fun h80 => ?_)
              · replace h80 := bT h80
                refine LW.v rfl rfl (Val.move rfl) ?_
                refine LW.v rfl rfl (Val.cmp rfl rfl rfl) ?_
                refine LW.split (d := 82) rfl (fun h82 => ?_) (fun h82 => ?_)
                · replace h82 := bT h82
                  refine LW.v rfl rfl (Val.pick_t rfl rfl) ?_
                  refine LW.v rfl rfl (Val.assign rfl) ?_
                  refine LW.nil ?_
                  refine PQ.joined (true) (⟨fun _ => ⟨h80, by omega⟩, (fun h => by cases h)⟩) (by repeat (first | exact trivial | refine ⟨rfl, ?_⟩)) (by repeat (first | exact .nil | apply Pick.cons | exact .here | apply Ext.there))
                · replace h82 := bF h82
                  refine LW.v rfl rfl (Val.pick_t rfl rfl) ?_
                  refine LW.v rfl rfl (Val.assign rfl) ?_
                  refine LW.nil ?_
                  refine PQ.joined (false) (⟨(fun h => by cases h), fun _ h => h82 (by omega)⟩) (by repeat (first | exact trivial | refine ⟨rfl, ?_⟩)) (by repeat (first | exact .nil | apply Pick.cons | exact .here | apply Ext.there))
              · replace h80 := bF h80
                refine LW.p rfl rfl ?_
                refine LW.p rfl rfl ?_
                refine LW.v rfl rfl (Val.pick_f rfl rfl) ?_
                refine LW.v rfl rfl (Val.assign rfl) ?_
                refine LW.nil ?_
                refine PQ.joined (false) (⟨(fun h => by cases h), fun _ h => h80 h.1⟩) (by repeat (first | exact trivial | refine ⟨rfl, ?_⟩)) (by repeat (first | exact .nil | apply Pick.cons | exact .here | apply Ext.there))
            · intro bb75 hb75
              refine PQ.seq ?_
              refine CW.cond rfl (fun h75 => ?_) (fun h75 => ?_)
              · replace h75 := bT h75
                have e75 := hb75.1 h75
                refine CW.seq ?_
                refine CW.region ?_
                first | (refine LW.v rfl rfl (Val.indexAddrA rfl rfl Tryd.underlying111 Tryd.sizeOf9 (by omega)) ?_) | (refine LW.v rfl rfl (Val.indexAddrAI rfl rfl Tryd.underlying111 Tryd.sizeOf9 (by omega) (by omega)) ?_)
                refine LW.v rfl rfl (Val.load (v := str (tx L i9 1)) rfl Tryd.isAgg9 (by repeat (first | exact .here | exact .inner .here | exact .inner (.inner .here) | refine .there ?_)) (by rfl)) ?_
                first | (refine LW.v rfl rfl (Val.indexAddrA rfl rfl Tryd.underlying111 Tryd.sizeOf9 (by omega)) ?_) | (refine LW.v rfl rfl (Val.indexAddrAI rfl rfl Tryd.underlying111 Tryd.sizeOf9 (by omega) (by omega)) ?_)
                refine LW.v rfl rfl (Val.load (v := str (tx L i9 2)) rfl Tryd.isAgg9 (by repeat (first | exact .here | exact .inner .here | exact .inner (.inner .here) | refine .there ?_)) (by rfl)) ?_
                refine LW.v rfl rfl (Val.build [_, _, _, _, _] Tryd.zeroValue41 Tryd.underlying41 places41 rfl (by rfl)) ?_
                first | (refine LW.eN rfl (Eff.storeW rfl rfl (by repeat (first | exact .here | exact .inner .here | exact .inner (.inner .here) | apply Upd.there)) (by rfl) Tryd.sizeOf41 (by rfl)) ?_) | (refine LW.eN rfl (Eff.storeA (l' := _) rfl rfl (by repeat (first | exact .here | exact .inner .here | exact .inner (.inner .here) | apply Upd.there)) (by rfl) (by decide) Tryd.sizeOf41 (by rfl)) ?_)
                intro _ _
                refine LW.v rfl rfl (Val.assign rfl) ?_
                refine LW.nil ?_
                refine PQ.seq ?_
                refine CW.ret ?_
                refine PQ.in_ret ?_
                refine PQ.then_ret ?_
                refine PQ.retCT rfl rfl rfl (by repeat (first | exact .here | exact .inner .here | exact .inner (.inner .here) | refine .there ?_)) Tryd.isAgg41 (by exact Tryd.sizeOf41) ?_
                intro w' hw
                have hp : pS1 L = _ := pS1_2 2 1 2 hx0 (by rw [e75.1]; decide) (by decide) (by decide) e75.2 (by omega) (hT (by rw [e75.1]; decide))
                rw [hp]
                exact ⟨rfl, hw.below⟩
              · replace h75 := bF h75
                have n75 := hb75.2 h75
                refine CW.seq ?_
                refine CW.regJoin (fun b : Bool => (b = true → x0 = [101, 110, 113] ∧ L.length = 2) ∧ (b = false → ¬ (x0 = [101, 110, 113] ∧ L.length = 2))) (fun b => [(0, .slice (some ⟨pb, po, none⟩) L.length cap), (1, .bool true), (4, .pointer (some ⟨b4, 0, none⟩)), (5, .bool false), (6, .pointer (some ⟨b6, 0, none⟩)), (7, .pointer (some ⟨b7, 0, none⟩)), (11, .int .i64 ((L.length : Int) - 1)), (89, .bool b)]) (fun _ => [[(b7, .cells [str (tx L i9 1), str (tx L i9 2), str (tx L i9 3)].toArray 111 (0, 0))], [(b6, .cells [.int .i64 0, .string ⟨#[]⟩, .string ⟨#[]⟩, .string ⟨#[]⟩, .slice none 0 0].toArray 41 (0, 0))], [(b4, .cells [.int .i64 0, .string ⟨#[]⟩, .string ⟨#[]⟩, .string ⟨#[]⟩, .slice none 0 0].toArray 41 (0, 0))]]) ?_ ?_
                · refine CW.region ?_
                  refine LW.v rfl rfl (Val.move rfl) ?_
                  first | (refine LW.v rfl rfl (Val.indexAddrN rfl rfl Tryd.underlying73 Tryd.sizeOf9 (by omega)) ?_) | (refine LW.v rfl rfl (Val.indexAddr rfl rfl Tryd.underlying73 Tryd.sizeOf9 (by omega) (by omega)) ?_)
                  refine LW.v rfl rfl (Val.loadO rfl Tryd.isAgg9 hb (by simp [ids]) (hr 0 x0 hx0 0 _ rfl)) ?_
                  refine LW.v rfl rfl (Val.eqStr rfl rfl) ?_
                  refine LW.v rfl rfl (Val.move rfl) ?_
                  refine LW.split (d := 94) rfl (fun h94 => ?_) (fun h94 => ?_)
                  · replace h94 := bT h94
                    refine LW.v rfl rfl (Val.move rfl) ?_
                    refine LW.v rfl rfl (Val.cmp rfl rfl rfl) ?_
                    refine LW.split (d := 96) rfl (fun h96 => ?_) (fun h96 => ?_)
                    · replace h96 := bT h96
                      refine LW.v rfl rfl (Val.pick_t rfl rfl) ?_
                      refine LW.v rfl rfl (Val.assign rfl) ?_
                      refine LW.nil ?_
                      refine PQ.joined (true) (⟨fun _ => ⟨h94, by omega⟩, (fun h => by cases h)⟩) (by repeat (first | exact trivial | refine ⟨rfl, ?_⟩)) (by repeat (first | exact .nil | apply Pick.cons | exact .here | apply Ext.there))
                    · replace h96 := bF h96
                      refine LW.v rfl rfl (Val.pick_t rfl rfl) ?_
                      refine LW.v rfl rfl (Val.assign rfl) ?_
                      refine LW.nil ?_
                      refine PQ.joined (false) (⟨(fun h => by cases h), fun _ h => h96 (by omega)⟩) (by repeat (first | exact trivial | refine ⟨rfl, ?_⟩)) (by repeat (first | exact .nil | apply Pick.cons | exact .here | apply Ext.there))
                  · replace h94 := bF h94
                    refine LW.p rfl rfl ?_
                    refine LW.p rfl rfl ?_
                    refine LW.v rfl rfl (Val.pick_f rfl rfl) ?_
                    refine LW.v rfl rfl (Val.assign rfl) ?_
                    refine LW.nil ?_
                    refine PQ.joined (false) (⟨(fun h => by cases h), fun _ h => h94 h.1⟩) (by repeat (first | exact trivial | refine ⟨rfl, ?_⟩)) (by repeat (first | exact .nil | apply Pick.cons | exact .here | apply Ext.there))
                · intro bb89 hb89
                  refine PQ.seq ?_
                  refine CW.cond rfl (fun h89 => ?_) (fun h89 => ?_)
                  · replace h89 := bT h89
                    have e89 := hb89.1 h89
                    refine CW.seq ?_
                    refine CW.region ?_
                    first | (refine LW.v rfl rfl (Val.indexAddrA rfl rfl Tryd.underlying111 Tryd.sizeOf9 (by omega)) ?_) | (refine LW.v rfl rfl (Val.indexAddrAI rfl rfl Tryd.underlying111 Tryd.sizeOf9 (by omega) (by omega)) ?_)
                    refine LW.v rfl rfl (Val.load (v := str (tx L i9 1)) rfl Tryd.isAgg9 (by repeat (first | exact .here | exact .inner .here | exact .inner (.inner .here) | refine .there ?_)) (by rfl)) ?_
                    refine LW.v rfl rfl (Val.build [_, _, _, _, _] Tryd.zeroValue41 Tryd.underlying41 places41 rfl (by rfl)) ?_
                    first | (refine LW.eN rfl (Eff.storeW rfl rfl (by repeat (first | exact .here | exact .inner .here | exact .inner (.inner .here) | apply Upd.there)) (by rfl) Tryd.sizeOf41 (by rfl)) ?_) | (refine LW.eN rfl (Eff.storeA (l' := _) rfl rfl (by repeat (first | exact .here | exact .inner .here | exact .inner (.inner .here) | apply Upd.there)) (by rfl) (by decide) Tryd.sizeOf41 (by rfl)) ?_)
                    intro _ _
                    refine LW.v rfl rfl (Val.assign rfl) ?_
                    refine LW.nil ?_
                    refine PQ.seq ?_
                    refine CW.ret ?_
                    refine PQ.in_ret ?_
                    refine PQ.then_ret ?_
                    refine PQ.retCT rfl rfl rfl (by repeat (first | exact .here | exact .inner .here | exact .inner (.inner .here) | refine .there ?_)) Tryd.isAgg41 (by exact Tryd.sizeOf41) ?_
                    intro w' hw
                    have hp : pS1 L = _ := pS1_1 4 2 hx0 (by rw [e89.1]; decide) (by decide) (by decide) e89.2 (by omega) (hT (by rw [e89.1]; decide))
                    rw [hp]
                    exact ⟨rfl, hw.below⟩
                  · replace h89 := bF h89
                    have n89 := hb89.2 h89
                    refine CW.seq ?_
                    refine CW.regJoin (fun b : Bool => (b = true → x0 = [100, 101, 113] ∧ L.length = 1) ∧ (b = false → ¬ (x0 = [100, 101, 113] ∧ L.length = 1))) (fun b => [(0, .slice (some ⟨pb, po, none⟩) L.length cap), (1, .bool true), (4, .pointer (some ⟨b4, 0, none⟩)), (5, .bool false), (6, .pointer (some ⟨b6, 0, none⟩)), (7, .pointer (some ⟨b7, 0, none⟩)), (11, .int .i64 ((L.length : Int) - 1)), (101, .bool b)]) (fun _ => [[(b7, .cells [str (tx L i9 1), str (tx L i9 2), str (tx L i9 3)].toArray 111 (0, 0))], [(b6, .cells [.int .i64 0, .string ⟨#[]⟩, .string ⟨#[]⟩, .string ⟨#[]⟩, .slice none 0 0].toArray 41 (0, 0))], [(b4, .cells [.int .i64 0, .string ⟨#[]⟩, .string ⟨#[]⟩, .string ⟨#[]⟩, .slice none 0 0].toArray 41 (0, 0))]]) ?_ ?_
                    · refine CW.region ?_
                      refine LW.v rfl rfl (Val.move rfl) ?_
                      first | (refine LW.v rfl rfl (Val.indexAddrN rfl rfl Tryd.underlying73 Tryd.sizeOf9 (by omega)) ?_) | (refine LW.v rfl rfl (Val.indexAddr rfl rfl Tryd.underlying73 Tryd.sizeOf9 (by omega) (by omega)) ?_)
                      refine LW.v rfl rfl (Val.loadO rfl Tryd.isAgg9 hb (by simp [ids]) (hr 0 x0 hx0 0 _ rfl)) ?_
                      refine LW.v rfl rfl (Val.eqStr rfl rfl) ?_
                      refine LW.v rfl rfl (Val.move rfl) ?_
                      refine LW.split (d := 106) rfl (fun h106 => ?_) (fun h106 => ?_)
                      · replace h106 := bT h106
                        refine LW.v rfl rfl (Val.move rfl) ?_
                        refine LW.v rfl rfl (Val.cmp rfl rfl rfl) ?_
                        refine LW.split (d := 108) rfl (fun h108 => ?_) (fun h108 => ?_)
                        · replace h108 := bT h108
                          refine LW.v rfl rfl (Val.pick_t rfl rfl) ?_
                          refine LW.v rfl rfl (Val.assign rfl) ?_
                          refine LW.nil ?_
                          refine PQ.joined (true) (⟨fun _ => ⟨h106, by omega⟩, (fun h => by cases h)⟩) (by repeat (first | exact trivial | refine ⟨rfl, ?_⟩)) (by repeat (first | exact .nil | apply Pick.cons | exact .here | apply Ext.there))
                        · replace h108 := bF h108
                          refine LW.v rfl rfl (Val.pick_t rfl rfl) ?_
                          refine LW.v rfl rfl (Val.assign rfl) ?_
                          refine LW.nil ?_
                          refine PQ.joined (false) (⟨(fun h => by cases h), fun _ h => h108 (by omega)⟩) (by repeat (first | exact trivial | refine ⟨rfl, ?_⟩)) (by repeat (first | exact .nil | apply Pick.cons | exact .here | apply Ext.there))
                      · replace h106 := bF h106
                        refine LW.p rfl rfl ?_
                        refine LW.p rfl rfl ?_
                        refine LW.v rfl rfl (Val.pick_f rfl rfl) ?_
                        refine LW.v rfl rfl (Val.assign rfl) ?_
                        refine LW.nil ?_
                        refine PQ.joined (false) (⟨(fun h => by cases h), fun _ h => h106 h.1⟩) (by repeat (first | exact trivial | refine ⟨rfl, ?_⟩)) (by repeat (first | exact .nil | apply Pick.cons | exact .here | apply Ext.there))
                    · intro bb101 hb101
                      refine PQ.seq ?_
                      refine CW.cond rfl (fun h101 => ?_) (fun h101 => ?_)
                      · replace h101 := bT h101
                        have e101 := hb101.1 h101
                        refine CW.seq ?_
                        refine CW.region ?_
                        refine LW.v rfl rfl (Val.build [_, _, _, _, _] Tryd.zeroValue41 Tryd.underlying41 places41 rfl (by rfl)) ?_
                        first | (refine LW.eN rfl (Eff.storeW rfl rfl (by repeat (first | exact .here | exact .inner .here | exact .inner (.inner .here) | apply Upd.there)) (by rfl) Tryd.sizeOf41 (by rfl)) ?_) | (refine LW.eN rfl (Eff.storeA (l' := _) rfl rfl (by repeat (first | exact .here | exact .inner .here | exact .inner (.inner .here) | apply Upd.there)) (by rfl) (by decide) Tryd.sizeOf41 (by rfl)) ?_)
                        intro _ _
                        refine LW.v rfl rfl (Val.assign rfl) ?_
                        refine LW.nil ?_
                        refine PQ.seq ?_
                        refine CW.ret ?_
                        refine PQ.in_ret ?_
                        refine PQ.then_ret ?_
                        refine PQ.retCT rfl rfl rfl (by repeat (first | exact .here | exact .inner .here | exact .inner (.inner .here) | refine .there ?_)) Tryd.isAgg41 (by exact Tryd.sizeOf41) ?_
                        intro w' hw
                        have hp : pS1 L = _ := pS1_0 5  hx0 (by rw [e101.1]; decide) (by decide) (by decide) e101.2
                        rw [hp]
                        exact ⟨rfl, hw.below⟩
                      · replace h101 := bF h101
                        have n101 := hb101.2 h101
                        refine CW.seq ?_
                        refine CW.regJoin (fun b : Bool => (b = true → x0 = [115, 121, 110, 99] ∧ L.length = 1) ∧ (b = false → ¬ (x0 = [115, 121, 110, 99] ∧ L.length = 1))) (fun b => [(0, .slice (some ⟨pb, po, none⟩) L.length cap), (1, .bool true), (4, .pointer (some ⟨b4, 0, none⟩)), (5, .bool false), (6, .pointer (some ⟨b6, 0, none⟩)), (7, .pointer (some ⟨b7, 0, none⟩)), (11, .int .i64 ((L.length : Int) - 1)), (111, .bool b)]) (fun _ => [[(b7, .cells [str (tx L i9 1), str (tx L i9 2), str (tx L i9 3)].toArray 111 (0, 0))], [(b6, .cells [.int .i64 0, .string ⟨#[]⟩, .string ⟨#[]⟩, .string ⟨#[]⟩, .slice none 0 0].toArray 41 (0, 0))], [(b4, .cells [.int .i64 0, .string ⟨#[]⟩, .string ⟨#[]⟩, .string ⟨#[]⟩, .slice none 0 0].toArray 41 (0, 0))]]) ?_ ?_
                        · refine CW.region ?_
                          refine LW.v rfl rfl (Val.move rfl) ?_
                          first | (refine LW.v rfl rfl (Val.indexAddrN rfl rfl Tryd.underlying73 Tryd.sizeOf9 (by omega)) ?_) | (refine LW.v rfl rfl (Val.indexAddr rfl rfl Tryd.underlying73 Tryd.sizeOf9 (by omega) (by omega)) ?_)
                          refine LW.v rfl rfl (Val.loadO rfl Tryd.isAgg9 hb (by simp [ids]) (hr 0 x0 hx0 0 _ rfl)) ?_
                          refine LW.v rfl rfl (Val.eqStr rfl rfl) ?_
                          refine LW.v rfl rfl (Val.move rfl) ?_
                          refine LW.split (d := 116) rfl (fun h116 => ?_) (fun h116 => ?_)
                          · replace h116 := bT h116
                            refine LW.v rfl rfl (Val.move rfl) ?_
                            refine LW.v rfl rfl (Val.cmp rfl rfl rfl) ?_
                            refine LW.split (d := 118) rfl (fun h118 => ?_) (fun h118 => ?_)
                            · replace h118 := bT h118
                              refine LW.v rfl rfl (Val.pick_t rfl rfl) ?_
                              refine LW.v rfl rfl (Val.assign rfl) ?_
                              refine LW.nil ?_
                              refine PQ.joined (true) (⟨fun _ => ⟨h116, by omega⟩, (fun h => by cases h)⟩) (by repeat (first | exact trivial | refine ⟨rfl, ?_⟩)) (by repeat (first | exact .nil | apply Pick.cons | exact .here | apply Ext.there))
                            · replace h118 := bF h118
                              refine LW.v rfl rfl (Val.pick_t rfl rfl) ?_
                              refine LW.v rfl rfl (Val.assign rfl) ?_
                              refine LW.nil ?_
                              refine PQ.joined (false) (⟨(fun h => by cases h), fun _ h => h118 (by omega)⟩) (by repeat (first | exact trivial | refine ⟨rfl, ?_⟩)) (by repeat (first | exact .nil | apply Pick.cons | exact .here | apply Ext.there))
                          · replace h116 := bF h116
                            refine LW.p rfl rfl ?_
                            refine LW.p rfl rfl ?_
                            refine LW.v rfl rfl (Val.pick_f rfl rfl) ?_
                            refine LW.v rfl rfl (Val.assign rfl) ?_
                            refine LW.nil ?_
                            refine PQ.joined (false) (⟨(fun h => by cases h), fun _ h => h116 h.1⟩) (by repeat (first | exact trivial | refine ⟨rfl, ?_⟩)) (by repeat (first | exact .nil | apply Pick.cons | exact .here | apply Ext.there))
                        · intro bb111 hb111
                          refine PQ.seq ?_
                          refine CW.cond rfl (fun h111 => ?_) (fun h111 => ?_)
                          · replace h111 := bT h111
                            have e111 := hb111.1 h111
                            refine CW.seq ?_
                            refine CW.region ?_
                            refine LW.v rfl rfl (Val.build [_, _, _, _, _] Tryd.zeroValue41 Tryd.underlying41 places41 rfl (by rfl)) ?_
                            first | (refine LW.eN rfl (Eff.storeW rfl rfl (by repeat (first | exact .here | exact .inner .here | exact .inner (.inner .here) | apply Upd.there)) (by rfl) Tryd.sizeOf41 (by rfl)) ?_) | (refine LW.eN rfl (Eff.storeA (l' := _) rfl rfl (by repeat (first | exact .here | exact .inner .here | exact .inner (.inner .here) | apply Upd.there)) (by rfl) (by decide) Tryd.sizeOf41 (by rfl)) ?_)
                            intro _ _
                            refine LW.v rfl rfl (Val.assign rfl) ?_
                            refine LW.nil ?_
                            refine PQ.seq ?_
                            refine CW.ret ?_
                            refine PQ.in_ret ?_
                            refine PQ.then_ret ?_
                            refine PQ.retCT rfl rfl rfl (by repeat (first | exact .here | exact .inner .here | exact .inner (.inner .here) | refine .there ?_)) Tryd.isAgg41 (by exact Tryd.sizeOf41) ?_
                            intro w' hw
                            have hp : pS1 L = _ := pS1_0 8  hx0 (by rw [e111.1]; decide) (by decide) (by decide) e111.2
                            rw [hp]
                            exact ⟨rfl, hw.below⟩
                          · replace h111 := bF h111
                            have n111 := hb111.2 h111
                            refine CW.seq ?_
                            refine CW.regJoin (fun b : Bool => (b = true → x0 = [115, 99, 97, 110] ∧ L.length = 3) ∧ (b = false → ¬ (x0 = [115, 99, 97, 110] ∧ L.length = 3))) (fun b => [(0, .slice (some ⟨pb, po, none⟩) L.length cap), (1, .bool true), (4, .pointer (some ⟨b4, 0, none⟩)), (5, .bool false), (6, .pointer (some ⟨b6, 0, none⟩)), (7, .pointer (some ⟨b7, 0, none⟩)), (11, .int .i64 ((L.length : Int) - 1)), (121, .bool b)]) (fun _ => [[(b7, .cells [str (tx L i9 1), str (tx L i9 2), str (tx L i9 3)].toArray 111 (0, 0))], [(b6, .cells [.int .i64 0, .string ⟨#[]⟩, .string ⟨#[]⟩, .string ⟨#[]⟩, .slice none 0 0].toArray 41 (0, 0))], [(b4, .cells [.int .i64 0, .string ⟨#[]⟩, .string ⟨#[]⟩, .string ⟨#[]⟩, .slice none 0 0].toArray 41 (0, 0))]]) ?_ ?_
                            · refine CW.region ?_
                              refine LW.v rfl rfl (Val.move rfl) ?_
                              first | (refine LW.v rfl rfl (Val.indexAddrN rfl rfl Tryd.underlying73 Tryd.sizeOf9 (by omega)) ?_) | (refine LW.v rfl rfl (Val.indexAddr rfl rfl Tryd.underlying73 Tryd.sizeOf9 (by omega) (by omega)) ?_)
                              refine LW.v rfl rfl (Val.loadO rfl Tryd.isAgg9 hb (by simp [ids]) (hr 0 x0 hx0 0 _ rfl)) ?_
                              refine LW.v rfl rfl (Val.eqStr rfl rfl) ?_
                              refine LW.v rfl rfl (Val.move rfl) ?_
                              refine LW.split (d := 126) rfl (fun h126 => ?_) (fun h126 => ?_)
                              · replace h126 := bT h126
                                refine LW.v rfl rfl (Val.move rfl) ?_
                                refine LW.v rfl rfl (Val.cmp rfl rfl rfl) ?_
                                refine LW.split (d := 128) rfl (fun h128 => ?_) (fun h128 => ?_)
                                · replace h128 := bT h128
                                  refine LW.v rfl rfl (Val.pick_t rfl rfl) ?_
                                  refine LW.v rfl rfl (Val.assign rfl) ?_
                                  refine LW.nil ?_
                                  refine PQ.joined (true) (⟨fun _ => ⟨h126, by omega⟩, (fun h => by cases h)⟩) (by repeat (first | exact trivial | refine ⟨rfl, ?_⟩)) (by repeat (first | exact .nil | apply Pick.cons | exact .here | apply Ext.there))
                                · replace h128 := bF h128
                                  refine LW.v rfl rfl (Val.pick_t rfl rfl) ?_
                                  refine LW.v rfl rfl (Val.assign rfl) ?_
                                  refine LW.nil ?_
                                  refine PQ.joined (false) (⟨(fun h => by cases h), fun _ h => h128 (by omega)⟩) (by repeat (first | exact trivial | refine ⟨rfl, ?_⟩)) (by repeat (first | exact .nil | apply Pick.cons | exact .here | apply Ext.there))
                              · replace h126 := bF h126
                                refine LW.p rfl rfl ?_
                                refine LW.p rfl rfl ?_
                                refine LW.v rfl rfl (Val.pick_f rfl rfl) ?_
                                refine LW.v rfl rfl (Val.assign rfl) ?_
                                refine LW.nil ?_
                                refine PQ.joined (false) (⟨(fun h => by cases h), fun _ h => h126 h.1⟩) (by repeat (first | exact trivial | refine ⟨rfl, ?_⟩)) (by repeat (first | exact .nil | apply Pick.cons | exact .here | apply Ext.there))
                            · intro bb121 hb121
                              refine PQ.seq ?_
                              refine CW.cond rfl (fun h121 => ?_) (fun h121 => ?_)
                              · replace h121 := bT h121
                                have e121 := hb121.1 h121
                                refine CW.seq ?_
                                refine CW.region ?_
                                first | (refine LW.v rfl rfl (Val.indexAddrA rfl rfl Tryd.underlying111 Tryd.sizeOf9 (by omega)) ?_) | (refine LW.v rfl rfl (Val.indexAddrAI rfl rfl Tryd.underlying111 Tryd.sizeOf9 (by omega) (by omega)) ?_)
                                refine LW.v rfl rfl (Val.load (v := str (tx L i9 1)) rfl Tryd.isAgg9 (by repeat (first | exact .here | exact .inner .here | exact .inner (.inner .here) | refine .there ?_)) (by rfl)) ?_
                                first | (refine LW.v rfl rfl (Val.indexAddrA rfl rfl Tryd.underlying111 Tryd.sizeOf9 (by omega)) ?_) | (refine LW.v rfl rfl (Val.indexAddrAI rfl rfl Tryd.underlying111 Tryd.sizeOf9 (by omega) (by omega)) ?_)
                                refine LW.v rfl rfl (Val.load (v := str (tx L i9 2)) rfl Tryd.isAgg9 (by repeat (first | exact .here | exact .inner .here | exact .inner (.inner .here) | refine .there ?_)) (by rfl)) ?_
                                refine LW.v rfl rfl (Val.build [_, _, _, _, _] Tryd.zeroValue41 Tryd.underlying41 places41 rfl (by rfl)) ?_
                                first | (refine LW.eN rfl (Eff.storeW rfl rfl (by repeat (first | exact .here | exact .inner .here | exact .inner (.inner .here) | apply Upd.there)) (by rfl) Tryd.sizeOf41 (by rfl)) ?_) | (refine LW.eN rfl (Eff.storeA (l' := _) rfl rfl (by repeat (first | exact .here | exact .inner .here | exact .inner (.inner .here) | apply Upd.there)) (by rfl) (by decide) Tryd.sizeOf41 (by rfl)) ?_)
                                intro _ _
                                refine LW.v rfl rfl (Val.assign rfl) ?_
                                refine LW.nil ?_
                                refine PQ.seq ?_
                                refine CW.ret ?_
                                refine PQ.in_ret ?_
                                refine PQ.then_ret ?_
                                refine PQ.retCT rfl rfl rfl (by repeat (first | exact .here | exact .inner .here | exact .inner (.inner .here) | refine .there ?_)) Tryd.isAgg41 (by exact Tryd.sizeOf41) ?_
                                intro w' hw
                                have hp : pS1 L = _ := pS1_2 6 1 3 hx0 (by rw [e121.1]; decide) (by decide) (by decide) e121.2 (by omega) (hT (by rw [e121.1]; decide))
                                rw [hp]
                                exact ⟨rfl, hw.below⟩
                              · replace h121 := bF h121
                                have n121 := hb121.2 h121
                                refine CW.seq ?_
                                refine CW.regJoin (fun b : Bool => b = false) (fun b => [(0, .slice (some ⟨pb, po, none⟩) L.length cap), (1, .bool true), (4, .pointer (some ⟨b4, 0, none⟩)), (5, .bool false), (6, .pointer (some ⟨b6, 0, none⟩)), (7, .pointer (some ⟨b7, 0, none⟩)), (11, .int .i64 ((L.length : Int) - 1)), (135, .bool false)]) (fun _ => [[(b7, .cells [str (tx L i9 1), str (tx L i9 2), str (tx L i9 3)].toArray 111 (0, 0))], [(b6, .cells [.int .i64 0, .string ⟨#[]⟩, .string ⟨#[]⟩, .string ⟨#[]⟩, .slice none 0 0].toArray 41 (0, 0))], [(b4, .cells [.int .i64 0, .string ⟨#[]⟩, .string ⟨#[]⟩, .string ⟨#[]⟩, .slice none 0 0].toArray 41 (0, 0))]]) ?_ ?_
                                · refine CW.region ?_
                                  refine LW.v rfl rfl (Val.move rfl) ?_
                                  first | (refine LW.v rfl rfl (Val.indexAddrN rfl rfl Tryd.underlying73 Tryd.sizeOf9 (by omega)) ?_) | (refine LW.v rfl rfl (Val.indexAddr rfl rfl Tryd.underlying73 Tryd.sizeOf9 (by omega) (by omega)) ?_)
                                  refine LW.v rfl rfl (Val.loadO rfl Tryd.isAgg9 hb (by simp [ids]) (hr 0 x0 hx0 0 _ rfl)) ?_
                                  refine LW.v rfl rfl (Val.eqStr rfl rfl) ?_
                                  refine LW.v rfl rfl (Val.move rfl) ?_
                                  refine LW.split (d := 140) rfl (fun h140 => ?_) (fun h140 => ?_)
                                  · replace h140 := bT h140
                                    refine LW.v rfl rfl (Val.move rfl) ?_
                                    refine LW.v rfl rfl (Val.cmp rfl rfl rfl) ?_
                                    refine LW.split (d := 142) rfl (fun h142 => ?_) (fun h142 => ?_)
                                    · replace h142 := bT h142
                                      refine LW.v rfl rfl (Val.pick_t rfl rfl) ?_
                                      refine LW.v rfl rfl (Val.move rfl) ?_
                                      refine LW.v rfl rfl (Val.move rfl) ?_
                                      refine LW.v rfl rfl (Val.not rfl) ?_
                                      refine LW.v rfl rfl (Val.pick_t rfl rfl) ?_
                                      refine LW.v rfl rfl (Val.assign rfl) ?_
                                      refine LW.nil ?_
                                      refine PQ.joined (false) (rfl) (by repeat (first | exact trivial | refine ⟨rfl, ?_⟩)) (by repeat (first | exact .nil | apply Pick.cons | exact .here | apply Ext.there))
                                    · replace h142 := bF h142
                                      refine LW.v rfl rfl (Val.pick_t rfl rfl) ?_
                                      refine LW.v rfl rfl (Val.move rfl) ?_
                                      refine LW.p rfl rfl ?_
                                      refine LW.p rfl rfl ?_
                                      refine LW.v rfl rfl (Val.pick_f rfl rfl) ?_
                                      refine LW.v rfl rfl (Val.assign rfl) ?_
                                      refine LW.nil ?_
                                      refine PQ.joined (false) (rfl) (by repeat (first | exact trivial | refine ⟨rfl, ?_⟩)) (by repeat (first | exact .nil | apply Pick.cons | exact .here | apply Ext.there))
                                  · replace h140 := bF h140
                                    refine LW.p rfl rfl ?_
                                    refine LW.p rfl rfl ?_
                                    refine LW.v rfl rfl (Val.pick_f rfl rfl) ?_
                                    refine LW.v rfl rfl (Val.move rfl) ?_
                                    refine LW.p rfl rfl ?_
                                    refine LW.p rfl rfl ?_
                                    refine LW.v rfl rfl (Val.pick_f rfl rfl) ?_
                                    refine LW.v rfl rfl (Val.assign rfl) ?_
                                    refine LW.nil ?_
                                    refine PQ.joined (false) (rfl) (by repeat (first | exact trivial | refine ⟨rfl, ?_⟩)) (by repeat (first | exact .nil | apply Pick.cons | exact .here | apply Ext.there))
                                · intro _ _
                                  refine PQ.seq ?_
                                  refine CW.cond_f rfl ?_
                                  refine CW.skip ?_
                                  refine PQ.in_normal ?_
                                  refine PQ.seq ?_
                                  refine CW.seq ?_
                                  refine CW.region ?_
                                  first | (refine LW.v rfl rfl (Val.loadW rfl Tryd.isAgg41 (by repeat (first | exact .here | exact .inner .here | exact .inner (.inner .here) | refine .there ?_)) (by exact Tryd.sizeOf41)) ?_) | (refine LW.v rfl rfl (Val.loadA [_, _, _, _, _] rfl Tryd.isAgg41 (by repeat (first | exact .here | exact .inner .here | exact .inner (.inner .here) | refine .there ?_)) (by rfl) Tryd.sizeOf41) ?_)
                                  first | (refine LW.eN rfl (Eff.storeW rfl rfl (by repeat (first | exact .here | exact .inner .here | exact .inner (.inner .here) | apply Upd.there)) (by rfl) Tryd.sizeOf41 (by rfl)) ?_) | (refine LW.eN rfl (Eff.storeA (l' := _) rfl rfl (by repeat (first | exact .here | exact .inner .here | exact .inner (.inner .here) | apply Upd.there)) (by rfl) (by decide) Tryd.sizeOf41 (by rfl)) ?_)
                                  intro _ _
                                  refine LW.v rfl rfl (Val.assign rfl) ?_
                                  refine LW.nil ?_
                                  refine PQ.seq ?_
                                  refine CW.ret ?_
                                  refine PQ.retCT rfl rfl rfl (by repeat (first | exact .here | exact .inner .here | exact .inner (.inner .here) | refine .there ?_)) Tryd.isAgg41 (by exact Tryd.sizeOf41) ?_
                                  intro w' hw
                                  have hp : pS1 L = none := pS1_none hx0 n51 n63 n75 n89 n101 n111 n121
                                  rw [hp]
                                  exact ⟨rfl, hw.below⟩
end Go.Proofs.YtagliemeolngiaaDoor

/- The document's calls, read out of words; groups. -/
namespace Go.Proofs.YtagliemeolngiaaDoor
open Go Go.RowKit V
set_option linter.unusedVariables false
set_option maxRecDepth 100000
open V (str byC ownV ownG ownS ownOk)
/-- A call, of all the words. -/
def pCA (L : List (List UInt8)) : Option (Cq × List Cq) := match pCall L with
  | some (v, []) => some v
  | _ => none
theorem pCA_s {L : List (List UInt8)} {w : List UInt8} (hw : L[0]? = some w) (hn : w ≠ [103, 114, 111, 117, 112]) : pCA L = (pS1 L).map fun c => (c, []) := by
  cases L with
  | nil => rfl
  | cons a r =>
    simp at hw; subst hw
    simp only [pCA, pCall, pS1]
    rw [if_neg hn]
    cases pSingle a r with
    | none => rfl
    | some y =>
      obtain ⟨c, L⟩ := y
      cases L <;> rfl
theorem pCA_gr {L : List (List UInt8)} {w : List UInt8} (hw : L[0]? = some w) (hn : w = [103, 114, 111, 117, 112]) : pCA L = match pGr (L.drop 1) with | some (gl, []) => some (c0q 7, gl) | _ => none := by
  cases L with
  | nil => simp at hw
  | cons a r =>
    simp at hw; subst hw
    simp only [pCA, pCall]
    rw [if_pos hn]
    simp only [List.drop_succ_cons, List.drop_zero]
    cases pGr r with
    | none => rfl
    | some y =>
      obtain ⟨c, L⟩ := y
      cases L <;> rfl
theorem drop_atL {l : List (List UInt8)} {k : Nat} {c : List UInt8} (h : l[k]? = some c) : l.drop k = c :: l.drop (k + 1) := by
  have hlt := (List.getElem?_eq_some_iff.1 h).1
  rw [List.drop_eq_getElem_cons hlt]
  have := List.getElem?_eq_getElem hlt
  rw [h] at this
  rw [(Option.some.inj this)]
theorem pGr_nil : pGr [] = none := rfl
theorem pCA_g1 {L : List (List UInt8)} {w : List UInt8} (hw : L[0]? = some w) (hn : w = [103, 114, 111, 117, 112]) (hl : L.length = 1) : pCA L = none := by
  rw [pCA_gr hw hn, show L.drop 1 = [] from List.drop_eq_nil_iff.2 (by omega), pGr_nil]
/-- A group's words, parted so far. -/
def GI (L : List (List UInt8)) (a i : Nat) (gl : List Cq) : Prop := gl.length < a ∧ a ≤ i ∧ (∀ j, a ≤ j → j < i → L[j]? ≠ some [59]) ∧ ((i ≤ L.length ∧ pGr (L.drop 1) = (pGr (L.drop a)).map fun y => (gl ++ y.1, y.2)) ∨ (i = L.length + 1 ∧ pGr (L.drop 1) = some (gl, [])))
theorem GI.keep {L : List (List UInt8)} {a i : Nat} {gl : List Cq} {x : List UInt8} (h : GI L a i gl) (hx : L[i]? = some x) (hn : x ≠ [59]) : GI L a (i + 1) gl := by
  have hi := (List.getElem?_eq_some_iff.1 hx).1
  obtain ⟨h1, h2, h3, h4⟩ := h
  refine ⟨h1, by omega, fun j h5 h6 => ?_, ?_⟩
  · by_cases hj : j = i
    · subst hj; rw [hx]; intro e; exact hn (Option.some.inj e)
    · exact h3 j h5 (by omega)
  · rcases h4 with ⟨_, h4⟩ | ⟨h4, _⟩
    · exact .inl ⟨by omega, h4⟩
    · omega
theorem GI.empty {L : List (List UInt8)} {i : Nat} {gl : List Cq} (h : GI L i i gl) (hi : i ≤ L.length) (he : i = L.length ∨ L[i]? = some [59]) : pGr (L.drop 1) = none := by
  obtain ⟨h1, h2, h3, h4⟩ := h
  rcases h4 with ⟨_, h4⟩ | ⟨h4, _⟩
  · rw [h4]
    rcases he with he | he
    · rw [show L.drop i = [] from List.drop_eq_nil_iff.2 (by omega), pGr_nil]; rfl
    · rw [drop_atL he, pGr_semi]; rfl
  · omega
theorem GI.mid {L : List (List UInt8)} {a i : Nat} (h3 : ∀ j, a ≤ j → j < i → L[j]? ≠ some [59]) : ∀ x ∈ (L.drop a).take (i - a), x ≠ [59] := fun x hx e => by
  subst e
  obtain ⟨j, hj, he⟩ := List.getElem_of_mem hx
  have hj2 : j < i - a := by rw [List.length_take] at hj; omega
  refine h3 (a + j) (by omega) (by omega) ?_
  rw [← List.getElem?_drop, ← List.getElem?_take_of_lt hj2, List.getElem?_eq_getElem hj, he]
theorem GI.eq {L : List (List UInt8)} {a i : Nat} (ha : a ≤ i) (hi : i ≤ L.length) (he : i = L.length ∨ L[i]? = some [59]) : L.drop a = (if i = L.length then (L.drop a).take (i - a) else (L.drop a).take (i - a) ++ [59] :: L.drop (i + 1)) := by
  conv => lhs; rw [← List.take_append_drop (i - a) (L.drop a)]
  rw [List.drop_drop, show a + (i - a) = i by omega]
  split
  · rw [show L.drop i = [] from List.drop_eq_nil_iff.2 (by omega), List.append_nil]
  · rcases he with he | he
    · exact absurd he (by assumption)
    · rw [drop_atL he]
theorem GI.part {L : List (List UInt8)} {a i : Nat} (ha : a < i) (hi : i ≤ L.length) : ((L.drop a).take (i - a)).length = i - a := by rw [List.length_take, List.length_drop]; omega
theorem GI.fail {L : List (List UInt8)} {a i : Nat} {gl : List Cq} (h : GI L a i gl) (ha : a < i) (hi : i ≤ L.length) (he : i = L.length ∨ L[i]? = some [59]) (hp : pS1 ((L.drop a).take (i - a)) = none) : pGr (L.drop 1) = none := by
  obtain ⟨h1, h2, h3, h4⟩ := h
  have hne : (L.drop a).take (i - a) ≠ [] := by intro e; have := GI.part ha hi; rw [e] at this; simp at this; omega
  obtain ⟨h5, h6⟩ := (pGr_part (GI.mid h3) hne).1 hp
  rcases h4 with ⟨_, h4⟩ | ⟨h4, _⟩
  · rw [h4, GI.eq h2 hi he]
    split
    · rw [h5]; rfl
    · rw [h6]; rfl
  · omega
theorem GI.next {L : List (List UInt8)} {a i : Nat} {gl : List Cq} {c : Cq} (h : GI L a i gl) (ha : a < i) (hi : i ≤ L.length) (he : i = L.length ∨ L[i]? = some [59]) (hp : pS1 ((L.drop a).take (i - a)) = some c) : GI L (i + 1) (i + 1) (gl ++ [c]) := by
  obtain ⟨h1, h2, h3, h4⟩ := h
  have hne : (L.drop a).take (i - a) ≠ [] := by intro e; have := GI.part ha hi; rw [e] at this; simp at this; omega
  obtain ⟨h5, h6⟩ := (pGr_part (GI.mid h3) hne).2 c hp
  refine ⟨by simp; omega, Nat.le_refl _, fun j h7 h8 => by omega, ?_⟩
  rcases h4 with ⟨_, h4⟩ | ⟨h4, _⟩
  · rw [GI.eq h2 hi he] at h4
    by_cases hl : i = L.length
    · rw [if_pos hl, h5] at h4
      exact .inr ⟨by omega, by rw [h4]; rfl⟩
    · rw [if_neg hl, h6] at h4
      refine .inl ⟨by omega, ?_⟩
      rw [h4]
      cases pGr (L.drop (i + 1)) with
      | none => rfl
      | some y => simp
  · omega
theorem GI.last {L : List (List UInt8)} {a i : Nat} {gl : List Cq} (h : GI L a i gl) (hi : L.length < i) : pGr (L.drop 1) = some (gl, []) := by
  obtain ⟨_, _, _, ⟨h4, _⟩ | ⟨_, h4⟩⟩ := h
  · omega
  · exact h4
theorem rcalled_c (p : Option Addr) (cap : Nat) (L : List (List UInt8)) (hne : L ≠ []) (hcap : L.length ≤ cap) (hL : ∀ x ∈ L, x.length ≤ 70000) (hcnt : L.length ≤ 70001) (w : World) (hs : V.slAt w p 1 stE L) : Calls Tryd.prog 63 [.slice p L.length cap, .bool false].toArray w fun e w' => ∃ y : Bool × Cq × List Cq × V.OwnO, ((y.1 = true → pCA L = some (y.2.1, y.2.2.1)) ∧ (y.1 = false → pCA L = none) ∧ ownOk 5 y.2.2.1.length (y.2.2.1.flatMap Cq.cells) y.2.2.2 ∧ (y.2.1.grp = nilSl ∧ y.2.1.small) ∧ ∀ x ∈ y.2.2.1, x.grp = nilSl ∧ x.small) ∧ e = .returned (.tuple #[.agg (y.2.1.re (ownSl y.2.2.1.length y.2.2.2)).cells.toArray, .bool y.1]) ∧ Hp ⟨w, []⟩ [ownG 41 (y.2.2.1.flatMap Cq.cells) y.2.2.2] w' := by
  obtain ⟨x0, hx0⟩ : ∃ x, L[0]? = some x := ⟨L[0]'(by have := List.length_pos_iff.2 hne; omega), by simp⟩
  obtain ⟨pb, po, rfl, hb, hr⟩ := stE_at hs hne
  have hpos := List.length_pos_iff.2 hne
  refine V.calls [] Tryd.func63 rfl Tryd.ntmps63 (Nat.le_of_ble_eq_true rfl) (V.sat_nil _) ?_
  refine CW.seq ?_
  refine CW.region ?_
  refine LW.e rfl rfl (Eff.allocA (by exact Tryd.zeroValue41)) ?_
  intro b4 _
  refine LW.v rfl rfl (Val.assign rfl) ?_
  refine LW.nil ?_
  refine PQ.seq ?_
  refine CW.seq ?_
  refine CW.region ?_
  refine LW.v rfl rfl (Val.build [_, _, _, _, _] Tryd.zeroValue41 Tryd.underlying41 places41 rfl (by rfl)) ?_
  refine LW.e rfl rfl (Eff.allocA (by exact Tryd.zeroValue41)) ?_
  intro b6 _
  first | (refine LW.eN rfl (Eff.storeW rfl rfl (by repeat (first | exact .here | exact .inner .here | exact .inner (.inner .here) | apply Upd.there)) (by rfl) Tryd.sizeOf41 (by rfl)) ?_) | (refine LW.eN rfl (Eff.storeA (l' := _) rfl rfl (by repeat (first | exact .here | exact .inner .here | exact .inner (.inner .here) | apply Upd.there)) (by rfl) (by decide) Tryd.sizeOf41 (by rfl)) ?_)
  intro _ _
  refine LW.nil ?_
  refine PQ.seq ?_
  refine CW.seq ?_
  refine CW.region ?_
  refine LW.e rfl rfl (Eff.allocA (by exact Tryd.zeroValue111)) ?_
  intro b7 _
  refine LW.nil ?_
  refine PQ.seq ?_
  refine CW.seq ?_
  refine CW.join (fun i9 : Nat => 1 ≤ i9 ∧ i9 ≤ 4 ∧ i9 ≤ L.length ∧ (x0 ≠ [103, 114, 111, 117, 112] → TOk L i9) ∧ (L.length ≤ i9 ∨ 4 ≤ i9)) (fun i9 => [(0, .slice (some ⟨pb, po, none⟩) L.length cap), (1, .bool false), (4, .pointer (some ⟨b4, 0, none⟩)), (5, .bool false), (6, .pointer (some ⟨b6, 0, none⟩)), (7, .pointer (some ⟨b7, 0, none⟩))]) (fun i9 => [[(b7, .cells [str (tx L i9 1), str (tx L i9 2), str (tx L i9 3)].toArray 111 (0, 0))], [(b6, .cells [.int .i64 0, .string ⟨#[]⟩, .string ⟨#[]⟩, .string ⟨#[]⟩, .slice none 0 0].toArray 41 (0, 0))], [(b4, .cells [.int .i64 0, .string ⟨#[]⟩, .string ⟨#[]⟩, .string ⟨#[]⟩, .slice none 0 0].toArray 41 (0, 0))]]) ?_ ?_
  · refine CW.seq ?_
    refine CW.region ?_
    refine LW.v rfl rfl (Val.assign rfl) ?_
    refine LW.nil ?_
    refine PQ.seq ?_
    refine CW.block ?_
    refine V.CW.perm (sg' := [[(b7, .cells [str (tx L 1 1), str (tx L 1 2), str (tx L 1 3)].toArray 111 (0, 0))], [(b6, .cells [.int .i64 0, .string ⟨#[]⟩, .string ⟨#[]⟩, .string ⟨#[]⟩, .slice none 0 0].toArray 41 (0, 0))], [(b4, .cells [.int .i64 0, .string ⟨#[]⟩, .string ⟨#[]⟩, .string ⟨#[]⟩, .slice none 0 0].toArray 41 (0, 0))]]) ?_ (.refl _)
    refine CW.loop (γ := Nat) (fun i9 => [(0, .slice (some ⟨pb, po, none⟩) L.length cap), (1, .bool false), (4, .pointer (some ⟨b4, 0, none⟩)), (5, .bool false), (6, .pointer (some ⟨b6, 0, none⟩)), (7, .pointer (some ⟨b7, 0, none⟩)), (8, .int .i64 (i9 : Nat))]) (fun i9 => [[(b7, .cells [str (tx L i9 1), str (tx L i9 2), str (tx L i9 3)].toArray 111 (0, 0))], [(b6, .cells [.int .i64 0, .string ⟨#[]⟩, .string ⟨#[]⟩, .string ⟨#[]⟩, .slice none 0 0].toArray 41 (0, 0))], [(b4, .cells [.int .i64 0, .string ⟨#[]⟩, .string ⟨#[]⟩, .string ⟨#[]⟩, .slice none 0 0].toArray 41 (0, 0))]]) (fun i9 => 1 ≤ i9 ∧ i9 ≤ 4 ∧ i9 ≤ L.length ∧ (x0 ≠ [103, 114, 111, 117, 112] → TOk L i9)) (fun i9 => 4 - i9) (1) ⟨Nat.le_refl _, by omega, hpos, fun _ j x h1 h2 => by omega⟩ (by repeat (first | exact trivial | refine ⟨rfl, ?_⟩)) (by repeat (first | exact .nil | apply Pick.cons | exact .here | apply Ext.there)) ?_
    intro i9
    rintro ⟨hi1, hi4, hiL, hT⟩
    refine CW.seq ?_
    refine CW.seq ?_
    refine CW.region ?_
    refine LW.v rfl rfl (Val.move rfl) ?_
    refine LW.v rfl rfl (Val.move rfl) ?_
    refine LW.v rfl rfl (Val.lenSl rfl Tryd.underlying73) ?_
    refine LW.v rfl rfl (Val.cmp rfl rfl rfl) ?_
    refine LW.v rfl rfl (Val.move rfl) ?_
    refine LW.split (d := 21) rfl (fun h21 => ?_) (fun h21 => ?_)
    · replace h21 := bT h21
      refine LW.v rfl rfl (Val.move rfl) ?_
      refine LW.v rfl rfl (Val.cmp rfl rfl rfl) ?_
      refine LW.v rfl rfl (Val.pick_t rfl rfl) ?_
      refine LW.nil ?_
      refine PQ.seq ?_
      refine CW.cond rfl (fun h24 => ?_) (fun h24 => ?_)
      · replace h24 := bT h24
        obtain ⟨x, hx⟩ : ∃ x, L[i9]? = some x := ⟨L[i9]'(by omega), by simp⟩
        refine CW.skip ?_
        refine PQ.seq ?_
        refine CW.seq ?_
        refine CW.block ?_
        refine CW.seq ?_
        refine CW.region ?_
        refine LW.v rfl rfl (Val.move rfl) ?_
        refine LW.v rfl rfl (Val.move rfl) ?_
        first | (refine LW.v rfl rfl (Val.indexAddrN rfl rfl Tryd.underlying73 Tryd.sizeOf9 (by omega)) ?_) | (refine LW.v rfl rfl (Val.indexAddr rfl rfl Tryd.underlying73 Tryd.sizeOf9 (by omega) (by omega)) ?_)
        refine LW.v rfl rfl (Val.loadO rfl Tryd.isAgg9 hb (by simp [ids]) (hr i9 x hx 0 _ rfl)) ?_
        refine LW.e rfl rfl (Eff.callV rfl Tryd.call13 (fun w hw => rtext_c x (by have := hL x (List.mem_of_getElem? hx); omega) w)) ?_
        intro _ _
        refine LW.v rfl rfl (Val.move rfl) ?_
        refine LW.v rfl rfl (Val.extract rfl rfl) ?_
        refine LW.v rfl rfl (Val.extract rfl rfl) ?_
        refine LW.v rfl rfl (Val.assign rfl) ?_
        refine LW.v rfl rfl (Val.assign rfl) ?_
        refine LW.nil ?_
        refine PQ.seq ?_
        refine CW.seq ?_
        refine CW.seq ?_
        refine CW.region ?_
        refine LW.v rfl rfl (Val.move rfl) ?_
        refine LW.v rfl rfl (Val.not rfl) ?_
        refine LW.v rfl rfl (Val.move rfl) ?_
        refine LW.split (d := 37) rfl (fun h37 => ?_) (fun h37 => ?_)
        · replace h37 := bT h37
          refine LW.v rfl rfl (Val.move rfl) ?_
          first | (refine LW.v rfl rfl (Val.indexAddrN rfl rfl Tryd.underlying73 Tryd.sizeOf9 (by omega)) ?_) | (refine LW.v rfl rfl (Val.indexAddr rfl rfl Tryd.underlying73 Tryd.sizeOf9 (by omega) (by omega)) ?_)
          refine LW.v rfl rfl (Val.loadO rfl Tryd.isAgg9 hb (by simp [ids]) (hr 0 x0 hx0 0 _ rfl)) ?_
          refine LW.v rfl rfl (Val.neStr rfl rfl) ?_
          refine LW.v rfl rfl (Val.pick_t rfl rfl) ?_
          refine LW.nil ?_
          refine PQ.seq ?_
          refine CW.cond rfl (fun h42 => ?_) (fun h42 => ?_)
          · replace h42 := bT h42
            refine CW.seq ?_
            refine CW.region ?_
            first | (refine LW.v rfl rfl (Val.loadW rfl Tryd.isAgg41 (by repeat (first | exact .here | exact .inner .here | exact .inner (.inner .here) | refine .there ?_)) (by exact Tryd.sizeOf41)) ?_) | (refine LW.v rfl rfl (Val.loadA [_, _, _, _, _] rfl Tryd.isAgg41 (by repeat (first | exact .here | exact .inner .here | exact .inner (.inner .here) | refine .there ?_)) (by rfl) Tryd.sizeOf41) ?_)
            first | (refine LW.eN rfl (Eff.storeW rfl rfl (by repeat (first | exact .here | exact .inner .here | exact .inner (.inner .here) | apply Upd.there)) (by rfl) Tryd.sizeOf41 (by rfl)) ?_) | (refine LW.eN rfl (Eff.storeW (cs := [.int .i64 7, str [], str [], str [], ownV k.2.2.1.length k.2.2.2]) rfl rfl (by repeat (first | exact .here | exact .inner .here | exact .inner (.inner .here) | apply Upd.there)) (by rfl) Tryd.sizeOf41 (by simp only [ownSl_v]; rfl)) ?_)
            intro _ _
            refine LW.v rfl rfl (Val.assign rfl) ?_
            refine LW.nil ?_
            refine PQ.seq ?_
            refine CW.ret ?_
            refine PQ.then_ret ?_
            refine PQ.in_ret ?_
            refine PQ.then_ret ?_
            refine PQ.then_ret ?_
            refine PQ.in_ret ?_
            refine PQ.then_ret ?_
            refine PQ.retCT rfl rfl rfl (by repeat (first | exact .here | exact .inner .here | exact .inner (.inner .here) | refine .there ?_)) Tryd.isAgg41 (by exact Tryd.sizeOf41) ?_
            intro w' hw
            have hp : pS1 L = none := pS1_bad hi1 hx (by cases hq : textF x with | none => rfl | some z => rw [hq] at h37; simp at h37)
            have hng : x0 ≠ [103, 114, 111, 117, 112] := by first | exact h42 | exact h41
            have hpc : pCA L = none := by rw [pCA_s hx0 hng, hp]; rfl
            exact ⟨(false, c0q 0, [], none), ⟨(fun h => by cases h), fun _ => hpc, ⟨rfl, rfl⟩, ⟨rfl, by unfold Cq.small c0q; simp⟩, by simp⟩, rfl, (hw.pick (ss := []) .nil).perm (.refl _)⟩
          · replace h42 := bF h42
            refine CW.skip ?_
            refine PQ.seq ?_
            refine CW.region ?_
            refine LW.v rfl rfl (Val.move rfl) ?_
            refine LW.v rfl rfl (Val.ar rfl rfl rfl (IntWalk.i64_in _ (by omega))) ?_
            refine LW.re 45 (.int .i64 ((i9 - 1 : Nat) : Int)) rfl (by congr 1; omega) ?_
            refine LW.v rfl rfl (Val.move rfl) ?_
            first | (refine LW.v rfl rfl (Val.indexAddrA rfl rfl Tryd.underlying111 Tryd.sizeOf9 (by omega)) ?_) | (refine LW.v rfl rfl (Val.indexAddrAI rfl rfl Tryd.underlying111 Tryd.sizeOf9 (by omega) (by omega)) ?_)
            refine LW.eN rfl (Eff.storeX (l' := [str (tx L (i9 + 1) 1), str (tx L (i9 + 1) 2), str (tx L (i9 + 1) 3)]) rfl rfl rfl (by repeat (first | exact .here | exact .inner .here | exact .inner (.inner .here) | apply Upd.there)) (by simpa using tx_set hi1 (by omega) hx) (by simp; omega) Tryd.sizeOf9) ?_
            intro _ _
            refine LW.nil ?_
            refine PQ.in_normal ?_
            refine PQ.seq ?_
            refine CW.region ?_
            refine LW.v rfl rfl (Val.move rfl) ?_
            refine LW.v rfl rfl (Val.ar rfl rfl rfl (IntWalk.i64_in _ (by omega))) ?_
            refine LW.v rfl rfl (Val.assign rfl) ?_
            refine LW.nil ?_
            refine PQ.round (i9 + 1) ⟨by omega, by omega, by omega, fun hng j y h1 h2 h3 => by
              by_cases hj : j = i9
              · subst hj; rw [hx] at h3; cases h3; first | (exact absurd h41 hng) | (exact absurd h42 hng) | (exact h37) | (trace_state; fail)
              · exact hT hng j y h1 (by omega) h3⟩ (by omega) (by repeat (first | exact trivial | refine ⟨rfl, ?_⟩)) (by repeat (first | exact .nil | apply Pick.cons | exact .here | apply Ext.there))
        · replace h37 := bF h37
          refine LW.p rfl rfl ?_
          refine LW.p rfl rfl ?_
          refine LW.p rfl rfl ?_
          refine LW.p rfl rfl ?_
          refine LW.v rfl rfl (Val.pick_f rfl rfl) ?_
          refine LW.nil ?_
          refine PQ.seq ?_
          refine CW.cond_f rfl ?_
          refine CW.skip ?_
          refine PQ.seq ?_
          refine CW.region ?_
          refine LW.v rfl rfl (Val.move rfl) ?_
          refine LW.v rfl rfl (Val.ar rfl rfl rfl (IntWalk.i64_in _ (by omega))) ?_
          refine LW.re 45 (.int .i64 ((i9 - 1 : Nat) : Int)) rfl (by congr 1; omega) ?_
          refine LW.v rfl rfl (Val.move rfl) ?_
          first | (refine LW.v rfl rfl (Val.indexAddrA rfl rfl Tryd.underlying111 Tryd.sizeOf9 (by omega)) ?_) | (refine LW.v rfl rfl (Val.indexAddrAI rfl rfl Tryd.underlying111 Tryd.sizeOf9 (by omega) (by omega)) ?_)
          refine LW.eN rfl (Eff.storeX (l' := [str (tx L (i9 + 1) 1), str (tx L (i9 + 1) 2), str (tx L (i9 + 1) 3)]) rfl rfl rfl (by repeat (first | exact .here | exact .inner .here | exact .inner (.inner .here) | apply Upd.there)) (by simpa using tx_set hi1 (by omega) hx) (by simp; omega) Tryd.sizeOf9) ?_
          intro _ _
          refine LW.nil ?_
          refine PQ.in_normal ?_
          refine PQ.seq ?_
          refine CW.region ?_
          refine LW.v rfl rfl (Val.move rfl) ?_
          refine LW.v rfl rfl (Val.ar rfl rfl rfl (IntWalk.i64_in _ (by omega))) ?_
          refine LW.v rfl rfl (Val.assign rfl) ?_
          refine LW.nil ?_
          refine PQ.round (i9 + 1) ⟨by omega, by omega, by omega, fun hng j y h1 h2 h3 => by
            by_cases hj : j = i9
            · subst hj; rw [hx] at h3; cases h3; first | (exact absurd h41 hng) | (exact absurd h42 hng) | (exact h37) | (trace_state; fail)
            · exact hT hng j y h1 (by omega) h3⟩ (by omega) (by repeat (first | exact trivial | refine ⟨rfl, ?_⟩)) (by repeat (first | exact .nil | apply Pick.cons | exact .here | apply Ext.there))
      · replace h24 := bF h24
        refine CW.exit ?_
        refine PQ.then_exit ?_
        refine PQ.then_exit ?_
        refine PQ.in_here ?_
        refine PQ.joinedC (i9) (⟨hi1, hi4, hiL, hT, by omega⟩) (by repeat (first | exact trivial | refine ⟨rfl, ?_⟩)) (by repeat (first | exact .nil | apply Pick.cons | exact .here | apply Ext.there))
    · replace h21 := bF h21
      refine LW.p rfl rfl ?_
      refine LW.p rfl rfl ?_
      refine LW.v rfl rfl (Val.pick_f rfl rfl) ?_
      refine LW.nil ?_
      refine PQ.seq ?_
      refine CW.cond_f rfl ?_
      refine CW.exit ?_
      refine PQ.then_exit ?_
      refine PQ.then_exit ?_
      refine PQ.in_here ?_
      refine PQ.joinedC (i9) (⟨hi1, hi4, hiL, hT, by omega⟩) (by repeat (first | exact trivial | refine ⟨rfl, ?_⟩)) (by repeat (first | exact .nil | apply Pick.cons | exact .here | apply Ext.there))
  · rintro i9 ⟨hi1, hi4, hiL, hT, hie⟩
    refine PQ.seq ?_
    refine CW.seq ?_
    refine CW.region ?_
    refine LW.v rfl rfl (Val.move rfl) ?_
    refine LW.v rfl rfl (Val.lenSl rfl Tryd.underlying73) ?_
    refine LW.v rfl rfl (Val.ar rfl rfl rfl (IntWalk.i64_in _ (by omega))) ?_
    refine LW.v rfl rfl (Val.assign rfl) ?_
    refine LW.nil ?_
    refine PQ.seq ?_
    refine CW.seq ?_
    refine CW.block ?_
    refine CW.seq ?_
    refine CW.regJoin (fun b : Bool => (b = true → x0 = [103, 101, 116] ∧ L.length = 2) ∧ (b = false → ¬ (x0 = [103, 101, 116] ∧ L.length = 2))) (fun b => [(0, .slice (some ⟨pb, po, none⟩) L.length cap), (1, .bool false), (4, .pointer (some ⟨b4, 0, none⟩)), (5, .bool false), (6, .pointer (some ⟨b6, 0, none⟩)), (7, .pointer (some ⟨b7, 0, none⟩)), (11, .int .i64 ((L.length : Int) - 1)), (51, .bool b)]) (fun _ => [[(b7, .cells [str (tx L i9 1), str (tx L i9 2), str (tx L i9 3)].toArray 111 (0, 0))], [(b6, .cells [.int .i64 0, .string ⟨#[]⟩, .string ⟨#[]⟩, .string ⟨#[]⟩, .slice none 0 0].toArray 41 (0, 0))], [(b4, .cells [.int .i64 0, .string ⟨#[]⟩, .string ⟨#[]⟩, .string ⟨#[]⟩, .slice none 0 0].toArray 41 (0, 0))]]) ?_ ?_
    · refine CW.region ?_
      refine LW.v rfl rfl (Val.move rfl) ?_
      first | (refine LW.v rfl rfl (Val.indexAddrN rfl rfl Tryd.underlying73 Tryd.sizeOf9 (by omega)) ?_) | (refine LW.v rfl rfl (Val.indexAddr rfl rfl Tryd.underlying73 Tryd.sizeOf9 (by omega) (by omega)) ?_)
      refine LW.v rfl rfl (Val.loadO rfl Tryd.isAgg9 hb (by simp [ids]) (hr 0 x0 hx0 0 _ rfl)) ?_
      refine LW.v rfl rfl (Val.eqStr rfl rfl) ?_
      refine LW.v rfl rfl (Val.move rfl) ?_
      refine LW.split (d := 56) rfl (fun h56 => ?_) (fun h56 => ?_)
      · replace h56 := bT h56
        refine LW.v rfl rfl (Val.move rfl) ?_
        refine LW.v rfl rfl (Val.cmp rfl rfl rfl) ?_
        refine LW.split (d := 58) rfl (fun h58 => ?_) (fun h58 => ?_)
        · replace h58 := bT h58
          refine LW.v rfl rfl (Val.pick_t rfl rfl) ?_
          refine LW.v rfl rfl (Val.assign rfl) ?_
          refine LW.nil ?_
          refine PQ.joined (true) (⟨fun _ => ⟨h56, by omega⟩, (fun h => by cases h)⟩) (by repeat (first | exact trivial | refine ⟨rfl, ?_⟩)) (by repeat (first | exact .nil | apply Pick.cons | exact .here | apply Ext.there))
        · replace h58 := bF h58
          refine LW.v rfl rfl (Val.pick_t rfl rfl) ?_
          refine LW.v rfl rfl (Val.assign rfl) ?_
          refine LW.nil ?_
          refine PQ.joined (false) (⟨(fun h => by cases h), fun _ h => h58 (by omega)⟩) (by repeat (first | exact trivial | refine ⟨rfl, ?_⟩)) (by repeat (first | exact .nil | apply Pick.cons | exact .here | apply Ext.there))
      · replace h56 := bF h56
        refine LW.p rfl rfl ?_
        refine LW.p rfl rfl ?_
        refine LW.v rfl rfl (Val.pick_f rfl rfl) ?_
        refine LW.v rfl rfl (Val.assign rfl) ?_
        refine LW.nil ?_
        refine PQ.joined (false) (⟨(fun h => by cases h), fun _ h => h56 h.1⟩) (by repeat (first | exact trivial | refine ⟨rfl, ?_⟩)) (by repeat (first | exact .nil | apply Pick.cons | exact .here | apply Ext.there))
    · intro bb51 hb51
      refine PQ.seq ?_
      refine CW.cond rfl (fun h51 => ?_) (fun h51 => ?_)
      · replace h51 := bT h51
        have e51 := hb51.1 h51
        refine CW.seq ?_
        refine CW.region ?_
        first | (refine LW.v rfl rfl (Val.indexAddrA rfl rfl Tryd.underlying111 Tryd.sizeOf9 (by omega)) ?_) | (refine LW.v rfl rfl (Val.indexAddrAI rfl rfl Tryd.underlying111 Tryd.sizeOf9 (by omega) (by omega)) ?_)
        refine LW.v rfl rfl (Val.load (v := str (tx L i9 1)) rfl Tryd.isAgg9 (by repeat (first | exact .here | exact .inner .here | exact .inner (.inner .here) | refine .there ?_)) (by rfl)) ?_
        refine LW.v rfl rfl (Val.build [_, _, _, _, _] Tryd.zeroValue41 Tryd.underlying41 places41 rfl (by rfl)) ?_
        first | (refine LW.eN rfl (Eff.storeW rfl rfl (by repeat (first | exact .here | exact .inner .here | exact .inner (.inner .here) | apply Upd.there)) (by rfl) Tryd.sizeOf41 (by rfl)) ?_) | (refine LW.eN rfl (Eff.storeW (cs := [.int .i64 7, str [], str [], str [], ownV k.2.2.1.length k.2.2.2]) rfl rfl (by repeat (first | exact .here | exact .inner .here | exact .inner (.inner .here) | apply Upd.there)) (by rfl) Tryd.sizeOf41 (by simp only [ownSl_v]; rfl)) ?_)
        intro _ _
        refine LW.v rfl rfl (Val.assign rfl) ?_
        refine LW.nil ?_
        refine PQ.seq ?_
        refine CW.ret ?_
        refine PQ.in_ret ?_
        refine PQ.then_ret ?_
        refine PQ.retCT rfl rfl rfl (by repeat (first | exact .here | exact .inner .here | exact .inner (.inner .here) | refine .there ?_)) Tryd.isAgg41 (by exact Tryd.sizeOf41) ?_
        intro w' hw
        have hp : pS1 L = _ := pS1_1 1 1 hx0 (by rw [e51.1]; decide) (by decide) (by decide) e51.2 (by omega) (hT (by rw [e51.1]; decide))
        have hng : x0 ≠ [103, 114, 111, 117, 112] := by rw [e51.1]; decide
        have hpc := pCA_s hx0 hng
        rw [hp] at hpc
        have hok := pS1_ok hL hp
        exact ⟨(true, _, [], none), ⟨fun _ => hpc, (fun h => by cases h), ⟨rfl, rfl⟩, hok, by simp⟩, rfl, (hw.pick (ss := []) .nil).perm (.refl _)⟩
      · replace h51 := bF h51
        have n51 := hb51.2 h51
        refine CW.seq ?_
        refine CW.regJoin (fun b : Bool => (b = true → x0 = [100, 101, 108] ∧ L.length = 2) ∧ (b = false → ¬ (x0 = [100, 101, 108] ∧ L.length = 2))) (fun b => [(0, .slice (some ⟨pb, po, none⟩) L.length cap), (1, .bool false), (4, .pointer (some ⟨b4, 0, none⟩)), (5, .bool false), (6, .pointer (some ⟨b6, 0, none⟩)), (7, .pointer (some ⟨b7, 0, none⟩)), (11, .int .i64 ((L.length : Int) - 1)), (63, .bool b)]) (fun _ => [[(b7, .cells [str (tx L i9 1), str (tx L i9 2), str (tx L i9 3)].toArray 111 (0, 0))], [(b6, .cells [.int .i64 0, .string ⟨#[]⟩, .string ⟨#[]⟩, .string ⟨#[]⟩, .slice none 0 0].toArray 41 (0, 0))], [(b4, .cells [.int .i64 0, .string ⟨#[]⟩, .string ⟨#[]⟩, .string ⟨#[]⟩, .slice none 0 0].toArray 41 (0, 0))]]) ?_ ?_
        · refine CW.region ?_
          refine LW.v rfl rfl (Val.move rfl) ?_
          first | (refine LW.v rfl rfl (Val.indexAddrN rfl rfl Tryd.underlying73 Tryd.sizeOf9 (by omega)) ?_) | (refine LW.v rfl rfl (Val.indexAddr rfl rfl Tryd.underlying73 Tryd.sizeOf9 (by omega) (by omega)) ?_)
          refine LW.v rfl rfl (Val.loadO rfl Tryd.isAgg9 hb (by simp [ids]) (hr 0 x0 hx0 0 _ rfl)) ?_
          refine LW.v rfl rfl (Val.eqStr rfl rfl) ?_
          refine LW.v rfl rfl (Val.move rfl) ?_
          refine LW.split (d := 68) rfl (fun h68 => ?_) (fun h68 => ?_)
          · replace h68 := bT h68
            refine LW.v rfl rfl (Val.move rfl) ?_
            refine LW.v rfl rfl (Val.cmp rfl rfl rfl) ?_
            refine LW.split (d := 70) rfl (fun h70 => ?_) (fun h70 => ?_)
            · replace h70 := bT h70
              refine LW.v rfl rfl (Val.pick_t rfl rfl) ?_
              refine LW.v rfl rfl (Val.assign rfl) ?_
              refine LW.nil ?_
              refine PQ.joined (true) (⟨fun _ => ⟨h68, by omega⟩, (fun h => by cases h)⟩) (by repeat (first | exact trivial | refine ⟨rfl, ?_⟩)) (by repeat (first | exact .nil | apply Pick.cons | exact .here | apply Ext.there))
            · replace h70 := bF h70
              refine LW.v rfl rfl (Val.pick_t rfl rfl) ?_
              refine LW.v rfl rfl (Val.assign rfl) ?_
              refine LW.nil ?_
              refine PQ.joined (false) (⟨(fun h => by cases h), fun _ h => h70 (by omega)⟩) (by repeat (first | exact trivial | refine ⟨rfl, ?_⟩)) (by repeat (first | exact .nil | apply Pick.cons | exact .here | apply Ext.there))
          · replace h68 := bF h68
            refine LW.p rfl rfl ?_
            refine LW.p rfl rfl ?_
            refine LW.v rfl rfl (Val.pick_f rfl rfl) ?_
            refine LW.v rfl rfl (Val.assign rfl) ?_
            refine LW.nil ?_
            refine PQ.joined (false) (⟨(fun h => by cases h), fun _ h => h68 h.1⟩) (by repeat (first | exact trivial | refine ⟨rfl, ?_⟩)) (by repeat (first | exact .nil | apply Pick.cons | exact .here | apply Ext.there))
        · intro bb63 hb63
          refine PQ.seq ?_
          refine CW.cond rfl (fun h63 => ?_) (fun h63 => ?_)
          · replace h63 := bT h63
            have e63 := hb63.1 h63
            refine CW.seq ?_
            refine CW.region ?_
            first | (refine LW.v rfl rfl (Val.indexAddrA rfl rfl Tryd.underlying111 Tryd.sizeOf9 (by omega)) ?_) | (refine LW.v rfl rfl (Val.indexAddrAI rfl rfl Tryd.underlying111 Tryd.sizeOf9 (by omega) (by omega)) ?_)
            refine LW.v rfl rfl (Val.load (v := str (tx L i9 1)) rfl Tryd.isAgg9 (by repeat (first | exact .here | exact .inner .here | exact .inner (.inner .here) | refine .there ?_)) (by rfl)) ?_
            refine LW.v rfl rfl (Val.build [_, _, _, _, _] Tryd.zeroValue41 Tryd.underlying41 places41 rfl (by rfl)) ?_
            first | (refine LW.eN rfl (Eff.storeW rfl rfl (by repeat (first | exact .here | exact .inner .here | exact .inner (.inner .here) | apply Upd.there)) (by rfl) Tryd.sizeOf41 (by rfl)) ?_) | (refine LW.eN rfl (Eff.storeW (cs := [.int .i64 7, str [], str [], str [], ownV k.2.2.1.length k.2.2.2]) rfl rfl (by repeat (first | exact .here | exact .inner .here | exact .inner (.inner .here) | apply Upd.there)) (by rfl) Tryd.sizeOf41 (by simp only [ownSl_v]; rfl)) ?_)
            intro _ _
            refine LW.v rfl rfl (Val.assign rfl) ?_
            refine LW.nil ?_
            refine PQ.seq ?_
            refine CW.ret ?_
            refine PQ.in_ret ?_
            refine PQ.then_ret ?_
            refine PQ.retCT rfl rfl rfl (by repeat (first | exact .here | exact .inner .here | exact .inner (.inner .here) | refine .there ?_)) Tryd.isAgg41 (by exact Tryd.sizeOf41) ?_
            intro w' hw
            have hp : pS1 L = _ := pS1_1 3 1 hx0 (by rw [e63.1]; decide) (by decide) (by decide) e63.2 (by omega) (hT (by rw [e63.1]; decide))
            have hng : x0 ≠ [103, 114, 111, 117, 112] := by rw [e63.1]; decide
            have hpc := pCA_s hx0 hng
            rw [hp] at hpc
            have hok := pS1_ok hL hp
            exact ⟨(true, _, [], none), ⟨fun _ => hpc, (fun h => by cases h), ⟨rfl, rfl⟩, hok, by simp⟩, rfl, (hw.pick (ss := []) .nil).perm (.refl _)⟩
          · replace h63 := bF h63
            have n63 := hb63.2 h63
            refine CW.seq ?_
            refine CW.regJoin (fun b : Bool => (b = true → x0 = [112, 117, 116] ∧ L.length = 3) ∧ (b = false → ¬ (x0 = [112, 117, 116] ∧ L.length = 3))) (fun b => [(0, .slice (some ⟨pb, po, none⟩) L.length cap), (1, .bool false), (4, .pointer (some ⟨b4, 0, none⟩)), (5, .bool false), (6, .pointer (some ⟨b6, 0, none⟩)), (7, .pointer (some ⟨b7, 0, none⟩)), (11, .int .i64 ((L.length : Int) - 1)), (75, .bool b)]) (fun _ => [[(b7, .cells [str (tx L i9 1), str (tx L i9 2), str (tx L i9 3)].toArray 111 (0, 0))], [(b6, .cells [.int .i64 0, .string ⟨#[]⟩, .string ⟨#[]⟩, .string ⟨#[]⟩, .slice none 0 0].toArray 41 (0, 0))], [(b4, .cells [.int .i64 0, .string ⟨#[]⟩, .string ⟨#[]⟩, .string ⟨#[]⟩, .slice none 0 0].toArray 41 (0, 0))]]) ?_ ?_
            · refine CW.region ?_
              refine LW.v rfl rfl (Val.move rfl) ?_
              first | (refine LW.v rfl rfl (Val.indexAddrN rfl rfl Tryd.underlying73 Tryd.sizeOf9 (by omega)) ?_) | (refine LW.v rfl rfl (Val.indexAddr rfl rfl Tryd.underlying73 Tryd.sizeOf9 (by omega) (by omega)) ?_)
              refine LW.v rfl rfl (Val.loadO rfl Tryd.isAgg9 hb (by simp [ids]) (hr 0 x0 hx0 0 _ rfl)) ?_
              refine LW.v rfl rfl (Val.eqStr rfl rfl) ?_
              refine LW.v rfl rfl (Val.move rfl) ?_
              refine LW.split (d := 80) rfl (fun h80 => ?_) (fun h80 => ?_)
              · replace h80 := bT h80
                refine LW.v rfl rfl (Val.move rfl) ?_
                refine LW.v rfl rfl (Val.cmp rfl rfl rfl) ?_
                refine LW.split (d := 82) rfl (fun h82 => ?_) (fun h82 => ?_)
                · replace h82 := bT h82
                  refine LW.v rfl rfl (Val.pick_t rfl rfl) ?_
                  refine LW.v rfl rfl (Val.assign rfl) ?_
                  refine LW.nil ?_
                  refine PQ.joined (true) (⟨fun _ => ⟨h80, by omega⟩, (fun h => by cases h)⟩) (by repeat (first | exact trivial | refine ⟨rfl, ?_⟩)) (by repeat (first | exact .nil | apply Pick.cons | exact .here | apply Ext.there))
                · replace h82 := bF h82
                  refine LW.v rfl rfl (Val.pick_t rfl rfl) ?_
                  refine LW.v rfl rfl (Val.assign rfl) ?_
                  refine LW.nil ?_
                  refine PQ.joined (false) (⟨(fun h => by cases h), fun _ h => h82 (by omega)⟩) (by repeat (first | exact trivial | refine ⟨rfl, ?_⟩)) (by repeat (first | exact .nil | apply Pick.cons | exact .here | apply Ext.there))
              · replace h80 := bF h80
                refine LW.p rfl rfl ?_
                refine LW.p rfl rfl ?_
                refine LW.v rfl rfl (Val.pick_f rfl rfl) ?_
                refine LW.v rfl rfl (Val.assign rfl) ?_
                refine LW.nil ?_
                refine PQ.joined (false) (⟨(fun h => by cases h), fun _ h => h80 h.1⟩) (by repeat (first | exact trivial | refine ⟨rfl, ?_⟩)) (by repeat (first | exact .nil | apply Pick.cons | exact .here | apply Ext.there))
            · intro bb75 hb75
              refine PQ.seq ?_
              refine CW.cond rfl (fun h75 => ?_) (fun h75 => ?_)
              · replace h75 := bT h75
                have e75 := hb75.1 h75
                refine CW.seq ?_
                refine CW.region ?_
                first | (refine LW.v rfl rfl (Val.indexAddrA rfl rfl Tryd.underlying111 Tryd.sizeOf9 (by omega)) ?_) | (refine LW.v rfl rfl (Val.indexAddrAI rfl rfl Tryd.underlying111 Tryd.sizeOf9 (by omega) (by omega)) ?_)
                refine LW.v rfl rfl (Val.load (v := str (tx L i9 1)) rfl Tryd.isAgg9 (by repeat (first | exact .here | exact .inner .here | exact .inner (.inner .here) | refine .there ?_)) (by rfl)) ?_
                first | (refine LW.v rfl rfl (Val.indexAddrA rfl rfl Tryd.underlying111 Tryd.sizeOf9 (by omega)) ?_) | (refine LW.v rfl rfl (Val.indexAddrAI rfl rfl Tryd.underlying111 Tryd.sizeOf9 (by omega) (by omega)) ?_)
                refine LW.v rfl rfl (Val.load (v := str (tx L i9 2)) rfl Tryd.isAgg9 (by repeat (first | exact .here | exact .inner .here | exact .inner (.inner .here) | refine .there ?_)) (by rfl)) ?_
                refine LW.v rfl rfl (Val.build [_, _, _, _, _] Tryd.zeroValue41 Tryd.underlying41 places41 rfl (by rfl)) ?_
                first | (refine LW.eN rfl (Eff.storeW rfl rfl (by repeat (first | exact .here | exact .inner .here | exact .inner (.inner .here) | apply Upd.there)) (by rfl) Tryd.sizeOf41 (by rfl)) ?_) | (refine LW.eN rfl (Eff.storeW (cs := [.int .i64 7, str [], str [], str [], ownV k.2.2.1.length k.2.2.2]) rfl rfl (by repeat (first | exact .here | exact .inner .here | exact .inner (.inner .here) | apply Upd.there)) (by rfl) Tryd.sizeOf41 (by simp only [ownSl_v]; rfl)) ?_)
                intro _ _
                refine LW.v rfl rfl (Val.assign rfl) ?_
                refine LW.nil ?_
                refine PQ.seq ?_
                refine CW.ret ?_
                refine PQ.in_ret ?_
                refine PQ.then_ret ?_
                refine PQ.retCT rfl rfl rfl (by repeat (first | exact .here | exact .inner .here | exact .inner (.inner .here) | refine .there ?_)) Tryd.isAgg41 (by exact Tryd.sizeOf41) ?_
                intro w' hw
                have hp : pS1 L = _ := pS1_2 2 1 2 hx0 (by rw [e75.1]; decide) (by decide) (by decide) e75.2 (by omega) (hT (by rw [e75.1]; decide))
                have hng : x0 ≠ [103, 114, 111, 117, 112] := by rw [e75.1]; decide
                have hpc := pCA_s hx0 hng
                rw [hp] at hpc
                have hok := pS1_ok hL hp
                exact ⟨(true, _, [], none), ⟨fun _ => hpc, (fun h => by cases h), ⟨rfl, rfl⟩, hok, by simp⟩, rfl, (hw.pick (ss := []) .nil).perm (.refl _)⟩
              · replace h75 := bF h75
                have n75 := hb75.2 h75
                refine CW.seq ?_
                refine CW.regJoin (fun b : Bool => (b = true → x0 = [101, 110, 113] ∧ L.length = 2) ∧ (b = false → ¬ (x0 = [101, 110, 113] ∧ L.length = 2))) (fun b => [(0, .slice (some ⟨pb, po, none⟩) L.length cap), (1, .bool false), (4, .pointer (some ⟨b4, 0, none⟩)), (5, .bool false), (6, .pointer (some ⟨b6, 0, none⟩)), (7, .pointer (some ⟨b7, 0, none⟩)), (11, .int .i64 ((L.length : Int) - 1)), (89, .bool b)]) (fun _ => [[(b7, .cells [str (tx L i9 1), str (tx L i9 2), str (tx L i9 3)].toArray 111 (0, 0))], [(b6, .cells [.int .i64 0, .string ⟨#[]⟩, .string ⟨#[]⟩, .string ⟨#[]⟩, .slice none 0 0].toArray 41 (0, 0))], [(b4, .cells [.int .i64 0, .string ⟨#[]⟩, .string ⟨#[]⟩, .string ⟨#[]⟩, .slice none 0 0].toArray 41 (0, 0))]]) ?_ ?_
                · refine CW.region ?_
                  refine LW.v rfl rfl (Val.move rfl) ?_
                  first | (refine LW.v rfl rfl (Val.indexAddrN rfl rfl Tryd.underlying73 Tryd.sizeOf9 (by omega)) ?_) | (refine LW.v rfl rfl (Val.indexAddr rfl rfl Tryd.underlying73 Tryd.sizeOf9 (by omega) (by omega)) ?_)
                  refine LW.v rfl rfl (Val.loadO rfl Tryd.isAgg9 hb (by simp [ids]) (hr 0 x0 hx0 0 _ rfl)) ?_
                  refine LW.v rfl rfl (Val.eqStr rfl rfl) ?_
                  refine LW.v rfl rfl (Val.move rfl) ?_
                  refine LW.split (d := 94) rfl (fun h94 => ?_) (fun h94 => ?_)
                  · replace h94 := bT h94
                    refine LW.v rfl rfl (Val.move rfl) ?_
                    refine LW.v rfl rfl (Val.cmp rfl rfl rfl) ?_
                    refine LW.split (d := 96) rfl (fun h96 => ?_) (fun h96 => ?_)
                    · replace h96 := bT h96
                      refine LW.v rfl rfl (Val.pick_t rfl rfl) ?_
                      refine LW.v rfl rfl (Val.assign rfl) ?_
                      refine LW.nil ?_
                      refine PQ.joined (true) (⟨fun _ => ⟨h94, by omega⟩, (fun h => by cases h)⟩) (by repeat (first | exact trivial | refine ⟨rfl, ?_⟩)) (by repeat (first | exact .nil | apply Pick.cons | exact .here | apply Ext.there))
                    · replace h96 := bF h96
                      refine LW.v rfl rfl (Val.pick_t rfl rfl) ?_
                      refine LW.v rfl rfl (Val.assign rfl) ?_
                      refine LW.nil ?_
                      refine PQ.joined (false) (⟨(fun h => by cases h), fun _ h => h96 (by omega)⟩) (by repeat (first | exact trivial | refine ⟨rfl, ?_⟩)) (by repeat (first | exact .nil | apply Pick.cons | exact .here | apply Ext.there))
                  · replace h94 := bF h94
                    refine LW.p rfl rfl ?_
                    refine LW.p rfl rfl ?_
                    refine LW.v rfl rfl (Val.pick_f rfl rfl) ?_
                    refine LW.v rfl rfl (Val.assign rfl) ?_
                    refine LW.nil ?_
                    refine PQ.joined (false) (⟨(fun h => by cases h), fun _ h => h94 h.1⟩) (by repeat (first | exact trivial | refine ⟨rfl, ?_⟩)) (by repeat (first | exact .nil | apply Pick.cons | exact .here | apply Ext.there))
                · intro bb89 hb89
                  refine PQ.seq ?_
                  refine CW.cond rfl (fun h89 => ?_) (fun h89 => ?_)
                  · replace h89 := bT h89
                    have e89 := hb89.1 h89
                    refine CW.seq ?_
                    refine CW.region ?_
                    first | (refine LW.v rfl rfl (Val.indexAddrA rfl rfl Tryd.underlying111 Tryd.sizeOf9 (by omega)) ?_) | (refine LW.v rfl rfl (Val.indexAddrAI rfl rfl Tryd.underlying111 Tryd.sizeOf9 (by omega) (by omega)) ?_)
                    refine LW.v rfl rfl (Val.load (v := str (tx L i9 1)) rfl Tryd.isAgg9 (by repeat (first | exact .here | exact .inner .here | exact .inner (.inner .here) | refine .there ?_)) (by rfl)) ?_
                    refine LW.v rfl rfl (Val.build [_, _, _, _, _] Tryd.zeroValue41 Tryd.underlying41 places41 rfl (by rfl)) ?_
                    first | (refine LW.eN rfl (Eff.storeW rfl rfl (by repeat (first | exact .here | exact .inner .here | exact .inner (.inner .here) | apply Upd.there)) (by rfl) Tryd.sizeOf41 (by rfl)) ?_) | (refine LW.eN rfl (Eff.storeW (cs := [.int .i64 7, str [], str [], str [], ownV k.2.2.1.length k.2.2.2]) rfl rfl (by repeat (first | exact .here | exact .inner .here | exact .inner (.inner .here) | apply Upd.there)) (by rfl) Tryd.sizeOf41 (by simp only [ownSl_v]; rfl)) ?_)
                    intro _ _
                    refine LW.v rfl rfl (Val.assign rfl) ?_
                    refine LW.nil ?_
                    refine PQ.seq ?_
                    refine CW.ret ?_
                    refine PQ.in_ret ?_
                    refine PQ.then_ret ?_
                    refine PQ.retCT rfl rfl rfl (by repeat (first | exact .here | exact .inner .here | exact .inner (.inner .here) | refine .there ?_)) Tryd.isAgg41 (by exact Tryd.sizeOf41) ?_
                    intro w' hw
                    have hp : pS1 L = _ := pS1_1 4 2 hx0 (by rw [e89.1]; decide) (by decide) (by decide) e89.2 (by omega) (hT (by rw [e89.1]; decide))
                    have hng : x0 ≠ [103, 114, 111, 117, 112] := by rw [e89.1]; decide
                    have hpc := pCA_s hx0 hng
                    rw [hp] at hpc
                    have hok := pS1_ok hL hp
                    exact ⟨(true, _, [], none), ⟨fun _ => hpc, (fun h => by cases h), ⟨rfl, rfl⟩, hok, by simp⟩, rfl, (hw.pick (ss := []) .nil).perm (.refl _)⟩
                  · replace h89 := bF h89
                    have n89 := hb89.2 h89
                    refine CW.seq ?_
                    refine CW.regJoin (fun b : Bool => (b = true → x0 = [100, 101, 113] ∧ L.length = 1) ∧ (b = false → ¬ (x0 = [100, 101, 113] ∧ L.length = 1))) (fun b => [(0, .slice (some ⟨pb, po, none⟩) L.length cap), (1, .bool false), (4, .pointer (some ⟨b4, 0, none⟩)), (5, .bool false), (6, .pointer (some ⟨b6, 0, none⟩)), (7, .pointer (some ⟨b7, 0, none⟩)), (11, .int .i64 ((L.length : Int) - 1)), (101, .bool b)]) (fun _ => [[(b7, .cells [str (tx L i9 1), str (tx L i9 2), str (tx L i9 3)].toArray 111 (0, 0))], [(b6, .cells [.int .i64 0, .string ⟨#[]⟩, .string ⟨#[]⟩, .string ⟨#[]⟩, .slice none 0 0].toArray 41 (0, 0))], [(b4, .cells [.int .i64 0, .string ⟨#[]⟩, .string ⟨#[]⟩, .string ⟨#[]⟩, .slice none 0 0].toArray 41 (0, 0))]]) ?_ ?_
                    · refine CW.region ?_
                      refine LW.v rfl rfl (Val.move rfl) ?_
                      first | (refine LW.v rfl rfl (Val.indexAddrN rfl rfl Tryd.underlying73 Tryd.sizeOf9 (by omega)) ?_) | (refine LW.v rfl rfl (Val.indexAddr rfl rfl Tryd.underlying73 Tryd.sizeOf9 (by omega) (by omega)) ?_)
                      refine LW.v rfl rfl (Val.loadO rfl Tryd.isAgg9 hb (by simp [ids]) (hr 0 x0 hx0 0 _ rfl)) ?_
                      refine LW.v rfl rfl (Val.eqStr rfl rfl) ?_
                      refine LW.v rfl rfl (Val.move rfl) ?_
                      refine LW.split (d := 106) rfl (fun h106 => ?_) (fun h106 => ?_)
                      · replace h106 := bT h106
                        refine LW.v rfl rfl (Val.move rfl) ?_
                        refine LW.v rfl rfl (Val.cmp rfl rfl rfl) ?_
                        refine LW.split (d := 108) rfl (fun h108 => ?_) (fun h108 => ?_)
                        · replace h108 := bT h108
                          refine LW.v rfl rfl (Val.pick_t rfl rfl) ?_
                          refine LW.v rfl rfl (Val.assign rfl) ?_
                          refine LW.nil ?_
                          refine PQ.joined (true) (⟨fun _ => ⟨h106, by omega⟩, (fun h => by cases h)⟩) (by repeat (first | exact trivial | refine ⟨rfl, ?_⟩)) (by repeat (first | exact .nil | apply Pick.cons | exact .here | apply Ext.there))
                        · replace h108 := bF h108
                          refine LW.v rfl rfl (Val.pick_t rfl rfl) ?_
                          refine LW.v rfl rfl (Val.assign rfl) ?_
                          refine LW.nil ?_
                          refine PQ.joined (false) (⟨(fun h => by cases h), fun _ h => h108 (by omega)⟩) (by repeat (first | exact trivial | refine ⟨rfl, ?_⟩)) (by repeat (first | exact .nil | apply Pick.cons | exact .here | apply Ext.there))
                      · replace h106 := bF h106
                        refine LW.p rfl rfl ?_
                        refine LW.p rfl rfl ?_
                        refine LW.v rfl rfl (Val.pick_f rfl rfl) ?_
                        refine LW.v rfl rfl (Val.assign rfl) ?_
                        refine LW.nil ?_
                        refine PQ.joined (false) (⟨(fun h => by cases h), fun _ h => h106 h.1⟩) (by repeat (first | exact trivial | refine ⟨rfl, ?_⟩)) (by repeat (first | exact .nil | apply Pick.cons | exact .here | apply Ext.there))
                    · intro bb101 hb101
                      refine PQ.seq ?_
                      refine CW.cond rfl (fun h101 => ?_) (fun h101 => ?_)
                      · replace h101 := bT h101
                        have e101 := hb101.1 h101
                        refine CW.seq ?_
                        refine CW.region ?_
                        refine LW.v rfl rfl (Val.build [_, _, _, _, _] Tryd.zeroValue41 Tryd.underlying41 places41 rfl (by rfl)) ?_
                        first | (refine LW.eN rfl (Eff.storeW rfl rfl (by repeat (first | exact .here | exact .inner .here | exact .inner (.inner .here) | apply Upd.there)) (by rfl) Tryd.sizeOf41 (by rfl)) ?_) | (refine LW.eN rfl (Eff.storeW (cs := [.int .i64 7, str [], str [], str [], ownV k.2.2.1.length k.2.2.2]) rfl rfl (by repeat (first | exact .here | exact .inner .here | exact .inner (.inner .here) | apply Upd.there)) (by rfl) Tryd.sizeOf41 (by simp only [ownSl_v]; rfl)) ?_)
                        intro _ _
                        refine LW.v rfl rfl (Val.assign rfl) ?_
                        refine LW.nil ?_
                        refine PQ.seq ?_
                        refine CW.ret ?_
                        refine PQ.in_ret ?_
                        refine PQ.then_ret ?_
                        refine PQ.retCT rfl rfl rfl (by repeat (first | exact .here | exact .inner .here | exact .inner (.inner .here) | refine .there ?_)) Tryd.isAgg41 (by exact Tryd.sizeOf41) ?_
                        intro w' hw
                        have hp : pS1 L = _ := pS1_0 5  hx0 (by rw [e101.1]; decide) (by decide) (by decide) e101.2
                        have hng : x0 ≠ [103, 114, 111, 117, 112] := by rw [e101.1]; decide
                        have hpc := pCA_s hx0 hng
                        rw [hp] at hpc
                        have hok := pS1_ok hL hp
                        exact ⟨(true, _, [], none), ⟨fun _ => hpc, (fun h => by cases h), ⟨rfl, rfl⟩, hok, by simp⟩, rfl, (hw.pick (ss := []) .nil).perm (.refl _)⟩
                      · replace h101 := bF h101
                        have n101 := hb101.2 h101
                        refine CW.seq ?_
                        refine CW.regJoin (fun b : Bool => (b = true → x0 = [115, 121, 110, 99] ∧ L.length = 1) ∧ (b = false → ¬ (x0 = [115, 121, 110, 99] ∧ L.length = 1))) (fun b => [(0, .slice (some ⟨pb, po, none⟩) L.length cap), (1, .bool false), (4, .pointer (some ⟨b4, 0, none⟩)), (5, .bool false), (6, .pointer (some ⟨b6, 0, none⟩)), (7, .pointer (some ⟨b7, 0, none⟩)), (11, .int .i64 ((L.length : Int) - 1)), (111, .bool b)]) (fun _ => [[(b7, .cells [str (tx L i9 1), str (tx L i9 2), str (tx L i9 3)].toArray 111 (0, 0))], [(b6, .cells [.int .i64 0, .string ⟨#[]⟩, .string ⟨#[]⟩, .string ⟨#[]⟩, .slice none 0 0].toArray 41 (0, 0))], [(b4, .cells [.int .i64 0, .string ⟨#[]⟩, .string ⟨#[]⟩, .string ⟨#[]⟩, .slice none 0 0].toArray 41 (0, 0))]]) ?_ ?_
                        · refine CW.region ?_
                          refine LW.v rfl rfl (Val.move rfl) ?_
                          first | (refine LW.v rfl rfl (Val.indexAddrN rfl rfl Tryd.underlying73 Tryd.sizeOf9 (by omega)) ?_) | (refine LW.v rfl rfl (Val.indexAddr rfl rfl Tryd.underlying73 Tryd.sizeOf9 (by omega) (by omega)) ?_)
                          refine LW.v rfl rfl (Val.loadO rfl Tryd.isAgg9 hb (by simp [ids]) (hr 0 x0 hx0 0 _ rfl)) ?_
                          refine LW.v rfl rfl (Val.eqStr rfl rfl) ?_
                          refine LW.v rfl rfl (Val.move rfl) ?_
                          refine LW.split (d := 116) rfl (fun h116 => ?_) (fun h116 => ?_)
                          · replace h116 := bT h116
                            refine LW.v rfl rfl (Val.move rfl) ?_
                            refine LW.v rfl rfl (Val.cmp rfl rfl rfl) ?_
                            refine LW.split (d := 118) rfl (fun h118 => ?_) (fun h118 => ?_)
                            · replace h118 := bT h118
                              refine LW.v rfl rfl (Val.pick_t rfl rfl) ?_
                              refine LW.v rfl rfl (Val.assign rfl) ?_
                              refine LW.nil ?_
                              refine PQ.joined (true) (⟨fun _ => ⟨h116, by omega⟩, (fun h => by cases h)⟩) (by repeat (first | exact trivial | refine ⟨rfl, ?_⟩)) (by repeat (first | exact .nil | apply Pick.cons | exact .here | apply Ext.there))
                            · replace h118 := bF h118
                              refine LW.v rfl rfl (Val.pick_t rfl rfl) ?_
                              refine LW.v rfl rfl (Val.assign rfl) ?_
                              refine LW.nil ?_
                              refine PQ.joined (false) (⟨(fun h => by cases h), fun _ h => h118 (by omega)⟩) (by repeat (first | exact trivial | refine ⟨rfl, ?_⟩)) (by repeat (first | exact .nil | apply Pick.cons | exact .here | apply Ext.there))
                          · replace h116 := bF h116
                            refine LW.p rfl rfl ?_
                            refine LW.p rfl rfl ?_
                            refine LW.v rfl rfl (Val.pick_f rfl rfl) ?_
                            refine LW.v rfl rfl (Val.assign rfl) ?_
                            refine LW.nil ?_
                            refine PQ.joined (false) (⟨(fun h => by cases h), fun _ h => h116 h.1⟩) (by repeat (first | exact trivial | refine ⟨rfl, ?_⟩)) (by repeat (first | exact .nil | apply Pick.cons | exact .here | apply Ext.there))
                        · intro bb111 hb111
                          refine PQ.seq ?_
                          refine CW.cond rfl (fun h111 => ?_) (fun h111 => ?_)
                          · replace h111 := bT h111
                            have e111 := hb111.1 h111
                            refine CW.seq ?_
                            refine CW.region ?_
                            refine LW.v rfl rfl (Val.build [_, _, _, _, _] Tryd.zeroValue41 Tryd.underlying41 places41 rfl (by rfl)) ?_
                            first | (refine LW.eN rfl (Eff.storeW rfl rfl (by repeat (first | exact .here | exact .inner .here | exact .inner (.inner .here) | apply Upd.there)) (by rfl) Tryd.sizeOf41 (by rfl)) ?_) | (refine LW.eN rfl (Eff.storeW (cs := [.int .i64 7, str [], str [], str [], ownV k.2.2.1.length k.2.2.2]) rfl rfl (by repeat (first | exact .here | exact .inner .here | exact .inner (.inner .here) | apply Upd.there)) (by rfl) Tryd.sizeOf41 (by simp only [ownSl_v]; rfl)) ?_)
                            intro _ _
                            refine LW.v rfl rfl (Val.assign rfl) ?_
                            refine LW.nil ?_
                            refine PQ.seq ?_
                            refine CW.ret ?_
                            refine PQ.in_ret ?_
                            refine PQ.then_ret ?_
                            refine PQ.retCT rfl rfl rfl (by repeat (first | exact .here | exact .inner .here | exact .inner (.inner .here) | refine .there ?_)) Tryd.isAgg41 (by exact Tryd.sizeOf41) ?_
                            intro w' hw
                            have hp : pS1 L = _ := pS1_0 8  hx0 (by rw [e111.1]; decide) (by decide) (by decide) e111.2
                            have hng : x0 ≠ [103, 114, 111, 117, 112] := by rw [e111.1]; decide
                            have hpc := pCA_s hx0 hng
                            rw [hp] at hpc
                            have hok := pS1_ok hL hp
                            exact ⟨(true, _, [], none), ⟨fun _ => hpc, (fun h => by cases h), ⟨rfl, rfl⟩, hok, by simp⟩, rfl, (hw.pick (ss := []) .nil).perm (.refl _)⟩
                          · replace h111 := bF h111
                            have n111 := hb111.2 h111
                            refine CW.seq ?_
                            refine CW.regJoin (fun b : Bool => (b = true → x0 = [115, 99, 97, 110] ∧ L.length = 3) ∧ (b = false → ¬ (x0 = [115, 99, 97, 110] ∧ L.length = 3))) (fun b => [(0, .slice (some ⟨pb, po, none⟩) L.length cap), (1, .bool false), (4, .pointer (some ⟨b4, 0, none⟩)), (5, .bool false), (6, .pointer (some ⟨b6, 0, none⟩)), (7, .pointer (some ⟨b7, 0, none⟩)), (11, .int .i64 ((L.length : Int) - 1)), (121, .bool b)]) (fun _ => [[(b7, .cells [str (tx L i9 1), str (tx L i9 2), str (tx L i9 3)].toArray 111 (0, 0))], [(b6, .cells [.int .i64 0, .string ⟨#[]⟩, .string ⟨#[]⟩, .string ⟨#[]⟩, .slice none 0 0].toArray 41 (0, 0))], [(b4, .cells [.int .i64 0, .string ⟨#[]⟩, .string ⟨#[]⟩, .string ⟨#[]⟩, .slice none 0 0].toArray 41 (0, 0))]]) ?_ ?_
                            · refine CW.region ?_
                              refine LW.v rfl rfl (Val.move rfl) ?_
                              first | (refine LW.v rfl rfl (Val.indexAddrN rfl rfl Tryd.underlying73 Tryd.sizeOf9 (by omega)) ?_) | (refine LW.v rfl rfl (Val.indexAddr rfl rfl Tryd.underlying73 Tryd.sizeOf9 (by omega) (by omega)) ?_)
                              refine LW.v rfl rfl (Val.loadO rfl Tryd.isAgg9 hb (by simp [ids]) (hr 0 x0 hx0 0 _ rfl)) ?_
                              refine LW.v rfl rfl (Val.eqStr rfl rfl) ?_
                              refine LW.v rfl rfl (Val.move rfl) ?_
                              refine LW.split (d := 126) rfl (fun h126 => ?_) (fun h126 => ?_)
                              · replace h126 := bT h126
                                refine LW.v rfl rfl (Val.move rfl) ?_
                                refine LW.v rfl rfl (Val.cmp rfl rfl rfl) ?_
                                refine LW.split (d := 128) rfl (fun h128 => ?_) (fun h128 => ?_)
                                · replace h128 := bT h128
                                  refine LW.v rfl rfl (Val.pick_t rfl rfl) ?_
                                  refine LW.v rfl rfl (Val.assign rfl) ?_
                                  refine LW.nil ?_
                                  refine PQ.joined (true) (⟨fun _ => ⟨h126, by omega⟩, (fun h => by cases h)⟩) (by repeat (first | exact trivial | refine ⟨rfl, ?_⟩)) (by repeat (first | exact .nil | apply Pick.cons | exact .here | apply Ext.there))
                                · replace h128 := bF h128
                                  refine LW.v rfl rfl (Val.pick_t rfl rfl) ?_
                                  refine LW.v rfl rfl (Val.assign rfl) ?_
                                  refine LW.nil ?_
                                  refine PQ.joined (false) (⟨(fun h => by cases h), fun _ h => h128 (by omega)⟩) (by repeat (first | exact trivial | refine ⟨rfl, ?_⟩)) (by repeat (first | exact .nil | apply Pick.cons | exact .here | apply Ext.there))
                              · replace h126 := bF h126
                                refine LW.p rfl rfl ?_
                                refine LW.p rfl rfl ?_
                                refine LW.v rfl rfl (Val.pick_f rfl rfl) ?_
                                refine LW.v rfl rfl (Val.assign rfl) ?_
                                refine LW.nil ?_
                                refine PQ.joined (false) (⟨(fun h => by cases h), fun _ h => h126 h.1⟩) (by repeat (first | exact trivial | refine ⟨rfl, ?_⟩)) (by repeat (first | exact .nil | apply Pick.cons | exact .here | apply Ext.there))
                            · intro bb121 hb121
                              refine PQ.seq ?_
                              refine CW.cond rfl (fun h121 => ?_) (fun h121 => ?_)
                              · replace h121 := bT h121
                                have e121 := hb121.1 h121
                                refine CW.seq ?_
                                refine CW.region ?_
                                first | (refine LW.v rfl rfl (Val.indexAddrA rfl rfl Tryd.underlying111 Tryd.sizeOf9 (by omega)) ?_) | (refine LW.v rfl rfl (Val.indexAddrAI rfl rfl Tryd.underlying111 Tryd.sizeOf9 (by omega) (by omega)) ?_)
                                refine LW.v rfl rfl (Val.load (v := str (tx L i9 1)) rfl Tryd.isAgg9 (by repeat (first | exact .here | exact .inner .here | exact .inner (.inner .here) | refine .there ?_)) (by rfl)) ?_
                                first | (refine LW.v rfl rfl (Val.indexAddrA rfl rfl Tryd.underlying111 Tryd.sizeOf9 (by omega)) ?_) | (refine LW.v rfl rfl (Val.indexAddrAI rfl rfl Tryd.underlying111 Tryd.sizeOf9 (by omega) (by omega)) ?_)
                                refine LW.v rfl rfl (Val.load (v := str (tx L i9 2)) rfl Tryd.isAgg9 (by repeat (first | exact .here | exact .inner .here | exact .inner (.inner .here) | refine .there ?_)) (by rfl)) ?_
                                refine LW.v rfl rfl (Val.build [_, _, _, _, _] Tryd.zeroValue41 Tryd.underlying41 places41 rfl (by rfl)) ?_
                                first | (refine LW.eN rfl (Eff.storeW rfl rfl (by repeat (first | exact .here | exact .inner .here | exact .inner (.inner .here) | apply Upd.there)) (by rfl) Tryd.sizeOf41 (by rfl)) ?_) | (refine LW.eN rfl (Eff.storeW (cs := [.int .i64 7, str [], str [], str [], ownV k.2.2.1.length k.2.2.2]) rfl rfl (by repeat (first | exact .here | exact .inner .here | exact .inner (.inner .here) | apply Upd.there)) (by rfl) Tryd.sizeOf41 (by simp only [ownSl_v]; rfl)) ?_)
                                intro _ _
                                refine LW.v rfl rfl (Val.assign rfl) ?_
                                refine LW.nil ?_
                                refine PQ.seq ?_
                                refine CW.ret ?_
                                refine PQ.in_ret ?_
                                refine PQ.then_ret ?_
                                refine PQ.retCT rfl rfl rfl (by repeat (first | exact .here | exact .inner .here | exact .inner (.inner .here) | refine .there ?_)) Tryd.isAgg41 (by exact Tryd.sizeOf41) ?_
                                intro w' hw
                                have hp : pS1 L = _ := pS1_2 6 1 3 hx0 (by rw [e121.1]; decide) (by decide) (by decide) e121.2 (by omega) (hT (by rw [e121.1]; decide))
                                have hng : x0 ≠ [103, 114, 111, 117, 112] := by rw [e121.1]; decide
                                have hpc := pCA_s hx0 hng
                                rw [hp] at hpc
                                have hok := pS1_ok hL hp
                                exact ⟨(true, _, [], none), ⟨fun _ => hpc, (fun h => by cases h), ⟨rfl, rfl⟩, hok, by simp⟩, rfl, (hw.pick (ss := []) .nil).perm (.refl _)⟩
                              · replace h121 := bF h121
                                have n121 := hb121.2 h121
                                refine CW.seq ?_
                                refine CW.regJoin (fun b : Bool => (b = true → x0 = [103, 114, 111, 117, 112] ∧ 2 ≤ L.length) ∧ (b = false → ¬ (x0 = [103, 114, 111, 117, 112] ∧ 2 ≤ L.length))) (fun b => [(0, .slice (some ⟨pb, po, none⟩) L.length cap), (1, .bool false), (4, .pointer (some ⟨b4, 0, none⟩)), (5, .bool false), (6, .pointer (some ⟨b6, 0, none⟩)), (7, .pointer (some ⟨b7, 0, none⟩)), (11, .int .i64 ((L.length : Int) - 1)), (135, .bool b)]) (fun _ => [[(b7, .cells [str (tx L i9 1), str (tx L i9 2), str (tx L i9 3)].toArray 111 (0, 0))], [(b6, .cells [.int .i64 0, .string ⟨#[]⟩, .string ⟨#[]⟩, .string ⟨#[]⟩, .slice none 0 0].toArray 41 (0, 0))], [(b4, .cells [.int .i64 0, .string ⟨#[]⟩, .string ⟨#[]⟩, .string ⟨#[]⟩, .slice none 0 0].toArray 41 (0, 0))]]) ?_ ?_
                                · refine CW.region ?_
                                  refine LW.v rfl rfl (Val.move rfl) ?_
                                  first | (refine LW.v rfl rfl (Val.indexAddrN rfl rfl Tryd.underlying73 Tryd.sizeOf9 (by omega)) ?_) | (refine LW.v rfl rfl (Val.indexAddr rfl rfl Tryd.underlying73 Tryd.sizeOf9 (by omega) (by omega)) ?_)
                                  refine LW.v rfl rfl (Val.loadO rfl Tryd.isAgg9 hb (by simp [ids]) (hr 0 x0 hx0 0 _ rfl)) ?_
                                  refine LW.v rfl rfl (Val.eqStr rfl rfl) ?_
                                  refine LW.v rfl rfl (Val.move rfl) ?_
                                  refine LW.split (d := 140) rfl (fun h140 => ?_) (fun h140 => ?_)
                                  · replace h140 := bT h140
                                    refine LW.v rfl rfl (Val.move rfl) ?_
                                    refine LW.v rfl rfl (Val.cmp rfl rfl rfl) ?_
                                    refine LW.split (d := 142) rfl (fun h142 => ?_) (fun h142 => ?_)
                                    · replace h142 := bT h142
                                      refine LW.v rfl rfl (Val.pick_t rfl rfl) ?_
                                      refine LW.v rfl rfl (Val.move rfl) ?_
                                      refine LW.v rfl rfl (Val.move rfl) ?_
                                      refine LW.v rfl rfl (Val.not rfl) ?_
                                      refine LW.v rfl rfl (Val.pick_t rfl rfl) ?_
                                      refine LW.v rfl rfl (Val.assign rfl) ?_
                                      refine LW.nil ?_
                                      refine PQ.joined (true) (⟨fun _ => ⟨h140, by omega⟩, (fun h => by cases h)⟩) (by repeat (first | exact trivial | refine ⟨rfl, ?_⟩)) (by repeat (first | exact .nil | apply Pick.cons | exact .here | apply Ext.there))
                                    · replace h142 := bF h142
                                      refine LW.v rfl rfl (Val.pick_t rfl rfl) ?_
                                      refine LW.v rfl rfl (Val.move rfl) ?_
                                      refine LW.p rfl rfl ?_
                                      refine LW.p rfl rfl ?_
                                      refine LW.v rfl rfl (Val.pick_f rfl rfl) ?_
                                      refine LW.v rfl rfl (Val.assign rfl) ?_
                                      refine LW.nil ?_
                                      refine PQ.joined (false) (⟨(fun h => by cases h), fun _ h => absurd h.2 (by omega)⟩) (by repeat (first | exact trivial | refine ⟨rfl, ?_⟩)) (by repeat (first | exact .nil | apply Pick.cons | exact .here | apply Ext.there))
                                  · replace h140 := bF h140
                                    refine LW.p rfl rfl ?_
                                    refine LW.p rfl rfl ?_
                                    refine LW.v rfl rfl (Val.pick_f rfl rfl) ?_
                                    refine LW.v rfl rfl (Val.move rfl) ?_
                                    refine LW.p rfl rfl ?_
                                    refine LW.p rfl rfl ?_
                                    refine LW.v rfl rfl (Val.pick_f rfl rfl) ?_
                                    refine LW.v rfl rfl (Val.assign rfl) ?_
                                    refine LW.nil ?_
                                    refine PQ.joined (false) (⟨(fun h => by cases h), fun _ h => h140 h.1⟩) (by repeat (first | exact trivial | refine ⟨rfl, ?_⟩)) (by repeat (first | exact .nil | apply Pick.cons | exact .here | apply Ext.there))
                                · intro bb135 hb135
                                  refine PQ.seq ?_
                                  refine CW.cond rfl (fun h135 => ?_) (fun h135 => ?_)
                                  · replace h135 := bT h135
                                    have e135 := hb135.1 h135
                                    refine CW.seq ?_
                                    refine CW.region ?_
                                    refine LW.v rfl rfl (Val.fieldAddr 0 rfl Tryd.underlying41 rfl rfl Tryd.sizeOf3) ?_
                                    refine LW.eN rfl (Eff.store rfl rfl rfl (by repeat (first | exact .here | exact .inner .here | exact .inner (.inner .here) | apply Upd.there)) (by rfl) (by rfl) Tryd.sizeOf3) ?_
                                    intro _ _
                                    refine LW.nil ?_
                                    refine PQ.seq ?_
                                    refine CW.seq ?_
                                    refine CW.region ?_
                                    refine LW.v rfl rfl (Val.assign rfl) ?_
                                    refine LW.nil ?_
                                    refine PQ.seq ?_
                                    refine CW.seq ?_
                                    refine CW.seq ?_
                                    refine CW.region ?_
                                    refine LW.v rfl rfl (Val.assign rfl) ?_
                                    refine LW.nil ?_
                                    refine PQ.seq ?_
                                    refine CW.block ?_
                                    refine V.CW.perm (sg' := [(b7, .cells [str (tx L i9 1), str (tx L i9 2), str (tx L i9 3)].toArray 111 (0, 0))] :: [(b6, .cells [.int .i64 7, str [], str [], str [], ownV ([] : List Cq).length none].toArray 41 (0, 0))] :: [(b4, .cells [.int .i64 0, .string ⟨#[]⟩, .string ⟨#[]⟩, .string ⟨#[]⟩, .slice none 0 0].toArray 41 (0, 0))] :: [ownG 41 (([] : List Cq).flatMap Cq.cells) none]) ?_ (by first | exact .refl _ | (simp [V.ownG, V.ownS]; done))
                                    refine CW.loop (γ := Nat × Nat × List Cq × V.OwnO) (fun k => [(0, .slice (some ⟨pb, po, none⟩) L.length cap), (1, .bool false), (4, .pointer (some ⟨b4, 0, none⟩)), (5, .bool false), (6, .pointer (some ⟨b6, 0, none⟩)), (7, .pointer (some ⟨b7, 0, none⟩)), (12, .int .i64 (k.1 : Nat)), (13, .int .i64 (k.2.1 : Nat))]) (fun k => [[(b7, .cells [str (tx L i9 1), str (tx L i9 2), str (tx L i9 3)].toArray 111 (0, 0))], [(b6, .cells [.int .i64 7, str [], str [], str [], ownV k.2.2.1.length k.2.2.2].toArray 41 (0, 0))], [(b4, .cells [.int .i64 0, .string ⟨#[]⟩, .string ⟨#[]⟩, .string ⟨#[]⟩, .slice none 0 0].toArray 41 (0, 0))], ownG 41 (k.2.2.1.flatMap Cq.cells) k.2.2.2]) (fun k => GI L k.1 k.2.1 k.2.2.1 ∧ ownOk 5 k.2.2.1.length (k.2.2.1.flatMap Cq.cells) k.2.2.2 ∧ ∀ x ∈ k.2.2.1, x.grp = nilSl ∧ x.small) (fun k => L.length + 1 - k.2.1) ((1, 1, [], none)) ⟨⟨Nat.zero_lt_one, Nat.le_refl _, fun j h1 h2 => absurd h2 (Nat.not_lt.2 h1), .inl ⟨hpos, by simp⟩⟩, ⟨rfl, rfl⟩, by simp⟩ (by repeat (first | exact trivial | refine ⟨rfl, ?_⟩)) (by repeat (first | exact .nil | apply Pick.cons | exact .here | apply Ext.there)) ?_
                                    intro k
                                    rintro ⟨hGI, hk2, hk5⟩
                                    refine CW.seq ?_
                                    refine CW.seq ?_
                                    refine CW.region ?_
                                    refine LW.v rfl rfl (Val.move rfl) ?_
                                    refine LW.v rfl rfl (Val.move rfl) ?_
                                    refine LW.v rfl rfl (Val.lenSl rfl Tryd.underlying73) ?_
                                    refine LW.v rfl rfl (Val.cmp rfl rfl rfl) ?_
                                    refine LW.nil ?_
                                    refine PQ.seq ?_
                                    refine CW.cond rfl (fun h152 => ?_) (fun h152 => ?_)
                                    · replace h152 := bT h152
                                      have hil : k.2.1 ≤ L.length := by omega
                                      have hga := hGI.1
                                      have hai := hGI.2.1
                                      refine CW.skip ?_
                                      refine PQ.seq ?_
                                      refine CW.seq ?_
                                      refine CW.block ?_
                                      refine CW.seq ?_
                                      refine CW.seq ?_
                                      refine CW.region ?_
                                      refine LW.v rfl rfl (Val.move rfl) ?_
                                      refine LW.v rfl rfl (Val.move rfl) ?_
                                      refine LW.v rfl rfl (Val.lenSl rfl Tryd.underlying73) ?_
                                      refine LW.v rfl rfl (Val.cmp rfl rfl rfl) ?_
                                      refine LW.v rfl rfl (Val.move rfl) ?_
                                      refine LW.split (d := 159) rfl (fun h159 => ?_) (fun h159 => ?_)
                                      · replace h159 := bT h159
                                        obtain ⟨x, hx⟩ : ∃ x, L[k.2.1]? = some x := ⟨L[k.2.1]'(by omega), by simp⟩
                                        refine LW.v rfl rfl (Val.move rfl) ?_
                                        refine LW.v rfl rfl (Val.move rfl) ?_
                                        first | (refine LW.v rfl rfl (Val.indexAddrN rfl rfl Tryd.underlying73 Tryd.sizeOf9 (by omega)) ?_) | (refine LW.v rfl rfl (Val.indexAddr rfl rfl Tryd.underlying73 Tryd.sizeOf9 (by omega) (by omega)) ?_)
                                        refine LW.v rfl rfl (Val.loadO rfl Tryd.isAgg9 hb (by simp [ids]) (hr k.2.1 x hx 0 _ rfl)) ?_
                                        refine LW.v rfl rfl (Val.neStr rfl rfl) ?_
                                        refine LW.v rfl rfl (Val.pick_t rfl rfl) ?_
                                        refine LW.nil ?_
                                        refine PQ.seq ?_
                                        refine CW.cond rfl (fun h165 => ?_) (fun h165 => ?_)
                                        · replace h165 := bT h165
                                          refine CW.exit ?_
                                          refine PQ.then_exit ?_
                                          refine PQ.in_here ?_
                                          refine PQ.seq ?_
                                          refine CW.region ?_
                                          refine LW.v rfl rfl (Val.move rfl) ?_
                                          refine LW.v rfl rfl (Val.ar rfl rfl rfl (IntWalk.i64_in _ (by omega))) ?_
                                          refine LW.v rfl rfl (Val.assign rfl) ?_
                                          refine LW.nil ?_
                                          refine PQ.round ((k.1, k.2.1 + 1, k.2.2.1, k.2.2.2)) ⟨hGI.keep hx (by first | exact h165 | simpa using h165), hk2, hk5⟩ (by simp only; omega) (by repeat (first | exact trivial | refine ⟨rfl, ?_⟩)) (by repeat (first | exact .nil | apply Pick.cons | exact .here | apply Ext.there))
                                        · replace h165 := bF h165
                                          have hend : k.2.1 = L.length ∨ L[k.2.1]? = some [59] := .inr (by rw [hx]; exact congrArg some (by first | exact h165 | simpa using h165))
                                          refine CW.skip ?_
                                          refine PQ.seq ?_
                                          refine CW.seq ?_
                                          refine CW.seq ?_
                                          refine CW.region ?_
                                          refine LW.v rfl rfl (Val.move rfl) ?_
                                          refine LW.v rfl rfl (Val.move rfl) ?_
                                          refine LW.v rfl rfl (Val.cmp rfl rfl rfl) ?_
                                          refine LW.nil ?_
                                          refine PQ.seq ?_
                                          refine CW.cond rfl (fun h168 => ?_) (fun h168 => ?_)
                                          · replace h168 := bT h168
                                            have hae : k.1 = k.2.1 := by omega
                                            refine CW.seq ?_
                                            refine CW.region ?_
                                            first | (refine LW.v rfl rfl (Val.loadW rfl Tryd.isAgg41 (by repeat (first | exact .here | exact .inner .here | exact .inner (.inner .here) | refine .there ?_)) (by exact Tryd.sizeOf41)) ?_) | (refine LW.v rfl rfl (Val.loadA [_, _, _, _, _] rfl Tryd.isAgg41 (by repeat (first | exact .here | exact .inner .here | exact .inner (.inner .here) | refine .there ?_)) (by rfl) Tryd.sizeOf41) ?_)
                                            first | (refine LW.eN rfl (Eff.storeW rfl rfl (by repeat (first | exact .here | exact .inner .here | exact .inner (.inner .here) | apply Upd.there)) (by rfl) Tryd.sizeOf41 (by rfl)) ?_) | (refine LW.eN rfl (Eff.storeW (cs := [.int .i64 7, str [], str [], str [], ownV k.2.2.1.length k.2.2.2]) rfl rfl (by repeat (first | exact .here | exact .inner .here | exact .inner (.inner .here) | apply Upd.there)) (by rfl) Tryd.sizeOf41 (by simp only [ownSl_v]; rfl)) ?_)
                                            intro _ _
                                            refine LW.v rfl rfl (Val.assign rfl) ?_
                                            refine LW.nil ?_
                                            refine PQ.seq ?_
                                            refine CW.ret ?_
                                            refine PQ.then_ret ?_
                                            refine PQ.in_ret ?_
                                            refine PQ.then_ret ?_
                                            refine PQ.then_ret ?_
                                            refine PQ.in_ret ?_
                                            refine PQ.then_ret ?_
                                            refine PQ.in_ret ?_
                                            refine PQ.then_ret ?_
                                            refine PQ.retCT rfl rfl rfl (by repeat (first | exact .here | exact .inner .here | exact .inner (.inner .here) | refine .there ?_)) Tryd.isAgg41 (by exact Tryd.sizeOf41) ?_
                                            intro w' hw
                                            have hpc : pCA L = none := by
                                              rw [pCA_gr hx0 e135.1, GI.empty (i := k.2.1) (gl := k.2.2.1) (by have h8 := hGI; rw [hae] at h8; exact h8) hil hend]
                                            exact ⟨(false, c0q 7, k.2.2.1, k.2.2.2), ⟨(fun h => by cases h), fun _ => hpc, hk2, ⟨rfl, by unfold Cq.small c0q; simp⟩, hk5⟩, by simp only [Cq.re, Cq.cells, c0q]; rw [← ownSl_v], (hw.pick (ss := [ownG 41 (k.2.2.1.flatMap Cq.cells) k.2.2.2]) (by repeat (first | exact .nil | apply Pick.cons | exact .here | apply Ext.there))).perm (by first | exact .refl _ | (simp; done))⟩
                                          · replace h168 := bF h168
                                            have hal : k.1 < k.2.1 := by omega
                                            have hpl := GI.part hal hil
                                            refine CW.skip ?_
                                            refine PQ.seq ?_
                                            refine CW.seq ?_
                                            refine CW.region ?_
                                            refine LW.v rfl rfl (Val.move rfl) ?_
                                            refine LW.v rfl rfl (Val.move rfl) ?_
                                            refine LW.v rfl rfl (Val.move rfl) ?_
                                            refine LW.v rfl rfl (Val.slice k.1 k.2.1 cap rfl Tryd.underlying73 Tryd.sizeOf9 ⟨_, rfl⟩ ⟨_, rfl⟩ rfl (fun h => by cases h) (by omega) (by omega) (Nat.le_refl _)) ?_
                                            refine LW.re 174 (.slice (some ⟨pb, po + k.1 * 1, none⟩) ((L.drop k.1).take (k.2.1 - k.1)).length (cap - k.1)) rfl (by rw [if_neg (by omega), hpl]) ?_
                                            refine LW.e rfl rfl (Eff.callV rfl Tryd.call63 (fun w hw => rcalled1_c _ (cap - k.1) ((L.drop k.1).take (k.2.1 - k.1)) (by intro e; rw [e] at hpl; simp at hpl; omega) (fun y hy => hL y (List.mem_of_mem_drop (List.mem_of_mem_take hy))) (by omega) w (stE_part (hw.slAt hs (by simp [ids])) k.1 (k.2.1 - k.1)))) ?_
                                            intro _ _
                                            refine LW.v rfl rfl (Val.move rfl) ?_
                                            refine LW.v rfl rfl (Val.extract rfl rfl) ?_
                                            refine LW.v rfl rfl (Val.extract rfl rfl) ?_
                                            refine LW.e rfl rfl (Eff.allocA (by exact Tryd.zeroValue41)) ?_
                                            intro b14 _
                                            refine LW.eN rfl (Eff.storeW (cs := ((pS1 ((L.drop k.1).take (k.2.1 - k.1))).getD (c0q 0)).cells) rfl rfl (by repeat (first | exact .here | exact .inner .here | exact .inner (.inner .here) | apply Upd.there)) (by rfl) Tryd.sizeOf41 (by rfl)) ?_
                                            intro _ _
                                            refine LW.v rfl rfl (Val.assign rfl) ?_
                                            refine LW.nil ?_
                                            refine PQ.seq ?_
                                            refine CW.seq ?_
                                            refine CW.seq ?_
                                            refine CW.region ?_
                                            refine LW.v rfl rfl (Val.move rfl) ?_
                                            refine LW.v rfl rfl (Val.not rfl) ?_
                                            refine LW.nil ?_
                                            refine PQ.seq ?_
                                            refine CW.cond rfl (fun h179 => ?_) (fun h179 => ?_)
                                            · replace h179 := bT h179
                                              have hpn : pS1 ((L.drop k.1).take (k.2.1 - k.1)) = none := by cases hq : pS1 ((L.drop k.1).take (k.2.1 - k.1)) with | none => rfl | some z => rw [hq] at h179; simp at h179
                                              refine CW.seq ?_
                                              refine CW.region ?_
                                              first | (refine LW.v rfl rfl (Val.loadW rfl Tryd.isAgg41 (by repeat (first | exact .here | exact .inner .here | exact .inner (.inner .here) | refine .there ?_)) (by exact Tryd.sizeOf41)) ?_) | (refine LW.v rfl rfl (Val.loadA [_, _, _, _, _] rfl Tryd.isAgg41 (by repeat (first | exact .here | exact .inner .here | exact .inner (.inner .here) | refine .there ?_)) (by rfl) Tryd.sizeOf41) ?_)
                                              first | (refine LW.eN rfl (Eff.storeW rfl rfl (by repeat (first | exact .here | exact .inner .here | exact .inner (.inner .here) | apply Upd.there)) (by rfl) Tryd.sizeOf41 (by rfl)) ?_) | (refine LW.eN rfl (Eff.storeW (cs := [.int .i64 7, str [], str [], str [], ownV k.2.2.1.length k.2.2.2]) rfl rfl (by repeat (first | exact .here | exact .inner .here | exact .inner (.inner .here) | apply Upd.there)) (by rfl) Tryd.sizeOf41 (by simp only [ownSl_v]; rfl)) ?_)
                                              intro _ _
                                              refine LW.v rfl rfl (Val.assign rfl) ?_
                                              refine LW.nil ?_
                                              refine PQ.seq ?_
                                              refine CW.ret ?_
                                              refine PQ.then_ret ?_
                                              refine PQ.in_ret ?_
                                              refine PQ.then_ret ?_
                                              refine PQ.then_ret ?_
                                              refine PQ.in_ret ?_
                                              refine PQ.then_ret ?_
                                              refine PQ.in_ret ?_
                                              refine PQ.then_ret ?_
                                              refine PQ.retCT rfl rfl rfl (by repeat (first | exact .here | exact .inner .here | exact .inner (.inner .here) | refine .there ?_)) Tryd.isAgg41 (by exact Tryd.sizeOf41) ?_
                                              intro w' hw
                                              have hpc : pCA L = none := by
                                                rw [pCA_gr hx0 e135.1, GI.fail hGI hal hil hend hpn]
                                              exact ⟨(false, c0q 7, k.2.2.1, k.2.2.2), ⟨(fun h => by cases h), fun _ => hpc, hk2, ⟨rfl, by unfold Cq.small c0q; simp⟩, hk5⟩, by simp only [Cq.re, Cq.cells, c0q]; rw [← ownSl_v], (hw.pick (ss := [ownG 41 (k.2.2.1.flatMap Cq.cells) k.2.2.2]) (by repeat (first | exact .nil | apply Pick.cons | exact .here | apply Ext.there))).perm (by first | exact .refl _ | (simp; done))⟩
                                            · replace h179 := bF h179
                                              obtain ⟨c, hc⟩ : ∃ c, pS1 ((L.drop k.1).take (k.2.1 - k.1)) = some c := Option.isSome_iff_exists.1 (by first | exact h179 | simpa using h179)
                                              rw [hc]
                                              rw [Option.getD_some]
                                              refine CW.skip ?_
                                              refine PQ.seq ?_
                                              refine CW.seq ?_
                                              refine CW.region ?_
                                              refine LW.v rfl rfl (Val.fieldAddr 4 rfl Tryd.underlying41 rfl rfl Tryd.sizeOf39) ?_
                                              refine LW.e rfl rfl (Eff.ofVal (Val.load (v := ownV k.2.2.1.length k.2.2.2) rfl Tryd.isAgg39 (by repeat (first | exact .here | exact .inner .here | exact .inner (.inner .here) | refine .there ?_)) (by rfl))) ?_
                                              intro _ _
                                              refine LW.v rfl rfl (Val.loadW (l := c.cells) rfl Tryd.isAgg41 (by repeat (first | exact .here | exact .inner .here | exact .inner (.inner .here) | refine .there ?_)) (by exact Tryd.sizeOf41)) ?_
                                              refine LW.e rfl rfl (Eff.buildSlice (rfl) [_, _, _, _, _] Tryd.underlying39 Tryd.sizeOf41 (by exact Tryd.zeroValue41) rfl rfl rfl rfl (by rfl)) ?_
                                              intro b184 _
                                              refine LW.e rfl rfl (Eff.appendAny (c.cells) (sz := 5) (bytes := 80) (z := .agg #[.int .i64 0, .string ⟨#[]⟩, .string ⟨#[]⟩, .string ⟨#[]⟩, .slice none 0 0]) (xs := k.2.2.1.flatMap Cq.cells) (m0 := k.2.2.1.length) (o := k.2.2.2) (m := 1) (pk := [ownG 41 (k.2.2.1.flatMap Cq.cells) k.2.2.2]) rfl rfl Tryd.underlying39 (by kernel_rfl) rfl (by omega) (by repeat (first | exact .nil | apply Pick.cons | exact .here | apply Ext.there)) (by simp) hk2 (by rfl) (fun hm0 => ⟨b184, 0, rfl, fun w hw => V.range_of_block (o := 0) (cs := c.cells) (r := []) (hw.own _ (show InS (b184, .cells (c.cells).toArray 41 (0, 0)) _ from (by repeat (first | exact .here | exact .inner .here | exact .inner (.inner .here) | refine .there ?_))).mem) rfl⟩) (by rfl) (by omega) (by omega)) ?_
                                              intro o9 ho9
                                              refine LW.v rfl rfl (Val.fieldAddr 4 rfl Tryd.underlying41 rfl rfl Tryd.sizeOf39) ?_
                                              refine LW.eN rfl (Eff.store rfl rfl (V.ownV_one _ _) (by repeat (first | exact .here | exact .inner .here | exact .inner (.inner .here) | apply Upd.there)) (by rfl) (by rfl) Tryd.sizeOf39) ?_
                                              intro _ _
                                              refine LW.nil ?_
                                              refine PQ.seq ?_
                                              refine CW.region ?_
                                              refine LW.v rfl rfl (Val.move rfl) ?_
                                              refine LW.v rfl rfl (Val.ar rfl rfl rfl (IntWalk.i64_in _ (by omega))) ?_
                                              refine LW.v rfl rfl (Val.assign rfl) ?_
                                              refine LW.nil ?_
                                              refine PQ.in_normal ?_
                                              refine PQ.seq ?_
                                              refine CW.region ?_
                                              refine LW.v rfl rfl (Val.move rfl) ?_
                                              refine LW.v rfl rfl (Val.ar rfl rfl rfl (IntWalk.i64_in _ (by omega))) ?_
                                              refine LW.v rfl rfl (Val.assign rfl) ?_
                                              refine LW.nil ?_
                                              have hlN : (k.2.2.1 ++ [c]).length = k.2.2.1.length + 1 := by simp
                                              have hfN : k.2.2.1.flatMap Cq.cells ++ c.cells = (k.2.2.1 ++ [c]).flatMap Cq.cells := by simp
                                              have hall : ∀ x ∈ k.2.2.1 ++ [c], x.grp = nilSl ∧ x.small := fun x hx => by
                                                rcases List.mem_append.1 hx with h8 | h8
                                                · exact hk5 x h8
                                                · simp at h8; subst h8; exact pS1_ok (fun y hy => hL y (List.mem_of_mem_drop (List.mem_of_mem_take hy))) hc
                                              refine PQ.segs (ss := [[(b6, .cells [.int .i64 7, str [], str [], str [], ownV (k.2.2.1.length + 1) o9].toArray 41 (0, 0))], [(b7, .cells [str (tx L i9 1), str (tx L i9 2), str (tx L i9 3)].toArray 111 (0, 0))], [(b4, .cells [.int .i64 0, .string ⟨#[]⟩, .string ⟨#[]⟩, .string ⟨#[]⟩, .slice none 0 0].toArray 41 (0, 0))], ownG 41 (k.2.2.1.flatMap Cq.cells ++ c.cells) o9]) ?_ (by repeat (first | exact .nil | apply Pick.cons | exact .here | apply Ext.there))
                                              rw [hfN, ← hlN]
                                              refine PQ.round ((k.2.1 + 1, k.2.1 + 1, k.2.2.1 ++ [c], o9)) ⟨hGI.next hal hil hend hc, by rw [hlN, ← hfN]; exact ho9, hall⟩ (by simp only; omega) (by repeat (first | exact trivial | refine ⟨rfl, ?_⟩)) (by repeat (first | exact .nil | apply Pick.cons | exact .here | apply Ext.there))
                                      · replace h159 := bF h159
                                        have hend : k.2.1 = L.length ∨ L[k.2.1]? = some [59] := .inl (by omega)
                                        refine LW.p rfl rfl ?_
                                        refine LW.p rfl rfl ?_
                                        refine LW.p rfl rfl ?_
                                        refine LW.p rfl rfl ?_
                                        refine LW.p rfl rfl ?_
                                        refine LW.v rfl rfl (Val.pick_f rfl rfl) ?_
                                        refine LW.nil ?_
                                        refine PQ.seq ?_
                                        refine CW.cond_f rfl ?_
                                        refine CW.skip ?_
                                        refine PQ.seq ?_
                                        refine CW.seq ?_
                                        refine CW.seq ?_
                                        refine CW.region ?_
                                        refine LW.v rfl rfl (Val.move rfl) ?_
                                        refine LW.v rfl rfl (Val.move rfl) ?_
                                        refine LW.v rfl rfl (Val.cmp rfl rfl rfl) ?_
                                        refine LW.nil ?_
                                        refine PQ.seq ?_
                                        refine CW.cond rfl (fun h168 => ?_) (fun h168 => ?_)
                                        · replace h168 := bT h168
                                          have hae : k.1 = k.2.1 := by omega
                                          refine CW.seq ?_
                                          refine CW.region ?_
                                          first | (refine LW.v rfl rfl (Val.loadW rfl Tryd.isAgg41 (by repeat (first | exact .here | exact .inner .here | exact .inner (.inner .here) | refine .there ?_)) (by exact Tryd.sizeOf41)) ?_) | (refine LW.v rfl rfl (Val.loadA [_, _, _, _, _] rfl Tryd.isAgg41 (by repeat (first | exact .here | exact .inner .here | exact .inner (.inner .here) | refine .there ?_)) (by rfl) Tryd.sizeOf41) ?_)
                                          first | (refine LW.eN rfl (Eff.storeW rfl rfl (by repeat (first | exact .here | exact .inner .here | exact .inner (.inner .here) | apply Upd.there)) (by rfl) Tryd.sizeOf41 (by rfl)) ?_) | (refine LW.eN rfl (Eff.storeW (cs := [.int .i64 7, str [], str [], str [], ownV k.2.2.1.length k.2.2.2]) rfl rfl (by repeat (first | exact .here | exact .inner .here | exact .inner (.inner .here) | apply Upd.there)) (by rfl) Tryd.sizeOf41 (by simp only [ownSl_v]; rfl)) ?_)
                                          intro _ _
                                          refine LW.v rfl rfl (Val.assign rfl) ?_
                                          refine LW.nil ?_
                                          refine PQ.seq ?_
                                          refine CW.ret ?_
                                          refine PQ.then_ret ?_
                                          refine PQ.in_ret ?_
                                          refine PQ.then_ret ?_
                                          refine PQ.then_ret ?_
                                          refine PQ.in_ret ?_
                                          refine PQ.then_ret ?_
                                          refine PQ.in_ret ?_
                                          refine PQ.then_ret ?_
                                          refine PQ.retCT rfl rfl rfl (by repeat (first | exact .here | exact .inner .here | exact .inner (.inner .here) | refine .there ?_)) Tryd.isAgg41 (by exact Tryd.sizeOf41) ?_
                                          intro w' hw
                                          have hpc : pCA L = none := by
                                            rw [pCA_gr hx0 e135.1, GI.empty (i := k.2.1) (gl := k.2.2.1) (by have h8 := hGI; rw [hae] at h8; exact h8) hil hend]
                                          exact ⟨(false, c0q 7, k.2.2.1, k.2.2.2), ⟨(fun h => by cases h), fun _ => hpc, hk2, ⟨rfl, by unfold Cq.small c0q; simp⟩, hk5⟩, by simp only [Cq.re, Cq.cells, c0q]; rw [← ownSl_v], (hw.pick (ss := [ownG 41 (k.2.2.1.flatMap Cq.cells) k.2.2.2]) (by repeat (first | exact .nil | apply Pick.cons | exact .here | apply Ext.there))).perm (by first | exact .refl _ | (simp; done))⟩
                                        · replace h168 := bF h168
                                          have hal : k.1 < k.2.1 := by omega
                                          have hpl := GI.part hal hil
                                          refine CW.skip ?_
                                          refine PQ.seq ?_
                                          refine CW.seq ?_
                                          refine CW.region ?_
                                          refine LW.v rfl rfl (Val.move rfl) ?_
                                          refine LW.v rfl rfl (Val.move rfl) ?_
                                          refine LW.v rfl rfl (Val.move rfl) ?_
                                          refine LW.v rfl rfl (Val.slice k.1 k.2.1 cap rfl Tryd.underlying73 Tryd.sizeOf9 ⟨_, rfl⟩ ⟨_, rfl⟩ rfl (fun h => by cases h) (by omega) (by omega) (Nat.le_refl _)) ?_
                                          refine LW.re 174 (.slice (some ⟨pb, po + k.1 * 1, none⟩) ((L.drop k.1).take (k.2.1 - k.1)).length (cap - k.1)) rfl (by rw [if_neg (by omega), hpl]) ?_
                                          refine LW.e rfl rfl (Eff.callV rfl Tryd.call63 (fun w hw => rcalled1_c _ (cap - k.1) ((L.drop k.1).take (k.2.1 - k.1)) (by intro e; rw [e] at hpl; simp at hpl; omega) (fun y hy => hL y (List.mem_of_mem_drop (List.mem_of_mem_take hy))) (by omega) w (stE_part (hw.slAt hs (by simp [ids])) k.1 (k.2.1 - k.1)))) ?_
                                          intro _ _
                                          refine LW.v rfl rfl (Val.move rfl) ?_
                                          refine LW.v rfl rfl (Val.extract rfl rfl) ?_
                                          refine LW.v rfl rfl (Val.extract rfl rfl) ?_
                                          refine LW.e rfl rfl (Eff.allocA (by exact Tryd.zeroValue41)) ?_
                                          intro b14 _
                                          refine LW.eN rfl (Eff.storeW (cs := ((pS1 ((L.drop k.1).take (k.2.1 - k.1))).getD (c0q 0)).cells) rfl rfl (by repeat (first | exact .here | exact .inner .here | exact .inner (.inner .here) | apply Upd.there)) (by rfl) Tryd.sizeOf41 (by rfl)) ?_
                                          intro _ _
                                          refine LW.v rfl rfl (Val.assign rfl) ?_
                                          refine LW.nil ?_
                                          refine PQ.seq ?_
                                          refine CW.seq ?_
                                          refine CW.seq ?_
                                          refine CW.region ?_
                                          refine LW.v rfl rfl (Val.move rfl) ?_
                                          refine LW.v rfl rfl (Val.not rfl) ?_
                                          refine LW.nil ?_
                                          refine PQ.seq ?_
                                          refine CW.cond rfl (fun h179 => ?_) (fun h179 => ?_)
                                          · replace h179 := bT h179
                                            have hpn : pS1 ((L.drop k.1).take (k.2.1 - k.1)) = none := by cases hq : pS1 ((L.drop k.1).take (k.2.1 - k.1)) with | none => rfl | some z => rw [hq] at h179; simp at h179
                                            refine CW.seq ?_
                                            refine CW.region ?_
                                            first | (refine LW.v rfl rfl (Val.loadW rfl Tryd.isAgg41 (by repeat (first | exact .here | exact .inner .here | exact .inner (.inner .here) | refine .there ?_)) (by exact Tryd.sizeOf41)) ?_) | (refine LW.v rfl rfl (Val.loadA [_, _, _, _, _] rfl Tryd.isAgg41 (by repeat (first | exact .here | exact .inner .here | exact .inner (.inner .here) | refine .there ?_)) (by rfl) Tryd.sizeOf41) ?_)
                                            first | (refine LW.eN rfl (Eff.storeW rfl rfl (by repeat (first | exact .here | exact .inner .here | exact .inner (.inner .here) | apply Upd.there)) (by rfl) Tryd.sizeOf41 (by rfl)) ?_) | (refine LW.eN rfl (Eff.storeW (cs := [.int .i64 7, str [], str [], str [], ownV k.2.2.1.length k.2.2.2]) rfl rfl (by repeat (first | exact .here | exact .inner .here | exact .inner (.inner .here) | apply Upd.there)) (by rfl) Tryd.sizeOf41 (by simp only [ownSl_v]; rfl)) ?_)
                                            intro _ _
                                            refine LW.v rfl rfl (Val.assign rfl) ?_
                                            refine LW.nil ?_
                                            refine PQ.seq ?_
                                            refine CW.ret ?_
                                            refine PQ.then_ret ?_
                                            refine PQ.in_ret ?_
                                            refine PQ.then_ret ?_
                                            refine PQ.then_ret ?_
                                            refine PQ.in_ret ?_
                                            refine PQ.then_ret ?_
                                            refine PQ.in_ret ?_
                                            refine PQ.then_ret ?_
                                            refine PQ.retCT rfl rfl rfl (by repeat (first | exact .here | exact .inner .here | exact .inner (.inner .here) | refine .there ?_)) Tryd.isAgg41 (by exact Tryd.sizeOf41) ?_
                                            intro w' hw
                                            have hpc : pCA L = none := by
                                              rw [pCA_gr hx0 e135.1, GI.fail hGI hal hil hend hpn]
                                            exact ⟨(false, c0q 7, k.2.2.1, k.2.2.2), ⟨(fun h => by cases h), fun _ => hpc, hk2, ⟨rfl, by unfold Cq.small c0q; simp⟩, hk5⟩, by simp only [Cq.re, Cq.cells, c0q]; rw [← ownSl_v], (hw.pick (ss := [ownG 41 (k.2.2.1.flatMap Cq.cells) k.2.2.2]) (by repeat (first | exact .nil | apply Pick.cons | exact .here | apply Ext.there))).perm (by first | exact .refl _ | (simp; done))⟩
                                          · replace h179 := bF h179
                                            obtain ⟨c, hc⟩ : ∃ c, pS1 ((L.drop k.1).take (k.2.1 - k.1)) = some c := Option.isSome_iff_exists.1 (by first | exact h179 | simpa using h179)
                                            rw [hc]
                                            rw [Option.getD_some]
                                            refine CW.skip ?_
                                            refine PQ.seq ?_
                                            refine CW.seq ?_
                                            refine CW.region ?_
                                            refine LW.v rfl rfl (Val.fieldAddr 4 rfl Tryd.underlying41 rfl rfl Tryd.sizeOf39) ?_
                                            refine LW.e rfl rfl (Eff.ofVal (Val.load (v := ownV k.2.2.1.length k.2.2.2) rfl Tryd.isAgg39 (by repeat (first | exact .here | exact .inner .here | exact .inner (.inner .here) | refine .there ?_)) (by rfl))) ?_
                                            intro _ _
                                            refine LW.v rfl rfl (Val.loadW (l := c.cells) rfl Tryd.isAgg41 (by repeat (first | exact .here | exact .inner .here | exact .inner (.inner .here) | refine .there ?_)) (by exact Tryd.sizeOf41)) ?_
                                            refine LW.e rfl rfl (Eff.buildSlice (rfl) [_, _, _, _, _] Tryd.underlying39 Tryd.sizeOf41 (by exact Tryd.zeroValue41) rfl rfl rfl rfl (by rfl)) ?_
                                            intro b184 _
                                            refine LW.e rfl rfl (Eff.appendAny (c.cells) (sz := 5) (bytes := 80) (z := .agg #[.int .i64 0, .string ⟨#[]⟩, .string ⟨#[]⟩, .string ⟨#[]⟩, .slice none 0 0]) (xs := k.2.2.1.flatMap Cq.cells) (m0 := k.2.2.1.length) (o := k.2.2.2) (m := 1) (pk := [ownG 41 (k.2.2.1.flatMap Cq.cells) k.2.2.2]) rfl rfl Tryd.underlying39 (by kernel_rfl) rfl (by omega) (by repeat (first | exact .nil | apply Pick.cons | exact .here | apply Ext.there)) (by simp) hk2 (by rfl) (fun hm0 => ⟨b184, 0, rfl, fun w hw => V.range_of_block (o := 0) (cs := c.cells) (r := []) (hw.own _ (show InS (b184, .cells (c.cells).toArray 41 (0, 0)) _ from (by repeat (first | exact .here | exact .inner .here | exact .inner (.inner .here) | refine .there ?_))).mem) rfl⟩) (by rfl) (by omega) (by omega)) ?_
                                            intro o9 ho9
                                            refine LW.v rfl rfl (Val.fieldAddr 4 rfl Tryd.underlying41 rfl rfl Tryd.sizeOf39) ?_
                                            refine LW.eN rfl (Eff.store rfl rfl (V.ownV_one _ _) (by repeat (first | exact .here | exact .inner .here | exact .inner (.inner .here) | apply Upd.there)) (by rfl) (by rfl) Tryd.sizeOf39) ?_
                                            intro _ _
                                            refine LW.nil ?_
                                            refine PQ.seq ?_
                                            refine CW.region ?_
                                            refine LW.v rfl rfl (Val.move rfl) ?_
                                            refine LW.v rfl rfl (Val.ar rfl rfl rfl (IntWalk.i64_in _ (by omega))) ?_
                                            refine LW.v rfl rfl (Val.assign rfl) ?_
                                            refine LW.nil ?_
                                            refine PQ.in_normal ?_
                                            refine PQ.seq ?_
                                            refine CW.region ?_
                                            refine LW.v rfl rfl (Val.move rfl) ?_
                                            refine LW.v rfl rfl (Val.ar rfl rfl rfl (IntWalk.i64_in _ (by omega))) ?_
                                            refine LW.v rfl rfl (Val.assign rfl) ?_
                                            refine LW.nil ?_
                                            have hlN : (k.2.2.1 ++ [c]).length = k.2.2.1.length + 1 := by simp
                                            have hfN : k.2.2.1.flatMap Cq.cells ++ c.cells = (k.2.2.1 ++ [c]).flatMap Cq.cells := by simp
                                            have hall : ∀ x ∈ k.2.2.1 ++ [c], x.grp = nilSl ∧ x.small := fun x hx => by
                                              rcases List.mem_append.1 hx with h8 | h8
                                              · exact hk5 x h8
                                              · simp at h8; subst h8; exact pS1_ok (fun y hy => hL y (List.mem_of_mem_drop (List.mem_of_mem_take hy))) hc
                                            refine PQ.segs (ss := [[(b6, .cells [.int .i64 7, str [], str [], str [], ownV (k.2.2.1.length + 1) o9].toArray 41 (0, 0))], [(b7, .cells [str (tx L i9 1), str (tx L i9 2), str (tx L i9 3)].toArray 111 (0, 0))], [(b4, .cells [.int .i64 0, .string ⟨#[]⟩, .string ⟨#[]⟩, .string ⟨#[]⟩, .slice none 0 0].toArray 41 (0, 0))], ownG 41 (k.2.2.1.flatMap Cq.cells ++ c.cells) o9]) ?_ (by repeat (first | exact .nil | apply Pick.cons | exact .here | apply Ext.there))
                                            rw [hfN, ← hlN]
                                            refine PQ.round ((k.2.1 + 1, k.2.1 + 1, k.2.2.1 ++ [c], o9)) ⟨hGI.next hal hil hend hc, by rw [hlN, ← hfN]; exact ho9, hall⟩ (by simp only; omega) (by repeat (first | exact trivial | refine ⟨rfl, ?_⟩)) (by repeat (first | exact .nil | apply Pick.cons | exact .here | apply Ext.there))
                                    · replace h152 := bF h152
                                      refine CW.exit ?_
                                      refine PQ.then_exit ?_
                                      refine PQ.then_exit ?_
                                      refine PQ.in_here ?_
                                      refine PQ.seq ?_
                                      refine CW.seq ?_
                                      refine CW.region ?_
                                      first | (refine LW.v rfl rfl (Val.loadW rfl Tryd.isAgg41 (by repeat (first | exact .here | exact .inner .here | exact .inner (.inner .here) | refine .there ?_)) (by exact Tryd.sizeOf41)) ?_) | (refine LW.v rfl rfl (Val.loadA [_, _, _, _, _] rfl Tryd.isAgg41 (by repeat (first | exact .here | exact .inner .here | exact .inner (.inner .here) | refine .there ?_)) (by rfl) Tryd.sizeOf41) ?_)
                                      first | (refine LW.eN rfl (Eff.storeW rfl rfl (by repeat (first | exact .here | exact .inner .here | exact .inner (.inner .here) | apply Upd.there)) (by rfl) Tryd.sizeOf41 (by rfl)) ?_) | (refine LW.eN rfl (Eff.storeW (cs := [.int .i64 7, str [], str [], str [], ownV k.2.2.1.length k.2.2.2]) rfl rfl (by repeat (first | exact .here | exact .inner .here | exact .inner (.inner .here) | apply Upd.there)) (by rfl) Tryd.sizeOf41 (by simp only [ownSl_v]; rfl)) ?_)
                                      intro _ _
                                      refine LW.v rfl rfl (Val.assign rfl) ?_
                                      refine LW.nil ?_
                                      refine PQ.seq ?_
                                      refine CW.ret ?_
                                      refine PQ.in_ret ?_
                                      refine PQ.then_ret ?_
                                      refine PQ.retCT rfl rfl rfl (by repeat (first | exact .here | exact .inner .here | exact .inner (.inner .here) | refine .there ?_)) Tryd.isAgg41 (by exact Tryd.sizeOf41) ?_
                                      intro w' hw
                                      have hpc : pCA L = some (c0q 7, k.2.2.1) := by
                                        rw [pCA_gr hx0 e135.1, GI.last hGI (by omega)]
                                      exact ⟨(true, c0q 7, k.2.2.1, k.2.2.2), ⟨fun _ => hpc, (fun h => by cases h), hk2, ⟨rfl, by unfold Cq.small c0q; simp⟩, hk5⟩, by simp only [Cq.re, Cq.cells, c0q]; rw [← ownSl_v], (hw.pick (ss := [ownG 41 (k.2.2.1.flatMap Cq.cells) k.2.2.2]) (by repeat (first | exact .nil | apply Pick.cons | exact .here | apply Ext.there))).perm (by first | exact .refl _ | (simp; done))⟩
                                  · replace h135 := bF h135
                                    have n135 := hb135.2 h135
                                    refine CW.skip ?_
                                    refine PQ.in_normal ?_
                                    refine PQ.seq ?_
                                    refine CW.seq ?_
                                    refine CW.region ?_
                                    first | (refine LW.v rfl rfl (Val.loadW rfl Tryd.isAgg41 (by repeat (first | exact .here | exact .inner .here | exact .inner (.inner .here) | refine .there ?_)) (by exact Tryd.sizeOf41)) ?_) | (refine LW.v rfl rfl (Val.loadA [_, _, _, _, _] rfl Tryd.isAgg41 (by repeat (first | exact .here | exact .inner .here | exact .inner (.inner .here) | refine .there ?_)) (by rfl) Tryd.sizeOf41) ?_)
                                    first | (refine LW.eN rfl (Eff.storeW rfl rfl (by repeat (first | exact .here | exact .inner .here | exact .inner (.inner .here) | apply Upd.there)) (by rfl) Tryd.sizeOf41 (by rfl)) ?_) | (refine LW.eN rfl (Eff.storeW (cs := [.int .i64 7, str [], str [], str [], ownV k.2.2.1.length k.2.2.2]) rfl rfl (by repeat (first | exact .here | exact .inner .here | exact .inner (.inner .here) | apply Upd.there)) (by rfl) Tryd.sizeOf41 (by simp only [ownSl_v]; rfl)) ?_)
                                    intro _ _
                                    refine LW.v rfl rfl (Val.assign rfl) ?_
                                    refine LW.nil ?_
                                    refine PQ.seq ?_
                                    refine CW.ret ?_
                                    refine PQ.retCT rfl rfl rfl (by repeat (first | exact .here | exact .inner .here | exact .inner (.inner .here) | refine .there ?_)) Tryd.isAgg41 (by exact Tryd.sizeOf41) ?_
                                    intro w' hw
                                    have hp : pS1 L = none := pS1_none hx0 n51 n63 n75 n89 n101 n111 n121
                                    by_cases hng : x0 = [103, 114, 111, 117, 112]
                                    · have hl1 : L.length = 1 := by
                                        by_cases h8 : 2 ≤ L.length
                                        · exact absurd ⟨hng, h8⟩ n135
                                        · omega
                                      have hpc : pCA L = none := pCA_g1 hx0 hng hl1
                                      exact ⟨(false, c0q 0, [], none), ⟨(fun h => by cases h), fun _ => hpc, ⟨rfl, rfl⟩, ⟨rfl, by unfold Cq.small c0q; simp⟩, by simp⟩, rfl, (hw.pick (ss := []) .nil).perm (.refl _)⟩
                                    have hpc : pCA L = none := by rw [pCA_s hx0 hng, hp]; rfl
                                    exact ⟨(false, c0q 0, [], none), ⟨(fun h => by cases h), fun _ => hpc, ⟨rfl, rfl⟩, ⟨rfl, by unfold Cq.small c0q; simp⟩, by simp⟩, rfl, (hw.pick (ss := []) .nil).perm (.refl _)⟩
end Go.Proofs.YtagliemeolngiaaDoor
