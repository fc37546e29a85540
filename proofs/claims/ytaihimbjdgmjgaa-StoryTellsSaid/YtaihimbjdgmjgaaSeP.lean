/- Stable sorts in plain words: sorted by a key, and equal keys in their order. -/
import Derived.Test.YtaihimbjdgmjgaaV21
import Derived.Lib.Hide
namespace Go.Proofs.Ytaihimbjdgmjgaa
open Go Go.RowKit V
set_option linter.unusedVariables false
set_option maxRecDepth 100000
section
variable {α : Type} (key : α → Int)
def Up (l : List α) : Prop := l.Pairwise fun a b => key a ≤ key b
def Sta (l l' : List α) : Prop := l'.length = l.length ∧ ∀ k : Int, l'.filter (fun x => key x == k) = l.filter (fun x => key x == k)
variable {key}
theorem Sta.refl (l : List α) : Sta key l l := ⟨rfl, fun _ => rfl⟩
theorem Sta.trans {a b c : List α} (h : Sta key a b) (h' : Sta key b c) : Sta key a c := ⟨h'.1.trans h.1, fun k => (h'.2 k).trans (h.2 k)⟩
theorem Sta.app {a a' b b' : List α} (h : Sta key a a') (h' : Sta key b b') : Sta key (a ++ b) (a' ++ b') := ⟨by simp [h.1, h'.1], fun k => by rw [List.filter_append, List.filter_append, h.2, h'.2]⟩
theorem Sta.mem {a a' : List α} (h : Sta key a a') (x : α) : x ∈ a' ↔ x ∈ a := by
  have h1 := h.2 (key x)
  constructor
  · intro hx
    have : x ∈ a'.filter (fun y => key y == key x) := List.mem_filter.2 ⟨hx, by simp⟩
    rw [h1] at this
    exact (List.mem_filter.1 this).1
  · intro hx
    have : x ∈ a.filter (fun y => key y == key x) := List.mem_filter.2 ⟨hx, by simp⟩
    rw [← h1] at this
    exact (List.mem_filter.1 this).1
theorem Sta.swap {u v : List α} (h : ∀ x ∈ u, ∀ y ∈ v, key y < key x) : Sta key (u ++ v) (v ++ u) := ⟨by simp [Nat.add_comm], fun k => by
  rw [List.filter_append, List.filter_append]
  by_cases hu : ∃ x ∈ u, key x = k
  · obtain ⟨x, hx, rfl⟩ := hu
    have : v.filter (fun y => key y == key x) = [] := List.filter_eq_nil_iff.2 fun y hy e => by
      have := h x hx y hy
      simp at e; omega
    rw [this]; simp
  · have : u.filter (fun y => key y == k) = [] := List.filter_eq_nil_iff.2 fun y hy e => hu ⟨y, hy, by simpa using e⟩
    rw [this]; simp⟩
theorem Up.app {a b : List α} (ha : Up key a) (hb : Up key b) (h : ∀ x ∈ a, ∀ y ∈ b, key x ≤ key y) : Up key (a ++ b) := List.pairwise_append.2 ⟨ha, hb, h⟩
theorem Up.of_app {a b : List α} (h : Up key (a ++ b)) : Up key a ∧ Up key b ∧ ∀ x ∈ a, ∀ y ∈ b, key x ≤ key y := List.pairwise_append.1 h
theorem up_nil : Up key ([] : List α) := List.Pairwise.nil
theorem up_one (x : α) : Up key [x] := by simp [Up]
theorem Up.get {l : List α} (h : Up key l) {i j : Nat} {x y : α} (hx : l[i]? = some x) (hy : l[j]? = some y) (hij : i ≤ j) : key x ≤ key y := by
  rcases Nat.lt_or_ge i j with h1 | h1
  · obtain ⟨hi, rfl⟩ := List.getElem?_eq_some_iff.1 hx
    obtain ⟨hj, rfl⟩ := List.getElem?_eq_some_iff.1 hy
    exact List.pairwise_iff_getElem.1 h i j hi hj h1
  · obtain rfl : i = j := by omega
    rw [hx] at hy; cases hy; exact Int.le_refl _
theorem mem_take {l : List α} {i : Nat} {y : α} (h : y ∈ l.take i) : ∃ j, j < i ∧ l[j]? = some y := by
  obtain ⟨j, hj⟩ := List.getElem?_of_mem h
  rw [List.getElem?_take] at hj
  split at hj
  · exact ⟨j, by assumption, hj⟩
  · cases hj
theorem mem_drop {l : List α} {i : Nat} {y : α} (h : y ∈ l.drop i) : ∃ j, i ≤ j ∧ l[j]? = some y := by
  obtain ⟨j, hj⟩ := List.getElem?_of_mem h
  rw [List.getElem?_drop] at hj
  exact ⟨i + j, by omega, hj⟩
/-- The elements' places. -/
theorem at_app (p : List α) (u : α) (q : List α) (i : Nat) (hi : i = p.length) : (p ++ u :: q)[i]? = some u := by subst hi; simp
theorem swp (p : List α) (u : α) (z : List α) (v : α) (q : List α) (i j : Nat) (hi : i = p.length) (hj : j = p.length + 1 + z.length) : ((p ++ u :: (z ++ v :: q)).set i v).set j u = p ++ v :: (z ++ u :: q) := by
  subst hi; subst hj
  rw [List.set_append_right _ _ (by omega), Nat.sub_self, List.set_cons_zero, List.set_append_right _ _ (by omega)]
  have : p.length + 1 + z.length - p.length = z.length + 1 := by omega
  rw [this, List.set_cons_succ, List.set_append_right _ _ (by omega), Nat.sub_self, List.set_cons_zero]
theorem swp' (p : List α) (u : α) (z : List α) (v : α) (q : List α) (i j : Nat) (hi : i = p.length) (hj : j = p.length + 1 + z.length) : ((p ++ u :: (z ++ v :: q)).set j u).set i v = p ++ v :: (z ++ u :: q) := by
  rw [List.set_comm _ _ (by omega)]; exact swp p u z v q i j hi hj
theorem take_snoc {l : List α} {i : Nat} {x : α} (h : l[i]? = some x) : l.take (i + 1) = l.take i ++ [x] := by rw [List.take_add_one, h]; rfl
theorem drop_cons {l : List α} {i : Nat} {x : α} (h : l[i]? = some x) : l.drop i = x :: l.drop (i + 1) := by
  obtain ⟨hi, rfl⟩ := List.getElem?_eq_some_iff.1 h
  exact List.drop_eq_getElem_cons hi
/-- x goes into a sorted list, ahead of the greater ones, behind all others. -/
theorem ins_sta (l : List α) (t : Nat) (x : α) (h : ∀ y ∈ l.drop t, key x < key y) : Sta key (l ++ [x]) (l.take t ++ x :: l.drop t) := by
  have h1 : Sta key (l.take t ++ (l.drop t ++ [x])) (l.take t ++ ([x] ++ l.drop t)) := (Sta.refl _).app (Sta.swap (fun y hy z hz => by rw [List.mem_singleton] at hz; subst hz; exact h y hy))
  rw [← List.append_assoc, List.take_append_drop] at h1
  simpa using h1
theorem ins_up {l : List α} (hl : Up key l) (t : Nat) (x : α) (h : ∀ y ∈ l.drop t, key x ≤ key y) (h' : ∀ y ∈ l.take t, key y ≤ key x) : Up key (l.take t ++ x :: l.drop t) := by
  have h0 := hl
  rw [← List.take_append_drop t l] at h0
  obtain ⟨a, b, c⟩ := h0.of_app
  refine a.app (List.pairwise_cons.2 ⟨h, b⟩) fun y hy z hz => ?_
  rcases List.mem_cons.1 hz with rfl | hz
  · exact h' y hy
  · exact c y hy z hz
/-- x stands ahead of a sorted list, and goes behind the lesser ones. -/
theorem ins_sta' (l : List α) (t : Nat) (x : α) (h : ∀ y ∈ l.take t, key y < key x) : Sta key ([x] ++ l) (l.take t ++ x :: l.drop t) := by
  have h1 : Sta key (([x] ++ l.take t) ++ l.drop t) ((l.take t ++ [x]) ++ l.drop t) := (Sta.swap (fun y hy z hz => by rw [List.mem_singleton] at hy; subst hy; exact h z hz)).app (Sta.refl _)
  rw [List.append_assoc, List.take_append_drop] at h1
  simpa using h1
/-- Two sorted lists of the same elements, equal keys in one order, are one. -/
theorem sta_uniq : ∀ {a b : List α}, Sta key a b → Up key a → Up key b → a = b
  | [], b, h, _, _ => by have := h.1; simp at this; exact this.symm
  | x :: a, b, h, ha, hb => by
    cases b with
    | nil => have := h.1; simp at this
    | cons y b =>
      have hk : key x = key y := by
        have hy : y ∈ x :: a := (h.mem y).1 (by simp)
        have hx : x ∈ y :: b := (h.mem x).2 (by simp)
        have h1 : key x ≤ key y := by
          rcases List.mem_cons.1 hy with e | e
          · rw [e]; exact Int.le_refl _
          · exact (List.pairwise_cons.1 ha).1 y e
        have h2 : key y ≤ key x := by
          rcases List.mem_cons.1 hx with e | e
          · rw [e]; exact Int.le_refl _
          · exact (List.pairwise_cons.1 hb).1 x e
        omega
      have h3 := h.2 (key x)
      rw [List.filter_cons_of_pos (by simp [hk]), List.filter_cons_of_pos (by simp)] at h3
      obtain ⟨rfl, _⟩ := List.cons.inj h3
      have h4 : Sta key a b := ⟨by have := h.1; simpa using this, fun k => by
        have h5 := h.2 k
        by_cases e : key y = k
        · rw [List.filter_cons_of_pos (by simp [e]), List.filter_cons_of_pos (by simp [e])] at h5
          exact (List.cons.inj h5).2
        · rw [List.filter_cons_of_neg (by simp [e]), List.filter_cons_of_neg (by simp [e])] at h5
          exact h5⟩
      rw [sta_uniq h4 (List.pairwise_cons.1 ha).2 (List.pairwise_cons.1 hb).2]
/-- Sorted pieces of length z, and a shorter one behind them. -/
def Bl (key : α → Int) (z : Nat) (l : List α) : Prop := ∃ (cs : List (List α)) (t : List α), l = cs.flatten ++ t ∧ (∀ c ∈ cs, Up key c ∧ c.length = z) ∧ Up key t ∧ t.length < z
theorem Bl.whole {z : Nat} {l : List α} (h : Bl key z l) (hz : l.length ≤ z) (h0 : 0 < z) : Up key l := by
  obtain ⟨cs, t, rfl, hc, ht, hl⟩ := h
  match cs, hc with
  | [], _ => simpa using ht
  | [c], hc =>
    have h1 := (hc c (by simp)).2
    simp at hz
    have : t = [] := List.length_eq_zero_iff.1 (by omega)
    subst this
    simpa using (hc c (by simp)).1
  | c :: d :: cs, hc =>
    have h1 := (hc c (by simp)).2
    have h2 := (hc d (by simp)).2
    simp at hz
    omega
/-- The middle of a merge: what the search has found. -/
theorem sym_core {X A B Y : List α} (hA : Up key A) (hB : Up key B) {a m b s n lo hi mid : Nat} (ha : X.length = a) (hm : a + A.length = m) (hb : m + B.length = b) (hmid : mid = (a + b) / 2) (hn : n = mid + m)
    (hlo : lo = if mid < m then n - b else a) (hhi : hi = if mid < m then mid else m) (h1 : lo ≤ s) (h2 : s ≤ hi)
    (hl : s = lo ∨ ∃ u v, (X ++ (A ++ (B ++ Y)))[s - 1]? = some u ∧ (X ++ (A ++ (B ++ Y)))[n - s]? = some v ∧ key u ≤ key v)
    (hr : s = hi ∨ ∃ u v, (X ++ (A ++ (B ++ Y)))[s]? = some u ∧ (X ++ (A ++ (B ++ Y)))[n - 1 - s]? = some v ∧ key v < key u) :
    ∃ A1 A2 B1 B2 : List α, A = A1 ++ A2 ∧ B = B1 ++ B2 ∧ s = a + A1.length ∧ n - s = m + B1.length ∧ s ≤ n ∧ mid = a + A1.length + B1.length ∧ (∀ x ∈ A2, ∀ y ∈ B1, key y < key x) ∧ (∀ x ∈ A1, ∀ y ∈ B2, key x ≤ key y) := by
  subst ha; subst hm; subst hb
  have hb1 : X.length ≤ s ∧ s ≤ X.length + A.length ∧ s ≤ n ∧ X.length + A.length ≤ n - s ∧ n - s ≤ X.length + A.length + B.length := by
    split at hlo <;> split at hhi <;> omega
  obtain ⟨g1, g2, g3, g4, g5⟩ := hb1
  have getA : ∀ i u, X.length ≤ i → i < X.length + A.length → (X ++ (A ++ (B ++ Y)))[i]? = some u → A[i - X.length]? = some u := fun i u p q h => by
    rw [List.getElem?_append_right (by omega), List.getElem?_append_left (by omega)] at h
    exact h
  have getB : ∀ i u, X.length + A.length ≤ i → i < X.length + A.length + B.length → (X ++ (A ++ (B ++ Y)))[i]? = some u → B[i - (X.length + A.length)]? = some u := fun i u p q h => by
    rw [List.getElem?_append_right (by omega), List.getElem?_append_right (by omega), List.getElem?_append_left (by omega), Nat.sub_sub] at h
    exact h
  refine ⟨A.take (s - X.length), A.drop (s - X.length), B.take (n - s - (X.length + A.length)), B.drop (n - s - (X.length + A.length)), by simp, by simp, by simp; omega, by simp; omega, g3, by simp; omega, fun x hx y hy => ?_, fun x hx y hy => ?_⟩
  · obtain ⟨i, hi1, hi2⟩ := mem_drop hx
    obtain ⟨j, hj1, hj2⟩ := mem_take hy
    rcases hr with hr | ⟨u, v, hu, hv, huv⟩
    · have li := (List.getElem?_eq_some_iff.1 hi2).1
      have lj := (List.getElem?_eq_some_iff.1 hj2).1
      split at hhi <;> omega
    · have li := (List.getElem?_eq_some_iff.1 hi2).1
      have hu' := getA s u g1 (by omega) hu
      have hv' := getB (n - 1 - s) v (by omega) (by omega) hv
      have e1 := hA.get hu' hi2 (by omega)
      have e2 := hB.get hj2 hv' (by omega)
      omega
  · obtain ⟨i, hi1, hi2⟩ := mem_take hx
    obtain ⟨j, hj1, hj2⟩ := mem_drop hy
    rcases hl with hl | ⟨u, v, hu, hv, huv⟩
    · have li := (List.getElem?_eq_some_iff.1 hi2).1
      have lj := (List.getElem?_eq_some_iff.1 hj2).1
      split at hlo <;> omega
    · have lj := (List.getElem?_eq_some_iff.1 hj2).1
      have hu' := getA (s - 1) u (by omega) (by omega) hu
      have hv' := getB (n - s) v (by omega) (by omega) hv
      have e1 := hA.get hi2 hu' (by omega)
      have e2 := hB.get hv' hj2 (by omega)
      omega
theorem sym_fin {A1 A2 B1 B2 M1 M2 : List α} (hA : Up key (A1 ++ A2)) (hB : Up key (B1 ++ B2)) (h1 : ∀ x ∈ A2, ∀ y ∈ B1, key y < key x) (h2 : ∀ x ∈ A1, ∀ y ∈ B2, key x ≤ key y) (hM1 : Sta key (A1 ++ B1) M1 ∧ Up key M1) (hM2 : Sta key (A2 ++ B2) M2 ∧ Up key M2) :
    Sta key ((A1 ++ A2) ++ (B1 ++ B2)) (M1 ++ M2) ∧ Up key (M1 ++ M2) := by
  constructor
  · have e1 : Sta key (A1 ++ ((A2 ++ B1) ++ B2)) (A1 ++ ((B1 ++ A2) ++ B2)) := (Sta.refl _).app ((Sta.swap h1).app (Sta.refl _))
    have e2 := hM1.1.app hM2.1
    simp only [List.append_assoc] at e1 e2 ⊢
    exact e1.trans e2
  · refine hM1.2.app hM2.2 fun x hx y hy => ?_
    have hx' := (hM1.1.mem x).1 hx
    have hy' := (hM2.1.mem y).1 hy
    rcases List.mem_append.1 hx' with hx | hx <;> rcases List.mem_append.1 hy' with hy | hy
    · exact hA.of_app.2.2 x hx y hy
    · exact h2 x hx y hy
    · exact Int.le_of_lt (h1 y hy x hx)
    · exact hB.of_app.2.2 x hx y hy
end
end Go.Proofs.Ytaihimbjdgmjgaa
