import Derived.Test.YtcnjjefbnlgdjaaGreatQb3
import Derived.Lib.Hide
import Derived.Lib.Overlaps
import Derived.Lib.Bytealg
/- Blocks handed out. -/
namespace Go.Proofs.YtcnjjefbnlgdjaaGreat
open Go Go.RowKit V
set_option linter.unusedVariables false
set_option maxRecDepth 100000
namespace G
open V (str byC ownV ownG ownS ownOk)
instance : Cal Tryz.prog 56 := ⟨Tryz.call56⟩
instance : Cal Tryz.prog 113 := ⟨Tryz.call113⟩
instance : Cal Tryz.prog 153 := ⟨Tryz.call153⟩
def slOk (s : Slb) : Prop := s.n = (s.tk.1.count true : Nat) ∧ ((s.c = -1 ∧ s.n = 0) ∨ (0 ≤ s.c ∧ s.c ≤ 3))
def plOk (L : List Slb) : Prop := (∀ s ∈ L, slOk s) ∧ L.length ≤ 32
theorem slOk.bnd {s : Slb} (h : slOk s) : -1000 ≤ s.n ∧ s.n ≤ 1000 := by
  have h1 := List.count_le_length (a := true) (l := s.tk.1)
  have h2 := s.tk.2
  have h3 := h.1
  omega
theorem count_setB {l : List Bool} {k : Nat} (b : Bool) (h : l[k]? = some (!b)) : ((l.set k b).count true : Int) = (l.count true : Int) + (if b = true then 1 else -1) := by
  obtain ⟨hk, hv⟩ := List.getElem?_eq_some_iff.1 h
  rw [List.count_set hk, hv]
  cases b
  · have hc : 0 < l.count true := List.count_pos_iff.2 (by have := List.getElem_mem hk; rw [hv] at this; exact this)
    simp; omega
  · simp
theorem tk_get' (s : Slb) {k : Nat} (h : k < 8) : ∃ b, s.tk.1[k]? = some b := ⟨s.tk.1[k]'(by rw [s.tk.2]; exact h), by simp⟩
theorem Slb.take_ok {s : Slb} {c : Int} {k : Nat} (h : slOk s) (hc : 0 ≤ c ∧ c ≤ 3) (hk : s.tk.1[k]? = some false) : slOk (s.take c k) := by
  refine ⟨?_, .inr hc⟩
  show s.n + 1 = ((s.tk.1.set k true).count true : Int)
  rw [count_setB true hk, h.1]; rfl
def Slb.give (s : Slb) (k : Nat) : Slb := ⟨if s.n - 1 = 0 then -1 else s.c, setB s.tk k false, s.n - 1⟩
theorem Slb.give_ok {s : Slb} {k : Nat} (h : slOk s) (hk : s.tk.1[k]? = some true) : slOk (s.give k) := by
  refine ⟨?_, ?_⟩
  · show s.n - 1 = ((s.tk.1.set k false).count true : Int)
    rw [count_setB false hk, h.1]; rfl
  · by_cases e : s.n - 1 = 0
    · left
      exact ⟨if_pos e, e⟩
    · right
      have hp : 0 < s.n := by
        have h3 : 0 < s.tk.1.count true := List.count_pos_iff.2 (List.mem_of_getElem? hk)
        have h4 := h.1
        omega
      have h5 : 0 ≤ s.c ∧ s.c ≤ 3 := by rcases h.2 with h2 | h2 <;> omega
      show 0 ≤ (if s.n - 1 = 0 then (-1 : Int) else s.c) ∧ (if s.n - 1 = 0 then (-1 : Int) else s.c) ≤ 3
      rw [if_neg e]; exact h5
theorem slOk.none {s : Slb} (h : slOk s) (hc : s.c = -1) {k : Nat} (hk : k < 8) : s.tk.1[k]? = some false := by
  obtain ⟨b, hb⟩ := tk_get' s hk
  cases b with
  | false => exact hb
  | true =>
    exfalso
    have h3 : 0 < s.tk.1.count true := List.count_pos_iff.2 (List.mem_of_getElem? hb)
    have h4 := h.1
    rcases h.2 with h2 | h2 <;> omega
theorem plOk.set {L : List Slb} {i : Nat} {s : Slb} (h : plOk L) (hs : slOk s) : plOk (L.set i s) := ⟨fun x hx => by
  rcases List.mem_or_eq_of_mem_set hx with hx | rfl
  · exact h.1 x hx
  · exact hs, by rw [List.length_set]; exact h.2⟩
theorem plOk.at {L : List Slb} {i : Nat} {s : Slb} (h : plOk L) (hL : L[i]? = some s) : slOk s := h.1 s (List.mem_of_getElem? hL)
theorem tk_get (s : Slb) {k : Nat} (h : k < 8) : ∃ b, s.tk.1[k]? = some b := ⟨s.tk.1[k]'(by rw [s.tk.2]; exact h), by simp⟩
theorem starts_get {i c line : Int} {n : Nat} (h : ixI (startsF i c) line = n) : (startsF i c)[n]? = some line ∧ n < 8 ∧ 0 ≤ slabF i ∧ spanF c ≠ 0 := by
  unfold ixI at h
  have hl := starts_len i c
  split at h
  · rename_i hm
    have hlt := List.idxOf_lt_length_iff.2 hm
    have hn : (startsF i c).idxOf line = n := by omega
    rw [hn] at hlt
    refine ⟨?_, by omega, ?_⟩
    · rw [List.getElem?_eq_getElem hlt]
      congr 1
      have := List.getElem_idxOf (x := line) (xs := startsF i c) (by rw [hn]; exact hlt)
      simpa [hn] using this
    · by_cases e : spanF c = 0 ∨ slabF i < 0
      · unfold startsF at hm; rw [if_pos e] at hm; cases hm
      · omega
  · omega
theorem slabOf_nn {line : Int} (h : 0 ≤ slabF (slabOfF line)) : 0 ≤ slabOfF line ∧ slabOfF line < 32 := by
  unfold slabF at h
  split at h
  · omega
  · omega
theorem home_get {line c : Int} (h : homeF line c = true) : ∃ k : Nat, ixI (startsF (slabOfF line) c) line = k ∧ k < 8 ∧ 0 ≤ slabOfF line ∧ 0 ≤ c ∧ c ≤ 3 := by
  unfold homeF at h
  have hm : line ∈ startsF (slabOfF line) c := by simpa using h
  have h1 := (ixI_neg (l := startsF (slabOfF line) c) (x := line)).2 hm
  refine ⟨(ixI (startsF (slabOfF line) c) line).toNat, by omega, ?_⟩
  obtain ⟨_, h3, h4, h5⟩ := starts_get (n := (ixI (startsF (slabOfF line) c) line).toNat) (i := slabOfF line) (c := c) (line := line) (by omega)
  have h6 := slabOf_nn h4
  refine ⟨h3, h6.1, ?_⟩
  rcases spanF_cases c with ⟨a, _⟩ | ⟨a, _⟩ | ⟨a, _⟩ | ⟨a, _⟩ | ⟨a, e⟩ <;> first | omega | exact absurd e h5
theorem all_c (pb sb : Nat) (L : List Slb) (w : World) (hB : w.heap[pb]? = some (.cells [.slice (some ⟨sb, 0, none⟩) L.length L.length].toArray 184 (0, 0))) : Calls Tryz.prog 56 [.pointer (some ⟨pb, 0, none⟩)].toArray w fun e w' => e = .returned (.slice (some ⟨sb, 0, none⟩) L.length L.length) ∧ Below w.heap.size w w' := by
  refine V.calls [] Tryz.func56 rfl Tryz.ntmps56 (Nat.le_of_ble_eq_true rfl) (V.sat_nil _) <| Sq <| Rg <| Lv Av <| Nl <| Ps <| Sq <| Sq <| Rg <| Lv Mv <| Lv EP <| Nl <| Ps <| Cf <| Sk <| Ps <| Sq <| Rg <| Lv Mv <| Lv Nz <| Lv (Fa 0 152) <| Lv (Val.loadO rfl Tryz.isAgg152 (V.lt_of_some hB) (by simp [ids]) (V.cell_of_block hB rfl)) <| Lv Av <| Nl <| Ps <| Rt <| Rt1 ?_
  intro w' hw; exact ⟨rfl, hw.below⟩
/-- A block marked as taken. -/
def markF (L : List Slb) (line c : Int) : List Slb × Int := if homeF line c = false ∨ (L.length : Int) ≤ slabOfF line then (L, 1) else match L[(slabOfF line).toNat]? with
  | none => (L, 1)
  | some s => if (s.c ≠ -1 ∧ s.c ≠ c) ∨ s.tk.1[(ixI (startsF (slabOfF line) c) line).toNat]? = some true then (L, 7) else (L.set (slabOfF line).toNat (s.take c (ixI (startsF (slabOfF line) c) line).toNat), 0)
theorem markF_ok {L : List Slb} {line c : Int} (h : plOk L) : plOk (markF L line c).1 := by
  unfold markF
  split
  · exact h
  · rename_i h1
    split
    · exact h
    · rename_i s hs
      split
      · exact h
      · rename_i h2
        have h3 : homeF line c = true := by
          cases e : homeF line c with
          | true => rfl
          | false => exact absurd (.inl e) h1
        obtain ⟨k, hk, hk8, _, hc⟩ := home_get h3
        refine h.set (Slb.take_ok (h.at hs) hc ?_)
        rw [hk, Int.toNat_natCast]
        obtain ⟨b, hb⟩ := tk_get s hk8
        cases b with
        | false => exact hb
        | true => exact absurd (.inr (by rw [hk, Int.toNat_natCast]; exact hb)) h2
theorem mark_c (pb sb : Nat) (L : List Slb) (line c : Int) (hL : plOk L) (w : World) (hs : Sat (plS pb sb L) w) : Calls Tryz.prog 119 [.pointer (some ⟨pb, 0, none⟩), .int .i64 line, .int .i64 c].toArray w fun e w' => ∃ _u : Unit, True ∧ e = .returned (.int .i64 (markF L line c).2) ∧ Hp ⟨w, V.ids ((plS pb sb L))⟩ (plS pb sb (markF L line c).1) w' := by
  refine V.calls (plS pb sb L) Tryz.func119 rfl Tryz.ntmps119 (Nat.le_of_ble_eq_true rfl) hs <| Sq <| Rg <| Lv Av <| Nl <| Ps <| Sq <| Rg <| Lv Mv <| Le (CV fun w hw => slabOf_c line w) fun _ _ => Lv Av <| LW.re 7 (.int .i64 (slabOfF line)) rfl rfl <| Nl <| Ps <| Sq <| Sq <| Rg <| Lv Mv <| Lv Mv <| Le (CV fun w hw => home_c line c w) fun _ _ => Lv Nt <| Lv Mv ?_
  refine LW.split (d := 16) rfl (fun h16 => ?_) (fun h16 => ?_)
  · replace h16 := bT h16
    have h16 : homeF line c = false := by simpa using h16
    refine Lp <| Lp <| Lp <| Lp <| Lp <| Lv Pt <| Nl <| Ps <| Ct <| Sq <| Rg <| Lv Av <| Nl <| Ps <| Rt <| Tr <| Rt1 ?_
    have e8 : markF L line c = (L, 1) := by unfold markF; rw [if_pos (.inl (by simpa using h16))]
    rw [e8]
    intro w' hw; exact ⟨(), trivial, rfl, hw.pick (by repeat (first | exact .nil | apply Pick.cons | exact .here | apply Ext.there))⟩
  · replace h16 := bF h16
    have h16 : homeF line c = true := by simpa using h16
    have hh : homeF line c = true := h16
    obtain ⟨kk, hkk, hk8, hi0, hc03⟩ := home_get hh
    obtain ⟨i, hi⟩ : ∃ i : Nat, slabOfF line = i := ⟨(slabOfF line).toNat, by omega⟩
    refine Lv Mv <| Lv Mv <| Le (CV fun w hw => all_c pb sb L w hw.at) fun _ _ => Lv Ln <| Lv Cm <| Lv Pf <| Nl <| Ps ?_
    refine CW.cond rfl (fun h22 => ?_) (fun h22 => ?_)
    · replace h22 := bT h22
      refine Sq <| Rg <| Lv Av <| Nl <| Ps <| Rt <| Tr <| Rt1 ?_
      have e8 : markF L line c = (L, 1) := by unfold markF; rw [if_pos (.inr (by omega))]
      rw [e8]
      intro w' hw; exact ⟨(), trivial, rfl, hw.pick (by repeat (first | exact .nil | apply Pick.cons | exact .here | apply Ext.there))⟩
    · replace h22 := bF h22
      have hil : i < L.length := by omega
      obtain ⟨s, hLi⟩ : ∃ s, L[i]? = some s := ⟨L[i], by simp⟩
      obtain ⟨b, hb⟩ := tk_get s hk8
      refine Sk <| Ps <| Sq <| Rg <| Lv Mv <| Lv Nz <| Lv (Fa 0 152) <| Lv (Ld (v := .slice (some ⟨sb, 0, none⟩) L.length L.length)) <| Lv Mv <| LW.re 27 (.int .i64 (i : Nat)) rfl (by rw [hi]) <| Lv (Val.indexAddrN (i := i) rfl rfl Tryz.underlying152 Tryz.sizeOf156 hil) <| LW.re 28 (.pointer (some ⟨sb, i * 10, none⟩)) rfl (by simp) <| Lv Av <| Nl <| Ps <| Sq <| Rg <| Lv Mv <| Lv Mv <| Le (CM [] fun w hw hs0 => starts_c (slabOfF line) c w) fun o ho => ?_
      obtain ⟨ps, cs, hvs, hss⟩ := own_slI _ o ho
      have hsl := starts_len (slabOfF line) c
      refine LW.re 31 (.slice ps (startsF (slabOfF line) c).length cs) rfl hvs <| Lv Mv <| Le (CV fun w hw => index_g (startsF (slabOfF line) c) ps cs line (by omega) w (hss hw (by repeat (first | exact .nil | apply Pick.cons | exact .here | apply Ext.there)))) fun _ _ => LW.re 33 (.int .i64 (kk : Nat)) rfl (by rw [hkk]) <| Lv Av <| Nl <| Ps <| Sq <| Sq <| Rg <| Lv Mv <| Lv Nz <| Lv (Fa 0 3) <| Lv (Ld (v := .int .i64 s.c) (hl := fl10 hLi (sl_c s))) <| Lv Cm <| Lv Mv ?_
      refine LW.split (d := 39) rfl (fun h39 => ?_) (fun h39 => ?_)
      · replace h39 := bT h39
        refine Lv Mv <| Lv Nz <| Lv (Fa 0 3) <| Lv (Ld (v := .int .i64 s.c) (hl := fl10 hLi (sl_c s))) <| Lv Mv <| Lv Cm <| Lv Pt <| Lv Mv ?_
        refine LW.split (d := 47) rfl (fun h47 => ?_) (fun h47 => ?_)
        · replace h47 := bT h47
          refine Lp <| Lp <| Lp <| Lp <| Lp <| Lp <| Lv Pt <| Nl <| Ps <| Ct <| Sq <| Rg <| Lv Av <| Nl <| Ps <| Rt <| Tr <| Rt1 ?_
          have hna : ¬ (homeF line c = false ∨ (L.length : Int) ≤ slabOfF line) := by rintro (h | h); rw [hh] at h; cases h; omega
          have e8 : markF L line c = (L, 7) := by
            unfold markF
            rw [if_neg hna, hi, Int.toNat_natCast, hLi]
            refine if_pos ?_
            left; exact ⟨h39, h47⟩
          rw [e8]
          intro w' hw; exact ⟨(), trivial, rfl, hw.pick (by repeat (first | exact .nil | apply Pick.cons | exact .here | apply Ext.there))⟩
        · replace h47 := bF h47
          refine Lv Mv <| Lv Mv <| Lv Nz <| Lv (Fa 1 154) <| Lv (Val.indexAddrA (i := kk) rfl rfl Tryz.underlying154 Tryz.sizeOf4 hk8) <| Lv (Ld (v := .bool b) (hl := by rw [Nat.mul_one, Nat.add_assoc]; exact fl10 hLi (sl_t s hb))) <| Lv Pf <| Nl <| Ps ?_
          refine CW.cond rfl (fun h54 => ?_) (fun h54 => ?_)
          · replace h54 := bT h54
            refine Sq <| Rg <| Lv Av <| Nl <| Ps <| Rt <| Tr <| Rt1 ?_
            have hna : ¬ (homeF line c = false ∨ (L.length : Int) ≤ slabOfF line) := by rintro (h | h); rw [hh] at h; cases h; omega
            have e8 : markF L line c = (L, 7) := by
              unfold markF
              rw [if_neg hna, hi, Int.toNat_natCast, hLi]
              refine if_pos ?_
              right; rw [← hi, hkk, Int.toNat_natCast, hb]; exact congrArg some h54
            rw [e8]
            intro w' hw; exact ⟨(), trivial, rfl, hw.pick (by repeat (first | exact .nil | apply Pick.cons | exact .here | apply Ext.there))⟩
          · replace h54 := bF h54
            refine Sk <| Ps <| Sq <| Rg <| Lv Mv <| Lv Mv <| Lv Mv <| Le (CM ([[(sb, .cells (L.flatMap slC).toArray 156 (0, 0))]]) fun w hw hs0 => take_c sb i kk c L s hLi hk8 (hL.at hLi).bnd w hs0) fun _ _ => Nl <| Ps <| Sq <| Rg <| Lv Av <| Nl <| Ps <| Rt <| Rt1 ?_
            have hna : ¬ (homeF line c = false ∨ (L.length : Int) ≤ slabOfF line) := by rintro (h | h); rw [hh] at h; cases h; omega
            have e8 : markF L line c = (L.set i (s.take c kk), 0) := by
              unfold markF
              rw [if_neg hna, hi, Int.toNat_natCast, hLi]
              show (if _ then _ else _) = _
              rw [← hi, hkk, Int.toNat_natCast, if_neg]
              rintro (⟨h1, h2⟩ | h1)
              · first | exact h1 h39 | exact h2 h47 | omega
              · rw [hb, Option.some.injEq] at h1; rw [h1] at h54; cases h54
            rw [e8]
            intro w' hw; exact ⟨(), trivial, rfl, by unfold plS; rw [List.length_set]; exact hw.pick (by repeat (first | exact .nil | apply Pick.cons | exact .here | apply Ext.there))⟩
      · replace h39 := bF h39
        refine Lp <| Lp <| Lp <| Lp <| Lp <| Lp <| Lv Pf <| Lv Mv <| Lv Mv <| Lv Mv <| Lv Nz <| Lv (Fa 1 154) <| Lv (Val.indexAddrA (i := kk) rfl rfl Tryz.underlying154 Tryz.sizeOf4 hk8) <| Lv (Ld (v := .bool b) (hl := by rw [Nat.mul_one, Nat.add_assoc]; exact fl10 hLi (sl_t s hb))) <| Lv Pf <| Nl <| Ps ?_
        refine CW.cond rfl (fun h54 => ?_) (fun h54 => ?_)
        · replace h54 := bT h54
          refine Sq <| Rg <| Lv Av <| Nl <| Ps <| Rt <| Tr <| Rt1 ?_
          have hna : ¬ (homeF line c = false ∨ (L.length : Int) ≤ slabOfF line) := by rintro (h | h); rw [hh] at h; cases h; omega
          have e8 : markF L line c = (L, 7) := by
            unfold markF
            rw [if_neg hna, hi, Int.toNat_natCast, hLi]
            refine if_pos ?_
            right; rw [← hi, hkk, Int.toNat_natCast, hb]; exact congrArg some h54
          rw [e8]
          intro w' hw; exact ⟨(), trivial, rfl, hw.pick (by repeat (first | exact .nil | apply Pick.cons | exact .here | apply Ext.there))⟩
        · replace h54 := bF h54
          refine Sk <| Ps <| Sq <| Rg <| Lv Mv <| Lv Mv <| Lv Mv <| Le (CM ([[(sb, .cells (L.flatMap slC).toArray 156 (0, 0))]]) fun w hw hs0 => take_c sb i kk c L s hLi hk8 (hL.at hLi).bnd w hs0) fun _ _ => Nl <| Ps <| Sq <| Rg <| Lv Av <| Nl <| Ps <| Rt <| Rt1 ?_
          have hna : ¬ (homeF line c = false ∨ (L.length : Int) ≤ slabOfF line) := by rintro (h | h); rw [hh] at h; cases h; omega
          have e8 : markF L line c = (L.set i (s.take c kk), 0) := by
            unfold markF
            rw [if_neg hna, hi, Int.toNat_natCast, hLi]
            show (if _ then _ else _) = _
            rw [← hi, hkk, Int.toNat_natCast, if_neg]
            rintro (⟨h1, h2⟩ | h1)
            · first | exact h1 h39 | exact h2 h47 | omega
            · rw [hb, Option.some.injEq] at h1; rw [h1] at h54; cases h54
          rw [e8]
          intro w' hw; exact ⟨(), trivial, rfl, by unfold plS; rw [List.length_set]; exact hw.pick (by repeat (first | exact .nil | apply Pick.cons | exact .here | apply Ext.there))⟩
end G
end Go.Proofs.YtcnjjefbnlgdjaaGreat

/- Blocks found, taken and given back. -/
namespace Go.Proofs.YtcnjjefbnlgdjaaGreat
open Go Go.RowKit V
set_option linter.unusedVariables false
set_option maxRecDepth 100000
namespace G
open V (str byC ownV ownG ownS ownOk)
/-- The first block of a slab from k on that is not taken; -1: none. -/
def freeFrom (s : Slb) (m : Nat) : Nat → Nat → Int
  | 0, _ => -1
  | f + 1, k => if k < m then (if s.tk.1[k]? = some true then freeFrom s m f (k + 1) else (k : Nat)) else -1
def freeF (s : Slb) : Int := freeFrom s (8 / spanF s.c) 9 0
theorem freeFrom_yes {s : Slb} {m f k : Nat} (hk : k < m) (h : s.tk.1[k]? = some false) : freeFrom s m (f + 1) k = (k : Nat) := by unfold freeFrom; rw [if_pos hk, h, if_neg (by simp)]
theorem freeFrom_no {s : Slb} {m f k : Nat} (hk : k < m) (h : s.tk.1[k]? = some true) : freeFrom s m (f + 1) k = freeFrom s m f (k + 1) := by rw [freeFrom, if_pos hk, if_pos h]
theorem freeFrom_end {s : Slb} {m f k : Nat} (hk : m ≤ k) : freeFrom s m (f + 1) k = -1 := by unfold freeFrom; rw [if_neg (by omega)]
theorem freeFrom_get {s : Slb} {m : Nat} (hm : m ≤ 8) : ∀ {f k : Nat}, freeFrom s m f k ≠ -1 → ∃ j : Nat, freeFrom s m f k = (j : Nat) ∧ j < m ∧ s.tk.1[j]? = some false
  | 0, k, h => absurd rfl h
  | f + 1, k, h => by
    unfold freeFrom at h ⊢
    split
    · rename_i hk
      rw [if_pos hk] at h
      split
      · rename_i ht
        rw [if_pos ht] at h
        exact freeFrom_get hm h
      · rename_i ht
        obtain ⟨b, hb⟩ := tk_get s (show k < 8 by omega)
        refine ⟨k, rfl, hk, ?_⟩
        cases b with
        | false => exact hb
        | true => exact absurd hb ht
    · rename_i hk
      rw [if_neg hk] at h
      exact absurd rfl h
/-- A slab of a class with a block that is not taken. -/
def find1 (c : Int) : List Slb → Nat → Option (Nat × Nat)
  | [], _ => none
  | s :: r, i => if s.c = c ∧ freeF s ≠ -1 then some (i, (freeF s).toNat) else find1 c r (i + 1)
def find2 : List Slb → Nat → Option (Nat × Nat)
  | [], _ => none
  | s :: r, i => if s.c = -1 then some (i, 0) else find2 r (i + 1)
def findF (L : List Slb) (c : Int) : Option (Nat × Nat) := (find1 c L 0).or (find2 L 0)
theorem drop_cons {α : Type} {L : List α} {i : Nat} {s : α} (h : L[i]? = some s) : L.drop i = s :: L.drop (i + 1) := by
  obtain ⟨hi, hv⟩ := List.getElem?_eq_some_iff.1 h
  rw [List.drop_eq_getElem_cons hi, hv]
def findV (o : Option (Nat × Nat)) : Value := match o with
  | none => .tuple #[.int .i64 0, .int .i64 0, .bool false]
  | some (i, k) => .tuple #[.int .i64 (i : Nat), .int .i64 (k : Nat), .bool true]
theorem find1_get {c : Int} : ∀ {L : List Slb} {i a k : Nat}, find1 c L i = some (a, k) → ∃ s, L[a - i]? = some s ∧ i ≤ a ∧ s.c = c ∧ freeF s = (k : Nat)
  | s :: r, i, a, k, h => by
    unfold find1 at h
    split at h
    · rename_i hc
      simp only [Option.some.injEq, Prod.mk.injEq] at h
      obtain ⟨rfl, rfl⟩ := h
      obtain ⟨j, hj, _⟩ := freeFrom_get (Nat.div_le_self 8 (spanF s.c)) (s := s) (f := 9) (k := 0) hc.2
      have hj2 : freeF s = (j : Nat) := hj
      exact ⟨s, by simp, Nat.le_refl _, hc.1, by rw [hj2]; rfl⟩
    · obtain ⟨s2, h1, h2, h3⟩ := find1_get h
      refine ⟨s2, ?_, by omega, h3⟩
      rw [show a - i = (a - (i + 1)) + 1 by omega, List.getElem?_cons_succ]
      exact h1
theorem find2_get : ∀ {L : List Slb} {i a k : Nat}, find2 L i = some (a, k) → ∃ s, L[a - i]? = some s ∧ i ≤ a ∧ s.c = -1 ∧ k = 0
  | s :: r, i, a, k, h => by
    unfold find2 at h
    split at h
    · rename_i hc
      simp only [Option.some.injEq, Prod.mk.injEq] at h
      obtain ⟨rfl, rfl⟩ := h
      exact ⟨s, by simp, Nat.le_refl _, hc, rfl⟩
    · obtain ⟨s2, h1, h2, h3⟩ := find2_get h
      refine ⟨s2, ?_, by omega, h3⟩
      rw [show a - i = (a - (i + 1)) + 1 by omega, List.getElem?_cons_succ]
      exact h1
def ptakeF (L : List Slb) (c : Int) : List Slb × Int × Int := if spanF c = 0 then (L, 0, 1) else match findF L c with
  | none => (L, 0, 4)
  | some (i, k) => match L[i]? with
    | none => (L, 0, 4)
    | some s => (L.set i (s.take c k), 2 + i * 8 + (k : Nat) * (spanF c : Nat), 0)
theorem find_get {L : List Slb} {c : Int} {i k : Nat} (hL : plOk L) (hsp : spanF c ≠ 0) (h : findF L c = some (i, k)) : ∃ s, L[i]? = some s ∧ (s.c = c ∨ (s.c = -1 ∧ k = 0)) ∧ (s.c = c → k < 8 / spanF c ∧ s.tk.1[k]? = some false) ∧ k < 8 / spanF c := by
  have h8 : 0 < 8 / spanF c := by rcases spanF_cases c with ⟨_, h⟩ | ⟨_, h⟩ | ⟨_, h⟩ | ⟨_, h⟩ | ⟨_, h⟩ <;> first | (rw [h]; decide) | exact absurd h hsp
  unfold findF at h
  cases h1 : find1 c L 0 with
  | some p =>
    rw [h1, Option.some_or, Option.some.injEq] at h
    subst h
    obtain ⟨s, a1, _, a2, a3⟩ := find1_get h1
    have a4 : freeFrom s (8 / spanF s.c) 9 0 = (k : Nat) := a3
    obtain ⟨j, b1, b2, b3⟩ := freeFrom_get (Nat.div_le_self 8 (spanF s.c)) (s := s) (f := 9) (k := 0) (by rw [a4]; omega)
    have e : j = k := by rw [a4] at b1; omega
    subst e
    rw [a2] at b2
    exact ⟨s, by simpa using a1, .inl a2, fun _ => ⟨b2, b3⟩, b2⟩
  | none =>
    rw [h1, Option.none_or] at h
    obtain ⟨s, a1, _, a2, rfl⟩ := find2_get h
    refine ⟨s, by simpa using a1, .inr ⟨a2, rfl⟩, fun e => ?_, h8⟩
    exfalso
    rw [a2] at e
    subst e
    exact hsp rfl
end G
end Go.Proofs.YtcnjjefbnlgdjaaGreat

/- Blocks taken and given back. -/
namespace Go.Proofs.YtcnjjefbnlgdjaaGreat
open Go Go.RowKit V
set_option linter.unusedVariables false
set_option maxRecDepth 100000
namespace G
open V (str byC ownV ownG ownS ownOk)
theorem ptakeF_ok {L : List Slb} {c : Int} (h : plOk L) : plOk (ptakeF L c).1 := by
  unfold ptakeF
  split
  · exact h
  · rename_i hsp
    split
    · exact h
    · rename_i i k hf
      obtain ⟨s, hLi, hsc, hfr, hk8⟩ := find_get h hsp hf
      rw [hLi]
      refine h.set ?_
      have hc : 0 ≤ c ∧ c ≤ 3 := by rcases spanF_cases c with ⟨a, _⟩ | ⟨a, _⟩ | ⟨a, _⟩ | ⟨a, _⟩ | ⟨a, e⟩ <;> first | omega | exact absurd e hsp
      rcases hsc with e | ⟨e, rfl⟩
      · exact Slb.take_ok (h.at hLi) hc (hfr e).2
      · exact Slb.take_ok (h.at hLi) hc ((h.at hLi).none e (by omega))
/-- The slab of a line, and which of its blocks begins there. -/
def atF (L : List Slb) (line : Int) : Option (Nat × Slb × Int) := if slabOfF line < 0 ∨ (L.length : Int) ≤ slabOfF line then none else (L[(slabOfF line).toNat]?).map fun s => ((slabOfF line).toNat, s, ixI (startsF (slabOfF line) s.c) line)
def atOk (s : Slb) (k : Int) : Bool := decide (0 ≤ k) && (s.tk.1[k.toNat]?.getD false)
def atV (sb : Nat) (o : Option (Nat × Slb × Int)) : Value := match o with
  | none => .tuple #[.pointer none, .int .i64 0, .bool false]
  | some (i, s, k) => .tuple #[.pointer (some ⟨sb, i * 10, none⟩), .int .i64 k, .bool (atOk s k)]
theorem at_get {L : List Slb} {line : Int} {i : Nat} {s : Slb} {k : Int} (h : atF L line = some (i, s, k)) : L[i]? = some s ∧ slabOfF line = (i : Nat) ∧ k = ixI (startsF (i : Nat) s.c) line ∧ (atOk s k = true → ∃ j : Nat, k = j ∧ j < 8 ∧ s.tk.1[j]? = some true) := by
  unfold atF at h
  split at h
  · cases h
  · rename_i hn
    rw [Option.map_eq_some_iff] at h
    obtain ⟨s2, h1, h2⟩ := h
    simp only [Prod.mk.injEq] at h2
    obtain ⟨rfl, rfl, rfl⟩ := h2
    have e : ((slabOfF line).toNat : Int) = slabOfF line := by omega
    refine ⟨h1, e.symm, by rw [e], fun hk => ?_⟩
    unfold atOk at hk
    rw [Bool.and_eq_true, decide_eq_true_eq] at hk
    obtain ⟨j, hj⟩ : ∃ j : Nat, ixI (startsF (slabOfF line) s2.c) line = j := ⟨(ixI (startsF (slabOfF line) s2.c) line).toNat, by omega⟩
    obtain ⟨_, h8, _⟩ := starts_get hj
    obtain ⟨b, hb⟩ := tk_get s2 h8
    refine ⟨j, hj, h8, ?_⟩
    have h9 := hk.2
    rw [hj, Int.toNat_natCast, hb] at h9
    rw [hb]; exact congrArg some h9
def giveF (L : List Slb) (line : Int) : List Slb × Int := match atF L line with
  | none => (L, 1)
  | some (i, s, k) => if atOk s k = true then (L.set i (s.give k.toNat), 0) else (L, 1)
theorem giveF_ok {L : List Slb} {line : Int} (h : plOk L) : plOk (giveF L line).1 := by
  unfold giveF
  split
  · exact h
  · rename_i i s k hat
    split
    · rename_i hok
      obtain ⟨hLi, _, _, hj⟩ := at_get hat
      obtain ⟨j, rfl, h8, hb⟩ := hj hok
      exact h.set (Slb.give_ok (h.at hLi) hb)
    · exact h
def ofF (L : List Slb) (line : Int) : Int × Bool := match atF L line with
  | none => (0, false)
  | some (i, s, k) => if atOk s k = true then (s.c, true) else (0, false)
end G
end Go.Proofs.YtcnjjefbnlgdjaaGreat

/- A small calculus of symbolic states, part 41: a slice made with room and no elements. No program in sight. -/
namespace Go.Proofs.YtcnjjefbnlgdjaaGreat.V
open Go Go.RowKit
set_option linter.unusedVariables false
section
variable {P : Program} {n : Nat} {B : Base} {ks : Ks} {sg : Sg} {d : Option Tmp} {ty : TypeId} {pos : String} {aft : Array Edge} {g : Option (Nat × Bool)}
theorem Eff.makeCap {t e : TypeId} {x y : Operand} {m sz by_ : Nat} {z : Value} {zl : List Value} (hx : ev ks x = some (.int .i64 0)) (hy : ev ks y = some (.int .i64 (m : Nat))) (hu : P.underlying t = some (.slice e)) (hi : (P.info? e).map (·.bytes) = some by_) (hs : ∀ w, (sizeOf e).run P w = .ok sz w)
    (hz : ∀ w, (zeroValue e).run P w = .ok z w) (hzl : z.cells = zl.toArray) (hzs : zl.length = sz) (hpos : 0 < m * sz) (hm : m * by_ ≤ 140737488355328) (hm' : m ≤ 9223372036854775807) :
    Eff P n B ⟨d, .makeSlice t x y, ty, pos, aft, g⟩ ks sg (α := Nat) (fun _ => True) (fun b => .slice (some ⟨b, 0, none⟩) 0 m) (fun b => [(b, .cells (repL zl m).toArray e (0, 0))] :: sg) :=
  Eff.new fun a w ha hw => by
    show (do pure (Next.value (← Instr.makeSlice t (a.eval x) (a.eval y))) : Sem Next).run P w = _
    rw [ha.ev hx, ha.ev hy]
    refine run_value ?_
    have hw1 : IntKind.i64.wrap (m : Nat) = (m : Nat) := IntWalk.i64_in _ (by omega)
    have hw0 : IntKind.i64.wrap 0 = 0 := by decide
    cases hq : P.info? e with
    | none => simp [hq] at hi
    | some i =>
      have hb : i.bytes = by_ := by simpa [hq] using hi
      have hti : (typeInfo e).run P w = .ok i w := by simp [typeInfo, hq]
      have hr := range_rep zl m
      rw [hzs] at hr
      have h1 : ¬ ((m : Nat) : Int) < 0 := by omega
      have hbm : by_ * m ≤ 140737488355328 := by rw [Nat.mul_comm]; exact hm
      have h2 : ¬ ((by_ : Nat) : Int) * ((m : Nat) : Int) > 2 ^ 48 := by
        have h3 : ((by_ : Nat) : Int) * ((m : Nat) : Int) = ((by_ * m : Nat) : Int) := by simp
        rw [h3]
        have h4 : (2 : Int) ^ 48 = 281474976710656 := by decide
        omega
      have h3 : ¬ m * by_ > roomBytes := by unfold roomBytes; omega
      have h5 : ¬ m * sz = 0 := by omega
      have h6 : ¬ ((m : Nat) : Int) < 0 := h1
      have h7 : (0 : Int).toNat = 0 := rfl
      simp only [Instr.makeSlice, Sem.run_bind, run_underlying hu, Result.andThen_ok, asInt, asIntOf, Sem.run_pure, hti, hw1, hw0, hb, h1, h2, h6, h7, decide_false, Bool.or_false, Bool.false_eq_true, if_false, Int.lt_irrefl, gt_iff_lt, Int.toNat_natCast, askRoom, h3, hs, h5, hz, hzl, hr, newRow, newObj, Sem.run]
end
end Go.Proofs.YtcnjjefbnlgdjaaGreat.V

/- What waits: a ring of links. -/
namespace Go.Proofs.YtcnjjefbnlgdjaaGreat
open Go Go.RowKit V
set_option linter.unusedVariables false
set_option maxRecDepth 100000
namespace G
open V (str byC ownV ownG ownS ownOk)
/-- A link. -/
structure Lk where
  key : List UInt8
  id : Int
  ver : Int
  line : Int
  cls : Int
  deriving DecidableEq
instance : Inhabited Lk := ⟨⟨[], 0, 0, 0, 0⟩⟩
def lk0 : Lk := ⟨[], 0, 0, 0, 0⟩
def lkC (x : Lk) : List Value := [str x.key, .int .u64 x.id, .int .u64 x.ver, .int .i64 x.line, .int .i64 x.cls]
theorem lkC_len (x : Lk) : (lkC x).length = 5 := rfl
theorem lkC_one (x : Lk) : (lkC x).all (·.oneCell') = true := rfl
/-- A ring: its places, where it begins, how many wait. -/
structure Rng where
  R : List Lk
  at_ : Nat
  n : Nat
def rgOk (r : Rng) : Prop := r.n ≤ r.R.length ∧ r.at_ ≤ r.R.length ∧ (0 < r.R.length → r.at_ < r.R.length) ∧ r.R.length ≤ 100000
def Rng.ix (r : Rng) (i : Nat) : Nat := if r.at_ + i < r.R.length then r.at_ + i else r.at_ + i - r.R.length
/-- What waits, the first one first. -/
def rgQ (r : Rng) : List Lk := (List.range r.n).map fun i => (r.R[r.ix i]?).getD lk0
theorem rgQ_len (r : Rng) : (rgQ r).length = r.n := by unfold rgQ; simp
theorem ix_mod {r : Rng} (h : rgOk r) {i : Nat} (hi : i ≤ r.R.length) (h0 : 0 < r.R.length) : (r.at_ + i) % r.R.length = r.ix i ∧ r.ix i < r.R.length := by
  have h1 := h.2.2.1 h0
  unfold Rng.ix
  split
  · rename_i h2; exact ⟨Nat.mod_eq_of_lt h2, h2⟩
  · rename_i h2
    rw [Nat.mod_eq_sub_mod (by omega), Nat.mod_eq_of_lt (by omega)]
    omega
def Rng.push (r : Rng) (x : Lk) : Rng := if r.n = r.R.length then ⟨r.R.drop r.at_ ++ r.R.take r.at_ ++ [x], 0, r.n + 1⟩ else ⟨r.R.set (r.ix r.n) x, r.at_, r.n + 1⟩
def Rng.pop (r : Rng) : Rng := if r.n = 0 then r else ⟨r.R.set r.at_ lk0, r.ix 1, r.n - 1⟩
theorem rgQ_get (r : Rng) (i : Nat) : (rgQ r)[i]? = if i < r.n then some ((r.R[r.ix i]?).getD lk0) else none := by
  unfold rgQ
  rw [List.getElem?_map]
  by_cases h : i < r.n
  · rw [if_pos h, List.getElem?_range h]; rfl
  · rw [if_neg h, List.getElem?_eq_none (by simp; omega)]; rfl
theorem Rng.push_ok {r : Rng} (h : rgOk r) (hm : r.R.length < 100000) (x : Lk) : rgOk (r.push x) := by
  obtain ⟨h1, h2, h3, h4⟩ := h
  unfold Rng.push
  split
  · rename_i e
    have hl : (r.R.drop r.at_ ++ r.R.take r.at_ ++ [x]).length = r.R.length + 1 := by simp; omega
    refine ⟨?_, ?_, ?_, ?_⟩ <;> simp only [hl] <;> omega
  · rename_i e
    refine ⟨?_, ?_, ?_, ?_⟩ <;> simp only [List.length_set] <;> first | omega | exact h3
theorem Rng.pop_ok {r : Rng} (h : rgOk r) : rgOk r.pop := by
  unfold Rng.pop
  split
  · exact h
  · rename_i e
    have h5 := ix_mod h (i := 1) (by have := h.1; omega) (by have := h.1; omega)
    obtain ⟨h1, h2, h3, h4⟩ := h
    refine ⟨?_, ?_, ?_, ?_⟩ <;> simp only [List.length_set] <;> omega
theorem Rng.push_Q {r : Rng} (h : rgOk r) (x : Lk) : rgQ (r.push x) = rgQ r ++ [x] := by
  obtain ⟨h1, h2, h3, h4⟩ := h
  apply List.ext_getElem?
  intro i
  rw [rgQ_get]
  have hl := rgQ_len r
  by_cases e : r.n = r.R.length
  · have ep : r.push x = ⟨r.R.drop r.at_ ++ r.R.take r.at_ ++ [x], 0, r.n + 1⟩ := by unfold Rng.push; rw [if_pos e]
    rw [ep]
    have hlen : (r.R.drop r.at_ ++ r.R.take r.at_ ++ [x]).length = r.R.length + 1 := by simp; omega
    have hd : (r.R.drop r.at_).length = r.R.length - r.at_ := by simp
    have ht : (r.R.take r.at_).length = r.at_ := by simp; omega
    by_cases hi : i < r.n
    · have hix : Rng.ix ⟨r.R.drop r.at_ ++ r.R.take r.at_ ++ [x], 0, r.n + 1⟩ i = i := by unfold Rng.ix; simp only [hlen]; rw [if_pos (by omega)]; omega
      simp only [hix]
      rw [if_pos (by omega), List.getElem?_append_left (l₁ := rgQ r) (by omega), rgQ_get, if_pos hi]
      congr 2
      rw [List.append_assoc]
      unfold Rng.ix
      by_cases hc : r.at_ + i < r.R.length
      · rw [if_pos hc, List.getElem?_append_left (by omega), List.getElem?_drop]
      · rw [if_neg hc, List.getElem?_append_right (by omega), hd, List.getElem?_append_left (by omega), List.getElem?_take, if_pos (by omega)]
        congr 1
        omega
    · by_cases hi2 : i = r.n
      · subst hi2
        have hix : Rng.ix ⟨r.R.drop r.at_ ++ r.R.take r.at_ ++ [x], 0, r.n + 1⟩ r.n = r.n := by unfold Rng.ix; simp only [hlen]; rw [if_pos (by omega)]; omega
        simp only [hix]
        rw [if_pos (by omega), List.getElem?_append_right (l₁ := rgQ r) (by omega), hl, Nat.sub_self]
        rw [List.getElem?_append_right (by rw [List.length_append]; omega)]
        have : r.n - (r.R.drop r.at_ ++ r.R.take r.at_).length = 0 := by rw [List.length_append]; omega
        rw [this]
        rfl
      · rw [if_neg (by simp only; omega), List.getElem?_eq_none (by rw [List.length_append, hl]; simp; omega)]
  · have ep : r.push x = ⟨r.R.set (r.ix r.n) x, r.at_, r.n + 1⟩ := by unfold Rng.push; rw [if_neg e]
    rw [ep]
    have hx : ∀ j, Rng.ix ⟨r.R.set (r.ix r.n) x, r.at_, r.n + 1⟩ j = r.ix j := fun j => by unfold Rng.ix; simp only [List.length_set]
    simp only [hx]
    have hxn : r.ix r.n < r.R.length := (ix_mod ⟨h1, h2, h3, h4⟩ (by omega) (by omega)).2
    by_cases hi : i < r.n
    · rw [if_pos (by omega), List.getElem?_append_left (by omega), rgQ_get, if_pos hi, List.getElem?_set_ne]
      unfold Rng.ix
      have := h3 (by omega)
      split <;> split <;> omega
    · by_cases hi2 : i = r.n
      · subst hi2
        rw [if_pos (by omega), List.getElem?_append_right (by omega), hl, Nat.sub_self, List.getElem?_set_self hxn]
        rfl
      · rw [if_neg (by omega), List.getElem?_eq_none (by rw [List.length_append, hl]; simp; omega)]
theorem Rng.pop_Q {r : Rng} (h : rgOk r) : rgQ r.pop = (rgQ r).tail := by
  by_cases e : r.n = 0
  · have ep : r.pop = r := by unfold Rng.pop; rw [if_pos e]
    have : rgQ r = [] := List.length_eq_zero_iff.1 (by rw [rgQ_len]; exact e)
    rw [ep, this]; rfl
  · have ep : r.pop = ⟨r.R.set r.at_ lk0, r.ix 1, r.n - 1⟩ := by unfold Rng.pop; rw [if_neg e]
    have h5 := ix_mod h (i := 1) (by have := h.1; omega) (by have := h.1; omega)
    obtain ⟨h1, h2, h3, h4⟩ := h
    have h6 := h3 (by omega)
    rw [ep]
    apply List.ext_getElem?
    intro i
    rw [rgQ_get, List.getElem?_tail, rgQ_get]
    by_cases hi : i < r.n - 1
    · rw [if_pos (by simp only; omega), if_pos (by omega)]
      congr 2
      have hx : Rng.ix ⟨r.R.set r.at_ lk0, r.ix 1, r.n - 1⟩ i = r.ix (i + 1) := by
        unfold Rng.ix
        simp only [List.length_set]
        split <;> split <;> split <;> omega
      rw [hx, List.getElem?_set_ne]
      unfold Rng.ix
      split <;> omega
    · rw [if_neg (by simp only; omega), if_neg (by omega)]
theorem Rng.head_Q {r : Rng} (h : rgOk r) (hn : 0 < r.n) : (rgQ r).head? = r.R[r.at_]? := by
  obtain ⟨h1, h2, h3, h4⟩ := h
  have h6 := h3 (by omega)
  rw [List.head?_eq_getElem?, rgQ_get, if_pos hn]
  have : r.ix 0 = r.at_ := by unfold Rng.ix; rw [if_pos (by omega)]; omega
  rw [this, List.getElem?_eq_getElem h6]
  rfl
/-- Where a ring lies. -/
def rgC (r : Rng) (o : V.OwnO) : List Value := [ownV r.R.length o, .int .i64 (r.at_ : Nat), .int .i64 (r.n : Nat)]
abbrev rgS (T fb : Nat) (r : Rng) (o : V.OwnO) : Sg := [[(fb, .cells (rgC r o).toArray T (0, 0))], ownG 133 (r.R.flatMap lkC) o]
def rgO (r : Rng) (o : V.OwnO) : Prop := rgOk r ∧ ownOk 5 r.R.length (r.R.flatMap lkC) o
end G
end Go.Proofs.YtcnjjefbnlgdjaaGreat

/- What waits: pushed, asked, taken off. -/
namespace Go.Proofs.YtcnjjefbnlgdjaaGreat
open Go Go.RowKit V
set_option linter.unusedVariables false
set_option maxRecDepth 100000
namespace G
open V (str byC ownV ownG ownS ownOk)
theorem lk_drop (l : List Lk) (k : Nat) (rest : List Value) (hk : k ≤ l.length) : (l.flatMap lkC ++ rest).drop (k * 5) = (l.drop k).flatMap lkC ++ rest := by
  have e : l.flatMap lkC = (l.take k).flatMap lkC ++ (l.drop k).flatMap lkC := by rw [← List.flatMap_append, List.take_append_drop]
  have hl : ((l.take k).flatMap lkC).length = k * 5 := by rw [V.flatMap_len lkC_len, List.length_take]; omega
  rw [e, List.append_assoc, List.drop_left' hl]
theorem lk_take (l : List Lk) (k : Nat) (rest : List Value) : (l.flatMap lkC ++ rest).drop 0 = (l.take k).flatMap lkC ++ ((l.drop k).flatMap lkC ++ rest) := by
  rw [List.drop_zero, ← List.append_assoc, ← List.flatMap_append, List.take_append_drop]
theorem own_cap {l : List Lk} {g c : Nat} {rest : List Value} (h : ownOk 5 l.length (l.flatMap lkC) (some (g, rest, c))) : l.length ≤ c ∧ l.length * 5 + rest.length = c * 5 := by
  have h2 : (l.flatMap lkC).length + rest.length = c * 5 := h.2
  rw [V.flatMap_len lkC_len] at h2
  omega
theorem mod_nat (a b : Nat) : ((a : Nat) : Int).tmod (b : Nat) = ((a % b : Nat) : Int) := rfl
theorem rpush_c (fb : Nat) (r : Rng) (o : V.OwnO) (x : Lk) (hr : rgO r o) (hm : r.R.length ≤ 50000) (w : World) (hs : Sat (rgS 182 fb r o) w) : Calls Tryz.prog 161 [.pointer (some ⟨fb, 0, none⟩), .agg (lkC x).toArray].toArray w fun e w' => ∃ o2 : V.OwnO, rgO (r.push x) o2 ∧ e = .returned (.tuple #[]) ∧ Hp ⟨w, V.ids ((rgS 182 fb r o))⟩ (rgS 182 fb (r.push x) o2) w' := by
  have hpo := Rng.push_ok hr.1 (by omega) x
  obtain ⟨⟨hr1, hr2, hr3, hr4⟩, ho⟩ := hr
  obtain ⟨R, at_, n⟩ := r
  simp only at hr1 hr2 hr3 hr4 ho hm
  rcases o with _ | ⟨g, rest, cap⟩
  · obtain rfl : R = [] := List.length_eq_zero_iff.1 ho.2
    simp only [List.length_nil] at hr1 hr2
    obtain rfl : n = 0 := by omega
    obtain rfl : at_ = 0 := by omega
    refine V.calls [[(fb, .cells (rgC ⟨[], 0, 0⟩ none).toArray 182 (0, 0))], ownG 133 (([] : List Lk).flatMap lkC) none] Tryz.func161 rfl Tryz.ntmps161 (Nat.le_of_ble_eq_true rfl) hs <| Sq <| Rg <| Le XA fun b3 _ => Nl <| Ps <| Sq <| Sq <| Qt <| Qv Mv <| Qv Nz <| Qv (Fa 2 3) <| Qv (Ld (v := .int .i64 0)) <| Qv Mv <| Qv Nz <| Qv (Fa 0 128) <| Qv (Ld (v := .slice none 0 0)) <| Qv Ln <| Qv Cm <| QW.re 14 (.bool true) rfl (by rfl) <| Ql <| Ps <| Ct <| Sq <| Rg <| Lv Mv <| Lv Nz <| Lv (Fa 2 3) <| Lv (Ld (v := .int .i64 0)) <| Lv Ar <| Lv Ar <| LW.re 20 (.int .i64 ((1 : Nat) : Int)) rfl (by rfl) <| Le (Eff.makeCap (m := 1) (by_ := 48) (zl := lkC lk0) rfl rfl Tryz.underlying128 (by kernel_rfl) Tryz.sizeOf133 (by exact Tryz.zeroValue133) (by kernel_rfl) rfl (by omega) (by omega) (by omega)) fun b21 _ => Lv Av <| Nl <| Ps <| Sq <| Dr ([[(fb, .cells (rgC ⟨[], 0, 0⟩ none).toArray 182 (0, 0))]]) <| Rv 0 rfl Mv <| Rv 1 rfl Mv <| Rv 2 rfl Nz <| Rv 3 rfl (Fa 0 128) <| Rv 4 rfl (Ld (v := .slice none 0 0)) <| Rv 5 rfl Mv <| Rv 6 rfl Nz <| Rv 7 rfl (Fa 1 3) <| Rv 8 rfl (Ld (v := .int .i64 0)) <| Rv 9 rfl (Val.sliceG 0 0 0 rfl Tryz.underlying128 Tryz.sizeOf133 ⟨_, rfl⟩ rfl rfl (fun _ => rfl) (by omega) (by omega) (by omega)) <| RW.re 31 (.slice none 0 0) rfl (by rfl) <| Re 10 rfl (Eff.appendAny (([] : List Value)) (sz := 5) (bytes := 48) (z := .agg #[.string ⟨#[]⟩, .int .u64 0, .int .u64 0, .int .i64 0, .int .i64 0]) (xs := []) (m0 := 0) (o := some (b21, V.repL (lkC lk0) 1, 1)) (m := 0) (pk := [[(b21, .cells (V.repL (lkC lk0) 1).toArray 133 (0, 0))]]) rfl rfl Tryz.underlying128 (by kernel_rfl) rfl (by omega) (by repeat (first | exact .nil | apply Pick.cons | exact .here | apply Ext.there)) (by rfl) ⟨rfl, by show _ + (V.repL (lkC lk0) 1).length = _; rw [V.repL_length]; simp [lkC_len]⟩ (by rfl) (fun hm0 => absurd hm0 (by omega)) (by rfl) (by omega) (by omega)) fun o1 ho1 => Rv 11 rfl Av <| Rd <| Ps <| Sq <| Dr ([[(fb, .cells (rgC ⟨[], 0, 0⟩ none).toArray 182 (0, 0))]]) <| Rv 0 rfl Mv <| Rv 1 rfl Mv <| Rv 2 rfl Nz <| Rv 3 rfl (Fa 0 128) <| Rv 4 rfl (Ld (v := .slice none 0 0)) <| Rv 5 rfl Mv <| Rv 6 rfl Nz <| Rv 7 rfl (Fa 1 3) <| Rv 8 rfl (Ld (v := .int .i64 0)) <| Rv 9 rfl (Val.sliceG 0 0 0 rfl Tryz.underlying128 Tryz.sizeOf133 rfl ⟨_, rfl⟩ rfl (fun _ => rfl) (by omega) (by omega) (by omega)) <| RW.re 42 (.slice none 0 0) rfl (by rfl) <| Re 10 rfl (Eff.appendAny (([] : List Value)) (sz := 5) (bytes := 48) (z := .agg #[.string ⟨#[]⟩, .int .u64 0, .int .u64 0, .int .i64 0, .int .i64 0]) (xs := ([] : List Value) ++ []) (m0 := 0 + 0) (o := o1) (m := 0) (pk := [ownG 133 (([] : List Value) ++ []) o1]) rfl rfl Tryz.underlying128 (by kernel_rfl) rfl (by omega) (by repeat (first | exact .nil | apply Pick.cons | exact .here | apply Ext.there)) (by simp) ho1 (by rfl) (fun hm0 => absurd hm0 (by omega)) (by rfl) (by omega) (by omega)) ?_
    intro o2 ho2
    refine Rv 11 rfl Av <| Rd <| Ps <| Rg <| Lv Mv <| Lv Mv <| Lv Mv <| Lv Lw <| Le (Eff.buildSlice (rfl) [_, _, _, _, _] Tryz.underlying128 Tryz.sizeOf133 (by exact Tryz.zeroValue133) rfl rfl rfl rfl (by rfl)) fun b48 _ => Le (Eff.appendAny (lkC x) (sz := 5) (bytes := 48) (z := .agg #[.string ⟨#[]⟩, .int .u64 0, .int .u64 0, .int .i64 0, .int .i64 0]) (xs := ([] ++ []) ++ []) (m0 := 0 + 0 + 0) (o := o2) (m := 1) (pk := [ownG 133 (([] ++ []) ++ []) o2]) rfl rfl Tryz.underlying128 (by kernel_rfl) rfl (by omega) (by repeat (first | exact .nil | apply Pick.cons | exact .here | apply Ext.there)) (by simp) ho2 (by rfl) (fun hm0 => ⟨b48, 0, rfl, fun w hw => V.range_of_block (o := 0) (cs := lkC x) (r := []) (hw.at (b := b48)) (by rfl)⟩) (by rfl) (by omega) (by omega)) fun o3 ho3 => Lv Nz <| Lv (Fa 0 128) <| LeN (StS (h1 := V.ownV_one _ _)) fun _ _ => Lv Nz <| Lv (Fa 1 3) <| LeN StS fun _ _ => Nl <| Ps <| Rg <| Lv Mv <| Lv Nz <| Lv (Fa 2 3) <| Lv (Ld (v := .int .i64 0)) <| Lv Ar <| Lv Nz <| Lv (Fa 2 3) <| LeN StS fun _ _ => Nl <| PQ.end0 rfl fun w' hw => ?_
    exact ⟨o3, ⟨hpo, by simpa [Rng.push] using ho3⟩, rfl, hw.pick (by repeat (first | exact .nil | apply Pick.cons | exact .here | apply Ext.there))⟩
  · obtain ⟨hc1, hc2⟩ := own_cap ho
    by_cases hn : n = R.length
    · subst hn
      have ep : Rng.push ⟨R, at_, R.length⟩ x = ⟨R.drop at_ ++ R.take at_ ++ [x], 0, R.length + 1⟩ := by unfold Rng.push; exact if_pos rfl
      rw [ep] at hpo ⊢
      have hfl : (((([] : List Value) ++ (R.drop at_).flatMap lkC) ++ (R.take at_).flatMap lkC) ++ lkC x) = (R.drop at_ ++ R.take at_ ++ [x]).flatMap lkC := by simp
      have hln : (R.drop at_ ++ R.take at_ ++ [x]).length = 0 + (R.length - at_) + at_ + 1 := by simp only [List.length_append, List.length_drop, List.length_take, List.length_cons, List.length_nil]; omega
      refine V.calls [[(fb, .cells (rgC ⟨R, at_, R.length⟩ (some (g, rest, cap))).toArray 182 (0, 0))], [(g, .cells (R.flatMap lkC ++ rest).toArray 133 (0, 0))]] Tryz.func161 rfl Tryz.ntmps161 (Nat.le_of_ble_eq_true rfl) hs <| Sq <| Rg <| Le XA fun b3 _ => Nl <| Ps <| Sq <| Sq <| Qt <| Qv Mv <| Qv Nz <| Qv (Fa 2 3) <| Qv (Ld (v := .int .i64 (R.length : Nat))) <| Qv Mv <| Qv Nz <| Qv (Fa 0 128) <| Qv (Ld (v := .slice (some ⟨g, 0, none⟩) R.length cap)) <| Qv Ln <| Qv Cm <| QW.re 14 (.bool true) rfl (by simp) <| Ql <| Ps <| Ct <| Sq <| Rg <| Lv Mv <| Lv Nz <| Lv (Fa 2 3) <| Lv (Ld (v := .int .i64 (R.length : Nat))) <| Lv Ar <| Lv Ar <| LW.re 20 (.int .i64 ((2 * R.length + 1 : Nat) : Int)) rfl (by congr 1) <| Le (Eff.makeCap (m := 2 * R.length + 1) (by_ := 48) (zl := lkC lk0) rfl rfl Tryz.underlying128 (by kernel_rfl) Tryz.sizeOf133 (by exact Tryz.zeroValue133) (by kernel_rfl) rfl (by omega) (by omega) (by omega)) fun b21 _ => Lv Av <| Nl <| Ps <| Sq <| Dr ([[(fb, .cells (rgC ⟨R, at_, R.length⟩ (some (g, rest, cap))).toArray 182 (0, 0))]]) <| Rv 0 rfl Mv <| Rv 1 rfl Mv <| Rv 2 rfl Nz <| Rv 3 rfl (Fa 0 128) <| Rv 4 rfl (Ld (v := .slice (some ⟨g, 0, none⟩) R.length cap)) <| Rv 5 rfl Mv <| Rv 6 rfl Nz <| Rv 7 rfl (Fa 1 3) <| Rv 8 rfl (Ld (v := .int .i64 (at_ : Nat))) <| Rv 9 rfl (Val.slice (at_) (R.length) cap rfl Tryz.underlying128 Tryz.sizeOf133 ⟨_, rfl⟩ rfl rfl (fun _ => rfl) (by omega) (by omega) (by omega)) <| Re 10 rfl (Eff.appendAny ((R.drop at_).flatMap lkC) (sz := 5) (bytes := 48) (z := .agg #[.string ⟨#[]⟩, .int .u64 0, .int .u64 0, .int .i64 0, .int .i64 0]) (xs := []) (m0 := 0) (o := some (b21, V.repL (lkC lk0) (2 * R.length + 1), 2 * R.length + 1)) (m := R.length - at_) (pk := [[(b21, .cells (V.repL (lkC lk0) (2 * R.length + 1)).toArray 133 (0, 0))]]) rfl rfl Tryz.underlying128 (by kernel_rfl) rfl (by omega) (by repeat (first | exact .nil | apply Pick.cons | exact .here | apply Ext.there)) (by rfl) ⟨rfl, by show _ + (V.repL (lkC lk0) (2 * R.length + 1)).length = _; rw [V.repL_length]; simp [lkC_len]⟩ (by rw [V.flatMap_len lkC_len, List.length_drop]) (fun hm0 => ⟨g, at_ * 5, by rw [if_neg (by omega), Nat.zero_add], fun w hw => V.range_of_block (o := at_ * 5) (r := rest) (hw.at (b := g)) (lk_drop R at_ rest hr2)⟩) (all_one lkC_one _) (by omega) (by omega)) ?_
      intro o1 ho1
      refine Rv 11 rfl Av <| Rd <| Ps <| Sq <| Dr ([[(fb, .cells (rgC ⟨R, at_, R.length⟩ (some (g, rest, cap))).toArray 182 (0, 0))]]) <| Rv 0 rfl Mv <| Rv 1 rfl Mv <| Rv 2 rfl Nz <| Rv 3 rfl (Fa 0 128) <| Rv 4 rfl (Ld (v := .slice (some ⟨g, 0, none⟩) R.length cap)) <| Rv 5 rfl Mv <| Rv 6 rfl Nz <| Rv 7 rfl (Fa 1 3) <| Rv 8 rfl (Ld (v := .int .i64 (at_ : Nat))) <| Rv 9 rfl (Val.slice (0) (at_) cap rfl Tryz.underlying128 Tryz.sizeOf133 rfl ⟨_, rfl⟩ rfl (fun _ => rfl) (by omega) (by omega) (by omega)) <| RW.re 42 (.slice (some ⟨g, 0, none⟩) at_ cap) rfl (by simp) <| Re 10 rfl (Eff.appendAny ((R.take at_).flatMap lkC) (sz := 5) (bytes := 48) (z := .agg #[.string ⟨#[]⟩, .int .u64 0, .int .u64 0, .int .i64 0, .int .i64 0]) (xs := ([] : List Value) ++ (R.drop at_).flatMap lkC) (m0 := 0 + (R.length - at_)) (o := o1) (m := at_) (pk := [ownG 133 (([] : List Value) ++ (R.drop at_).flatMap lkC) o1]) rfl rfl Tryz.underlying128 (by kernel_rfl) rfl (by omega) (by repeat (first | exact .nil | apply Pick.cons | exact .here | apply Ext.there)) (by simp) ho1 (by rw [V.flatMap_len lkC_len, List.length_take]; omega) (fun hm0 => ⟨g, 0, rfl, fun w hw => V.range_of_block (o := 0) (hw.at (b := g)) (lk_take R at_ rest)⟩) (all_one lkC_one _) (by omega) (by omega)) fun o2 ho2 => Rv 11 rfl Av <| Rd <| Ps <| Rg <| Lv Mv <| Lv Mv <| Lv Mv <| Lv Lw <| Le (Eff.buildSlice (rfl) [_, _, _, _, _] Tryz.underlying128 Tryz.sizeOf133 (by exact Tryz.zeroValue133) rfl rfl rfl rfl (by rfl)) fun b48 _ => Le (Eff.appendAny (lkC x) (sz := 5) (bytes := 48) (z := .agg #[.string ⟨#[]⟩, .int .u64 0, .int .u64 0, .int .i64 0, .int .i64 0]) (xs := ([] ++ (R.drop at_).flatMap lkC) ++ (R.take at_).flatMap lkC) (m0 := 0 + (R.length - at_) + at_) (o := o2) (m := 1) (pk := [ownG 133 (([] ++ (R.drop at_).flatMap lkC) ++ (R.take at_).flatMap lkC) o2]) rfl rfl Tryz.underlying128 (by kernel_rfl) rfl (by omega) (by repeat (first | exact .nil | apply Pick.cons | exact .here | apply Ext.there)) (by simp) ho2 (by rfl) (fun hm0 => ⟨b48, 0, rfl, fun w hw => V.range_of_block (o := 0) (cs := lkC x) (r := []) (hw.at (b := b48)) (by rfl)⟩) (by rfl) (by omega) (by omega)) ?_
      intro o3 ho3
      rw [hfl] at ho3 ⊢
      rw [← hln] at ho3
      refine LW.re 49 (ownV (R.drop at_ ++ R.take at_ ++ [x]).length o3) rfl (by rw [hln]) <| Lv Nz <| Lv (Fa 0 128) <| LeN (StS (h1 := V.ownV_one _ _)) fun _ _ => Lv Nz <| Lv (Fa 1 3) <| LeN StS fun _ _ => Nl <| Ps <| Rg <| Lv Mv <| Lv Nz <| Lv (Fa 2 3) <| Lv (Ld (v := .int .i64 (R.length : Nat))) <| Lv Ar <| Lv Nz <| Lv (Fa 2 3) <| LeN StS fun _ _ => Nl <| PQ.end0 rfl fun w' hw => ?_
      exact ⟨o3, ⟨hpo, ho3⟩, rfl, hw.pick (by repeat (first | exact .nil | apply Pick.cons | exact .here | apply Ext.there))⟩
    · have ep : Rng.push ⟨R, at_, n⟩ x = ⟨R.set (Rng.ix ⟨R, at_, n⟩ n) x, at_, n + 1⟩ := by unfold Rng.push; exact if_neg hn
      rw [ep] at hpo ⊢
      obtain ⟨hix, hixl⟩ := ix_mod (r := ⟨R, at_, n⟩) ⟨hr1, hr2, hr3, hr4⟩ (i := n) (by simp only; omega) (by simp only; omega)
      simp only at hix hixl
      obtain ⟨y, hy⟩ : ∃ y, R[Rng.ix ⟨R, at_, n⟩ n]? = some y := ⟨R[Rng.ix ⟨R, at_, n⟩ n], by simp⟩
      refine V.calls [[(fb, .cells (rgC ⟨R, at_, n⟩ (some (g, rest, cap))).toArray 182 (0, 0))], [(g, .cells (R.flatMap lkC ++ rest).toArray 133 (0, 0))]] Tryz.func161 rfl Tryz.ntmps161 (Nat.le_of_ble_eq_true rfl) hs <| Sq <| Rg <| Le XA fun b3 _ => Nl <| Ps <| Sq <| Sq <| Qt <| Qv Mv <| Qv Nz <| Qv (Fa 2 3) <| Qv (Ld (v := .int .i64 (n : Nat))) <| Qv Mv <| Qv Nz <| Qv (Fa 0 128) <| Qv (Ld (v := .slice (some ⟨g, 0, none⟩) R.length cap)) <| Qv Ln <| Qv Cm <| QW.re 14 (.bool false) rfl (by congr 1; simp; omega) <| Ql <| Ps <| Cf <| Dr ([[(fb, .cells (rgC ⟨R, at_, n⟩ (some (g, rest, cap))).toArray 182 (0, 0))], [(b3, .cells (lkC x).toArray 133 (0, 0))]]) <| Rv 0 rfl Mv <| Rv 1 rfl Nz <| Rv 2 rfl (Fa 0 128) <| Rv 3 rfl (Ld (v := .slice (some ⟨g, 0, none⟩) R.length cap)) <| Rv 4 rfl Mv <| Rv 5 rfl Nz <| Rv 6 rfl (Fa 1 3) <| Rv 7 rfl (Ld (v := .int .i64 (at_ : Nat))) <| Rv 8 rfl Mv <| Rv 9 rfl Nz <| Rv 10 rfl (Fa 2 3) <| Rv 11 rfl (Ld (v := .int .i64 (n : Nat))) <| Rv 12 rfl Ar <| RW.re 66 (.int .i64 ((at_ + n : Nat) : Int)) rfl (by congr 1) <| Rv 13 rfl Mv <| Rv 14 rfl Nz <| Rv 15 rfl (Fa 0 128) <| Rv 16 rfl (Ld (v := .slice (some ⟨g, 0, none⟩) R.length cap)) <| Rv 17 rfl Ln <| Rv 18 rfl (Val.rem rfl rfl (by omega)) <| RW.re 72 (.int .i64 ((Rng.ix ⟨R, at_, n⟩ n) : Nat)) rfl (by rw [mod_nat, hix]) <| Rv 19 rfl Lw <| Rv 20 rfl (Val.indexAddrN (i := (Rng.ix ⟨R, at_, n⟩ n)) rfl rfl Tryz.underlying128 Tryz.sizeOf133 hixl) <| ReN 21 rfl (Eff.storeA (cs := lkC x) (l := R.flatMap lkC ++ rest) (l' := (R.set (Rng.ix ⟨R, at_, n⟩ n) x).flatMap lkC ++ rest) rfl rfl (by repeat (first | exact .here | exact .inner .here | exact .inner (.inner .here) | apply Upd.there)) (by have h8 := splice_in lkC_len hy 0 (lkC x) (y := x) (by rfl) (by simp [lkC_len]) rest; simpa using h8) (by rw [List.length_append, V.flatMap_len lkC_len]; have := Nat.mul_le_mul_right 5 (show (Rng.ix ⟨R, at_, n⟩ n) + 1 ≤ R.length from hixl); simp [lkC]; omega) Tryz.sizeOf133 (by rfl)) ?_
      intro _ _
      refine Rd <| Ps <| Rg <| Lv Mv <| Lv Nz <| Lv (Fa 2 3) <| Lv (Ld (v := .int .i64 (n : Nat))) <| Lv Ar <| Lv Nz <| Lv (Fa 2 3) <| LeN StS fun _ _ => Nl <| PQ.end0 rfl fun w' hw => ?_
      exact ⟨some (g, rest, cap), ⟨hpo, by rw [List.length_set]; exact ⟨by rw [V.flatMap_len lkC_len, List.length_set], by rw [V.flatMap_len lkC_len, List.length_set]; exact hc2⟩⟩, rfl, by unfold rgS rgC; rw [List.length_set]; exact hw.pick (by repeat (first | exact .nil | apply Pick.cons | exact .here | apply Ext.there))⟩
end G
end Go.Proofs.YtcnjjefbnlgdjaaGreat

/- What waits: asked, taken off, all. -/
namespace Go.Proofs.YtcnjjefbnlgdjaaGreat
open Go Go.RowKit V
set_option linter.unusedVariables false
set_option maxRecDepth 100000
namespace G
open V (str byC ownV ownG ownS ownOk)
def frontV (q : List Lk) : Value := .tuple #[.agg (lkC (q.head?.getD lk0)).toArray, .bool q.head?.isSome]
theorem rg_none {r : Rng} (h : rgO r none) : r.R = [] ∧ r.n = 0 ∧ r.at_ = 0 := by
  have h1 : r.R = [] := List.length_eq_zero_iff.1 h.2.2
  have h2 := h.1.1
  have h3 := h.1.2.1
  rw [h1] at h2 h3
  simp only [List.length_nil] at h2 h3
  exact ⟨h1, by omega, by omega⟩
theorem head_n0 {r : Rng} (h : r.n = 0) : rgQ r = [] := List.length_eq_zero_iff.1 (by rw [rgQ_len]; exact h)
theorem flk_at {R : List Lk} {rest : List Value} {i : Nat} {y : Lk} (h : R[i]? = some y) : ∃ r, (R.flatMap lkC ++ rest).drop (0 + i * 5) = lkC y ++ r := by
  obtain ⟨r2, h2⟩ := V.drop_flatMap lkC_len R i y h
  have hi := (List.getElem?_eq_some_iff.1 h).1
  refine ⟨r2 ++ rest, ?_⟩
  rw [Nat.zero_add, List.drop_append_of_le_length (by rw [V.flatMap_len lkC_len]; omega), h2, List.append_assoc]
end G
end Go.Proofs.YtcnjjefbnlgdjaaGreat

/- What waits: all of it; a line. -/
namespace Go.Proofs.YtcnjjefbnlgdjaaGreat
open Go Go.RowKit V
set_option linter.unusedVariables false
set_option maxRecDepth 100000
namespace G
open V (str byC ownV ownG ownS ownOk)
instance : Cal Tryz.prog 81 := ⟨Tryz.call81⟩
instance : Cal Tryz.prog 161 := ⟨Tryz.call161⟩
theorem rall_c (fb : Nat) (r : Rng) (o : V.OwnO) (hr : rgO r o) (w : World) (hs : Sat (rgS 182 fb r o) w) : Calls Tryz.prog 81 [.pointer (some ⟨fb, 0, none⟩)].toArray w fun e w' => ∃ y : V.OwnO, ownOk 5 (rgQ r).length ((rgQ r).flatMap lkC) y ∧ e = .returned (ownV (rgQ r).length y) ∧ Hp ⟨w, V.ids ((rgS 182 fb r o))⟩ (ownG 133 ((rgQ r).flatMap lkC) y :: rgS 182 fb r o) w' := by
  obtain ⟨R, at_, n⟩ := r
  have hok := hr.1
  rcases o with _ | ⟨g, rest, cap⟩
  · obtain ⟨h1, h2, h3⟩ := rg_none hr
    simp only at h1 h2 h3
    subst h1; subst h2; subst h3
    rw [head_n0 (r := ⟨[], 0, 0⟩) rfl]
    refine V.calls [[(fb, .cells (rgC ⟨[], 0, 0⟩ none).toArray 182 (0, 0))], ownG 133 (([] : List Lk).flatMap lkC) none] Tryz.func81 rfl Tryz.ntmps81 (Nat.le_of_ble_eq_true rfl) hs <| Sq <| Rg <| Lv Av <| Nl <| Ps <| Sq <| Rg <| Lv Av <| Nl <| Ps <| Sq <| Sq <| Rg <| Lv Mv <| Lv Nz <| Lv (Fa 2 3) <| Lv (Ld (v := .int .i64 0)) <| Lv Mv <| Nl <| Ps <| Bk <| CW.loopU 0 <| Sq <| Rg <| Lv Cm <| LW.re 10 (.bool false) rfl (by rfl) <| Nl <| Ps <| Sq <| Cf <| Xt <| Te <| Te <| Bh <| Ps <| Sq <| Rg <| Lv Mv <| Lv Av <| Nl <| Ps <| Rt <| Rt1 ?_
    intro w' hw; exact ⟨none, ⟨rfl, rfl⟩, rfl, hw.perm (.refl _)⟩
  · obtain ⟨hc1, hc2⟩ := own_cap hr.2
    have hrl : R.length ≤ 100000 := hok.2.2.2
    have hnl : n ≤ R.length := hok.1
    have hal : at_ ≤ R.length := hok.2.1
    have hql : (rgQ ⟨R, at_, n⟩).length = n := rgQ_len _
    have htk : ∀ j, j ≤ n → ((rgQ ⟨R, at_, n⟩).take j).length = j := fun j hj => by rw [List.length_take]; omega
    refine V.calls [[(fb, .cells (rgC ⟨R, at_, n⟩ (some (g, rest, cap))).toArray 182 (0, 0))], [(g, .cells (R.flatMap lkC ++ rest).toArray 133 (0, 0))]] Tryz.func81 rfl Tryz.ntmps81 (Nat.le_of_ble_eq_true rfl) hs <| Sq <| Rg <| Lv Av <| Nl <| Ps <| Sq <| Rg <| Lv Av <| Nl <| Ps <| Sq <| Sq <| Rg <| Lv Mv <| Lv Nz <| Lv (Fa 2 3) <| Lv (Ld (v := .int .i64 (n : Nat))) <| Lv Mv <| Nl <| Ps <| Bk ?_
    refine V.CW.perm (sg' := [ownG 133 (((rgQ ⟨R, at_, n⟩).take 0).flatMap lkC) none, [(fb, .cells (rgC ⟨R, at_, n⟩ (some (g, rest, cap))).toArray 182 (0, 0))], [(g, .cells (R.flatMap lkC ++ rest).toArray 133 (0, 0))]]) ?_ (.refl _)
    refine loopA (γ := Nat × V.OwnO) (fun k => [(0, .pointer (some ⟨fb, 0, none⟩)), (3, ownV k.1 k.2), (8, .int .i64 (n : Nat)), (9, .int .i64 (k.1 : Nat))]) (fun k => [ownG 133 (((rgQ ⟨R, at_, n⟩).take k.1).flatMap lkC) k.2, [(fb, .cells (rgC ⟨R, at_, n⟩ (some (g, rest, cap))).toArray 182 (0, 0))], [(g, .cells (R.flatMap lkC ++ rest).toArray 133 (0, 0))]]) (fun k => k.1 ≤ n ∧ ownOk 5 k.1 (((rgQ ⟨R, at_, n⟩).take k.1).flatMap lkC) k.2) (fun k => n - k.1) ((0, none)) ⟨Nat.zero_le _, ⟨rfl, rfl⟩⟩ fun k => ?_
    rintro ⟨hk1, hk2⟩
    refine Sq <| Rg <| Lv Cm <| Nl <| Ps <| Sq ?_
    refine CW.cond rfl (fun h10 => ?_) (fun h10 => ?_)
    · replace h10 := bT h10
      have hk3 : k.1 < n := by omega
      obtain ⟨hix, hixl⟩ := ix_mod (r := ⟨R, at_, n⟩) hok (i := k.1) (by show k.1 ≤ R.length; omega) (by show 0 < R.length; omega)
      simp only at hix hixl
      obtain ⟨y, hy⟩ : ∃ y, R[Rng.ix ⟨R, at_, n⟩ k.1]? = some y := ⟨R[Rng.ix ⟨R, at_, n⟩ k.1], by simp⟩
      obtain ⟨r2, hr2⟩ := flk_at (rest := rest) hy
      have hqk : (rgQ ⟨R, at_, n⟩)[k.1]? = some y := by rw [rgQ_get, if_pos hk3, hy]; rfl
      have hts : (rgQ ⟨R, at_, n⟩).take (k.1 + 1) = ((rgQ ⟨R, at_, n⟩).take k.1) ++ [y] := by rw [List.take_add_one, hqk]; rfl
      refine Sk <| Ps <| Sq <| Bk <| Sq <| Rg <| Lv Mv <| Lv Av <| Nl <| Ps <| Dr ([[(fb, .cells (rgC ⟨R, at_, n⟩ (some (g, rest, cap))).toArray 182 (0, 0))], [(g, .cells (R.flatMap lkC ++ rest).toArray 133 (0, 0))]]) <| Rv 0 rfl Mv <| Rv 1 rfl Mv <| Rv 2 rfl Nz <| Rv 3 rfl (Fa 0 128) <| Rv 4 rfl (Ld (v := .slice (some ⟨g, 0, none⟩) R.length cap)) <| Rv 5 rfl Mv <| Rv 6 rfl Nz <| Rv 7 rfl (Fa 1 3) <| Rv 8 rfl (Ld (v := .int .i64 (at_ : Nat))) <| Rv 9 rfl Mv <| Rv 10 rfl Ar <| RW.re 22 (.int .i64 ((at_ + k.1 : Nat) : Int)) rfl (by congr 1) <| Rv 11 rfl Mv <| Rv 12 rfl Nz <| Rv 13 rfl (Fa 0 128) <| Rv 14 rfl (Ld (v := .slice (some ⟨g, 0, none⟩) R.length cap)) <| Rv 15 rfl Ln <| Rv 16 rfl (Val.rem rfl rfl (by omega)) <| RW.re 28 (.int .i64 ((Rng.ix ⟨R, at_, n⟩ k.1 : Nat) : Int)) rfl (by rw [mod_nat, hix]) <| Rv 17 rfl (Val.indexAddrN (i := Rng.ix ⟨R, at_, n⟩ k.1) rfl rfl Tryz.underlying128 Tryz.sizeOf133 hixl) <| Rv 18 rfl (La (lkC y) (hl := hr2)) <| Re 19 rfl (Eff.buildSlice (rfl) [_, _, _, _, _] Tryz.underlying128 Tryz.sizeOf133 (by exact Tryz.zeroValue133) rfl rfl rfl rfl (by rfl)) fun b31 _ => Re 20 rfl (Eff.appendAny (lkC y) (sz := 5) (bytes := 48) (z := .agg #[.string ⟨#[]⟩, .int .u64 0, .int .u64 0, .int .i64 0, .int .i64 0]) (xs := ((rgQ ⟨R, at_, n⟩).take k.1).flatMap lkC) (m0 := k.1) (o := k.2) (m := 1) (pk := [ownG 133 (((rgQ ⟨R, at_, n⟩).take k.1).flatMap lkC) (k.2)]) rfl rfl Tryz.underlying128 (by kernel_rfl) rfl (by omega) (by repeat (first | exact .nil | apply Pick.cons | exact .here | apply Ext.there)) (by simp) hk2 (by rfl) (fun hm0 => ⟨b31, 0, rfl, fun w hw => V.range_of_block (o := 0) (cs := lkC y) (r := []) (hw.own _ (show InS (b31, .cells (lkC y).toArray 133 (0, 0)) _ from (by repeat (first | exact .here | exact .inner .here | exact .inner (.inner .here) | refine .there ?_))).mem) rfl⟩) (by rfl) (by omega) (by omega)) fun o2 ho2 => Rv 21 rfl Av <| Rd <| Bn <| Ps <| Rg <| Lv Ar <| Lv Mv <| Nl ?_
      rw [← show ((rgQ ⟨R, at_, n⟩).take (k.1 + 1)).flatMap lkC = ((rgQ ⟨R, at_, n⟩).take k.1).flatMap lkC ++ lkC y by rw [hts, List.flatMap_append]; rfl]
      exact roundA ((k.1 + 1, o2)) ⟨by simp only; omega, by simp only; rw [hts, List.flatMap_append]; exact ho2⟩ (by simp only; omega)
    · replace h10 := bF h10
      refine Xt <| Te <| Te <| Bh <| Ps <| Sq <| Rg <| Lv Mv <| Lv Av <| Nl <| Ps <| Rt <| Rt1 ?_
      have hk9 : k.1 = n := by omega
      have hte : ((rgQ ⟨R, at_, n⟩).take k.1) = rgQ ⟨R, at_, n⟩ := by rw [hk9]; exact List.take_of_length_le (by omega)
      rw [hte] at hk2 ⊢
      rw [hk9] at hk2
      intro w' hw; exact ⟨k.2, by rw [hql]; exact hk2, by rw [hql, hk9], hw.pick (by repeat (first | exact .nil | apply Pick.cons | exact .here | apply Ext.there))⟩
theorem lpush_c (fb : Nat) (r : Rng) (o : V.OwnO) (x : Lk) (hr : rgO r o) (hm : r.R.length ≤ 50000) (w : World) (hs : Sat (rgS 182 fb r o) w) : Calls Tryz.prog 126 [.pointer (some ⟨fb, 0, none⟩), .agg (lkC x).toArray].toArray w fun e w' => ∃ o2 : V.OwnO, rgO (r.push x) o2 ∧ e = .returned (.tuple #[]) ∧ Hp ⟨w, V.ids ((rgS 182 fb r o))⟩ (rgS 182 fb (r.push x) o2) w' := by
  refine V.calls (rgS 182 fb r o) Tryz.func126 rfl Tryz.ntmps126 (Nat.le_of_ble_eq_true rfl) hs <| Sq <| Rg <| Le XA fun b3 _ => Nl <| Ps <| Sq <| Rg <| Lv Mv <| Lv NP <| Nl <| Ps <| Ct <| Dr ([[(b3, .cells (lkC x).toArray 133 (0, 0))]]) <| Rv 0 rfl Mv <| Rv 1 rfl Nz <| Rv 2 rfl (Fa 0 180) <| Rv 3 rfl (Lw (l := lkC x)) <| Re 4 rfl (CM (rgS 182 fb r o) fun w hw hs0 => rpush_c fb r o x hr hm w hs0) fun o2 ho2 => Rd <| PQ.end0 rfl ?_
  intro w' hw; exact ⟨o2, ho2, rfl, hw.pick (by repeat (first | exact .nil | apply Pick.cons | exact .here | apply Ext.there))⟩
theorem lall_c (fb : Nat) (r : Rng) (o : V.OwnO) (hr : rgO r o) (w : World) (hs : Sat (rgS 182 fb r o) w) : Calls Tryz.prog 55 [.pointer (some ⟨fb, 0, none⟩)].toArray w fun e w' => ∃ y : V.OwnO, ownOk 5 (rgQ r).length ((rgQ r).flatMap lkC) y ∧ e = .returned (ownV (rgQ r).length y) ∧ Hp ⟨w, V.ids ((rgS 182 fb r o))⟩ (ownG 133 ((rgQ r).flatMap lkC) y :: rgS 182 fb r o) w' := by
  refine V.calls (rgS 182 fb r o) Tryz.func55 rfl Tryz.ntmps55 (Nat.le_of_ble_eq_true rfl) hs <| Sq <| Rg <| Lv Av <| Nl <| Ps <| Sq <| Sq <| Rg <| Lv Mv <| Lv EP <| Nl <| Ps <| Cf <| Sk <| Ps <| Sq <| Rg <| Lv Mv <| Lv Nz <| Lv (Fa 0 180) <| Le (CM (rgS 182 fb r o) fun w hw hs0 => rall_c fb r o hr w hs0) fun y hy => Lv Av <| Nl <| Ps <| Rt <| Rt1 ?_
  intro w' hw; exact ⟨y, hy, rfl, hw.pick (by repeat (first | exact .nil | apply Pick.cons | exact .here | apply Ext.there))⟩
theorem lnew_c (w : World) : Calls Tryz.prog 152 [].toArray w fun e w' => ∃ b : Nat, True ∧ e = .returned (.pointer (some ⟨b, 0, none⟩)) ∧ Hp ⟨w, []⟩ (rgS 182 b ⟨[], 0, 0⟩ none) w' := by
  refine V.calls [] Tryz.func152 rfl Tryz.ntmps152 (Nat.le_of_ble_eq_true rfl) (V.sat_nil _) <| Sq <| Rg <| Lv Av <| Nl <| Ps <| Sq <| Rg <| Lv (Bd [_, _, _]) <| Le XA fun b2 _ => Lv Av <| Nl <| Ps <| Rt <| Rt1 ?_
  intro w' hw; exact ⟨b2, trivial, rfl, hw.perm (by simp [rgC, V.ownG, V.ownS, V.ownV])⟩
theorem rg0_ok : rgO ⟨[], 0, 0⟩ none := ⟨⟨by simp, by simp, by simp, by simp⟩, rfl, rfl⟩
end G
end Go.Proofs.YtcnjjefbnlgdjaaGreat

/- A link put in among links. -/
namespace Go.Proofs.YtcnjjefbnlgdjaaGreat
open Go Go.RowKit V
set_option linter.unusedVariables false
set_option maxRecDepth 100000
namespace G
open V (str byC ownV ownG ownS ownOk)
instance : Cal Tryz.prog 176 := ⟨Tryz.call176⟩
theorem cp2 {α : Type} {A T R N : List α} {a : Nat} (hA : A.length = a) (hT : T.length = N.length) : (A ++ (T ++ R)).take a ++ N ++ (A ++ (T ++ R)).drop (a + N.length) = A ++ (N ++ R) := by
  subst hA
  rw [List.take_left, ← hT, ← List.drop_drop, List.drop_left, List.drop_left, List.append_assoc]
theorem cp1 {α : Type} {A C R : List α} {a : Nat} (hA : A.length = a) (hC : 5 ≤ C.length) (hR : 5 ≤ R.length) : ((A ++ C) ++ R).take (a + 5) ++ C ++ ((A ++ C) ++ R).drop (a + 5 + C.length) = A ++ (C.take 5 ++ (C ++ R.drop 5)) := by
  subst hA
  have h1 : ((A ++ C) ++ R).take (A.length + 5) = A ++ C.take 5 := by
    rw [List.append_assoc, List.take_append, List.take_of_length_le (by omega), show A.length + 5 - A.length = 5 by omega, List.take_append, show 5 - C.length = 0 by omega]
    simp
  have h2 : ((A ++ C) ++ R).drop (A.length + 5 + C.length) = R.drop 5 := by
    rw [show A.length + 5 + C.length = (A ++ C).length + 5 by simp; omega, ← List.drop_drop, List.drop_left]
  rw [h1, h2]
  simp
/-- What an insertion leaves. -/
def insL (l : List Lk) (i : Nat) (x : Lk) : List Lk := l.take i ++ x :: l.drop i
theorem insL_len (l : List Lk) (i : Nat) (x : Lk) (hi : i ≤ l.length) : (insL l i x).length = l.length + 1 := by unfold insL; simp only [List.length_append, List.length_cons, List.length_take, List.length_drop]; omega
theorem lkCs_len (l : List Lk) : (l.flatMap lkC).length = l.length * 5 := V.flatMap_len lkC_len l
theorem insert_c (l : List Lk) (y : V.OwnO) (i : Nat) (x : Lk) (xb xc : Nat) (w : World) (hy : ownOk 5 l.length (l.flatMap lkC) y) (hl : l.length ≤ 1000) (hi : i ≤ l.length) (hs : Sat [ownG 133 (l.flatMap lkC) y] w) (hx : w.heap[xb]? = some (.cells (lkC x).toArray 133 (0, 0))) (hne : xb ∉ V.ids [ownG 133 (l.flatMap lkC) y]) :
    Calls Tryz.prog 157 [ownV l.length y, .int .i64 (i : Nat), .slice (some ⟨xb, 0, none⟩) 1 xc].toArray w fun e w' => ∃ y' : V.OwnO, ownOk 5 (insL l i x).length ((insL l i x).flatMap lkC) y' ∧ e = .returned (ownV (insL l i x).length y') ∧ Hp ⟨w, V.ids [ownG 133 (l.flatMap lkC) y]⟩ [ownG 133 ((insL l i x).flatMap lkC) y'] w' := by
  rw [insL_len l i x hi]
  have hxl := V.lt_of_some hx
  rcases y with _ | ⟨gb, rest, cap⟩
  · have hl0 : l = [] := List.length_eq_zero_iff.1 hy.2
    obtain rfl : i = 0 := by rw [hl0] at hi; simpa using hi
    have hfin : (insL l 0 x).flatMap lkC = l.flatMap lkC ++ lkC x := by unfold insL; rw [hl0]; rfl
    refine V.calls [ownG 133 (l.flatMap lkC) none] Tryz.func157 rfl Tryz.ntmps157 (Nat.le_of_ble_eq_true rfl) hs <| Sq <| Rg <| Lv Av <| Nl <| Ps <| Sq <| Rg <| Lv Mv <| Lv Mv <| Lv (Val.sliceG 0 0 0 rfl Tryz.underlying128 Tryz.sizeOf133 ⟨_, rfl⟩ (by rw [hl0]; rfl) rfl (fun _ => rfl) (by omega) (by omega) (by omega)) <| Nl <| Ps <| Sq <| Rg <| Lv Mv <| Lv Ln <| Lv Av <| Nl <| Ps <| Sq <| Sq <| Rg <| Lv Mv <| Lv Cm <| LW.re 16 (.bool false) rfl (by rfl) <| Nl <| Ps <| Cf <| Sk <| Ps <| Sq <| Rg <| Lv Mv <| Lv Ln <| Lv Av <| Nl <| Ps <| Sq <| Sq <| Rg <| Lv Mv <| Lv Mv <| Lv Cm <| LW.re 22 (.bool true) rfl (by rfl) <| Nl <| Ps <| Ct <| Sq <| Rg <| Lv Mv <| Lv Mv <| Le (Eff.appendAny (lkC x) (sz := 5) (bytes := 48) (z := .agg #[.string ⟨#[]⟩, .int .u64 0, .int .u64 0, .int .i64 0, .int .i64 0]) (xs := l.flatMap lkC) (m0 := l.length) (o := none) (m := 1) (pk := [ownG 133 (l.flatMap lkC) none]) rfl rfl Tryz.underlying128 (by kernel_rfl) rfl (by omega) (by repeat (first | exact .nil | apply Pick.cons | exact .here | apply Ext.there)) (by simp) (hy) (by rfl) (fun hm0 => ⟨xb, 0, rfl, fun w1 hw1 => V.range_of_block (o := 0) (cs := lkC x) (r := []) ((hw1.old xb hxl hne).trans hx) (by simp)⟩) (by rfl) (by omega) (by omega)) fun o9 ho9 => ?_
    rw [← hfin] at ho9 ⊢
    refine Lv Av <| Nl <| Ps <| Rt <| Tr <| Rt1 ?_
    intro w' hw; exact ⟨o9, ho9, rfl, hw.pick (by repeat (first | exact .nil | apply Pick.cons | exact .here | apply Ext.there))⟩

  · obtain ⟨A, hA⟩ : ∃ A, A = (l.take i).flatMap lkC := ⟨_, rfl⟩
    obtain ⟨C, hC⟩ : ∃ C, C = (l.drop i).flatMap lkC := ⟨_, rfl⟩
    obtain ⟨zl, hz⟩ : ∃ zl : List Value, zl = [.string ⟨#[]⟩, .int .u64 0, .int .u64 0, .int .i64 0, .int .i64 0] := ⟨_, rfl⟩
    have hzl : zl.length = 5 := by rw [hz]; rfl
    have hAC : l.flatMap lkC = A ++ C := by rw [hA, hC, ← List.flatMap_append, List.take_append_drop]
    have hAl : A.length = i * 5 := by rw [hA, lkCs_len, List.length_take]; congr 1; omega
    have hCl : C.length = (l.length - i) * 5 := by rw [hC, lkCs_len, List.length_drop]
    have hC1 : C.all (·.oneCell') = true := by rw [hC]; exact all_one lkC_one _
    have hfin : (insL l i x).flatMap lkC = A ++ (lkC x ++ C) := by unfold insL; rw [hA, hC]; simp
    have hcap : (A ++ C).length + rest.length = cap * 5 := by rw [← hAC]; exact hy.2
    have hcap2 : l.length ≤ cap := by simp only [List.length_append, hAl, hCl] at hcap; omega
    have hcap3 : i * 5 + (l.length - i) * 5 + rest.length = cap * 5 := by simp only [List.length_append, hAl, hCl] at hcap; omega
    rw [hAC] at hs
    refine V.calls [[(gb, .cells (((A ++ C) ++ rest)).toArray 133 (0, 0))]] Tryz.func157 rfl Tryz.ntmps157 (Nat.le_of_ble_eq_true rfl) hs <| Sq <| Rg <| Lv Av <| Nl <| Ps <| Sq <| Rg <| Lv Mv <| Lv Mv <| Lv (Val.slice (i) (l.length) (cap) rfl Tryz.underlying128 Tryz.sizeOf133 ⟨_, rfl⟩ rfl rfl (fun _ => rfl) (by omega) (by omega) (by omega)) <| Nl <| Ps <| Sq <| Rg <| Lv Mv <| Lv Ln <| Lv Av <| Nl <| Ps <| Sq <| Sq <| Rg <| Lv Mv <| Lv Cm <| LW.re 16 (.bool false) rfl (by rfl) <| Nl <| Ps <| Cf <| Sk <| Ps <| Sq <| Rg <| Lv Mv <| Lv Ln <| Lv Av <| Nl <| Ps <| Sq <| Sq <| Rg <| Lv Mv <| Lv Mv <| Lv Cm <| Nl <| Ps ?_
    refine CW.cond rfl (fun h22 => ?_) (fun h22 => ?_)
    · replace h22 := bT h22
      have h22 : (i : Int) = (l.length : Int) := h22
      refine Sq <| Rg <| Lv Mv <| Lv Mv <| Le (Eff.appendAny (lkC x) (sz := 5) (bytes := 48) (z := .agg #[.string ⟨#[]⟩, .int .u64 0, .int .u64 0, .int .i64 0, .int .i64 0]) (xs := (A ++ C)) (m0 := l.length) (o := some (gb, rest, cap)) (m := 1) (pk := [[(gb, .cells (((A ++ C) ++ rest)).toArray 133 (0, 0))]]) rfl rfl Tryz.underlying128 (by kernel_rfl) rfl (by omega) (by repeat (first | exact .nil | apply Pick.cons | exact .here | apply Ext.there)) (by rfl) (by rw [← hAC]; exact hy) (by rfl) (fun hm0 => ⟨xb, 0, rfl, fun w1 hw1 => V.range_of_block (o := 0) (cs := lkC x) (r := []) ((hw1.old xb hxl hne).trans hx) (by simp)⟩) (by rfl) (by omega) (by omega)) fun o9 ho9 => Lv Av <| Nl <| Ps <| Rt <| Tr <| Rt1 ?_
      have hC0 : C = [] := List.length_eq_zero_iff.1 (by omega)
      have e9 : A ++ (lkC x ++ C) = (A ++ C) ++ lkC x := by rw [hC0]; simp
      rw [hfin, e9]
      intro w' hw; exact ⟨o9, ho9, rfl, hw.pick (by repeat (first | exact .nil | apply Pick.cons | exact .here | apply Ext.there))⟩
    · replace h22 := bF h22
      have h22 : (i : Int) ≠ (l.length : Int) := h22
      refine Sk <| Ps <| Sq <| Sq <| Rg <| Lv Mv <| Lv Mv <| Lv Ar <| Lv Mv <| Lv (Val.capSl rfl Tryz.underlying128) <| Lv Cm <| Nl <| Ps ?_
      refine CW.cond rfl (fun h31 => ?_) (fun h31 => ?_)
      · replace h31 := bT h31
        have h31 : (cap : Int) < (l.length : Int) + 1 := h31
        refine Sq <| Rg <| Lv Mv <| Lv Mv <| Lv (Val.slice (0) (i) (cap) rfl Tryz.underlying128 Tryz.sizeOf133 rfl ⟨_, rfl⟩ rfl (fun _ => rfl) (by omega) (by omega) (by omega)) <| LW.re 34 (.slice (some ⟨gb, 0, none⟩) (i) (cap)) rfl (by first | (rw [if_neg (by omega)]; simp; done) | (simp; done)) <| Lv Mv <| Lv Mv <| Lv Ar <| Lv Mv <| Lv Ar <| LW.re 39 (.int .i64 ((l.length - i + 1 : Nat) : Int)) rfl (by congr 1; omega) <| Le (Eff.appendMake (sz := 5) (bytes := 48) (z := .agg #[.string ⟨#[]⟩, .int .u64 0, .int .u64 0, .int .i64 0, .int .i64 0]) (zl := zl) (olds := A) (k := l.length - i + 1) rfl rfl Tryz.underlying128 Tryz.underlying3 (by kernel_rfl) (by rw [hz]; rfl) hzl (by omega) hAl (fun w1 hw1 => V.range_of_block (o := 0) (r := C ++ rest) (hw1.own _ (show InS (gb, .cells ((A ++ C) ++ rest).toArray 133 (0, 0)) _ from (by repeat (first | exact .here | exact .inner .here | exact .inner (.inner .here) | refine .there ?_))).mem) (by simp)) (by omega) (by omega) (by omega) (by omega)) ?_
        rintro o40 ⟨ho40, hs40⟩
        obtain ⟨⟨g4, r4, c4⟩, rfl⟩ := Option.isSome_iff_exists.1 hs40
        obtain ⟨_, hc4⟩ := ho40
        simp only at hc4
        have hc42 : l.length + 1 ≤ c4 := by simp only [List.length_append, hAl, V.repL_length, hzl] at hc4; omega
        refine V.LW.perm (sg' := [[(g4, .cells ((A ++ (zl ++ (V.repL zl (l.length - i) ++ r4)))).toArray 133 (0, 0))], [(gb, .cells (((A ++ C) ++ rest)).toArray 133 (0, 0))]]) ?_ (by simp [V.ownG, V.ownS, V.repL])
        refine LW.re 40 (.slice (some ⟨g4, 0, none⟩) (l.length + 1) c4) rfl (by rw [show i + (l.length - i + 1) = l.length + 1 from by omega]; rfl) <| Lv Av <| Nl <| Ps <| Sq <| Rg <| Lv Mv <| Lv Mv <| Lv (Val.slice (i) (l.length + 1) (c4) rfl Tryz.underlying128 Tryz.sizeOf133 ⟨_, rfl⟩ rfl rfl (fun _ => rfl) (by omega) (by omega) (by omega)) <| LW.re 43 (.slice (some ⟨g4, i * 5, none⟩) (l.length + 1 - i) (c4 - i)) rfl (by first | (rw [if_neg (by omega)]; simp; done) | (simp; done)) <| Lv Mv <| Le (Eff.copy (cs := lkC x) (gb := g4) (cur := (A ++ (zl ++ (V.repL zl (l.length - i) ++ r4)))) (cells' := ((A ++ lkC x) ++ (V.repL zl (l.length - i) ++ r4))) (m := 1) (sz := 5) rfl rfl Tryz.underlying128 (by kernel_rfl) (by repeat (first | exact .here | exact .inner .here | exact .inner (.inner .here) | apply Upd.there)) (by rw [show i * 5 = A.length from hAl.symm, cp2 rfl (by rw [hzl]; rfl), List.append_assoc]) (show min (1) (l.length + 1 - i) = _ from by omega) (by first | rfl | exact hCl | omega) (fun w1 hw1 j u hj => by rw [Addr.add_mid]; exact (V.range_of_block (o := 0) (cs := lkC x) (r := []) ((hw1.old xb hxl hne).trans hx) (by simp)) j u hj) (by simp only [List.length_append, List.length_drop, List.length_take, hAl, hCl, lkC_len, V.repL_length, hzl, List.length_cons, List.length_nil]; omega) (by first | rfl | exact hC1)) fun _ _ => Nl <| Ps <| Sq <| Dr ([[(gb, .cells (((A ++ C) ++ rest)).toArray 133 (0, 0))]]) <| Rv 0 rfl Mv <| Rv 1 rfl Mv <| Rv 2 rfl Mv <| Rv 3 rfl Ar <| RW.re 49 (.int .i64 ((i + 1 : Nat) : Int)) rfl (by congr 1) <| Rv 4 rfl (Val.slice (i + 1) (l.length + 1) (c4) rfl Tryz.underlying128 Tryz.sizeOf133 ⟨_, rfl⟩ rfl rfl (fun _ => rfl) (by omega) (by omega) (by omega)) <| RW.re 50 (.slice (some ⟨g4, (i + 1) * 5, none⟩) (l.length + 1 - (i + 1)) (c4 - (i + 1))) rfl (by first | (rw [if_neg (by omega)]; simp; done) | (simp; done)) <| Rv 5 rfl Mv <| Rv 6 rfl Mv <| Rv 7 rfl (Val.slice (i) (l.length) (cap) rfl Tryz.underlying128 Tryz.sizeOf133 ⟨_, rfl⟩ rfl rfl (fun _ => rfl) (by omega) (by omega) (by omega)) <| RW.re 53 (.slice (some ⟨gb, i * 5, none⟩) (l.length - i) (cap - i)) rfl (by first | (rw [if_neg (by omega)]; simp; done) | (simp; done)) <| Re 8 rfl (Eff.copy (cs := C) (gb := g4) (cur := ((A ++ lkC x) ++ (V.repL zl (l.length - i) ++ r4))) (cells' := ((A ++ lkC x) ++ (C ++ r4))) (m := l.length - i) (sz := 5) rfl rfl Tryz.underlying128 (by kernel_rfl) (by repeat (first | exact .here | exact .inner .here | exact .inner (.inner .here) | apply Upd.there)) (cp2 (by simp only [List.length_append, hAl, lkC_len]; omega) (by rw [V.repL_length, hzl, hCl])) (show min (l.length - i) (l.length + 1 - (i + 1)) = _ from by omega) (by first | rfl | exact hCl | omega) (fun w1 hw1 j u hj => by rw [Addr.add_mid]; exact (V.range_of_block (o := i * 5) (cs := C) (r := rest) (hw1.own _ (show InS (gb, .cells ((A ++ C) ++ rest).toArray 133 (0, 0)) _ from (by repeat (first | exact .here | exact .inner .here | exact .inner (.inner .here) | refine .there ?_))).mem) (by rw [List.append_assoc, ← hAl, List.drop_left])) j u hj) (by simp only [List.length_append, List.length_drop, List.length_take, hAl, hCl, lkC_len, V.repL_length, hzl, List.length_cons, List.length_nil]; omega) (by first | rfl | exact hC1)) ?_
        intro _ _
        refine Rd <| Ps <| Sq <| Rg <| Lv Mv <| Lv Av <| Nl <| Ps <| Rt <| Tr <| Rt1 ?_
        have e9 : ((A ++ lkC x) ++ (C ++ r4)) = (A ++ (lkC x ++ C)) ++ r4 := by simp
        rw [hfin]
        intro w' hw
        rw [e9] at hw
        exact ⟨some (g4, r4, c4), ⟨by simp only [List.length_append, hAl, hCl, lkC_len]; omega, by simp only [List.length_append, hAl, hCl, lkC_len, V.repL_length, hzl] at hc4 ⊢; omega⟩, rfl, hw.pick (ss := [[(g4, .cells ((A ++ (lkC x ++ C)) ++ r4).toArray 133 (0, 0))]]) (by repeat (first | exact .nil | apply Pick.cons | exact .here | apply Ext.there))⟩
      · replace h31 := bF h31
        have h31 : (l.length : Int) + 1 ≤ (cap : Int) := h31
        refine Sk <| Ps <| Sq <| Rg <| Lv Mv <| Lv Mv <| Lv Mv <| Lv Ar <| LW.re 59 (.int .i64 ((l.length + 1 : Nat) : Int)) rfl (by congr 1) <| Lv (Val.slice (0) (l.length + 1) (cap) rfl Tryz.underlying128 Tryz.sizeOf133 rfl ⟨_, rfl⟩ rfl (fun _ => rfl) (by omega) (by omega) (by omega)) <| LW.re 60 (.slice (some ⟨gb, 0, none⟩) (l.length + 1) (cap)) rfl (by first | (rw [if_neg (by omega)]; simp; done) | (simp; done)) <| Lv Av <| Nl <| Ps <| Sq <| Sq <| Rg <| Lv Mv <| Lv Mv <| Lv Mv <| Lv Mv <| Lv Ar <| LW.re 65 (.int .i64 ((i + 1 : Nat) : Int)) rfl (by congr 1) <| Lv (Val.slice (i + 1) (l.length + 1) (cap) rfl Tryz.underlying128 Tryz.sizeOf133 ⟨_, rfl⟩ rfl rfl (fun _ => rfl) (by omega) (by omega) (by omega)) <| LW.re 66 (.slice (some ⟨gb, (i + 1) * 5, none⟩) (l.length + 1 - (i + 1)) (cap - (i + 1))) rfl (by first | (rw [if_neg (by omega)]; simp; done) | (simp; done)) ?_
        refine LW.v rfl rfl (Val.callX (v := .bool false) rfl (fun w1 hw1 => by
            have hgb := hw1.own _ (show InS (gb, .cells ((A ++ C) ++ rest).toArray 133 (0, 0)) _ from (by repeat (first | exact .here | exact .inner .here | exact .inner (.inner .here) | refine .there ?_))).mem
            have hxb := (hw1.old xb hxl hne).trans hx
            rw [run_callFunc_extern Tryz.func175 (by kernel_rfl) (by kernel_rfl) (by kernel_rfl) (e := Extern.SlicesOverlaps.overlaps #[128, 128] #[4]) (by kernel_rfl)]
            have hr := Go.Lib.run_overlaps_apart (P := Tryz.prog) w1 128 4 133 Tryz.underlying128 5 Tryz.sizeOf133 ⟨xb, 0, none⟩ ⟨gb, (i + 1) * 5, none⟩ 1 xc (l.length + 1 - (i + 1)) (cap - (i + 1)) (fun h8 => hne (by simp only at h8; rw [h8]; exact List.mem_singleton.2 rfl)) 133 133 5 (((A ++ C) ++ rest).length) (by simp [World.shape?, hxb, lkC]) (by simp [World.shape?, hgb]) (by simp only [List.length_append, hAl, hCl]; omega) (by simp [World.frozen?, hxb]) (by simp [World.frozen?, hxb])
            rw [hr]
            rfl)) ?_
        refine Lv Nt <| LW.re 68 (.bool true) rfl (by rfl) <| Nl <| Ps <| Ct <| Sq <| Dr ([]) <| Rv 0 rfl Mv <| Rv 1 rfl Mv <| Rv 2 rfl Mv <| Rv 3 rfl Ar <| RW.re 72 (.int .i64 ((i + 1 : Nat) : Int)) rfl (by congr 1) <| Rv 4 rfl (Val.slice (i + 1) (l.length + 1) (cap) rfl Tryz.underlying128 Tryz.sizeOf133 ⟨_, rfl⟩ rfl rfl (fun _ => rfl) (by omega) (by omega) (by omega)) <| RW.re 73 (.slice (some ⟨gb, (i + 1) * 5, none⟩) (l.length + 1 - (i + 1)) (cap - (i + 1))) rfl (by first | (rw [if_neg (by omega)]; simp; done) | (simp; done)) <| Rv 5 rfl Mv <| Rv 6 rfl Mv <| Rv 7 rfl (Val.slice (i) (l.length + 1) (cap) rfl Tryz.underlying128 Tryz.sizeOf133 ⟨_, rfl⟩ rfl rfl (fun _ => rfl) (by omega) (by omega) (by omega)) <| RW.re 76 (.slice (some ⟨gb, i * 5, none⟩) (l.length + 1 - i) (cap - i)) rfl (by first | (rw [if_neg (by omega)]; simp; done) | (simp; done)) <| Re 8 rfl (Eff.copy (cs := C) (gb := gb) (cur := ((A ++ C) ++ rest)) (cells' := (A ++ (C.take 5 ++ (C ++ rest.drop 5)))) (m := l.length - i) (sz := 5) rfl rfl Tryz.underlying128 (by kernel_rfl) (by repeat (first | exact .here | exact .inner .here | exact .inner (.inner .here) | apply Upd.there)) (by rw [Nat.add_mul]; exact cp1 hAl (by omega) (by simp only [List.length_append, hAl, hCl] at hcap; omega)) (show min (l.length + 1 - i) (l.length + 1 - (i + 1)) = _ from by omega) (by first | rfl | exact hCl | omega) (fun w1 hw1 j u hj => by rw [Addr.add_mid]; exact (V.range_of_block (o := i * 5) (cs := C) (r := rest) (hw1.own _ (show InS (gb, .cells ((A ++ C) ++ rest).toArray 133 (0, 0)) _ from (by repeat (first | exact .here | exact .inner .here | exact .inner (.inner .here) | refine .there ?_))).mem) (by rw [List.append_assoc, ← hAl, List.drop_left])) j u hj) (by simp only [List.length_append, List.length_drop, List.length_take, hAl, hCl, lkC_len, V.repL_length, hzl, List.length_cons, List.length_nil]; omega) (by first | rfl | exact hC1)) ?_
        intro _ _
        refine Rd <| Ps <| Sq <| Rg <| Lv Mv <| Lv Mv <| Lv (Val.slice (i) (l.length + 1) (cap) rfl Tryz.underlying128 Tryz.sizeOf133 ⟨_, rfl⟩ rfl rfl (fun _ => rfl) (by omega) (by omega) (by omega)) <| LW.re 80 (.slice (some ⟨gb, i * 5, none⟩) (l.length + 1 - i) (cap - i)) rfl (by first | (rw [if_neg (by omega)]; simp; done) | (simp; done)) <| Lv Mv <| Le (Eff.copy (cs := lkC x) (gb := gb) (cur := (A ++ (C.take 5 ++ (C ++ rest.drop 5)))) (cells' := (A ++ (lkC x ++ (C ++ rest.drop 5)))) (m := 1) (sz := 5) rfl rfl Tryz.underlying128 (by kernel_rfl) (by repeat (first | exact .here | exact .inner .here | exact .inner (.inner .here) | apply Upd.there)) (cp2 hAl (by rw [List.length_take, hCl, lkC_len]; omega)) (show min (1) (l.length + 1 - i) = _ from by omega) (by first | rfl | exact hCl | omega) (fun w1 hw1 j u hj => by rw [Addr.add_mid]; exact (V.range_of_block (o := 0) (cs := lkC x) (r := []) ((hw1.old xb hxl hne).trans hx) (by simp)) j u hj) (by simp only [List.length_append, List.length_drop, List.length_take, hAl, hCl, lkC_len, V.repL_length, hzl, List.length_cons, List.length_nil]; omega) (by first | rfl | exact hC1)) fun _ _ => Nl <| Ps <| Sq <| Rg <| Lv Mv <| Lv Av <| Nl <| Ps <| Rt <| Tr <| Rt1 ?_
        have e9 : (A ++ (lkC x ++ (C ++ rest.drop 5))) = (A ++ (lkC x ++ C)) ++ rest.drop 5 := by simp
        rw [hfin]
        intro w' hw
        rw [e9] at hw
        exact ⟨some (gb, rest.drop 5, cap), ⟨by simp only [List.length_append, hAl, hCl, lkC_len]; omega, by simp only [List.length_append, List.length_drop, hAl, hCl, lkC_len] at hcap ⊢; omega⟩, rfl, hw.pick (ss := [[(gb, .cells ((A ++ (lkC x ++ C)) ++ rest.drop 5).toArray 133 (0, 0))]]) (by repeat (first | exact .nil | apply Pick.cons | exact .here | apply Ext.there))⟩

end G
end Go.Proofs.YtcnjjefbnlgdjaaGreat

/- Links found among rising ones; places of keys. -/
namespace Go.Proofs.YtcnjjefbnlgdjaaGreat
open Go Go.RowKit V
set_option linter.unusedVariables false
set_option maxRecDepth 100000
namespace G
open V (str byC ownV ownG ownS ownOk)
instance : Und Tryz.prog 119 (dOf Tryz.underlying119) := ⟨Tryz.underlying119⟩
instance : Siz Tryz.prog 119 (kOf Tryz.sizeOf119) := ⟨Tryz.sizeOf119⟩
instance : AgF Tryz.prog 119 := ⟨Tryz.isAgg119⟩
instance : Zer Tryz.prog 119 (zOf Tryz.zeroValue119) := ⟨Tryz.zeroValue119⟩
instance : Cal Tryz.prog 78 := ⟨Tryz.call78⟩
instance : Cal Tryz.prog 105 := ⟨Tryz.call105⟩
instance : Cal Tryz.prog 173 := ⟨Tryz.call173⟩
theorem cmp_lt : ∀ a b : List UInt8, Go.Lib.compareBytes a b < 0 ↔ a < b
  | [], [] => by simp [Go.Lib.compareBytes]
  | [], _ :: _ => by simp [Go.Lib.compareBytes]
  | _ :: _, [] => by simp [Go.Lib.compareBytes]
  | a :: x, b :: y => by
    have ih := cmp_lt x y
    unfold Go.Lib.compareBytes
    rw [List.cons_lt_cons_iff]
    by_cases h1 : a < b
    · simp [h1]
    · by_cases h2 : b < a
      · have h3 : a ≠ b := fun e => by subst e; exact UInt8.lt_irrefl a h2
        simp [h1, h2, h3]
      · have h3 : a = b := UInt8.toNat_inj.1 (by rw [UInt8.lt_iff_toNat_lt] at h1 h2; omega)
        subst h3
        simp [h1, ih]
theorem cmp_eq : ∀ a b : List UInt8, Go.Lib.compareBytes a b = 0 ↔ a = b
  | [], [] => by simp [Go.Lib.compareBytes]
  | [], _ :: _ => by simp [Go.Lib.compareBytes]
  | _ :: _, [] => by simp [Go.Lib.compareBytes]
  | a :: x, b :: y => by
    have ih := cmp_eq x y
    unfold Go.Lib.compareBytes
    by_cases h1 : a < b
    · have h3 : a ≠ b := fun e => by subst e; exact UInt8.lt_irrefl a h1
      simp [h1, h3]
    · by_cases h2 : b < a
      · have h3 : a ≠ b := fun e => by subst e; exact UInt8.lt_irrefl a h2
        simp [h1, h2, h3]
      · have h3 : a = b := UInt8.toNat_inj.1 (by rw [UInt8.lt_iff_toNat_lt] at h1 h2; omega)
        subst h3
        simp [h1, ih]
/-- A search by halves. -/
def bsGo (l : List Lk) (key : List UInt8) : Nat → Nat → Nat → Nat
  | 0, i, _ => i
  | f + 1, i, j => if i < j then (if ((l[(i + j) / 2]?).getD lk0).key < key then bsGo l key f ((i + j) / 2 + 1) j else bsGo l key f i ((i + j) / 2)) else i
theorem bsGo_fuel (l : List Lk) (key : List UInt8) : ∀ (f f' i j : Nat), j - i ≤ f → j - i ≤ f' → bsGo l key f i j = bsGo l key f' i j
  | 0, 0, i, j, _, _ => rfl
  | 0, f' + 1, i, j, h, _ => by rw [bsGo, bsGo, if_neg (by omega)]
  | f + 1, 0, i, j, _, h => by rw [bsGo, bsGo, if_neg (by omega)]
  | f + 1, f' + 1, i, j, h, h' => by
    rw [bsGo, bsGo]
    by_cases hij : i < j
    · rw [if_pos hij, if_pos hij]
      split
      · exact bsGo_fuel l key f f' _ _ (by omega) (by omega)
      · exact bsGo_fuel l key f f' _ _ (by omega) (by omega)
    · rw [if_neg hij, if_neg hij]
theorem bsGo_le (l : List Lk) (key : List UInt8) : ∀ (f i j : Nat), i ≤ j → bsGo l key f i j ≤ j
  | 0, i, j, h => h
  | f + 1, i, j, h => by
    rw [bsGo]
    split
    · split
      · exact bsGo_le l key f _ _ (by omega)
      · exact Nat.le_trans (bsGo_le l key f _ _ (by omega)) (by omega)
    · exact h
theorem half_nat (a : Nat) : Value.int .u64 (((a : Nat) : Int).fdiv (2 ^ min (Int.toNat 1) IntKind.u64.bits)) = .int .u64 ((a / 2 : Nat) : Int) := by
  have e8 : (2 : Int) ^ (min (Int.toNat 1) IntKind.u64.bits) = 2 := by decide
  rw [e8, Int.fdiv_eq_ediv_of_nonneg _ (by omega)]
  rfl
def posF (l : List Lk) (key : List UInt8) : Nat := bsGo l key l.length 0 l.length
def hasF (l : List Lk) (key : List UInt8) : Bool := decide (posF l key < l.length) && decide (((l[posF l key]?).getD lk0).key = key)
theorem posF_le (l : List Lk) (key : List UInt8) : posF l key ≤ l.length := bsGo_le l key _ _ _ (by omega)
theorem bs_step {l : List Lk} {key : List UInt8} {i j : Nat} {x : Lk} (h : i < j) (hx : l[(i + j) / 2]? = some x) : bsGo l key (j - i) i j = if x.key < key then bsGo l key (j - ((i + j) / 2 + 1)) ((i + j) / 2 + 1) j else bsGo l key ((i + j) / 2 - i) i ((i + j) / 2) := by
  obtain ⟨f, hf⟩ : ∃ f, j - i = f + 1 := ⟨j - i - 1, by omega⟩
  rw [hf, bsGo, if_pos h, hx, Option.getD_some]
  split
  · exact bsGo_fuel l key _ _ _ _ (by omega) (by omega)
  · exact bsGo_fuel l key _ _ _ _ (by omega) (by omega)
theorem cmpS_c (a b : List UInt8) (w : World) : Calls Tryz.prog 105 [str a, str b].toArray w fun e w' => e = .returned (.int .i64 (Go.Lib.compareBytes a b)) ∧ Below w.heap.size w w' := by
  refine V.calls [] Tryz.func105 rfl Tryz.ntmps105 (Nat.le_of_ble_eq_true rfl) (V.sat_nil _) <| Sq <| Rg <| Lv Av <| Nl <| Ps <| Sq <| Rg <| Lv Mv <| Lv Mv ?_
  refine LW.v rfl rfl (Val.callX (v := .int .i64 (Go.Lib.compareBytes a b)) rfl (fun w1 hw1 => by
      rw [run_callFunc_extern Tryz.func141 (by kernel_rfl) (by kernel_rfl) (by kernel_rfl) (e := Extern.BytealgCompare.compare) (by kernel_rfl)]
      have hr := Go.Lib.run_compareString (P := Tryz.prog) ⟨a.toArray⟩ ⟨b.toArray⟩ w1
      show Result.andThen ((Extern.BytealgCompare.compare #[.string ⟨a.toArray⟩, .string ⟨b.toArray⟩]).run Tryz.prog w1) _ = _
      rw [hr]
      rfl)) ?_
  refine Lv Av <| Nl <| Ps <| Rt <| Rt1 ?_
  intro w' hw; exact ⟨rfl, hw.below⟩
theorem compare_c (a b : List UInt8) (w : World) : Calls Tryz.prog 78 [str a, str b].toArray w fun e w' => e = .returned (.int .i64 (Go.Lib.compareBytes a b)) ∧ Below w.heap.size w w' := by
  refine V.calls [] Tryz.func78 rfl Tryz.ntmps78 (Nat.le_of_ble_eq_true rfl) (V.sat_nil _) <| Sq <| Rg <| Lv Av <| Nl <| Ps <| Sq <| Rg <| Lv Mv <| Lv Mv <| Le (CV fun w hw => cmpS_c a b w) fun _ _ => Lv Av <| Nl <| Ps <| Rt <| Rt1 ?_
  intro w' hw; exact ⟨rfl, hw.below⟩
theorem find1_c (x : Lk) (key : List UInt8) (w : World) : Calls Tryz.prog 174 [.agg (lkC x).toArray, str key].toArray w fun e w' => e = .returned (.int .i64 (Go.Lib.compareBytes x.key key)) ∧ Below w.heap.size w w' := by
  refine V.calls [] Tryz.func174 rfl Tryz.ntmps174 (Nat.le_of_ble_eq_true rfl) (V.sat_nil _) <| Sq <| Rg <| Le XA fun b2 _ => Lv Av <| Nl <| Ps <| Sq <| Rg <| Lv (Fa 0 9) <| Lv (Ld (v := str x.key)) <| Lv Mv <| Le (CV fun w hw => compare_c x.key key w) fun _ _ => Lv Av <| Nl <| Ps <| Rt <| Rt1 ?_
  intro w' hw; exact ⟨rfl, hw.below⟩
theorem bsearch_c (l : List Lk) (p : Option Addr) (c : Nat) (key : List UInt8) (hl : l.length ≤ 100000) (w : World) (h : V.slAt w p 5 lkC l) : Calls Tryz.prog 173 [.slice p l.length c, str key, .func (.func 174) #[] #[]].toArray w fun e w' => e = .returned (.tuple #[.int .i64 (posF l key : Nat), .bool (hasF l key)]) ∧ Below w.heap.size w w' := by
  refine V.calls [] Tryz.func173 rfl Tryz.ntmps173 (Nat.le_of_ble_eq_true rfl) (V.sat_nil _) <| Sq <| Rg <| Lv Av <| Lv Av <| Nl <| Ps <| Sq <| Rg <| Lv Mv <| Lv Ln <| Lv Av <| Nl <| Ps <| Sq <| Rg <| Lv Mv <| Lv Av <| Lv Av <| Nl <| Ps <| Sq <| Bk <| loopA (γ := Nat × Nat) (fun k => [(0, .slice p l.length c), (1, str key), (2, .func (.func 174) #[] #[]), (8, .int .i64 (l.length : Nat)), (9, .int .i64 (k.1 : Nat)), (10, .int .i64 (k.2 : Nat))]) (fun _ => []) (fun k => k.1 ≤ k.2 ∧ k.2 ≤ l.length ∧ posF l key = bsGo l key (k.2 - k.1) k.1 k.2) (fun k => k.2 - k.1) ((0, l.length)) ⟨Nat.zero_le _, Nat.le_refl _, rfl⟩ fun k => ?_
  rintro ⟨hk1, hk2, hk3⟩
  refine Sq <| Sq <| Rg <| Lv Mv <| Lv Mv <| Lv Cm <| Nl <| Ps ?_
  refine CW.cond rfl (fun h17 => ?_) (fun h17 => ?_)
  · replace h17 := bT h17
    obtain ⟨b1, o1, x, hp1, hb1, hx1, hr1⟩ := V.slAt_at h rfl (k := ((k.1 + k.2) / 2)) (by omega)
    have hbs := bs_step (key := key) (show k.1 < k.2 by omega) hx1
    refine Sk <| Ps <| Bk <| Sq <| Rg <| Lv Mv <| Lv Mv <| Lv Ar <| LW.re 20 (.int .i64 ((k.1 + k.2 : Nat) : Int)) rfl (by congr 1) <| Lv Cv <| LW.re 21 (.int .u64 ((k.1 + k.2 : Nat) : Int)) rfl (by congr 1; exact IntWalk.u64_in _ (by omega)) <| Lv (Val.shr rfl rfl (by omega)) <| LW.re 22 (.int .u64 (((k.1 + k.2) / 2) : Nat)) rfl (by rw [half_nat]) <| Lv Cv <| LW.re 23 (.int .i64 (((k.1 + k.2) / 2) : Nat)) rfl (by congr 1; exact IntWalk.i64_in _ (by omega)) <| Lv Av <| Nl <| Ps <| Sq <| Rg <| Lv Mv <| Lv Mv <| Lv Mv <| Lv ((by rw [hp1]; exact Val.indexAddrN (i := ((k.1 + k.2) / 2)) rfl rfl Tryz.underlying128 Tryz.sizeOf133 (by omega))) <| Lv (Val.loadOA rfl Tryz.isAgg133 hb1 (by simp [ids]) (hr1 (((k.1 + k.2) / 2)) _ hx1) Tryz.sizeOf133) <| Lv Mv <| Le (Eff.callFV (f := 174) (caps := []) rfl rfl Tryz.call174 (fun w hw => find1_c x key w)) fun _ _ => Lv Cm <| Nl <| Ps ?_
    refine CW.cond rfl (fun h31 => ?_) (fun h31 => ?_)
    · replace h31 := bT h31
      rw [if_pos ((cmp_lt _ _).1 h31)] at hbs
      refine Rg <| Lv Mv <| Lv Ar <| Lv Av <| Nl <| Bn ?_
      exact roundA ((((k.1 + k.2) / 2) + 1, k.2)) ⟨by simp only; omega, hk2, by rw [hk3, hbs]⟩ (by simp only; omega)
    · replace h31 := bF h31
      rw [if_neg (fun e => by have := (cmp_lt _ _).2 e; omega)] at hbs
      refine Rg <| Lv Mv <| Lv Av <| Nl <| Bn ?_
      exact roundA ((k.1, ((k.1 + k.2) / 2))) ⟨by simp only; omega, by simp only; omega, by rw [hk3, hbs]⟩ (by simp only; omega)
  · replace h17 := bF h17
    refine Xt <| Te <| Te <| Bh <| Ps <| Sq <| Rg <| Lv Mv <| Lv Mv <| Lv Mv <| Lv Cm <| Lv Mv ?_
    refine LW.split (d := 39) rfl (fun h39 => ?_) (fun h39 => ?_)
    · replace h39 := bT h39
      obtain ⟨b2, o2, y, hp2, hb2, hx2, hr2⟩ := V.slAt_at h rfl (k := k.1) (by omega)
      refine Lv Mv <| Lv Mv <| Lv Mv <| Lv ((by rw [hp2]; exact Val.indexAddrN (i := k.1) rfl rfl Tryz.underlying128 Tryz.sizeOf133 (by omega))) <| Lv (Val.loadOA rfl Tryz.isAgg133 hb2 (by simp [ids]) (hr2 (k.1) _ hx2) Tryz.sizeOf133) <| Lv Mv <| Le (Eff.callFV (f := 174) (caps := []) rfl rfl Tryz.call174 (fun w hw => find1_c y key w)) fun _ _ => Lv Cm <| LW.re 47 (.bool (decide (y.key = key))) rfl (by congr 1; rw [Bool.eq_iff_iff]; simp [cmp_eq]) <| Lv Pt <| Lv Av <| Lv Av <| Nl <| Ps <| Rt <| Rt2 ?_
      have hpo : posF l key = k.1 := by rw [hk3, show k.2 - k.1 = 0 by omega]; rfl
      have hha : hasF l key = decide (y.key = key) := by unfold hasF; rw [hpo, decide_eq_true (by omega), hx2]; rfl
      rw [hha, hpo]
      intro w' hw; exact ⟨rfl, hw.below⟩
    · replace h39 := bF h39
      refine Lp <| Lp <| Lp <| Lp <| Lp <| Lp <| Lp <| Lp <| Lv Pf <| Lv Av <| Lv Av <| Nl <| Ps <| Rt <| Rt2 ?_
      have hpo : posF l key = k.1 := by rw [hk3, show k.2 - k.1 = 0 by omega]; rfl
      have hha : hasF l key = false := by unfold hasF; rw [decide_eq_false (by omega)]; rfl
      rw [hpo, hha]
      intro w' hw; exact ⟨rfl, hw.below⟩
theorem find_o (l : List Lk) (p : Option Addr) (c : Nat) (key : List UInt8) (hl : l.length ≤ 100000) (w : World) (h : V.slAt w p 5 lkC l) : Calls Tryz.prog 156 [.slice p l.length c, str key].toArray w fun e w' => e = .returned (.tuple #[.int .i64 (posF l key : Nat), .bool (hasF l key)]) ∧ Below w.heap.size w w' := by
  refine V.calls [] Tryz.func156 rfl Tryz.ntmps156 (Nat.le_of_ble_eq_true rfl) (V.sat_nil _) <| Sq <| Rg <| Lv Av <| Lv Av <| Nl <| Ps <| Sq <| Rg <| Lv Mv <| Lv Mv <| Le (CV fun w hw => bsearch_c l p c key hl w (hw.slAt h (by simp [ids]))) fun _ _ => Lv Ex <| Lv Ex <| Lv Av <| Lv Av <| Nl <| Ps <| Rt <| Rt2 ?_
  intro w' hw; exact ⟨rfl, hw.below⟩
/-- A text's sum. -/
def textF (l : List UInt8) : Int := xorI (l.foldl stepB 4294967295) 4294967295
theorem text_c (l : List UInt8) (hl : l.length ≤ 100000) (w : World) : Calls Tryz.prog 172 [str l].toArray w fun e w' => e = .returned (.int .u32 (textF l)) ∧ Below w.heap.size w w' := by
  refine V.calls [] Tryz.func172 rfl Tryz.ntmps172 (Nat.le_of_ble_eq_true rfl) (V.sat_nil _) <| Sq <| Rg <| Lv Av <| Nl <| Ps <| Sq <| Rg <| Lv Av <| Nl <| Ps <| Sq <| Sq <| Rg <| Lv Mv <| Lv LnS <| Lv Mv <| Nl <| Ps <| Bk <| loopA (γ := Nat) (fun j => [(0, str l), (3, .int .u32 ((l.take j).foldl stepB 4294967295)), (6, .int .i64 (l.length : Nat)), (7, .int .i64 (j : Nat))]) (fun _ => []) (fun j => j ≤ l.length) (fun j => l.length - j) (0) (Nat.zero_le _) fun j hj => Sq <| Rg <| Lv Cm <| Nl <| Ps <| Sq ?_
  refine CW.cond rfl (fun h8 => ?_) (fun h8 => ?_)
  · replace h8 := bT h8
    obtain ⟨u, huj⟩ : ∃ u, l[j]? = some u := ⟨l[j]'(by omega), by simp⟩
    refine Sk <| Ps <| Sq <| Bk <| Sq <| Rg <| Lv Mv <| Lv Av <| Nl <| Ps <| Rg <| Lv Mv <| Lv Mv <| Lv Mv <| Lv (Val.indexStr (i := j) rfl rfl Tryz.underlying9 huj) <| Le (CV fun w hw => step_c ((l.take j).foldl stepB 4294967295) u w) fun _ _ => LW.re 14 (.int .u32 ((l.take (j + 1)).foldl stepB 4294967295)) rfl (by rw [fold_take huj]) <| Lv Av <| Nl <| Bn <| Ps <| Rg <| Lv Ar <| Lv Mv <| Nl ?_
    exact roundA (j + 1) (by omega) (by omega)
  · replace h8 := bF h8
    have hte : l.take j = l := List.take_of_length_le (by omega)
    refine Xt <| Te <| Te <| Bh <| Ps <| Sq <| Rg <| Lv Mv <| Lv (Val.xor rfl rfl) <| LW.re 17 (.int .u32 (textF l)) rfl (by rw [hte]; rfl) <| Lv Av <| Nl <| Ps <| Rt <| Rt1 ?_
    intro w' hw; exact ⟨rfl, hw.below⟩
end G
end Go.Proofs.YtcnjjefbnlgdjaaGreat

/- Places of keys; the ordered index: a link set. -/
namespace Go.Proofs.YtcnjjefbnlgdjaaGreat
open Go Go.RowKit V
set_option linter.unusedVariables false
set_option maxRecDepth 100000
namespace G
open V (str byC ownV ownG ownS ownOk)
instance : Cal Tryz.prog 172 := ⟨Tryz.call172⟩
theorem text_rng (l : List UInt8) : 0 ≤ textF l ∧ textF l < 4294967296 := by
  unfold textF xorI
  rw [IntKind.wrap_u32]
  omega
def lvB (s : Int) (k : Nat) : Int := IntKind.u32.wrap (BitVec.ofInt IntKind.u32.bits (s.fdiv (2 ^ (min ((31 : Int) - (k : Nat)).toNat IntKind.u32.bits))) &&& BitVec.ofInt IntKind.u32.bits 1).toNat
/-- How many levels have a key. -/
def levF (key : List UInt8) : Nat := if lvB (textF key) 0 = 0 then 1 else if lvB (textF key) 1 = 0 then 2 else if lvB (textF key) 2 = 0 then 3 else 4
theorem levF_rng (key : List UInt8) : 1 ≤ levF key ∧ levF key ≤ 4 := by unfold levF; split; omega; split; omega; split <;> omega
theorem lev_at {key : List UInt8} {k : Nat} (hk : k < 3) (h : ∀ j : Nat, j < k → lvB (textF key) j ≠ 0) (h0 : lvB (textF key) k = 0) : levF key = 1 + k := by
  unfold levF
  have hc : k = 0 ∨ k = 1 ∨ k = 2 := by omega
  rcases hc with rfl | rfl | rfl
  · rw [if_pos h0]
  · rw [if_neg (h 0 (by omega)), if_pos h0]
  · rw [if_neg (h 0 (by omega)), if_neg (h 1 (by omega)), if_pos h0]
theorem lev_end {key : List UInt8} (h : ∀ j : Nat, j < 3 → lvB (textF key) j ≠ 0) : levF key = 4 := by
  unfold levF
  rw [if_neg (h 0 (by omega)), if_neg (h 1 (by omega)), if_neg (h 2 (by omega))]
/-- A key's bucket. -/
def bkF (key : List UInt8) : Nat := (textF key % 8).toNat
theorem bkF_lt (key : List UInt8) : bkF key < 8 := by unfold bkF; omega
theorem level_c (key : List UInt8) (hl : key.length ≤ 100000) (w : World) : Calls Tryz.prog 155 [str key].toArray w fun e w' => e = .returned (.int .i64 (levF key : Nat)) ∧ Below w.heap.size w w' := by
  refine V.calls [] Tryz.func155 rfl Tryz.ntmps155 (Nat.le_of_ble_eq_true rfl) (V.sat_nil _) <| Sq <| Rg <| Lv Av <| Nl <| Ps <| Sq <| Rg <| Lv Mv <| Le (CV fun w hw => text_c key hl w) fun _ _ => Lv Av <| Nl <| Ps <| Sq <| Rg <| Lv Av <| Nl <| Ps <| Sq <| Sq <| Rg <| Lv Mv <| Nl <| Ps <| Bk <| loopA (γ := Nat) (fun k => [(3, .int .u32 (textF key)), (4, .int .i64 ((1 + k : Nat) : Int)), (8, .int .i64 (k : Nat))]) (fun _ => []) (fun k => k ≤ 3 ∧ ∀ j : Nat, j < k → lvB (textF key) j ≠ 0) (fun k => 3 - k) (0) ⟨by omega, fun j hj => by omega⟩ fun k => ?_
  rintro ⟨hk1, hk2⟩
  refine Sq <| Rg <| Lv Cm <| Nl <| Ps <| Sq ?_
  refine CW.cond rfl (fun h9 => ?_) (fun h9 => ?_)
  · replace h9 := bT h9
    refine Sk <| Ps <| Sq <| Bk <| Sq <| Rg <| Lv Mv <| Lv Av <| Nl <| Ps <| Sq <| Sq <| Rg <| Lv Mv <| Lv Mv <| Lv Ar <| Lv (Val.shr rfl rfl (by omega)) <| Lv (Val.and rfl rfl) <| LW.re 15 (.int .u32 (lvB (textF key) k)) rfl (by rfl) <| Lv Cm <| Nl <| Ps ?_
    refine CW.cond rfl (fun h16 => ?_) (fun h16 => ?_)
    · replace h16 := bT h16
      have h16 : lvB (textF key) k = 0 := h16
      refine Xt <| Te <| Bo <| Te <| Te <| Bh <| Ps <| Sq <| Rg <| Lv Mv <| Lv Av <| Nl <| Ps <| Rt <| Rt1 ?_
      rw [lev_at (by omega) hk2 h16]
      intro w' hw; exact ⟨rfl, hw.below⟩
    · replace h16 := bF h16
      have h16 : lvB (textF key) k ≠ 0 := h16
      refine Sk <| Ps <| Rg <| Lv Mv <| Lv Ar <| LW.re 18 (.int .i64 ((1 + (k + 1) : Nat) : Int)) rfl (by congr 1) <| Lv Av <| Nl <| Bn <| Ps <| Rg <| Lv Ar <| Lv Mv <| Nl ?_
      refine PQ.round (k + 1) ⟨by omega, fun j hj => by
        rcases Nat.lt_or_ge j k with h | h
        · exact hk2 j h
        · have e : j = k := by omega
          rw [e]; exact h16⟩ (by omega) (by repeat (first | exact trivial | refine ⟨rfl, ?_⟩)) (by repeat (first | exact .nil | apply Pick.cons | exact .here | apply Ext.there))
  · replace h9 := bF h9
    refine Xt <| Te <| Te <| Bh <| Ps <| Sq <| Rg <| Lv Mv <| Lv Av <| Nl <| Ps <| Rt <| Rt1 ?_
    have hk9 : k = 3 := by omega
    subst hk9
    rw [lev_end hk2]
    intro w' hw; exact ⟨rfl, hw.below⟩
theorem bucket_c (key : List UInt8) (hl : key.length ≤ 100000) (w : World) : Calls Tryz.prog 171 [str key].toArray w fun e w' => e = .returned (.int .i64 (bkF key : Nat)) ∧ Below w.heap.size w w' := by
  have htr := text_rng key
  refine V.calls [] Tryz.func171 rfl Tryz.ntmps171 (Nat.le_of_ble_eq_true rfl) (V.sat_nil _) <| Sq <| Rg <| Lv Av <| Nl <| Ps <| Sq <| Rg <| Lv Mv <| Le (CV fun w hw => text_c key hl w) fun _ _ => Lv (Val.rem rfl rfl (by omega)) <| Lv Cv <| Lv Av <| Nl <| Ps <| Rt <| Rt1 ?_
  have e8 : IntKind.i64.wrap ((textF key).tmod 8) = ((bkF key : Nat) : Int) := by
    unfold bkF
    rw [Int.tmod_eq_emod_of_nonneg (by omega), IntWalk.i64_in _ (by omega)]
    omega
  intro w' hw; exact ⟨by first | rw [e8] | rw [← e8], hw.below⟩
/-- A list with a link set in it. -/
def setL (l : List Lk) (x : Lk) : List Lk := if hasF l x.key = true then l.set (posF l x.key) x else insL l (posF l x.key) x
theorem setL_len (l : List Lk) (x : Lk) : (setL l x).length ≤ l.length + 1 := by
  unfold setL
  split
  · rw [List.length_set]; omega
  · rw [insL_len _ _ _ (posF_le _ _)]; omega
abbrev LvO := List Lk × V.OwnO
def lvOk (p : LvO) : Prop := ownOk 5 p.1.length (p.1.flatMap lkC) p.2
def lvM (p : LvO) : V.Seg := ownG 133 (p.1.flatMap lkC) p.2
def odC (Lv : List LvO) : List Value := Lv.map fun p => ownV p.1.length p.2
def odM (Lv : List LvO) : V.Seg := Lv.flatMap lvM
/-- The ordered index: its block, its levels. -/
abbrev odS (ob : Nat) (Lv : List LvO) : Sg := [[(ob, .cells (odC Lv).toArray 253 (0, 0))], odM Lv]
def odOk (Lv : List LvO) : Prop := Lv.length = 4 ∧ ∀ p ∈ Lv, lvOk p ∧ p.1.length ≤ 900
theorem odM_at {Lv : List LvO} {i : Nat} {p : LvO} (h : Lv[i]? = some p) : (odM Lv).Perm (lvM p ++ odM (Lv.eraseIdx i)) := by
  obtain ⟨hi, hv⟩ := List.getElem?_eq_some_iff.1 h
  unfold odM
  have e1 : Lv = Lv.take i ++ p :: Lv.drop (i + 1) := by
    have h8 := List.take_append_drop i Lv
    rw [List.drop_eq_getElem_cons hi, hv] at h8
    exact h8.symm
  have e2 : Lv.eraseIdx i = Lv.take i ++ Lv.drop (i + 1) := List.eraseIdx_eq_take_drop_succ ..
  rw [e2]
  conv => lhs; rw [e1]
  simp only [List.flatMap_append, List.flatMap_cons]
  exact List.perm_append_comm_assoc ..
theorem odM_set {Lv : List LvO} {i : Nat} {p q : LvO} (h : Lv[i]? = some p) : (odM (Lv.set i q)).Perm (lvM q ++ odM (Lv.eraseIdx i)) := by
  have hi := (List.getElem?_eq_some_iff.1 h).1
  have h2 := odM_at (Lv := Lv.set i q) (i := i) (p := q) (List.getElem?_set_self hi)
  have e : (Lv.set i q).eraseIdx i = Lv.eraseIdx i := by
    rw [List.eraseIdx_eq_take_drop_succ, List.eraseIdx_eq_take_drop_succ, List.take_set_of_le (by omega), List.drop_set_of_lt (by omega)]
  rw [e] at h2
  exact h2
end G
end Go.Proofs.YtcnjjefbnlgdjaaGreat

/- A small calculus of symbolic states, part 42: as part 40, the operations listed in their own order. No program in sight. -/
namespace Go.Proofs.YtcnjjefbnlgdjaaGreat.V
open Go Go.RowKit
set_option linter.unusedVariables false
section
variable {P : Program} {n : Nat} {B : Base} {Q : Exit → Act → World → Prop} {ks : Ks} {sg : Sg} {ops : Array Oper}
/-- As the last, the operations listed as they come. -/
theorem RW.batchY {S : Sg} {F : Nat} {L : Array Bool} {α : Type} {φ : α → Prop} {v : α → Value} {sg' : α → Sg} (rem : List Nat) (ix dx : Nat) (items : List It) (fu : Nat) (hF : F = fu + (items.length + 1)) (hb : batB ops L rem = true) (hx1 : Nat.blt dx n = true) (hx2 : (ks.all fun y => !(Nat.beq y.1 dx)) = true) (hk1 : (items.all fun x => Nat.blt x.2.1 n) = true) (hk2 : (items.all fun x => (ks.all fun y => !(Nat.beq y.1 x.2.1))) = true) (hR : (rem.isPerm (ix :: items.map (·.1))) = true) (hk3 : (ix :: items.map (·.1)).Nodup) (hk4 : (dx :: items.map (·.2.1)).Nodup)
    (hX : ∃ o, ops[ix]? = some o ∧ gd ops ks o.guard = some true ∧ o.dst = some dx ∧ Eff P n B o ks sg φ v sg') (hop : Bop P n B ops ks sg items) (hop' : ∀ x, φ x → Bop P n B ops ks (sg' x) items) (hS : ∃ r, Pick S sg r) (hS' : ∀ x, φ x → ∃ r, Pick S (sg' x) r)
    (h : ∀ x, φ x → RW P n B ops Q S fu (LS L rem []) (pushAll items ((dx, v x) :: ks)) (sg' x)) : RW P n B ops Q S F L ks sg := by
  subst hF
  have hR := List.isPerm_iff.1 hR
  intro a w ha hw hS0
  obtain ⟨hix, hk3'⟩ := List.nodup_cons.1 hk3
  obtain ⟨hdx, hk4'⟩ := List.nodup_cons.1 hk4
  have key : ∀ k (sub : List Nat), sub.length = k → List.Sublist sub rem → ∀ a w, Fr n ks a → (∀ x ∈ items, x.1 ∉ sub → a.tmps[x.2.1]? = some x.2.2) → (ix ∈ sub → Hp B sg w) → (ix ∉ sub → ∃ x, φ x ∧ a.tmps[dx]? = some (v x) ∧ Hp B (sg' x) w) → Hp B S w →
      wpAnyH P .any ops Q (Hp B S) (fu + k) (LS L rem sub) a w := by
    intro k
    induction k with
    | zero =>
      intro sub hl hs a w ha hd hw1 hw2 hS1
      obtain rfl : sub = [] := List.length_eq_zero_iff.1 hl
      obtain ⟨x, hx, hxa, hxw⟩ := hw2 (by simp)
      refine h x hx a w ⟨ha.defers, ha.size, fun j u hj => ?_⟩ hxw hS1
      rcases look_pushAll hj with ⟨y, hy, rfl, rfl⟩ | hj
      · exact hd y hy (by simp)
      · simp only [look] at hj
        by_cases e : dx = j
        · subst e
          simp at hj
          rw [← hj]; exact hxa
        · rw [nbeq e] at hj
          exact ha.at_ j u hj
    | succ k ih =>
      intro sub hl hs a w ha hd hw1 hw2 hS1
      have hne : sub ≠ [] := by rintro rfl; simp at hl
      have hnd : sub.Nodup := hs.nodup (hR.nodup_iff.2 hk3)
      have hr : Region.ready .any ops (LS L rem sub) = sub := by
        have h1 := List.all_eq_true.1 hb sub (mem_subs hs)
        simp only [Bool.or_eq_true, List.isEmpty_iff, beq_iff_eq] at h1
        exact h1.resolve_left hne
      refine wpAnyH_all hr hne fun i hi => ?_
      have hir := hs.subset hi
      have hlen : (sub.erase i).length = k := by rw [List.length_erase_of_mem hi]; omega
      have hsub : List.Sublist (sub.erase i) rem := (List.erase_sublist ..).trans hs
      by_cases hii : i = ix
      · subst hii
        obtain ⟨o, ho, hg, hdst, he⟩ := hX
        unfold wpOp
        simp only [ho]
        rw [if_pos (wanted_gd ha hg)]
        refine .inl (he a w _ _ ha (hw1 hi) fun x w' hx hw' => ?_)
        obtain ⟨r, hp⟩ := hS' x hx
        refine ⟨hw'.pick hp, ?_⟩
        rw [LS_set hi hir hnd, hdst]
        refine ih (sub.erase i) hlen hsub _ w' (ha.new hx1 hx2) (fun y hy hyn => ?_) (fun h5 => absurd h5 (hnd.not_mem_erase)) (fun _ => ⟨x, hx, ?_, hw'⟩) (hw'.pick hp)
        · have hyi : y.1 ≠ i := by rintro rfl; exact hix (List.mem_map_of_mem (f := fun z : It => z.1) hy)
          have hyd : y.2.1 ≠ dx := by rintro e; exact hdx (e ▸ List.mem_map_of_mem (f := fun z : It => z.2.1) hy)
          show (a.tmps.setIfInBounds dx (v x))[y.2.1]? = some y.2.2
          rw [Array.getElem?_setIfInBounds_ne (Ne.symm hyd)]
          exact hd y hy (fun h5 => hyn ((List.mem_erase_of_ne hyi).2 h5))
        · have hlt : dx < n := by simpa [Nat.blt_eq] using hx1
          show (a.tmps.setIfInBounds dx (v x))[dx]? = some (v x)
          rw [Array.getElem?_setIfInBounds_self_of_lt (by rw [ha.size]; exact hlt)]
      · have hir2 : i ∈ items.map (·.1) := by
          rcases List.mem_cons.1 (hR.mem_iff.1 hir) with h5 | h5
          · exact absurd h5 hii
          · exact h5
        obtain ⟨x, hx, rfl⟩ := List.mem_map.1 hir2
        have hnx : x.2.1 ≠ dx := by rintro e; exact hdx (e ▸ List.mem_map_of_mem (f := fun z : It => z.2.1) hx)
        have h1 : Nat.blt x.2.1 n = true := List.all_eq_true.1 hk1 x hx
        have h2 := List.all_eq_true.1 hk2 x hx
        have rest : ∀ w', ∀ sgx : Sg, Hp B sgx w' → (∃ r, Pick S sgx r) → (ix ∈ sub → Hp B sg w') → (ix ∉ sub → ∃ y, φ y ∧ a.tmps[dx]? = some (v y) ∧ Hp B (sg' y) w') → wpAnyH P .any ops Q (Hp B S) (fu + k) (LS L rem (sub.erase x.1)) (a.put (some x.2.1) x.2.2) w' := fun w' sgx hwx hpx hA hB => by
          obtain ⟨r, hp⟩ := hpx
          refine ih (sub.erase x.1) hlen hsub _ w' (ha.new h1 h2) (fun y hy hyn => ?_) (fun h5 => hA (List.mem_of_mem_erase h5)) (fun h5 => ?_) (hwx.pick hp)
          · by_cases e : y.1 = x.1
            · obtain rfl := inj_fst hk3' hy hx e
              have hlt : y.2.1 < n := by simpa [Nat.blt_eq] using h1
              show (a.tmps.setIfInBounds y.2.1 y.2.2)[y.2.1]? = some y.2.2
              rw [Array.getElem?_setIfInBounds_self_of_lt (by rw [ha.size]; exact hlt)]
            · have hyn2 : y.1 ∉ sub := fun h5 => hyn ((List.mem_erase_of_ne e).2 h5)
              have h6 : y.2.1 ≠ x.2.1 := fun h7 => e (by rw [inj_snd hk4' hy hx h7])
              show (a.tmps.setIfInBounds x.2.1 x.2.2)[y.2.1]? = some y.2.2
              rw [Array.getElem?_setIfInBounds_ne (Ne.symm h6)]
              exact hd y hy hyn2
          · have h6 : ix ∉ sub := fun h7 => h5 ((List.mem_erase_of_ne (Ne.symm hii)).2 h7)
            obtain ⟨y, hy, hya, hyw⟩ := hB h6
            refine ⟨y, hy, ?_, hyw⟩
            show (a.tmps.setIfInBounds x.2.1 x.2.2)[dx]? = some (v y)
            rw [Array.getElem?_setIfInBounds_ne hnx]
            exact hya
        by_cases hin : ix ∈ sub
        · obtain ⟨o, ho, hg, hdst, he⟩ := hop.at hx
          unfold wpOp
          simp only [ho]
          rw [if_pos (wanted_gd ha hg)]
          refine .inl (he a w _ _ ha (hw1 hin) fun _ w' _ hw' => ?_)
          obtain ⟨r, hp⟩ := hS
          refine ⟨hw'.pick hp, ?_⟩
          rw [LS_set hi hir hnd, hdst]
          exact rest w' sg hw' ⟨r, hp⟩ (fun _ => hw') (fun h5 => absurd hin h5)
        · obtain ⟨y, hy, hya, hyw⟩ := hw2 hin
          obtain ⟨o, ho, hg, hdst, he⟩ := (hop' y hy).at hx
          unfold wpOp
          simp only [ho]
          rw [if_pos (wanted_gd ha hg)]
          refine .inl (he a w _ _ ha hyw fun _ w' _ hw' => ?_)
          obtain ⟨r, hp⟩ := hS' y hy
          refine ⟨hw'.pick hp, ?_⟩
          rw [LS_set hi hir hnd, hdst]
          exact rest w' (sg' y) hw' ⟨r, hp⟩ (fun h5 => absurd h5 hin) (fun _ => ⟨y, hy, hya, hw'⟩)
  have h0 := key (items.length + 1) rem (by rw [hR.length_eq]; simp) (List.Sublist.refl _) a w ha (fun x hx hxn => absurd (hR.mem_iff.2 (List.mem_cons_of_mem _ (List.mem_map_of_mem hx))) hxn) (fun _ => hw) (fun h5 => absurd (hR.mem_iff.2 (List.mem_cons_self ..)) h5) hS0
  rwa [LS_self] at h0
end
end Go.Proofs.YtcnjjefbnlgdjaaGreat.V

/- The ordered index: a link set, in each of its levels. -/
namespace Go.Proofs.YtcnjjefbnlgdjaaGreat
open Go Go.RowKit V
set_option linter.unusedVariables false
set_option maxRecDepth 100000
namespace G
open V (str byC ownV ownG ownS ownOk)
instance : Cal Tryz.prog 155 := ⟨Tryz.call155⟩
instance : Cal Tryz.prog 156 := ⟨Tryz.call156⟩
instance : Cal Tryz.prog 157 := ⟨Tryz.call157⟩
theorem odC_at {Lz : List LvO} {i : Nat} {p : LvO} (h : Lz[i]? = some p) : (odC Lz)[0 + i * 1]? = some (ownV p.1.length p.2) := by
  unfold odC
  rw [Nat.zero_add, Nat.mul_one, List.getElem?_map, h]
  rfl
theorem odC_set {Lz : List LvO} {i : Nat} (q : LvO) : (odC Lz).set (0 + i * 1) (ownV q.1.length q.2) = odC (Lz.set i q) := by
  unfold odC
  rw [Nat.zero_add, Nat.mul_one, List.map_set]
/-- The first so many levels set. -/
def setTo (D : List (List Lk)) (x : Lk) (k : Nat) : List (List Lk) := D.mapIdx fun i l => if i < k then setL l x else l
theorem setTo_0 (D : List (List Lk)) (x : Lk) : setTo D x 0 = D := by
  apply List.ext_getElem?
  intro j
  unfold setTo
  rw [List.getElem?_mapIdx]
  cases D[j]? <;> simp
theorem setTo_succ {D : List (List Lk)} {x : Lk} {k : Nat} {l : List Lk} (h : D[k]? = some l) : (setTo D x k).set k (setL l x) = setTo D x (k + 1) := by
  apply List.ext_getElem?
  intro j
  unfold setTo
  rw [List.getElem?_set, List.getElem?_mapIdx, List.getElem?_mapIdx]
  have hk := (List.getElem?_eq_some_iff.1 h).1
  by_cases e : k = j
  · subst e
    rw [if_pos rfl, if_pos (by simpa using hk), h]
    simp
  · rw [if_neg e]
    congr 1
    funext l
    by_cases h1 : j < k
    · rw [if_pos h1, if_pos (by omega)]
    · rw [if_neg h1, if_neg (by omega)]
theorem setTo_at {D : List (List Lk)} {x : Lk} {k : Nat} {l : List Lk} (h : D[k]? = some l) : (setTo D x k)[k]? = some l := by
  unfold setTo
  rw [List.getElem?_mapIdx, h]
  simp
/-- An ordered index with a link set in it. -/
def oset (D : List (List Lk)) (x : Lk) : List (List Lk) := setTo D x (levF x.key)
/-- Was the key there, in the last level that has it? -/
def ohad (D : List (List Lk)) (x : Lk) : Bool := ((D[levF x.key - 1]?).map fun l => hasF l x.key).getD false
theorem odM_perm {Lz : List LvO} {i : Nat} {lp : List Lk} {yp : V.OwnO} (h : Lz[i]? = some (lp, yp)) (a b : V.Seg) : ([a, odM Lz, b] : V.Sg).flatten.Perm ([a, ownG 133 (lp.flatMap lkC) yp, odM (Lz.eraseIdx i), b] : V.Sg).flatten := by
  have h8 := odM_at h
  simp only [List.flatten_cons, List.flatten_nil, List.append_nil, ← List.append_assoc]
  refine List.Perm.append_right _ ?_
  rw [List.append_assoc]
  exact List.Perm.append_left _ h8
theorem odM_perm2 {Lz : List LvO} {i : Nat} {p : LvO} {lp : List Lk} {yp : V.OwnO} (h : Lz[i]? = some p) (a b c : V.Seg) (hc : c = ownG 133 (lp.flatMap lkC) yp) : ([c, a, odM (Lz.eraseIdx i), b] : V.Sg).flatten.Perm ([a, odM (Lz.set i (lp, yp)), b] : V.Sg).flatten := by
  have h8 := odM_set (q := (lp, yp)) h
  subst hc
  simp only [List.flatten_cons, List.flatten_nil, List.append_nil, ← List.append_assoc]
  refine List.Perm.append_right _ <| (List.Perm.append_right _ List.perm_append_comm).trans ?_
  rw [List.append_assoc]
  exact List.Perm.append_left _ h8.symm
theorem odM_perm3 {Lz : List LvO} {i : Nat} {p : LvO} {lp : List Lk} {yp : V.OwnO} (h : Lz[i]? = some p) (a b c : V.Seg) (hc : c = ownG 133 (lp.flatMap lkC) yp) : ([a, c, odM (Lz.eraseIdx i), b] : V.Sg).flatten.Perm ([a, odM (Lz.set i (lp, yp)), b] : V.Sg).flatten := by
  have h8 := odM_set (q := (lp, yp)) h
  subst hc
  simp only [List.flatten_cons, List.flatten_nil, List.append_nil, ← List.append_assoc]
  refine List.Perm.append_right _ ?_
  rw [List.append_assoc]
  exact List.Perm.append_left _ h8.symm
theorem oset_c (ob : Nat) (Lz : List LvO) (x : Lk) (hO : odOk Lz) (hx : x.key.length ≤ 100000) (w : World) (hs : Sat (odS ob Lz) w) : Calls Tryz.prog 121 [.pointer (some ⟨ob, 0, none⟩), .agg (lkC x).toArray].toArray w fun e w' => ∃ Lv2 : List LvO, ((Lv2.map Prod.fst = oset (Lz.map Prod.fst) x) ∧ Lv2.length = 4 ∧ ∀ p ∈ Lv2, lvOk p) ∧ e = .returned (.bool (ohad (Lz.map Prod.fst) x)) ∧ Hp ⟨w, V.ids ((odS ob Lz))⟩ (odS ob Lv2) w' := by
  have hlv := levF_rng x.key
  have hO4 := hO.1
  refine V.calls (odS ob Lz) Tryz.func121 rfl Tryz.ntmps121 (Nat.le_of_ble_eq_true rfl) hs <| Sq <| Rg <| Le XA fun b3 _ => Lv Av <| Nl <| Ps <| Sq <| Sq <| Rg <| Lv Mv <| Lv EP <| Nl <| Ps <| Cf <| Sk <| Ps <| Sq <| Rg <| Lv Av <| Nl <| Ps <| Sq <| Sq <| Rg <| Lv (Fa 0 9) <| Lv (Ld (v := str x.key)) <| Le (CV fun w hw => level_c x.key hx w) fun _ _ => Lv Mv <| Nl <| Ps <| Bk <| loopA (γ := Nat × List LvO × Bool) (fun k => [(0, .pointer (some ⟨ob, 0, none⟩)), (3, .pointer (some ⟨b3, 0, none⟩)), (5, .bool k.2.2), (13, .int .i64 (levF x.key : Nat)), (14, .int .i64 (k.1 : Nat))]) (fun k => [[(ob, .cells (odC k.2.1).toArray 253 (0, 0))], odM k.2.1, [(b3, .cells (lkC x).toArray 133 (0, 0))]]) (fun k => k.1 ≤ levF x.key ∧ k.2.1.map Prod.fst = setTo (Lz.map Prod.fst) x k.1 ∧ k.2.1.length = 4 ∧ (∀ p ∈ k.2.1, lvOk p) ∧ (1 ≤ k.1 → k.2.2 = ((((Lz.map Prod.fst)[k.1 - 1]?).map fun l => hasF l x.key).getD false))) (fun k => levF x.key - k.1) ((0, Lz, false)) ⟨Nat.zero_le _, by rw [setTo_0], hO.1, fun p hp => (hO.2 p hp).1, fun h => absurd h (by simp)⟩ fun k => ?_
  rintro ⟨hk1, hk2, hk3, hk4, hk5⟩
  refine Sq <| Rg <| Lv Cm <| Nl <| Ps <| Sq ?_
  refine CW.cond rfl (fun h15 => ?_) (fun h15 => ?_)
  · replace h15 := bT h15
    refine Sk <| Ps <| Sq <| Bk <| Sq <| Rg <| Lv Mv <| Lv Av <| Nl <| Ps <| Sq ?_
    obtain ⟨p, hp⟩ : ∃ p, k.2.1[k.1]? = some p := ⟨k.2.1[k.1]'(by omega), by simp⟩
    obtain ⟨lp, yp⟩ := p
    have hpk := hk4 _ (List.mem_of_getElem? hp)
    have hD : (Lz.map Prod.fst)[k.1]? = some lp := by
      obtain ⟨l, hl⟩ : ∃ l, (Lz.map Prod.fst)[k.1]? = some l := ⟨(Lz.map Prod.fst)[k.1]'(by rw [List.length_map, hO.1]; omega), List.getElem?_eq_getElem _⟩
      have h8 := setTo_at (x := x) hl
      rw [← hk2, List.getElem?_map, hp] at h8
      rw [hl, ← h8]; rfl
    have hlp : lp.length ≤ 900 := by
      rw [List.getElem?_map, Option.map_eq_some_iff] at hD
      obtain ⟨q, hq, rfl⟩ := hD
      exact (hO.2 q (List.mem_of_getElem? hq)).2
    have hst := setTo_succ (x := x) hD
    obtain ⟨ps, cs, hvs, _, hss⟩ := own_slg (e := 133) lkC_len lp yp hpk
    refine V.CW.perm (sg' := [[(ob, .cells (odC k.2.1).toArray 253 (0, 0))], ownG 133 (lp.flatMap lkC) yp, odM (k.2.1.eraseIdx k.1), [(b3, .cells (lkC x).toArray 133 (0, 0))]]) ?_ (odM_perm hp _ _)
    refine Qt <| Qv Mv <| Qv Mv <| Qv Nz <| Qv (Fa 0 251) <| Qv (Val.indexAddrA (i := k.1) rfl rfl Tryz.underlying251 Tryz.sizeOf128 (by omega)) <| Qv (Ld (v := ownV lp.length yp) (hl := odC_at hp)) <| QW.re 23 (.slice ps lp.length cs) rfl hvs <| Qv (Fa 0 9) <| Qv (Ld (v := str x.key)) <| Qc (QV fun w hw => find_o lp ps cs x.key (by omega) w (hss hw (by repeat (first | exact .nil | apply Pick.cons | exact .here | apply Ext.there)))) <| Qv Mv <| Qv Ex <| Qv Ex <| Qv Av <| Qv Av <| Ql <| Ps <| Sq <| Rg <| Lv Mv <| Lv Av <| Nl <| Ps <| Sq <| Rg <| Lv Mv <| Nl <| Ps ?_
    refine CW.cond rfl (fun h30 => ?_) (fun h30 => ?_)
    · replace h30 := bT h30
      obtain ⟨g, rest, cap, rfl⟩ : ∃ g r c, yp = some (g, r, c) := by
        rcases yp with _ | ⟨g, r, c⟩
        · have h8 : lp.length = 0 := hpk.2
          unfold hasF at h30; rw [Bool.and_eq_true, decide_eq_true_eq] at h30; omega
        · exact ⟨g, r, c, rfl⟩
      have hpl : posF lp x.key < lp.length := by unfold hasF at h30; rw [Bool.and_eq_true, decide_eq_true_eq] at h30; exact h30.1
      obtain ⟨z, hz⟩ : ∃ z, lp[posF lp x.key]? = some z := ⟨lp[posF lp x.key], by simp⟩
      have hsl : setL lp x = lp.set (posF lp x.key) x := by unfold setL; rw [if_pos h30]
      obtain ⟨hc1, hc2⟩ := own_cap hpk
      have hok2 : lvOk (setL lp x, some (g, rest, cap)) := by
        rw [hsl]
        exact ⟨by rw [V.flatMap_len lkC_len], by rw [V.flatMap_len lkC_len, List.length_set]; exact hc2⟩
      have hsg : ([(g, .cells ((lp.set (posF lp x.key) x).flatMap lkC ++ rest).toArray 133 (0, 0))] : V.Seg) = ownG 133 ((setL lp x).flatMap lkC) (some (g, rest, cap)) := by rw [hsl, V.ownG_some]
      have hod : odC k.2.1 = odC (k.2.1.set k.1 (setL lp x, some (g, rest, cap))) := by
        unfold odC
        rw [List.map_set]
        have h8 : (k.2.1.map fun p : LvO => ownV p.1.length p.2)[k.1]? = some (ownV lp.length (some (g, rest, cap))) := by rw [List.getElem?_map, hp]; rfl
        obtain ⟨h9, h7⟩ := List.getElem?_eq_some_iff.1 h8
        rw [show ownV (setL lp x).length (some (g, rest, cap)) = ownV lp.length (some (g, rest, cap)) by rw [hsl, List.length_set], ← h7, List.set_getElem_self]
      refine Dr ([[(ob, .cells (odC k.2.1).toArray 253 (0, 0))], [(b3, .cells (lkC x).toArray 133 (0, 0))]]) <| Rv 0 rfl Mv <| Rv 1 rfl Mv <| Rv 2 rfl Nz <| Rv 3 rfl (Fa 0 251) <| Rv 4 rfl (Val.indexAddrA (i := k.1) rfl rfl Tryz.underlying251 Tryz.sizeOf128 (by omega)) <| Rv 5 rfl (Ld (v := .slice (some ⟨g, 0, none⟩) lp.length cap) (hl := odC_at hp)) <| Rv 6 rfl Mv <| Rv 7 rfl (Lw (l := lkC x)) <| Rv 8 rfl (Val.indexAddrN (i := posF lp x.key) rfl rfl Tryz.underlying128 Tryz.sizeOf133 hpl) <| ReN 9 rfl (Eff.storeA (cs := lkC x) (l := lp.flatMap lkC ++ rest) (l' := (lp.set (posF lp x.key) x).flatMap lkC ++ rest) rfl rfl (by repeat (first | exact .here | exact .inner .here | exact .inner (.inner .here) | apply Upd.there)) (by have h8 := splice_in lkC_len hz 0 (lkC x) (y := x) (by rfl) (by simp [lkC_len]) rest; simpa using h8) (by rw [List.length_append, V.flatMap_len lkC_len]; have := Nat.mul_le_mul_right 5 (show posF lp x.key + 1 ≤ lp.length from hpl); simp [lkC]; omega) Tryz.sizeOf133 (by rfl)) fun _ _ => Rd <| Bn <| Ps <| Rg <| Lv Ar <| Lv Mv <| Nl ?_
      rw [hod]
      refine V.PQ.segs (ss := [[(ob, .cells (odC (k.2.1.set k.1 (setL lp x, some (g, rest, cap)))).toArray 253 (0, 0))], ownG 133 ((setL lp x).flatMap lkC) (some (g, rest, cap)), odM (k.2.1.eraseIdx k.1), [(b3, .cells (lkC x).toArray 133 (0, 0))]]) ?_ (by rw [← hsg]; repeat (first | exact .nil | apply Pick.cons | exact .here | apply Ext.there))
      refine V.PQ.perm (sg' := [[(ob, .cells (odC (k.2.1.set k.1 (setL lp x, some (g, rest, cap)))).toArray 253 (0, 0))], odM (k.2.1.set k.1 (setL lp x, some (g, rest, cap))), [(b3, .cells (lkC x).toArray 133 (0, 0))]]) ?_ (odM_perm3 hp _ _ _ rfl)
      refine PQ.round ((k.1 + 1, k.2.1.set k.1 (setL lp x, some (g, rest, cap)), hasF lp x.key)) ⟨by simp only; omega, by simp only; rw [List.map_set, hk2]; exact hst, by simp only [List.length_set]; exact hk3, fun q hq => by
        rcases List.mem_or_eq_of_mem_set hq with hq | rfl
        · exact hk4 q hq
        · exact hok2, fun _ => by simp only; rw [Nat.add_sub_cancel, hD]; rfl⟩ (by simp only; omega) (by exact ⟨rfl, rfl, rfl, rfl, rfl, trivial⟩) (by repeat (first | exact .nil | apply Pick.cons | exact .here | apply Ext.there))
    · replace h30 := bF h30
      have hsl : setL lp x = insL lp (posF lp x.key) x := by unfold setL; rw [if_neg (by simp [h30])]
      refine Dr ([[(b3, .cells (lkC x).toArray 133 (0, 0))]]) <| Rv 0 rfl Mv <| Rv 1 rfl Mv <| Rv 2 rfl Mv <| Rv 3 rfl Mv <| Rv 4 rfl Nz <| Rv 5 rfl (Fa 0 251) <| Rv 6 rfl (Val.indexAddrA (i := k.1) rfl rfl Tryz.underlying251 Tryz.sizeOf128 (by omega)) <| Rv 8 rfl Mv <| Rv 9 rfl (Lw (l := lkC x)) <| Rv 12 rfl Nz <| Rv 13 rfl (Fa 0 251) <| V.RW.batchY [7, 10] 10 50 [(7, 47, _)] 3 rfl (by kernel_rfl) rfl rfl rfl rfl rfl (by simp) (by simp) ⟨_, rfl, rfl, rfl, Eff.buildSlice (rfl) [_, _, _, _, _] Tryz.underlying128 Tryz.sizeOf133 (by exact Tryz.zeroValue133) rfl rfl rfl rfl (by rfl)⟩ ⟨⟨_, rfl, rfl, rfl, Eff.ofVal (Ld (v := ownV lp.length yp) (hl := odC_at hp))⟩, trivial⟩ (fun _ _ => ⟨⟨_, rfl, rfl, rfl, Eff.ofVal (Ld (v := ownV lp.length yp) (hl := odC_at hp))⟩, trivial⟩) ⟨_, (by repeat (first | exact .nil | apply Pick.cons | exact .here | apply Ext.there))⟩ (fun _ _ => ⟨_, (by repeat (first | exact .nil | apply Pick.cons | exact .here | apply Ext.there))⟩) fun b50 _ => Re 11 rfl (CM ([ownG 133 (lp.flatMap lkC) yp]) fun w hw hs0 => insert_c lp yp (posF lp x.key) x b50 1 w hpk (by omega) (posF_le _ _) hs0 (hw.own _ (show InS (b50, .cells (lkC x).toArray 133 (0, 0)) _ from (by repeat (first | exact .here | exact .inner .here | exact .inner (.inner .here) | refine .there ?_))).mem) (not_in hw (show Pick [ownG 133 (lp.flatMap lkC) yp] _ _ from (by repeat (first | exact .nil | apply Pick.cons | exact .here | apply Ext.there))) (show InS (b50, .cells (lkC x).toArray 133 (0, 0)) _ from (by repeat (first | exact .here | exact .inner .here | exact .inner (.inner .here) | refine .there ?_))))) fun y2 hy2 => ?_
      rw [← hsl] at hy2 ⊢
      have hok2 : lvOk (setL lp x, y2) := hy2
      refine Rv 14 rfl (Val.indexAddrA (i := k.1) rfl rfl Tryz.underlying251 Tryz.sizeOf128 (by omega)) <| ReN 15 rfl (Eff.storeX (v := ownV (setL lp x).length y2) (l := odC k.2.1) (l' := odC (k.2.1.set k.1 (setL lp x, y2))) rfl rfl (V.ownV_one _ _) (by repeat (first | exact .here | exact .inner .here | exact .inner (.inner .here) | apply Upd.there)) (odC_set (setL lp x, y2)) (by unfold odC; rw [List.length_map]; omega) Tryz.sizeOf128) fun _ _ => Rd <| Bn <| Ps <| Rg <| Lv Ar <| Lv Mv <| Nl ?_
      refine V.PQ.segs (ss := [[(ob, .cells (odC (k.2.1.set k.1 (setL lp x, y2))).toArray 253 (0, 0))], ownG 133 ((setL lp x).flatMap lkC) y2, odM (k.2.1.eraseIdx k.1), [(b3, .cells (lkC x).toArray 133 (0, 0))]]) ?_ (by repeat (first | exact .nil | apply Pick.cons | exact .here | apply Ext.there))
      refine V.PQ.perm (sg' := [[(ob, .cells (odC (k.2.1.set k.1 (setL lp x, y2))).toArray 253 (0, 0))], odM (k.2.1.set k.1 (setL lp x, y2)), [(b3, .cells (lkC x).toArray 133 (0, 0))]]) ?_ (odM_perm3 hp _ _ _ rfl)
      refine PQ.round ((k.1 + 1, k.2.1.set k.1 (setL lp x, y2), hasF lp x.key)) ⟨by simp only; omega, by simp only; rw [List.map_set, hk2]; exact hst, by simp only [List.length_set]; exact hk3, fun q hq => by
        rcases List.mem_or_eq_of_mem_set hq with hq | rfl
        · exact hk4 q hq
        · exact hok2, fun _ => by simp only; rw [Nat.add_sub_cancel, hD]; rfl⟩ (by simp only; omega) (by exact ⟨rfl, rfl, rfl, rfl, rfl, trivial⟩) (by repeat (first | exact .nil | apply Pick.cons | exact .here | apply Ext.there))
  · replace h15 := bF h15
    refine Xt <| Te <| Te <| Bh <| Ps <| Sq <| Rg <| Lv Mv <| Lv Av <| Nl <| Ps <| Rt <| Rt1 ?_
    have hk9 : k.1 = levF x.key := by omega
    have hfin : k.2.1.map Prod.fst = oset (Lz.map Prod.fst) x := by unfold oset; rw [hk2, hk9]
    have hhd : k.2.2 = ohad (Lz.map Prod.fst) x := by unfold ohad; rw [← hk9]; exact hk5 (by omega)
    rw [← hhd]
    intro w' hw; exact ⟨k.2.1, ⟨hfin, hk3, hk4⟩, rfl, hw.pick (by repeat (first | exact .nil | apply Pick.cons | exact .here | apply Ext.there))⟩
end G
end Go.Proofs.YtcnjjefbnlgdjaaGreat

/- The table by text: made; a link set. -/
namespace Go.Proofs.YtcnjjefbnlgdjaaGreat
open Go Go.RowKit V
set_option linter.unusedVariables false
set_option maxRecDepth 100000
namespace G
open V (str byC ownV ownG ownS ownOk)
instance : Cal Tryz.prog 154 := ⟨Tryz.call154⟩
instance : Cal Tryz.prog 171 := ⟨Tryz.call171⟩
theorem onew_c (w : World) : Calls Tryz.prog 151 [].toArray w fun e w' => ∃ b : Nat, True ∧ e = .returned (.pointer (some ⟨b, 0, none⟩)) ∧ Hp ⟨w, []⟩ (odS b (List.replicate 4 ([], none))) w' := by
  refine V.calls [] Tryz.func151 rfl Tryz.ntmps151 (Nat.le_of_ble_eq_true rfl) (V.sat_nil _) <| Sq <| Rg <| Lv Av <| Nl <| Ps <| Sq <| Rg <| Lv (Bd [_, _, _, _]) <| Le XA fun b2 _ => Lv Av <| Nl <| Ps <| Rt <| Rt1 ?_
  intro w' hw; exact ⟨b2, trivial, rfl, hw.perm (.refl _)⟩
theorem od0_ok : odOk (List.replicate 4 ([], none)) := by
  refine ⟨rfl, fun p hp => ?_⟩
  obtain rfl := List.eq_of_mem_replicate hp
  exact ⟨⟨rfl, rfl⟩, by simp⟩
/-! ### A bucket: links, by keys -/
def byK (k : List UInt8) : ByteArray := ⟨k.toArray⟩
theorem byK_inj {a b : List UInt8} : byK a = byK b ↔ a = b := by
  unfold byK
  constructor
  · intro h
    injection h with h
    simpa using congrArg Array.toList h
  · rintro rfl; rfl
abbrev LE := List (Nat × Lk)
def lkW (x : Lk) : Value := .agg (lkC x).toArray
def me (E : LE) : ME := E.map fun e => (e.1, byK e.2.key, lkW e.2)
def lget (E : LE) (k : List UInt8) : Option Lk := (E.find? fun e => decide (e.2.key = k)).map (·.2)
def lupd (E : LE) (x : Lk) : LE := match E with
  | [] => []
  | e :: r => if e.2.key = x.key then (e.1, x) :: r else e :: lupd r x
def lput (E : LE) (x : Lk) (c : Nat) : LE := if (lget E x.key).isSome then lupd E x else E ++ [(c, x)]
def lclk (E : LE) (k : List UInt8) (c : Nat) : Nat := if (lget E k).isSome then c else c + 1
theorem lget_cons (e : Nat × Lk) (r : LE) (k : List UInt8) : lget (e :: r) k = if e.2.key = k then some e.2 else lget r k := by
  unfold lget
  by_cases h : e.2.key = k
  · rw [if_pos h, List.find?_cons_of_pos (by simpa using h)]; rfl
  · rw [if_neg h, List.find?_cons_of_neg (by simpa using h)]
theorem mget_me (k : List UInt8) : ∀ E : LE, mget (me E) (byK k) = (lget E k).map lkW
  | [] => rfl
  | e :: r => by
    have h8 := mget_me k r
    rw [lget_cons]
    show (if byK e.2.key = byK k then some (lkW e.2) else mget (me r) (byK k)) = _
    by_cases h : e.2.key = k
    · rw [if_pos h, if_pos (by rw [h])]; rfl
    · rw [if_neg h, if_neg (fun h9 => h (byK_inj.1 h9)), h8]
theorem mupd_me (x : Lk) : ∀ E : LE, mupd (me E) (byK x.key) (lkW x) = me (lupd E x)
  | [] => rfl
  | e :: r => by
    have h8 := mupd_me x r
    show (if byK e.2.key = byK x.key then (e.1, byK x.key, lkW x) :: me r else (e.1, byK e.2.key, lkW e.2) :: mupd (me r) (byK x.key) (lkW x)) = me (if e.2.key = x.key then (e.1, x) :: r else e :: lupd r x)
    by_cases h : e.2.key = x.key
    · rw [if_pos (by rw [h]), if_pos h]; rfl
    · rw [if_neg (fun h9 => h (byK_inj.1 h9)), if_neg h, h8]; rfl
theorem mput_me (E : LE) (x : Lk) (c : Nat) : mput (me E) (byK x.key) (lkW x) c = me (lput E x c) := by
  unfold mput lput
  rw [mget_me, mupd_me]
  cases h : lget E x.key with
  | none => simp [me]
  | some y => simp
theorem mclk_me (E : LE) (k : List UInt8) (c : Nat) : mclk (me E) (byK k) c = lclk E k c := by
  unfold mclk lclk
  rw [mget_me]
  cases lget E k <;> rfl
/-! ### A table: eight blocks, eight buckets -/
abbrev Tbl := List (LE × Nat)
def tbC (ms : List Nat) : List Value := ms.map fun m => .map (some m)
def tbM (ms : List Nat) (Tz : Tbl) : V.Seg := List.zipWith (fun m p => (m, mpO (me p.1) p.2)) ms Tz
abbrev tbS (tb : Nat) (ms : List Nat) (Tz : Tbl) : Sg := [[(tb, .cells (tbC ms).toArray 172 (0, 0))], tbM ms Tz]
def tbOk (ms : List Nat) (Tz : Tbl) : Prop := ms.length = 8 ∧ Tz.length = 8
def tb0 : Tbl := List.replicate 8 ([], 0)
def tSet (Tz : Tbl) (x : Lk) : Tbl := match Tz[bkF x.key]? with
  | none => Tz
  | some p => Tz.set (bkF x.key) (lput p.1 x p.2, lclk p.1 x.key p.2)
def tGet (Tz : Tbl) (k : List UInt8) : Option Lk := (Tz[bkF k]?).bind fun p => lget p.1 k
theorem tbC_at {ms : List Nat} {i m : Nat} (h : ms[i]? = some m) : (tbC ms)[0 + i * 1]? = some (.map (some m)) := by
  unfold tbC
  rw [Nat.zero_add, Nat.mul_one, List.getElem?_map, h]
  rfl
theorem tbM_at {ms : List Nat} {Tz : Tbl} {i m : Nat} {p : LE × Nat} (h : ms[i]? = some m) (h2 : Tz[i]? = some p) : (tbM ms Tz)[i]? = some (m, mpO (me p.1) p.2) := by
  unfold tbM
  rw [List.getElem?_zipWith, h, h2]
theorem tbM_set {ms : List Nat} {Tz : Tbl} {i m : Nat} (p : LE × Nat) (h : ms[i]? = some m) : (tbM ms Tz).set i (m, mpO (me p.1) p.2) = tbM ms (Tz.set i p) := by
  unfold tbM
  apply List.ext_getElem?
  intro j
  rw [List.getElem?_set, List.getElem?_zipWith, List.getElem?_zipWith, List.getElem?_set]
  by_cases e : i = j
  · subst e
    rw [if_pos rfl, if_pos rfl, h, List.length_zipWith]
    have hi := (List.getElem?_eq_some_iff.1 h).1
    by_cases h3 : i < Tz.length
    · rw [if_pos (by omega), if_pos h3]
    · rw [if_neg (by omega), if_neg h3]
  · rw [if_neg e, if_neg e]
theorem tSet_len (Tz : Tbl) (x : Lk) : (tSet Tz x).length = Tz.length := by
  unfold tSet
  split
  · rfl
  · rw [List.length_set]
theorem tnew_c (w : World) : Calls Tryz.prog 150 [].toArray w fun e w' => ∃ p : Nat × List Nat, p.2.length = 8 ∧ e = .returned (.pointer (some ⟨p.1, 0, none⟩)) ∧ Hp ⟨w, []⟩ (tbS p.1 p.2 tb0) w' := by
  refine V.calls [] Tryz.func150 rfl Tryz.ntmps150 (Nat.le_of_ble_eq_true rfl) (V.sat_nil _) <| Sq <| Rg <| Lv Av <| Nl <| Ps <| Sq <| Rg <| Lv (Bd [_, _, _, _, _, _, _, _]) <| Le XA fun b4 _ => Lv Av <| Nl <| Ps <| Sq <| Sq <| Rg <| Lv Mv <| Nl <| Ps <| Bk <| CW.loopU 8 <| Sq <| Rg <| Lv Cm <| Nl <| Ps <| Sq <| Ct <| Sk <| Ps <| Sq <| Bk <| Sq <| Rg <| Lv Mv <| Lv Av <| Nl <| Ps <| Rg <| Lv Mv <| Lv Mv <| Le (Eff.makeMap) fun b10_0 _ => Lv Nz <| Lv (Fa 0 170) <| Lv (Val.indexAddrA (i := 0) rfl rfl Tryz.underlying170 Tryz.sizeOf169 (by decide)) <| LeN StS fun _ _ => Nl <| Bn <| Ps <| Rg <| Lv Ar <| Lv Mv <| Nl <| PQ.next <| Sq <| Rg <| Lv Cm <| Nl <| Ps <| Sq <| Ct <| Sk <| Ps <| Sq <| Bk <| Sq <| Rg <| Lv Mv <| Lv Av <| Nl <| Ps <| Rg <| Lv Mv <| Lv Mv <| Le (Eff.makeMap) fun b10_1 _ => Lv Nz <| Lv (Fa 0 170) <| Lv (Val.indexAddrA (i := 1) rfl rfl Tryz.underlying170 Tryz.sizeOf169 (by decide)) <| LeN StS fun _ _ => Nl <| Bn <| Ps <| Rg <| Lv Ar <| Lv Mv <| Nl <| PQ.next <| Sq <| Rg <| Lv Cm <| Nl <| Ps <| Sq <| Ct <| Sk <| Ps <| Sq <| Bk <| Sq <| Rg <| Lv Mv <| Lv Av <| Nl <| Ps <| Rg <| Lv Mv <| Lv Mv <| Le (Eff.makeMap) fun b10_2 _ => Lv Nz <| Lv (Fa 0 170) <| Lv (Val.indexAddrA (i := 2) rfl rfl Tryz.underlying170 Tryz.sizeOf169 (by decide)) <| LeN StS fun _ _ => Nl <| Bn <| Ps <| Rg <| Lv Ar <| Lv Mv <| Nl <| PQ.next <| Sq <| Rg <| Lv Cm <| Nl <| Ps <| Sq <| Ct <| Sk <| Ps <| Sq <| Bk <| Sq <| Rg <| Lv Mv <| Lv Av <| Nl <| Ps <| Rg <| Lv Mv <| Lv Mv <| Le (Eff.makeMap) fun b10_3 _ => Lv Nz <| Lv (Fa 0 170) <| Lv (Val.indexAddrA (i := 3) rfl rfl Tryz.underlying170 Tryz.sizeOf169 (by decide)) <| LeN StS fun _ _ => Nl <| Bn <| Ps <| Rg <| Lv Ar <| Lv Mv <| Nl <| PQ.next <| Sq <| Rg <| Lv Cm <| Nl <| Ps <| Sq <| Ct <| Sk <| Ps <| Sq <| Bk <| Sq <| Rg <| Lv Mv <| Lv Av <| Nl <| Ps <| Rg <| Lv Mv <| Lv Mv <| Le (Eff.makeMap) fun b10_4 _ => Lv Nz <| Lv (Fa 0 170) <| Lv (Val.indexAddrA (i := 4) rfl rfl Tryz.underlying170 Tryz.sizeOf169 (by decide)) <| LeN StS fun _ _ => Nl <| Bn <| Ps <| Rg <| Lv Ar <| Lv Mv <| Nl <| PQ.next <| Sq <| Rg <| Lv Cm <| Nl <| Ps <| Sq <| Ct <| Sk <| Ps <| Sq <| Bk <| Sq <| Rg <| Lv Mv <| Lv Av <| Nl <| Ps <| Rg <| Lv Mv <| Lv Mv <| Le (Eff.makeMap) fun b10_5 _ => Lv Nz <| Lv (Fa 0 170) <| Lv (Val.indexAddrA (i := 5) rfl rfl Tryz.underlying170 Tryz.sizeOf169 (by decide)) <| LeN StS fun _ _ => Nl <| Bn <| Ps <| Rg <| Lv Ar <| Lv Mv <| Nl <| PQ.next <| Sq <| Rg <| Lv Cm <| Nl <| Ps <| Sq <| Ct <| Sk <| Ps <| Sq <| Bk <| Sq <| Rg <| Lv Mv <| Lv Av <| Nl <| Ps <| Rg <| Lv Mv <| Lv Mv <| Le (Eff.makeMap) ?_
  intro b10_6 _
  refine Lv Nz <| Lv (Fa 0 170) <| Lv (Val.indexAddrA (i := 6) rfl rfl Tryz.underlying170 Tryz.sizeOf169 (by decide)) <| LeN StS fun _ _ => Nl <| Bn <| Ps <| Rg <| Lv Ar <| Lv Mv <| Nl <| PQ.next <| Sq <| Rg <| Lv Cm <| Nl <| Ps <| Sq <| Ct <| Sk <| Ps <| Sq <| Bk <| Sq <| Rg <| Lv Mv <| Lv Av <| Nl <| Ps <| Rg <| Lv Mv <| Lv Mv <| Le (Eff.makeMap) fun b10_7 _ => Lv Nz <| Lv (Fa 0 170) <| Lv (Val.indexAddrA (i := 7) rfl rfl Tryz.underlying170 Tryz.sizeOf169 (by decide)) <| LeN StS fun _ _ => Nl <| Bn <| Ps <| Rg <| Lv Ar <| Lv Mv <| Nl <| PQ.next <| Sq <| Rg <| Lv Cm <| Nl <| Ps <| Sq <| Cf <| Xt <| Te <| Te <| Bh <| Ps <| Sq <| Rg <| Lv Mv <| Lv Av <| Nl <| Ps <| Rt <| Rt1 ?_
  intro w' hw; exact ⟨(b4, [b10_0, b10_1, b10_2, b10_3, b10_4, b10_5, b10_6, b10_7]), rfl, rfl, (hw.pick (ss := [[(b4, .cells [.map (some b10_0), .map (some b10_1), .map (some b10_2), .map (some b10_3), .map (some b10_4), .map (some b10_5), .map (some b10_6), .map (some b10_7)].toArray 172 (0, 0))], [(b10_0, mpO [] 0)], [(b10_1, mpO [] 0)], [(b10_2, mpO [] 0)], [(b10_3, mpO [] 0)], [(b10_4, mpO [] 0)], [(b10_5, mpO [] 0)], [(b10_6, mpO [] 0)], [(b10_7, mpO [] 0)]]) (by repeat (first | exact .nil | apply Pick.cons | exact .here | apply Ext.there))).perm (.refl _)⟩
theorem of_c3 (tb : Nat) (ms : List Nat) (Tz : Tbl) (hT : tbOk ms Tz) (key : List UInt8) (hl : key.length ≤ 100000) (m : Nat) (hm : ms[bkF key]? = some m) (w : World) (hs : Sat (tbS tb ms Tz) w) : Calls Tryz.prog 154 [.pointer (some ⟨tb, 0, none⟩), str key].toArray w fun e w' => e = .returned (.map (some m)) ∧ Below w.heap.size w w' := by
  have hbk := bkF_lt key
  refine V.calls (tbS tb ms Tz) Tryz.func154 rfl Tryz.ntmps154 (Nat.le_of_ble_eq_true rfl) hs <| Sq <| Rg <| Lv Av <| Nl <| Ps <| Sq <| Sq <| Rg <| Lv Mv <| Lv EP <| Nl <| Ps <| Cf <| Sk <| Ps <| Sq <| Qt <| Qv Mv <| Qv Mv <| Qc (QV fun w hw => bucket_c key hl w) <| Qv Nz <| Qv (Fa 0 170) <| Qv (Val.indexAddrA (i := bkF key) rfl rfl Tryz.underlying170 Tryz.sizeOf169 (by omega)) <| Qv (Ld (v := .map (some m)) (hl := tbC_at hm)) <| Qv Av <| Ql <| Ps <| Rt <| Rt1 ?_
  intro w' hw; exact ⟨rfl, hw.ro (by repeat (first | exact .nil | apply Pick.cons | exact .here | apply Ext.there)) hs⟩
theorem tset_c (tb : Nat) (ms : List Nat) (Tz : Tbl) (hT : tbOk ms Tz) (x : Lk) (hl : x.key.length ≤ 100000) (w : World) (hs : Sat (tbS tb ms Tz) w) : Calls Tryz.prog 120 [.pointer (some ⟨tb, 0, none⟩), .agg (lkC x).toArray].toArray w fun e w' => ∃ _u : Unit, True ∧ e = .returned (.bool (tGet Tz x.key).isSome) ∧ Hp ⟨w, V.ids (tbS tb ms Tz)⟩ (tbS tb ms (tSet Tz x)) w' := by
  have hbk := bkF_lt x.key
  obtain ⟨m, hm⟩ : ∃ m, ms[bkF x.key]? = some m := ⟨ms[bkF x.key]'(by rw [hT.1]; omega), by simp⟩
  obtain ⟨p, hp⟩ : ∃ p, Tz[bkF x.key]? = some p := ⟨Tz[bkF x.key]'(by rw [hT.2]; omega), by simp⟩
  have hg : tGet Tz x.key = lget p.1 x.key := by unfold tGet; rw [hp]; rfl
  refine V.calls (tbS tb ms Tz) Tryz.func120 rfl Tryz.ntmps120 (Nat.le_of_ble_eq_true rfl) hs <| Sq <| Rg <| Le XA fun b3 _ => Lv Av <| Nl <| Ps <| Sq <| Rg <| Lv Mv <| Lv (Fa 0 9) <| Lv (Ld (v := str x.key)) <| Le (CV fun w hw => of_c3 tb ms Tz hT x.key hl m hm w (hw.sat.pick (ss := tbS tb ms Tz) (by repeat (first | exact .nil | apply Pick.cons | exact .here | apply Ext.there)))) fun _ _ => Lv Av <| Nl <| Ps <| Sq <| Sq <| Rg <| Lv Mv <| Lv (Val.eqM rfl rfl Tryz.underlying169) <| Nl <| Ps <| Cf <| Sk <| Ps <| Sq <| Rg <| Lv Mv <| Lv (Fa 0 9) <| Lv (Ld (v := str x.key)) <| Lv (Val.lookup rfl rfl Tryz.underlying169 Tryz.underlying9 Tryz.zeroValue133 (by repeat (first | exact InS.nth (tbM_at hm hp) | refine .there ?_))) <| LW.re 18 (.tuple [lkW ((tGet Tz x.key).getD lk0), .bool (tGet Tz x.key).isSome].toArray) rfl (by rw [hg]; show Value.tuple [(mget (me p.1) (byK x.key)).getD _, .bool (mget (me p.1) (byK x.key)).isSome].toArray = _; rw [mget_me]; cases lget p.1 x.key <;> rfl) <| Lv Mv <| Lv Ex <| Lv Ex <| Le AA fun b6 _ => LeN StW fun _ _ => Lv Av <| Nl <| Ps <| Sq <| Rg <| Lv Mv <| Lv (Fa 0 9) <| Lv (Ld (v := str x.key)) <| Lv (Lw (l := lkC x)) <| LeN (Eff.mapUpdate rfl rfl rfl Tryz.underlying169 Tryz.underlying9 (by repeat (first | exact Upd.nth (tbM_at hm hp) | apply Upd.there))) fun _ _ => Nl <| Ps <| Sq <| Rg <| Lv Mv <| Lv Av <| Nl <| Ps <| Rt <| Rt1 ?_
  have e8 : (tbM ms Tz).set (bkF x.key) (m, mpO (mput (me p.1) (byK x.key) (.agg (lkC x).toArray) p.2) (mclk (me p.1) (byK x.key) p.2)) = tbM ms (tSet Tz x) := by
    rw [show (Value.agg (lkC x).toArray) = lkW x from rfl, mput_me, mclk_me]
    unfold tSet
    rw [hp]
    exact tbM_set (lput p.1 x p.2, lclk p.1 x.key p.2) hm
  intro w' hw
  refine ⟨(), trivial, rfl, ?_⟩
  have h9 := hw.pick (ss := [[(tb, .cells (tbC ms).toArray 172 (0, 0))], (tbM ms Tz).set (bkF x.key) (m, mpO (mput (me p.1) (byK x.key) (.agg (lkC x).toArray) p.2) (mclk (me p.1) (byK x.key) p.2))]) (by repeat (first | exact .nil | apply Pick.cons | exact .here | apply Ext.there))
  rw [e8] at h9
  exact h9
end G
end Go.Proofs.YtcnjjefbnlgdjaaGreat

/- Stable sorts in plain words. -/
namespace Go.Proofs.YtcnjjefbnlgdjaaGreat
open Go Go.RowKit V
set_option linter.unusedVariables false
set_option maxRecDepth 100000
namespace G
open V (str byC ownV ownG ownS ownOk)
namespace Stb
section
variable {α : Type} (key : α → Int)
def Up (l : List α) : Prop := l.Pairwise fun a b => key a ≤ key b
def Sta (l l' : List α) : Prop := l'.length = l.length ∧ ∀ k : Int, l'.filter (fun x => key x == k) = l.filter (fun x => key x == k)
variable {key}
theorem Sta.refl (l : List α) : Sta key l l := ⟨rfl, fun _ => rfl⟩
theorem Sta.trans {a b c : List α} (h : Sta key a b) (h' : Sta key b c) : Sta key a c := ⟨h'.1.trans h.1, fun k => (h'.2 k).trans (h.2 k)⟩
theorem Sta.app {a a' b b' : List α} (h : Sta key a a') (h' : Sta key b b') : Sta key (a ++ b) (a' ++ b') := ⟨by simp [h.1, h'.1], fun k => by rw [List.filter_append, List.filter_append, h.2, h'.2]⟩
theorem Sta.mem {a a' : List α} (h : Sta key a a') (x : α) : x ∈ a' ↔ x ∈ a := by
  have h1 := h.2 (key x)
  constructor
  · intro hx
    have : x ∈ a'.filter (fun y => key y == key x) := List.mem_filter.2 ⟨hx, by simp⟩
    rw [h1] at this
    exact (List.mem_filter.1 this).1
  · intro hx
    have : x ∈ a.filter (fun y => key y == key x) := List.mem_filter.2 ⟨hx, by simp⟩
    rw [← h1] at this
    exact (List.mem_filter.1 this).1
theorem Sta.swap {u v : List α} (h : ∀ x ∈ u, ∀ y ∈ v, key y < key x) : Sta key (u ++ v) (v ++ u) := ⟨by simp [Nat.add_comm], fun k => by
  rw [List.filter_append, List.filter_append]
  by_cases hu : ∃ x ∈ u, key x = k
  · obtain ⟨x, hx, rfl⟩ := hu
    have : v.filter (fun y => key y == key x) = [] := List.filter_eq_nil_iff.2 fun y hy e => by
      have := h x hx y hy
      simp at e; omega
    rw [this]; simp
  · have : u.filter (fun y => key y == k) = [] := List.filter_eq_nil_iff.2 fun y hy e => hu ⟨y, hy, by simpa using e⟩
    rw [this]; simp⟩
theorem Up.app {a b : List α} (ha : Up key a) (hb : Up key b) (h : ∀ x ∈ a, ∀ y ∈ b, key x ≤ key y) : Up key (a ++ b) := List.pairwise_append.2 ⟨ha, hb, h⟩
theorem Up.of_app {a b : List α} (h : Up key (a ++ b)) : Up key a ∧ Up key b ∧ ∀ x ∈ a, ∀ y ∈ b, key x ≤ key y := List.pairwise_append.1 h
theorem up_nil : Up key ([] : List α) := List.Pairwise.nil
theorem up_one (x : α) : Up key [x] := by simp [Up]
theorem Up.get {l : List α} (h : Up key l) {i j : Nat} {x y : α} (hx : l[i]? = some x) (hy : l[j]? = some y) (hij : i ≤ j) : key x ≤ key y := by
  rcases Nat.lt_or_ge i j with h1 | h1
  · obtain ⟨hi, rfl⟩ := List.getElem?_eq_some_iff.1 hx
    obtain ⟨hj, rfl⟩ := List.getElem?_eq_some_iff.1 hy
    exact List.pairwise_iff_getElem.1 h i j hi hj h1
  · obtain rfl : i = j := by omega
    rw [hx] at hy; cases hy; exact Int.le_refl _
theorem mem_take {l : List α} {i : Nat} {y : α} (h : y ∈ l.take i) : ∃ j, j < i ∧ l[j]? = some y := by
  obtain ⟨j, hj⟩ := List.getElem?_of_mem h
  rw [List.getElem?_take] at hj
  split at hj
  · exact ⟨j, by assumption, hj⟩
  · cases hj
theorem mem_drop {l : List α} {i : Nat} {y : α} (h : y ∈ l.drop i) : ∃ j, i ≤ j ∧ l[j]? = some y := by
  obtain ⟨j, hj⟩ := List.getElem?_of_mem h
  rw [List.getElem?_drop] at hj
  exact ⟨i + j, by omega, hj⟩
/-- The elements' places. -/
theorem at_app (p : List α) (u : α) (q : List α) (i : Nat) (hi : i = p.length) : (p ++ u :: q)[i]? = some u := by subst hi; simp
theorem swp (p : List α) (u : α) (z : List α) (v : α) (q : List α) (i j : Nat) (hi : i = p.length) (hj : j = p.length + 1 + z.length) : ((p ++ u :: (z ++ v :: q)).set i v).set j u = p ++ v :: (z ++ u :: q) := by
  subst hi; subst hj
  rw [List.set_append_right _ _ (by omega), Nat.sub_self, List.set_cons_zero, List.set_append_right _ _ (by omega)]
  have : p.length + 1 + z.length - p.length = z.length + 1 := by omega
  rw [this, List.set_cons_succ, List.set_append_right _ _ (by omega), Nat.sub_self, List.set_cons_zero]
theorem swp' (p : List α) (u : α) (z : List α) (v : α) (q : List α) (i j : Nat) (hi : i = p.length) (hj : j = p.length + 1 + z.length) : ((p ++ u :: (z ++ v :: q)).set j u).set i v = p ++ v :: (z ++ u :: q) := by
  rw [List.set_comm _ _ (by omega)]; exact swp p u z v q i j hi hj
theorem take_snoc {l : List α} {i : Nat} {x : α} (h : l[i]? = some x) : l.take (i + 1) = l.take i ++ [x] := by rw [List.take_add_one, h]; rfl
theorem drop_cons {l : List α} {i : Nat} {x : α} (h : l[i]? = some x) : l.drop i = x :: l.drop (i + 1) := by
  obtain ⟨hi, rfl⟩ := List.getElem?_eq_some_iff.1 h
  exact List.drop_eq_getElem_cons hi
/-- x goes into a sorted list, ahead of the greater ones, behind all others. -/
theorem ins_sta (l : List α) (t : Nat) (x : α) (h : ∀ y ∈ l.drop t, key x < key y) : Sta key (l ++ [x]) (l.take t ++ x :: l.drop t) := by
  have h1 : Sta key (l.take t ++ (l.drop t ++ [x])) (l.take t ++ ([x] ++ l.drop t)) := (Sta.refl _).app (Sta.swap (fun y hy z hz => by rw [List.mem_singleton] at hz; subst hz; exact h y hy))
  rw [← List.append_assoc, List.take_append_drop] at h1
  simpa using h1
theorem ins_up {l : List α} (hl : Up key l) (t : Nat) (x : α) (h : ∀ y ∈ l.drop t, key x ≤ key y) (h' : ∀ y ∈ l.take t, key y ≤ key x) : Up key (l.take t ++ x :: l.drop t) := by
  have h0 := hl
  rw [← List.take_append_drop t l] at h0
  obtain ⟨a, b, c⟩ := h0.of_app
  refine a.app (List.pairwise_cons.2 ⟨h, b⟩) fun y hy z hz => ?_
  rcases List.mem_cons.1 hz with rfl | hz
  · exact h' y hy
  · exact c y hy z hz
/-- x stands ahead of a sorted list, and goes behind the lesser ones. -/
theorem ins_sta' (l : List α) (t : Nat) (x : α) (h : ∀ y ∈ l.take t, key y < key x) : Sta key ([x] ++ l) (l.take t ++ x :: l.drop t) := by
  have h1 : Sta key (([x] ++ l.take t) ++ l.drop t) ((l.take t ++ [x]) ++ l.drop t) := (Sta.swap (fun y hy z hz => by rw [List.mem_singleton] at hy; subst hy; exact h z hz)).app (Sta.refl _)
  rw [List.append_assoc, List.take_append_drop] at h1
  simpa using h1
/-- Two sorted lists of the same elements, equal keys in one order, are one. -/
theorem sta_uniq : ∀ {a b : List α}, Sta key a b → Up key a → Up key b → a = b
  | [], b, h, _, _ => by have := h.1; simp at this; exact this.symm
  | x :: a, b, h, ha, hb => by
    cases b with
    | nil => have := h.1; simp at this
    | cons y b =>
      have hk : key x = key y := by
        have hy : y ∈ x :: a := (h.mem y).1 (by simp)
        have hx : x ∈ y :: b := (h.mem x).2 (by simp)
        have h1 : key x ≤ key y := by
          rcases List.mem_cons.1 hy with e | e
          · rw [e]; exact Int.le_refl _
          · exact (List.pairwise_cons.1 ha).1 y e
        have h2 : key y ≤ key x := by
          rcases List.mem_cons.1 hx with e | e
          · rw [e]; exact Int.le_refl _
          · exact (List.pairwise_cons.1 hb).1 x e
        omega
      have h3 := h.2 (key x)
      rw [List.filter_cons_of_pos (by simp [hk]), List.filter_cons_of_pos (by simp)] at h3
      obtain ⟨rfl, _⟩ := List.cons.inj h3
      have h4 : Sta key a b := ⟨by have := h.1; simpa using this, fun k => by
        have h5 := h.2 k
        by_cases e : key y = k
        · rw [List.filter_cons_of_pos (by simp [e]), List.filter_cons_of_pos (by simp [e])] at h5
          exact (List.cons.inj h5).2
        · rw [List.filter_cons_of_neg (by simp [e]), List.filter_cons_of_neg (by simp [e])] at h5
          exact h5⟩
      rw [sta_uniq h4 (List.pairwise_cons.1 ha).2 (List.pairwise_cons.1 hb).2]
/-- Sorted pieces of length z, and a shorter one behind them. -/
def Bl (key : α → Int) (z : Nat) (l : List α) : Prop := ∃ (cs : List (List α)) (t : List α), l = cs.flatten ++ t ∧ (∀ c ∈ cs, Up key c ∧ c.length = z) ∧ Up key t ∧ t.length < z
theorem Bl.whole {z : Nat} {l : List α} (h : Bl key z l) (hz : l.length ≤ z) (h0 : 0 < z) : Up key l := by
  obtain ⟨cs, t, rfl, hc, ht, hl⟩ := h
  match cs, hc with
  | [], _ => simpa using ht
  | [c], hc =>
    have h1 := (hc c (by simp)).2
    simp at hz
    have : t = [] := List.length_eq_zero_iff.1 (by omega)
    subst this
    simpa using (hc c (by simp)).1
  | c :: d :: cs, hc =>
    have h1 := (hc c (by simp)).2
    have h2 := (hc d (by simp)).2
    simp at hz
    omega
/-- The middle of a merge: what the search has found. -/
theorem sym_core {X A B Y : List α} (hA : Up key A) (hB : Up key B) {a m b s n lo hi mid : Nat} (ha : X.length = a) (hm : a + A.length = m) (hb : m + B.length = b) (hmid : mid = (a + b) / 2) (hn : n = mid + m)
    (hlo : lo = if mid < m then n - b else a) (hhi : hi = if mid < m then mid else m) (h1 : lo ≤ s) (h2 : s ≤ hi)
    (hl : s = lo ∨ ∃ u v, (X ++ (A ++ (B ++ Y)))[s - 1]? = some u ∧ (X ++ (A ++ (B ++ Y)))[n - s]? = some v ∧ key u ≤ key v)
    (hr : s = hi ∨ ∃ u v, (X ++ (A ++ (B ++ Y)))[s]? = some u ∧ (X ++ (A ++ (B ++ Y)))[n - 1 - s]? = some v ∧ key v < key u) :
    ∃ A1 A2 B1 B2 : List α, A = A1 ++ A2 ∧ B = B1 ++ B2 ∧ s = a + A1.length ∧ n - s = m + B1.length ∧ s ≤ n ∧ mid = a + A1.length + B1.length ∧ (∀ x ∈ A2, ∀ y ∈ B1, key y < key x) ∧ (∀ x ∈ A1, ∀ y ∈ B2, key x ≤ key y) := by
  subst ha; subst hm; subst hb
  have hb1 : X.length ≤ s ∧ s ≤ X.length + A.length ∧ s ≤ n ∧ X.length + A.length ≤ n - s ∧ n - s ≤ X.length + A.length + B.length := by
    split at hlo <;> split at hhi <;> omega
  obtain ⟨g1, g2, g3, g4, g5⟩ := hb1
  have getA : ∀ i u, X.length ≤ i → i < X.length + A.length → (X ++ (A ++ (B ++ Y)))[i]? = some u → A[i - X.length]? = some u := fun i u p q h => by
    rw [List.getElem?_append_right (by omega), List.getElem?_append_left (by omega)] at h
    exact h
  have getB : ∀ i u, X.length + A.length ≤ i → i < X.length + A.length + B.length → (X ++ (A ++ (B ++ Y)))[i]? = some u → B[i - (X.length + A.length)]? = some u := fun i u p q h => by
    rw [List.getElem?_append_right (by omega), List.getElem?_append_right (by omega), List.getElem?_append_left (by omega), Nat.sub_sub] at h
    exact h
  refine ⟨A.take (s - X.length), A.drop (s - X.length), B.take (n - s - (X.length + A.length)), B.drop (n - s - (X.length + A.length)), by simp, by simp, by simp; omega, by simp; omega, g3, by simp; omega, fun x hx y hy => ?_, fun x hx y hy => ?_⟩
  · obtain ⟨i, hi1, hi2⟩ := mem_drop hx
    obtain ⟨j, hj1, hj2⟩ := mem_take hy
    rcases hr with hr | ⟨u, v, hu, hv, huv⟩
    · have li := (List.getElem?_eq_some_iff.1 hi2).1
      have lj := (List.getElem?_eq_some_iff.1 hj2).1
      split at hhi <;> omega
    · have li := (List.getElem?_eq_some_iff.1 hi2).1
      have hu' := getA s u g1 (by omega) hu
      have hv' := getB (n - 1 - s) v (by omega) (by omega) hv
      have e1 := hA.get hu' hi2 (by omega)
      have e2 := hB.get hj2 hv' (by omega)
      omega
  · obtain ⟨i, hi1, hi2⟩ := mem_take hx
    obtain ⟨j, hj1, hj2⟩ := mem_drop hy
    rcases hl with hl | ⟨u, v, hu, hv, huv⟩
    · have li := (List.getElem?_eq_some_iff.1 hi2).1
      have lj := (List.getElem?_eq_some_iff.1 hj2).1
      split at hlo <;> omega
    · have lj := (List.getElem?_eq_some_iff.1 hj2).1
      have hu' := getA (s - 1) u (by omega) (by omega) hu
      have hv' := getB (n - s) v (by omega) (by omega) hv
      have e1 := hA.get hi2 hu' (by omega)
      have e2 := hB.get hv' hj2 (by omega)
      omega
theorem sym_fin {A1 A2 B1 B2 M1 M2 : List α} (hA : Up key (A1 ++ A2)) (hB : Up key (B1 ++ B2)) (h1 : ∀ x ∈ A2, ∀ y ∈ B1, key y < key x) (h2 : ∀ x ∈ A1, ∀ y ∈ B2, key x ≤ key y) (hM1 : Sta key (A1 ++ B1) M1 ∧ Up key M1) (hM2 : Sta key (A2 ++ B2) M2 ∧ Up key M2) :
    Sta key ((A1 ++ A2) ++ (B1 ++ B2)) (M1 ++ M2) ∧ Up key (M1 ++ M2) := by
  constructor
  · have e1 : Sta key (A1 ++ ((A2 ++ B1) ++ B2)) (A1 ++ ((B1 ++ A2) ++ B2)) := (Sta.refl _).app ((Sta.swap h1).app (Sta.refl _))
    have e2 := hM1.1.app hM2.1
    simp only [List.append_assoc] at e1 e2 ⊢
    exact e1.trans e2
  · refine hM1.2.app hM2.2 fun x hx y hy => ?_
    have hx' := (hM1.1.mem x).1 hx
    have hy' := (hM2.1.mem y).1 hy
    rcases List.mem_append.1 hx' with hx | hx <;> rcases List.mem_append.1 hy' with hy | hy
    · exact hA.of_app.2.2 x hx y hy
    · exact h2 x hx y hy
    · exact Int.le_of_lt (h1 y hy x hx)
    · exact hB.of_app.2.2 x hx y hy
end
end Stb
end G
end Go.Proofs.YtcnjjefbnlgdjaaGreat

/- The stable sort of links: insertion sort, swaps of ranges, rotation. -/
namespace Go.Proofs.YtcnjjefbnlgdjaaGreat
open Go Go.RowKit V
set_option linter.unusedVariables false
set_option maxRecDepth 100000
namespace G
open V (str byC ownV ownG ownS ownOk)
instance : Cal Tryz.prog 194 := ⟨Tryz.call194⟩
namespace Stb
def cmpE (a b : Int) : Int := if a < b then -1 else if b < a then 1 else 0
theorem cmpE_lt {a b : Int} : cmpE a b < 0 ↔ a < b := by unfold cmpE; (repeat' split) <;> omega
theorem cmpE_ge {a b : Int} : 0 ≤ cmpE a b ↔ b ≤ a := by have := @cmpE_lt a b; omega
theorem byVer_c (a b : Lk) (w : World) : Calls Tryz.prog 125 [.agg (lkC a).toArray, .agg (lkC b).toArray].toArray w fun e w' => e = .returned (.int .i64 (cmpE a.ver b.ver)) ∧ Below w.heap.size w w' := by
  refine V.calls [] Tryz.func125 rfl Tryz.ntmps125 (Nat.le_of_ble_eq_true rfl) (V.sat_nil _) <| Sq <| Rg <| Le XA fun b2 _ => Le XA fun b3 _ => Lv Av <| Nl <| Ps <| Sq <| Sq <| Rg <| Lv (Fa 2 22) <| Lv (Ld (v := .int .u64 a.ver)) <| Lv (Fa 2 22) <| Lv (Ld (v := .int .u64 b.ver)) <| Lv Cm <| Nl <| Ps ?_
  refine CW.cond rfl (fun h9 => ?_) (fun h9 => ?_)
  · replace h9 := bT h9
    refine Sq <| Rg <| Lv Av <| Nl <| Ps <| Rt <| Tr <| Rt1 ?_
    intro w' hw; exact ⟨by rw [show cmpE a.ver b.ver = -1 from if_pos h9], hw.below⟩
  · replace h9 := bF h9
    refine Sk <| Ps <| Sq <| Sq <| Rg <| Lv (Fa 2 22) <| Lv (Ld (v := .int .u64 a.ver)) <| Lv (Fa 2 22) <| Lv (Ld (v := .int .u64 b.ver)) <| Lv Cm <| Nl <| Ps ?_
    refine CW.cond rfl (fun h14 => ?_) (fun h14 => ?_)
    · replace h14 := bT h14
      refine Sq <| Rg <| Lv Av <| Nl <| Ps <| Rt <| Tr <| Rt1 ?_
      intro w' hw; exact ⟨by rw [show cmpE a.ver b.ver = 1 from (if_neg (by omega)).trans (if_pos (by omega))], hw.below⟩
    · replace h14 := bF h14
      refine Sk <| Ps <| Sq <| Rg <| Lv Av <| Nl <| Ps <| Rt <| Rt1 ?_
      intro w' hw; exact ⟨by rw [show cmpE a.ver b.ver = 0 from (if_neg (by omega)).trans (if_neg (by omega))], hw.below⟩
theorem ins_c (g cap n a b : Nat) (rest : List Value) (X M Y : List Lk) (hn : (X ++ (M ++ Y)).length = n) (ha : X.length = a) (hb : a + M.length = b) (hm : n ≤ 100000) (w : World) (hs : Sat [[(g, .cells ((X ++ (M ++ Y)).flatMap lkC ++ rest).toArray 133 (0, 0))]] w) : Calls Tryz.prog 131 [.slice (some ⟨g, 0, none⟩) n cap, .int .i64 (a : Nat), .int .i64 (b : Nat), .func (.func 125) #[] #[]].toArray w fun e w' => ∃ M' : List Lk, (Sta Lk.ver M M' ∧ Up Lk.ver M') ∧ e = .returned (.tuple #[]) ∧ Hp ⟨w, [g]⟩ [[(g, .cells ((X ++ (M' ++ Y)).flatMap lkC ++ rest).toArray 133 (0, 0))]] w' := by
  have hlen : X.length + (M.length + Y.length) = n := by simpa using hn
  refine V.calls [[(g, .cells ((X ++ (M ++ Y)).flatMap lkC ++ rest).toArray 133 (0, 0))]] Tryz.func131 rfl Tryz.ntmps131 (Nat.le_of_ble_eq_true rfl) hs <| Sq <| Rg <| Lv Mv <| Lv Ar <| Lv Av <| Nl <| Ps <| Bk ?_
  rw [show X ++ (M ++ Y) = X ++ ((M.take 1 ++ M.drop 1) ++ Y) from by rw [List.take_append_drop]]
  refine loopA (γ := Nat × List Lk) (fun k => [(0, .slice (some ⟨g, 0, none⟩) n cap), (1, .int .i64 (a : Nat)), (2, .int .i64 (b : Nat)), (3, .func (.func 125) #[] #[]), (8, .int .i64 ((a + k.1 : Nat) : Int))]) (fun k => [[(g, .cells ((X ++ ((k.2 ++ M.drop k.1) ++ Y)).flatMap lkC ++ rest).toArray 133 (0, 0))]]) (fun k => Sta Lk.ver (M.take k.1) k.2 ∧ Up Lk.ver k.2 ∧ (1 ≤ k.1 ∧ (k.1 ≤ M.length ∨ k.1 = 1))) (fun k => n + 1 - k.1) ((1, M.take 1)) ⟨Sta.refl _, by cases M <;> simp [Up], Nat.le_refl _, .inr rfl⟩ fun k => ?_
  rintro ⟨hS1, hM1, hk1, hk2⟩
  refine Sq <| Sq <| Rg <| Lv Mv <| Lv Mv <| Lv Cm <| Nl <| Ps ?_
  refine CW.cond rfl (fun h14 => ?_) (fun h14 => ?_)
  · replace h14 := bT h14
    refine Sk <| Ps <| Sq <| Bk <| Sq <| Rg <| Lv Mv <| Lv Av <| Nl <| Ps <| Bk ?_
    have hkM : k.1 < M.length := by omega
    obtain ⟨x, hx⟩ : ∃ x, M[k.1]? = some x := ⟨M[k.1], by simp⟩
    have hl1 : k.2.length = k.1 := by rw [hS1.1, List.length_take]; omega
    rw [show X ++ ((k.2 ++ M.drop k.1) ++ Y) = X ++ ((k.2.take (k.1) ++ x :: k.2.drop (k.1)) ++ (M.drop (k.1 + 1) ++ Y)) from by rw [(List.take_of_length_le (by omega) : k.2.take k.1 = k.2), (List.drop_eq_nil_iff.2 (by omega) : k.2.drop k.1 = []), drop_cons hx]; simp]
    refine loopA (γ := Nat) (fun t => [(0, .slice (some ⟨g, 0, none⟩) n cap), (1, .int .i64 (a : Nat)), (2, .int .i64 (b : Nat)), (3, .func (.func 125) #[] #[]), (8, .int .i64 ((a + k.1 : Nat) : Int)), (9, .int .i64 ((a + t : Nat) : Int))]) (fun t => [[(g, .cells ((X ++ ((k.2.take (t) ++ x :: k.2.drop (t)) ++ (M.drop (k.1 + 1) ++ Y))).flatMap lkC ++ rest).toArray 133 (0, 0))]]) (fun t => t ≤ k.1 ∧ ∀ y ∈ k.2.drop t, x.ver < y.ver) (fun t => t) (k.1) ⟨Nat.le_refl _, fun y hy => by rw [List.drop_eq_nil_iff.2 (by omega)] at hy; cases hy⟩ fun t => ?_
    rintro ⟨ht1, ht2⟩
    refine Sq <| Sq <| Qt <| Qv Mv <| Qv Mv <| Qv Cm <| Qv Mv ?_
    refine QW.split (d := 21) rfl (fun h21 => ?_) (fun h21 => ?_)
    · replace h21 := bT h21
      obtain ⟨u, hu⟩ : ∃ u, k.2[t - 1]? = some u := ⟨k.2[t - 1]'(by omega), by simp⟩
      have hc : X ++ ((k.2.take (t) ++ x :: k.2.drop (t)) ++ (M.drop (k.1 + 1) ++ Y)) = (X ++ k.2.take (t - 1)) ++ u :: ([] ++ x :: (k.2.drop t ++ (M.drop (k.1 + 1) ++ Y))) := by
        have e := take_snoc hu
        rw [show t - 1 + 1 = t by omega] at e
        rw [e]; simp
      have h1 : (X ++ ((k.2.take (t) ++ x :: k.2.drop (t)) ++ (M.drop (k.1 + 1) ++ Y)))[a + t]? = some x := by
        rw [hc, show (X ++ k.2.take (t - 1)) ++ u :: ([] ++ x :: (k.2.drop t ++ (M.drop (k.1 + 1) ++ Y))) = (X ++ k.2.take (t - 1) ++ [u]) ++ x :: (k.2.drop t ++ (M.drop (k.1 + 1) ++ Y)) from by simp]
        exact at_app _ _ _ _ (by simp; omega)
      have h2 : (X ++ ((k.2.take (t) ++ x :: k.2.drop (t)) ++ (M.drop (k.1 + 1) ++ Y)))[a + t - 1]? = some u := by rw [hc]; exact at_app _ _ _ _ (by simp; omega)
      have hsw : ((X ++ ((k.2.take (t) ++ x :: k.2.drop (t)) ++ (M.drop (k.1 + 1) ++ Y))).set (a + t) u).set (a + t - 1) x = X ++ ((k.2.take (t - 1) ++ x :: k.2.drop (t - 1)) ++ (M.drop (k.1 + 1) ++ Y)) := by
        rw [hc, swp' _ _ _ _ _ _ _ (by simp; omega) (by simp; omega)]
        have e := drop_cons hu
        rw [show t - 1 + 1 = t by omega] at e
        rw [e]; simp
      have hll : (X ++ ((k.2.take (t) ++ x :: k.2.drop (t)) ++ (M.drop (k.1 + 1) ++ Y))).length = n := by simp; omega
      refine Qv Mv <| Qv Mv <| Qv Mv <| Qv Ix <| Qv (Val.loadFl (enc := lkC) rfl Tryz.isAgg133 (by repeat (first | exact .here | exact .inner .here | exact .inner (.inner .here) | refine .there ?_)) lkC_len h1 Tryz.sizeOf133) <| Qv Mv <| Qv Mv <| Qv Ar <| QW.re 29 (.int .i64 ((a + t - 1 : Nat) : Int)) rfl (by congr 1; omega) <| Qv Ix <| Qv (Val.loadFl (enc := lkC) rfl Tryz.isAgg133 (by repeat (first | exact .here | exact .inner .here | exact .inner (.inner .here) | refine .there ?_)) lkC_len h2 Tryz.sizeOf133) <| Qc (Qcall.ofF (f := 125) (caps := []) rfl rfl Tryz.call125 (fun w hw => byVer_c x u w)) <| Qv Cm <| Qv Pt <| Ql <| Ps ?_
      refine CW.cond rfl (fun h34 => ?_) (fun h34 => ?_)
      · replace h34 := bT h34
        refine Sk <| Ps <| Sq <| Bk <| Dr ([]) <| Rv 0 rfl Mv <| Rv 1 rfl Mv <| Rv 2 rfl Mv <| Rv 3 rfl Mv <| Rv 4 rfl Ar <| RW.re 41 (.int .i64 ((a + t - 1 : Nat) : Int)) rfl (by congr 1; omega) <| Rv 5 rfl Mv <| Rv 6 rfl Mv <| Rv 7 rfl Ar <| RW.re 44 (.int .i64 ((a + t - 1 : Nat) : Int)) rfl (by congr 1; omega) <| Rv 8 rfl Ix <| Rv 10 rfl Mv <| Rv 11 rfl Mv <| Rv 12 rfl Ix <| RW.any [9, 13] (by kernel_rfl) (by simp) fun i hi => ?_
        simp only [List.mem_cons, List.not_mem_nil, or_false] at hi
        rcases hi with rfl | rfl
        · refine Ro rfl (Eff.ofVal (Val.loadFl (enc := lkC) rfl Tryz.isAgg133 (by repeat (first | exact .here | exact .inner .here | exact .inner (.inner .here) | refine .there ?_)) lkC_len h2 Tryz.sizeOf133)) fun _ _ => Re 13 rfl (Eff.ofVal (Val.loadFl (enc := lkC) rfl Tryz.isAgg133 (by repeat (first | exact .here | exact .inner .here | exact .inner (.inner .here) | refine .there ?_)) lkC_len h1 Tryz.sizeOf133)) fun _ _ => Rv 14 rfl Ix <| ReN 15 rfl (Eff.storeFl (enc := lkC) (sz := 5) rfl rfl (by repeat (first | exact .here | exact .inner .here | exact .inner (.inner .here) | apply Upd.there)) lkC_len (by first | omega | (simp only [List.length_set]; omega)) Tryz.sizeOf133 lkC_one) fun _ _ => Rv 16 rfl Ix <| ReN 17 rfl (Eff.storeFl (enc := lkC) (sz := 5) rfl rfl (by repeat (first | exact .here | exact .inner .here | exact .inner (.inner .here) | apply Upd.there)) lkC_len (by first | omega | (simp only [List.length_set]; omega)) Tryz.sizeOf133 lkC_one) fun _ _ => Rd <| Bn <| Ps <| Rg <| Lv Mv <| Lv Ar <| LW.re 36 (.int .i64 ((a + (t - 1) : Nat) : Int)) rfl (by congr 1; omega) <| Lv Av <| Nl ?_
          rw [hsw]
          refine PQ.round (t - 1) ⟨by omega, fun y hy => by
            rw [drop_cons hu, show t - 1 + 1 = t by omega] at hy
            rcases List.mem_cons.1 hy with rfl | hy
            · exact cmpE_lt.1 h34
            · exact ht2 y hy⟩ (by omega) (by repeat (first | exact trivial | refine ⟨rfl, ?_⟩)) (by repeat (first | exact .nil | apply Pick.cons | exact .here | apply Ext.there))
        · refine Ro rfl (Eff.ofVal (Val.loadFl (enc := lkC) rfl Tryz.isAgg133 (by repeat (first | exact .here | exact .inner .here | exact .inner (.inner .here) | refine .there ?_)) lkC_len h1 Tryz.sizeOf133)) fun _ _ => Re 9 rfl (Eff.ofVal (Val.loadFl (enc := lkC) rfl Tryz.isAgg133 (by repeat (first | exact .here | exact .inner .here | exact .inner (.inner .here) | refine .there ?_)) lkC_len h2 Tryz.sizeOf133)) fun _ _ => Rv 14 rfl Ix <| ReN 15 rfl (Eff.storeFl (enc := lkC) (sz := 5) rfl rfl (by repeat (first | exact .here | exact .inner .here | exact .inner (.inner .here) | apply Upd.there)) lkC_len (by first | omega | (simp only [List.length_set]; omega)) Tryz.sizeOf133 lkC_one) fun _ _ => Rv 16 rfl Ix <| ReN 17 rfl (Eff.storeFl (enc := lkC) (sz := 5) rfl rfl (by repeat (first | exact .here | exact .inner .here | exact .inner (.inner .here) | apply Upd.there)) lkC_len (by first | omega | (simp only [List.length_set]; omega)) Tryz.sizeOf133 lkC_one) fun _ _ => Rd <| Bn <| Ps <| Rg <| Lv Mv <| Lv Ar <| LW.re 36 (.int .i64 ((a + (t - 1) : Nat) : Int)) rfl (by congr 1; omega) <| Lv Av <| Nl ?_
          rw [hsw]
          refine PQ.round (t - 1) ⟨by omega, fun y hy => by
            rw [drop_cons hu, show t - 1 + 1 = t by omega] at hy
            rcases List.mem_cons.1 hy with rfl | hy
            · exact cmpE_lt.1 h34
            · exact ht2 y hy⟩ (by omega) (by repeat (first | exact trivial | refine ⟨rfl, ?_⟩)) (by repeat (first | exact .nil | apply Pick.cons | exact .here | apply Ext.there))
      · replace h34 := bF h34
        refine Xt <| Te <| Te <| Bh <| Bn <| Ps <| Rg <| Lv Mv <| Lv Ar <| Lv Av <| Nl ?_
        have hup : Up Lk.ver (k.2.take t ++ x :: k.2.drop t) := ins_up hM1 t x (fun y hy => by have := ht2 y hy; omega) (fun y hy => by
          obtain ⟨j, hj1, hj2⟩ := mem_take hy
          have := hM1.get hj2 hu (by omega)
          have := cmpE_ge.1 h34
          omega)
        rw [show X ++ ((k.2.take (t) ++ x :: k.2.drop (t)) ++ (M.drop (k.1 + 1) ++ Y)) = X ++ (((k.2.take t ++ x :: k.2.drop t) ++ M.drop (k.1 + 1)) ++ Y) from by simp]
        exact roundA ((k.1 + 1, k.2.take t ++ x :: k.2.drop t)) ⟨by simp only; rw [take_snoc hx]; exact (hS1.app (Sta.refl [x])).trans (ins_sta k.2 t x ht2), hup, by simp only; omega⟩ (by simp only; omega)
    · replace h21 := bF h21
      refine Qp <| Qp <| Qp <| Qp <| Qp <| Qp <| Qp <| Qp <| Qp <| Qp <| Qp <| Qp <| Qv Pf <| Ql <| Ps <| Cf <| Xt <| Te <| Te <| Bh <| Bn <| Ps <| Rg <| Lv Mv <| Lv Ar <| Lv Av <| Nl ?_
      have hup : Up Lk.ver (k.2.take t ++ x :: k.2.drop t) := ins_up hM1 t x (fun y hy => by have := ht2 y hy; omega) (fun y hy => by
        obtain rfl : t = 0 := by omega
        simp at hy)
      rw [show X ++ ((k.2.take (t) ++ x :: k.2.drop (t)) ++ (M.drop (k.1 + 1) ++ Y)) = X ++ (((k.2.take t ++ x :: k.2.drop t) ++ M.drop (k.1 + 1)) ++ Y) from by simp]
      exact roundA ((k.1 + 1, k.2.take t ++ x :: k.2.drop t)) ⟨by simp only; rw [take_snoc hx]; exact (hS1.app (Sta.refl [x])).trans (ins_sta k.2 t x ht2), hup, by simp only; omega⟩ (by simp only; omega)
  · replace h14 := bF h14
    refine Xt <| Te <| Te <| Bh <| PQ.end0 rfl fun w' hw => ?_
    refine ⟨k.2, ⟨?_, hM1⟩, rfl, ?_⟩
    · have := hS1; rwa [List.take_of_length_le (by omega)] at this
    · rw [show X ++ ((k.2 ++ M.drop k.1) ++ Y) = X ++ (k.2 ++ Y) from by rw [List.drop_eq_nil_iff.2 (by omega)]; simp] at hw
      exact hw
theorem swr_c (g cap n a b m : Nat) (rest : List Value) (X U Z Rr Y L L' : List Lk) (hL : L = X ++ (U ++ (Z ++ (Rr ++ Y)))) (hL' : X ++ (Rr ++ (Z ++ (U ++ Y))) = L') (hn : L.length = n) (ha : X.length = a) (hb : a + U.length + Z.length = b) (hU : U.length = m) (hV : Rr.length = m) (hm : n ≤ 100000) (w : World) (hs : Sat [[(g, .cells ((L).flatMap lkC ++ rest).toArray 133 (0, 0))]] w) : Calls Tryz.prog 194 [.slice (some ⟨g, 0, none⟩) n cap, .int .i64 (a : Nat), .int .i64 (b : Nat), .int .i64 (m : Nat), .func (.func 125) #[] #[]].toArray w fun e w' => ∃ _u : Unit, True ∧ e = .returned (.tuple #[]) ∧ Hp ⟨w, [g]⟩ [[(g, .cells ((L').flatMap lkC ++ rest).toArray 133 (0, 0))]] w' := by
  subst hL
  have hlen : X.length + (U.length + (Z.length + (Rr.length + Y.length))) = n := by simpa using hn
  refine V.calls [[(g, .cells ((X ++ (U ++ (Z ++ (Rr ++ Y)))).flatMap lkC ++ rest).toArray 133 (0, 0))]] Tryz.func194 rfl Tryz.ntmps194 (Nat.le_of_ble_eq_true rfl) hs <| Sq <| Rg <| Lv Av <| Nl <| Ps <| Bk ?_
  rw [show X ++ (U ++ (Z ++ (Rr ++ Y))) = X ++ ((Rr.take (0) ++ U.drop (0)) ++ (Z ++ ((U.take (0) ++ Rr.drop (0)) ++ Y))) from by simp]
  refine loopA (γ := Nat) (fun t => [(0, .slice (some ⟨g, 0, none⟩) n cap), (1, .int .i64 (a : Nat)), (2, .int .i64 (b : Nat)), (3, .int .i64 (m : Nat)), (10, .int .i64 (t : Nat))]) (fun t => [[(g, .cells ((X ++ ((Rr.take (t) ++ U.drop (t)) ++ (Z ++ ((U.take (t) ++ Rr.drop (t)) ++ Y)))).flatMap lkC ++ rest).toArray 133 (0, 0))]]) (fun t => t ≤ m) (fun t => m - t) (0) (Nat.zero_le _) fun t ht => Sq <| Sq <| Rg <| Lv Mv <| Lv Mv <| Lv Cm <| Nl <| Ps ?_
  refine CW.cond rfl (fun h13 => ?_) (fun h13 => ?_)
  · replace h13 := bT h13
    obtain ⟨u, hu⟩ : ∃ u, U[t]? = some u := ⟨U[t]'(by omega), by simp⟩
    obtain ⟨v, hv⟩ : ∃ v, Rr[t]? = some v := ⟨Rr[t]'(by omega), by simp⟩
    have hc : X ++ ((Rr.take (t) ++ U.drop (t)) ++ (Z ++ ((U.take (t) ++ Rr.drop (t)) ++ Y))) = (X ++ Rr.take t) ++ u :: ((U.drop (t + 1) ++ (Z ++ U.take t)) ++ v :: (Rr.drop (t + 1) ++ Y)) := by rw [drop_cons hu, drop_cons hv]; simp
    have h1 : (X ++ ((Rr.take (t) ++ U.drop (t)) ++ (Z ++ ((U.take (t) ++ Rr.drop (t)) ++ Y))))[a + t]? = some u := by rw [hc]; exact at_app _ _ _ _ (by simp; omega)
    have h2 : (X ++ ((Rr.take (t) ++ U.drop (t)) ++ (Z ++ ((U.take (t) ++ Rr.drop (t)) ++ Y))))[b + t]? = some v := by
      rw [hc, show (X ++ Rr.take t) ++ u :: ((U.drop (t + 1) ++ (Z ++ U.take t)) ++ v :: (Rr.drop (t + 1) ++ Y)) = (X ++ Rr.take t ++ u :: (U.drop (t + 1) ++ (Z ++ U.take t))) ++ v :: (Rr.drop (t + 1) ++ Y) from by simp]
      exact at_app _ _ _ _ (by simp; omega)
    have hsw : ((X ++ ((Rr.take (t) ++ U.drop (t)) ++ (Z ++ ((U.take (t) ++ Rr.drop (t)) ++ Y)))).set (a + t) v).set (b + t) u = X ++ ((Rr.take (t + 1) ++ U.drop (t + 1)) ++ (Z ++ ((U.take (t + 1) ++ Rr.drop (t + 1)) ++ Y))) := by
      rw [hc, swp _ _ _ _ _ _ _ (by simp; omega) (by simp; omega), take_snoc hu, take_snoc hv]; simp
    have hll : (X ++ ((Rr.take (t) ++ U.drop (t)) ++ (Z ++ ((U.take (t) ++ Rr.drop (t)) ++ Y)))).length = n := by simp; omega
    refine Sk <| Ps <| Sq <| Bk <| Dr ([]) <| Rv 0 rfl Mv <| Rv 1 rfl Mv <| Rv 2 rfl Mv <| Rv 3 rfl Ar <| RW.re 19 (.int .i64 ((a + t : Nat) : Int)) rfl (by congr 1) <| Rv 4 rfl Mv <| Rv 5 rfl Mv <| Rv 6 rfl Mv <| Rv 7 rfl Ar <| RW.re 23 (.int .i64 ((b + t : Nat) : Int)) rfl (by congr 1) <| Rv 8 rfl Mv <| Rv 9 rfl Mv <| Rv 10 rfl Mv <| Rv 11 rfl Ar <| RW.re 27 (.int .i64 ((b + t : Nat) : Int)) rfl (by congr 1) <| Rv 12 rfl Ix <| Rv 14 rfl Mv <| Rv 15 rfl Mv <| Rv 16 rfl Mv <| Rv 17 rfl Ar <| RW.re 33 (.int .i64 ((a + t : Nat) : Int)) rfl (by congr 1) <| Rv 18 rfl Ix <| RW.any [13, 19] (by kernel_rfl) (by simp) fun i hi => ?_
    simp only [List.mem_cons, List.not_mem_nil, or_false] at hi
    rcases hi with rfl | rfl
    · refine Ro rfl (Eff.ofVal (Val.loadFl (enc := lkC) rfl Tryz.isAgg133 (by repeat (first | exact .here | exact .inner .here | exact .inner (.inner .here) | refine .there ?_)) lkC_len h2 Tryz.sizeOf133)) fun _ _ => Re 19 rfl (Eff.ofVal (Val.loadFl (enc := lkC) rfl Tryz.isAgg133 (by repeat (first | exact .here | exact .inner .here | exact .inner (.inner .here) | refine .there ?_)) lkC_len h1 Tryz.sizeOf133)) fun _ _ => Rv 20 rfl Ix <| ReN 21 rfl (Eff.storeFl (enc := lkC) (sz := 5) rfl rfl (by repeat (first | exact .here | exact .inner .here | exact .inner (.inner .here) | apply Upd.there)) lkC_len (by first | omega | (simp only [List.length_set]; omega)) Tryz.sizeOf133 lkC_one) fun _ _ => Rv 22 rfl Ix <| ReN 23 rfl (Eff.storeFl (enc := lkC) (sz := 5) rfl rfl (by repeat (first | exact .here | exact .inner .here | exact .inner (.inner .here) | apply Upd.there)) lkC_len (by first | omega | (simp only [List.length_set]; omega)) Tryz.sizeOf133 lkC_one) fun _ _ => Rd <| Bn <| Ps <| Rg <| Lv Mv <| Lv Ar <| Lv Av <| Nl ?_
      rw [hsw]
      exact roundA (t + 1) (by omega) (by omega)
    · refine Ro rfl (Eff.ofVal (Val.loadFl (enc := lkC) rfl Tryz.isAgg133 (by repeat (first | exact .here | exact .inner .here | exact .inner (.inner .here) | refine .there ?_)) lkC_len h1 Tryz.sizeOf133)) fun _ _ => Re 13 rfl (Eff.ofVal (Val.loadFl (enc := lkC) rfl Tryz.isAgg133 (by repeat (first | exact .here | exact .inner .here | exact .inner (.inner .here) | refine .there ?_)) lkC_len h2 Tryz.sizeOf133)) fun _ _ => Rv 20 rfl Ix <| ReN 21 rfl (Eff.storeFl (enc := lkC) (sz := 5) rfl rfl (by repeat (first | exact .here | exact .inner .here | exact .inner (.inner .here) | apply Upd.there)) lkC_len (by first | omega | (simp only [List.length_set]; omega)) Tryz.sizeOf133 lkC_one) fun _ _ => Rv 22 rfl Ix <| ReN 23 rfl (Eff.storeFl (enc := lkC) (sz := 5) rfl rfl (by repeat (first | exact .here | exact .inner .here | exact .inner (.inner .here) | apply Upd.there)) lkC_len (by first | omega | (simp only [List.length_set]; omega)) Tryz.sizeOf133 lkC_one) fun _ _ => Rd <| Bn <| Ps <| Rg <| Lv Mv <| Lv Ar <| Lv Av <| Nl ?_
      rw [hsw]
      exact roundA (t + 1) (by omega) (by omega)
  · replace h13 := bF h13
    refine Xt <| Te <| Te <| Bh <| PQ.end0 rfl fun w' hw => ?_
    obtain rfl : t = m := by omega
    refine ⟨(), trivial, rfl, ?_⟩
    rw [show X ++ ((Rr.take (t) ++ U.drop (t)) ++ (Z ++ ((U.take (t) ++ Rr.drop (t)) ++ Y))) = L' from by rw [← hL', List.take_of_length_le (Nat.le_of_eq hV), List.take_of_length_le (Nat.le_of_eq hU), List.drop_eq_nil_iff.2 (Nat.le_of_eq hV), List.drop_eq_nil_iff.2 (Nat.le_of_eq hU)]; simp] at hw
    exact hw
theorem rot_c (g cap n a m b : Nat) (rest : List Value) (X U Rr Y L L' : List Lk) (hL : L = X ++ (U ++ (Rr ++ Y))) (hL' : X ++ (Rr ++ (U ++ Y)) = L') (hn : L.length = n) (ha : X.length = a) (hmm : a + U.length = m) (hb : m + Rr.length = b) (hU : 0 < U.length) (hV : 0 < Rr.length) (hm : n ≤ 100000) (w : World) (hs : Sat [[(g, .cells ((L).flatMap lkC ++ rest).toArray 133 (0, 0))]] w) : Calls Tryz.prog 184 [.slice (some ⟨g, 0, none⟩) n cap, .int .i64 (a : Nat), .int .i64 (m : Nat), .int .i64 (b : Nat), .func (.func 125) #[] #[]].toArray w fun e w' => ∃ _u : Unit, True ∧ e = .returned (.tuple #[]) ∧ Hp ⟨w, [g]⟩ [[(g, .cells ((L').flatMap lkC ++ rest).toArray 133 (0, 0))]] w' := by
  subst hL
  have hlen : X.length + (U.length + (Rr.length + Y.length)) = n := by simpa using hn
  refine V.calls [[(g, .cells ((X ++ (U ++ (Rr ++ Y))).flatMap lkC ++ rest).toArray 133 (0, 0))]] Tryz.func184 rfl Tryz.ntmps184 (Nat.le_of_ble_eq_true rfl) hs <| Sq <| Rg <| Lv Mv <| Lv Mv <| Lv Ar <| Lv Av <| Nl <| Ps <| Sq <| Rg <| Lv Mv <| Lv Mv <| Lv Ar <| Lv Av <| Nl <| Ps <| Sq <| Bk ?_
  rw [show X ++ (U ++ (Rr ++ Y)) = X ++ ([] ++ (U ++ (Rr ++ ([] ++ Y)))) from by simp]
  refine CW.loop (γ := List Lk × List Lk × List Lk × List Lk) (fun k => [(0, .slice (some ⟨g, 0, none⟩) n cap), (2, .int .i64 (m : Nat)), (4, .func (.func 125) #[] #[]), (10, .int .i64 (k.2.1.length : Nat)), (11, .int .i64 (k.2.2.1.length : Nat))]) (fun k => [[(g, .cells ((X ++ (k.1 ++ (k.2.1 ++ (k.2.2.1 ++ (k.2.2.2 ++ Y))))).flatMap lkC ++ rest).toArray 133 (0, 0))]]) (fun k => 0 < k.2.1.length ∧ 0 < k.2.2.1.length ∧ X.length + k.1.length + k.2.1.length = m ∧ k.1 ++ (k.2.2.1 ++ (k.2.1 ++ k.2.2.2)) = Rr ++ U) (fun k => k.2.1.length + k.2.2.1.length) (([], U, Rr, [])) ⟨hU, hV, by simp; omega, by simp⟩ (by exact ⟨rfl, rfl, rfl, congrArg (fun z : Int => some (Value.int .i64 z)) (by simp only; omega), congrArg (fun z : Int => some (Value.int .i64 z)) (by simp only; omega), trivial⟩) (by repeat (first | exact .nil | apply Pick.cons | exact .here | apply Ext.there)) fun k => ?_
  rintro ⟨hk1, hk2, hk3, hk4⟩
  have hlk : k.1.length + (k.2.2.1.length + (k.2.1.length + k.2.2.2.length)) = Rr.length + U.length := by simpa using congrArg List.length hk4
  refine Sq <| Sq <| Rg <| Lv Mv <| Lv Mv <| Lv Cm <| Nl <| Ps ?_
  refine CW.cond rfl (fun h20 => ?_) (fun h20 => ?_)
  · replace h20 := bT h20
    refine Sk <| Ps <| Bk <| Sq <| Rg <| Lv Mv <| Lv Mv <| Lv Cm <| Nl <| Ps ?_
    refine CW.cond rfl (fun h23 => ?_) (fun h23 => ?_)
    · replace h23 := bT h23
      refine Sq <| Rg <| Lv Mv <| Lv Mv <| Lv Mv <| Lv Ar <| LW.re 27 (.int .i64 ((m - k.2.1.length : Nat) : Int)) rfl (by congr 1; omega) <| Lv Mv <| Lv Mv <| Lv Mv <| Le (CM ([[(g, .cells ((X ++ (k.1 ++ (k.2.1 ++ (k.2.2.1 ++ (k.2.2.2 ++ Y))))).flatMap lkC ++ rest).toArray 133 (0, 0))]]) fun w hw hs => swr_c g cap n (m - k.2.1.length) (m) (k.2.2.1.length) rest (X ++ k.1) (k.2.1.take k.2.2.1.length) (k.2.1.drop k.2.2.1.length) (k.2.2.1) (k.2.2.2 ++ Y) (X ++ (k.1 ++ (k.2.1 ++ (k.2.2.1 ++ (k.2.2.2 ++ Y))))) (X ++ ((k.1 ++ k.2.2.1) ++ (k.2.1.drop k.2.2.1.length ++ (k.2.1.take k.2.2.1.length ++ (k.2.2.2 ++ Y))))) (by rw [← List.append_assoc (k.2.1.take _), List.take_append_drop]; simp) (by simp) (by first | (simp; done) | (simp; omega) | omega) (by first | (simp; done) | (simp; omega) | omega) (by first | (simp; done) | (simp; omega) | omega) (by first | (simp; done) | (simp; omega) | omega) (by first | (simp; done) | (simp; omega) | omega) hm w hs) fun _ _ => Nl <| Ps <| Rg <| Lv Mv <| Lv Mv <| Lv Ar <| LW.re 34 (.int .i64 ((k.2.1.length - k.2.2.1.length : Nat) : Int)) rfl (by congr 1; omega) <| Lv Av <| Nl <| Bn ?_
      refine PQ.round ((k.1 ++ k.2.2.1, k.2.1.drop k.2.2.1.length, k.2.1.take k.2.2.1.length, k.2.2.2)) ⟨by simp; omega, by simp; omega, by simp; omega, by rw [← hk4]; simp only [List.append_assoc]; rw [← List.append_assoc (k.2.1.take _), List.take_append_drop]⟩ (by simp; omega) (by exact ⟨rfl, rfl, rfl, congrArg (fun z : Int => some (Value.int .i64 z)) (by simp), congrArg (fun z : Int => some (Value.int .i64 z)) (by simp; omega), trivial⟩) (by repeat (first | exact .nil | apply Pick.cons | exact .here | apply Ext.there))
    · replace h23 := bF h23
      refine Sq <| Rg <| Lv Mv <| Lv Mv <| Lv Mv <| Lv Ar <| LW.re 38 (.int .i64 ((m - k.2.1.length : Nat) : Int)) rfl (by congr 1; omega) <| Lv Mv <| Lv Mv <| Lv Ar <| Lv Mv <| Lv Ar <| LW.re 43 (.int .i64 ((m + k.2.2.1.length - k.2.1.length : Nat) : Int)) rfl (by congr 1; omega) <| Lv Mv <| Lv Mv <| Le (CM ([[(g, .cells ((X ++ (k.1 ++ (k.2.1 ++ (k.2.2.1 ++ (k.2.2.2 ++ Y))))).flatMap lkC ++ rest).toArray 133 (0, 0))]]) fun w hw hs => swr_c g cap n (m - k.2.1.length) (m + k.2.2.1.length - k.2.1.length) (k.2.1.length) rest (X ++ k.1) (k.2.1) (k.2.2.1.take (k.2.2.1.length - k.2.1.length)) (k.2.2.1.drop (k.2.2.1.length - k.2.1.length)) (k.2.2.2 ++ Y) (X ++ (k.1 ++ (k.2.1 ++ (k.2.2.1 ++ (k.2.2.2 ++ Y))))) (X ++ (k.1 ++ (k.2.2.1.drop (k.2.2.1.length - k.2.1.length) ++ (k.2.2.1.take (k.2.2.1.length - k.2.1.length) ++ ((k.2.1 ++ k.2.2.2) ++ Y))))) (by rw [← List.append_assoc (k.2.2.1.take _), List.take_append_drop]; simp) (by simp) (by first | (simp; done) | (simp; omega) | omega) (by first | (simp; done) | (simp; omega) | omega) (by first | (simp; done) | (simp; omega) | omega) (by first | (simp; done) | (simp; omega) | omega) (by first | (simp; done) | (simp; omega) | omega) hm w hs) fun _ _ => Nl <| Ps <| Rg <| Lv Mv <| Lv Mv <| Lv Ar <| LW.re 49 (.int .i64 ((k.2.2.1.length - k.2.1.length : Nat) : Int)) rfl (by congr 1; omega) <| Lv Av <| Nl <| Bn ?_
      refine PQ.round ((k.1, k.2.2.1.drop (k.2.2.1.length - k.2.1.length), k.2.2.1.take (k.2.2.1.length - k.2.1.length), k.2.1 ++ k.2.2.2)) ⟨by simp; omega, by simp; omega, by simp; omega, by rw [← hk4]; simp only; rw [← List.append_assoc (k.2.2.1.take _), List.take_append_drop]⟩ (by simp; omega) (by exact ⟨rfl, rfl, rfl, congrArg (fun z : Int => some (Value.int .i64 z)) (by simp; omega), congrArg (fun z : Int => some (Value.int .i64 z)) (by simp), trivial⟩) (by repeat (first | exact .nil | apply Pick.cons | exact .here | apply Ext.there))
  · replace h20 := bF h20
    refine Xt <| Te <| Te <| Bh <| Ps <| Rg <| Lv Mv <| Lv Mv <| Lv Mv <| Lv Ar <| LW.re 53 (.int .i64 ((m - k.2.1.length : Nat) : Int)) rfl (by congr 1; omega) <| Lv Mv <| Lv Mv <| Lv Mv <| Le (CM ([[(g, .cells ((X ++ (k.1 ++ (k.2.1 ++ (k.2.2.1 ++ (k.2.2.2 ++ Y))))).flatMap lkC ++ rest).toArray 133 (0, 0))]]) fun w hw hs => swr_c g cap n (m - k.2.1.length) (m) (k.2.1.length) rest (X ++ k.1) (k.2.1) ([]) (k.2.2.1) (k.2.2.2 ++ Y) (X ++ (k.1 ++ (k.2.1 ++ (k.2.2.1 ++ (k.2.2.2 ++ Y))))) (X ++ (k.1 ++ (k.2.2.1 ++ (k.2.1 ++ (k.2.2.2 ++ Y))))) (by simp) (by simp) (by first | (simp; done) | (simp; omega) | omega) (by first | (simp; done) | (simp; omega) | omega) (by first | (simp; done) | (simp; omega) | omega) (by first | (simp; done) | (simp; omega) | omega) (by first | (simp; done) | (simp; omega) | omega) hm w hs) fun _ _ => Nl <| PQ.end0 rfl fun w' hw => ?_
    refine ⟨(), trivial, rfl, ?_⟩
    rw [show X ++ (k.1 ++ (k.2.2.1 ++ (k.2.1 ++ (k.2.2.2 ++ Y)))) = L' from by rw [← hL', ← List.append_assoc Rr, ← hk4]; simp] at hw
    exact hw
end Stb
end G
end Go.Proofs.YtcnjjefbnlgdjaaGreat

/- The merge of the stable sort of links. -/
namespace Go.Proofs.YtcnjjefbnlgdjaaGreat
open Go Go.RowKit V
set_option linter.unusedVariables false
set_option maxRecDepth 100000
namespace G
open V (str byC ownV ownG ownS ownOk)
instance : Cal Tryz.prog 184 := ⟨Tryz.call184⟩
namespace Stb
theorem mid_eq (p q r : Nat) (h : p + q < 2 ^ 62) (hr : r = (p + q) / 2) : Value.int .i64 (IntKind.i64.wrap ((IntKind.u64.wrap ((p : Int) + (q : Int))).fdiv (2 ^ (min (1 : Int).toNat IntKind.u64.bits)))) = .int .i64 ((r : Nat) : Int) := by
  have e0 : IntKind.u64.wrap ((p : Int) + (q : Int)) = ((p + q : Nat) : Int) := by rw [← Int.natCast_add]; exact IntWalk.u64_in _ (by omega)
  have e1 : ((p + q : Nat) : Int).fdiv (2 ^ (min (1 : Int).toNat IntKind.u64.bits)) = ((r : Nat) : Int) := by
    rw [show (min (1 : Int).toNat IntKind.u64.bits) = 1 from by decide]
    rw [hr, Int.fdiv_eq_ediv_of_nonneg _ (by decide)]
    simp
  rw [e0, e1, IntWalk.i64_in _ (by omega)]
set_option maxHeartbeats 2000000 in
theorem sym_c (g cap n : Nat) (rest : List Value) (hm : n ≤ 100000) : ∀ (N a m b : Nat) (X A B Y L : List Lk), A.length + B.length ≤ N → L = X ++ (A ++ (B ++ Y)) → L.length = n → X.length = a → a + A.length = m → m + B.length = b → 0 < A.length → 0 < B.length → Up Lk.ver A → Up Lk.ver B → ∀ w : World, Sat [[(g, .cells ((L).flatMap lkC ++ rest).toArray 133 (0, 0))]] w →
    Calls Tryz.prog 177 [.slice (some ⟨g, 0, none⟩) n cap, .int .i64 (a : Nat), .int .i64 (m : Nat), .int .i64 (b : Nat), .func (.func 125) #[] #[]].toArray w fun e w' => ∃ M' : List Lk, (Sta Lk.ver (A ++ B) M' ∧ Up Lk.ver M') ∧ e = .returned (.tuple #[]) ∧ Hp ⟨w, [g]⟩ [[(g, .cells ((X ++ (M' ++ Y)).flatMap lkC ++ rest).toArray 133 (0, 0))]] w' := by
  intro N
  induction N with
  | zero => intro a m b X A B Y L h1 _ _ _ _ _ h2 _ _ _ w _; omega
  | succ N ih =>
    intro a m b X A B Y L hN hL hn ha hmm hb hA0 hB0 hA hB w hs
    subst hL
    have hlen : X.length + (A.length + (B.length + Y.length)) = n := by simpa using hn
    refine V.calls [[(g, .cells ((X ++ (A ++ (B ++ Y))).flatMap lkC ++ rest).toArray 133 (0, 0))]] Tryz.func177 rfl Tryz.ntmps177 (Nat.le_of_ble_eq_true rfl) hs <| Sq <| Sq <| Rg <| Lv Mv <| Lv Mv <| Lv Ar <| Lv Cm <| Nl <| Ps ?_
    refine CW.cond rfl (fun h28 => ?_) (fun h28 => ?_)
    · replace h28 := bT h28
      obtain ⟨x, rfl⟩ := List.length_eq_one_iff.1 (by omega : A.length = 1)
      have hmx : a + 1 = m := hmm
      refine Sq <| Rg <| Lv Mv <| Lv Av <| Nl <| Ps <| Sq <| Rg <| Lv Mv <| Lv Av <| Nl <| Ps <| Sq <| Bk <| CW.loop (γ := Nat × Nat) (fun k => [(0, .slice (some ⟨g, 0, none⟩) n cap), (1, .int .i64 ((a : Nat) : Int)), (2, .int .i64 ((m : Nat) : Int)), (4, .func (.func 125) #[] #[]), (10, .int .i64 ((m + k.1 : Nat) : Int)), (11, .int .i64 ((m + k.2 : Nat) : Int))]) (fun _ => [[(g, .cells ((X ++ ([x] ++ (B ++ Y))).flatMap lkC ++ rest).toArray 133 (0, 0))]]) (fun k => k.1 ≤ k.2 ∧ k.2 ≤ B.length ∧ (∀ y ∈ B.take k.1, y.ver < x.ver) ∧ (∀ y ∈ B.drop k.2, x.ver ≤ y.ver)) (fun k => k.2 - k.1) ((0, B.length)) ⟨Nat.zero_le _, Nat.le_refl _, by simp, by simp⟩ (by exact ⟨rfl, rfl, rfl, rfl, rfl, congrArg (fun z : Int => some (Value.int .i64 z)) (by first | omega | (simp only; omega)), trivial⟩) (by repeat (first | exact .nil | apply Pick.cons | exact .here | apply Ext.there)) fun k => ?_
      rintro ⟨hk1, hk2, hk3, hk4⟩
      refine Sq <| Sq <| Rg <| Lv Mv <| Lv Mv <| Lv Cm <| Nl <| Ps ?_
      refine CW.cond rfl (fun h33 => ?_) (fun h33 => ?_)
      · replace h33 := bT h33
        obtain ⟨c, hc⟩ : ∃ c, c = (k.1 + k.2) / 2 := ⟨_, rfl⟩
        obtain ⟨y, hy⟩ : ∃ y, B[c]? = some y := ⟨B[c]'(by omega), by simp⟩
        have h1 : (X ++ ([x] ++ (B ++ Y)))[m + c]? = some y := by rw [List.getElem?_append_right (by omega), List.getElem?_append_right (by simp; omega), List.getElem?_append_left (by simp; omega)]; rw [show m + c - X.length - [x].length = c by simp; omega]; exact hy
        have h2 : (X ++ ([x] ++ (B ++ Y)))[a]? = some x := by rw [List.getElem?_append_right (by omega)]; simp [ha]
        refine Sk <| Ps <| Bk <| Sq <| Rg <| Lv Mv <| Lv Mv <| Lv Ar <| Lv Cv <| Lv (Val.shr rfl rfl (by omega)) <| Lv Cv <| LW.re 39 (.int .i64 ((m + c : Nat) : Int)) rfl (mid_eq (m + k.1) (m + k.2) _ (by omega) (by omega)) <| Lv Av <| Nl <| Ps <| Sq <| Qt <| Qv Mv <| Qv Mv <| Qv Mv <| Qv Ix <| Qv (Val.loadFl (enc := lkC) rfl Tryz.isAgg133 (by repeat (first | exact .here | exact .inner .here | exact .inner (.inner .here) | refine .there ?_)) lkC_len h1 Tryz.sizeOf133) <| Qv Mv <| Qv Mv <| Qv Ix <| Qv (Val.loadFl (enc := lkC) rfl Tryz.isAgg133 (by repeat (first | exact .here | exact .inner .here | exact .inner (.inner .here) | refine .there ?_)) lkC_len h2 Tryz.sizeOf133) <| Qc (Qcall.ofF (f := 125) (caps := []) rfl rfl Tryz.call125 (fun w hw => byVer_c y x w)) <| Qv Cm <| Ql <| Ps ?_
        refine CW.cond rfl (fun h50 => ?_) (fun h50 => ?_)
        · replace h50 := bT h50
          rw [cmpE_lt] at h50
          refine Rg <| Lv Mv <| Lv Ar <| Lv Av <| Nl <| Bn ?_
          refine PQ.round ((c + 1, k.2)) ⟨by simp only; omega, hk2, fun z hz => by
            obtain ⟨j, hj1, hj2⟩ := mem_take hz
            have := hB.get hj2 hy (by omega)
            omega, hk4⟩ (by simp only; omega) (by repeat (first | exact trivial | refine ⟨rfl, ?_⟩)) (by repeat (first | exact .nil | apply Pick.cons | exact .here | apply Ext.there))
        · replace h50 := bF h50
          rw [cmpE_ge] at h50
          refine Rg <| Lv Mv <| Lv Av <| Nl <| Bn ?_
          refine PQ.round ((k.1, c)) ⟨by simp only; omega, by simp only; omega, hk3, fun z hz => by
            obtain ⟨j, hj1, hj2⟩ := mem_drop hz
            have := hB.get hy hj2 (by omega)
            omega⟩ (by simp only; omega) (by repeat (first | exact trivial | refine ⟨rfl, ?_⟩)) (by repeat (first | exact .nil | apply Pick.cons | exact .here | apply Ext.there))
      · replace h33 := bF h33
        refine Xt <| Te <| Te <| Bh <| Ps <| Sq <| Sq <| Rg <| Lv Mv <| Lv Av <| Nl <| Ps <| Bk ?_
        obtain ⟨s, r⟩ := k
        simp only at hk1 hk2 hk3 hk4 h33
        obtain rfl : s = r := by omega
        rw [show X ++ ([x] ++ (B ++ Y)) = X ++ ((B.take (0) ++ x :: B.drop (0)) ++ Y) from by simp]
        refine loopA (γ := Nat) (fun t => [(0, .slice (some ⟨g, 0, none⟩) n cap), (10, .int .i64 ((m + s : Nat) : Int)), (13, .int .i64 ((a + t : Nat) : Int))]) (fun t => [[(g, .cells ((X ++ ((B.take (t) ++ x :: B.drop (t)) ++ Y)).flatMap lkC ++ rest).toArray 133 (0, 0))]]) (fun t => t ≤ s) (fun t => s - t) (0) (Nat.zero_le _) fun t ht => Sq <| Sq <| Rg <| Lv Mv <| Lv Mv <| Lv Ar <| Lv Cm <| Nl <| Ps ?_
        refine CW.cond rfl (fun h58 => ?_) (fun h58 => ?_)
        · replace h58 := bT h58
          obtain ⟨v, hv⟩ : ∃ v, B[t]? = some v := ⟨B[t]'(by omega), by simp⟩
          have hcc : X ++ ((B.take (t) ++ x :: B.drop (t)) ++ Y) = (X ++ B.take t) ++ x :: ([] ++ v :: (B.drop (t + 1) ++ Y)) := by rw [drop_cons hv]; simp
          have h1 : (X ++ ((B.take (t) ++ x :: B.drop (t)) ++ Y))[a + t]? = some x := by rw [hcc]; exact at_app _ _ _ _ (by simp; omega)
          have h2 : (X ++ ((B.take (t) ++ x :: B.drop (t)) ++ Y))[a + t + 1]? = some v := by
            rw [hcc, show (X ++ B.take t) ++ x :: ([] ++ v :: (B.drop (t + 1) ++ Y)) = (X ++ B.take t ++ [x]) ++ v :: (B.drop (t + 1) ++ Y) from by simp]
            exact at_app _ _ _ _ (by simp; omega)
          have hsw : ((X ++ ((B.take (t) ++ x :: B.drop (t)) ++ Y)).set (a + t) v).set (a + t + 1) x = X ++ ((B.take (t + 1) ++ x :: B.drop (t + 1)) ++ Y) := by
            rw [hcc, swp _ _ _ _ _ _ _ (by simp; omega) (by simp; omega), take_snoc hv]; simp
          have hll : (X ++ ((B.take (t) ++ x :: B.drop (t)) ++ Y)).length = n := by simp at hlen ⊢; omega
          refine Sk <| Ps <| Sq <| Bk <| Dr ([]) <| Rv 0 rfl Mv <| Rv 1 rfl Mv <| Rv 2 rfl Mv <| Rv 3 rfl Mv <| Rv 4 rfl Ar <| RW.re 65 (.int .i64 ((a + t + 1 : Nat) : Int)) rfl (by congr 1) <| Rv 5 rfl Mv <| Rv 6 rfl Mv <| Rv 7 rfl Ar <| RW.re 68 (.int .i64 ((a + t + 1 : Nat) : Int)) rfl (by congr 1) <| Rv 8 rfl Ix <| Rv 10 rfl Mv <| Rv 11 rfl Mv <| Rv 12 rfl Ix <| RW.any [9, 13] (by kernel_rfl) (by simp) fun i hi => ?_
          simp only [List.mem_cons, List.not_mem_nil, or_false] at hi
          rcases hi with rfl | rfl
          · refine Ro rfl (Eff.ofVal (Val.loadFl (enc := lkC) rfl Tryz.isAgg133 (by repeat (first | exact .here | exact .inner .here | exact .inner (.inner .here) | refine .there ?_)) lkC_len h2 Tryz.sizeOf133)) fun _ _ => Re 13 rfl (Eff.ofVal (Val.loadFl (enc := lkC) rfl Tryz.isAgg133 (by repeat (first | exact .here | exact .inner .here | exact .inner (.inner .here) | refine .there ?_)) lkC_len h1 Tryz.sizeOf133)) fun _ _ => Rv 14 rfl Ix <| ReN 15 rfl (Eff.storeFl (enc := lkC) (sz := 5) rfl rfl (by repeat (first | exact .here | exact .inner .here | exact .inner (.inner .here) | apply Upd.there)) lkC_len (by first | omega | (simp only [List.length_set]; omega)) Tryz.sizeOf133 lkC_one) fun _ _ => Rv 16 rfl Ix <| ReN 17 rfl (Eff.storeFl (enc := lkC) (sz := 5) rfl rfl (by repeat (first | exact .here | exact .inner .here | exact .inner (.inner .here) | apply Upd.there)) lkC_len (by first | omega | (simp only [List.length_set]; omega)) Tryz.sizeOf133 lkC_one) fun _ _ => Rd <| Bn <| Ps <| Rg <| Lv Mv <| Lv Ar <| Lv Av <| Nl ?_
            rw [hsw]
            exact roundA (t + 1) (by omega) (by omega)
          · refine Ro rfl (Eff.ofVal (Val.loadFl (enc := lkC) rfl Tryz.isAgg133 (by repeat (first | exact .here | exact .inner .here | exact .inner (.inner .here) | refine .there ?_)) lkC_len h1 Tryz.sizeOf133)) fun _ _ => Re 9 rfl (Eff.ofVal (Val.loadFl (enc := lkC) rfl Tryz.isAgg133 (by repeat (first | exact .here | exact .inner .here | exact .inner (.inner .here) | refine .there ?_)) lkC_len h2 Tryz.sizeOf133)) fun _ _ => Rv 14 rfl Ix <| ReN 15 rfl (Eff.storeFl (enc := lkC) (sz := 5) rfl rfl (by repeat (first | exact .here | exact .inner .here | exact .inner (.inner .here) | apply Upd.there)) lkC_len (by first | omega | (simp only [List.length_set]; omega)) Tryz.sizeOf133 lkC_one) fun _ _ => Rv 16 rfl Ix <| ReN 17 rfl (Eff.storeFl (enc := lkC) (sz := 5) rfl rfl (by repeat (first | exact .here | exact .inner .here | exact .inner (.inner .here) | apply Upd.there)) lkC_len (by first | omega | (simp only [List.length_set]; omega)) Tryz.sizeOf133 lkC_one) fun _ _ => Rd <| Bn <| Ps <| Rg <| Lv Mv <| Lv Ar <| Lv Av <| Nl ?_
            rw [hsw]
            exact roundA (t + 1) (by omega) (by omega)
        · replace h58 := bF h58
          refine Xt <| Te <| Te <| Bh <| Ps <| Rt <| Tr <| PQ.ret0 rfl fun w' hw => ?_
          obtain rfl : t = s := by omega
          exact ⟨B.take t ++ x :: B.drop t, ⟨ins_sta' B t x hk3, ins_up hB t x hk4 (fun z hz => by have := hk3 z hz; omega)⟩, rfl, hw⟩
    · replace h28 := bF h28
      refine Sk <| Ps <| Sq <| Sq <| Rg <| Lv Mv <| Lv Mv <| Lv Ar <| Lv Cm <| Nl <| Ps ?_
      refine CW.cond rfl (fun h80 => ?_) (fun h80 => ?_)
      · replace h80 := bT h80
        obtain ⟨y, rfl⟩ := List.length_eq_one_iff.1 (by omega : B.length = 1)
        have hby : m + 1 = b := hb
        refine Sq <| Rg <| Lv Mv <| Lv Av <| Nl <| Ps <| Sq <| Rg <| Lv Mv <| Lv Av <| Nl <| Ps <| Sq <| Bk <| CW.loop (γ := Nat × Nat) (fun k => [(0, .slice (some ⟨g, 0, none⟩) n cap), (1, .int .i64 ((a : Nat) : Int)), (2, .int .i64 ((m : Nat) : Int)), (4, .func (.func 125) #[] #[]), (14, .int .i64 ((a + k.1 : Nat) : Int)), (15, .int .i64 ((a + k.2 : Nat) : Int))]) (fun _ => [[(g, .cells ((X ++ (A ++ ([y] ++ Y))).flatMap lkC ++ rest).toArray 133 (0, 0))]]) (fun k => k.1 ≤ k.2 ∧ k.2 ≤ A.length ∧ (∀ z ∈ A.take k.1, z.ver ≤ y.ver) ∧ (∀ z ∈ A.drop k.2, y.ver < z.ver)) (fun k => k.2 - k.1) ((0, A.length)) ⟨Nat.zero_le _, Nat.le_refl _, by simp, by simp⟩ (by exact ⟨rfl, rfl, rfl, rfl, rfl, congrArg (fun z : Int => some (Value.int .i64 z)) (by first | omega | (simp only; omega)), trivial⟩) (by repeat (first | exact .nil | apply Pick.cons | exact .here | apply Ext.there)) fun k => ?_
        rintro ⟨hk1, hk2, hk3, hk4⟩
        refine Sq <| Sq <| Rg <| Lv Mv <| Lv Mv <| Lv Cm <| Nl <| Ps ?_
        refine CW.cond rfl (fun h85 => ?_) (fun h85 => ?_)
        · replace h85 := bT h85
          obtain ⟨c, hc⟩ : ∃ c, c = (k.1 + k.2) / 2 := ⟨_, rfl⟩
          obtain ⟨z, hz⟩ : ∃ z, A[c]? = some z := ⟨A[c]'(by omega), by simp⟩
          have h1 : (X ++ (A ++ ([y] ++ Y)))[m]? = some y := by rw [List.getElem?_append_right (by omega), List.getElem?_append_right (by omega)]; rw [show m - X.length - A.length = 0 by omega]; rfl
          have h2 : (X ++ (A ++ ([y] ++ Y)))[a + c]? = some z := by rw [List.getElem?_append_right (by omega), List.getElem?_append_left (by omega), show a + c - X.length = c by omega]; exact hz
          refine Sk <| Ps <| Bk <| Sq <| Rg <| Lv Mv <| Lv Mv <| Lv Ar <| Lv Cv <| Lv (Val.shr rfl rfl (by omega)) <| Lv Cv <| LW.re 91 (.int .i64 ((a + c : Nat) : Int)) rfl (mid_eq (a + k.1) (a + k.2) _ (by omega) (by omega)) <| Lv Av <| Nl <| Ps <| Sq <| Qt <| Qv Mv <| Qv Mv <| Qv Mv <| Qv Ix <| Qv (Val.loadFl (enc := lkC) rfl Tryz.isAgg133 (by repeat (first | exact .here | exact .inner .here | exact .inner (.inner .here) | refine .there ?_)) lkC_len h1 Tryz.sizeOf133) <| Qv Mv <| Qv Mv <| Qv Ix <| Qv (Val.loadFl (enc := lkC) rfl Tryz.isAgg133 (by repeat (first | exact .here | exact .inner .here | exact .inner (.inner .here) | refine .there ?_)) lkC_len h2 Tryz.sizeOf133) <| Qc (Qcall.ofF (f := 125) (caps := []) rfl rfl Tryz.call125 (fun w hw => byVer_c y z w)) <| Qv Cm <| Qv Nt <| Ql <| Ps ?_
          refine CW.cond rfl (fun h103 => ?_) (fun h103 => ?_)
          · replace h103 := bT h103
            rw [cmpE_ge] at h103
            refine Rg <| Lv Mv <| Lv Ar <| Lv Av <| Nl <| Bn ?_
            refine PQ.round ((c + 1, k.2)) ⟨by simp only; omega, hk2, fun x hx => by
              obtain ⟨j, hj1, hj2⟩ := mem_take hx
              have := hA.get hj2 hz (by omega)
              omega, hk4⟩ (by simp only; omega) (by repeat (first | exact trivial | refine ⟨rfl, ?_⟩)) (by repeat (first | exact .nil | apply Pick.cons | exact .here | apply Ext.there))
          · replace h103 := bF h103
            rw [cmpE_lt] at h103
            refine Rg <| Lv Mv <| Lv Av <| Nl <| Bn ?_
            refine PQ.round ((k.1, c)) ⟨by simp only; omega, by simp only; omega, hk3, fun x hx => by
              obtain ⟨j, hj1, hj2⟩ := mem_drop hx
              have := hA.get hz hj2 (by omega)
              omega⟩ (by simp only; omega) (by repeat (first | exact trivial | refine ⟨rfl, ?_⟩)) (by repeat (first | exact .nil | apply Pick.cons | exact .here | apply Ext.there))
        · replace h85 := bF h85
          refine Xt <| Te <| Te <| Bh <| Ps <| Sq <| Sq <| Rg <| Lv Mv <| Lv Av <| Nl <| Ps <| Bk ?_
          obtain ⟨s, r⟩ := k
          simp only at hk1 hk2 hk3 hk4 h85
          obtain rfl : s = r := by omega
          rw [show X ++ (A ++ ([y] ++ Y)) = X ++ ((A.take (A.length) ++ y :: A.drop (A.length)) ++ Y) from by simp]
          refine CW.loop (γ := Nat) (fun t => [(0, .slice (some ⟨g, 0, none⟩) n cap), (14, .int .i64 ((a + s : Nat) : Int)), (17, .int .i64 ((a + t : Nat) : Int))]) (fun t => [[(g, .cells ((X ++ ((A.take (t) ++ y :: A.drop (t)) ++ Y)).flatMap lkC ++ rest).toArray 133 (0, 0))]]) (fun t => s ≤ t ∧ t ≤ A.length) (fun t => t - s) (A.length) ⟨hk2, Nat.le_refl _⟩ (by exact ⟨rfl, rfl, congrArg (fun z : Int => some (Value.int .i64 z)) (by first | omega | (simp only; omega)), trivial⟩) (by repeat (first | exact .nil | apply Pick.cons | exact .here | apply Ext.there)) fun t => ?_
          rintro ⟨ht1, ht2⟩
          refine Sq <| Sq <| Rg <| Lv Mv <| Lv Mv <| Lv Cm <| Nl <| Ps ?_
          refine CW.cond rfl (fun h110 => ?_) (fun h110 => ?_)
          · replace h110 := bT h110
            obtain ⟨u, hu⟩ : ∃ u, A[t - 1]? = some u := ⟨A[t - 1]'(by omega), by simp⟩
            have hcc : X ++ ((A.take (t) ++ y :: A.drop (t)) ++ Y) = (X ++ A.take (t - 1)) ++ u :: ([] ++ y :: (A.drop t ++ Y)) := by
              have e := take_snoc hu
              rw [show t - 1 + 1 = t by omega] at e
              rw [e]; simp
            have h1 : (X ++ ((A.take (t) ++ y :: A.drop (t)) ++ Y))[a + t]? = some y := by
              rw [hcc, show (X ++ A.take (t - 1)) ++ u :: ([] ++ y :: (A.drop t ++ Y)) = (X ++ A.take (t - 1) ++ [u]) ++ y :: (A.drop t ++ Y) from by simp]
              exact at_app _ _ _ _ (by simp; omega)
            have h2 : (X ++ ((A.take (t) ++ y :: A.drop (t)) ++ Y))[a + t - 1]? = some u := by rw [hcc]; exact at_app _ _ _ _ (by simp; omega)
            have hsw : ((X ++ ((A.take (t) ++ y :: A.drop (t)) ++ Y)).set (a + t) u).set (a + t - 1) y = X ++ ((A.take (t - 1) ++ y :: A.drop (t - 1)) ++ Y) := by
              rw [hcc, swp' _ _ _ _ _ _ _ (by simp; omega) (by simp; omega)]
              have e := drop_cons hu
              rw [show t - 1 + 1 = t by omega] at e
              rw [e]; simp
            have hll : (X ++ ((A.take (t) ++ y :: A.drop (t)) ++ Y)).length = n := by simp at hlen ⊢; omega
            refine Sk <| Ps <| Sq <| Bk <| Dr ([]) <| Rv 0 rfl Mv <| Rv 1 rfl Mv <| Rv 2 rfl Mv <| Rv 3 rfl Mv <| Rv 4 rfl Ar <| RW.re 117 (.int .i64 ((a + t - 1 : Nat) : Int)) rfl (by congr 1; omega) <| Rv 5 rfl Mv <| Rv 6 rfl Mv <| Rv 7 rfl Ar <| RW.re 120 (.int .i64 ((a + t - 1 : Nat) : Int)) rfl (by congr 1; omega) <| Rv 8 rfl Ix <| Rv 10 rfl Mv <| Rv 11 rfl Mv <| Rv 12 rfl Ix <| RW.any [9, 13] (by kernel_rfl) (by simp) fun i hi => ?_
            simp only [List.mem_cons, List.not_mem_nil, or_false] at hi
            rcases hi with rfl | rfl
            · refine Ro rfl (Eff.ofVal (Val.loadFl (enc := lkC) rfl Tryz.isAgg133 (by repeat (first | exact .here | exact .inner .here | exact .inner (.inner .here) | refine .there ?_)) lkC_len h2 Tryz.sizeOf133)) fun _ _ => Re 13 rfl (Eff.ofVal (Val.loadFl (enc := lkC) rfl Tryz.isAgg133 (by repeat (first | exact .here | exact .inner .here | exact .inner (.inner .here) | refine .there ?_)) lkC_len h1 Tryz.sizeOf133)) fun _ _ => Rv 14 rfl Ix <| ReN 15 rfl (Eff.storeFl (enc := lkC) (sz := 5) rfl rfl (by repeat (first | exact .here | exact .inner .here | exact .inner (.inner .here) | apply Upd.there)) lkC_len (by first | omega | (simp only [List.length_set]; omega)) Tryz.sizeOf133 lkC_one) fun _ _ => Rv 16 rfl Ix <| ReN 17 rfl (Eff.storeFl (enc := lkC) (sz := 5) rfl rfl (by repeat (first | exact .here | exact .inner .here | exact .inner (.inner .here) | apply Upd.there)) lkC_len (by first | omega | (simp only [List.length_set]; omega)) Tryz.sizeOf133 lkC_one) fun _ _ => Rd <| Bn <| Ps <| Rg <| Lv Mv <| Lv Ar <| LW.re 112 (.int .i64 ((a + (t - 1) : Nat) : Int)) rfl (by congr 1; omega) <| Lv Av <| Nl ?_
              rw [hsw]
              exact roundA (t - 1) ⟨by omega, by omega⟩ (by omega)
            · refine Ro rfl (Eff.ofVal (Val.loadFl (enc := lkC) rfl Tryz.isAgg133 (by repeat (first | exact .here | exact .inner .here | exact .inner (.inner .here) | refine .there ?_)) lkC_len h1 Tryz.sizeOf133)) fun _ _ => Re 9 rfl (Eff.ofVal (Val.loadFl (enc := lkC) rfl Tryz.isAgg133 (by repeat (first | exact .here | exact .inner .here | exact .inner (.inner .here) | refine .there ?_)) lkC_len h2 Tryz.sizeOf133)) fun _ _ => Rv 14 rfl Ix <| ReN 15 rfl (Eff.storeFl (enc := lkC) (sz := 5) rfl rfl (by repeat (first | exact .here | exact .inner .here | exact .inner (.inner .here) | apply Upd.there)) lkC_len (by first | omega | (simp only [List.length_set]; omega)) Tryz.sizeOf133 lkC_one) fun _ _ => Rv 16 rfl Ix <| ReN 17 rfl (Eff.storeFl (enc := lkC) (sz := 5) rfl rfl (by repeat (first | exact .here | exact .inner .here | exact .inner (.inner .here) | apply Upd.there)) lkC_len (by first | omega | (simp only [List.length_set]; omega)) Tryz.sizeOf133 lkC_one) fun _ _ => Rd <| Bn <| Ps <| Rg <| Lv Mv <| Lv Ar <| LW.re 112 (.int .i64 ((a + (t - 1) : Nat) : Int)) rfl (by congr 1; omega) <| Lv Av <| Nl ?_
              rw [hsw]
              exact roundA (t - 1) ⟨by omega, by omega⟩ (by omega)
          · replace h110 := bF h110
            refine Xt <| Te <| Te <| Bh <| Ps <| Rt <| Tr <| PQ.ret0 rfl fun w' hw => ?_
            obtain rfl : t = s := by omega
            exact ⟨A.take t ++ y :: A.drop t, ⟨ins_sta A t y hk4, ins_up hA t y (fun z hz => by have := hk4 z hz; omega) hk3⟩, rfl, hw⟩
      · replace h80 := bF h80
        refine Sk <| Ps <| Sq ?_
        obtain ⟨mid, hmid⟩ : ∃ mid, mid = (a + b) / 2 := ⟨_, rfl⟩
        refine Rg <| Lv Mv <| Lv Mv <| Lv Ar <| Lv Cv <| Lv (Val.shr rfl rfl (by omega)) <| Lv Cv <| LW.re 134 (.int .i64 ((mid : Nat) : Int)) rfl (mid_eq a b _ (by omega) hmid) <| Lv Av <| Nl <| Ps <| Sq ?_
        obtain ⟨nn, hnn⟩ : ∃ nn, nn = mid + m := ⟨_, rfl⟩
        refine Rg <| Lv Mv <| Lv Mv <| Lv Ar <| LW.re 137 (.int .i64 ((nn : Nat) : Int)) rfl (by congr 1; omega) <| Lv Av <| Nl <| Ps <| Sq <| Rg <| Lv Av <| Lv Av <| Nl <| Ps <| Sq ?_
        refine CW.join (fun k : Nat × Nat => k.1 = (if mid < m then nn - b else a) ∧ k.2 = (if mid < m then mid else m)) (fun k => [(0, .slice (some ⟨g, 0, none⟩) n cap), (1, .int .i64 ((a : Nat) : Int)), (2, .int .i64 ((m : Nat) : Int)), (3, .int .i64 ((b : Nat) : Int)), (4, .func (.func 125) #[] #[]), (18, .int .i64 ((mid : Nat) : Int)), (19, .int .i64 ((nn : Nat) : Int)), (20, .int .i64 ((k.1 : Nat) : Int)), (21, .int .i64 ((k.2 : Nat) : Int))]) (fun _ => [[(g, .cells ((X ++ (A ++ (B ++ Y))).flatMap lkC ++ rest).toArray 133 (0, 0))]]) ?_ ?_
        · refine Sq <| Rg <| Lv Mv <| Lv Mv <| Lv Cm <| Nl <| Ps ?_
          refine CW.cond rfl (fun h140 => ?_) (fun h140 => ?_)
          · replace h140 := bT h140
            refine Sq <| Rg <| Lv Mv <| Lv Mv <| Lv Ar <| LW.re 143 (.int .i64 ((nn - b : Nat) : Int)) rfl (by congr 1; omega) <| Lv Av <| Nl <| Ps <| Rg <| Lv Mv <| Lv Av <| Nl ?_
            exact joinC ((nn - b, mid)) (⟨by rw [if_pos (by omega)], by rw [if_pos (by omega)]⟩)
          · replace h140 := bF h140
            refine Sq <| Rg <| Lv Mv <| Lv Av <| Nl <| Ps <| Rg <| Lv Mv <| Lv Av <| Nl ?_
            exact joinC ((a, m)) (⟨by rw [if_neg (by omega)], by rw [if_neg (by omega)]⟩)
        · rintro ⟨lo, hi⟩ ⟨hlo, hhi⟩
          simp only at hlo hhi
          have hlh : lo ≤ hi := by split at hlo <;> split at hhi <;> omega
          refine Ps <| Sq <| Rg <| Lv Mv <| Lv Ar <| LW.re 148 (.int .i64 ((nn - 1 : Nat) : Int)) rfl (by congr 1; omega) <| Lv Av <| Nl <| Ps <| Sq <| Bk <| loopA (γ := Nat × Nat) (fun k => [(0, .slice (some ⟨g, 0, none⟩) n cap), (1, .int .i64 ((a : Nat) : Int)), (2, .int .i64 ((m : Nat) : Int)), (3, .int .i64 ((b : Nat) : Int)), (4, .func (.func 125) #[] #[]), (18, .int .i64 ((mid : Nat) : Int)), (19, .int .i64 ((nn : Nat) : Int)), (22, .int .i64 ((nn - 1 : Nat) : Int)), (20, .int .i64 ((k.1 : Nat) : Int)), (21, .int .i64 ((k.2 : Nat) : Int))]) (fun _ => [[(g, .cells ((X ++ (A ++ (B ++ Y))).flatMap lkC ++ rest).toArray 133 (0, 0))]]) (fun k => lo ≤ k.1 ∧ k.1 ≤ k.2 ∧ k.2 ≤ hi ∧ (k.1 = lo ∨ ∃ u v, (X ++ (A ++ (B ++ Y)))[k.1 - 1]? = some u ∧ (X ++ (A ++ (B ++ Y)))[nn - k.1]? = some v ∧ u.ver ≤ v.ver) ∧ (k.2 = hi ∨ ∃ u v, (X ++ (A ++ (B ++ Y)))[k.2]? = some u ∧ (X ++ (A ++ (B ++ Y)))[nn - 1 - k.2]? = some v ∧ v.ver < u.ver)) (fun k => k.2 - k.1) ((lo, hi)) ⟨Nat.le_refl _, by simp only; omega, Nat.le_refl _, .inl rfl, .inl rfl⟩ fun k => ?_
          rintro ⟨hk1, hk2, hk3, hk4, hk5⟩
          refine Sq <| Sq <| Rg <| Lv Mv <| Lv Mv <| Lv Cm <| Nl <| Ps ?_
          refine CW.cond rfl (fun h151 => ?_) (fun h151 => ?_)
          · replace h151 := bT h151
            obtain ⟨c, hc⟩ : ∃ c, c = (k.1 + k.2) / 2 := ⟨_, rfl⟩
            have hcl : a ≤ c ∧ c < m ∧ m ≤ nn - 1 - c ∧ nn - 1 - c < b := by split at hlo <;> split at hhi <;> omega
            obtain ⟨u, hu⟩ : ∃ u, (X ++ (A ++ (B ++ Y)))[c]? = some u := ⟨_, List.getElem?_eq_getElem (by rw [hn]; omega)⟩
            obtain ⟨v, hv⟩ : ∃ v, (X ++ (A ++ (B ++ Y)))[nn - 1 - c]? = some v := ⟨_, List.getElem?_eq_getElem (by rw [hn]; omega)⟩
            refine Sk <| Ps <| Bk <| Sq <| Rg <| Lv Mv <| Lv Mv <| Lv Ar <| Lv Cv <| Lv (Val.shr rfl rfl (by omega)) <| Lv Cv <| LW.re 157 (.int .i64 ((c : Nat) : Int)) rfl (mid_eq k.1 k.2 _ (by split at hhi <;> omega) hc) <| Lv Av <| Nl <| Ps <| Sq <| Qt <| Qv Mv <| Qv Mv <| Qv Mv <| Qv Mv <| Qv Ar <| QW.re 162 (.int .i64 ((nn - 1 - c : Nat) : Int)) rfl (by congr 1; omega) <| Qv Ix <| Qv (Val.loadFl (enc := lkC) rfl Tryz.isAgg133 (by repeat (first | exact .here | exact .inner .here | exact .inner (.inner .here) | refine .there ?_)) lkC_len hv Tryz.sizeOf133) <| Qv Mv <| Qv Mv <| Qv Ix <| Qv (Val.loadFl (enc := lkC) rfl Tryz.isAgg133 (by repeat (first | exact .here | exact .inner .here | exact .inner (.inner .here) | refine .there ?_)) lkC_len hu Tryz.sizeOf133) <| Qc (Qcall.ofF (f := 125) (caps := []) rfl rfl Tryz.call125 (fun w hw => byVer_c v u w)) <| Qv Cm <| Qv Nt <| Ql <| Ps ?_
            refine CW.cond rfl (fun h171 => ?_) (fun h171 => ?_)
            · replace h171 := bT h171
              rw [cmpE_ge] at h171
              refine Rg <| Lv Mv <| Lv Ar <| Lv Av <| Nl <| Bn ?_
              exact roundA ((c + 1, k.2)) ⟨by simp only; omega, by simp only; omega, hk3, .inr ⟨u, v, by simpa using hu, by rw [show nn - (c + 1) = nn - 1 - c by omega]; exact hv, by omega⟩, hk5⟩ (by simp only; omega)
            · replace h171 := bF h171
              rw [cmpE_lt] at h171
              refine Rg <| Lv Mv <| Lv Av <| Nl <| Bn ?_
              exact roundA ((k.1, c)) ⟨hk1, by simp only; omega, by simp only; omega, hk4, .inr ⟨u, v, hu, hv, by omega⟩⟩ (by simp only; omega)
          · replace h151 := bF h151
            obtain ⟨s, r⟩ := k
            simp only at hk1 hk2 hk3 hk4 hk5 h151
            obtain rfl : s = r := by omega
            obtain ⟨A1, A2, B1, B2, rfl, rfl, hs1, he1, hsn, hmd, hx1, hx2⟩ := sym_core (Y := Y) hA hB ha hmm hb hmid hnn hlo hhi hk1 hk3 hk4 hk5
            refine Xt <| Te <| Te <| Bh <| Ps <| Sq <| Rg <| Lv Mv <| Lv Mv <| Lv Ar <| LW.re 177 (.int .i64 ((nn - s : Nat) : Int)) rfl (by congr 1; omega) <| Lv Av <| Nl <| Ps <| Sq <| Sq <| Rg <| Lv Mv <| Lv Mv <| Lv Cm <| Lv Mv ?_
            refine LW.split (d := 181) rfl (fun h181 => ?_) (fun h181 => ?_)
            · replace h181 := bT h181
              refine Lv Mv <| Lv Mv <| Lv Cm <| Lv Pt <| Nl <| Ps ?_
              refine CW.cond rfl (fun h185 => ?_) (fun h185 => ?_)
              · replace h185 := bT h185
                refine Rg <| Lv Mv <| Lv Mv <| Lv Mv <| Lv Mv <| Lv Mv <| Le (CM ([[(g, .cells ((X ++ ((A1 ++ A2) ++ ((B1 ++ B2) ++ Y))).flatMap lkC ++ rest).toArray 133 (0, 0))]]) fun w hw hs => rot_c g cap n s m (nn - s) rest (X ++ A1) A2 B1 (B2 ++ Y) (X ++ ((A1 ++ A2) ++ ((B1 ++ B2) ++ Y))) (X ++ ((A1 ++ B1) ++ ((A2 ++ B2) ++ Y))) (by simp) (by simp) hn (by simp; omega) (by simp at hmm; omega) (by omega) (by simp at hmm; omega) (by omega) hm w hs) fun _ _ => Nl <| Ps <| Sq <| Sq <| Rg <| Lv Mv <| Lv Mv <| Lv Cm <| Lv Mv ?_
                refine LW.split (d := 195) rfl (fun h195 => ?_) (fun h195 => ?_)
                · replace h195 := bT h195
                  refine Lv Mv <| Lv Mv <| Lv Cm <| Lv Pt <| Nl <| Ps ?_
                  refine CW.cond rfl (fun h199 => ?_) (fun h199 => ?_)
                  · replace h199 := bT h199
                    refine Rg <| Lv Mv <| Lv Mv <| Lv Mv <| Lv Mv <| Lv Mv <| Le (CM ([[(g, .cells ((X ++ ((A1 ++ B1) ++ ((A2 ++ B2) ++ Y))).flatMap lkC ++ rest).toArray 133 (0, 0))]]) fun w hw hs => ih a s mid X A1 B1 ((A2 ++ B2) ++ Y) (X ++ ((A1 ++ B1) ++ ((A2 ++ B2) ++ Y))) (by simp at hN hmm hb; omega) (by simp) (by rw [← hn]; simp; omega) ha hs1.symm (by omega) (by omega) (by omega) hA.of_app.1 hB.of_app.1 w hs) fun M1 hM1 => Nl <| Ps <| Sq <| Rg <| Lv Mv <| Lv Mv <| Lv Cm <| Lv Mv ?_
                    refine LW.split (d := 209) rfl (fun h209 => ?_) (fun h209 => ?_)
                    · replace h209 := bT h209
                      refine Lv Mv <| Lv Mv <| Lv Cm <| Lv Pt <| Nl <| Ps ?_
                      refine CW.cond rfl (fun h213 => ?_) (fun h213 => ?_)
                      · replace h213 := bT h213
                        refine Rg <| Lv Mv <| Lv Mv <| Lv Mv <| Lv Mv <| Lv Mv <| Le (CM ([[(g, .cells ((X ++ (M1 ++ ((A2 ++ B2) ++ Y))).flatMap lkC ++ rest).toArray 133 (0, 0))]]) fun w hw hs => ih mid (nn - s) b (X ++ M1) A2 B2 Y (X ++ (M1 ++ ((A2 ++ B2) ++ Y))) (by simp at hN hmm hb; omega) (by simp) (by rw [← hn]; have := hM1.1.1; simp at this ⊢; omega) (by have := hM1.1.1; simp at this ⊢; omega) (by simp at hmm; omega) (by simp at hb; omega) (by simp at hmm; omega) (by simp at hb; omega) hA.of_app.2.1 hB.of_app.2.1 w hs) fun M2 hM2 => Nl <| PQ.end0 rfl fun w' hw => ?_
                        rw [show (X ++ M1) ++ (M2 ++ Y) = X ++ ((M1 ++ M2) ++ Y) from by simp] at hw
                        exact ⟨M1 ++ M2, sym_fin hA hB hx1 hx2 hM1 hM2, rfl, hw⟩
                      · replace h213 := bF h213
                        refine Sk <| PQ.end0 rfl fun w' hw => ?_
                        have hM2 : Sta Lk.ver (A2 ++ B2) (A2 ++ B2) ∧ Up Lk.ver (A2 ++ B2) := ⟨Sta.refl _, by
                          have : A2.length = 0 ∨ B2.length = 0 := by simp at hmm hb; omega
                          rcases this with h | h
                          · have := List.length_eq_zero_iff.1 h; subst this; exact hB.of_app.2.1
                          · have := List.length_eq_zero_iff.1 h; subst this; rw [List.append_nil]; exact hA.of_app.2.1⟩
                        rw [show X ++ (M1 ++ ((A2 ++ B2) ++ Y)) = X ++ ((M1 ++ (A2 ++ B2)) ++ Y) from by simp] at hw
                        exact ⟨M1 ++ (A2 ++ B2), sym_fin hA hB hx1 hx2 hM1 hM2, rfl, hw⟩
                    · replace h209 := bF h209
                      refine Lp <| Lp <| Lp <| Lv Pf <| Nl <| Ps <| Cf <| Sk <| PQ.end0 rfl fun w' hw => ?_
                      have hM2 : Sta Lk.ver (A2 ++ B2) (A2 ++ B2) ∧ Up Lk.ver (A2 ++ B2) := ⟨Sta.refl _, by
                        have : A2.length = 0 ∨ B2.length = 0 := by simp at hmm hb; omega
                        rcases this with h | h
                        · have := List.length_eq_zero_iff.1 h; subst this; exact hB.of_app.2.1
                        · have := List.length_eq_zero_iff.1 h; subst this; rw [List.append_nil]; exact hA.of_app.2.1⟩
                      rw [show X ++ (M1 ++ ((A2 ++ B2) ++ Y)) = X ++ ((M1 ++ (A2 ++ B2)) ++ Y) from by simp] at hw
                      exact ⟨M1 ++ (A2 ++ B2), sym_fin hA hB hx1 hx2 hM1 hM2, rfl, hw⟩
                  · replace h199 := bF h199
                    refine Sk <| Ps <| Sq ?_
                    obtain ⟨M1, hM1, hE⟩ : ∃ M1, (Sta Lk.ver (A1 ++ B1) M1 ∧ Up Lk.ver M1) ∧ A1 ++ B1 = M1 := ⟨_, ⟨Sta.refl _, by
                      have : A1.length = 0 ∨ B1.length = 0 := by omega
                      rcases this with h | h
                      · have := List.length_eq_zero_iff.1 h; subst this; exact hB.of_app.1
                      · have := List.length_eq_zero_iff.1 h; subst this; rw [List.append_nil]; exact hA.of_app.1⟩, rfl⟩
                    rw [hE]
                    refine Rg <| Lv Mv <| Lv Mv <| Lv Cm <| Lv Mv ?_
                    refine LW.split (d := 209) rfl (fun h209 => ?_) (fun h209 => ?_)
                    · replace h209 := bT h209
                      refine Lv Mv <| Lv Mv <| Lv Cm <| Lv Pt <| Nl <| Ps ?_
                      refine CW.cond rfl (fun h213 => ?_) (fun h213 => ?_)
                      · replace h213 := bT h213
                        refine Rg <| Lv Mv <| Lv Mv <| Lv Mv <| Lv Mv <| Lv Mv <| Le (CM ([[(g, .cells ((X ++ (M1 ++ ((A2 ++ B2) ++ Y))).flatMap lkC ++ rest).toArray 133 (0, 0))]]) fun w hw hs => ih mid (nn - s) b (X ++ M1) A2 B2 Y (X ++ (M1 ++ ((A2 ++ B2) ++ Y))) (by simp at hN hmm hb; omega) (by simp) (by rw [← hn]; have := hM1.1.1; simp at this ⊢; omega) (by have := hM1.1.1; simp at this ⊢; omega) (by simp at hmm; omega) (by simp at hb; omega) (by simp at hmm; omega) (by simp at hb; omega) hA.of_app.2.1 hB.of_app.2.1 w hs) fun M2 hM2 => Nl <| PQ.end0 rfl fun w' hw => ?_
                        rw [show (X ++ M1) ++ (M2 ++ Y) = X ++ ((M1 ++ M2) ++ Y) from by simp] at hw
                        exact ⟨M1 ++ M2, sym_fin hA hB hx1 hx2 hM1 hM2, rfl, hw⟩
                      · replace h213 := bF h213
                        refine Sk <| PQ.end0 rfl fun w' hw => ?_
                        have hM2 : Sta Lk.ver (A2 ++ B2) (A2 ++ B2) ∧ Up Lk.ver (A2 ++ B2) := ⟨Sta.refl _, by
                          have : A2.length = 0 ∨ B2.length = 0 := by simp at hmm hb; omega
                          rcases this with h | h
                          · have := List.length_eq_zero_iff.1 h; subst this; exact hB.of_app.2.1
                          · have := List.length_eq_zero_iff.1 h; subst this; rw [List.append_nil]; exact hA.of_app.2.1⟩
                        rw [show X ++ (M1 ++ ((A2 ++ B2) ++ Y)) = X ++ ((M1 ++ (A2 ++ B2)) ++ Y) from by simp] at hw
                        exact ⟨M1 ++ (A2 ++ B2), sym_fin hA hB hx1 hx2 hM1 hM2, rfl, hw⟩
                    · replace h209 := bF h209
                      refine Lp <| Lp <| Lp <| Lv Pf <| Nl <| Ps <| Cf <| Sk <| PQ.end0 rfl fun w' hw => ?_
                      have hM2 : Sta Lk.ver (A2 ++ B2) (A2 ++ B2) ∧ Up Lk.ver (A2 ++ B2) := ⟨Sta.refl _, by
                        have : A2.length = 0 ∨ B2.length = 0 := by simp at hmm hb; omega
                        rcases this with h | h
                        · have := List.length_eq_zero_iff.1 h; subst this; exact hB.of_app.2.1
                        · have := List.length_eq_zero_iff.1 h; subst this; rw [List.append_nil]; exact hA.of_app.2.1⟩
                      rw [show X ++ (M1 ++ ((A2 ++ B2) ++ Y)) = X ++ ((M1 ++ (A2 ++ B2)) ++ Y) from by simp] at hw
                      exact ⟨M1 ++ (A2 ++ B2), sym_fin hA hB hx1 hx2 hM1 hM2, rfl, hw⟩
                · replace h195 := bF h195
                  refine Lp <| Lp <| Lp <| Lv Pf <| Nl <| Ps <| Cf <| Sk <| Ps <| Sq ?_
                  obtain ⟨M1, hM1, hE⟩ : ∃ M1, (Sta Lk.ver (A1 ++ B1) M1 ∧ Up Lk.ver M1) ∧ A1 ++ B1 = M1 := ⟨_, ⟨Sta.refl _, by
                    have : A1.length = 0 ∨ B1.length = 0 := by omega
                    rcases this with h | h
                    · have := List.length_eq_zero_iff.1 h; subst this; exact hB.of_app.1
                    · have := List.length_eq_zero_iff.1 h; subst this; rw [List.append_nil]; exact hA.of_app.1⟩, rfl⟩
                  rw [hE]
                  refine Rg <| Lv Mv <| Lv Mv <| Lv Cm <| Lv Mv ?_
                  refine LW.split (d := 209) rfl (fun h209 => ?_) (fun h209 => ?_)
                  · replace h209 := bT h209
                    refine Lv Mv <| Lv Mv <| Lv Cm <| Lv Pt <| Nl <| Ps ?_
                    refine CW.cond rfl (fun h213 => ?_) (fun h213 => ?_)
                    · replace h213 := bT h213
                      refine Rg <| Lv Mv <| Lv Mv <| Lv Mv <| Lv Mv <| Lv Mv <| Le (CM ([[(g, .cells ((X ++ (M1 ++ ((A2 ++ B2) ++ Y))).flatMap lkC ++ rest).toArray 133 (0, 0))]]) fun w hw hs => ih mid (nn - s) b (X ++ M1) A2 B2 Y (X ++ (M1 ++ ((A2 ++ B2) ++ Y))) (by simp at hN hmm hb; omega) (by simp) (by rw [← hn]; have := hM1.1.1; simp at this ⊢; omega) (by have := hM1.1.1; simp at this ⊢; omega) (by simp at hmm; omega) (by simp at hb; omega) (by simp at hmm; omega) (by simp at hb; omega) hA.of_app.2.1 hB.of_app.2.1 w hs) fun M2 hM2 => Nl <| PQ.end0 rfl fun w' hw => ?_
                      rw [show (X ++ M1) ++ (M2 ++ Y) = X ++ ((M1 ++ M2) ++ Y) from by simp] at hw
                      exact ⟨M1 ++ M2, sym_fin hA hB hx1 hx2 hM1 hM2, rfl, hw⟩
                    · replace h213 := bF h213
                      refine Sk <| PQ.end0 rfl fun w' hw => ?_
                      have hM2 : Sta Lk.ver (A2 ++ B2) (A2 ++ B2) ∧ Up Lk.ver (A2 ++ B2) := ⟨Sta.refl _, by
                        have : A2.length = 0 ∨ B2.length = 0 := by simp at hmm hb; omega
                        rcases this with h | h
                        · have := List.length_eq_zero_iff.1 h; subst this; exact hB.of_app.2.1
                        · have := List.length_eq_zero_iff.1 h; subst this; rw [List.append_nil]; exact hA.of_app.2.1⟩
                      rw [show X ++ (M1 ++ ((A2 ++ B2) ++ Y)) = X ++ ((M1 ++ (A2 ++ B2)) ++ Y) from by simp] at hw
                      exact ⟨M1 ++ (A2 ++ B2), sym_fin hA hB hx1 hx2 hM1 hM2, rfl, hw⟩
                  · replace h209 := bF h209
                    refine Lp <| Lp <| Lp <| Lv Pf <| Nl <| Ps <| Cf <| Sk <| PQ.end0 rfl fun w' hw => ?_
                    have hM2 : Sta Lk.ver (A2 ++ B2) (A2 ++ B2) ∧ Up Lk.ver (A2 ++ B2) := ⟨Sta.refl _, by
                      have : A2.length = 0 ∨ B2.length = 0 := by simp at hmm hb; omega
                      rcases this with h | h
                      · have := List.length_eq_zero_iff.1 h; subst this; exact hB.of_app.2.1
                      · have := List.length_eq_zero_iff.1 h; subst this; rw [List.append_nil]; exact hA.of_app.2.1⟩
                    rw [show X ++ (M1 ++ ((A2 ++ B2) ++ Y)) = X ++ ((M1 ++ (A2 ++ B2)) ++ Y) from by simp] at hw
                    exact ⟨M1 ++ (A2 ++ B2), sym_fin hA hB hx1 hx2 hM1 hM2, rfl, hw⟩
              · replace h185 := bF h185
                refine Sk <| Ps <| Sq <| Sq ?_
                have hz : A2 = [] ∨ B1 = [] := by
                  have : A2.length = 0 ∨ B1.length = 0 := by simp at hmm; omega
                  rcases this with h | h
                  · exact .inl (List.length_eq_zero_iff.1 h)
                  · exact .inr (List.length_eq_zero_iff.1 h)
                rw [show X ++ ((A1 ++ A2) ++ ((B1 ++ B2) ++ Y)) = X ++ ((A1 ++ B1) ++ ((A2 ++ B2) ++ Y)) from by rcases hz with rfl | rfl <;> simp]
                refine Rg <| Lv Mv <| Lv Mv <| Lv Cm <| Lv Mv ?_
                refine LW.split (d := 195) rfl (fun h195 => ?_) (fun h195 => ?_)
                · replace h195 := bT h195
                  refine Lv Mv <| Lv Mv <| Lv Cm <| Lv Pt <| Nl <| Ps ?_
                  refine CW.cond rfl (fun h199 => ?_) (fun h199 => ?_)
                  · replace h199 := bT h199
                    refine Rg <| Lv Mv <| Lv Mv <| Lv Mv <| Lv Mv <| Lv Mv <| Le (CM ([[(g, .cells ((X ++ ((A1 ++ B1) ++ ((A2 ++ B2) ++ Y))).flatMap lkC ++ rest).toArray 133 (0, 0))]]) fun w hw hs => ih a s mid X A1 B1 ((A2 ++ B2) ++ Y) (X ++ ((A1 ++ B1) ++ ((A2 ++ B2) ++ Y))) (by simp at hN hmm hb; omega) (by simp) (by rw [← hn]; simp; omega) ha hs1.symm (by omega) (by omega) (by omega) hA.of_app.1 hB.of_app.1 w hs) fun M1 hM1 => Nl <| Ps <| Sq <| Rg <| Lv Mv <| Lv Mv <| Lv Cm <| Lv Mv ?_
                    refine LW.split (d := 209) rfl (fun h209 => ?_) (fun h209 => ?_)
                    · replace h209 := bT h209
                      refine Lv Mv <| Lv Mv <| Lv Cm <| Lv Pt <| Nl <| Ps ?_
                      refine CW.cond rfl (fun h213 => ?_) (fun h213 => ?_)
                      · replace h213 := bT h213
                        refine Rg <| Lv Mv <| Lv Mv <| Lv Mv <| Lv Mv <| Lv Mv <| Le (CM ([[(g, .cells ((X ++ (M1 ++ ((A2 ++ B2) ++ Y))).flatMap lkC ++ rest).toArray 133 (0, 0))]]) fun w hw hs => ih mid (nn - s) b (X ++ M1) A2 B2 Y (X ++ (M1 ++ ((A2 ++ B2) ++ Y))) (by simp at hN hmm hb; omega) (by simp) (by rw [← hn]; have := hM1.1.1; simp at this ⊢; omega) (by have := hM1.1.1; simp at this ⊢; omega) (by simp at hmm; omega) (by simp at hb; omega) (by simp at hmm; omega) (by simp at hb; omega) hA.of_app.2.1 hB.of_app.2.1 w hs) fun M2 hM2 => Nl <| PQ.end0 rfl fun w' hw => ?_
                        rw [show (X ++ M1) ++ (M2 ++ Y) = X ++ ((M1 ++ M2) ++ Y) from by simp] at hw
                        exact ⟨M1 ++ M2, sym_fin hA hB hx1 hx2 hM1 hM2, rfl, hw⟩
                      · replace h213 := bF h213
                        refine Sk <| PQ.end0 rfl fun w' hw => ?_
                        have hM2 : Sta Lk.ver (A2 ++ B2) (A2 ++ B2) ∧ Up Lk.ver (A2 ++ B2) := ⟨Sta.refl _, by
                          have : A2.length = 0 ∨ B2.length = 0 := by simp at hmm hb; omega
                          rcases this with h | h
                          · have := List.length_eq_zero_iff.1 h; subst this; exact hB.of_app.2.1
                          · have := List.length_eq_zero_iff.1 h; subst this; rw [List.append_nil]; exact hA.of_app.2.1⟩
                        rw [show X ++ (M1 ++ ((A2 ++ B2) ++ Y)) = X ++ ((M1 ++ (A2 ++ B2)) ++ Y) from by simp] at hw
                        exact ⟨M1 ++ (A2 ++ B2), sym_fin hA hB hx1 hx2 hM1 hM2, rfl, hw⟩
                    · replace h209 := bF h209
                      refine Lp <| Lp <| Lp <| Lv Pf <| Nl <| Ps <| Cf <| Sk <| PQ.end0 rfl fun w' hw => ?_
                      have hM2 : Sta Lk.ver (A2 ++ B2) (A2 ++ B2) ∧ Up Lk.ver (A2 ++ B2) := ⟨Sta.refl _, by
                        have : A2.length = 0 ∨ B2.length = 0 := by simp at hmm hb; omega
                        rcases this with h | h
                        · have := List.length_eq_zero_iff.1 h; subst this; exact hB.of_app.2.1
                        · have := List.length_eq_zero_iff.1 h; subst this; rw [List.append_nil]; exact hA.of_app.2.1⟩
                      rw [show X ++ (M1 ++ ((A2 ++ B2) ++ Y)) = X ++ ((M1 ++ (A2 ++ B2)) ++ Y) from by simp] at hw
                      exact ⟨M1 ++ (A2 ++ B2), sym_fin hA hB hx1 hx2 hM1 hM2, rfl, hw⟩
                  · replace h199 := bF h199
                    refine Sk <| Ps <| Sq ?_
                    obtain ⟨M1, hM1, hE⟩ : ∃ M1, (Sta Lk.ver (A1 ++ B1) M1 ∧ Up Lk.ver M1) ∧ A1 ++ B1 = M1 := ⟨_, ⟨Sta.refl _, by
                      have : A1.length = 0 ∨ B1.length = 0 := by omega
                      rcases this with h | h
                      · have := List.length_eq_zero_iff.1 h; subst this; exact hB.of_app.1
                      · have := List.length_eq_zero_iff.1 h; subst this; rw [List.append_nil]; exact hA.of_app.1⟩, rfl⟩
                    rw [hE]
                    refine Rg <| Lv Mv <| Lv Mv <| Lv Cm <| Lv Mv ?_
                    refine LW.split (d := 209) rfl (fun h209 => ?_) (fun h209 => ?_)
                    · replace h209 := bT h209
                      refine Lv Mv <| Lv Mv <| Lv Cm <| Lv Pt <| Nl <| Ps ?_
                      refine CW.cond rfl (fun h213 => ?_) (fun h213 => ?_)
                      · replace h213 := bT h213
                        refine Rg <| Lv Mv <| Lv Mv <| Lv Mv <| Lv Mv <| Lv Mv <| Le (CM ([[(g, .cells ((X ++ (M1 ++ ((A2 ++ B2) ++ Y))).flatMap lkC ++ rest).toArray 133 (0, 0))]]) fun w hw hs => ih mid (nn - s) b (X ++ M1) A2 B2 Y (X ++ (M1 ++ ((A2 ++ B2) ++ Y))) (by simp at hN hmm hb; omega) (by simp) (by rw [← hn]; have := hM1.1.1; simp at this ⊢; omega) (by have := hM1.1.1; simp at this ⊢; omega) (by simp at hmm; omega) (by simp at hb; omega) (by simp at hmm; omega) (by simp at hb; omega) hA.of_app.2.1 hB.of_app.2.1 w hs) fun M2 hM2 => Nl <| PQ.end0 rfl fun w' hw => ?_
                        rw [show (X ++ M1) ++ (M2 ++ Y) = X ++ ((M1 ++ M2) ++ Y) from by simp] at hw
                        exact ⟨M1 ++ M2, sym_fin hA hB hx1 hx2 hM1 hM2, rfl, hw⟩
                      · replace h213 := bF h213
                        refine Sk <| PQ.end0 rfl fun w' hw => ?_
                        have hM2 : Sta Lk.ver (A2 ++ B2) (A2 ++ B2) ∧ Up Lk.ver (A2 ++ B2) := ⟨Sta.refl _, by
                          have : A2.length = 0 ∨ B2.length = 0 := by simp at hmm hb; omega
                          rcases this with h | h
                          · have := List.length_eq_zero_iff.1 h; subst this; exact hB.of_app.2.1
                          · have := List.length_eq_zero_iff.1 h; subst this; rw [List.append_nil]; exact hA.of_app.2.1⟩
                        rw [show X ++ (M1 ++ ((A2 ++ B2) ++ Y)) = X ++ ((M1 ++ (A2 ++ B2)) ++ Y) from by simp] at hw
                        exact ⟨M1 ++ (A2 ++ B2), sym_fin hA hB hx1 hx2 hM1 hM2, rfl, hw⟩
                    · replace h209 := bF h209
                      refine Lp <| Lp <| Lp <| Lv Pf <| Nl <| Ps <| Cf <| Sk <| PQ.end0 rfl fun w' hw => ?_
                      have hM2 : Sta Lk.ver (A2 ++ B2) (A2 ++ B2) ∧ Up Lk.ver (A2 ++ B2) := ⟨Sta.refl _, by
                        have : A2.length = 0 ∨ B2.length = 0 := by simp at hmm hb; omega
                        rcases this with h | h
                        · have := List.length_eq_zero_iff.1 h; subst this; exact hB.of_app.2.1
                        · have := List.length_eq_zero_iff.1 h; subst this; rw [List.append_nil]; exact hA.of_app.2.1⟩
                      rw [show X ++ (M1 ++ ((A2 ++ B2) ++ Y)) = X ++ ((M1 ++ (A2 ++ B2)) ++ Y) from by simp] at hw
                      exact ⟨M1 ++ (A2 ++ B2), sym_fin hA hB hx1 hx2 hM1 hM2, rfl, hw⟩
                · replace h195 := bF h195
                  refine Lp <| Lp <| Lp <| Lv Pf <| Nl <| Ps <| Cf <| Sk <| Ps <| Sq ?_
                  obtain ⟨M1, hM1, hE⟩ : ∃ M1, (Sta Lk.ver (A1 ++ B1) M1 ∧ Up Lk.ver M1) ∧ A1 ++ B1 = M1 := ⟨_, ⟨Sta.refl _, by
                    have : A1.length = 0 ∨ B1.length = 0 := by omega
                    rcases this with h | h
                    · have := List.length_eq_zero_iff.1 h; subst this; exact hB.of_app.1
                    · have := List.length_eq_zero_iff.1 h; subst this; rw [List.append_nil]; exact hA.of_app.1⟩, rfl⟩
                  rw [hE]
                  refine Rg <| Lv Mv <| Lv Mv <| Lv Cm <| Lv Mv ?_
                  refine LW.split (d := 209) rfl (fun h209 => ?_) (fun h209 => ?_)
                  · replace h209 := bT h209
                    refine Lv Mv <| Lv Mv <| Lv Cm <| Lv Pt <| Nl <| Ps ?_
                    refine CW.cond rfl (fun h213 => ?_) (fun h213 => ?_)
                    · replace h213 := bT h213
                      refine Rg <| Lv Mv <| Lv Mv <| Lv Mv <| Lv Mv <| Lv Mv <| Le (CM ([[(g, .cells ((X ++ (M1 ++ ((A2 ++ B2) ++ Y))).flatMap lkC ++ rest).toArray 133 (0, 0))]]) fun w hw hs => ih mid (nn - s) b (X ++ M1) A2 B2 Y (X ++ (M1 ++ ((A2 ++ B2) ++ Y))) (by simp at hN hmm hb; omega) (by simp) (by rw [← hn]; have := hM1.1.1; simp at this ⊢; omega) (by have := hM1.1.1; simp at this ⊢; omega) (by simp at hmm; omega) (by simp at hb; omega) (by simp at hmm; omega) (by simp at hb; omega) hA.of_app.2.1 hB.of_app.2.1 w hs) fun M2 hM2 => Nl <| PQ.end0 rfl fun w' hw => ?_
                      rw [show (X ++ M1) ++ (M2 ++ Y) = X ++ ((M1 ++ M2) ++ Y) from by simp] at hw
                      exact ⟨M1 ++ M2, sym_fin hA hB hx1 hx2 hM1 hM2, rfl, hw⟩
                    · replace h213 := bF h213
                      refine Sk <| PQ.end0 rfl fun w' hw => ?_
                      have hM2 : Sta Lk.ver (A2 ++ B2) (A2 ++ B2) ∧ Up Lk.ver (A2 ++ B2) := ⟨Sta.refl _, by
                        have : A2.length = 0 ∨ B2.length = 0 := by simp at hmm hb; omega
                        rcases this with h | h
                        · have := List.length_eq_zero_iff.1 h; subst this; exact hB.of_app.2.1
                        · have := List.length_eq_zero_iff.1 h; subst this; rw [List.append_nil]; exact hA.of_app.2.1⟩
                      rw [show X ++ (M1 ++ ((A2 ++ B2) ++ Y)) = X ++ ((M1 ++ (A2 ++ B2)) ++ Y) from by simp] at hw
                      exact ⟨M1 ++ (A2 ++ B2), sym_fin hA hB hx1 hx2 hM1 hM2, rfl, hw⟩
                  · replace h209 := bF h209
                    refine Lp <| Lp <| Lp <| Lv Pf <| Nl <| Ps <| Cf <| Sk <| PQ.end0 rfl fun w' hw => ?_
                    have hM2 : Sta Lk.ver (A2 ++ B2) (A2 ++ B2) ∧ Up Lk.ver (A2 ++ B2) := ⟨Sta.refl _, by
                      have : A2.length = 0 ∨ B2.length = 0 := by simp at hmm hb; omega
                      rcases this with h | h
                      · have := List.length_eq_zero_iff.1 h; subst this; exact hB.of_app.2.1
                      · have := List.length_eq_zero_iff.1 h; subst this; rw [List.append_nil]; exact hA.of_app.2.1⟩
                    rw [show X ++ (M1 ++ ((A2 ++ B2) ++ Y)) = X ++ ((M1 ++ (A2 ++ B2)) ++ Y) from by simp] at hw
                    exact ⟨M1 ++ (A2 ++ B2), sym_fin hA hB hx1 hx2 hM1 hM2, rfl, hw⟩
            · replace h181 := bF h181
              refine Lp <| Lp <| Lp <| Lv Pf <| Nl <| Ps <| Cf <| Sk <| Ps <| Sq <| Sq ?_
              have hz : A2 = [] ∨ B1 = [] := by
                have : A2.length = 0 ∨ B1.length = 0 := by simp at hmm; omega
                rcases this with h | h
                · exact .inl (List.length_eq_zero_iff.1 h)
                · exact .inr (List.length_eq_zero_iff.1 h)
              rw [show X ++ ((A1 ++ A2) ++ ((B1 ++ B2) ++ Y)) = X ++ ((A1 ++ B1) ++ ((A2 ++ B2) ++ Y)) from by rcases hz with rfl | rfl <;> simp]
              refine Rg <| Lv Mv <| Lv Mv <| Lv Cm <| Lv Mv ?_
              refine LW.split (d := 195) rfl (fun h195 => ?_) (fun h195 => ?_)
              · replace h195 := bT h195
                refine Lv Mv <| Lv Mv <| Lv Cm <| Lv Pt <| Nl <| Ps ?_
                refine CW.cond rfl (fun h199 => ?_) (fun h199 => ?_)
                · replace h199 := bT h199
                  refine Rg <| Lv Mv <| Lv Mv <| Lv Mv <| Lv Mv <| Lv Mv <| Le (CM ([[(g, .cells ((X ++ ((A1 ++ B1) ++ ((A2 ++ B2) ++ Y))).flatMap lkC ++ rest).toArray 133 (0, 0))]]) fun w hw hs => ih a s mid X A1 B1 ((A2 ++ B2) ++ Y) (X ++ ((A1 ++ B1) ++ ((A2 ++ B2) ++ Y))) (by simp at hN hmm hb; omega) (by simp) (by rw [← hn]; simp; omega) ha hs1.symm (by omega) (by omega) (by omega) hA.of_app.1 hB.of_app.1 w hs) fun M1 hM1 => Nl <| Ps <| Sq <| Rg <| Lv Mv <| Lv Mv <| Lv Cm <| Lv Mv ?_
                  refine LW.split (d := 209) rfl (fun h209 => ?_) (fun h209 => ?_)
                  · replace h209 := bT h209
                    refine Lv Mv <| Lv Mv <| Lv Cm <| Lv Pt <| Nl <| Ps ?_
                    refine CW.cond rfl (fun h213 => ?_) (fun h213 => ?_)
                    · replace h213 := bT h213
                      refine Rg <| Lv Mv <| Lv Mv <| Lv Mv <| Lv Mv <| Lv Mv <| Le (CM ([[(g, .cells ((X ++ (M1 ++ ((A2 ++ B2) ++ Y))).flatMap lkC ++ rest).toArray 133 (0, 0))]]) fun w hw hs => ih mid (nn - s) b (X ++ M1) A2 B2 Y (X ++ (M1 ++ ((A2 ++ B2) ++ Y))) (by simp at hN hmm hb; omega) (by simp) (by rw [← hn]; have := hM1.1.1; simp at this ⊢; omega) (by have := hM1.1.1; simp at this ⊢; omega) (by simp at hmm; omega) (by simp at hb; omega) (by simp at hmm; omega) (by simp at hb; omega) hA.of_app.2.1 hB.of_app.2.1 w hs) fun M2 hM2 => Nl <| PQ.end0 rfl fun w' hw => ?_
                      rw [show (X ++ M1) ++ (M2 ++ Y) = X ++ ((M1 ++ M2) ++ Y) from by simp] at hw
                      exact ⟨M1 ++ M2, sym_fin hA hB hx1 hx2 hM1 hM2, rfl, hw⟩
                    · replace h213 := bF h213
                      refine Sk <| PQ.end0 rfl fun w' hw => ?_
                      have hM2 : Sta Lk.ver (A2 ++ B2) (A2 ++ B2) ∧ Up Lk.ver (A2 ++ B2) := ⟨Sta.refl _, by
                        have : A2.length = 0 ∨ B2.length = 0 := by simp at hmm hb; omega
                        rcases this with h | h
                        · have := List.length_eq_zero_iff.1 h; subst this; exact hB.of_app.2.1
                        · have := List.length_eq_zero_iff.1 h; subst this; rw [List.append_nil]; exact hA.of_app.2.1⟩
                      rw [show X ++ (M1 ++ ((A2 ++ B2) ++ Y)) = X ++ ((M1 ++ (A2 ++ B2)) ++ Y) from by simp] at hw
                      exact ⟨M1 ++ (A2 ++ B2), sym_fin hA hB hx1 hx2 hM1 hM2, rfl, hw⟩
                  · replace h209 := bF h209
                    refine Lp <| Lp <| Lp <| Lv Pf <| Nl <| Ps <| Cf <| Sk <| PQ.end0 rfl fun w' hw => ?_
                    have hM2 : Sta Lk.ver (A2 ++ B2) (A2 ++ B2) ∧ Up Lk.ver (A2 ++ B2) := ⟨Sta.refl _, by
                      have : A2.length = 0 ∨ B2.length = 0 := by simp at hmm hb; omega
                      rcases this with h | h
                      · have := List.length_eq_zero_iff.1 h; subst this; exact hB.of_app.2.1
                      · have := List.length_eq_zero_iff.1 h; subst this; rw [List.append_nil]; exact hA.of_app.2.1⟩
                    rw [show X ++ (M1 ++ ((A2 ++ B2) ++ Y)) = X ++ ((M1 ++ (A2 ++ B2)) ++ Y) from by simp] at hw
                    exact ⟨M1 ++ (A2 ++ B2), sym_fin hA hB hx1 hx2 hM1 hM2, rfl, hw⟩
                · replace h199 := bF h199
                  refine Sk <| Ps <| Sq ?_
                  obtain ⟨M1, hM1, hE⟩ : ∃ M1, (Sta Lk.ver (A1 ++ B1) M1 ∧ Up Lk.ver M1) ∧ A1 ++ B1 = M1 := ⟨_, ⟨Sta.refl _, by
                    have : A1.length = 0 ∨ B1.length = 0 := by omega
                    rcases this with h | h
                    · have := List.length_eq_zero_iff.1 h; subst this; exact hB.of_app.1
                    · have := List.length_eq_zero_iff.1 h; subst this; rw [List.append_nil]; exact hA.of_app.1⟩, rfl⟩
                  rw [hE]
                  refine Rg <| Lv Mv <| Lv Mv <| Lv Cm <| Lv Mv ?_
                  refine LW.split (d := 209) rfl (fun h209 => ?_) (fun h209 => ?_)
                  · replace h209 := bT h209
                    refine Lv Mv <| Lv Mv <| Lv Cm <| Lv Pt <| Nl <| Ps ?_
                    refine CW.cond rfl (fun h213 => ?_) (fun h213 => ?_)
                    · replace h213 := bT h213
                      refine Rg <| Lv Mv <| Lv Mv <| Lv Mv <| Lv Mv <| Lv Mv <| Le (CM ([[(g, .cells ((X ++ (M1 ++ ((A2 ++ B2) ++ Y))).flatMap lkC ++ rest).toArray 133 (0, 0))]]) fun w hw hs => ih mid (nn - s) b (X ++ M1) A2 B2 Y (X ++ (M1 ++ ((A2 ++ B2) ++ Y))) (by simp at hN hmm hb; omega) (by simp) (by rw [← hn]; have := hM1.1.1; simp at this ⊢; omega) (by have := hM1.1.1; simp at this ⊢; omega) (by simp at hmm; omega) (by simp at hb; omega) (by simp at hmm; omega) (by simp at hb; omega) hA.of_app.2.1 hB.of_app.2.1 w hs) fun M2 hM2 => Nl <| PQ.end0 rfl fun w' hw => ?_
                      rw [show (X ++ M1) ++ (M2 ++ Y) = X ++ ((M1 ++ M2) ++ Y) from by simp] at hw
                      exact ⟨M1 ++ M2, sym_fin hA hB hx1 hx2 hM1 hM2, rfl, hw⟩
                    · replace h213 := bF h213
                      refine Sk <| PQ.end0 rfl fun w' hw => ?_
                      have hM2 : Sta Lk.ver (A2 ++ B2) (A2 ++ B2) ∧ Up Lk.ver (A2 ++ B2) := ⟨Sta.refl _, by
                        have : A2.length = 0 ∨ B2.length = 0 := by simp at hmm hb; omega
                        rcases this with h | h
                        · have := List.length_eq_zero_iff.1 h; subst this; exact hB.of_app.2.1
                        · have := List.length_eq_zero_iff.1 h; subst this; rw [List.append_nil]; exact hA.of_app.2.1⟩
                      rw [show X ++ (M1 ++ ((A2 ++ B2) ++ Y)) = X ++ ((M1 ++ (A2 ++ B2)) ++ Y) from by simp] at hw
                      exact ⟨M1 ++ (A2 ++ B2), sym_fin hA hB hx1 hx2 hM1 hM2, rfl, hw⟩
                  · replace h209 := bF h209
                    refine Lp <| Lp <| Lp <| Lv Pf <| Nl <| Ps <| Cf <| Sk <| PQ.end0 rfl fun w' hw => ?_
                    have hM2 : Sta Lk.ver (A2 ++ B2) (A2 ++ B2) ∧ Up Lk.ver (A2 ++ B2) := ⟨Sta.refl _, by
                      have : A2.length = 0 ∨ B2.length = 0 := by simp at hmm hb; omega
                      rcases this with h | h
                      · have := List.length_eq_zero_iff.1 h; subst this; exact hB.of_app.2.1
                      · have := List.length_eq_zero_iff.1 h; subst this; rw [List.append_nil]; exact hA.of_app.2.1⟩
                    rw [show X ++ (M1 ++ ((A2 ++ B2) ++ Y)) = X ++ ((M1 ++ (A2 ++ B2)) ++ Y) from by simp] at hw
                    exact ⟨M1 ++ (A2 ++ B2), sym_fin hA hB hx1 hx2 hM1 hM2, rfl, hw⟩
              · replace h195 := bF h195
                refine Lp <| Lp <| Lp <| Lv Pf <| Nl <| Ps <| Cf <| Sk <| Ps <| Sq ?_
                obtain ⟨M1, hM1, hE⟩ : ∃ M1, (Sta Lk.ver (A1 ++ B1) M1 ∧ Up Lk.ver M1) ∧ A1 ++ B1 = M1 := ⟨_, ⟨Sta.refl _, by
                  have : A1.length = 0 ∨ B1.length = 0 := by omega
                  rcases this with h | h
                  · have := List.length_eq_zero_iff.1 h; subst this; exact hB.of_app.1
                  · have := List.length_eq_zero_iff.1 h; subst this; rw [List.append_nil]; exact hA.of_app.1⟩, rfl⟩
                rw [hE]
                refine Rg <| Lv Mv <| Lv Mv <| Lv Cm <| Lv Mv ?_
                refine LW.split (d := 209) rfl (fun h209 => ?_) (fun h209 => ?_)
                · replace h209 := bT h209
                  refine Lv Mv <| Lv Mv <| Lv Cm <| Lv Pt <| Nl <| Ps ?_
                  refine CW.cond rfl (fun h213 => ?_) (fun h213 => ?_)
                  · replace h213 := bT h213
                    refine Rg <| Lv Mv <| Lv Mv <| Lv Mv <| Lv Mv <| Lv Mv <| Le (CM ([[(g, .cells ((X ++ (M1 ++ ((A2 ++ B2) ++ Y))).flatMap lkC ++ rest).toArray 133 (0, 0))]]) fun w hw hs => ih mid (nn - s) b (X ++ M1) A2 B2 Y (X ++ (M1 ++ ((A2 ++ B2) ++ Y))) (by simp at hN hmm hb; omega) (by simp) (by rw [← hn]; have := hM1.1.1; simp at this ⊢; omega) (by have := hM1.1.1; simp at this ⊢; omega) (by simp at hmm; omega) (by simp at hb; omega) (by simp at hmm; omega) (by simp at hb; omega) hA.of_app.2.1 hB.of_app.2.1 w hs) fun M2 hM2 => Nl <| PQ.end0 rfl fun w' hw => ?_
                    rw [show (X ++ M1) ++ (M2 ++ Y) = X ++ ((M1 ++ M2) ++ Y) from by simp] at hw
                    exact ⟨M1 ++ M2, sym_fin hA hB hx1 hx2 hM1 hM2, rfl, hw⟩
                  · replace h213 := bF h213
                    refine Sk <| PQ.end0 rfl fun w' hw => ?_
                    have hM2 : Sta Lk.ver (A2 ++ B2) (A2 ++ B2) ∧ Up Lk.ver (A2 ++ B2) := ⟨Sta.refl _, by
                      have : A2.length = 0 ∨ B2.length = 0 := by simp at hmm hb; omega
                      rcases this with h | h
                      · have := List.length_eq_zero_iff.1 h; subst this; exact hB.of_app.2.1
                      · have := List.length_eq_zero_iff.1 h; subst this; rw [List.append_nil]; exact hA.of_app.2.1⟩
                    rw [show X ++ (M1 ++ ((A2 ++ B2) ++ Y)) = X ++ ((M1 ++ (A2 ++ B2)) ++ Y) from by simp] at hw
                    exact ⟨M1 ++ (A2 ++ B2), sym_fin hA hB hx1 hx2 hM1 hM2, rfl, hw⟩
                · replace h209 := bF h209
                  refine Lp <| Lp <| Lp <| Lv Pf <| Nl <| Ps <| Cf <| Sk <| PQ.end0 rfl fun w' hw => ?_
                  have hM2 : Sta Lk.ver (A2 ++ B2) (A2 ++ B2) ∧ Up Lk.ver (A2 ++ B2) := ⟨Sta.refl _, by
                    have : A2.length = 0 ∨ B2.length = 0 := by simp at hmm hb; omega
                    rcases this with h | h
                    · have := List.length_eq_zero_iff.1 h; subst this; exact hB.of_app.2.1
                    · have := List.length_eq_zero_iff.1 h; subst this; rw [List.append_nil]; exact hA.of_app.2.1⟩
                  rw [show X ++ (M1 ++ ((A2 ++ B2) ++ Y)) = X ++ ((M1 ++ (A2 ++ B2)) ++ Y) from by simp] at hw
                  exact ⟨M1 ++ (A2 ++ B2), sym_fin hA hB hx1 hx2 hM1 hM2, rfl, hw⟩
end Stb
end G
end Go.Proofs.YtcnjjefbnlgdjaaGreat
