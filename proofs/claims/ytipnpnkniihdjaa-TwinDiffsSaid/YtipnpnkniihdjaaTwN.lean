/- A key's value set: what it does to pairs. -/
import Derived.Test.YtipnpnkniihdjaaTwM
import Derived.Lib.Hide
namespace Go.Proofs.Ytipnpnkniihdjaa
open Go Go.RowKit V
set_option linter.unusedVariables false
set_option maxRecDepth 100000
def repF (k v : List UInt8) : List Pr → List Pr
  | [] => []
  | x :: r => if x.key = k then ⟨x.key, v⟩ :: r else x :: repF k v r
def insF (k v : List UInt8) : List Pr → List Pr
  | [] => [⟨k, v⟩]
  | x :: r => if k < x.key then ⟨k, v⟩ :: x :: r else x :: insF k v r
def putF (l : List Pr) (k v : List UInt8) : List Pr := if (getF l k).isSome = true then repF k v l else insF k v l
theorem getF_none {l : List Pr} {k : List UInt8} (h : getF l k = none) : ∀ x ∈ l, x.key ≠ k := by
  induction l with
  | nil => intro x hx; simp at hx
  | cons a r ih =>
    simp only [getF] at h
    split at h
    · cases h
    · rename_i hn
      intro x hx
      rcases List.mem_cons.1 hx with rfl | hx
      · exact hn
      · exact ih h x hx
theorem repF_at {l : List Pr} {j : Nat} {x : Pr} {k v : List UInt8} (hx : l[j]? = some x) : repF k v (l.drop j) = if x.key = k then ⟨x.key, v⟩ :: l.drop (j + 1) else x :: repF k v (l.drop (j + 1)) := by rw [drop_at hx, repF]
theorem insF_at {l : List Pr} {j : Nat} {x : Pr} {k v : List UInt8} (hx : l[j]? = some x) : insF k v (l.drop j) = if k < x.key then ⟨k, v⟩ :: x :: l.drop (j + 1) else x :: insF k v (l.drop (j + 1)) := by rw [drop_at hx, insF]
end Go.Proofs.Ytipnpnkniihdjaa
