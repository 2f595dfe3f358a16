/- Where the first one is of which it is so; what is left when those of which it is so are struck. -/
import Derived.Test.YtcinlddejdkjeaaX0
namespace Go.Proofs.Ytcinlddejdkjeaa.G
def idxF {α : Type} (p : α → Bool) (xs : List α) : Int := if xs.findIdx p < xs.length then (xs.findIdx p : Int) else -1
theorem idxF_found {α : Type} (p : α → Bool) (xs : List α) (k : Nat) (hk : k < xs.length) (h : p xs[k] = true) (hb : ∀ j (hj : j < k), p (xs[j]'(by omega)) = false) : idxF p xs = k := by
  have e : xs.findIdx p = k := (List.findIdx_eq hk).2 ⟨h, hb⟩
  unfold idxF
  rw [e, if_pos hk]
theorem idxF_none {α : Type} (p : α → Bool) (xs : List α) (hb : ∀ j (hj : j < xs.length), p xs[j] = false) : idxF p xs = -1 := by
  unfold idxF
  rw [if_neg]
  intro h
  have := List.findIdx_getElem (w := h)
  rw [hb _ h] at this
  cases this
theorem idxF_cases {α : Type} (p : α → Bool) (xs : List α) : (idxF p xs = -1 ∧ ∀ x ∈ xs, p x = false) ∨ ∃ k : Nat, ∃ hk : k < xs.length, idxF p xs = k ∧ p xs[k] = true ∧ ∀ x ∈ xs.take k, p x = false := by
  unfold idxF
  by_cases h : xs.findIdx p < xs.length
  · rw [if_pos h]
    refine .inr ⟨_, h, rfl, List.findIdx_getElem, fun x hx => ?_⟩
    obtain ⟨j, hj, rfl⟩ := List.mem_take_iff_getElem.1 hx
    have := List.not_of_lt_findIdx (p := p) (xs := xs) (i := j) (by omega)
    simpa using this
  · rw [if_neg h]
    exact .inl ⟨rfl, fun x hx => by have := List.findIdx_eq_length.1 (by have := List.findIdx_le_length (p := p) (xs := xs); omega : xs.findIdx p = xs.length) x hx; simpa using this⟩
end Go.Proofs.Ytcinlddejdkjeaa.G
