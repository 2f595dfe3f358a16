/- A key is in One of it, and no other is. -/
import Derived.Test.YtodcfcfoneimiaaQx13
import Derived.Test.YtodcfcfoneimiaaP06a
namespace Go.Proofs.Ytodcfcfoneimiaa.Pure
open Go.RowKit Go.Proofs.Ytodcfcfoneimiaa.Q Go.Proofs.YtodcfcfoneimiaaW.PrintWords Go.Proofs.YtodcfcfoneimiaaW.PrintLast Go.Proofs.Ytodcfcfoneimiaa.G

theorem one_eq (a : List Int) (h : a.length ≤ 100) : keys_One.f a = some (a, a ++ [0], false) := by
  unfold keys_One.f bytes_Clone.f
  rw [if_pos (by omega)]
  simp only [Option.bind_some]
  rw [if_pos (by omega)]
theorem cb_zero_snoc : ∀ (l m : List UInt8), Lib.compareBytes m (l ++ [0]) < 0 → Lib.compareBytes m l ≤ 0
  | [], [], _ => by simp [Lib.compareBytes]
  | [], b :: m, h => by
    simp only [List.nil_append, Lib.compareBytes] at h
    by_cases z : b < 0
    · exact absurd z (UInt8.not_lt_zero)
    · by_cases z2 : (0 : UInt8) < b
      · simp [z, z2] at h
      · rw [if_neg z, if_neg z2] at h
        cases m <;> simp [Lib.compareBytes] at h
  | a :: l, [], _ => by simp [Lib.compareBytes]
  | a :: l, b :: m, h => by
    simp only [List.cons_append, Lib.compareBytes] at h ⊢
    by_cases z : b < a
    · simp [z]
    · by_cases z2 : a < b
      · simp [z, z2] at h
      · rw [if_neg z, if_neg z2] at h ⊢
        exact cb_zero_snoc l m h
theorem has_one (a b : List Int) : hasB a (a ++ [0]) false b = decide (Lib.bytesOf a = Lib.bytesOf b) := by
  rw [Bool.eq_iff_iff, hasB_iff, decide_eq_true_iff]
  have z := cmpB_zero b a
  constructor
  · rintro ⟨h1, h2⟩
    have h2 : cmpB b (a ++ [0]) < 0 := by simpa using h2
    have h3 : cmpB b a ≤ 0 := by
      unfold cmpB Lib.bytesOf at h2 ⊢
      rw [List.map_append] at h2
      exact cb_zero_snoc _ _ h2
    exact (z.1 (by omega)).symm
  · intro h
    have e : cmpB b a = 0 := z.2 h.symm
    refine ⟨by omega, .inr ?_⟩
    rw [cmpB_congr h.symm rfl, cmpB_snoc]
    omega
theorem KeysOne : godwitlaw06_KeysOne.Pure := by
  intro a b _ _
  refine ⟨1, ?_⟩
  unfold godwitlaw06_KeysOne.f
  rw [awake_true, Option.bind_some]
  have q : godwitlaw06_KeysOne.j0 1 a b true true = some true := by simp [godwitlaw06_KeysOne.j0]
  by_cases c0 : (a.length : Int) > 100
  · rw [if_pos c0]; exact q
  rw [if_neg c0]
  by_cases c1 : (b.length : Int) > 100
  · rw [decide_eq_true c1]; exact q
  rw [decide_eq_false c1]
  simp only [godwitlaw06_KeysOne.j0, one_eq a (by omega), Option.bind_some, Bool.false_eq_true, if_false, if_true, has_eq, has_one, toList_of, empty_eq]
  rw [if_pos (by simp)]
  have e : (decide (Lib.bytesOf a = Lib.bytesOf b) == (Lib.bytesOf a == Lib.bytesOf b)) = true := by
    by_cases h : Lib.bytesOf a = Lib.bytesOf b
    · simp [h]
    · rw [decide_eq_false h, beq_eq_false_iff_ne.2 h]; rfl
  rw [if_pos e]
  by_cases h0 : (a.length : Int) = 0
  · rw [if_pos h0]
  · rw [if_neg h0]
    have : emptyB a (a ++ [0]) false = false := by
      refine Bool.eq_false_iff.2 fun k => ?_
      have h := empty_none (a := a) k (by omega)
      rw [has_one] at h
      simp at h
    rw [this]; rfl
end Go.Proofs.Ytodcfcfoneimiaa.Pure
