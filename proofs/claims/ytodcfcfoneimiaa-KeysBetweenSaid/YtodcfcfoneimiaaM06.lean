/- Plain facts on the order of bytes: what cmpB says of any lists. -/
import Derived.Test.YtodcfcfoneimiaaGa
namespace Go.Proofs.Ytodcfcfoneimiaa.G
open Go.RowKit

theorem cb_range : ∀ (l m : List UInt8), Lib.compareBytes l m = -1 ∨ Lib.compareBytes l m = 0 ∨ Lib.compareBytes l m = 1
  | [], [] => .inr (.inl rfl)
  | [], _ :: _ => .inl rfl
  | _ :: _, [] => .inr (.inr rfl)
  | a :: l, b :: m => by
    unfold Lib.compareBytes
    split
    · exact .inl rfl
    · split
      · exact .inr (.inr rfl)
      · exact cb_range l m
theorem cb_anti : ∀ (l m : List UInt8), Lib.compareBytes m l = - Lib.compareBytes l m
  | [], [] => rfl
  | [], _ :: _ => rfl
  | _ :: _, [] => rfl
  | a :: l, b :: m => by
    unfold Lib.compareBytes
    by_cases h : a < b
    · have h' : ¬ b < a := fun h2 => absurd (UInt8.lt_trans h h2) (UInt8.lt_irrefl _)
      simp [h, h']
    · by_cases h2 : b < a
      · simp [h, h2]
      · simp [h, h2, cb_anti l m]
theorem cb_zero : ∀ (l m : List UInt8), Lib.compareBytes l m = 0 ↔ l = m
  | [], [] => by simp [Lib.compareBytes]
  | [], _ :: _ => by simp [Lib.compareBytes]
  | _ :: _, [] => by simp [Lib.compareBytes]
  | a :: l, b :: m => by
    unfold Lib.compareBytes
    by_cases h : a < b
    · have : a ≠ b := fun e => absurd (e ▸ h) (UInt8.lt_irrefl _)
      simp [h, this]
    · by_cases h2 : b < a
      · have : a ≠ b := fun e => absurd (e ▸ h2) (UInt8.lt_irrefl _)
        simp [h, h2, this]
      · have : a = b := UInt8.le_antisymm (UInt8.not_lt.1 h2) (UInt8.not_lt.1 h)
        subst this
        simp [cb_zero l m]
theorem cb_trans : ∀ (l m n : List UInt8), Lib.compareBytes l m < 0 → Lib.compareBytes m n < 0 → Lib.compareBytes l n < 0
  | [], [], n, h, _ => by simp [Lib.compareBytes] at h
  | [], _ :: _, [], _, h => by simp [Lib.compareBytes] at h
  | [], _ :: _, _ :: _, _, _ => by simp [Lib.compareBytes]
  | _ :: _, [], _, h, _ => by simp [Lib.compareBytes] at h
  | _ :: _, _ :: _, [], _, h => by simp [Lib.compareBytes] at h
  | a :: l, b :: m, c :: n, h, k => by
    unfold Lib.compareBytes at h k ⊢
    by_cases ab : a < b
    · by_cases bc : b < c
      · simp [UInt8.lt_trans ab bc]
      · by_cases cb : c < b
        · simp [bc, cb] at k
        · have : b = c := UInt8.le_antisymm (UInt8.not_lt.1 cb) (UInt8.not_lt.1 bc)
          subst this
          simp [ab]
    · by_cases ba : b < a
      · simp [ab, ba] at h
      · have : a = b := UInt8.le_antisymm (UInt8.not_lt.1 ba) (UInt8.not_lt.1 ab)
        subst this
        simp only [ab, if_false] at h
        by_cases bc : a < c
        · simp [bc]
        · by_cases cb : c < a
          · simp [bc, cb] at k
          · simp only [bc, cb, if_false] at k ⊢
            exact cb_trans l m n h k
theorem cb_snoc : ∀ (l : List UInt8) (x : UInt8) (r : List UInt8), Lib.compareBytes l (l ++ x :: r) = -1
  | [], _, _ => rfl
  | a :: l, x, r => by
    have : ¬ a < a := UInt8.lt_irrefl _
    simp [Lib.compareBytes, this, cb_snoc l x r]

theorem cmpB_range (l m : List Int) : cmpB l m = -1 ∨ cmpB l m = 0 ∨ cmpB l m = 1 := cb_range _ _
theorem cmpB_anti (l m : List Int) : cmpB m l = - cmpB l m := cb_anti _ _
theorem cmpB_zero (l m : List Int) : cmpB l m = 0 ↔ Lib.bytesOf l = Lib.bytesOf m := cb_zero _ _
theorem cmpB_self (l : List Int) : cmpB l l = 0 := (cmpB_zero l l).2 rfl
theorem cmpB_trans {l m n : List Int} (h : cmpB l m < 0) (k : cmpB m n < 0) : cmpB l n < 0 := cb_trans _ _ _ h k
theorem cmpB_snoc (l : List Int) (x : Int) : cmpB l (l ++ [x]) = -1 := by
  unfold cmpB Lib.bytesOf
  rw [List.map_append]
  exact cb_snoc _ _ _
/-- What is equal counts as equal on both sides. -/
theorem cmpB_congr {l l' m m' : List Int} (h : Lib.bytesOf l = Lib.bytesOf l') (k : Lib.bytesOf m = Lib.bytesOf m') : cmpB l m = cmpB l' m' := by unfold cmpB; rw [h, k]
theorem cmpB_lt_le {l m n : List Int} (h : cmpB l m < 0) (k : cmpB m n ≤ 0) : cmpB l n < 0 := by
  rcases cmpB_range m n with e | e | e
  · exact cmpB_trans h (by omega)
  · rw [← cmpB_congr rfl ((cmpB_zero m n).1 e)]; exact h
  · omega
theorem cmpB_le_lt {l m n : List Int} (h : cmpB l m ≤ 0) (k : cmpB m n < 0) : cmpB l n < 0 := by
  rcases cmpB_range l m with e | e | e
  · exact cmpB_trans (by omega) k
  · rw [cmpB_congr ((cmpB_zero l m).1 e) rfl]; exact k
  · omega
theorem cmpB_le_trans {l m n : List Int} (h : cmpB l m ≤ 0) (k : cmpB m n ≤ 0) : cmpB l n ≤ 0 := by
  rcases cmpB_range m n with e | e | e
  · have := cmpB_le_lt h (show cmpB m n < 0 by omega); omega
  · rw [← cmpB_congr rfl ((cmpB_zero m n).1 e)]; exact h
  · omega
theorem toList_of (xs : List Int) : (strOfNums xs).toList = Lib.bytesOf xs := Lib.strOfNums_toList xs
end Go.Proofs.Ytodcfcfoneimiaa.G
