/- Shifts one behind the other are one; of nothing nothing comes; a sum is shifted to none that another one is shifted to. -/
import Derived.Test.YtfldileaolomlaaQx6
import Derived.Test.YtfldileaolomlaaP02b
namespace Go.Proofs.Ytfldileaolomlaa.Pure
open Go.RowKit Go.Proofs.Ytfldileaolomlaa.Q Go.Proofs.YtfldileaolomlaaW.PrintWords Go.Proofs.YtfldileaolomlaaW.PrintLast Go.Proofs.Ytfldileaolomlaa.G

theorem CrcShifts : godwitlaw02_CrcShifts.Pure := by
  intro a b n m ha hb hn hm
  obtain ⟨a0, a1⟩ := wf_u32 ha
  obtain ⟨b0, b1⟩ := wf_u32 hb
  unfold godwitlaw02_CrcShifts.f
  rw [and255, and255]
  have hx0 : 0 ≤ n % 256 := Int.emod_nonneg _ (by decide)
  have hx1 : n % 256 < 256 := Int.emod_lt_of_pos _ (by decide)
  have hy0 : 0 ≤ m % 256 := Int.emod_nonneg _ (by decide)
  have hy1 : m % 256 < 256 := Int.emod_lt_of_pos _ (by decide)
  generalize n % 256 = x at *
  generalize m % 256 = y at *
  obtain ⟨x, rfl⟩ := Int.eq_ofNat_of_zero_le hx0
  obtain ⟨y, rfl⟩ := Int.eq_ofNat_of_zero_le hy0
  have ew : wrap64 ((x : Int) + y) = ((x + y : Nat) : Int) := by unfold wrap64; omega
  have es : ∀ (s : Int) (k : Nat), k ≤ 65536 → shiftI s (k : Int) = I (iterB k (O s)) := by
    intro s k hk
    unfold shiftI
    rw [show (min (k : Int) 65536).toNat = k by omega]
  have rs := shiftI_range a (x : Int)
  have e1 : shiftI (shiftI a (x : Int)) (y : Int) = shiftI a ((x + y : Nat) : Int) := by
    rw [es _ y (by omega), es _ x (by omega), O_I, es _ (x + y) (by omega), iter_add]
  have e2 : shiftI 0 (x : Int) = 0 := by
    rw [es _ x (by omega), O_zero, iter_zero, I_zero]
  have e3 : shiftI a 0 = a := by
    have := es a 0 (by omega)
    simp only [Int.natCast_zero] at this
    rw [this, iterB, I_O a a0 a1]
  rw [awake_true, Option.bind_some, if_pos rfl, shift_f a0 a1 (n := (x : Int)), Option.bind_some, shift_f rs.1 rs.2, Option.bind_some, ew, shift_f a0 a1 (n := ((x + y : Nat) : Int)), Option.bind_some, e1, if_pos rfl, shift_f0, Option.bind_some, e2, if_pos rfl, shift_f a0 a1 (n := 0), Option.bind_some, e3, if_pos rfl, Option.bind_some, shift_f b0 b1 (n := (x : Int)), Option.bind_some]
  congr 1
  by_cases e : a = b
  · subst e; simp
  · have h1 : (a == b) = false := by simpa using e
    have h2 : (shiftI a (x : Int) == shiftI b (x : Int)) = false := by
      simp only [beq_eq_false_iff_ne, ne_eq]
      rw [es _ x (by omega), es _ x (by omega)]
      intro h
      apply e
      have := iter_inj x _ _ (I_inj h)
      rw [← I_O a a0 a1, ← I_O b b0 b1, this]
    rw [h1, h2]; rfl
end Go.Proofs.Ytfldileaolomlaa.Pure
