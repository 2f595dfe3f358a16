/- Bytes one behind the other have the sum that is the first ones' gone on with, and both joined. -/
import Derived.Test.YtfldileaolomlaaQx9
import Derived.Test.YtfldileaolomlaaP02c
namespace Go.Proofs.Ytfldileaolomlaa.Pure
open Go.RowKit Go.Proofs.Ytfldileaolomlaa.Q Go.Proofs.YtfldileaolomlaaW.PrintWords Go.Proofs.YtfldileaolomlaaW.PrintLast Go.Proofs.Ytfldileaolomlaa.G
theorem moreI_append (s : Int) (a b : List Int) : moreI s (a ++ b) = moreI (moreI s a) b := by
  unfold moreI
  rw [more_append, O_I]
theorem moreI_join (a b : List Int) (h : b.length ≤ 2000) : moreI 0 (a ++ b) = Go.bits .xor .u32 (shiftI (moreI 0 a) (b.length : Int)) (moreI 0 b) := by
  rw [xor32, O_shiftI]
  unfold moreI
  rw [O_I, O_I, O_zero, more_join, show (min (b.length : Int) 65536).toNat = b.length by omega]
theorem join_f (s b n : Int) (h0 : 0 ≤ s) (h1 : s < 4294967296) : crc_Join.f s b n = some (Go.bits .xor .u32 (shiftI s n) b) := by
  unfold crc_Join.f
  rw [if_pos ⟨h0, h1⟩]
theorem of_f (l : List Int) : crc_Of.f l = some (moreI 0 l) := rfl
theorem more_f (s : Int) (l : List Int) : crc_More.f s l = some (moreI s l) := rfl

theorem CrcJoins : godwitlaw02_CrcJoins.Pure := by
  intro a b s ha hb hs
  refine ⟨0 + 1, ?_⟩
  unfold godwitlaw02_CrcJoins.f
  rw [awake_true, Option.bind_some]
  by_cases h1 : (a.length : Int) > 2000
  · rw [if_pos h1]
    rw [godwitlaw02_CrcJoins.j0, if_pos rfl]
  rw [if_neg h1]
  by_cases h2 : (b.length : Int) > 2000
  · rw [decide_eq_true h2]
    rw [godwitlaw02_CrcJoins.j0, if_pos rfl]
  rw [decide_eq_false h2]
  rw [godwitlaw02_CrcJoins.j0]
  have r : 0 ≤ moreI 0 a ∧ moreI 0 a < 4294967296 := I_range (moreB (O 0) a)
  rw [if_neg (by decide), Option.bind_some, if_pos (by simp only [List.length_nil]; omega), Option.bind_some, if_pos (by simp only [List.nil_append]; omega), Option.bind_some, more_f, Option.bind_some, if_pos rfl, of_f, Option.bind_some, of_f, Option.bind_some, more_f, Option.bind_some, List.nil_append, if_pos (moreI_append 0 a b), of_f, Option.bind_some, Option.bind_some, Option.bind_some, join_f _ _ _ r.1 r.2, Option.bind_some, if_pos (moreI_join a b (by omega)), more_f, Option.bind_some, more_f, Option.bind_some, moreI_append]
  simp
end Go.Proofs.Ytfldileaolomlaa.Pure
