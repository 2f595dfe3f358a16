/- What lies in a range lies between: of two keys of it all between are; of an empty one none is. -/
import Derived.Test.YtodcfcfoneimiaaQx10
import Derived.Test.YtodcfcfoneimiaaP06a
namespace Go.Proofs.Ytodcfcfoneimiaa.Pure
open Go.RowKit Go.Proofs.Ytodcfcfoneimiaa.Q Go.Proofs.YtodcfcfoneimiaaW.PrintWords Go.Proofs.YtodcfcfoneimiaaW.PrintLast Go.Proofs.Ytodcfcfoneimiaa.G

theorem between_j1 (lo hi : List Int) (op : Bool) (a : List Int) : godwitlaw06_KeysBetween.j1 1 a true false lo hi op = some true := by
  simp only [godwitlaw06_KeysBetween.j1, has_eq, empty_eq, keys_Cmp.f, Option.bind_some, Bool.false_eq_true, if_false, if_true]
  have h2 := hasB_iff lo hi op a
  have h3 := fun e h => @empty_none lo hi a op e h
  cases e : emptyB lo hi op <;> cases f : hasB lo hi op a <;> simp_all <;> omega

theorem KeysBetween : godwitlaw06_KeysBetween.Pure := by
  intro lo hi op a b c _ _ _ _
  refine ⟨2, ?_⟩
  unfold godwitlaw06_KeysBetween.f
  rw [awake_true, short_eq]
  have q : godwitlaw06_KeysBetween.j0 2 a b c true true lo hi op = some true := by simp [godwitlaw06_KeysBetween.j0]
  have r : godwitlaw06_KeysBetween.j0 2 a b c true false lo hi op = some true := by
    simp only [godwitlaw06_KeysBetween.j0, has_eq, keys_Cmp.f, Option.bind_some, Bool.false_eq_true, if_false]
    by_cases ha : hasB lo hi op a = true
    · rw [if_pos ha]
      by_cases hc : hasB lo hi op c = true
      · rw [if_pos hc]
        by_cases h1 : cmpB a b ≤ 0
        · rw [if_pos h1]
          by_cases h2 : cmpB b c ≤ 0
          · rw [if_pos h2]
            have hb : hasB lo hi op b = true := by
              obtain ⟨a1, _⟩ := (hasB_iff _ _ _ _).1 ha
              obtain ⟨_, c2⟩ := (hasB_iff _ _ _ _).1 hc
              refine (hasB_iff _ _ _ _).2 ⟨?_, ?_⟩
              · have := cmpB_anti a lo
                have := cmpB_anti b lo
                have := cmpB_le_trans (l := lo) (m := a) (n := b) (by omega) h1
                omega
              · rcases c2 with c2 | c2
                · exact .inl c2
                · exact .inr (cmpB_le_lt h2 c2)
            rw [hb]
            exact between_j1 lo hi op a
          · rw [if_neg h2]; exact between_j1 lo hi op a
        · rw [if_neg h1]; exact between_j1 lo hi op a
      · rw [if_neg hc]; exact between_j1 lo hi op a
    · rw [if_neg ha]; exact between_j1 lo hi op a
  simp only [Option.bind_some]
  split
  · split
    · exact q
    · split
      · exact q
      · by_cases h : (c.length : Int) > 100
        · rw [decide_eq_true h]; exact q
        · rw [decide_eq_false h]; exact r
  · exact q
end Go.Proofs.Ytodcfcfoneimiaa.Pure
