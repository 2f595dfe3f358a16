/- Each number is accepted once, whatever comes, in whatever order; what was accepted is seen, and what was not, is not. -/
import Derived.Test.YtpdfccncfkejiaaDoorQx10
import Derived.Test.YtpdfccncfkejiaaDoorP15
set_option linter.unusedVariables false
namespace Go.Proofs.YtpdfccncfkejiaaDoor.Pure
open Go.RowKit Go.Proofs.YtpdfccncfkejiaaDoor.Q Go.Proofs.YtpdfccncfkejiaaDoorW.PrintWords Go.Proofs.YtpdfccncfkejiaaDoorW.PrintLast Go.Proofs.YtpdfccncfkejiaaDoor.G
theorem once_loop (l : List Int) (q : Int) (hl : l.length ≤ 200) : ∀ (d i k : Nat) (n b : Int) (V : Nat), d + i = l.length → 3 * d + 2 ≤ k → Sn b V → (n = 0 ∨ n = 1) →
    (0 ≤ q ∧ q ≤ 4294967295 → sn b V q = (n == 1)) → (¬ (0 ≤ q ∧ q ≤ 4294967295) → n = 0) → godwitlaw15_SeqsOnce.l0 k l q true n (i : Int) b V = some true := by
  intro d
  induction d with
  | zero =>
    intro i k n b V hi hk hS hn hq hq'
    obtain ⟨k, rfl⟩ : ∃ m, k = m + 1 := ⟨k - 1, by omega⟩
    rw [godwitlaw15_SeqsOnce.l0, if_neg (by omega), if_pos rfl, if_pos (by omega)]
    by_cases hv : 0 ≤ q ∧ q ≤ 4294967295
    · rw [seen_f hS q hv.1 hv.2, Option.bind_some, hq hv]; simp
    · rw [seen_out hS q hv, Option.bind_some, hq' hv]; rfl
  | succ d ih =>
    intro i k n b V hi hk hS hn hq hq'
    obtain ⟨k, rfl⟩ : ∃ m, k = m + 3 := ⟨k - 3, by omega⟩
    have hw : wrap64 ((i : Int) + 1) = ((i + 1 : Nat) : Int) := by unfold wrap64; omega
    have go := ih (i + 1) (k + 2) n b V (by omega) (by omega) hS hn hq hq'
    rw [godwitlaw15_SeqsOnce.l0, if_pos (by omega), if_pos (by omega)]
    generalize hs : rd l (i : Int) = s
    by_cases hv : 0 ≤ s ∧ s ≤ 4294967295
    · rw [seen_f hS s hv.1 hv.2, Option.bind_some]
      cases hc : sn b V s with
      | true =>
        rw [accept_seen hS s hv.1 hv.2 hc, Option.bind_some, if_neg (by decide), if_neg (by decide), hw]
        exact go
      | false =>
        by_cases hf : 64 ≤ s - b
        · rw [accept_far hS s hv.1 hv.2 hc hf, Option.bind_some, if_neg (by decide), if_neg (by decide), hw]
          exact go
        · have hsb : b ≤ s := by
            unfold sn at hc
            rcases Int.lt_or_le s b with hh | hh
            · rw [decide_eq_true hh, Bool.true_or] at hc; cases hc
            · exact hh
          have hS' := accept_Sn hS s hv.2 hsb (by omega)
          have hsn := accept_sn hS s hv.2 hsb (by omega)
          rw [accept_ok hS s hv.1 hv.2 hc (by omega), Option.bind_some, if_neg (show ¬ ((false != ((0 : Int) == 7)) = true) by decide), if_pos rfl]
          have hj : ∀ n', (n' = 0 ∨ n' = 1) → (0 ≤ q ∧ q ≤ 4294967295 → sn (nb b V s) (nv b V s) q = (n' == 1)) → (¬ (0 ≤ q ∧ q ≤ 4294967295) → n' = 0) →
              godwitlaw15_SeqsOnce.j1 (k + 2) l q true n' (i : Int) (nb b V s) (nv b V s) = some true := by
            intro n' h1 h2 h3
            rw [godwitlaw15_SeqsOnce.j1, if_pos (by omega), if_pos (by omega), hs, seen_f hS' s hv.1 hv.2, Option.bind_some, hsn s, decide_eq_true rfl, Bool.or_true, if_pos rfl, sane_f hS', Option.bind_some, Bool.not_true, godwitlaw15_SeqsOnce.j2, if_neg (by decide), hw]
            exact ih (i + 1) k n' _ _ (by omega) (by omega) hS' h1 h2 h3
          by_cases hk2 : s = q
          · rw [if_pos hk2]
            subst hk2
            have h0 : n = 0 := by
              have := hq hv
              rw [hc] at this
              rcases hn with h | h
              · exact h
              · subst h; exact absurd this (by decide)
            have hw2 : wrap64 (n + 1) = 1 := by subst h0; unfold wrap64; decide
            rw [hw2]
            exact hj 1 (.inr rfl) (fun _ => by rw [hsn s, decide_eq_true rfl, Bool.or_true]; rfl) (fun h => absurd hv h)
          · rw [if_neg hk2]
            exact hj n hn (fun h => by rw [hsn q, decide_eq_false (fun h => hk2 h.symm), Bool.or_false]; exact hq h) hq'
    · rw [seen_out hS s hv, Option.bind_some, accept_out hS s hv, Option.bind_some, if_neg (by decide), if_neg (by decide), hw]
      exact go

theorem SeqsOnce : godwitlaw15_SeqsOnce.Pure := by
  intro l q hl hq
  refine ⟨3 * l.length + 2, ?_⟩
  unfold godwitlaw15_SeqsOnce.f
  rw [show godwitlaw15_awake.f = some true from awake_f _ rfl, Option.bind_some]
  by_cases h1 : (l.length : Int) > 200
  · rw [if_pos h1]
  · rw [if_neg h1]
    have := once_loop l q (by omega) l.length 0 (3 * l.length + 2) 0 0 0 (by omega) (by omega) (Sn.start 0 (by omega) (by omega)) (.inl rfl)
      (fun h => by unfold sn; rw [decide_eq_false (by omega), Nat.zero_testBit]; rfl) (fun _ => rfl)
    exact this
end Go.Proofs.YtpdfccncfkejiaaDoor.Pure
