/- At the end of all numbers nothing goes round: the last one is accepted, then all were. -/
import Derived.Test.YtpdfccncfkejiaaDoorQx25
import Derived.Test.YtpdfccncfkejiaaDoorP15
set_option linter.unusedVariables false
namespace Go.Proofs.YtpdfccncfkejiaaDoor.Pure
open Go.RowKit Go.Proofs.YtpdfccncfkejiaaDoor.Q Go.Proofs.YtpdfccncfkejiaaDoorW.PrintWords Go.Proofs.YtpdfccncfkejiaaDoorW.PrintLast Go.Proofs.YtpdfccncfkejiaaDoor.G
/-- All that there are were seen. -/
theorem all_seen {b : Int} {V : Nat} (h : Sn b V) (hs : ∀ s, 0 ≤ s → s ≤ 4294967295 → sn b V s = true) : b = 4294967296 := by
  rcases Int.lt_or_le b 4294967296 with hb | hb
  · have := hs b h.lo (by omega)
    unfold sn at this
    rw [decide_eq_false (by omega), Int.sub_self, Bool.false_or] at this
    rw [show (0 : Int).toNat = 0 from rfl, h.even] at this
    cases this
  · have := h.hi; omega
theorem ends_loop (a : Int) (m : Nat) (hm : m ≤ 63) : ∀ (d i k : Nat) (b : Int) (V : Nat), d + i = m → d + 2 ≤ k → Sn b V → b ≥ 4294967296 - m →
    (∀ s, 4294967296 - (m : Int) ≤ s → s ≤ 4294967295 → sn b V s = decide (4294967295 - s < i)) → godwitlaw15_SeqsEnds.l0 k a true (m : Int) 1 (i : Int) b V = some true := by
  intro d
  induction d with
  | zero =>
    intro i k b V hi hk hS hb hs
    obtain ⟨k, rfl⟩ : ∃ j, k = j + 1 := ⟨k - 1, by omega⟩
    have hall : ∀ s, 0 ≤ s → s ≤ 4294967295 → sn b V s = true := by
      intro s h0 h1
      by_cases h2 : 4294967296 - (m : Int) ≤ s
      · rw [hs s h2 h1, decide_eq_true (by omega)]
      · unfold sn
        rw [decide_eq_true (by omega), Bool.true_or]
    have hbe := all_seen hS hall
    have e63 : Go.bits .and .i64 a 63 = a % 64 := and_mask a 6 (by omega)
    have p0 : 0 ≤ a % 64 := Int.emod_nonneg _ (by decide)
    have p1 : a % 64 < 64 := Int.emod_lt_of_pos _ (by decide)
    have hw : wrap64 (4294967295 - a % 64) = 4294967295 - a % 64 := by unfold wrap64; omega
    rw [godwitlaw15_SeqsEnds.l0, if_neg (by omega), e63, hw, accept_seen hS _ (by omega) (by omega) (hall _ (by omega) (by omega)), Option.bind_some, if_pos rfl]
    unfold seqs_Full.f
    rw [sane_f hS, Option.bind_some, if_pos rfl, Option.bind_some, hbe, if_pos (by decide), if_pos (by decide), if_pos (by decide)]
    rw [hbe] at hS
    unfold seqs_Missing.f
    rw [sane_f hS, Option.bind_some, if_pos rfl, room_f _ _ hS.lo hS.hi, Option.bind_some]
    cases k with
    | zero => omega
    | succ k =>
      rw [seqs_Missing.l0, if_neg (by decide), Option.bind_some, if_pos (by simp), Option.bind_some]
  | succ d ih =>
    intro i k b V hi hk hS hb hs
    obtain ⟨k, rfl⟩ : ∃ j, k = j + 1 := ⟨k - 1, by omega⟩
    have hw : wrap64 ((i : Int) + 1) = ((i + 1 : Nat) : Int) := by unfold wrap64; omega
    have hw2 : wrap64 (4294967295 - (i : Int)) = 4294967295 - i := by unfold wrap64; omega
    have hc : sn b V (4294967295 - i) = false := by rw [hs _ (by omega) (by omega), decide_eq_false (by omega)]
    have hsb : b ≤ 4294967295 - i := by
      unfold sn at hc
      rcases Int.lt_or_le (4294967295 - (i : Int)) b with hh | hh
      · rw [decide_eq_true hh, Bool.true_or] at hc; cases hc
      · exact hh
    rw [godwitlaw15_SeqsEnds.l0, if_pos (by omega), hw2, accept_ok hS _ (by omega) (by omega) hc (by omega), Option.bind_some, if_pos rfl, hw]
    refine ih (i + 1) k _ _ (by omega) (by omega) (accept_Sn hS _ (by omega) hsb (by omega)) ?_ ?_
    · unfold nb; omega
    · intro s h1 h2
      rw [accept_sn hS _ (by omega) hsb (by omega), hs s h1 h2]
      by_cases e : s = 4294967295 - (i : Int)
      · rw [decide_eq_true e, Bool.or_true, decide_eq_true (by omega)]
      · rw [decide_eq_false e, Bool.or_false]
        exact decide_eq_decide.2 (by omega)

theorem SeqsEnds : godwitlaw15_SeqsEnds.Pure := by
  intro n a hn ha
  have e63 : Go.bits .and .i64 n 63 = n % 64 := and_mask n 6 (by omega)
  have p0 : 0 ≤ n % 64 := Int.emod_nonneg _ (by decide)
  have p1 : n % 64 < 64 := Int.emod_lt_of_pos _ (by decide)
  obtain ⟨m, hm⟩ := Int.eq_ofNat_of_zero_le p0
  have hS : Sn (4294967296 - (m : Int)) 0 := Sn.start _ (by omega) (by omega)
  have hw : wrap64 (4294967296 - (m : Int)) = 4294967296 - (m : Int) := by unfold wrap64; omega
  refine ⟨m + 2, ?_⟩
  unfold godwitlaw15_SeqsEnds.f
  rw [show godwitlaw15_awake.f = some true from awake_f _ rfl, Option.bind_some, e63, hm, hw]
  have e0 : seqs_Accept.f (4294967296 - (m : Int)) 0 4294967296 = some (0, 0, 1) := accept_out hS _ (by omega)
  rw [e0, Option.bind_some]
  refine ends_loop a m (by omega) m 0 (m + 2) _ 0 (by omega) (by omega) hS (by omega) ?_
  intro s h1 h2
  unfold sn
  rw [decide_eq_false (by omega), Nat.zero_testBit, decide_eq_false (by omega)]
  rfl
end Go.Proofs.YtpdfccncfkejiaaDoor.Pure
