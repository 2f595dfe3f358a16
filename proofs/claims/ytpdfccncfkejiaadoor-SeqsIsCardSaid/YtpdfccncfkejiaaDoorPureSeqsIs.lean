/- Whether any window may be, what it has seen, with one number more, and what is missing, is what the document says. -/
import Derived.Test.YtpdfccncfkejiaaDoorQx24
import Derived.Test.YtpdfccncfkejiaaDoorP15b
set_option linter.unusedVariables false
namespace Go.Proofs.YtpdfccncfkejiaaDoor.Pure
open Go.RowKit Go.Proofs.YtpdfccncfkejiaaDoor.Q Go.Proofs.YtpdfccncfkejiaaDoorW.PrintWords Go.Proofs.YtpdfccncfkejiaaDoorW.PrintLast Go.Proofs.YtpdfccncfkejiaaDoor.G
theorem rdigit (V i : Nat) (h : V < 18446744073709551616) (hi : i < 18446744073709551616) : godwitref15_digit.f (V : Int) (i : Int) = some (V.testBit i) := by
  unfold godwitref15_digit.f
  rw [wrap_u64_small _ (by omega) (by omega), if_pos (by omega), digit_at V i h]
  cases V.testBit i <;> rfl
theorem rsane_loop (b : Int) (V : Nat) (h0 : 0 ≤ b) (h1 : b ≤ 4294967296) (hV : V < 18446744073709551616) : ∀ (d i k : Nat), d + i = 64 → 2 * d + 1 ≤ k →
    ((∀ j, i ≤ j → V.testBit j = true → b + j < 4294967296) → godwitref15_Sane.l0 k (i : Int) b V = some true) ∧ (¬ (∀ j, i ≤ j → V.testBit j = true → b + j < 4294967296) → godwitref15_Sane.l0 k (i : Int) b V = some false) := by
  intro d
  induction d with
  | zero =>
    intro i k hi hk
    obtain ⟨k, rfl⟩ : ∃ m, k = m + 1 := ⟨k - 1, by omega⟩
    have ht : ∀ j, i ≤ j → V.testBit j = false := fun j hj => Nat.testBit_lt_two_pow (Nat.lt_of_lt_of_le (show V < 2 ^ 64 from hV) (Nat.pow_le_pow_right (by omega) (by omega)))
    refine ⟨fun _ => by rw [godwitref15_Sane.l0, if_neg (by omega)], fun h => absurd (fun j hj h2 => ?_) h⟩
    rw [ht j hj] at h2; cases h2
  | succ d ih =>
    intro i k hi hk
    obtain ⟨k, rfl⟩ : ∃ m, k = m + 2 := ⟨k - 2, by omega⟩
    have hw : wrap64 ((i : Int) + 1) = ((i + 1 : Nat) : Int) := by unfold wrap64; omega
    have hw2 : wrap64 (b + (i : Int)) = b + (i : Int) := by unfold wrap64; omega
    obtain ⟨i1, i2⟩ := ih (i + 1) k (by omega) (by omega)
    have stepF : godwitref15_Sane.j2 (k + 1) (i : Int) false b V = godwitref15_Sane.l0 k ((i + 1 : Nat) : Int) b V := by rw [godwitref15_Sane.j2, if_neg (by decide), hw]
    have stepT : godwitref15_Sane.j2 (k + 1) (i : Int) true b V = some false := by rw [godwitref15_Sane.j2, if_pos rfl]
    rw [godwitref15_Sane.l0, if_pos (by omega), rdigit V i hV (by omega), Option.bind_some, hw2]
    cases ht : V.testBit i with
    | false =>
      rw [if_neg (by decide), stepF]
      refine ⟨fun h => i1 (fun j hj => h j (by omega)), fun h => i2 (fun h2 => h (fun j hj h3 => ?_))⟩
      rcases Nat.eq_or_lt_of_le hj with e | e
      · subst e; rw [ht] at h3; cases h3
      · exact h2 j e h3
    | true =>
      rw [if_pos rfl]
      by_cases hb : b + (i : Int) ≥ 4294967296
      · rw [decide_eq_true hb, stepT]
        refine ⟨fun h => ?_, fun _ => rfl⟩
        have := h i (Nat.le_refl _) ht
        omega
      · rw [decide_eq_false hb, stepF]
        refine ⟨fun h => i1 (fun j hj => h j (by omega)), fun h => i2 (fun h2 => h (fun j hj h3 => ?_))⟩
        rcases Nat.eq_or_lt_of_le hj with e | e
        · subst e; omega
        · exact h2 j e h3
theorem rsane (b : Int) (V : Nat) (hV : V < 18446744073709551616) (k : Nat) (hk : 140 ≤ k) : (Sn b V → godwitref15_Sane.f k b V = some true) ∧ (¬ Sn b V → godwitref15_Sane.f k b V = some false) := by
  obtain ⟨k, rfl⟩ : ∃ m, k = m + 1 := ⟨k - 1, by omega⟩
  unfold godwitref15_Sane.f
  have jT : godwitref15_Sane.j0 (k + 1) true b V = some false := by rw [godwitref15_Sane.j0, if_pos rfl]
  have jF : godwitref15_Sane.j0 (k + 1) false b V = godwitref15_Sane.l0 k ((0 : Nat) : Int) b V := by rw [godwitref15_Sane.j0, if_neg (by decide)]; rfl
  by_cases h0 : b < 0
  · rw [if_pos h0, jT]
    exact ⟨fun h => absurd h.lo (by omega), fun _ => rfl⟩
  rw [if_neg h0]
  by_cases h1 : b > 4294967296
  · rw [if_pos h1, jT]
    exact ⟨fun h => absurd h.hi (by omega), fun _ => rfl⟩
  rw [if_neg h1]
  have e0 := rdigit V 0 hV (by omega)
  rw [show ((0 : Nat) : Int) = 0 from rfl] at e0
  rw [e0, Option.bind_some]
  cases ht : V.testBit 0 with
  | true =>
    rw [jT]
    exact ⟨fun h => (by rw [h.even] at ht; cases ht), fun _ => rfl⟩
  | false =>
    rw [jF]
    obtain ⟨a, c⟩ := rsane_loop b V (by omega) (by omega) hV 64 0 k (by omega) (by omega)
    exact ⟨fun h => a (fun j _ => h.room j), fun h => c (fun h2 => h ⟨by omega, by omega, hV, ht, fun i => h2 i (by omega)⟩)⟩
theorem far_bit {V : Nat} (hV : V < 18446744073709551616) (i : Nat) (h : 64 ≤ i) : V.testBit i = false := Nat.testBit_lt_two_pow (Nat.lt_of_lt_of_le (show V < 2 ^ 64 from hV) (Nat.pow_le_pow_right (by omega) h))
section
variable {b : Int} {V : Nat}
theorem rseen_f (h : Sn b V) (s : Int) (h0 : 0 ≤ s) (h1 : s ≤ 4294967295) (k : Nat) (hk : 141 ≤ k) : godwitref15_Seen.f k b V s = some (sn b V s) := by
  obtain ⟨k, rfl⟩ : ∃ m, k = m + 1 := ⟨k - 1, by omega⟩
  have hb0 := h.lo
  have hb1 := h.hi
  have hw : wrap64 (b + 64) = b + 64 := by unfold wrap64; omega
  have hw2 : wrap64 (s - b) = s - b := by unfold wrap64; omega
  unfold godwitref15_Seen.f sn
  rw [(rsane b V h.lt _ (by omega)).1 h, Option.bind_some, if_pos rfl, if_neg (by omega), decide_eq_false (by omega), godwitref15_Seen.j0, if_neg (by decide)]
  by_cases hlt : s < b
  · rw [if_pos hlt, decide_eq_true hlt, Bool.true_or]
  rw [if_neg hlt, decide_eq_false hlt, Bool.false_or, hw, hw2]
  by_cases hf : s < b + 64
  · have := rdigit V (s - b).toNat h.lt (by omega)
    rw [show (((s - b).toNat : Nat) : Int) = s - b by omega] at this
    rw [if_pos hf, this, Option.bind_some]
  · rw [if_neg hf, far_bit h.lt _ (by omega)]
theorem rseen_out (h : Sn b V) (s : Int) (hs : ¬ (0 ≤ s ∧ s ≤ 4294967295)) (k : Nat) (hk : 141 ≤ k) : godwitref15_Seen.f k b V s = some false := by
  obtain ⟨k, rfl⟩ : ∃ m, k = m + 1 := ⟨k - 1, by omega⟩
  unfold godwitref15_Seen.f
  rw [(rsane b V h.lt _ (by omega)).1 h, Option.bind_some, if_pos rfl]
  by_cases h0 : s < 0
  · rw [if_pos h0, godwitref15_Seen.j0, if_pos rfl]
  · rw [if_neg h0, decide_eq_true (by omega), godwitref15_Seen.j0, if_pos rfl]
theorem rseen_no (hV : V < 18446744073709551616) (h : ¬ Sn b V) (s : Int) (k : Nat) (hk : 141 ≤ k) : godwitref15_Seen.f k b V s = some false := by
  obtain ⟨k, rfl⟩ : ∃ m, k = m + 1 := ⟨k - 1, by omega⟩
  unfold godwitref15_Seen.f
  rw [(rsane b V hV _ (by omega)).2 h, Option.bind_some, if_neg (by decide), godwitref15_Seen.j0, if_pos rfl]
theorem seen_no (hV : V < 18446744073709551616) (h : ¬ Sn b V) (s : Int) : seqs_Seen.f b V s = some false := by
  unfold seqs_Seen.f
  rw [may_no hV h, Option.bind_some, if_neg (by decide)]
theorem seen_same (hV : V < 18446744073709551616) (s : Int) (k : Nat) (hk : 141 ≤ k) : ∃ r, seqs_Seen.f b V s = some r ∧ godwitref15_Seen.f k b V s = some r := by
  by_cases h : Sn b V
  · by_cases hs : 0 ≤ s ∧ s ≤ 4294967295
    · exact ⟨_, seen_f h s hs.1 hs.2, rseen_f h s hs.1 hs.2 k hk⟩
    · exact ⟨_, seen_out h s hs, rseen_out h s hs k hk⟩
  · exact ⟨_, seen_no hV h s, rseen_no hV h s k hk⟩
theorem add_or (V j : Nat) (hV : V < 18446744073709551616) (hj : j < 64) (ht : V.testBit j = false) : IntKind.u64.wrap ((V : Int) + ((2 ^ j : Nat) : Int)) = ((V ||| 2 ^ j : Nat) : Int) := by
  have hp : 2 ^ j < 2 ^ 64 := Nat.pow_lt_pow_right (by omega) hj
  have ho : V ||| 2 ^ j < 2 ^ 64 := Nat.or_lt_two_pow hV hp
  have h0 : BitVec.ofNat 64 V &&& BitVec.ofNat 64 (2 ^ j) = 0#64 := by
    apply BitVec.eq_of_getLsbD_eq
    intro i hi
    rw [BitVec.getLsbD_and, BitVec.getLsbD_ofNat, BitVec.getLsbD_ofNat, Nat.testBit_two_pow]
    by_cases e : j = i
    · subst e; simp [ht]
    · simp [e]
  have h1 := congrArg BitVec.toNat (BitVec.add_eq_or_of_and_eq_zero _ _ h0)
  rw [BitVec.toNat_add, BitVec.toNat_or, BitVec.toNat_ofNat, BitVec.toNat_ofNat, Nat.mod_eq_of_lt (show V < 2 ^ 64 from hV), Nat.mod_eq_of_lt hp] at h1
  rw [IntKind.wrap_u64, ← h1]
  generalize 2 ^ j = q at *
  omega
theorem odd_loop (b : Int) (W : Nat) (hb0 : 0 ≤ b) (hb1 : b ≤ 4294967296) (hW : W < 18446744073709551616) : ∀ (d i k : Nat), d + i = ones W → d + 1 ≤ k →
    godwitref15_Accept.l1 k (b + (i : Int)) ((W >>> i : Nat) : Int) = some (b + (ones W : Nat), ((W >>> ones W : Nat) : Int), 0) := by
  obtain ⟨o1, o2, o3⟩ := ones_is W hW
  have hpar : ∀ i : Nat, Int.tmod ((W >>> i : Nat) : Int) 2 = if W.testBit i then 1 else 0 := by
    intro i
    have e : W.testBit i = (W >>> i).testBit 0 := by rw [Nat.testBit_shiftRight, Nat.add_zero]
    rw [e, Nat.testBit_zero, Int.tmod_eq_emod_of_nonneg (Int.natCast_nonneg _)]
    generalize W >>> i = q
    by_cases h : q % 2 = 1
    · rw [decide_eq_true h, if_pos rfl]; omega
    · rw [decide_eq_false h, if_neg (by decide)]; omega
  intro d
  induction d with
  | zero =>
    intro i k hi hk
    obtain ⟨k, rfl⟩ : ∃ m, k = m + 1 := ⟨k - 1, by omega⟩
    obtain rfl : i = ones W := by omega
    have hf : W.testBit (ones W) = false := by
      rcases Nat.lt_or_ge (ones W) 64 with h | h
      · exact o3 h
      · exact far_bit hW _ h
    rw [godwitref15_Accept.l1, hpar, hf, if_neg (by decide)]
  | succ d ih =>
    intro i k hi hk
    obtain ⟨k, rfl⟩ : ∃ m, k = m + 1 := ⟨k - 1, by omega⟩
    have hw : wrap64 (b + (i : Int) + 1) = b + ((i + 1 : Nat) : Int) := by unfold wrap64; omega
    have hlt := shr_lt W i hW
    have hd : IntKind.u64.wrap (Int.tdiv ((W >>> i : Nat) : Int) 2) = ((W >>> (i + 1) : Nat) : Int) := by
      rw [Nat.shiftRight_succ]
      generalize W >>> i = q at hlt
      rw [Int.tdiv_eq_ediv_of_nonneg (Int.natCast_nonneg _), wrap_u64_small _ (by omega) (by omega)]
      omega
    rw [godwitref15_Accept.l1, hpar, o2 i (by omega), if_pos rfl, if_pos rfl, hw, hd]
    exact ih (i + 1) k (by omega) (by omega)
theorem one_loop (h : Sn b V) (s : Int) (hsb : b ≤ s) (hf : s - b < 64) (ht : V.testBit (s - b).toNat = false) : ∀ (d i k : Nat), (d : Int) + i = s - b → d + 66 ≤ k →
    godwitref15_Accept.l0 k s ((2 ^ i : Nat) : Int) (b + (i : Int)) b V = some (nb b V s, ((nv b V s : Nat) : Int), 0) := by
  have hb0 := h.lo
  have hb1 := h.hi
  intro d
  induction d with
  | zero =>
    intro i k hi hk
    obtain ⟨k, rfl⟩ : ∃ m, k = m + 1 := ⟨k - 1, by omega⟩
    have e : (s - b).toNat = i := by omega
    rw [e] at ht
    have hp : put b V s = V ||| 2 ^ i := by unfold put; rw [e]
    have hlt := put_lt h s hf
    rw [godwitref15_Accept.l0, if_neg (by omega), add_or V i h.lt (by omega) ht, ← hp]
    have := odd_loop b (put b V s) hb0 hb1 hlt (ones (put b V s)) 0 k (by omega) (by have := (ones_is _ hlt).1; omega)
    simpa [nb, nv] using this
  | succ d ih =>
    intro i k hi hk
    obtain ⟨k, rfl⟩ : ∃ m, k = m + 1 := ⟨k - 1, by omega⟩
    have hw : wrap64 (b + (i : Int) + 1) = b + ((i + 1 : Nat) : Int) := by unfold wrap64; omega
    have hd : IntKind.u64.wrap (((2 ^ i : Nat) : Int) * 2) = ((2 ^ (i + 1) : Nat) : Int) := by
      have hp : 2 ^ (i + 1) < 2 ^ 64 := Nat.pow_lt_pow_right (by omega) (by omega)
      have e : (((2 ^ i : Nat) : Int) * 2) = ((2 ^ (i + 1) : Nat) : Int) := by rw [Nat.pow_succ]; generalize 2 ^ i = q; omega
      rw [e]
      generalize 2 ^ (i + 1) = q at hp
      rw [wrap_u64_small _ (by omega) (by omega)]
    rw [godwitref15_Accept.l0, if_pos (by omega), hw, hd]
    exact ih (i + 1) k (by omega) (by omega)
theorem accept_same (hV : V < 18446744073709551616) (s : Int) (k : Nat) (hk : 300 ≤ k) : ∃ r, seqs_Accept.f b V s = some r ∧ godwitref15_Accept.f k b V s = some r := by
  obtain ⟨k, rfl⟩ : ∃ m, k = m + 1 := ⟨k - 1, by omega⟩
  unfold godwitref15_Accept.f
  have jT : godwitref15_Accept.j0 (k + 1) s true b V = some (0, 0, 1) := by rw [godwitref15_Accept.j0, if_pos rfl]
  by_cases h : Sn b V
  · rw [(rsane b V h.lt _ (by omega)).1 h, Option.bind_some, if_pos rfl]
    by_cases hs : 0 ≤ s ∧ s ≤ 4294967295
    · have hb0 := h.lo
      have hb1 := h.hi
      have hw : wrap64 (b + 64) = b + 64 := by unfold wrap64; omega
      rw [if_neg (by omega), decide_eq_false (by omega), godwitref15_Accept.j0, if_neg (by decide), rseen_f h s hs.1 hs.2 k (by omega), Option.bind_some, hw]
      cases hc : sn b V s with
      | true => exact ⟨_, accept_seen h s hs.1 hs.2 hc, by rw [if_pos rfl]⟩
      | false =>
        rw [if_neg (by decide)]
        by_cases hf : 64 ≤ s - b
        · exact ⟨_, accept_far h s hs.1 hs.2 hc hf, by rw [if_pos (by omega)]⟩
        · have hsb : b ≤ s := by
            unfold sn at hc
            rcases Int.lt_or_le s b with hh | hh
            · rw [decide_eq_true hh, Bool.true_or] at hc; cases hc
            · exact hh
          have ht : V.testBit (s - b).toNat = false := by
            unfold sn at hc
            rwa [decide_eq_false (by omega), Bool.false_or] at hc
          refine ⟨_, accept_ok h s hs.1 hs.2 hc (by omega), ?_⟩
          rw [if_neg (by omega)]
          have := one_loop h s hsb (by omega) ht (s - b).toNat 0 k (by omega) (by omega)
          simpa using this
    · refine ⟨_, accept_out h s hs, ?_⟩
      by_cases h0 : s < 0
      · rw [if_pos h0, jT]
      · rw [if_neg h0, decide_eq_true (by omega), jT]
  · refine ⟨_, accept_no hV h s, ?_⟩
    rw [(rsane b V hV _ (by omega)).2 h, Option.bind_some, if_neg (by decide), jT]
theorem rmissing_loop (h : Sn b V) (most : Int) : ∀ (d i k : Nat) (out : List Int), d + i = 64 → 3 * d + 160 ≤ k → out.length ≤ i →
    godwitref15_Missing.l0 k most out (i : Int) b V = some (out ++ (missN b V i (rm b - i)).take (most.toNat - out.length)) := by
  have hb0 := h.lo
  have hb1 := h.hi
  have hr : (rm b : Int) = min 64 (4294967296 - b) := by unfold rm; omega
  intro d
  induction d with
  | zero =>
    intro i k out hi hk ho
    obtain ⟨k, rfl⟩ : ∃ m, k = m + 2 := ⟨k - 2, by omega⟩
    rw [godwitref15_Missing.l0, if_neg (by omega), godwitref15_Missing.j1, if_neg (by decide), show rm b - i = 0 by omega]
    simp [missN]
  | succ d ih =>
    intro i k out hi hk ho
    obtain ⟨k, rfl⟩ : ∃ m, k = m + 3 := ⟨k - 3, by omega⟩
    have hw : wrap64 ((i : Int) + 1) = ((i + 1 : Nat) : Int) := by unfold wrap64; omega
    have hw2 : wrap64 (b + (i : Int)) = b + (i : Int) := by unfold wrap64; omega
    have stepF : godwitref15_Missing.j2 (k + 1) most out (i : Int) false b V = godwitref15_Missing.l0 k most out ((i + 1 : Nat) : Int) b V := by rw [godwitref15_Missing.j2, if_neg (by decide), hw]
    have go := ih (i + 1) k out (by omega) (by omega) (by omega)
    rw [godwitref15_Missing.l0, if_pos (by omega), (rsane b V h.lt _ (by omega)).1 h, Option.bind_some, godwitref15_Missing.j1, if_pos rfl]
    by_cases hm : (out.length : Int) < most
    · rw [if_pos hm, hw2]
      by_cases hin : b + (i : Int) < 4294967296
      · obtain ⟨m, hmm⟩ : ∃ m, rm b - i = m + 1 := ⟨rm b - i - 1, by omega⟩
        have hm2 : rm b - (i + 1) = m := by omega
        rw [if_pos hin, rdigit V i h.lt (by omega), Option.bind_some, hmm, missN_succ]
        cases ht : V.testBit i with
        | true =>
          rw [Bool.not_true, stepF, go, hm2]
          simp
        | false =>
          rw [Bool.not_false, godwitref15_Missing.j2, if_pos rfl, if_pos (by omega), hw, hw2, ih (i + 1) k _ (by omega) (by omega) (by simp; omega), hm2]
          obtain ⟨q, hq⟩ : ∃ q, most.toNat - out.length = q + 1 := ⟨most.toNat - out.length - 1, by omega⟩
          rw [hq]
          simp only [List.length_append, List.length_cons, List.length_nil, Bool.false_eq_true, if_false, List.cons_append, List.nil_append, List.take_succ_cons, List.append_assoc]
          rw [show most.toNat - (out.length + (0 + 1)) = q by omega]
      · rw [if_neg hin, stepF, go, show rm b - i = 0 by omega, show rm b - (i + 1) = 0 by omega]
        simp [missN]
    · rw [if_neg hm, stepF, go, show most.toNat - out.length = 0 by omega]
      simp
theorem missing_same (hV : V < 18446744073709551616) (most : Int) (k : Nat) (hk : 400 ≤ k) : ∃ r, r.length ≤ 64 ∧ seqs_Missing.f k b V most = some r ∧ godwitref15_Missing.f k b V most = some r := by
  by_cases h : Sn b V
  · refine ⟨_, ?_, missing_f h most k (by omega), ?_⟩
    · rw [List.length_take]
      have := missN_len b V 0 (rm b)
      have : rm b ≤ 64 := by unfold rm; omega
      unfold missL
      omega
    · have := rmissing_loop h most 64 0 k [] (by omega) (by omega) (by simp)
      unfold godwitref15_Missing.f
      rw [show (0 : Int) = ((0 : Nat) : Int) from rfl, this]
      simp [missL]
  · obtain ⟨k, rfl⟩ : ∃ m, k = m + 2 := ⟨k - 2, by omega⟩
    refine ⟨[], by simp, missing_no hV h most _, ?_⟩
    unfold godwitref15_Missing.f
    rw [godwitref15_Missing.l0, if_pos (by decide), (rsane b V hV _ (by omega)).2 h, Option.bind_some, godwitref15_Missing.j1, if_neg (by decide)]
end
theorem ints_same (l : List Int) (hl : l.length ≤ 64) : ∀ (d i k : Nat), d + i = l.length → d + 1 ≤ k → godwitref10_Ints.l0 k l l (i : Int) = some true := by
  intro d
  induction d with
  | zero =>
    intro i k hi hk
    obtain ⟨k, rfl⟩ : ∃ m, k = m + 1 := ⟨k - 1, by omega⟩
    rw [godwitref10_Ints.l0, if_neg (by omega)]
  | succ d ih =>
    intro i k hi hk
    obtain ⟨k, rfl⟩ : ∃ m, k = m + 1 := ⟨k - 1, by omega⟩
    have hw : wrap64 ((i : Int) + 1) = ((i + 1 : Nat) : Int) := by unfold wrap64; omega
    rw [godwitref10_Ints.l0, if_pos (by omega), if_pos (by omega), if_pos (by omega), if_pos rfl, hw]
    exact ih (i + 1) k (by omega) (by omega)

theorem SeqsIs : godwitlaw15_SeqsIs.Pure := by
  intro b v s most ⟨hb, hv⟩ hs hm
  obtain ⟨v0, v1⟩ := wf_u64 hv
  obtain ⟨V, rfl⟩ := Int.eq_ofNat_of_zero_le v0
  have hV : V < 18446744073709551616 := by omega
  refine ⟨500, ?_⟩
  obtain ⟨r1, a1, a2⟩ := accept_same (b := b) hV s 500 (by omega)
  obtain ⟨r2, b1, b2⟩ := seen_same (b := b) hV s 500 (by omega)
  obtain ⟨r3, c0, c1, c2⟩ := missing_same (b := b) hV most 500 (by omega)
  obtain ⟨x1, x2, x3⟩ := r1
  have hS : ∃ r, seqs_Sane.f b V = some r ∧ godwitref15_Sane.f 500 b V = some r := by
    by_cases h : Sn b V
    · exact ⟨_, sane_f h, (rsane b V hV _ (by omega)).1 h⟩
    · exact ⟨_, unsane_f hV h, (rsane b V hV _ (by omega)).2 h⟩
  obtain ⟨r4, d1, d2⟩ := hS
  have hi : godwitref10_Ints.f 500 r3 r3 = some true := by
    unfold godwitref10_Ints.f
    rw [if_pos rfl]
    have := ints_same r3 c0 r3.length 0 500 (by omega) (by omega)
    exact this
  unfold godwitlaw15_SeqsIs.f godwitlaw15_ours.f godwitlaw15_theirs.f seqs_Full.f godwitref15_Full.f
  rw [show godwitlaw15_awake.f = some true from awake_f _ rfl]
  simp only [Option.bind_some, a1, a2, b1, b2, c1, c2, d1, d2, hi, if_true, BEq.rfl, Bool.and_self]
  cases r4 <;> simp
end Go.Proofs.YtpdfccncfkejiaaDoor.Pure
