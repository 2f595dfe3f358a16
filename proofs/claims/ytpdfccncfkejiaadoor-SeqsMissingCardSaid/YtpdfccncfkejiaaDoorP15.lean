/- A window of what was seen, in plain words: a base, and digits above it. -/
import Derived.Test.YtpdfccncfkejiaaDoorQx8
import Derived.Test.YtpdfccncfkejiaaDoorBt
import Derived.Laws.Bits64
import Derived.Laws.Bits64b
import Derived.Lib.BitFns
namespace Go.Proofs.YtpdfccncfkejiaaDoor.Pure
open Go.RowKit Go.Proofs.YtpdfccncfkejiaaDoor.Q Go.Proofs.YtpdfccncfkejiaaDoorW.PrintWords Go.Proofs.YtpdfccncfkejiaaDoorW.PrintLast Go.Proofs.YtpdfccncfkejiaaDoor.G
theorem wf_u64 {a : Int} (h : (Lit.int .u64 a).wf = true) : 0 ≤ a ∧ a < 18446744073709551616 := by
  simp [Lit.wf, IntKind.min, IntKind.max, IntKind.signed, IntKind.bits] at h
  omega
theorem wf_i64 {a : Int} (h : (Lit.int .i64 a).wf = true) : -9223372036854775808 ≤ a ∧ a ≤ 9223372036854775807 := by
  simp [Lit.wf, IntKind.min, IntKind.max, IntKind.signed, IntKind.bits] at h
  omega
theorem shr_u64 (V n : Nat) (h : V < 18446744073709551616) : shr .u64 (V : Int) (n : Int) = ((V >>> n : Nat) : Int) := by
  unfold shr
  rw [Int.toNat_natCast, show IntKind.u64.bits = 64 from rfl, Nat.shiftRight_eq_div_pow]
  have e : ∀ m : Nat, (V : Int) / (2 : Int) ^ m = ((V / 2 ^ m : Nat) : Int) := by
    intro m
    rw [Int.natCast_ediv]; simp
  rw [e]
  by_cases hn : n ≤ 64
  · rw [Nat.min_eq_left hn]
  · rw [Nat.min_eq_right (by omega), Nat.div_eq_of_lt (show V < 2 ^ 64 from h), Nat.div_eq_of_lt (Nat.lt_of_lt_of_le (show V < 2 ^ 64 from h) (Nat.pow_le_pow_right (by omega) (by omega)))]
theorem shr_lt (V n : Nat) (h : V < 18446744073709551616) : V >>> n < 18446744073709551616 := by
  rw [Nat.shiftRight_eq_div_pow]
  exact Nat.lt_of_le_of_lt (Nat.div_le_self _ _) h
theorem and_one (V : Nat) (h : V < 18446744073709551616) : Go.bits .and .u64 (V : Int) 1 = if V.testBit 0 then 1 else 0 := by
  have := bits_and_u64_nat V 1 h (by omega)
  rw [show ((1 : Nat) : Int) = 1 from rfl] at this
  rw [this, Nat.and_one_is_mod, Nat.testBit_zero]
  by_cases e : V % 2 = 1
  · simp [e]
  · simp [show V % 2 = 0 by omega]
theorem digit_at (V n : Nat) (h : V < 18446744073709551616) : Go.bits .and .u64 (shr .u64 (V : Int) (n : Int)) 1 = if V.testBit n then 1 else 0 := by
  rw [shr_u64 V n h, and_one _ (shr_lt V n h), Nat.testBit_shiftRight, Nat.add_zero]
theorem shl_one (n : Nat) (h : n < 64) : shl .u64 1 (n : Int) = ((2 ^ n : Nat) : Int) := by
  unfold shl
  rw [Int.toNat_natCast, Nat.min_eq_left (show n ≤ IntKind.u64.bits from by show n ≤ 64; omega), IntKind.wrap_u64]
  have hp : 2 ^ n < 2 ^ 64 := Nat.pow_lt_pow_right (by omega) h
  have : (1 : Int) * 2 ^ n = ((2 ^ n : Nat) : Int) := by simp
  rw [this]
  generalize 2 ^ n = q at *
  omega
theorem wrap_u64_small (n : Int) (h0 : 0 ≤ n) (h1 : n < 18446744073709551616) : IntKind.u64.wrap n = n := by
  rw [IntKind.wrap_u64]; omega
theorem not_u64 (W : Nat) (h : W < 18446744073709551616) : Go.bits .xor .u64 IntKind.u64.max (W : Int) = ((18446744073709551615 - W : Nat) : Int) := by
  have e : IntKind.u64.max = ((18446744073709551615 : Nat) : Int) := by decide
  rw [e, bits_xor_u64_nat _ _ (by omega) h]
  congr 1
  apply Nat.eq_of_testBit_eq
  intro i
  have h1 := Nat.testBit_two_pow_sub_succ (x := W) (n := 64) h i
  have h2 : (18446744073709551615 : Nat).testBit i = decide (i < 64) := Nat.testBit_two_pow_sub_one 64 i
  rw [Nat.testBit_xor, h2, show 18446744073709551615 - W = 2 ^ 64 - (W + 1) by omega, h1]
  by_cases hi : i < 64
  · simp [hi]
  · have : W.testBit i = false := Nat.testBit_lt_two_pow (Nat.lt_of_lt_of_le (show W < 2 ^ 64 from h) (Nat.pow_le_pow_right (by omega) (by omega)))
    simp [hi, this]
/-- How many ones stand at the end. -/
def ones (W : Nat) : Nat := Lib.ctz 64 (18446744073709551615 - W)
theorem ones_is (W : Nat) (h : W < 18446744073709551616) : ones W ≤ 64 ∧ (∀ i, i < ones W → W.testBit i = true) ∧ (ones W < 64 → W.testBit (ones W) = false) := by
  have hb : ∀ i, (18446744073709551615 - W).testBit i = (decide (i < 64) && !W.testBit i) := by
    intro i
    rw [show 18446744073709551615 - W = 2 ^ 64 - (W + 1) by omega]
    exact Nat.testBit_two_pow_sub_succ h i
  by_cases hz : 18446744073709551615 - W = 0
  · have e : ones W = 64 := by unfold ones Lib.ctz; rw [if_pos hz]
    rw [e]
    refine ⟨Nat.le_refl _, fun i hi => ?_, fun h => by omega⟩
    have := hb i
    rw [hz, Nat.zero_testBit] at this
    simpa [hi] using this.symm
  · obtain ⟨m, hm, hk⟩ := Lib.ctzFrom_spec 64 (18446744073709551615 - W) (by omega) (by omega)
    have e : ones W = Lib.ctzFrom 64 (18446744073709551615 - W) := by unfold ones Lib.ctz; rw [if_neg hz]
    rw [← e] at hm hk
    have ht : ∀ i, (18446744073709551615 - W).testBit i = (decide (ones W ≤ i) && (2 * m + 1).testBit (i - ones W)) := by
      intro i
      rw [hm, Nat.testBit_two_pow_mul]
    refine ⟨by omega, fun i hi => ?_, fun h => ?_⟩
    · have h1 := hb i
      rw [ht i, decide_eq_false (by omega)] at h1
      simpa [show i < 64 by omega] using h1.symm
    · have h1 := hb (ones W)
      rw [ht, decide_eq_true (Nat.le_refl _), Nat.sub_self, Nat.testBit_zero] at h1
      simpa [h, show (2 * m + 1) % 2 = 1 by omega] using h1.symm

/-- A window that may be. -/
structure Sn (b : Int) (V : Nat) : Prop where
  lo : 0 ≤ b
  hi : b ≤ 4294967296
  lt : V < 18446744073709551616
  even : V.testBit 0 = false
  room : ∀ i, V.testBit i = true → b + i < 4294967296
/-- Was a number seen? -/
def sn (b : Int) (V : Nat) (s : Int) : Bool := decide (s < b) || V.testBit (s - b).toNat
theorem bitLen_pos (x : Nat) (h0 : x ≠ 0) (h : x < 2 ^ 64) : 1 ≤ Lib.bitLen x := by rw [Lib.bitLen_half x h0 h]; omega
theorem lt_of_bitLen (x k : Nat) (h : x < 2 ^ 64) (hk : Lib.bitLen x ≤ k) : x < 2 ^ k := by
  rcases Nat.lt_or_ge x (2 ^ k) with h1 | h1
  · exact h1
  · have e := Lib.bitLen_shift k x h1 h
    have hp : 0 < x / 2 ^ k := Nat.div_pos h1 (Nat.pow_pos (by omega))
    have := bitLen_pos (x / 2 ^ k) (by omega) (Nat.lt_of_le_of_lt (Nat.div_le_self _ _) h)
    omega
theorem Sn.start (b : Int) (h0 : 0 ≤ b) (h1 : b ≤ 4294967296) : Sn b 0 := ⟨h0, h1, by omega, by simp, fun i h => by simp at h⟩
theorem room_f (b : Int) (V : Nat) (h0 : 0 ≤ b) (h1 : b ≤ 4294967296) : seqs_Window_room.f b V = some (min 64 (4294967296 - b)) := by
  unfold seqs_Window_room.f
  have : wrap64 (4294967296 - b) = 4294967296 - b := by unfold wrap64; omega
  rw [this]
  congr 1
  unfold mn
  omega
theorem len64_f' (V : Nat) (h : V < 18446744073709551616) : bits_Len64.f (V : Int) = some ((Lib.bitLen V : Nat) : Int) := by
  unfold bits_Len64.f
  rw [if_pos ⟨by omega, by omega⟩, Int.toNat_natCast]
theorem sane_cases (b : Int) (V : Nat) (hV : V < 18446744073709551616) : (Sn b V ∧ seqs_Sane.f b V = some true) ∨ (¬ Sn b V ∧ seqs_Sane.f b V = some false) := by
  unfold seqs_Sane.f
  by_cases h0 : b ≥ 0
  · rw [if_pos h0]
    by_cases h1 : b ≤ 4294967296
    · rw [if_pos h1, and_one V hV]
      by_cases he : V.testBit 0 = true
      · rw [if_pos he, if_neg (by decide)]
        exact .inr ⟨fun h => (by rw [h.even] at he; cases he), rfl⟩
      · rw [if_neg he, if_pos rfl, len64_f' V hV, Option.bind_some, room_f b V h0 h1, Option.bind_some]
        have he' : V.testBit 0 = false := by simpa using he
        by_cases hr : ((Lib.bitLen V : Nat) : Int) ≤ min 64 (4294967296 - b)
        · left
          refine ⟨⟨h0, h1, hV, he', fun i hi => ?_⟩, by rw [decide_eq_true hr]⟩
          obtain ⟨r, hrr⟩ : ∃ r : Nat, min 64 (4294967296 - b) = (r : Int) := ⟨(min 64 (4294967296 - b)).toNat, by omega⟩
          have hlt := lt_of_bitLen V r hV (by omega)
          rcases Nat.lt_or_ge i r with h | h
          · omega
          · rw [Nat.testBit_lt_two_pow (Nat.lt_of_lt_of_le hlt (Nat.pow_le_pow_right (by omega) h))] at hi
            cases hi
        · right
          refine ⟨fun hs => hr ?_, by rw [decide_eq_false hr]⟩
          obtain ⟨r, hrr⟩ : ∃ r : Nat, min 64 (4294967296 - b) = (r : Int) := ⟨(min 64 (4294967296 - b)).toNat, by omega⟩
          have : V < 2 ^ r := by
            apply Nat.lt_pow_two_of_testBit
            intro i hi
            by_cases ht : V.testBit i = true
            · have h2 := hs.room i ht
              rcases Nat.lt_or_ge i 64 with h | h
              · omega
              · rw [Nat.testBit_lt_two_pow (Nat.lt_of_lt_of_le (show V < 2 ^ 64 from hV) (Nat.pow_le_pow_right (by omega) h))] at ht
                cases ht
            · simpa using ht
          have := Lib.bitLen_le V r (by omega) this
          omega
    · rw [if_neg h1]
      exact .inr ⟨fun h => h1 h.hi, rfl⟩
  · rw [if_neg h0]
    exact .inr ⟨fun h => h0 h.lo, rfl⟩
section
variable {b : Int} {V : Nat}
theorem sane_f (h : Sn b V) : seqs_Sane.f b V = some true := by
  rcases sane_cases b V h.lt with ⟨_, e⟩ | ⟨n, _⟩
  · exact e
  · exact absurd h n
theorem unsane_f (hV : V < 18446744073709551616) (h : ¬ Sn b V) : seqs_Sane.f b V = some false := by
  rcases sane_cases b V hV with ⟨s, _⟩ | ⟨_, e⟩
  · exact absurd s h
  · exact e
theorem may_f (h : Sn b V) (s : Int) : seqs_may.f b V s = some (decide (0 ≤ s ∧ s ≤ 4294967295)) := by
  unfold seqs_may.f
  rw [sane_f h, Option.bind_some, if_pos rfl]
  by_cases h0 : s ≥ 0
  · rw [if_pos h0]; simp [h0]
  · rw [if_neg h0, decide_eq_false (by omega)]
theorem may_no (hV : V < 18446744073709551616) (h : ¬ Sn b V) (s : Int) : seqs_may.f b V s = some false := by
  unfold seqs_may.f
  rw [unsane_f hV h, Option.bind_some, if_neg (by decide)]
theorem seen_out (h : Sn b V) (s : Int) (hs : ¬ (0 ≤ s ∧ s ≤ 4294967295)) : seqs_Seen.f b V s = some false := by
  unfold seqs_Seen.f
  rw [may_f h, decide_eq_false hs, Option.bind_some, if_neg (by decide)]
theorem seen_f (h : Sn b V) (s : Int) (h0 : 0 ≤ s) (h1 : s ≤ 4294967295) : seqs_Seen.f b V s = some (sn b V s) := by
  unfold seqs_Seen.f sn
  rw [may_f h, decide_eq_true ⟨h0, h1⟩, Option.bind_some, if_pos rfl]
  by_cases hlt : s < b
  · rw [if_pos hlt, decide_eq_true hlt, Bool.true_or]
  · have hb := h.lo
    have hw : IntKind.u64.wrap (wrap64 (s - b)) = (((s - b).toNat : Nat) : Int) := by
      have : wrap64 (s - b) = s - b := by unfold wrap64; omega
      rw [this, wrap_u64_small _ (by omega) (by omega)]
      omega
    rw [if_neg hlt, hw, if_pos (by omega), digit_at _ _ h.lt, decide_eq_false hlt, Bool.false_or]
    cases V.testBit (s - b).toNat <;> rfl
theorem accept_out (h : Sn b V) (s : Int) (hs : ¬ (0 ≤ s ∧ s ≤ 4294967295)) : seqs_Accept.f b V s = some (0, 0, 1) := by
  unfold seqs_Accept.f
  rw [may_f h, decide_eq_false hs, Option.bind_some, if_neg (by decide)]
theorem accept_no (hV : V < 18446744073709551616) (h : ¬ Sn b V) (s : Int) : seqs_Accept.f b V s = some (0, 0, 1) := by
  unfold seqs_Accept.f
  rw [may_no hV h, Option.bind_some, if_neg (by decide)]
theorem accept_seen (h : Sn b V) (s : Int) (h0 : 0 ≤ s) (h1 : s ≤ 4294967295) (hs : sn b V s = true) : seqs_Accept.f b V s = some (0, 0, 7) := by
  unfold seqs_Accept.f
  rw [may_f h, decide_eq_true ⟨h0, h1⟩, Option.bind_some, if_pos rfl, seen_f h s h0 h1, Option.bind_some, hs, if_pos rfl]
theorem accept_far (h : Sn b V) (s : Int) (h0 : 0 ≤ s) (h1 : s ≤ 4294967295) (hs : sn b V s = false) (hf : 64 ≤ s - b) : seqs_Accept.f b V s = some (0, 0, 8) := by
  have hw : wrap64 (s - b) = s - b := by have := h.lo; unfold wrap64; omega
  unfold seqs_Accept.f
  rw [may_f h, decide_eq_true ⟨h0, h1⟩, Option.bind_some, if_pos rfl, seen_f h s h0 h1, Option.bind_some, hs, if_neg (by decide), hw, if_pos (by omega)]
/-- With one number more. -/
def put (b : Int) (V : Nat) (s : Int) : Nat := V ||| 2 ^ (s - b).toNat
def nb (b : Int) (V : Nat) (s : Int) : Int := b + (ones (put b V s) : Nat)
def nv (b : Int) (V : Nat) (s : Int) : Nat := put b V s >>> ones (put b V s)
theorem put_lt (h : Sn b V) (s : Int) (hf : s - b < 64) : put b V s < 18446744073709551616 := by
  unfold put
  exact Nat.or_lt_two_pow (n := 64) h.lt (Nat.pow_lt_pow_right (by omega) (by omega))
theorem put_bit (b : Int) (V : Nat) (s : Int) (i : Nat) : (put b V s).testBit i = (V.testBit i || decide (i = (s - b).toNat)) := by
  unfold put
  rw [Nat.testBit_or, Nat.testBit_two_pow]
  congr 1
  exact decide_eq_decide.2 eq_comm
theorem accept_ok (h : Sn b V) (s : Int) (h0 : 0 ≤ s) (h1 : s ≤ 4294967295) (hs : sn b V s = false) (hf : s - b < 64) :
    seqs_Accept.f b V s = some (nb b V s, ((nv b V s : Nat) : Int), 0) := by
  have hb := h.lo
  have hsb : b ≤ s := by
    unfold sn at hs
    rcases Int.lt_or_le s b with hh | hh
    · rw [decide_eq_true hh, Bool.true_or] at hs; cases hs
    · exact hh
  have hw : wrap64 (s - b) = s - b := by unfold wrap64; omega
  obtain ⟨j, hj⟩ : ∃ j : Nat, s - b = j := ⟨(s - b).toNat, by omega⟩
  have hlt := put_lt h s hf
  have e1 : put b V s = V ||| 2 ^ j := by unfold put; rw [hj, Int.toNat_natCast]
  have e2 : Go.bits .or .u64 (V : Int) (shl .u64 1 (IntKind.u64.wrap (j : Int))) = ((put b V s : Nat) : Int) := by
    rw [wrap_u64_small _ (by omega) (by omega), shl_one j (by omega), bits_or_u64_nat _ _ h.lt (Nat.pow_lt_pow_right (n := 64) (by omega) (by omega)), e1]
  obtain ⟨o1, _, _⟩ := ones_is _ hlt
  unfold seqs_Accept.f
  rw [may_f h, decide_eq_true ⟨h0, h1⟩, Option.bind_some, if_pos rfl, seen_f h s h0 h1, Option.bind_some, hs, if_neg (by decide), hw, if_neg (by omega), hj, if_pos (by rw [wrap_u64_small _ (by omega) (by omega)]; omega), e2, not_u64 _ hlt]
  unfold bits_TrailingZeros64.f
  rw [if_pos ⟨by omega, by omega⟩, Option.bind_some, Int.toNat_natCast]
  have eo : Lib.ctz 64 (18446744073709551615 - put b V s) = ones (put b V s) := rfl
  rw [eo]
  rw [wrap_u64_small ((ones (put b V s) : Nat) : Int) (by omega) (by omega), if_pos (by omega), shr_u64 _ _ hlt]
  have hw2 : wrap64 (b + (ones (put b V s) : Nat)) = nb b V s := by have := h.hi; unfold nb wrap64; omega
  show some (wrap64 (b + (ones (put b V s) : Nat)), _, _) = _
  rw [hw2]
  rfl
theorem accept_sn (h : Sn b V) (s : Int) (h1 : s ≤ 4294967295) (hsb : b ≤ s) (hf : s - b < 64) (t : Int) :
    sn (nb b V s) (nv b V s) t = (sn b V t || decide (t = s)) := by
  have hlt := put_lt h s hf
  obtain ⟨o1, o2, o3⟩ := ones_is _ hlt
  unfold sn nb nv
  rw [Nat.testBit_shiftRight]
  rcases Int.lt_or_le t b with hh | hh
  · rw [decide_eq_true (by omega : t < b + _), decide_eq_true hh]; simp
  · rw [decide_eq_false (by omega : ¬ t < b), Bool.false_or]
    have hd : decide (t = s) = decide ((t - b).toNat = (s - b).toNat) := decide_eq_decide.2 (by omega)
    rw [hd, ← put_bit b V s]
    by_cases h2 : t < b + (ones (put b V s) : Nat)
    · rw [decide_eq_true h2, Bool.true_or, o2 _ (by omega)]
    · rw [decide_eq_false h2, Bool.false_or]
      congr 1
      omega
theorem accept_Sn (h : Sn b V) (s : Int) (h1 : s ≤ 4294967295) (hsb : b ≤ s) (hf : s - b < 64) : Sn (nb b V s) (nv b V s) := by
  have hlt := put_lt h s hf
  obtain ⟨o1, o2, o3⟩ := ones_is _ hlt
  have hroom : ∀ i, (put b V s).testBit i = true → b + i < 4294967296 := by
    intro i hi
    rw [put_bit] at hi
    rcases Bool.or_eq_true_iff.1 hi with hi | hi
    · exact h.room i hi
    · have := of_decide_eq_true hi; omega
  refine ⟨?_, ?_, ?_, ?_, fun i hi => ?_⟩
  · have := h.lo; unfold nb; omega
  · unfold nb
    by_cases hz : ones (put b V s) = 0
    · have := h.hi; omega
    · have := hroom _ (o2 (ones (put b V s) - 1) (by omega)); omega
  · exact shr_lt _ _ hlt
  · unfold nv
    rw [Nat.testBit_shiftRight, Nat.add_zero]
    rcases Nat.lt_or_ge (ones (put b V s)) 64 with h2 | h2
    · exact o3 h2
    · exact Nat.testBit_lt_two_pow (Nat.lt_of_lt_of_le (show put b V s < 2 ^ 64 from hlt) (Nat.pow_le_pow_right (by omega) h2))
  · unfold nv at hi
    rw [Nat.testBit_shiftRight] at hi
    have := hroom _ hi
    unfold nb; omega
end
theorem awake_f (f : Option Bool) (h : f = (seqs_Accept.f 0 0 1).bind fun bt114 => ((seqs_Accept.f bt114.1 bt114.2.1 0).bind fun bt118 => ((seqs_Accept.f bt118.1 bt118.2.1 1).bind fun bt121 => (if bt114.2.2 = 0 then (if bt118.2.2 = 0 then (if bt121.2.2 = 7 then (if bt118.1 = 2 then (some (bt118.2.1 == 0)) else (none)) else (none)) else (none)) else (none))))) : f = some true := by
  subst h
  have s0 := Sn.start 0 (by omega) (by omega)
  have e1 : seqs_Accept.f 0 0 1 = some (0, 2, 0) := by
    have := accept_ok s0 1 (by omega) (by omega) (by decide) (by omega)
    rw [show nb 0 0 1 = 0 by decide +kernel, show nv 0 0 1 = 2 by decide +kernel] at this
    exact this
  have s1 : Sn 0 2 := by
    have := accept_Sn s0 1 (by omega) (by omega) (by omega)
    rwa [show nb 0 0 1 = 0 by decide +kernel, show nv 0 0 1 = 2 by decide +kernel] at this
  have e2 : seqs_Accept.f 0 2 0 = some (2, 0, 0) := by
    have := accept_ok s1 0 (by omega) (by omega) (by decide) (by omega)
    rw [show nb 0 2 0 = 2 by decide +kernel, show nv 0 2 0 = 0 by decide +kernel] at this
    exact this
  have s2 : Sn 2 0 := Sn.start 2 (by omega) (by omega)
  have e3 : seqs_Accept.f 2 0 1 = some (0, 0, 7) := accept_seen s2 1 (by omega) (by omega) (by decide)
  rw [e1, Option.bind_some, e2, Option.bind_some, e3, Option.bind_some]
  rfl
end Go.Proofs.YtpdfccncfkejiaaDoor.Pure
