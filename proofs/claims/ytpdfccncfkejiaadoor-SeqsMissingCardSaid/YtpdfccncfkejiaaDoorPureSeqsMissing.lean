/- What is missing was not seen, and each that was not, below the first 64, is missing; accepted it is missing no more. -/
import Derived.Test.YtpdfccncfkejiaaDoorQx14
import Derived.Test.YtpdfccncfkejiaaDoorP15b
set_option linter.unusedVariables false
namespace Go.Proofs.YtpdfccncfkejiaaDoor.Pure
open Go.RowKit Go.Proofs.YtpdfccncfkejiaaDoor.Q Go.Proofs.YtpdfccncfkejiaaDoorW.PrintWords Go.Proofs.YtpdfccncfkejiaaDoorW.PrintLast Go.Proofs.YtpdfccncfkejiaaDoor.G
theorem ints_nil (k : Nat) (hk : 1 ≤ k) : godwitref10_Ints.f k [] [] = some true := by
  obtain ⟨k, rfl⟩ : ∃ m, k = m + 1 := ⟨k - 1, by omega⟩
  unfold godwitref10_Ints.f
  rw [if_pos rfl, godwitref10_Ints.l0, if_neg (by simp)]
theorem drop_head {l r : List Int} {n : Nat} {x : Int} (h : l.drop n = x :: r) : n < l.length ∧ rd l (n : Int) = x ∧ l.drop (n + 1) = r := by
  have hl : n < l.length := by
    rcases Nat.lt_or_ge n l.length with h1 | h1
    · exact h1
    · rw [List.drop_of_length_le h1] at h; cases h
  rw [List.drop_eq_getElem_cons hl] at h
  injection h with h1 h2
  exact ⟨hl, by simp [rd, List.getD_eq_getElem?_getD, hl, h1], h2⟩
theorem last_step {b : Int} {V : Nat} (hS : Sn b V) (q : Int) (n k : Nat) (hn : n = (missL b V).length) (hk : 210 ≤ k) :
    godwitlaw15_SeqsMissing.j4 k q true (missL b V) (n : Int) ((n : Int) == 0) b V = some true := by
  obtain ⟨k, rfl⟩ : ∃ m, k = m + 1 := ⟨k - 1, by omega⟩
  rw [godwitlaw15_SeqsMissing.j4]
  by_cases h0 : n = 0
  · rw [if_pos (by subst h0; rfl), if_pos rfl, ← hn]; simp
  have e : Go.bits .and .i64 q 65535 = q % 65536 := and_mask q 16 (by omega)
  have p0 : 0 ≤ q % 65536 := Int.emod_nonneg _ (by decide)
  obtain ⟨j, hj, hjn⟩ : ∃ j : Nat, Int.tmod (Go.bits .and .i64 q 65535) (n : Int) = j ∧ j < n := by
    rw [e, Int.tmod_eq_emod_of_nonneg p0]
    have q0 := Int.emod_nonneg (q % 65536) (show (n : Int) ≠ 0 by omega)
    have q1 := Int.emod_lt_of_pos (q % 65536) (show 0 < (n : Int) by omega)
    exact ⟨(q % 65536 % (n : Int)).toNat, by omega, by omega⟩
  have hjl : j < (missL b V).length := by omega
  have hb0 := hS.lo
  have hb1 := hS.hi
  obtain ⟨i, _, hi, ht, hs⟩ := missN_mem (b := b) (V := V) (i := 0) (n := rm b) (x := (missL b V)[j]) (List.getElem_mem hjl)
  have hr : (rm b : Int) = min 64 (4294967296 - b) := by unfold rm; omega
  have hrd : rd (missL b V) (j : Int) = b + (i : Int) := by simp [rd, List.getD_eq_getElem?_getD, hjl, hs]
  generalize hsd : b + (i : Int) = s at *
  have s0 : 0 ≤ s := by omega
  have s1 : s ≤ 4294967295 := by omega
  have hsb : b ≤ s := by omega
  have hc : sn b V s = false := by
    unfold sn
    rw [decide_eq_false (by omega), Bool.false_or, show (s - b).toNat = i by omega, ht]
  have hS' := accept_Sn hS s s1 hsb (by omega)
  have hsn := accept_sn hS s s1 hsb (by omega)
  have m0 : ∀ k, 200 ≤ k → seqs_Missing.f k b V 0 = some [] := fun k hk => by rw [missing_f hS 0 k hk]; simp
  rw [if_neg (by simp; omega), if_neg (by omega), hj, if_pos (by omega), if_pos (by omega), hrd, accept_ok hS s s0 s1 hc (by omega), Option.bind_some, missing_f hS' 1 k (by omega), Option.bind_some, if_pos rfl, if_pos rfl,
    seen_f hS' s s0 s1, Option.bind_some, hsn s, decide_eq_true rfl, Bool.or_true, if_pos rfl, seen_f hS s s0 s1, Option.bind_some, hc, if_neg (by decide)]
  by_cases hj0 : (j : Int) > 0
  · rw [if_pos hj0, m0 k (by omega), Option.bind_some, ints_nil k (by omega), Option.bind_some]
  rw [if_neg hj0]
  by_cases hl0 : (((missL (nb b V s) (nv b V s)).take (1 : Int).toNat).length : Int) = 0
  · rw [if_pos hl0, m0 k (by omega), Option.bind_some, ints_nil k (by omega), Option.bind_some]
  rw [if_neg hl0, if_pos (by omega), if_pos (by omega)]
  obtain rfl : j = 0 := by omega
  have hbl : b < 4294967296 := by omega
  obtain ⟨r, hr0⟩ := missL_head hS hbl
  have hsb0 : s = b := by
    have : rd (missL b V) ((0 : Nat) : Int) = b := by rw [hr0]; rfl
    omega
  have hnb : nb b V s < 4294967296 := by
    rcases Int.lt_or_le (nb b V s) 4294967296 with h | h
    · exact h
    · have h2 : nb b V s = 4294967296 := by have := hS'.hi; omega
      rw [h2] at hl0
      exact absurd (by rw [missL_nil]; simp) hl0
  obtain ⟨r', hr'⟩ := missL_head hS' hnb
  have hgt : nb b V s > b := by
    have o := (ones_is (put b V s) (put_lt hS s (by omega))).2.2
    unfold nb
    rcases Nat.eq_zero_or_pos (ones (put b V s)) with h | h
    · exfalso
      rw [h] at o
      have := o (by omega)
      rw [put_bit, decide_eq_true (by omega), Bool.or_true] at this
      cases this
    · omega
  rw [show rd ((missL (nb b V s) (nv b V s)).take (1 : Int).toNat) 0 = nb b V s by rw [hr']; rfl, show rd (missL b V) 0 = b by rw [hr0]; rfl, if_pos hgt, m0 k (by omega), Option.bind_some, ints_nil k (by omega), Option.bind_some]
theorem tell_loop {b : Int} {V : Nat} (hS : Sn b V) (q : Int) : ∀ (d i k n : Nat), d + i = 64 → 3 * d + 220 ≤ k → n ≤ (missL b V).length → (missL b V).drop n = missN b V i (rm b - i) →
    godwitlaw15_SeqsMissing.l1 k q true (missL b V) (n : Int) (i : Int) b V = some true := by
  have hb0 := hS.lo
  have hb1 := hS.hi
  have hr : (rm b : Int) = min 64 (4294967296 - b) := by unfold rm; omega
  intro d
  induction d with
  | zero =>
    intro i k n hi hk hn hd
    obtain ⟨k, rfl⟩ : ∃ m, k = m + 1 := ⟨k - 1, by omega⟩
    have hz : rm b - i = 0 := by omega
    rw [hz] at hd
    have hl : n = (missL b V).length := by
      have : ((missL b V).drop n).length = 0 := by rw [hd]; simp [missN]
      rw [List.length_drop] at this
      omega
    rw [godwitlaw15_SeqsMissing.l1, if_neg (by omega), if_pos (by omega)]
    exact last_step hS q n k hl (by omega)
  | succ d ih =>
    intro i k n hi hk hn hd
    obtain ⟨k, rfl⟩ : ∃ m, k = m + 3 := ⟨k - 3, by omega⟩
    have hw : wrap64 ((i : Int) + 1) = ((i + 1 : Nat) : Int) := by unfold wrap64; omega
    have hw2 : wrap64 (b + (i : Int)) = b + (i : Int) := by unfold wrap64; omega
    rw [godwitlaw15_SeqsMissing.l1, if_pos (by omega), hw2]
    by_cases hin : i < rm b
    · have hsi : sn b V (b + i) = V.testBit i := by
        unfold sn
        rw [decide_eq_false (by omega), Bool.false_or, show (b + (i : Int) - b).toNat = i by omega]
      obtain ⟨m, hm⟩ : ∃ m, rm b - i = m + 1 := ⟨rm b - i - 1, by omega⟩
      rw [hm, missN_succ] at hd
      have hm2 : rm b - (i + 1) = m := by omega
      rw [seen_f hS _ (by omega) (by omega), Option.bind_some, hsi]
      cases ht : V.testBit i with
      | true =>
        rw [ht] at hd
        rw [if_pos (rfl : true = true), godwitlaw15_SeqsMissing.j2, if_neg (by decide), hw]
        exact ih (i + 1) (k + 1) n (by omega) (by omega) hn (by rw [hd, hm2]; rfl)
      | false =>
        rw [ht] at hd
        obtain ⟨h1, h2, h3⟩ := drop_head hd
        have hw3 : wrap64 ((n : Int) + 1) = ((n + 1 : Nat) : Int) := by
          have := missN_len b V 0 (rm b)
          unfold missL at h1
          unfold wrap64; omega
        generalize missL b V = M at *
        rw [if_neg (by decide), decide_eq_true (by omega), godwitlaw15_SeqsMissing.j2, if_pos (rfl : true = true), if_neg (by omega), if_pos (by omega), if_pos (by omega), h2, hw2]
        rw [show ((b + (i : Int)) != (b + (i : Int))) = false by simp, godwitlaw15_SeqsMissing.j3, if_neg (by decide), hw, hw3]
        exact ih (i + 1) k (n + 1) (by omega) (by omega) (by omega) (by rw [h3, hm2]; rfl)
    · rw [seen_out hS _ (by omega), Option.bind_some, if_neg (by decide), decide_eq_false (by omega), godwitlaw15_SeqsMissing.j2, if_neg (by decide), hw]
      refine ih (i + 1) (k + 1) n (by omega) (by omega) hn ?_
      rw [hd, show rm b - i = 0 by omega, show rm b - (i + 1) = 0 by omega]
      simp [missN]
theorem any_loop (l : List Int) (q : Int) (hl : l.length ≤ 100) : ∀ (d i k : Nat) (b : Int) (V : Nat), d + i = l.length → d + 500 ≤ k → Sn b V →
    godwitlaw15_SeqsMissing.l0 k l q true (i : Int) b V = some true := by
  intro d
  induction d with
  | zero =>
    intro i k b V hi hk hS
    obtain ⟨k, rfl⟩ : ∃ m, k = m + 1 := ⟨k - 1, by omega⟩
    have h64 : (missL b V).take (64 : Int).toNat = missL b V := List.take_of_length_le (by
      have := missN_len b V 0 (rm b)
      have : rm b ≤ 64 := by unfold rm; omega
      unfold missL
      show _ ≤ 64
      omega)
    rw [godwitlaw15_SeqsMissing.l0, if_neg (by omega), missing_f hS 64 k (by omega), Option.bind_some, h64]
    exact tell_loop hS q 64 0 k 0 (by omega) (by omega) (by omega) (by simp [missL])
  | succ d ih =>
    intro i k b V hi hk hS
    obtain ⟨k, rfl⟩ : ∃ m, k = m + 1 := ⟨k - 1, by omega⟩
    have hw : wrap64 ((i : Int) + 1) = ((i + 1 : Nat) : Int) := by unfold wrap64; omega
    rw [godwitlaw15_SeqsMissing.l0, if_pos (by omega), if_pos (by omega), hw]
    generalize rd l (i : Int) = s
    have go := ih (i + 1) k b V (by omega) (by omega) hS
    by_cases hv : 0 ≤ s ∧ s ≤ 4294967295
    · cases hc : sn b V s with
      | true => rw [accept_seen hS s hv.1 hv.2 hc, Option.bind_some, if_neg (by decide)]; exact go
      | false =>
        by_cases hf : 64 ≤ s - b
        · rw [accept_far hS s hv.1 hv.2 hc hf, Option.bind_some, if_neg (by decide)]; exact go
        · have hsb : b ≤ s := by
            unfold sn at hc
            rcases Int.lt_or_le s b with hh | hh
            · rw [decide_eq_true hh, Bool.true_or] at hc; cases hc
            · exact hh
          rw [accept_ok hS s hv.1 hv.2 hc (by omega), Option.bind_some, if_pos rfl]
          exact ih (i + 1) k _ _ (by omega) (by omega) (accept_Sn hS s hv.2 hsb (by omega))
    · rw [accept_out hS s hv, Option.bind_some, if_neg (by decide)]; exact go

theorem SeqsMissing : godwitlaw15_SeqsMissing.Pure := by
  intro l q hl hq
  refine ⟨l.length + 500, ?_⟩
  unfold godwitlaw15_SeqsMissing.f
  rw [show godwitlaw15_awake.f = some true from awake_f _ rfl, Option.bind_some]
  by_cases h1 : (l.length : Int) > 100
  · rw [if_pos h1]
  · rw [if_neg h1]
    exact any_loop l q (by omega) l.length 0 _ 0 0 (by omega) (by omega) (Sn.start 0 (by omega) (by omega))
end Go.Proofs.YtpdfccncfkejiaaDoor.Pure
