/- Whatever the order: so many numbers, turned round in so many places, are all accepted, and none is missing below. -/
import Derived.Test.YtpdfccncfkejiaaDoorQx12
import Derived.Test.YtpdfccncfkejiaaDoorP15b
set_option linter.unusedVariables false
namespace Go.Proofs.YtpdfccncfkejiaaDoor.Pure
open Go.RowKit Go.Proofs.YtpdfccncfkejiaaDoor.Q Go.Proofs.YtpdfccncfkejiaaDoorW.PrintWords Go.Proofs.YtpdfccncfkejiaaDoorW.PrintLast Go.Proofs.YtpdfccncfkejiaaDoor.G
def upto (n : Nat) : List Int := (List.range n).map fun (j : Nat) => (j : Int)
theorem upto_nodup (n : Nat) : (upto n).Nodup := by
  unfold upto List.Nodup
  rw [List.pairwise_map]
  exact List.nodup_range.imp (fun h e => h (by omega))
/-- The numbers below n, each once, in some order. -/
def Perm (n : Nat) (l : List Int) : Prop := List.Perm l (upto n)
theorem Perm.len {n : Nat} {l : List Int} (h : Perm n l) : l.length = n := by
  have := List.Perm.length_eq h
  simpa [upto] using this
theorem Perm.nodup {n : Nat} {l : List Int} (h : Perm n l) : l.Nodup := (List.Perm.nodup_iff h).2 (upto_nodup n)
theorem Perm.mem {n : Nat} {l : List Int} (h : Perm n l) (x : Int) : x ∈ l ↔ 0 ≤ x ∧ x < (n : Int) := by
  rw [List.Perm.mem_iff h]
  unfold upto
  rw [List.mem_map]
  constructor
  · rintro ⟨j, hj, rfl⟩
    rw [List.mem_range] at hj
    omega
  · intro ⟨h0, h1⟩
    exact ⟨x.toNat, by rw [List.mem_range]; omega, by omega⟩
theorem rd_get (l : List Int) (i : Nat) (h : i < l.length) : rd l (i : Int) = l[i] := by simp [rd, List.getD_eq_getElem?_getD, h]
theorem swap_perm {n : Nat} {l : List Int} (h : Perm n l) (a b : Nat) (ha : a < n) (hb : b < n) : Perm n ((l.set a (rd l (b : Int))).set b (rd l (a : Int))) := by
  have hl := h.len
  have hp : ((l.set a (rd l (b : Int))).set b (rd l (a : Int))).Perm l := by
    rw [rd_get l a (by omega), rd_get l b (by omega)]
    exact List.set_set_perm (by omega) (by omega)
  exact hp.trans h
theorem fill_loop (turns : List Int) (n : Nat) (hn : n ≤ 32) (k2 : Nat) (R : Option Bool)
    (hR : ∀ k, k2 ≤ k → godwitlaw15_SeqsOrder.l1 k turns true (n : Int) ((List.range n).map fun (j : Nat) => (j : Int)) 0 = R) : ∀ (d i k : Nat), d + i = n → d + 1 + k2 ≤ k →
    godwitlaw15_SeqsOrder.l0 k turns true (n : Int) (((List.range i).map fun (j : Nat) => (j : Int)) ++ List.replicate (n - i) 0) (i : Int) = R := by
  intro d
  induction d with
  | zero =>
    intro i k hi hk
    obtain ⟨k, rfl⟩ : ∃ m, k = m + 1 := ⟨k - 1, by omega⟩
    obtain rfl : i = n := by omega
    rw [godwitlaw15_SeqsOrder.l0, if_neg (by omega), Nat.sub_self, List.replicate_zero, List.append_nil]
    exact hR k (by omega)
  | succ d ih =>
    intro i k hi hk
    obtain ⟨k, rfl⟩ : ∃ m, k = m + 1 := ⟨k - 1, by omega⟩
    have hw : wrap64 ((i : Int) + 1) = ((i + 1 : Nat) : Int) := by unfold wrap64; omega
    have hs : (((List.range i).map fun (j : Nat) => (j : Int)) ++ List.replicate (n - i) 0).set i (i : Int) = ((List.range (i + 1)).map fun (j : Nat) => (j : Int)) ++ List.replicate (n - (i + 1)) 0 := by
      rw [List.set_append_right _ _ (by simp), List.length_map, List.length_range, Nat.sub_self]
      obtain ⟨m, hm⟩ : ∃ m, n - i = m + 1 := ⟨n - i - 1, by omega⟩
      rw [hm, show n - (i + 1) = m by omega, List.replicate_succ, List.set_cons_zero, List.range_succ, List.map_append, List.append_assoc]
      rfl
    rw [godwitlaw15_SeqsOrder.l0, if_pos (by omega), if_pos (by omega), if_pos (by simp; omega), Int.toNat_natCast, hs, hw]
    exact ih (i + 1) k (by omega) (by omega)
theorem turn_loop (turns : List Int) (ht : turns.length ≤ 100) (n : Nat) (hn0 : 0 < n) (hn : n ≤ 32) (k2 : Nat)
    (hR : ∀ k l, k2 ≤ k → Perm n l → godwitlaw15_SeqsOrder.l2 k true (n : Int) l 0 0 0 = some true) : ∀ (d i k : Nat) (l : List Int), d + i = turns.length → d + 1 + k2 ≤ k → Perm n l →
    godwitlaw15_SeqsOrder.l1 k turns true (n : Int) l (i : Int) = some true := by
  intro d
  induction d with
  | zero =>
    intro i k l hi hk hl
    obtain ⟨k, rfl⟩ : ∃ m, k = m + 1 := ⟨k - 1, by omega⟩
    rw [godwitlaw15_SeqsOrder.l1, if_neg (by omega)]
    exact hR k l (by omega) hl
  | succ d ih =>
    intro i k l hi hk hl
    obtain ⟨k, rfl⟩ : ∃ m, k = m + 1 := ⟨k - 1, by omega⟩
    have hw : wrap64 ((i : Int) + 1) = ((i + 1 : Nat) : Int) := by unfold wrap64; omega
    have hm : ∀ x : Int, ∃ a : Nat, a < n ∧ Int.tmod (Go.bits .and .i64 x 255) (n : Int) = a := by
      intro x
      have p0 : 0 ≤ x % 256 := Int.emod_nonneg _ (by decide)
      rw [and255, Int.tmod_eq_emod_of_nonneg p0]
      have q0 := Int.emod_nonneg (x % 256) (show (n : Int) ≠ 0 by omega)
      have q1 := Int.emod_lt_of_pos (x % 256) (show 0 < (n : Int) by omega)
      exact ⟨(x % 256 % (n : Int)).toNat, by omega, by omega⟩
    obtain ⟨a, ha, ea⟩ := hm (rd turns (i : Int))
    obtain ⟨b, hb, eb⟩ := hm (rd turns (i : Int) / 256)
    have hll := hl.len
    rw [godwitlaw15_SeqsOrder.l1, if_pos (by omega), if_pos (by omega), if_neg (by omega), ea, eb, if_pos (by omega), if_pos (by omega), if_pos (by omega), if_pos (by omega), hw, Int.toNat_natCast, Int.toNat_natCast]
    exact ih (i + 1) k _ (by omega) (by omega) (swap_perm hl a b ha hb)
theorem order_loop (n : Nat) (hn : n ≤ 32) (l : List Int) (hl : Perm n l) : ∀ (d i k : Nat) (b : Int) (V : Nat), d + i = n → 2 * d + 300 ≤ k → Sn b V →
    (∀ s, 0 ≤ s → s ≤ 4294967295 → sn b V s = decide (s ∈ l.take i)) → godwitlaw15_SeqsOrder.l2 k true (n : Int) l (i : Int) b V = some true := by
  have hlen := hl.len
  intro d
  induction d with
  | zero =>
    intro i k b V hi hk hS hs
    obtain ⟨k, rfl⟩ : ∃ m, k = m + 1 := ⟨k - 1, by omega⟩
    obtain rfl : i = n := by omega
    have hs2 : ∀ s, 0 ≤ s → s ≤ 4294967295 → sn b V s = decide (s < i) := by
      intro s h0 h1
      rw [hs s h0 h1, List.take_of_length_le (by omega)]
      exact decide_eq_decide.2 ⟨fun h => ((hl.mem s).1 h).2, fun h => (hl.mem s).2 ⟨h0, h⟩⟩
    have hb0 := hS.lo
    have hb : b = i := by
      rcases Int.lt_trichotomy b i with h | h | h
      · have := hs2 b hb0 (by omega)
        rw [decide_eq_true h] at this
        unfold sn at this
        rw [decide_eq_false (by omega), Int.sub_self, Bool.false_or, show (0 : Int).toNat = 0 from rfl, hS.even] at this
        cases this
      · exact h
      · have := hs2 i (by omega) (by omega)
        rw [decide_eq_false (by omega)] at this
        unfold sn at this
        rw [decide_eq_true h, Bool.true_or] at this
        cases this
    subst hb
    have hV : V = 0 := by
      apply Nat.eq_of_testBit_eq
      intro j
      rw [Nat.zero_testBit]
      cases ht : V.testBit j with
      | false => rfl
      | true =>
        exfalso
        have h1 := hS.room j ht
        have := hs2 ((i : Int) + j) (by omega) (by omega)
        rw [decide_eq_false (by omega)] at this
        unfold sn at this
        rw [decide_eq_false (by omega), Bool.false_or, show ((i : Int) + (j : Int) - (i : Int)).toNat = j by omega, ht] at this
        cases this
    subst hV
    have e3 : (missL (i : Int) 0).take (3 : Int).toNat = [(i : Int), i + 1, i + 2] := by
      unfold missL
      have hr : rm (i : Int) = 64 := by unfold rm; omega
      rw [hr, show (64 : Nat) = 61 + 1 + 1 + 1 from rfl, missN_succ, missN_succ, missN_succ]
      simp
    have hw : wrap64 ((i : Int) + 2) = (i : Int) + 2 := by unfold wrap64; omega
    rw [godwitlaw15_SeqsOrder.l2, if_neg (by omega), missing_f hS 3 k (by omega), e3, Option.bind_some, if_pos (rfl : true = true), if_pos (rfl : (i : Int) = i), if_pos (by simp), if_pos (by simp), if_pos (by simp), hw]
    simp [rd]
  | succ d ih =>
    intro i k b V hi hk hS hs
    obtain ⟨k, rfl⟩ : ∃ m, k = m + 2 := ⟨k - 2, by omega⟩
    have hw : wrap64 ((i : Int) + 1) = ((i + 1 : Nat) : Int) := by unfold wrap64; omega
    have hb0 := hS.lo
    have hil : i < l.length := by omega
    have hx := (hl.mem l[i]).1 (List.getElem_mem hil)
    have hbn : b ≤ n := by
      rcases Int.lt_or_le (n : Int) b with h | h
      · have := hs n (by omega) (by omega)
        have h2 : sn b V n = true := by unfold sn; rw [decide_eq_true h, Bool.true_or]
        rw [h2] at this
        have h3 := of_decide_eq_true this.symm
        have := (hl.mem _).1 (List.mem_of_mem_take h3)
        omega
      · exact h
    obtain ⟨r, hr⟩ := missL_head hS (by omega)
    have e64 : (missL b V).take (64 : Int).toNat = b :: r.take 63 := by rw [hr]; rfl
    have hnot : l[i] ∉ l.take i := by
      intro hm
      obtain ⟨j, hj, e⟩ := List.getElem_of_mem hm
      rw [List.length_take] at hj
      rw [List.getElem_take] at e
      have := (List.getElem_inj (h₀ := by omega) (h₁ := hil) hl.nodup).1 e
      omega
    have hc : sn b V l[i] = false := by rw [hs _ hx.1 (by omega), decide_eq_false hnot]
    have hsb : b ≤ l[i] := by
      unfold sn at hc
      rcases Int.lt_or_le l[i] b with hh | hh
      · rw [decide_eq_true hh, Bool.true_or] at hc; cases hc
      · exact hh
    rw [godwitlaw15_SeqsOrder.l2, if_pos (by omega), missing_f hS 64 _ (by omega), e64, Option.bind_some, if_neg (by simp <;> omega), if_pos (by simp <;> omega), show (rd (b :: List.take 63 r) 0 != b) = false by simp [rd], godwitlaw15_SeqsOrder.j3, if_neg (by decide), if_pos (by omega), if_pos (by omega), rd_get l i hil, accept_ok hS _ hx.1 (by omega) hc (by omega), Option.bind_some, if_pos rfl, hw]
    refine ih (i + 1) k _ _ (by omega) (by omega) (accept_Sn hS _ (by omega) hsb (by omega)) ?_
    intro s h0 h1
    rw [accept_sn hS _ (by omega) hsb (by omega), hs s h0 h1, ← Bool.decide_or]
    exact decide_eq_decide.2 (by rw [List.take_succ_eq_append_getElem hil, List.mem_append, List.mem_singleton])

theorem SeqsOrder : godwitlaw15_SeqsOrder.Pure := by
  intro a turns ha ht
  have e31 := and31 a
  have p0 : 0 ≤ a % 32 := Int.emod_nonneg _ (by decide)
  have p1 : a % 32 < 32 := Int.emod_lt_of_pos _ (by decide)
  obtain ⟨m, hm⟩ := Int.eq_ofNat_of_zero_le p0
  have hw : wrap64 (1 + (m : Int)) = ((m + 1 : Nat) : Int) := by unfold wrap64; omega
  obtain ⟨K, hK⟩ : ∃ K, K = 2 * (m + 1) + 300 := ⟨_, rfl⟩
  obtain ⟨K2, hK2⟩ : ∃ K2, K2 = 101 + K := ⟨_, rfl⟩
  obtain ⟨K3, hK3⟩ : ∃ K3, K3 = m + 2 + K2 := ⟨_, rfl⟩
  refine ⟨K3, ?_⟩
  unfold godwitlaw15_SeqsOrder.f
  rw [show godwitlaw15_awake.f = some true from awake_f _ rfl, Option.bind_some]
  by_cases h1 : (turns.length : Int) > 100
  · rw [if_pos h1]
  rw [if_neg h1, e31, hm, hw, if_pos (by omega), Int.toNat_natCast, if_pos (by omega)]
  have hP : Perm (m + 1) ((List.range (m + 1)).map fun (j : Nat) => (j : Int)) := List.Perm.refl _
  have h2 : ∀ k l, K ≤ k → Perm (m + 1) l → godwitlaw15_SeqsOrder.l2 k true ((m + 1 : Nat) : Int) l 0 0 0 = some true := by
    intro k l hk hl
    have := order_loop (m + 1) (by omega) l hl (m + 1) 0 k 0 0 (by omega) (by omega) (Sn.start 0 (by omega) (by omega)) (fun s h0 _ => by
      unfold sn
      rw [decide_eq_false (by omega), Nat.zero_testBit]
      simp)
    exact this
  have hl100 : turns.length ≤ 100 := by omega
  have h4 : ∀ k, K2 ≤ k → godwitlaw15_SeqsOrder.l1 k turns true ((m + 1 : Nat) : Int) ((List.range (m + 1)).map fun (j : Nat) => (j : Int)) 0 = some true := by
    intro k hk
    have := turn_loop turns hl100 (m + 1) (by omega) (by omega) K h2 turns.length 0 k _ (by omega) (by omega) hP
    exact this
  have h3 := fill_loop turns (m + 1) (by omega) K2 (some true) h4 (m + 1) 0 K3 (by omega) (by omega)
  simpa using h3
end Go.Proofs.YtpdfccncfkejiaaDoor.Pure
