/- What is missing of a window, in plain words. -/
import Derived.Test.YtpdfccncfkejiaaDoorQx11
import Derived.Test.YtpdfccncfkejiaaDoorP15
set_option linter.unusedVariables false
namespace Go.Proofs.YtpdfccncfkejiaaDoor.Pure
open Go.RowKit Go.Proofs.YtpdfccncfkejiaaDoor.Q Go.Proofs.YtpdfccncfkejiaaDoorW.PrintWords Go.Proofs.YtpdfccncfkejiaaDoorW.PrintLast Go.Proofs.YtpdfccncfkejiaaDoor.G
def rm (b : Int) : Nat := (min 64 (4294967296 - b)).toNat
/-- From place i on, n places. -/
def missN (b : Int) (V : Nat) (i n : Nat) : List Int := ((List.range' i n).filter fun j => !V.testBit j).map fun (j : Nat) => b + (j : Int)
def missL (b : Int) (V : Nat) : List Int := missN b V 0 (rm b)
theorem missN_succ (b : Int) (V : Nat) (i n : Nat) : missN b V i (n + 1) = (if V.testBit i then [] else [b + (i : Int)]) ++ missN b V (i + 1) n := by
  unfold missN
  rw [List.range'_succ, List.filter_cons]
  cases V.testBit i <;> simp
theorem missN_len (b : Int) (V : Nat) (i n : Nat) : (missN b V i n).length ≤ n := by
  unfold missN
  rw [List.length_map]
  exact Nat.le_trans (List.length_filter_le _ _) (by simp)
theorem missN_mem {b : Int} {V : Nat} {i n : Nat} {x : Int} (h : x ∈ missN b V i n) : ∃ j : Nat, i ≤ j ∧ j < i + n ∧ V.testBit j = false ∧ x = b + (j : Int) := by
  unfold missN at h
  rw [List.mem_map] at h
  obtain ⟨j, hj, rfl⟩ := h
  rw [List.mem_filter, List.mem_range'_1] at hj
  exact ⟨j, hj.1.1, hj.1.2, by simpa using hj.2, rfl⟩
theorem missing_loop {b : Int} {V : Nat} (h : Sn b V) (most : Int) : ∀ (d i k : Nat) (out : List Int), d + i = rm b → 2 * d + 1 ≤ k → out.length ≤ i →
    seqs_Missing.l0 k most out (min 64 (4294967296 - b)) (i : Int) b V = some (out ++ (missN b V i d).take (most.toNat - out.length)) := by
  have hh := h.hi
  intro d
  induction d with
  | zero =>
    intro i k out hi hk ho
    obtain ⟨k, rfl⟩ : ∃ m, k = m + 1 := ⟨k - 1, by omega⟩
    unfold rm at hi
    rw [seqs_Missing.l0, if_neg (by omega)]
    simp [missN]
  | succ d ih =>
    intro i k out hi hk ho
    obtain ⟨k, rfl⟩ : ∃ m, k = m + 2 := ⟨k - 2, by omega⟩
    have hb := h.lo
    have hil : (i : Int) < min 64 (4294967296 - b) := by unfold rm at hi; omega
    have hi64 : i < 64 := by omega
    have hw : wrap64 ((i : Int) + 1) = ((i + 1 : Nat) : Int) := by unfold wrap64; omega
    have hw2 : wrap64 (b + (i : Int)) = b + (i : Int) := by unfold wrap64; omega
    rw [seqs_Missing.l0, if_pos hil]
    by_cases hm : (out.length : Int) < most
    · rw [if_pos hm, wrap_u64_small _ (by omega) (by omega), if_pos (by omega), digit_at V i h.lt, missN_succ, seqs_Missing.j1]
      cases ht : V.testBit i with
      | true =>
        rw [if_neg (by decide), hw, ih (i + 1) k out (by omega) (by omega) (by omega)]
        simp
      | false =>
        rw [if_pos (by decide), if_pos (by omega), hw, hw2]
        rw [ih (i + 1) k _ (by omega) (by omega) (by simp; omega)]
        obtain ⟨m, hmm⟩ : ∃ m, most.toNat - out.length = m + 1 := ⟨most.toNat - out.length - 1, by omega⟩
        rw [hmm]
        simp only [List.length_append, List.length_cons, List.length_nil, Bool.false_eq_true, if_false, List.cons_append, List.nil_append, List.take_succ_cons, List.append_assoc]
        rw [show most.toNat - (out.length + (0 + 1)) = m by omega]
    · rw [if_neg hm, seqs_Missing.j1, if_neg (by decide), hw, ih (i + 1) k out (by omega) (by omega) (by omega)]
      rw [show most.toNat - out.length = 0 by omega]
      simp
theorem missing_f {b : Int} {V : Nat} (h : Sn b V) (most : Int) (k : Nat) (hk : 200 ≤ k) : seqs_Missing.f k b V most = some ((missL b V).take most.toNat) := by
  have hr : rm b ≤ 64 := by unfold rm; omega
  unfold seqs_Missing.f
  rw [sane_f h, Option.bind_some, if_pos rfl, room_f b V h.lo h.hi, Option.bind_some]
  have := missing_loop h most (rm b) 0 k [] (by omega) (by omega) (by simp)
  rw [show (0 : Int) = ((0 : Nat) : Int) from rfl, this]
  simp [missL]
theorem missing_no {b : Int} {V : Nat} (hV : V < 18446744073709551616) (h : ¬ Sn b V) (most : Int) (k : Nat) : seqs_Missing.f k b V most = some [] := by
  unfold seqs_Missing.f
  rw [unsane_f hV h, Option.bind_some, if_neg (by decide)]
theorem missL_head {b : Int} {V : Nat} (h : Sn b V) (hb : b < 4294967296) : ∃ r, missL b V = b :: r := by
  have hl := h.lo
  obtain ⟨n, hn⟩ : ∃ n, rm b = n + 1 := ⟨rm b - 1, by unfold rm; omega⟩
  refine ⟨missN b V 1 n, ?_⟩
  unfold missL
  rw [hn, missN_succ, h.even]
  simp
theorem missL_nil {V : Nat} : missL 4294967296 V = [] := by
  unfold missL rm missN
  rfl
end Go.Proofs.YtpdfccncfkejiaaDoor.Pure
