/- The document's own sums, digit by digit, in plain words: they are the same. -/
import Derived.Test.YtfldileaolomlaaQx11
import Derived.Test.YtfldileaolomlaaQx12
import Derived.Test.YtfldileaolomlaaQx13
import Derived.Test.YtfldileaolomlaaQx14
import Derived.Test.YtfldileaolomlaaQx15
import Derived.Test.YtfldileaolomlaaP02c
import Derived.Test.YtfldileaolomlaaG02
namespace Go.Proofs.Ytfldileaolomlaa.Pure
open Go.RowKit Go.Proofs.Ytfldileaolomlaa.Q Go.Proofs.YtfldileaolomlaaW.PrintWords Go.Proofs.YtfldileaolomlaaW.PrintLast Go.Proofs.Ytfldileaolomlaa.G
theorem bit0 (x : B) : (I x).tmod 2 = 1 ↔ x.getLsbD 0 = true := by
  have h := I_range x
  rw [Int.tmod_eq_emod_of_nonneg h.1]
  unfold I
  have e : x.getLsbD 0 = decide (x.toNat % 2 = 1) := by
    rw [BitVec.getLsbD, Nat.testBit_zero]
  rw [e]
  simp only [decide_eq_true_eq]
  omega
theorem half (x : B) : (Int.tdiv (I x) 2 : Int) % (4294967296 : Int) = I (x >>> 1) := by
  have h := I_range x
  rw [Int.tdiv_eq_ediv_of_nonneg h.1]
  have e := O_shr (I x) 1 h.1 h.2
  rw [O_I] at e
  have : (I x / 2 : Int) % (4294967296 : Int) = I x / 2 := by omega
  rw [this]
  have e2 : O (I x / 2) = x >>> 1 := by simpa using e
  rw [← e2, I_O _ (by omega) (by omega)]
theorem eight_round (k : Nat) (x : B) (i : Nat) (h : i < 8) : godwitref02_eight.l0 (k + 1) (I x) (i : Int) = godwitref02_eight.l0 k (I (oneB x)) ((i + 1 : Nat) : Int) := by
  have hw : wrap64 ((i : Int) + 1) = ((i + 1 : Nat) : Int) := by unfold wrap64; omega
  rw [godwitref02_eight.l0, if_pos (by omega), hw, half]
  unfold oneB
  by_cases hb : x.getLsbD 0 = true
  · rw [if_pos ((bit0 x).2 hb), if_pos hb, xor32, O_I]
    rfl
  · rw [if_neg (fun h => hb ((bit0 x).1 h)), if_neg hb, BitVec.xor_zero]
theorem eight_pure (k : Nat) (x : B) : godwitref02_eight.f (k + 9) (I x) = some (I (eightB x)) := by
  unfold godwitref02_eight.f
  have r0 := eight_round (k + 8) x 0 (by omega)
  have e0 : godwitref02_eight.l0 (k + 9) (I x) 0 = _ := r0
  rw [e0, eight_round (k + 7) _ 1 (by omega), eight_round (k + 6) _ 2 (by omega), eight_round (k + 5) _ 3 (by omega), eight_round (k + 4) _ 4 (by omega), eight_round (k + 3) _ 5 (by omega), eight_round (k + 2) _ 6 (by omega), eight_round (k + 1) _ 7 (by omega)]
  rw [godwitref02_eight.l0, if_neg (by omega)]
  rfl
theorem eight_ge (k : Nat) (h : 9 ≤ k) (x : B) : godwitref02_eight.f k (I x) = some (I (eightB x)) := by
  obtain ⟨m, rfl⟩ : ∃ m, k = m + 9 := ⟨k - 9, by omega⟩
  exact eight_pure m x
theorem flip (x : B) : ((4294967295 : Int) - I x) % (4294967296 : Int) = I (~~~ x) := by
  have h := I_range x
  have e : 4294967295 - I x = I (~~~ x) := by
    unfold I
    rw [BitVec.toNat_not]
    have := x.isLt
    omega
  rw [e]
  have := I_range (~~~ x)
  omega
theorem rmore_loop (l : List Int) (hl : l.length ≤ 2000) : ∀ (d i k : Nat) (s : B), d + i = l.length → d + 10 ≤ k → godwitref02_More.l0 k l (I s) (i : Int) = some (I (~~~ foldB s ((l.drop i).map O))) := by
  intro d
  induction d with
  | zero =>
    intro i k s hi hk
    obtain ⟨k, rfl⟩ : ∃ m, k = m + 1 := ⟨k - 1, by omega⟩
    rw [godwitref02_More.l0, if_neg (by omega), flip, List.drop_of_length_le (by omega)]
    rfl
  | succ d ih =>
    intro i k s hi hk
    obtain ⟨k, rfl⟩ : ∃ m, k = m + 1 := ⟨k - 1, by omega⟩
    have hw : wrap64 ((i : Int) + 1) = ((i + 1 : Nat) : Int) := by unfold wrap64; omega
    have hx : Go.bits .xor .u32 (I s) (rd l (i : Int) % 4294967296) = I (s ^^^ O (rd l i)) := by rw [xor32, O_I, O_mod]
    have hr : rd l (i : Int) = l[i]'(by omega) := by simp [rd, List.getD_eq_getElem?_getD, show i < l.length by omega]
    rw [godwitref02_More.l0, if_pos (by omega), if_pos (by omega), hx, eight_ge k (by omega), Option.bind_some, hw, ih (i + 1) k _ (by omega) (by omega), List.drop_eq_getElem_cons (by omega : i < l.length), hr]
    rfl
theorem rmore_pure (s : Int) (h0 : 0 ≤ s) (h1 : s < 4294967296) (l : List Int) (hl : l.length ≤ 2000) : godwitref02_More.f 2010 s l = some (moreI s l) := by
  unfold godwitref02_More.f
  have e := flip (O s)
  rw [I_O s h0 h1] at e
  rw [e]
  have := rmore_loop l hl l.length 0 2010 (~~~ O s) (by omega) (by omega)
  rw [show (0 : Int) = ((0 : Nat) : Int) from rfl, this]
  rfl
theorem rof_pure (l : List Int) (hl : l.length ≤ 2000) : godwitref02_Of.f 2010 l = some (moreI 0 l) := by
  unfold godwitref02_Of.f
  rw [rmore_pure 0 (by omega) (by omega) l hl, Option.bind_some]
theorem rshift_loop (n : Int) (hn : n ≤ 3000) : ∀ (d i k : Nat) (s : B), d + i = n.toNat → 2 * d + 12 ≤ k → (i : Int) ≤ n ∨ i = 0 → godwitref02_Shift.l0 k (I s) n (i : Int) = some (I (iterB d s)) := by
  intro d
  induction d with
  | zero =>
    intro i k s hi hk hle
    obtain ⟨k, rfl⟩ : ∃ m, k = m + 2 := ⟨k - 2, by omega⟩
    rw [godwitref02_Shift.l0, if_neg (by omega), godwitref02_Shift.j1, if_neg (by decide)]
    rfl
  | succ d ih =>
    intro i k s hi hk hle
    obtain ⟨k, rfl⟩ : ∃ m, k = m + 2 := ⟨k - 2, by omega⟩
    have hw : wrap64 ((i : Int) + 1) = ((i + 1 : Nat) : Int) := by unfold wrap64; omega
    have hd : decide ((i : Int) < 65536) = true := decide_eq_true (by omega)
    rw [godwitref02_Shift.l0, if_pos (by omega), hd, godwitref02_Shift.j1, if_pos rfl, eight_ge k (by omega), Option.bind_some, hw, ih (i + 1) k _ (by omega) (by omega) (by omega)]
    rfl
theorem rshift_pure (s n : Int) (h0 : 0 ≤ s) (h1 : s < 4294967296) (hn : n ≤ 3000) : godwitref02_Shift.f 6100 s n = some (shiftI s n) := by
  unfold godwitref02_Shift.f
  have := rshift_loop n hn n.toNat 0 6100 (O s) (by omega) (by omega) (.inr rfl)
  rw [I_O s h0 h1] at this
  rw [show (0 : Int) = ((0 : Nat) : Int) from rfl, this]
  unfold shiftI
  rw [show (min n 65536).toNat = n.toNat by omega]
theorem rjoin_pure (s a n : Int) (h0 : 0 ≤ s) (h1 : s < 4294967296) (hn : n ≤ 3000) : godwitref02_Join.f 6100 s a n = some (Go.bits .xor .u32 (shiftI s n) a) := by
  unfold godwitref02_Join.f
  rw [rshift_pure s n h0 h1 hn, Option.bind_some]
end Go.Proofs.Ytfldileaolomlaa.Pure
