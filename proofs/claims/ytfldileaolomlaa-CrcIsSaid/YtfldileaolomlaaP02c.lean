/- Sums of bytes: what is gone on with, joined, exclusive or; bytes turned. -/
import Derived.Test.YtfldileaolomlaaP02b
namespace Go.Proofs.Ytfldileaolomlaa.Pure
open Go.RowKit Go.Proofs.Ytfldileaolomlaa.Q Go.Proofs.YtfldileaolomlaaW.PrintWords Go.Proofs.YtfldileaolomlaaW.PrintLast Go.Proofs.Ytfldileaolomlaa.G
theorem more_append (s : B) (a b : List Int) : moreB s (a ++ b) = moreB (moreB s a) b := by
  unfold moreB
  rw [List.map_append, fold_append, BitVec.not_not]
theorem not_xor_ones (x : B) : ~~~ x ^^^ ~~~ 0#32 = x := by
  apply BitVec.eq_of_getLsbD_eq
  intro i hi
  simp only [BitVec.getLsbD_xor, BitVec.getLsbD_not, hi, BitVec.getLsbD_zero]
  cases x.getLsbD i <;> rfl
theorem xor_not (x y : B) : ~~~ (x ^^^ y) = x ^^^ ~~~ y := by
  apply BitVec.eq_of_getLsbD_eq
  intro i hi
  simp only [BitVec.getLsbD_xor, BitVec.getLsbD_not, hi]
  cases x.getLsbD i <;> cases y.getLsbD i <;> rfl
theorem not3 (x y z : B) : ~~~ x ^^^ ~~~ y ^^^ ~~~ z = ~~~ (x ^^^ y ^^^ z) := by
  apply BitVec.eq_of_getLsbD_eq
  intro i hi
  simp only [BitVec.getLsbD_xor, BitVec.getLsbD_not, hi]
  cases x.getLsbD i <;> cases y.getLsbD i <;> cases z.getLsbD i <;> rfl
theorem more_join (a b : List Int) : moreB 0#32 (a ++ b) = iterB b.length (moreB 0#32 a) ^^^ moreB 0#32 b := by
  have h := fold_shift (moreB 0#32 a) (~~~ 0#32) (b.map O)
  rw [List.length_map] at h
  have e : moreB 0#32 a ^^^ ~~~ 0#32 = foldB (~~~ 0#32) (a.map O) := by
    unfold moreB; exact not_xor_ones _
  rw [e] at h
  show ~~~ foldB (~~~ 0#32) ((a ++ b).map O) = _
  rw [List.map_append, fold_append, h, xor_not]
  rfl
theorem O8 {x : Int} (h0 : 0 ≤ x) (h1 : x < 256) : (BitVec.ofInt 8 x).toNat = x.toNat := by
  rw [BitVec.toNat_ofInt]; omega
theorem xor8 {x y : Int} (x0 : 0 ≤ x) (x1 : x < 256) (y0 : 0 ≤ y) (y1 : y < 256) : Go.bits .xor .u8 x y = ((x.toNat ^^^ y.toNat : Nat) : Int) := by
  have h : x.toNat ^^^ y.toNat < 2 ^ 8 := Nat.xor_lt_two_pow (by omega) (by omega)
  show (((BitVec.ofInt 8 x ^^^ BitVec.ofInt 8 y : BitVec 8).toNat : Nat) : Int) % ((2 : Int) ^ 8) = _
  rw [BitVec.toNat_xor, O8 x0 x1, O8 y0 y1]
  omega
theorem O_nat (n : Nat) : O (n : Int) = BitVec.ofNat 32 n := by unfold O; exact BitVec.ofInt_natCast _ _
theorem O_xor8 {x y : Int} (x0 : 0 ≤ x) (x1 : x < 256) (y0 : 0 ≤ y) (y1 : y < 256) : O (Go.bits .xor .u8 x y) = O x ^^^ O y := by
  rw [xor8 x0 x1 y0 y1, O_nat]
  have ex : O x = BitVec.ofNat 32 x.toNat := by rw [← O_nat]; congr 1; omega
  have ey : O y = BitVec.ofNat 32 y.toNat := by rw [← O_nat]; congr 1; omega
  rw [ex, ey]
  apply BitVec.eq_of_toNat_eq
  have hx : x.toNat < 2 ^ 8 := by omega
  have hy : y.toNat < 2 ^ 8 := by omega
  have h : x.toNat ^^^ y.toNat < 2 ^ 8 := Nat.xor_lt_two_pow hx hy
  rw [BitVec.toNat_xor, BitVec.toNat_ofNat, BitVec.toNat_ofNat, BitVec.toNat_ofNat, Nat.mod_eq_of_lt (by omega), Nat.mod_eq_of_lt (by omega), Nat.mod_eq_of_lt (by omega)]
theorem xor8_range {x y : Int} (x0 : 0 ≤ x) (x1 : x < 256) (y0 : 0 ≤ y) (y1 : y < 256) : 0 ≤ Go.bits .xor .u8 x y ∧ Go.bits .xor .u8 x y < 256 := by
  have h : x.toNat ^^^ y.toNat < 2 ^ 8 := Nat.xor_lt_two_pow (by omega) (by omega)
  rw [xor8 x0 x1 y0 y1]; omega
end Go.Proofs.Ytfldileaolomlaa.Pure
