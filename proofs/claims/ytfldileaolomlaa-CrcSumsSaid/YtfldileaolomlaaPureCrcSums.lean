/- The sums of two lots of as many bytes, and of both exclusive or one another, come to the sum of as many zeros. -/
import Derived.Test.YtfldileaolomlaaQx4
import Derived.Test.YtfldileaolomlaaP02c
namespace Go.Proofs.Ytfldileaolomlaa.Pure
open Go.RowKit Go.Proofs.Ytfldileaolomlaa.Q Go.Proofs.YtfldileaolomlaaW.PrintWords Go.Proofs.YtfldileaolomlaaW.PrintLast Go.Proofs.Ytfldileaolomlaa.G
def xr (x y : Int) : Int := Go.bits .xor .u8 x y
theorem sums_map : ∀ (a b : List Int), (∀ x ∈ a, 0 ≤ x ∧ x < 256) → (∀ x ∈ b, 0 ≤ x ∧ x < 256) → (a.zipWith xr b).map O = (a.map O).zipWith (· ^^^ ·) (b.map O)
  | [], _, _, _ => by simp
  | _ :: _, [], _, _ => by simp
  | x :: a, y :: b, ha, hb => by
    have hx := ha x (by simp)
    have hy := hb y (by simp)
    simp only [List.zipWith_cons_cons, List.map_cons]
    rw [sums_map a b (fun z hz => ha z (by simp [hz])) (fun z hz => hb z (by simp [hz]))]
    congr 1
    exact O_xor8 hx.1 hx.2 hy.1 hy.2
theorem zip_self : ∀ (l : List B), l.zipWith (· ^^^ ·) l = List.replicate l.length 0#32
  | [] => rfl
  | x :: l => by rw [List.zipWith_cons_cons, zip_self l, BitVec.xor_self, List.length_cons, List.replicate_succ]
theorem sums_more (a b : List Int) (h : a.length = b.length) (ha : ∀ x ∈ a, 0 ≤ x ∧ x < 256) (hb : ∀ x ∈ b, 0 ≤ x ∧ x < 256) :
    moreB 0#32 a ^^^ moreB 0#32 b ^^^ moreB 0#32 (a.zipWith xr b) = moreB 0#32 (List.replicate a.length 0) := by
  unfold moreB
  rw [not3, sums_map a b ha hb]
  have hl : (a.map O).length = (b.map O).length := by simpa using h
  rw [← fold_xor _ _ _ _ hl, BitVec.xor_self, ← fold_xor _ _ _ _ (by simp), BitVec.zero_xor, zip_self]
  congr 2
  rw [List.map_replicate, O_zero]
  congr 1
  simp [h]
/-- The bytes, as far as they were laid. -/
def part (a b : List Int) (i : Nat) : List Int := (a.zipWith xr b).take i ++ List.replicate (a.length - i) 0
theorem part_len (a b : List Int) (h : a.length = b.length) (i : Nat) (hi : i ≤ a.length) : (part a b i).length = a.length := by
  simp [part, h]; omega
theorem part_set (a b : List Int) (h : a.length = b.length) (i : Nat) (hi : i < a.length) : (part a b i).set i (xr (rd a i) (rd b i)) = part a b (i + 1) := by
  have hz : (a.zipWith xr b).length = a.length := by simp [h]
  have hv : xr (rd a i) (rd b i) = (a.zipWith xr b)[i]'(by omega) := by
    simp [rd, List.getD_eq_getElem?_getD, hi, h ▸ hi]
  unfold part
  have ht : ((a.zipWith xr b).take i).length = i := by rw [List.length_take]; omega
  rw [List.set_append_right _ _ (by omega), ht, Nat.sub_self, hv, List.take_succ_eq_append_getElem (by omega), List.append_assoc]
  congr 1
  obtain ⟨m, hm⟩ : ∃ m, a.length - i = m + 1 := ⟨a.length - i - 1, by omega⟩
  rw [hm, show a.length - (i + 1) = m by omega, List.replicate_succ, List.set_cons_zero]
  rfl
theorem sums_loop (a b : List Int) (h : a.length = b.length) (ha : ∀ x ∈ a, 0 ≤ x ∧ x < 256) (hb : ∀ x ∈ b, 0 ≤ x ∧ x < 256) (hm : a.length ≤ 2000) :
    ∀ (d i k : Nat), d + i = a.length → d < k → godwitlaw02_CrcSums.l0 k a b true (part a b i) (i : Int) = some true := by
  intro d
  induction d with
  | zero =>
    intro i k hi hk
    obtain ⟨k, rfl⟩ : ∃ m, k = m + 1 := ⟨k - 1, by omega⟩
    have e : part a b i = a.zipWith xr b := by
      unfold part
      rw [show a.length - i = 0 by omega, List.replicate_zero, List.append_nil, List.take_of_length_le (by simp [h]; omega)]
    rw [godwitlaw02_CrcSums.l0, if_neg (by omega), if_pos rfl, e]
    unfold crc_Of.f
    rw [Option.bind_some, Option.bind_some, Option.bind_some, if_pos (by omega), if_pos (by omega), Option.bind_some, Int.toNat_natCast]
    congr 1
    rw [beq_iff_eq, xor32, xor32, O_I]
    unfold moreI
    rw [O_I, O_I, O_I, O_zero, sums_more a b h ha hb]
  | succ d ih =>
    intro i k hi hk
    obtain ⟨k, rfl⟩ : ∃ m, k = m + 1 := ⟨k - 1, by omega⟩
    have hl := part_len a b h i (by omega)
    have hw : wrap64 ((i : Int) + 1) = ((i + 1 : Nat) : Int) := by unfold wrap64; omega
    rw [godwitlaw02_CrcSums.l0, if_pos (by omega), if_pos (by omega), if_pos (by omega), if_pos (by omega), hw, Int.toNat_natCast]
    have e := part_set a b h i (by omega)
    unfold xr at e
    rw [e]
    exact ih (i + 1) k (by omega) (by omega)

theorem CrcSums : godwitlaw02_CrcSums.Pure := by
  intro a b ha hb
  refine ⟨a.length + 1 + 1, ?_⟩
  unfold godwitlaw02_CrcSums.f
  rw [awake_true, Option.bind_some]
  by_cases h1 : (a.length : Int) > 2000
  · rw [if_pos h1, godwitlaw02_CrcSums.j0, if_pos rfl]
  rw [if_neg h1]
  by_cases h2 : a.length = b.length
  · have e : ((a.length : Int) != (b.length : Int)) = false := by simp [h2]
    rw [e, godwitlaw02_CrcSums.j0, if_neg (by decide), if_pos (by omega), if_pos (by omega), Int.toNat_natCast]
    have := sums_loop a b h2 (fun x hx => wf_u8 (ha.2 x hx)) (fun x hx => wf_u8 (hb.2 x hx)) (by omega) a.length 0 (a.length + 1) (by omega) (by omega)
    simpa [part] using this
  · have e : ((a.length : Int) != (b.length : Int)) = true := by simp; omega
    rw [e, godwitlaw02_CrcSums.j0, if_pos rfl]
end Go.Proofs.Ytfldileaolomlaa.Pure
