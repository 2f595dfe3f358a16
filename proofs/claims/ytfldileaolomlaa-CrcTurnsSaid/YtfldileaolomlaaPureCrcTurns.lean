/- One bit turned is another sum: so are any bits that lie within four bytes, of which one at least is turned. -/
import Derived.Test.YtfldileaolomlaaQx3
import Derived.Test.YtfldileaolomlaaP02c
namespace Go.Proofs.Ytfldileaolomlaa.Pure
open Go.RowKit Go.Proofs.Ytfldileaolomlaa.Q Go.Proofs.YtfldileaolomlaaW.PrintWords Go.Proofs.YtfldileaolomlaaW.PrintLast Go.Proofs.Ytfldileaolomlaa.G
def low8 (v : B) : B := v &&& 255#32
/-- Eight steps of a low byte, and what stands above it. -/
theorem eight_low (v : B) : eightB (low8 v) ^^^ (v >>> 8) = eightB v := (eight_step v).symm
theorem four_bytes (t : B) : foldB 0#32 [low8 t, low8 (t >>> 8), low8 (t >>> 16), low8 (t >>> 24)] = iterB 4 t := by
  have hstep : ∀ (s v : B), eightB ((s ^^^ v) ^^^ low8 v) = eightB s ^^^ (v >>> 8) := by
    intro s v
    have e := eight_low v
    rw [eight_xor, eight_xor, BitVec.xor_assoc, ← e, BitVec.xor_comm (eightB (low8 v)), BitVec.xor_assoc, BitVec.xor_self, BitVec.xor_zero]
  have h1 : eightB (0#32 ^^^ low8 t) = eightB t ^^^ (t >>> 8) := by
    have := hstep t t
    rwa [BitVec.xor_self] at this
  have h2 : eightB ((eightB t ^^^ (t >>> 8)) ^^^ low8 (t >>> 8)) = eightB (eightB t) ^^^ (t >>> 16) := by
    have := hstep (eightB t) (t >>> 8)
    rwa [← BitVec.shiftRight_add] at this
  have h3 : eightB ((eightB (eightB t) ^^^ (t >>> 16)) ^^^ low8 (t >>> 16)) = eightB (eightB (eightB t)) ^^^ (t >>> 24) := by
    have := hstep (eightB (eightB t)) (t >>> 16)
    rwa [← BitVec.shiftRight_add] at this
  have h4 : eightB ((eightB (eightB (eightB t)) ^^^ (t >>> 24)) ^^^ low8 (t >>> 24)) = eightB (eightB (eightB (eightB t))) := by
    have := hstep (eightB (eightB (eightB t))) (t >>> 24)
    rw [← BitVec.shiftRight_add] at this
    rw [this, show t >>> (24 + 8) = 0#32 from BitVec.ushiftRight_eq_zero (by omega), BitVec.xor_zero]
  simp only [foldB, List.foldl_cons, List.foldl_nil, h1, h2, h3, h4, iterB]
def byteI (t : Int) (n : Nat) : Int := t / 2 ^ n % 256
theorem byteI_range (t : Int) (n : Nat) : 0 ≤ byteI t n ∧ byteI t n < 256 := ⟨Int.emod_nonneg _ (by decide), Int.emod_lt_of_pos _ (by decide)⟩
theorem O_mod256 (x : Int) (h0 : 0 ≤ x) : O (x % 256) = low8 (O x) := by
  obtain ⟨n, rfl⟩ := Int.eq_ofNat_of_zero_le h0
  have e : ((n : Int) % 256) = ((n % 256 : Nat) : Int) := by omega
  rw [e, O_nat, O_nat]
  apply BitVec.eq_of_toNat_eq
  unfold low8
  rw [BitVec.toNat_and, BitVec.toNat_ofNat, BitVec.toNat_ofNat, show (255#32).toNat = 2 ^ 8 - 1 from rfl, Nat.and_two_pow_sub_one_eq_mod]
  show n % 256 % 4294967296 = n % 4294967296 % 256
  omega
theorem O_byte (t : Int) (n : Nat) (h0 : 0 ≤ t) (h1 : t < 4294967296) : O (byteI t n) = low8 (O t >>> n) := by
  unfold byteI
  rw [O_mod256 _ (Int.ediv_nonneg h0 (Int.le_of_lt (Int.pow_pos (by decide)))), O_shr t n h0 h1]
theorem turned (s : B) (p q : List Int) (b0 b1 b2 b3 t : Int) (h0 : 0 ≤ t) (h1 : t < 4294967296)
    (g0 : 0 ≤ b0 ∧ b0 < 256) (g1 : 0 ≤ b1 ∧ b1 < 256) (g2 : 0 ≤ b2 ∧ b2 < 256) (g3 : 0 ≤ b3 ∧ b3 < 256) :
    moreB s (p ++ b0 :: b1 :: b2 :: b3 :: q) = moreB s (p ++ Go.bits .xor .u8 b0 (byteI t 0) :: Go.bits .xor .u8 b1 (byteI t 8) :: Go.bits .xor .u8 b2 (byteI t 16) :: Go.bits .xor .u8 b3 (byteI t 24) :: q) ↔ t = 0 := by
  have x0 := O_xor8 g0.1 g0.2 (byteI_range t 0).1 (byteI_range t 0).2
  have x1 := O_xor8 g1.1 g1.2 (byteI_range t 8).1 (byteI_range t 8).2
  have x2 := O_xor8 g2.1 g2.2 (byteI_range t 16).1 (byteI_range t 16).2
  have x3 := O_xor8 g3.1 g3.2 (byteI_range t 24).1 (byteI_range t 24).2
  rw [O_byte t _ h0 h1] at x0 x1 x2 x3
  have hsp : ∀ (S : B) (c0 c1 c2 c3 : B) (Q : List B), foldB S (c0 :: c1 :: c2 :: c3 :: Q) = foldB (foldB S [c0, c1, c2, c3]) Q := fun S c0 c1 c2 c3 Q => fold_append S [c0, c1, c2, c3] Q
  have hx : ∀ S : B, foldB S [O b0 ^^^ low8 (O t >>> 0), O b1 ^^^ low8 (O t >>> 8), O b2 ^^^ low8 (O t >>> 16), O b3 ^^^ low8 (O t >>> 24)] = foldB S [O b0, O b1, O b2, O b3] ^^^ iterB 4 (O t) := by
    intro S
    have := fold_xor [O b0, O b1, O b2, O b3] [low8 (O t), low8 (O t >>> 8), low8 (O t >>> 16), low8 (O t >>> 24)] S 0#32 rfl
    rw [four_bytes, BitVec.xor_zero] at this
    exact this
  unfold moreB
  simp only [List.map_append, List.map_cons, fold_append, x0, x1, x2, x3]
  rw [hsp _ (O b0) _ _ _ (q.map O), hsp _ (O b0 ^^^ low8 (O t >>> 0)) _ _ _ (q.map O), hx]
  generalize foldB (~~~ s) (p.map O) = S
  generalize foldB S [O b0, O b1, O b2, O b3] = S4
  constructor
  · intro h
    have h := congrArg (fun v => ~~~ v) h
    simp only [BitVec.not_not] at h
    have h := fold_inj0 _ _ _ h
    have h2 := congrArg (fun v => S4 ^^^ v) h
    simp only [BitVec.xor_self, ← BitVec.xor_assoc, BitVec.zero_xor] at h2
    have h3 := iter_inj 4 _ _ ((iter_zero 4).trans h2)
    have := I_O t h0 h1
    rw [← h3, I_zero] at this
    exact this.symm
  · intro h
    subst h
    rw [O_zero, iter_zero, BitVec.xor_zero]
theorem shr_byte (t : Int) (n : Nat) (hn : n ≤ 32) : shr .u32 t (n : Int) % 256 = byteI t n := by
  unfold shr byteI
  rw [Int.toNat_natCast, show min n IntKind.u32.bits = n from Nat.min_eq_left hn]
theorem rd_append (p : List Int) (r : List Int) (x : Int) : rd (p ++ x :: r) (p.length : Int) = x := by
  simp [rd, List.getD_eq_getElem?_getD]
theorem set_append (p : List Int) (r : List Int) (x y : Int) : (p ++ x :: r).set p.length y = p ++ y :: r := by
  rw [List.set_append_right _ _ (Nat.le_refl _), Nat.sub_self, List.set_cons_zero]

theorem one_round (k : Nat) (x : List Int) (t at_ : Int) (c p r : List Int) (b : Int) (i : Nat) (hi : i < 4) (hc : c = p ++ b :: r) (hp : (p.length : Int) = at_ + i) (ha0 : 0 ≤ at_) (ha1 : at_ ≤ 2000) :
    godwitlaw02_CrcTurns.l0 (k + 1) x t true at_ c (i : Int) = godwitlaw02_CrcTurns.l0 k x t true at_ (p ++ Go.bits .xor .u8 b (byteI t (8 * i)) :: r) ((i + 1 : Nat) : Int) := by
  have w1 : wrap64 (at_ + i) = (p.length : Int) := by rw [hp]; unfold wrap64; omega
  have w2 : IntKind.u64.wrap (wrap64 (8 * (i : Int))) = ((8 * i : Nat) : Int) := by
    have : wrap64 (8 * (i : Int)) = ((8 * i : Nat) : Int) := by unfold wrap64; omega
    rw [this]
    show ((8 * i : Nat) : Int) % ((2 : Int) ^ 64) = _
    omega
  have w3 : wrap64 ((i : Int) + 1) = ((i + 1 : Nat) : Int) := by unfold wrap64; omega
  subst hc
  rw [godwitlaw02_CrcTurns.l0, if_pos (by omega), w1, if_pos (by omega), if_pos (by simp; omega), w2, if_pos (by omega), w3, rd_append, shr_byte _ _ (by omega), Int.toNat_natCast, set_append]

theorem CrcTurns : godwitlaw02_CrcTurns.Pure := by
  intro b at_ t hb hat ht
  obtain ⟨t0, t1⟩ := wf_u32 ht
  refine ⟨0 + 1 + 1 + 1 + 1 + 1 + 1, ?_⟩
  unfold godwitlaw02_CrcTurns.f
  rw [awake_true, Option.bind_some]
  by_cases h1 : (b.length : Int) > 2000
  · rw [if_pos h1, godwitlaw02_CrcTurns.j0, if_pos rfl]
  rw [if_neg h1]
  by_cases h2 : (b.length : Int) < 4
  · rw [decide_eq_true h2, godwitlaw02_CrcTurns.j0, if_pos rfl]
  have w : wrap64 ((b.length : Int) - 3) = (b.length : Int) - 3 := by unfold wrap64; omega
  rw [decide_eq_false h2, godwitlaw02_CrcTurns.j0, if_neg (by decide), w, if_neg (by omega), Option.bind_some, if_pos (by simp only [List.length_nil]; omega), List.nil_append]
  obtain ⟨k, hk0, hk⟩ : ∃ k : Nat, Int.tmod (Go.bits .and .i64 at_ 65535) ((b.length : Int) - 3) = k ∧ k + 4 ≤ b.length := by
    have e : Go.bits .and .i64 at_ 65535 = at_ % 65536 := and_mask at_ 16 (by omega)
    have p0 : 0 ≤ at_ % 65536 := Int.emod_nonneg _ (by decide)
    rw [e, Int.tmod_eq_emod_of_nonneg p0]
    have q0 := Int.emod_nonneg (at_ % 65536) (show (b.length : Int) - 3 ≠ 0 by omega)
    have q1 := Int.emod_lt_of_pos (at_ % 65536) (show 0 < (b.length : Int) - 3 by omega)
    exact ⟨(at_ % 65536 % ((b.length : Int) - 3)).toNat, by omega, by omega⟩
  rw [hk0]
  obtain ⟨p, b0, b1, b2, b3, q, e, hp⟩ : ∃ p b0 b1 b2 b3 q, b = p ++ b0 :: b1 :: b2 :: b3 :: q ∧ p.length = k := by
    have hd : (b.drop k).length = b.length - k := List.length_drop
    match hm : b.drop k with
    | b0 :: b1 :: b2 :: b3 :: q => exact ⟨b.take k, b0, b1, b2, b3, q, by rw [← hm, List.take_append_drop], by rw [List.length_take]; omega⟩
    | [] | [_] | [_, _] | [_, _, _] => rw [hm] at hd; simp at hd; omega
  have hall : ∀ x ∈ b, 0 ≤ x ∧ x < 256 := fun x hx => wf_u8 (hb.2 x hx)
  have g0 := hall b0 (by simp [e])
  have g1 := hall b1 (by simp [e])
  have g2 := hall b2 (by simp [e])
  have g3 := hall b3 (by simp [e])
  have r0 := one_round (0 + 1 + 1 + 1 + 1) b t k b p (b1 :: b2 :: b3 :: q) b0 0 (by omega) e (by omega) (by omega) (by omega)
  have r1 := one_round (0 + 1 + 1 + 1) b t k (p ++ Go.bits .xor .u8 b0 (byteI t (8 * 0)) :: b1 :: b2 :: b3 :: q) (p ++ [Go.bits .xor .u8 b0 (byteI t (8 * 0))]) (b2 :: b3 :: q) b1 1 (by omega) (by simp) (by simp; omega) (by omega) (by omega)
  have r2 := one_round (0 + 1 + 1) b t k _ (p ++ [Go.bits .xor .u8 b0 (byteI t (8 * 0))] ++ [Go.bits .xor .u8 b1 (byteI t (8 * 1))]) (b3 :: q) b2 2 (by omega) rfl (by simp; omega) (by omega) (by omega)
  have r3 := one_round (0 + 1) b t k _ (p ++ [Go.bits .xor .u8 b0 (byteI t (8 * 0))] ++ [Go.bits .xor .u8 b1 (byteI t (8 * 1))] ++ [Go.bits .xor .u8 b2 (byteI t (8 * 2))]) q b3 3 (by omega) rfl (by simp; omega) (by omega) (by omega)
  simp only [List.append_assoc, List.cons_append, List.nil_append] at r1 r2 r3
  have r0' : godwitlaw02_CrcTurns.l0 (0 + 1 + 1 + 1 + 1 + 1) b t true (k : Int) b 0 = _ := r0
  rw [r0', r1, r2, r3, godwitlaw02_CrcTurns.l0, if_neg (by omega), if_pos rfl]
  unfold crc_Of.f
  rw [Option.bind_some, Option.bind_some]
  congr 1
  have hT := turned (O 0) p q b0 b1 b2 b3 t t0 t1 g0 g1 g2 g3
  rw [← e] at hT
  unfold moreI
  by_cases hz : t = 0
  · rw [hT.2 hz, hz]; simp
  · have hne : ¬ (moreB (O 0) b = _) := fun h => hz (hT.1 h)
    have : (t == 0) = false := by simpa using hz
    rw [this]
    simp only [beq_eq_false_iff_ne, ne_eq, beq_iff_eq, I_eq, Nat.mul_zero, Nat.mul_one, Nat.reduceMul]
    exact hne
end Go.Proofs.Ytfldileaolomlaa.Pure
