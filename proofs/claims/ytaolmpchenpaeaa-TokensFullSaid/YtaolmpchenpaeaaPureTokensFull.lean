/- Thirty-two tokens, and no more; what is there goes on; what is released makes room. -/
import Derived.Test.YtaolmpchenpaeaaQx19
import Derived.Test.YtaolmpchenpaeaaP12b
import Derived.Test.YtaolmpchenpaeaaBt
namespace Go.Proofs.Ytaolmpchenpaeaa.Pure
open Go.RowKit Go.Proofs.Ytaolmpchenpaeaa.Q Go.Proofs.YtaolmpchenpaeaaW.PrintWords Go.Proofs.YtaolmpchenpaeaaW.PrintLast Go.Proofs.Ytaolmpchenpaeaa.G

/-- The first n tokens are there, begun, and nothing else. -/
structure Fill (t : List E) (n : Nat) : Prop where
  sn : Sn t
  len : t.length = n
  fnd : ∀ tok, fnd t tok = if 0 ≤ tok ∧ tok < (n : Int) then some ⟨tok, 1, 1, 0⟩ else none
theorem Fill.start {t : List E} {n : Nat} (h : Fill t n) (hn : n < 32) : ∃ u, startR t (n : Int) 1 = (u, 0) ∧ Fill u (n + 1) := by
  have hf : Pure.fnd t (n : Int) = none := by rw [h.fnd, if_neg (by omega)]
  have hz : soundP (⟨(n : Int), 1, 1, 0⟩ : E) := by refine ⟨?_, ?_, ?_, ?_, .inl ⟨.inl rfl, rfl⟩⟩ <;> simp only <;> omega
  have e : startR t (n : Int) 1 = (setT t ⟨(n : Int), 1, 1, 0⟩, 0) := by
    unfold startR
    rw [if_pos hz]
    simp only [hf]
    unfold updR
    rw [if_neg (by simp [h.len]; omega)]
  refine ⟨_, e, h.sn.set hz (.inr (by have := h.len; omega)), ?_, fun tok => ?_⟩
  · rw [len_set]; simp only [hf, if_true, h.len]
  · rw [fnd_set, h.fnd]
    simp only
    by_cases c : tok = (n : Int)
    · rw [if_pos c, if_pos (by omega), c]
    · rw [if_neg c]
      by_cases d : 0 ≤ tok ∧ tok < (n : Int)
      · rw [if_pos d, if_pos (by omega)]
      · rw [if_neg d, if_neg (by omega)]
theorem full_end {t : List E} (h : Fill t 32) (m j : Int) (hm : 32 ≤ m ∧ m < 300) (hj : 0 ≤ j ∧ j < 32) :
    (startR t m 1).2 = 8 ∧ (fenceR t m 1).2.2 = 8 ∧ (releaseR t j).2 = 7 ∧ ∃ u v w, finishR t j 1 3 = (u, 0) ∧ Sn u ∧ releaseR u j = (v, 0) ∧ Sn v ∧ startR v m 1 = (w, 0) := by
  have fm : fnd t m = none := by rw [h.fnd, if_neg (by omega)]
  have fj : fnd t j = some ⟨j, 1, 1, 0⟩ := by rw [h.fnd, if_pos (by omega)]
  have z1 : soundP (⟨m, 1, 1, 0⟩ : E) := by refine ⟨?_, ?_, ?_, ?_, .inl ⟨.inl rfl, rfl⟩⟩ <;> simp only <;> omega
  have z3 : soundP (⟨m, 1, 3, 0⟩ : E) := by refine ⟨?_, ?_, ?_, ?_, .inl ⟨.inr rfl, rfl⟩⟩ <;> simp only <;> omega
  have z2 : soundP (⟨j, 1, 2, 3⟩ : E) := by refine ⟨?_, ?_, ?_, ?_, .inr ⟨rfl, ?_, ?_⟩⟩ <;> simp only <;> omega
  have ej : ent t j = ⟨j, 1, 1, 0⟩ := by unfold ent; rw [fj]; rfl
  have em : ent t m = ⟨0, 0, 0, 0⟩ := by unfold ent; rw [fm]; rfl
  have up : ∀ z : E, z.f0 = m → updR t z = ([], 8) := fun z hz => by
    unfold updR; rw [hz, if_pos ⟨fm, by have := h.len; omega⟩]
  refine ⟨?_, ?_, ?_, setT t ⟨j, 1, 2, 3⟩, ?_⟩
  · unfold startR; rw [if_pos z1]; simp only [fm]; rw [up _ rfl]
  · unfold fenceR; rw [if_pos z3, em, if_neg (by decide)]; simp only; rw [up _ rfl]
  · unfold releaseR; rw [if_pos (by omega)]; simp only [fj]; simp
  · have su : Sn (setT t ⟨j, 1, 2, 3⟩) := h.sn.set z2 (.inl (by simp [fj]))
    have fu : fnd (setT t ⟨j, 1, 2, 3⟩) j = some ⟨j, 1, 2, 3⟩ := by rw [fnd_set, if_pos rfl]
    have fum : fnd (setT t ⟨j, 1, 2, 3⟩) m = none := by rw [fnd_set, if_neg (by simp only; omega), fm]
    have sv := su.del j
    have fv' : fnd (delT (setT t ⟨j, 1, 2, 3⟩) j) m = none := by rw [fnd_del _ _ _ su.one, if_neg (by omega), fum]
    have lv : (delT (setT t ⟨j, 1, 2, 3⟩) j).length < 32 := by
      have l1 : (setT t ⟨j, 1, 2, 3⟩).length = 32 := by rw [len_set]; simp only [fj]; simpa using h.len
      have sb := del_sub (setT t ⟨j, 1, 2, 3⟩) j
      have hle := sb.length_le
      by_cases c : (delT (setT t ⟨j, 1, 2, 3⟩) j).length = 32
      · have e := sb.eq_of_length (by omega)
        have f0 : fnd (delT (setT t ⟨j, 1, 2, 3⟩) j) j = none := by rw [fnd_del _ _ _ su.one, if_pos rfl]
        rw [e, fu] at f0; cases f0
      · omega
    refine ⟨delT (setT t ⟨j, 1, 2, 3⟩) j, setT (delT (setT t ⟨j, 1, 2, 3⟩) j) ⟨m, 1, 1, 0⟩, ?_, su, ?_, sv, ?_⟩
    · unfold finishR; rw [if_pos z2, ej]; simp only
      unfold updR; simp [fj]
    · unfold releaseR; rw [if_pos (by omega)]; simp only [fu]; simp
    · unfold startR; rw [if_pos z1]; simp only [fv']
      unfold updR; rw [if_neg (by simp only; omega)]
theorem full_l (n k' : Int) : ∀ (d i : Nat) (t : List E) (k : Nat), i + d = 32 → Fill t i → d + 140 ≤ k →
    godwitlaw12_TokensFull.l0 k n k' true (i : Int) t = some true
  | 0, i, t, k, e, hf, hk => by
    obtain ⟨k, rfl⟩ : ∃ m, k = m + 1 := ⟨k - 1, by omega⟩
    obtain rfl : i = 32 := by omega
    have m0 : 0 ≤ n % 256 := Int.emod_nonneg _ (by decide)
    have m1 : n % 256 < 256 := Int.emod_lt_of_pos _ (by decide)
    have j0 : 0 ≤ k' % 32 := Int.emod_nonneg _ (by decide)
    have j1 : k' % 32 < 32 := Int.emod_lt_of_pos _ (by decide)
    have hw : wrap64 (32 + n % 256) = 32 + n % 256 := by unfold wrap64; omega
    obtain ⟨a, b, c, u, v, w, e1, su, e2, sv, e3⟩ := full_end hf (32 + n % 256) (k' % 32) (by omega) (by omega)
    simp only [godwitlaw12_TokensFull.l0]
    rw [if_neg (by omega), and255, and31, hw, start_eq hf.sn _ _ (by omega), Option.bind_some, fence_eq hf.sn _ _ (by omega), Option.bind_some, release_eq hf.sn _ (by omega), Option.bind_some,
      finish_eq hf.sn _ _ _ (by omega), Option.bind_some, e1]
    simp only
    rw [release_eq su _ (by omega), Option.bind_some, e2]
    simp only
    rw [start_eq sv _ _ (by omega), Option.bind_some, e3]
    simp [a, b, c]
  | d + 1, i, t, k, e, hf, hk => by
    obtain ⟨k, rfl⟩ : ∃ m, k = m + 1 := ⟨k - 1, by omega⟩
    have hw : wrap64 ((i : Int) + 1) = ((i + 1 : Nat) : Int) := by unfold wrap64; omega
    obtain ⟨u, eu, fu⟩ := hf.start (by omega)
    simp only [godwitlaw12_TokensFull.l0]
    rw [if_pos (by omega), start_eq hf.sn _ _ (by omega), Option.bind_some, eu, if_pos rfl, hw]
    exact full_l n k' d (i + 1) u k (by omega) fu (by omega)
theorem TokensFull : godwitlaw12_TokensFull.Pure := by
  intro n k' _ _
  refine ⟨2000, ?_⟩
  unfold godwitlaw12_TokensFull.f
  rw [awake_at (by omega), Option.bind_some]
  exact full_l n k' 32 0 [] 2000 rfl ⟨Sn.nil, rfl, fun tok => by rw [if_neg (by omega)]; rfl⟩ (by omega)
end Go.Proofs.Ytaolmpchenpaeaa.Pure
