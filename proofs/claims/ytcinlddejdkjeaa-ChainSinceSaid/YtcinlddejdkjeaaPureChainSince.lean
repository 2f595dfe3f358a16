/- What is not seen yet, pushed behind what is, is all. -/
import Derived.Test.YtcinlddejdkjeaaQx19
import Derived.Test.YtcinlddejdkjeaaP07b
namespace Go.Proofs.Ytcinlddejdkjeaa.Pure
open Go.RowKit Go.Proofs.Ytcinlddejdkjeaa.Q Go.Proofs.YtcinlddejdkjeaaW.PrintWords Go.Proofs.YtcinlddejdkjeaaW.PrintLast Go.Proofs.Ytcinlddejdkjeaa.G
theorem pushR_ok {u : List V} {x : V} (h : Sn (u ++ [x])) : pushR u x = (u ++ [x], 0) := by
  have hx := h.all x (by simp)
  have hl : ¬ x.f0 ≤ lastT u := by
    rcases List.eq_nil_or_concat u with rfl | ⟨l, y, rfl⟩
    · have := hx.1; simp [lastT]; omega
    · rw [List.concat_eq_append] at h ⊢
      rw [lastT_snoc]
      have := (List.pairwise_append.1 h.up).2.2 y (by simp) x (by simp)
      omega
  unfold pushR
  rw [if_pos hx, if_neg hl]
theorem since_l {a b : List V} (h : Sn (a ++ b)) (s : Int) (ha : ∀ x ∈ a, x.f0 ≤ s) (hb : ∀ x ∈ b, s < x.f0) : ∀ (d i k : Nat), i + d = b.length → d + 140 ≤ k →
    godwitlaw07_ChainSince.l0 k s true b (a.length : Int) (i : Int) (a ++ b) (a ++ b.take i) = some true
  | 0, i, k, e, hk => by
    obtain ⟨k, rfl⟩ : ∃ m, k = m + 1 := ⟨k - 1, by omega⟩
    have few := h.few
    simp only [godwitlaw07_ChainSince.l0]
    rw [if_neg (by omega), at_eq ha hb, Option.bind_some, if_pos trivial, List.take_of_length_le (by omega), theirs_eq few (by omega), Option.bind_some, Option.bind_some, same_refl (by rw [List.length_map]; exact few) (by omega), Option.bind_some, if_pos rfl]
    rcases List.eq_nil_or_concat a with rfl | ⟨l, x, rfl⟩
    · rfl
    · rw [List.concat_eq_append]
      simp
  | d + 1, i, k, e, hk => by
    obtain ⟨k, rfl⟩ : ∃ m, k = m + 1 := ⟨k - 1, by omega⟩
    have hi : i < b.length := by omega
    have few := h.few
    have hlen : (a ++ b).length = a.length + b.length := List.length_append
    have hgt := hb b[i] (List.getElem_mem hi)
    have hsub : Sn (a ++ b.take i ++ [b[i]]) := by
      rw [List.append_assoc, ← List.take_succ_eq_append_getElem hi]
      exact h.sub (List.Sublist.append_left (List.take_sublist _ _) a)
    have hs0 : Sn (a ++ b.take i) := hsub.sub (List.sublist_append_left _ _)
    simp only [godwitlaw07_ChainSince.l0]
    rw [if_pos (by omega), if_pos (by omega), rdV b i hi, if_neg (by omega), push_eq hs0 b[i] (by omega), Option.bind_some, pushR_ok hsub, wrap_succ hi (by omega)]
    simp only
    rw [List.append_assoc, ← List.take_succ_eq_append_getElem hi]
    exact since_l h s ha hb d (i + 1) k (by omega) (by omega)
theorem ChainSince : godwitlaw07_ChainSince.Pure := by
  intro l s _ _
  refine ⟨2000, ?_⟩
  unfold godwitlaw07_ChainSince.f
  obtain ⟨f, hf, hl⟩ := few_eq l (k := 2000) (by omega)
  rw [awake_at (by omega), Option.bind_some, hf, Option.bind_some]
  cases f with
  | false => rfl
  | true =>
    obtain ⟨t, ht, hs⟩ := grown_eq l (hl rfl) (k := 2000) (by omega)
    obtain ⟨a, b, rfl, ha, hb⟩ := split_at hs.up s
    have few := hs.few
    have hlen : (a ++ b).length = a.length + b.length := List.length_append
    have hw : wrap64 (((a ++ b).length : Int) - (b.length : Int)) = (a.length : Int) := by rw [hlen] at few ⊢; unfold wrap64; omega
    rw [if_pos rfl, ht, Option.bind_some, since_eq few, Option.bind_some, since_split ha hb, hw, if_neg (by omega), if_pos (by omega), if_pos (by omega), Int.toNat_natCast, List.take_left]
    have := since_l hs s ha hb b.length 0 2000 (by omega) (by omega)
    simpa using this
end Go.Proofs.Ytcinlddejdkjeaa.Pure
