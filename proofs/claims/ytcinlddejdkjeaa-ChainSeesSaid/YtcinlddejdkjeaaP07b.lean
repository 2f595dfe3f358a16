/- chain in plain words, on: what has grown, what is left, what is the same. -/
import Derived.Test.YtcinlddejdkjeaaP07
namespace Go.Proofs.Ytcinlddejdkjeaa.Pure
open Go.RowKit Go.Proofs.Ytcinlddejdkjeaa.Q Go.Proofs.YtcinlddejdkjeaaW.PrintWords Go.Proofs.YtcinlddejdkjeaaW.PrintLast Go.Proofs.Ytcinlddejdkjeaa.G

theorem few_l (l : List V') (h : l.length ≤ 60) : ∀ (d i k : Nat), i + d = l.length → d + 1 ≤ k → ∃ b, godwitref07_Few.l0 k (i : Int) l = some b
  | 0, i, k, e, hk => by
    obtain ⟨k, rfl⟩ : ∃ m, k = m + 1 := ⟨k - 1, by omega⟩
    simp only [godwitref07_Few.l0]
    rw [if_neg (by omega)]
    exact ⟨_, rfl⟩
  | d + 1, i, k, e, hk => by
    obtain ⟨k, rfl⟩ : ∃ m, k = m + 1 := ⟨k - 1, by omega⟩
    simp only [godwitref07_Few.l0]
    rw [if_pos (by omega), if_pos (by omega), wrap_succ (by omega : i < l.length) (by omega)]
    split
    · exact ⟨_, rfl⟩
    · exact few_l l h d (i + 1) k (by omega) (by omega)
theorem few_eq (l : List V') {k : Nat} (hk : 100 ≤ k) : ∃ b, godwitref07_Few.f k l = some b ∧ (b = true → l.length ≤ 60) := by
  unfold godwitref07_Few.f
  by_cases h : (l.length : Int) > 60
  · rw [if_pos h]; exact ⟨false, rfl, fun h => by cases h⟩
  · rw [if_neg h]
    obtain ⟨b, hb⟩ := few_l l (by omega) l.length 0 k (by omega) (by omega)
    exact ⟨b, hb, fun _ => by omega⟩
theorem grown_l (l : List V') (h : l.length ≤ 60) : ∀ (d i k : Nat) (t : List V), i + d = l.length → Sn t → t.length ≤ i → d + 140 ≤ k → ∃ u, godwitlaw07_grown.l0 k l (i : Int) t = some u ∧ Sn u
  | 0, i, k, t, e, hs, hl, hk => by
    obtain ⟨k, rfl⟩ : ∃ m, k = m + 1 := ⟨k - 1, by omega⟩
    simp only [godwitlaw07_grown.l0]
    rw [if_neg (by omega)]
    exact ⟨_, rfl, hs⟩
  | d + 1, i, k, t, e, hs, hl, hk => by
    obtain ⟨k, rfl⟩ : ∃ m, k = m + 1 := ⟨k - 1, by omega⟩
    have hi : i < l.length := by omega
    simp only [godwitlaw07_grown.l0, godwitlaw07_ver.f]
    rw [if_pos (by omega), if_pos (by omega), rdV' l i hi, Option.bind_some]
    simp only
    rw [push_eq hs ⟨l[i].f0, l[i].f1, l[i].f2⟩ (by omega), Option.bind_some, wrap_succ hi (by omega)]
    unfold pushR
    by_cases hz : soundP ⟨l[i].f0, l[i].f1, l[i].f2⟩
    · rw [if_pos hz]
      by_cases hle : l[i].f0 ≤ lastT t
      · rw [if_pos hle, if_neg (by simp)]
        exact grown_l l h d (i + 1) k t (by omega) hs (by omega) (by omega)
      · rw [if_neg hle, if_pos rfl]
        exact grown_l l h d (i + 1) k _ (by omega) (hs.push hz hle (by omega)) (by simp; omega) (by omega)
    · rw [if_neg hz, if_neg (by simp)]
      exact grown_l l h d (i + 1) k t (by omega) hs (by omega) (by omega)
theorem grown_eq (l : List V') (h : l.length ≤ 60) {k : Nat} (hk : 200 ≤ k) : ∃ u, godwitlaw07_grown.f k l = some u ∧ Sn u :=
  grown_l l h l.length 0 k [] (by omega) Sn.nil (Nat.le_refl _) (by omega)
/-- What is left when nobody looks from before. -/
def left (a b : List V) : List V := match a.getLast? with | none => b | some x => if x.f2 = true then b else x :: b
theorem left_snoc (l : List V) (x : V) (b : List V) : left (l ++ [x]) b = if x.f2 = true then b else x :: b := by simp [left]
theorem vac_eq {a b : List V} (h : Sn (a ++ b)) {s : Int} (ha : ∀ x ∈ a, x.f0 ≤ s) (hb : ∀ x ∈ b, s < x.f0) {k : Nat} (hk : 140 ≤ k) : chain_Vacuum.f k (a ++ b) s = some (left a b) := by
  obtain ⟨k, rfl⟩ : ∃ m, k = m + 1 := ⟨k - 1, by omega⟩
  have few := h.few
  unfold chain_Vacuum.f chain_place.f
  rw [Option.bind_some, place_split ha hb]
  rcases List.eq_nil_or_concat a with rfl | ⟨l, x, rfl⟩
  · simp [chain_Vacuum.j0, left]
  · rw [List.concat_eq_append] at h few ⊢
    have e : (((l ++ [x]).length : Int) - 1) = (l.length : Int) := by simp
    have hlen : (l ++ [x] ++ b).length = l.length + 1 + b.length := by simp; omega
    have hw : wrap64 ((l.length : Int) + 1) = ((l.length + 1 : Nat) : Int) := by unfold wrap64; omega
    have hg : (l ++ [x] ++ b)[l.length]'(by omega) = x := by simp
    rw [e, if_neg (by omega), sane_eq h (by omega), Option.bind_some, left_snoc]
    simp only [chain_Vacuum.j0]
    rw [if_neg (by simp), if_pos (by omega), if_pos (by omega), rdV _ _ (by omega), hg, hw]
    by_cases hx : x.f2 = true
    · rw [if_pos hx, if_pos hx, if_pos (by omega), if_pos (by omega), Int.toNat_natCast, clone_eq (by rw [List.length_drop]; omega)]
      simp
    · rw [if_neg hx, if_neg hx, if_pos (by omega), Int.toNat_natCast, clone_eq (by rw [List.length_drop]; omega)]
      simp
def cv (x : V) : V' := ⟨x.f0, x.f1, x.f2⟩
theorem theirs_l (t : List V) (h : t.length ≤ 60) : ∀ (d i k : Nat), i + d = t.length → d + 1 ≤ k → godwitlaw07_theirs.l0 k t ((t.take i).map cv) (i : Int) = some (t.map cv)
  | 0, i, k, e, hk => by
    obtain ⟨k, rfl⟩ : ∃ m, k = m + 1 := ⟨k - 1, by omega⟩
    simp only [godwitlaw07_theirs.l0]
    rw [if_neg (by omega), List.take_of_length_le (by omega)]
  | d + 1, i, k, e, hk => by
    obtain ⟨k, rfl⟩ : ∃ m, k = m + 1 := ⟨k - 1, by omega⟩
    have hi : i < t.length := by omega
    simp only [godwitlaw07_theirs.l0]
    rw [if_pos (by omega), if_pos (by omega), if_pos (by simp; omega), rdV t i hi, wrap_succ hi (by omega)]
    have := theirs_l t h d (i + 1) k (by omega) (by omega)
    rw [List.take_succ_eq_append_getElem hi, List.map_append] at this
    exact this
theorem theirs_eq {t : List V} (h : t.length ≤ 60) {k : Nat} (hk : 100 ≤ k) : godwitlaw07_theirs.f k t = some (t.map cv) := theirs_l t h t.length 0 k (by omega) (by omega)
theorem one_refl (a : Int) (l : List Int) (b : Bool) : godwitref07_One.f a l b a l b = some true := by
  unfold godwitref07_One.f
  simp
theorem same_l (t : List V') (h : t.length ≤ 60) : ∀ (d i k : Nat), i + d = t.length → d + 1 ≤ k → godwitref07_Same.l0 k t t (i : Int) = some true
  | 0, i, k, e, hk => by
    obtain ⟨k, rfl⟩ : ∃ m, k = m + 1 := ⟨k - 1, by omega⟩
    simp only [godwitref07_Same.l0]
    rw [if_neg (by omega)]
  | d + 1, i, k, e, hk => by
    obtain ⟨k, rfl⟩ : ∃ m, k = m + 1 := ⟨k - 1, by omega⟩
    simp only [godwitref07_Same.l0]
    rw [if_pos (by omega), if_pos (by omega), if_pos (by omega), one_refl, Option.bind_some, if_pos rfl, wrap_succ (by omega : i < t.length) (by omega)]
    exact same_l t h d (i + 1) k (by omega) (by omega)
theorem same_refl {t : List V'} (h : t.length ≤ 60) {k : Nat} (hk : 100 ≤ k) : godwitref07_Same.f k t t = some true := by
  unfold godwitref07_Same.f
  rw [if_pos rfl]
  exact same_l t h t.length 0 k (by omega) (by omega)
theorem awake_at {k : Nat} (hk : 200 ≤ k) : godwitlaw07_awake.f k = some true := by
  have s1 : soundP (⟨3, [97], false⟩ : V) := by refine ⟨?_, ?_, ?_, ?_⟩ <;> simp
  have s2 : soundP (⟨7, [], false⟩ : V) := by refine ⟨?_, ?_, ?_, ?_⟩ <;> simp
  have p1 : pushR [] (⟨3, [97], false⟩ : V) = ([⟨3, [97], false⟩], 0) := by unfold pushR; rw [if_pos s1]; simp [lastT]
  have n1 : Sn [(⟨3, [97], false⟩ : V)] := Sn.push Sn.nil s1 (by simp [lastT]) (by simp)
  have p2 : pushR [(⟨3, [97], false⟩ : V)] (⟨7, [], false⟩ : V) = ([⟨3, [97], false⟩, ⟨7, [], false⟩], 0) := by unfold pushR; rw [if_pos s2]; simp [lastT]
  have n2 : Sn [(⟨3, [97], false⟩ : V), ⟨7, [], false⟩] := Sn.push n1 s2 (by simp [lastT]) (by simp)
  have e1 := push_eq Sn.nil (⟨3, [97], false⟩ : V) (k := k) (by omega)
  have e2 := push_eq n1 (⟨7, [], false⟩ : V) (k := k) (by omega)
  have a1 := at_eq (a := [(⟨3, [97], false⟩ : V)]) (b := [⟨7, [], false⟩]) (s := 6) (by simp) (by simp)
  have a2 := at_eq (a := []) (b := [(⟨3, [97], false⟩ : V), ⟨7, [], false⟩]) (s := 2) (by simp) (by simp)
  simp only [p1, p2] at e1 e2
  simp only [List.cons_append, List.nil_append] at a1 a2
  unfold godwitlaw07_awake.f
  rw [e1, Option.bind_some]
  simp only
  rw [e2, Option.bind_some]
  simp only
  rw [a1, Option.bind_some, a2, Option.bind_some, last_eq n2.few, Option.bind_some, sane_eq n2 (by omega), Option.bind_some]
  simp [lastT]
end Go.Proofs.Ytcinlddejdkjeaa.Pure
