/- Twice is one: cleared at the lesser time and then at the greater is as at the greater; and once more at the lesser changes nothing. -/
import Derived.Test.YtcinlddejdkjeaaQx16
import Derived.Test.YtcinlddejdkjeaaP07b
namespace Go.Proofs.Ytcinlddejdkjeaa.Pure
open Go.RowKit Go.Proofs.Ytcinlddejdkjeaa.Q Go.Proofs.YtcinlddejdkjeaaW.PrintWords Go.Proofs.YtcinlddejdkjeaaW.PrintLast Go.Proofs.Ytcinlddejdkjeaa.G
theorem left_sub (a b : List V) : (left a b).Sublist (a ++ b) := by
  rcases List.eq_nil_or_concat a with rfl | ⟨l, x, rfl⟩
  · simp [left]
  · rw [List.concat_eq_append, left_snoc]
    split
    · exact List.sublist_append_right _ _
    · rw [List.append_assoc]; exact List.sublist_append_right _ _
def vacL (t : List V) (s : Int) : List V := left (t.filter (fun x => decide (x.f0 ≤ s))) (t.filter (fun x => !decide (x.f0 ≤ s)))
theorem filt {a b : List V} {s : Int} (ha : ∀ x ∈ a, x.f0 ≤ s) (hb : ∀ x ∈ b, s < x.f0) : (a ++ b).filter (fun x => decide (x.f0 ≤ s)) = a ∧ (a ++ b).filter (fun x => !decide (x.f0 ≤ s)) = b := by
  rw [List.filter_append, List.filter_append, List.filter_eq_self.2 (fun x hx => decide_eq_true (ha x hx)), List.filter_eq_nil_iff.2 (fun x hx => by have := hb x hx; simp; omega), List.append_nil,
    List.filter_eq_nil_iff.2 (fun x hx => by have := ha x hx; simp [this]), List.filter_eq_self.2 (fun x hx => by have := hb x hx; simp; omega), List.nil_append]
  exact ⟨rfl, rfl⟩
theorem vacL_eq {t : List V} (h : Sn t) (s : Int) {k : Nat} (hk : 140 ≤ k) : chain_Vacuum.f k t s = some (vacL t s) ∧ Sn (vacL t s) := by
  obtain ⟨a, b, rfl, ha, hb⟩ := split_at h.up s
  obtain ⟨f1, f2⟩ := filt ha hb
  have e : vacL (a ++ b) s = left a b := by unfold vacL; rw [f1, f2]
  rw [e]
  exact ⟨vac_eq h ha hb hk, h.sub (left_sub a b)⟩
/-- Three parts: up to the lesser time, up to the greater, behind it. -/
theorem vac_three {a b c : List V} {s r : Int} (hsr : s ≤ r) (ha : ∀ x ∈ a, x.f0 ≤ s) (hb : ∀ x ∈ b, s < x.f0 ∧ x.f0 ≤ r) (hc : ∀ x ∈ c, r < x.f0) :
    vacL (a ++ b ++ c) r = left (a ++ b) c ∧ vacL (vacL (a ++ b ++ c) s) r = left (a ++ b) c ∧ vacL (left (a ++ b) c) s = left (a ++ b) c := by
  have hab : ∀ x ∈ a ++ b, x.f0 ≤ r := fun x hx => by
    rcases List.mem_append.1 hx with hx | hx
    · have := ha x hx; omega
    · exact (hb x hx).2
  have hbc : ∀ x ∈ b ++ c, s < x.f0 := fun x hx => by
    rcases List.mem_append.1 hx with hx | hx
    · exact (hb x hx).1
    · have := hc x hx; omega
  have v : ∀ {p q : List V} {z : Int}, (∀ x ∈ p, x.f0 ≤ z) → (∀ x ∈ q, z < x.f0) → vacL (p ++ q) z = left p q := fun hp hq => by
    obtain ⟨f1, f2⟩ := filt hp hq
    unfold vacL; rw [f1, f2]
  have e1 := v hab hc
  have e2 : vacL (a ++ b ++ c) s = left a (b ++ c) := by rw [List.append_assoc]; exact v ha hbc
  refine ⟨e1, ?_, ?_⟩
  · rw [e2]
    -- what is left at s: maybe one of a's, then b and c
    obtain ⟨a', ha', e3, hl⟩ : ∃ a', (∀ x ∈ a', x.f0 ≤ s) ∧ left a (b ++ c) = a' ++ b ++ c ∧ left (a' ++ b) c = left (a ++ b) c := by
      rcases List.eq_nil_or_concat a with rfl | ⟨l, x, rfl⟩
      · exact ⟨[], by simp, by simp [left], by simp⟩
      · rw [List.concat_eq_append] at ha ⊢
        rw [left_snoc]
        by_cases hx : x.f2 = true
        · rw [if_pos hx]
          refine ⟨[], by simp, by simp, ?_⟩
          rcases List.eq_nil_or_concat b with rfl | ⟨m, y, rfl⟩
          · rw [List.append_nil, List.append_nil, left_snoc, if_pos hx]; rfl
          · rw [List.concat_eq_append, List.nil_append, ← List.append_assoc, left_snoc, left_snoc]
        · rw [if_neg hx]
          refine ⟨[x], fun y hy => by rw [List.mem_singleton.1 hy]; exact ha x (by simp), by simp, ?_⟩
          rcases List.eq_nil_or_concat b with rfl | ⟨m, y, rfl⟩
          · rw [List.append_nil, List.append_nil, left_snoc]
            simpa using left_snoc [] x c
          · rw [List.concat_eq_append, ← List.append_assoc, left_snoc, ← List.append_assoc, left_snoc]
    rw [e3, v (fun x hx => ?_) hc, hl]
    rcases List.mem_append.1 hx with hx | hx
    · have := ha' x hx; omega
    · exact (hb x hx).2
  · -- of what is left at r at most one is of a time up to r, and it is no deletion
    rcases List.eq_nil_or_concat (a ++ b) with h0 | ⟨l, x, h0⟩
    · rw [h0]
      have : left [] c = [] ++ c := rfl
      rw [this, v (by simp) (fun x hx => by have := hc x hx; omega)]; rfl
    · rw [h0, List.concat_eq_append, left_snoc]
      rw [h0, List.concat_eq_append] at hab
      by_cases hx : x.f2 = true
      · rw [if_pos hx]
        have := v (p := []) (q := c) (z := s) (by simp) (fun x hx => by have := hc x hx; omega)
        rw [List.nil_append] at this
        rw [this]; rfl
      · rw [if_neg hx]
        by_cases hs : x.f0 ≤ s
        · have := v (p := [x]) (q := c) (z := s) (fun y hy => by rw [List.mem_singleton.1 hy]; exact hs) (fun x hx => by have := hc x hx; omega)
          rw [List.singleton_append] at this
          rw [this]
          have e := left_snoc [] x c
          rw [List.nil_append, if_neg hx] at e
          exact e
        · have := v (p := []) (q := x :: c) (z := s) (by simp) (fun y hy => by
            rcases List.mem_cons.1 hy with rfl | hy
            · omega
            · have := hc y hy; omega)
          rw [List.nil_append] at this
          rw [this]; rfl
theorem vac_twice {t : List V} (h : Sn t) {s r : Int} (hsr : s ≤ r) : vacL (vacL t s) r = vacL t r ∧ vacL (vacL t r) s = vacL t r := by
  obtain ⟨p, c, rfl, hp, hc⟩ := split_at h.up r
  obtain ⟨a, b, rfl, ha, hb⟩ := split_at ((List.pairwise_append.1 h.up).1) s
  obtain ⟨e1, e2, e3⟩ := vac_three hsr ha (fun x hx => ⟨hb x hx, hp x (List.mem_append_right _ hx)⟩) hc
  rw [e1, e2, e3]
  exact ⟨rfl, rfl⟩
theorem ChainTwice : godwitlaw07_ChainTwice.Pure := by
  intro l a b _ _ _
  refine ⟨2000, ?_⟩
  unfold godwitlaw07_ChainTwice.f
  obtain ⟨f, hf, hl⟩ := few_eq l (k := 2000) (by omega)
  rw [awake_at (by omega), Option.bind_some, hf, Option.bind_some]
  cases f with
  | false => rfl
  | true =>
    obtain ⟨t, ht, hs⟩ := grown_eq l (hl rfl) (k := 2000) (by omega)
    have hmm : mn a b ≤ mx a b := by unfold mn mx; split <;> split <;> omega
    obtain ⟨t1, t2⟩ := vac_twice hs hmm
    obtain ⟨v1, s1⟩ := vacL_eq hs (mn a b) (k := 2000) (by omega)
    obtain ⟨v2, s2⟩ := vacL_eq hs (mx a b) (k := 2000) (by omega)
    obtain ⟨v3, s3⟩ := vacL_eq s1 (mx a b) (k := 2000) (by omega)
    obtain ⟨v4, s4⟩ := vacL_eq s2 (mn a b) (k := 2000) (by omega)
    rw [t1] at v3
    rw [t2] at v4
    have hth := theirs_eq s2.few (k := 2000) (by omega)
    have hsm := same_refl (t := (vacL t (mx a b)).map cv) (by rw [List.length_map]; exact s2.few) (k := 2000) (by omega)
    rw [if_pos rfl, ht, Option.bind_some, v1, Option.bind_some, v3, Option.bind_some, v2, Option.bind_some, v4, Option.bind_some, if_pos rfl, hth, Option.bind_some, Option.bind_some, hsm, Option.bind_some, if_pos rfl, Option.bind_some, Option.bind_some, hsm, Option.bind_some]
end Go.Proofs.Ytcinlddejdkjeaa.Pure
