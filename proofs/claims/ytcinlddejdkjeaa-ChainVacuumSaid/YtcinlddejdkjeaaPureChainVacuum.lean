/- Nobody sees what is gone: whoever looks from then or later sees what they saw; no more is left than has to be. -/
import Derived.Test.YtcinlddejdkjeaaQx31
import Derived.Test.YtcinlddejdkjeaaP07b
namespace Go.Proofs.Ytcinlddejdkjeaa.Pure
open Go.RowKit Go.Proofs.Ytcinlddejdkjeaa.Q Go.Proofs.YtcinlddejdkjeaaW.PrintWords Go.Proofs.YtcinlddejdkjeaaW.PrintLast Go.Proofs.Ytcinlddejdkjeaa.G
def valR : Option V → List Int × Bool
  | none => ([], false)
  | some x => if x.f2 = true then ([], false) else (x.f1, true)
theorem value_eq {a b : List V} {s : Int} (ha : ∀ x ∈ a, x.f0 ≤ s) (hb : ∀ x ∈ b, s < x.f0) {k : Nat} (hk : 1 ≤ k) : chain_Value.f k (a ++ b) s = some (valR a.getLast?) := by
  obtain ⟨k, rfl⟩ : ∃ m, k = m + 1 := ⟨k - 1, by omega⟩
  unfold chain_Value.f
  rw [at_eq ha hb, Option.bind_some]
  cases h : a.getLast? with
  | none => simp [chain_Value.j0, valR]
  | some x =>
    cases h2 : x.f2 <;> simp [chain_Value.j0, valR, h2]
theorem vacuum_end {t d : List V} (ht : Sn t) (hd : Sn d) (s : Int) (y : List Int) (ok : Bool) (hsince : sinceL t s = sinceL d s) (hle : d.length ≤ t.length) {k : Nat} (hk : 200 ≤ k) (c : Int) (hc : c ≤ 1) :
    godwitlaw07_ChainVacuum.j1 k s true y ok y ok c true t d = some true := by
  obtain ⟨k, rfl⟩ : ∃ m, k = m + 1 := ⟨k - 1, by omega⟩
  have few : (sinceL d s).length ≤ 60 := Nat.le_trans (List.length_filter_le _ _) hd.few
  simp only [godwitlaw07_ChainVacuum.j1]
  rw [if_pos trivial, sane_eq hd (by omega), Option.bind_some, if_pos rfl, if_pos trivial, if_pos (by simp), if_pos hc, if_pos trivial, since_eq ht.few, Option.bind_some, since_eq hd.few, hsince,
    theirs_eq few (by omega), Option.bind_some, Option.bind_some, theirs_eq few (by omega), Option.bind_some, same_refl (by rw [List.length_map]; exact few) (by omega), Option.bind_some, if_pos rfl, decide_eq_true (by omega)]
theorem vacuum_l {t d : List V} (ht : Sn t) (hd : Sn d) (s : Int) (y : List Int) (ok : Bool) (hsince : sinceL t s = sinceL d s) (hle : d.length ≤ t.length) (hone : (d.filter (fun x => decide (x.f0 ≤ s))).length ≤ 1)
    (hfst : ∀ h : 0 < d.length, s < d[0].f0 ∨ d[0].f2 = false) : ∀ (m i k : Nat), i + m = d.length → m + 210 ≤ k →
    godwitlaw07_ChainVacuum.l0 k s true y ok y ok (((d.take i).filter (fun x => decide (x.f0 ≤ s))).length : Int) (i : Int) t d = some true
  | 0, i, k, e, hk => by
    obtain ⟨k, rfl⟩ : ∃ m, k = m + 1 := ⟨k - 1, by omega⟩
    have hc : (((d.take i).filter (fun x => decide (x.f0 ≤ s))).length : Int) ≤ 1 := by rw [List.take_of_length_le (by omega)]; omega
    have fin := vacuum_end ht hd s y ok hsince hle (k := k) (by omega) _ hc
    simp only [godwitlaw07_ChainVacuum.l0]
    rw [if_neg (by omega)]
    by_cases h0 : (d.length : Int) = 0
    · rw [if_pos h0]; exact fin
    · have hr : rd_T37 d 0 = d[0]'(by omega) := rdV d 0 (by omega)
      rw [if_neg h0, if_pos (by omega), hr]
      by_cases h1 : (d[0]'(by omega)).f0 > s
      · rw [if_pos h1]; exact fin
      · rw [if_neg h1]
        have h2 := (hfst (by omega)).resolve_left (by omega)
        rw [h2]; exact fin
  | m + 1, i, k, e, hk => by
    obtain ⟨k, rfl⟩ : ∃ m, k = m + 1 := ⟨k - 1, by omega⟩
    have hi : i < d.length := by omega
    have few := hd.few
    have next := vacuum_l ht hd s y ok hsince hle hone hfst m (i + 1) k (by omega) (by omega)
    rw [List.take_succ_eq_append_getElem hi, List.filter_append] at next
    have hfl : ((d.take i).filter (fun x => decide (x.f0 ≤ s))).length ≤ 60 := Nat.le_trans (List.length_filter_le _ _) (by rw [List.length_take]; omega)
    simp only [godwitlaw07_ChainVacuum.l0]
    rw [if_pos (by omega), if_pos (by omega), rdV d i hi, wrap_succ hi (by omega)]
    by_cases c : d[i].f0 ≤ s
    · rw [if_pos c, wrap_succ (n := 1000) (by omega) (by omega)]
      simpa [c] using next
    · rw [if_neg c]
      simpa [c] using next
theorem ChainVacuum : godwitlaw07_ChainVacuum.Pure := by
  intro l s sn _ _ _
  refine ⟨2000, ?_⟩
  unfold godwitlaw07_ChainVacuum.f
  obtain ⟨f, hf, hl⟩ := few_eq l (k := 2000) (by omega)
  rw [awake_at (by omega), Option.bind_some, hf, Option.bind_some]
  cases f with
  | false => rfl
  | true =>
    obtain ⟨t, ht, hs⟩ := grown_eq l (hl rfl) (k := 2000) (by omega)
    have hmm : s ≤ mx sn s := by unfold mx; split <;> omega
    obtain ⟨z, hz⟩ : ∃ z, mx sn s = z := ⟨_, rfl⟩
    rw [hz] at hmm ⊢
    obtain ⟨u, r, rfl, hu, hr⟩ := split_at hs.up z
    obtain ⟨p, q, rfl, hp, hq⟩ := split_at ((List.pairwise_append.1 hs.up).1) s
    have hqr : ∀ x ∈ q ++ r, s < x.f0 := fun x hx => by
      rcases List.mem_append.1 hx with hx | hx
      · exact hq x hx
      · have := hr x hx; omega
    have hv := vac_eq (a := p) (b := q ++ r) (by rw [← List.append_assoc]; exact hs) hp hqr (k := 2000) (by omega)
    have e1 := value_eq hu hr (k := 2000) (by omega)
    have hst : sinceL (p ++ q ++ r) s = q ++ r := by rw [List.append_assoc]; exact since_split hp hqr
    rw [← List.append_assoc] at hv
    -- what is left: maybe one up to then, no deletion; and what came later
    obtain ⟨w, hw, hws, hw1, hwl, hwd, hwv⟩ : ∃ w : List V, left p (q ++ r) = w ++ q ++ r ∧ (∀ x ∈ w, x.f0 ≤ s) ∧ w.length ≤ 1 ∧ w.Sublist p ∧ (∀ x ∈ w, x.f2 = false) ∧ valR ((p ++ q).getLast?) = valR ((w ++ q).getLast?) := by
      rcases List.eq_nil_or_concat p with rfl | ⟨l', x, rfl⟩
      · exact ⟨[], by simp [left], by simp, by simp, List.Sublist.refl _, by simp, rfl⟩
      · rw [List.concat_eq_append] at *
        rw [left_snoc]
        by_cases hx : x.f2 = true
        · rw [if_pos hx]
          refine ⟨[], by simp, by simp, by simp, List.nil_sublist _, by simp, ?_⟩
          rcases List.eq_nil_or_concat q with rfl | ⟨m, y, rfl⟩
          · simp [valR, hx]
          · rw [List.concat_eq_append, ← List.append_assoc, List.getLast?_concat, ← List.append_assoc, List.getLast?_concat]
        · rw [if_neg hx]
          refine ⟨[x], by simp, fun y hy => by rw [List.mem_singleton.1 hy]; exact hp x (by simp), by simp, List.sublist_append_right _ _, fun y hy => by rw [List.mem_singleton.1 hy]; simpa using hx, ?_⟩
          rcases List.eq_nil_or_concat q with rfl | ⟨m, y, rfl⟩
          · simp
          · rw [List.concat_eq_append, ← List.append_assoc, List.getLast?_concat, ← List.append_assoc, List.getLast?_concat]
    rw [hw] at hv
    have hsub : (w ++ q ++ r).Sublist (p ++ q ++ r) := by
      rw [List.append_assoc, List.append_assoc]
      exact List.Sublist.append_right hwl _
    have hd : Sn (w ++ q ++ r) := hs.sub hsub
    have hwz : ∀ x ∈ w ++ q, x.f0 ≤ z := fun x hx => by
      rcases List.mem_append.1 hx with hx | hx
      · have := hws x hx; omega
      · exact hu x (List.mem_append_right _ hx)
    have e2 := value_eq hwz hr (k := 2000) (by omega)
    rw [← hwv] at e2
    have hsd : sinceL (w ++ q ++ r) s = q ++ r := by rw [List.append_assoc]; exact since_split hws hqr
    have hone : ((w ++ q ++ r).filter (fun x => decide (x.f0 ≤ s))).length ≤ 1 := by
      have f2 : (q ++ r).filter (fun x => decide (x.f0 ≤ s)) = [] := List.filter_eq_nil_iff.2 (fun x hx => by have := hqr x hx; simp; omega)
      rw [List.append_assoc, List.filter_append, f2, List.append_nil]
      exact Nat.le_trans (List.length_filter_le _ _) hw1
    have hfst : ∀ h : 0 < (w ++ q ++ r).length, s < (w ++ q ++ r)[0].f0 ∨ (w ++ q ++ r)[0].f2 = false := by
      rw [List.append_assoc]
      intro h
      cases w with
      | nil => exact .inl (hqr _ (List.getElem_mem _))
      | cons x w => exact .inr (hwd x (by simp))
    have fin := vacuum_l hs hd s (valR ((p ++ q).getLast?)).1 (valR ((p ++ q).getLast?)).2 (hst.trans hsd.symm) hsub.length_le hone hfst (w ++ q ++ r).length 0 2000 (by omega) (by have := hd.few; omega)
    rw [if_pos rfl, ht, Option.bind_some, hv, Option.bind_some, e1, Option.bind_some, e2, Option.bind_some]
    simpa using fin
end Go.Proofs.Ytcinlddejdkjeaa.Pure
