/- What is seen is the last that came: none that came later; a greater snap sees no less far. -/
import Derived.Test.YtcinlddejdkjeaaQx18
import Derived.Test.YtcinlddejdkjeaaP07b
namespace Go.Proofs.Ytcinlddejdkjeaa.Pure
open Go.RowKit Go.Proofs.Ytcinlddejdkjeaa.Q Go.Proofs.YtcinlddejdkjeaaW.PrintWords Go.Proofs.YtcinlddejdkjeaaW.PrintLast Go.Proofs.Ytcinlddejdkjeaa.G
theorem since_all {t : List V} (h : Sn t) : sinceL t 0 = t :=
  List.filter_eq_self.2 (fun x hx => by have := (h.all x hx).1; simp [late]; omega)
theorem sees_l {t : List V} (h : Sn t) (a b m : Int) (ok : Bool) (lv : List Int) (dl : Bool) (hx : ∀ z ∈ t, z.f0 ≤ mn a b → ok = true ∧ z.f0 ≤ m) : ∀ (d i k : Nat), i + d = t.length → 2 * d + 10 ≤ k →
    godwitlaw07_ChainSees.l0 k a b true ok (i : Int) t m lv dl = some true
  | 0, i, k, e, hk => by
    obtain ⟨k, rfl⟩ : ∃ m, k = m + 1 := ⟨k - 1, by omega⟩
    have few := h.few
    simp only [godwitlaw07_ChainSees.l0]
    rw [if_neg (by omega), if_pos trivial, since_eq few, Option.bind_some, since_all h, if_pos rfl]
    by_cases hn : (t.length : Int) = 0
    · rw [if_pos hn]
    · have hw : wrap64 ((t.length : Int) - 1) = ((t.length - 1 : Nat) : Int) := by unfold wrap64; omega
      rw [if_neg hn, last_eq few, Option.bind_some, hw, if_pos (by omega), if_pos (by omega), rdV _ _ (by omega)]
      rcases List.eq_nil_or_concat t with rfl | ⟨l, x, rfl⟩
      · simp at hn
      · simp [lastT_snoc]
  | d + 1, i, k, e, hk => by
    obtain ⟨k, rfl⟩ : ∃ m, k = m + 2 := ⟨k - 2, by omega⟩
    have hi : i < t.length := by omega
    have few := h.few
    have next : godwitlaw07_ChainSees.j2 (k + 1) a b true ok (i : Int) false t m lv dl = some true := by
      simp only [godwitlaw07_ChainSees.j2]
      rw [if_neg (by simp), wrap_succ hi (by omega)]
      exact sees_l h a b m ok lv dl hx d (i + 1) k (by omega) (by omega)
    show godwitlaw07_ChainSees.l0 (k + 1 + 1) a b true ok (i : Int) t m lv dl = some true
    simp only [godwitlaw07_ChainSees.l0]
    rw [if_pos (by omega), if_pos (by omega), rdV t i hi]
    by_cases c : t[i].f0 ≤ mn a b
    · obtain ⟨ho, hm⟩ := hx _ (List.getElem_mem hi) c
      rw [if_pos c, if_pos ho, decide_eq_false (by omega)]
      exact next
    · rw [if_neg c]
      exact next
theorem ChainSees : godwitlaw07_ChainSees.Pure := by
  intro l a b _ _ _
  refine ⟨2000, ?_⟩
  unfold godwitlaw07_ChainSees.f
  obtain ⟨f, hf, hl⟩ := few_eq l (k := 2000) (by omega)
  rw [awake_at (by omega), Option.bind_some, hf, Option.bind_some]
  cases f with
  | false => rfl
  | true =>
    obtain ⟨t, ht, hs⟩ := grown_eq l (hl rfl) (k := 2000) (by omega)
    have hmm : mn a b ≤ mx a b := by unfold mn mx; split <;> split <;> omega
    obtain ⟨u, r, rfl, hu, hr⟩ := split_at hs.up (mx a b)
    obtain ⟨p, q, rfl, hp, hq⟩ := split_at ((List.pairwise_append.1 hs.up).1) (mn a b)
    have hup := (List.pairwise_append.1 hs.up).1
    have e2 := at_eq hu hr
    have e1 := at_eq (a := p) (b := q ++ r) hp (fun x hx => by
      rcases List.mem_append.1 hx with hx | hx
      · exact hq x hx
      · have := hr x hx; omega)
    rw [← List.append_assoc] at e1
    have j0f : ∀ (ok : Bool) (m : Int) (lv : List Int) (dl : Bool), (∀ z ∈ p ++ q ++ r, z.f0 ≤ mn a b → ok = true ∧ z.f0 ≤ m) → godwitlaw07_ChainSees.j0 2000 a b true ok false (p ++ q ++ r) m lv dl = some true := fun ok m lv dl hx => by
      show godwitlaw07_ChainSees.j0 (1999 + 1) a b true ok false (p ++ q ++ r) m lv dl = some true
      simp only [godwitlaw07_ChainSees.j0]
      rw [if_neg (by simp)]
      exact sees_l hs a b m ok lv dl hx (p ++ q ++ r).length 0 1999 (by omega) (by have := hs.few; omega)
    have inp : ∀ z ∈ p ++ q ++ r, z.f0 ≤ mn a b → z ∈ p := fun z hz hle => by
      rcases List.mem_append.1 hz with hz | hz
      · rcases List.mem_append.1 hz with hz | hz
        · exact hz
        · have := hq z hz; omega
      · have := hr z hz; omega
    rw [if_pos rfl, ht, Option.bind_some, e1, Option.bind_some, e2, Option.bind_some]
    rcases List.eq_nil_or_concat p with rfl | ⟨l', x, rfl⟩
    · have hj := j0f false 0 [] false (fun z hz hle => absurd (inp z hz hle) (by simp))
      rcases List.eq_nil_or_concat q with rfl | ⟨m, y, rfl⟩
      · simpa using hj
      · rw [List.concat_eq_append] at hu hj ⊢
        have hy : ¬ y.f0 > mx a b := by have := hu y (by simp); omega
        simp only [List.nil_append, List.getLast?_nil, List.getLast?_concat] at hj ⊢
        simp only [Bool.false_eq_true, if_false, if_true, decide_eq_false hy]
        exact hj
    · rw [List.concat_eq_append] at *
      have hx : x.f0 ≤ mn a b := hp x (by simp)
      have hj := j0f true x.f0 x.f1 x.f2 (fun z hz hle => ⟨rfl, by
        have hz' := inp z hz hle
        have := lastT_ge ((List.pairwise_append.1 hup).1) z hz'
        rwa [lastT_snoc] at this⟩)
      obtain ⟨y, hy1, hy2, hy3⟩ : ∃ y : V, (l' ++ [x] ++ q).getLast? = some y ∧ x.f0 ≤ y.f0 ∧ y.f0 ≤ mx a b := by
        rcases List.eq_nil_or_concat q with rfl | ⟨m, y, rfl⟩
        · exact ⟨x, by simp, Int.le_refl _, by omega⟩
        · rw [List.concat_eq_append] at *
          refine ⟨y, by rw [← List.append_assoc, List.getLast?_concat], ?_, hu y (by simp)⟩
          have := hq y (by simp); omega
      rw [hy1]
      simp only [List.getLast?_append, List.getLast?_singleton, Option.some_or]
      rw [if_pos trivial, if_pos trivial, if_neg (by omega), if_neg (by omega), decide_eq_false (by omega)]
      exact hj
end Go.Proofs.Ytcinlddejdkjeaa.Pure
