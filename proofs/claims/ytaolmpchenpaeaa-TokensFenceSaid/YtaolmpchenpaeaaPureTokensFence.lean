/- What is fenced is never done: behind a Fence that told 0 no Start, and no Finish, of that attempt, or one below, is OK. -/
import Derived.Test.YtaolmpchenpaeaaQx20
import Derived.Test.YtaolmpchenpaeaaP12b
namespace Go.Proofs.Ytaolmpchenpaeaa.Pure
open Go.RowKit Go.Proofs.Ytaolmpchenpaeaa.Q Go.Proofs.YtaolmpchenpaeaaW.PrintWords Go.Proofs.YtaolmpchenpaeaaW.PrintLast Go.Proofs.Ytaolmpchenpaeaa.G

/-- The token's entry, whatever is done, unless it is released: a greater attempt, or fenced at as great a one. -/
def Fen (t : List E) (tok att : Int) : Prop := ∃ x, fnd t tok = some x ∧ (x.f2 = 3 ∧ att ≤ x.f1 ∨ x.f2 ≠ 3 ∧ att < x.f1)
theorem fen_step {t u : List E} (hs : Sn t) {a b c ts tok att : Int} (st : Step t u a b c ts) (ha : 0 ≤ a ∧ a ≤ 4) (h : Fen t tok att) : Fen u tok att ∧ (b = tok → a ≤ 3 → att < c) := by
  obtain ⟨x, hx, hc⟩ := h
  by_cases hb : b = tok
  · subst hb
    unfold Step at st
    split at st
    · obtain ⟨_, _, g3, g4⟩ := st
      obtain ⟨h1, h2⟩ := g3 x hx
      exact ⟨⟨_, by rw [g4, if_pos rfl], .inr ⟨by simp, by simp only; omega⟩⟩, fun _ _ => by omega⟩
    · split at st
      · obtain ⟨⟨y, hy, y1, y2⟩, g4⟩ := st
        rw [hx] at hy; cases hy
        exact ⟨⟨_, by rw [g4, if_pos rfl], .inr ⟨by simp, by simp only; omega⟩⟩, fun _ _ => by omega⟩
      · split at st
        · refine ⟨?_, fun _ _ => by omega⟩
          rcases st.2 with ⟨_, _, _, rfl⟩ | ⟨_, g⟩
          · exact ⟨x, hx, hc⟩
          · have ex : (ent t b).f1 = x.f1 := by unfold ent; rw [hx]; rfl
            have hm : (ent t b).f1 ≤ mx c (ent t b).f1 := by unfold mx; split <;> omega
            exact ⟨_, by rw [g, if_pos rfl], .inl ⟨rfl, by simp only; omega⟩⟩
        · omega
  · refine ⟨⟨x, ?_, hc⟩, fun h => absurd h hb⟩
    have g : ∀ {z : Option E}, (∀ tok, fnd u tok = if tok = b then z else fnd t tok) → fnd u tok = some x := fun hu => by rw [hu, if_neg (fun h => hb h.symm), hx]
    unfold Step at st
    split at st
    · exact g st.2.2.2
    · split at st
      · exact g st.2
      · split at st
        · rcases st.2 with ⟨_, _, _, rfl⟩ | ⟨_, h⟩
          · exact hx
          · exact g h
        · exact g st.2
theorem fence_l1 (tok att : Int) (m : List S28) (hm : m.length ≤ 60) : ∀ (d i : Nat) (t : List E) (k : Nat), i + d = m.length → Sn t → Fen t tok att → 4 * d + 140 ≤ k →
    godwitlaw12_TokensFence.l1 k tok att m true (i : Int) t = some true
  | 0, i, t, k, e, hs, hf, hk => by
    obtain ⟨k, rfl⟩ : ∃ m, k = m + 1 := ⟨k - 1, by omega⟩
    simp only [godwitlaw12_TokensFence.l1]
    rw [if_neg (by omega)]
  | d + 1, i, t, k, e, hs, hf, hk => by
    obtain ⟨k, rfl⟩ : ∃ m, k = m + 4 := ⟨k - 4, by omega⟩
    have hw : wrap64 ((i : Int) + 1) = ((i + 1 : Nat) : Int) := by unfold wrap64; omega
    have p0 : (0 : Int) ≤ (i : Int) := by omega
    have p1 : (i : Int) < (m.length : Int) := by omega
    have ih := fun t' (k' : Nat) h1 h2 (h4 : 4 * d + 140 ≤ k') => fence_l1 tok att m hm d (i + 1) t' k' (by omega) h1 h2 h4
    obtain ⟨o, ho⟩ : ∃ o, rd_T28 m (i : Int) = o := ⟨_, rfl⟩
    have skip : godwitlaw12_TokensFence.j4 (k + 3) tok att m true (i : Int) true t = some true := by
      show godwitlaw12_TokensFence.j4 (k + 2 + 1) tok att m true (i : Int) true t = some true
      simp only [godwitlaw12_TokensFence.j4]
      rw [if_pos trivial, hw]
      exact ih _ _ hs hf (by omega)
    show godwitlaw12_TokensFence.l1 (k + 3 + 1) tok att m true (i : Int) t = some true
    simp only [godwitlaw12_TokensFence.l1]
    rw [if_pos p1, if_pos p0, ho]
    by_cases c5 : o.f0 = 5
    · rw [if_pos c5]; exact skip
    rw [if_neg c5]
    by_cases c0 : o.f0 < 0
    · rw [if_pos c0]; exact skip
    rw [if_neg c0]
    by_cases c6 : o.f0 > 5
    · rw [decide_eq_true c6]; exact skip
    rw [decide_eq_false c6]
    show godwitlaw12_TokensFence.j4 (k + 2 + 1) tok att m true (i : Int) false t = some true
    simp only [godwitlaw12_TokensFence.j4]
    rw [if_neg (by simp), if_pos p0, if_pos p1, ho, hw, did_eq hs _ _ _ _ (by omega), Option.bind_some]
    by_cases h0 : (didR t o.f0 o.f1 o.f2 (wrap64 (100 + (i : Int)))).2 = 0
    · rw [if_pos h0]
      obtain ⟨hu, st⟩ := did_ok hs _ _ _ _ h0
      generalize (didR t o.f0 o.f1 o.f2 (wrap64 (100 + (i : Int)))).1 = u at hu st ⊢
      obtain ⟨hf2, hlt⟩ := fen_step hs st (by omega) hf
      have j : godwitlaw12_TokensFence.j5 (k + 2) tok att m true (i : Int) false u = some true := by
        show godwitlaw12_TokensFence.j5 (k + 1 + 1) tok att m true (i : Int) false u = some true
        simp only [godwitlaw12_TokensFence.j5]
        rw [if_neg (by simp), hw]
        exact ih _ _ hu hf2 (by omega)
      by_cases hb : o.f1 = tok
      · rw [if_pos hb]
        by_cases h3 : o.f0 ≤ 3
        · rw [if_pos h3, decide_eq_false (by have := hlt hb h3; omega)]; exact j
        · rw [if_neg h3]; exact j
      · rw [if_neg hb]; exact j
    · rw [if_neg h0]
      exact ih _ _ hs hf (by omega)
theorem fence_l0 (l : List S28) (tok att : Int) (m : List S28) (hl : l.length ≤ 60) (hm : m.length ≤ 60) : ∀ (d i : Nat) (t : List E) (k : Nat), i + d = l.length → Sn t → d + 600 ≤ k →
    godwitlaw12_TokensFence.l0 k l tok att m true (i : Int) t = some true
  | 0, i, t, k, e, hs, hk => by
    obtain ⟨k, rfl⟩ : ∃ m, k = m + 2 := ⟨k - 2, by omega⟩
    show godwitlaw12_TokensFence.l0 (k + 1 + 1) l tok att m true (i : Int) t = some true
    simp only [godwitlaw12_TokensFence.l0]
    rw [if_neg (by omega), fence_eq hs _ _ (by omega), Option.bind_some]
    have tr : ∀ u, godwitlaw12_TokensFence.j2 (k + 1) tok att m true true u = some true := fun u => by simp [godwitlaw12_TokensFence.j2]
    by_cases h0 : (fenceR t tok att).2.2 = 0
    · rw [if_pos h0]
      by_cases hn : (fenceR t tok att).2.1 > 0
      · rw [decide_eq_true hn]; exact tr _
      · rw [decide_eq_false hn]
        have hd : (didR t 4 tok att 1).2 = 0 := by simpa [didR] using h0
        obtain ⟨hu, st⟩ := did_ok hs 4 tok att 1 hd
        have e1 : (didR t 4 tok att 1).1 = (fenceR t tok att).1 := by simp [didR]
        rw [e1] at hu st
        simp only [godwitlaw12_TokensFence.j2]
        rw [if_neg (by simp)]
        refine fence_l1 tok att m hm m.length 0 _ k (by omega) hu ?_ (by omega)
        unfold Step at st
        rw [if_neg (by omega), if_neg (by omega), if_pos rfl] at st
        rcases st.2 with ⟨x, hx, x2, e⟩ | ⟨_, g⟩
        · exfalso
          have ex : ent t tok = x := by unfold ent; rw [hx]; rfl
          have hsx := hs.all x (fnd_mem t tok x hx).1
          unfold fenceR at hn
          by_cases hz : soundP ⟨tok, att, 3, 0⟩
          · rw [if_pos hz, ex, if_pos x2] at hn
            obtain ⟨_, _, _, _, h⟩ := hsx
            simp only at hn
            omega
          · unfold fenceR at h0
            rw [if_neg hz] at h0
            cases h0
        · have hm : att ≤ mx att (ent t tok).f1 := by unfold mx; split <;> omega
          exact ⟨_, by rw [g, if_pos rfl], .inl ⟨rfl, hm⟩⟩
    · rw [if_neg h0]; exact tr _
  | d + 1, i, t, k, e, hs, hk => by
    obtain ⟨k, rfl⟩ : ∃ m, k = m + 1 := ⟨k - 1, by omega⟩
    have hw : wrap64 ((i : Int) + 1) = ((i + 1 : Nat) : Int) := by unfold wrap64; omega
    simp only [godwitlaw12_TokensFence.l0]
    rw [if_pos (by omega), if_pos (by omega), hw, did_eq hs _ _ _ _ (by omega), Option.bind_some]
    split
    · rename_i h0
      exact fence_l0 l tok att m hl hm d (i + 1) _ k (by omega) (did_ok hs _ _ _ _ h0).1 (by omega)
    · exact fence_l0 l tok att m hl hm d (i + 1) _ k (by omega) hs (by omega)
theorem TokensFence : godwitlaw12_TokensFence.Pure := by
  intro l tok att m _ _ _ _
  refine ⟨2000, ?_⟩
  unfold godwitlaw12_TokensFence.f
  rw [awake_at (by omega), Option.bind_some]
  have q : godwitlaw12_TokensFence.j0 2000 l tok att m true true = some true := by simp [godwitlaw12_TokensFence.j0]
  by_cases h : (l.length : Int) > 60
  · rw [if_pos h]; exact q
  · rw [if_neg h]
    by_cases h2 : (m.length : Int) > 60
    · rw [decide_eq_true h2]; exact q
    · rw [decide_eq_false h2]
      show godwitlaw12_TokensFence.j0 (1999 + 1) l tok att m true false = some true
      simp only [godwitlaw12_TokensFence.j0]
      rw [if_neg (by simp)]
      exact fence_l0 l tok att m (by omega) (by omega) l.length 0 [] 1999 (by omega) Sn.nil (by omega)
end Go.Proofs.Ytaolmpchenpaeaa.Pure
