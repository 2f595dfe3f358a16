/- What is done stays: till it is released its time is told by each Fence; others' entries stay by whatever is done to one. -/
import Derived.Test.YtaolmpchenpaeaaQx18
import Derived.Test.YtaolmpchenpaeaaP12b
namespace Go.Proofs.Ytaolmpchenpaeaa.Pure
open Go.RowKit Go.Proofs.Ytaolmpchenpaeaa.Q Go.Proofs.YtaolmpchenpaeaaW.PrintWords Go.Proofs.YtaolmpchenpaeaaW.PrintLast Go.Proofs.Ytaolmpchenpaeaa.G

/-- Another token's entry stays. -/
theorem step_other {t u : List E} {a b c ts tok : Int} (st : Step t u a b c ts) (hb : b ≠ tok) : fnd u tok = fnd t tok := by
  have g : ∀ {z : Option E}, (∀ tok, fnd u tok = if tok = b then z else fnd t tok) → fnd u tok = fnd t tok := fun hu => by rw [hu, if_neg (fun h => hb h.symm)]
  unfold Step at st
  split at st
  · exact g st.2.2.2
  · split at st
    · exact g st.2
    · split at st
      · rcases st.2 with ⟨_, _, _, rfl⟩ | ⟨_, h⟩
        · rfl
        · exact g h
      · exact g st.2
theorem keep_l (l : List S28) (tok att o0 o1 o2 : Int) (hl : l.length ≤ 100) : ∀ (d i : Nat) (t : List E) (k : Nat), i + d = l.length → Sn t → d + 140 ≤ k →
    godwitlaw12_TokensKeep.l0 k l tok att true (i : Int) o0 o1 o2 t = some true
  | 0, i, t, k, e, hs, hk => by
    obtain ⟨k, rfl⟩ : ∃ m, k = m + 2 := ⟨k - 2, by omega⟩
    show godwitlaw12_TokensKeep.l0 (k + 1 + 1) l tok att true (i : Int) o0 o1 o2 t = some true
    simp only [godwitlaw12_TokensKeep.l0]
    rw [if_neg (by omega), find_eq, Option.bind_some, fence_eq hs _ _ (by omega), Option.bind_some, fv_ent]
    have j : godwitlaw12_TokensKeep.j1 (k + 1) tok true (fnd t tok).isSome false o0 o1 o2 t (ent t tok).f0 (ent t tok).f1 (ent t tok).f2 (ent t tok).f3 = some true := by
      simp only [godwitlaw12_TokensKeep.j1]
      rw [if_neg (by simp), did_eq hs _ _ _ _ (by omega), Option.bind_some]
      by_cases h0 : (didR t o0 o1 o2 500).2 = 0
      · rw [if_pos h0, find_eq, Option.bind_some, if_pos trivial]
        obtain ⟨_, st⟩ := did_ok hs _ _ _ _ h0
        by_cases hb : o1 = tok
        · rw [if_pos hb]
        · rw [if_neg hb, fv_ent]
          have e1 := step_other st hb
          have e2 : ent (didR t o0 o1 o2 500).1 tok = ent t tok := by unfold ent; rw [e1]
          rw [e1, e2]
          simp
      · rw [if_neg h0]
    by_cases h1 : (fnd t tok).isSome = true
    · rw [if_pos h1]
      by_cases h2 : (ent t tok).f2 = 2
      · rw [if_pos h2]
        have hf : fenceR t tok att = (t, (ent t tok).f3, 0) ∨ fenceR t tok att = ([], 0, 1) := by
          by_cases hz : soundP ⟨tok, att, 3, 0⟩
          · left; unfold fenceR; rw [if_pos hz, if_pos h2]
          · right; unfold fenceR; rw [if_neg hz]
        rcases hf with hf | hf
        · rw [hf, if_pos rfl, if_pos rfl]; exact j
        · rw [hf, if_neg (by simp)]; exact j
      · rw [if_neg h2]; exact j
    · rw [if_neg h1]; exact j
  | d + 1, i, t, k, e, hs, hk => by
    obtain ⟨k, rfl⟩ : ∃ m, k = m + 1 := ⟨k - 1, by omega⟩
    have hw : wrap64 ((i : Int) + 1) = ((i + 1 : Nat) : Int) := by unfold wrap64; omega
    simp only [godwitlaw12_TokensKeep.l0]
    rw [if_pos (by omega), if_pos (by omega), hw, did_eq hs _ _ _ _ (by omega), Option.bind_some]
    split
    · rename_i h0
      exact keep_l l tok att o0 o1 o2 hl d (i + 1) _ k (by omega) (did_ok hs _ _ _ _ h0).1 (by omega)
    · exact keep_l l tok att o0 o1 o2 hl d (i + 1) _ k (by omega) hs (by omega)
theorem TokensKeep : godwitlaw12_TokensKeep.Pure := by
  intro l o0 o1 o2 tok att _ _ _ _
  refine ⟨2000, ?_⟩
  unfold godwitlaw12_TokensKeep.f
  rw [awake_at (by omega), Option.bind_some]
  by_cases h : (l.length : Int) > 100
  · rw [if_pos h]
  · rw [if_neg h]
    exact keep_l l tok att o0 o1 o2 (by omega) l.length 0 [] 2000 (by omega) Sn.nil (by omega)
end Go.Proofs.Ytaolmpchenpaeaa.Pure
