/- At most one is done: one Finish of a token is OK at most, none of an attempt that was fenced or that a later one was started behind. -/
import Derived.Test.YtaolmpchenpaeaaQx17
import Derived.Test.YtaolmpchenpaeaaP12b
namespace Go.Proofs.Ytaolmpchenpaeaa.Pure
open Go.RowKit Go.Proofs.Ytaolmpchenpaeaa.Q Go.Proofs.YtaolmpchenpaeaaW.PrintWords Go.Proofs.YtaolmpchenpaeaaW.PrintLast Go.Proofs.Ytaolmpchenpaeaa.G

/-- What is known of the one token between two things. -/
def Inv (t : List E) (tok done floor : Int) : Prop :=
  (fnd t tok = none → done = 0 ∧ floor = -1) ∧ ∀ x, fnd t tok = some x → (x.f2 = 1 → done = 0 ∧ floor < x.f1) ∧ (x.f2 = 2 → done = 1) ∧ (x.f2 = 3 → done = 0 ∧ floor ≤ x.f1)
theorem st_of {t : List E} (h : Sn t) {tok : Int} {x : E} (hx : fnd t tok = some x) : x.f2 = 1 ∨ x.f2 = 2 ∨ x.f2 = 3 := by
  obtain ⟨_, _, _, _, h2⟩ := h.all x (fnd_mem t tok x hx).1
  omega
theorem Inv.other {t u : List E} {tok done floor b : Int} {z : Option E} (h : Inv t tok done floor) (hb : b ≠ tok) (hu : ∀ tok, fnd u tok = if tok = b then z else fnd t tok) : Inv u tok done floor := by
  have e : fnd u tok = fnd t tok := by rw [hu, if_neg (fun h => hb h.symm)]
  unfold Inv
  rw [e]
  exact h
theorem once_l (l : List S28) (tok : Int) (hl : l.length ≤ 100) : ∀ (d i : Nat) (t : List E) (done floor : Int) (k : Nat), i + d = l.length → Sn t → Inv t tok done floor → -1 ≤ floor → 6 * d + 140 ≤ k →
    godwitlaw12_TokensOnce.l0 k l tok true done floor (i : Int) t = some true
  | 0, i, t, done, floor, k, e, hs, hi, _, hk => by
    obtain ⟨k, rfl⟩ : ∃ m, k = m + 1 := ⟨k - 1, by omega⟩
    simp only [godwitlaw12_TokensOnce.l0]
    rw [if_neg (by omega), find_eq, Option.bind_some, if_pos trivial]
    obtain ⟨h1, h2⟩ := hi
    cases hf : fnd t tok with
    | none =>
      obtain ⟨rfl, _⟩ := h1 hf
      simp [fv, sane_eq hs (show 104 ≤ k by omega)]
    | some x =>
      obtain ⟨q1, q2, q3⟩ := h2 x hf
      rcases st_of hs hf with c | c | c
      · have := (q1 c).1; subst this
        simp [fv, c, sane_eq hs (show 104 ≤ k by omega)]
      · have := q2 c; subst this
        simp [fv, c, sane_eq hs (show 104 ≤ k by omega)]
      · have := (q3 c).1; subst this
        simp [fv, c, sane_eq hs (show 104 ≤ k by omega)]
  | d + 1, i, t, done, floor, k, e, hs, hi, hfl, hk => by
    obtain ⟨k, rfl⟩ : ∃ m, k = m + 6 := ⟨k - 6, by omega⟩
    have hil : i < l.length := by omega
    have hw : wrap64 ((i : Int) + 1) = ((i + 1 : Nat) : Int) := by unfold wrap64; omega
    have ih := fun t' done' floor' (k' : Nat) h1 h2 h3 (h4 : 6 * d + 140 ≤ k') => once_l l tok hl d (i + 1) t' done' floor' k' (by omega) h1 h2 h3 h4
    obtain ⟨o, ho⟩ : ∃ o, rd_T28 l (i : Int) = o := ⟨_, rfl⟩
    have p0 : (0 : Int) ≤ (i : Int) := by omega
    have p1 : (i : Int) < (l.length : Int) := by omega
    show godwitlaw12_TokensOnce.l0 (k + 5 + 1) l tok true done floor (i : Int) t = some true
    simp only [godwitlaw12_TokensOnce.l0]
    rw [if_pos p1, if_pos p0, ho]
    have skip : ∀ (k' : Nat), 6 * d + 141 ≤ k' → godwitlaw12_TokensOnce.j1 k' l tok true done floor (i : Int) true t = some true := fun k' hk' => by
      obtain ⟨k', rfl⟩ : ∃ m, k' = m + 1 := ⟨k' - 1, by omega⟩
      simp only [godwitlaw12_TokensOnce.j1]
      rw [if_pos trivial, hw]
      exact ih _ _ _ _ hs hi hfl (by omega)
    by_cases n0 : o.f0 < 0
    · rw [if_pos n0]; exact skip _ (by omega)
    rw [if_neg n0]
    by_cases n4 : o.f0 > 4
    · rw [decide_eq_true n4]; exact skip _ (by omega)
    rw [decide_eq_false n4]
    show godwitlaw12_TokensOnce.j1 (k + 4 + 1) l tok true done floor (i : Int) false t = some true
    simp only [godwitlaw12_TokensOnce.j1]
    rw [if_neg (by simp), if_pos p0, if_pos p1, ho, hw, did_eq hs _ _ _ _ (by omega), Option.bind_some]
    by_cases h0 : (didR t o.f0 o.f1 o.f2 ((i + 1 : Nat) : Int)).2 = 0
    · rw [if_pos h0]
      obtain ⟨hu, st⟩ := did_ok hs _ _ _ _ h0
      generalize (didR t o.f0 o.f1 o.f2 ((i + 1 : Nat) : Int)).1 = u at hu st ⊢
      by_cases hb : o.f1 = tok
      · rw [if_pos hb]
        subst hb
        obtain ⟨i1, i2⟩ := hi
        unfold Step at st
        by_cases c1 : o.f0 = 0 ∨ o.f0 = 1
        · rw [if_pos c1] at st
          obtain ⟨g1, g2, g3, g4⟩ := st
          have hfl2 : floor < o.f2 ∧ done = 0 := by
            cases hf : fnd t o.f1 with
            | none => obtain ⟨a1, a2⟩ := i1 hf; exact ⟨by omega, a1⟩
            | some x =>
              obtain ⟨b1, b2⟩ := g3 x hf
              obtain ⟨q1, q2, q3⟩ := i2 x hf
              rcases st_of hs hf with c | c | c
              · have := q1 c; omega
              · exact absurd c b1
              · have := q3 c; omega
          have hj : godwitlaw12_TokensOnce.j2 (k + 4) l o.f1 true done floor (i : Int) o.f0 true u = some true := by
            show godwitlaw12_TokensOnce.j2 (k + 3 + 1) l o.f1 true done floor (i : Int) o.f0 true u = some true
            simp only [godwitlaw12_TokensOnce.j2]
            rw [if_pos trivial, if_pos p0, if_pos p1, ho, if_neg (by omega), decide_eq_false (by omega)]
            show godwitlaw12_TokensOnce.j3 (k + 2 + 1) l o.f1 true done (i : Int) false u = some true
            simp only [godwitlaw12_TokensOnce.j3]
            have hw2 : wrap64 (o.f2 - 1) = o.f2 - 1 := by unfold wrap64; omega
            rw [if_neg (by simp), if_pos p0, if_pos p1, ho, hw, hw2]
            refine ih _ _ _ _ hu ⟨fun hn => ?_, fun x hx => ?_⟩ (by omega) (by omega)
            · rw [g4, if_pos rfl] at hn; cases hn
            · rw [g4, if_pos rfl] at hx; cases hx
              exact ⟨fun _ => ⟨hfl2.2, by simp; omega⟩, fun h => by simp at h, fun h => by simp at h⟩
          rcases c1 with c | c
          · rw [if_pos c, c]; rw [c] at hj; exact hj
          · rw [if_neg (by omega), c]; rw [c] at hj; exact hj
        · rw [if_neg c1] at st
          have hj2 : ∀ b, b = false → godwitlaw12_TokensOnce.j2 (k + 4) l o.f1 true done floor (i : Int) o.f0 b u = some true := by
            rintro b rfl
            show godwitlaw12_TokensOnce.j2 (k + 3 + 1) l o.f1 true done floor (i : Int) o.f0 false u = some true
            simp only [godwitlaw12_TokensOnce.j2]
            rw [if_neg (by simp)]
            by_cases c2 : o.f0 = 2 ∨ o.f0 = 3
            · rw [if_pos c2] at st
              obtain ⟨⟨x, hx, x1, x2⟩, g4⟩ := st
              obtain ⟨q1, _, _⟩ := i2 x hx
              obtain ⟨rfl, hlt⟩ := q1 x1
              have hj : godwitlaw12_TokensOnce.j4 (k + 3) l o.f1 true 0 floor (i : Int) o.f0 true u = some true := by
                show godwitlaw12_TokensOnce.j4 (k + 2 + 1) l o.f1 true 0 floor (i : Int) o.f0 true u = some true
                simp only [godwitlaw12_TokensOnce.j4]
                rw [if_pos trivial, if_pos p0, if_pos p1, ho, if_neg (by omega), hw, show wrap64 (0 + 1) = 1 by unfold wrap64; omega]
                refine ih _ _ _ _ hu ⟨fun hn => ?_, fun y hy => ?_⟩ hfl (by omega)
                · rw [g4, if_pos rfl] at hn; cases hn
                · rw [g4, if_pos rfl] at hy; cases hy
                  exact ⟨fun h => by simp at h, fun _ => rfl, fun h => by simp at h⟩
              rcases c2 with c | c
              · rw [if_pos c, c]; rw [c] at hj; exact hj
              · rw [if_neg (by omega), c]; rw [c] at hj; exact hj
            · rw [if_neg c2] at st
              have c3 : o.f0 = 4 := by omega
              rw [if_pos c3] at st
              obtain ⟨g0, st⟩ := st
              rw [if_neg (by omega)]
              have e3 : (o.f0 == 3) = false := by simp; omega
              rw [e3]
              show godwitlaw12_TokensOnce.j4 (k + 2 + 1) l o.f1 true done floor (i : Int) o.f0 false u = some true
              simp only [godwitlaw12_TokensOnce.j4]
              rw [if_neg (by simp), if_pos c3, if_pos p0, if_pos p1, ho, hw]
              have hmx : floor ≤ mx floor o.f2 ∧ o.f2 ≤ mx floor o.f2 ∧ (mx floor o.f2 = floor ∨ mx floor o.f2 = o.f2) := by unfold mx; split <;> omega
              rcases st with ⟨x, hx, x2, rfl⟩ | ⟨g1, g4⟩
              · refine ih _ _ _ _ hu ⟨fun hn => ?_, fun y hy => ?_⟩ (by omega) (by omega)
                · rw [hx] at hn; cases hn
                · rw [hx] at hy; cases hy
                  obtain ⟨_, q2, _⟩ := i2 x hx
                  exact ⟨fun h => by omega, fun _ => q2 x2, fun h => by omega⟩
              · refine ih _ _ _ _ hu ⟨fun hn => ?_, fun y hy => ?_⟩ (by omega) (by omega)
                · rw [g4, if_pos rfl] at hn; cases hn
                · rw [g4, if_pos rfl] at hy; cases hy
                  refine ⟨fun h => by simp at h, fun h => by simp at h, fun _ => ?_⟩
                  have hm : mx o.f2 (ent t o.f1).f1 = o.f2 ∨ mx o.f2 (ent t o.f1).f1 = (ent t o.f1).f1 := by unfold mx; split <;> omega
                  have hm1 : o.f2 ≤ mx o.f2 (ent t o.f1).f1 ∧ (ent t o.f1).f1 ≤ mx o.f2 (ent t o.f1).f1 := by unfold mx; split <;> omega
                  simp only
                  cases hf : fnd t o.f1 with
                  | none => obtain ⟨a1, a2⟩ := i1 hf; omega
                  | some x =>
                    have ex : (ent t o.f1).f1 = x.f1 := by unfold ent; rw [hf]; rfl
                    obtain ⟨q1, q2, q3⟩ := i2 x hf
                    rcases st_of hs hf with c | c | c
                    · have := q1 c; omega
                    · exact absurd c (g1 x hf)
                    · have := q3 c; omega
          by_cases z : o.f0 = 0
          · exact absurd (.inl z) c1
          · rw [if_neg z]
            exact hj2 _ (by simp; omega)
      · rw [if_neg hb]
        refine ih _ _ _ _ hu ?_ hfl (by omega)
        unfold Step at st
        split at st
        · exact hi.other hb st.2.2.2
        · split at st
          · exact hi.other hb st.2
          · split at st
            · rcases st.2 with ⟨_, _, _, rfl⟩ | ⟨_, g⟩
              · exact hi
              · exact hi.other hb g
            · exact hi.other hb st.2
    · rw [if_neg h0]
      exact ih _ _ _ _ hs hi hfl (by omega)
theorem TokensOnce : godwitlaw12_TokensOnce.Pure := by
  intro l tok _ _
  refine ⟨2000, ?_⟩
  unfold godwitlaw12_TokensOnce.f
  rw [awake_at (by omega), Option.bind_some]
  by_cases h : (l.length : Int) > 100
  · rw [if_pos h]
  · rw [if_neg h]
    exact once_l l tok (by omega) l.length 0 [] 0 (-1) 2000 (by omega) Sn.nil ⟨fun _ => ⟨rfl, rfl⟩, fun x hx => by simp [fnd] at hx⟩ (by omega) (by omega)
end Go.Proofs.Ytaolmpchenpaeaa.Pure
