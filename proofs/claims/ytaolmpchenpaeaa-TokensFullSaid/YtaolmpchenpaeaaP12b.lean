/- tokens in plain words: Start, Finish, Fence, Release, and one thing done. -/
import Derived.Test.YtaolmpchenpaeaaP12
namespace Go.Proofs.Ytaolmpchenpaeaa.Pure
open Go.RowKit Go.Proofs.Ytaolmpchenpaeaa.Q Go.Proofs.YtaolmpchenpaeaaW.PrintWords Go.Proofs.YtaolmpchenpaeaaW.PrintLast Go.Proofs.Ytaolmpchenpaeaa.G

theorem clone_eq (t : List E) (h : t.length ≤ 32) : tokens_Entry_20.f t = some t := by
  unfold tokens_Entry_20.f
  rw [if_pos (by omega)]
/-- An entry in its place, or behind all. -/
def updR (t : List E) (z : E) : List E × Int := if fnd t z.f0 = none ∧ 32 ≤ t.length then ([], 8) else (setT t z, 0)
theorem with_eq (t : List E) (z : E) (h : t.length ≤ 32) (k : Nat) : tokens_Table_with.f (k + 1) t z.f0 z.f1 z.f2 z.f3 = some (updR t z) := by
  unfold tokens_Table_with.f updR
  rw [at_eq, Option.bind_some]
  simp only [tokens_Table_with.j0, tokens_Entry_23.f, clone_eq t h, Option.bind_some]
  cases hf : fnd t z.f0 with
  | none =>
    rw [idx_none t _ hf, if_pos (by omega)]
    by_cases h32 : 32 ≤ t.length
    · rw [if_pos (by simp; omega), if_pos ⟨rfl, h32⟩]
    · rw [if_neg (by simp; omega), if_pos (by omega), if_pos (by omega), if_neg (by simp [h32])]
      simp only [Option.bind_some]
      rw [← set_none t z hf]
  | some x =>
    obtain ⟨i, hi, e, hx, hs, _⟩ := idx_is t _ x hf
    rw [e, if_neg (by omega), if_neg (by simp), if_neg (by omega), if_pos (by omega), if_pos (by omega), if_neg (by simp)]
    simp only [Option.bind_some, Int.toNat_natCast]
    rw [← hs z rfl]
def startR (t : List E) (tok att : Int) : List E × Int :=
  if soundP ⟨tok, att, 1, 0⟩ then
    match fnd t tok with
    | some x => if x.f2 = 2 then ([], 7) else if att ≤ x.f1 then ([], 14) else updR t ⟨tok, att, 1, 0⟩
    | none => updR t ⟨tok, att, 1, 0⟩
  else ([], 1)
theorem start_eq {t : List E} (h : Sn t) (tok att : Int) {k : Nat} (hk : 110 ≤ k) : tokens_Start.f k t tok att = some (startR t tok att) := by
  obtain ⟨k, rfl⟩ : ∃ m, k = m + 5 := ⟨k - 5, by omega⟩
  have hs := h.few
  unfold tokens_Start.f startR
  rw [find_eq, Option.bind_some, sane_eq h (by omega), Option.bind_some, if_pos rfl, show k + 5 = (k + 3) + 2 from rfl, sound_eq, Option.bind_some]
  have hw := with_eq t ⟨tok, att, 1, 0⟩ hs
  by_cases hz : soundP ⟨tok, att, 1, 0⟩
  · rw [if_pos hz, decide_eq_true hz]
    simp only [tokens_Start.j0, Bool.not_true, Bool.false_eq_true, if_false]
    cases hf : fnd t tok with
    | none => simp [fv, tokens_Start.j1, tokens_Start.j2, hw]
    | some x =>
      by_cases h2 : x.f2 = 2
      · simp [fv, tokens_Start.j1, h2]
      · by_cases h3 : att ≤ x.f1
        · simp [fv, tokens_Start.j1, tokens_Start.j2, h2, h3]
        · simp [fv, tokens_Start.j1, tokens_Start.j2, h2, h3, hw]
  · rw [if_neg hz, decide_eq_false hz]
    simp [tokens_Start.j0]
/-- What a token's entry is, or nothing. -/
def ent (t : List E) (tok : Int) : E := (fnd t tok).getD ⟨0, 0, 0, 0⟩
theorem fv_ent (t : List E) (tok : Int) : fv (fnd t tok) = ((ent t tok).f0, (ent t tok).f1, (ent t tok).f2, (ent t tok).f3, (fnd t tok).isSome) := by
  unfold ent
  cases fnd t tok <;> rfl
def finishR (t : List E) (tok att ts : Int) : List E × Int :=
  if soundP ⟨tok, att, 2, ts⟩ then
    if (ent t tok).f2 = 2 then ([], 7) else if (ent t tok).f2 = 1 ∧ (ent t tok).f1 = att then updR t ⟨tok, att, 2, ts⟩ else ([], 14)
  else ([], 1)
theorem finish_eq {t : List E} (h : Sn t) (tok att ts : Int) {k : Nat} (hk : 110 ≤ k) : tokens_Finish.f k t tok att ts = some (finishR t tok att ts) := by
  obtain ⟨k, rfl⟩ : ∃ m, k = m + 5 := ⟨k - 5, by omega⟩
  have hs := h.few
  unfold tokens_Finish.f finishR
  rw [find_eq, Option.bind_some, sane_eq h (by omega), Option.bind_some, if_pos rfl, show k + 5 = (k + 3) + 2 from rfl, sound_eq, Option.bind_some, fv_ent]
  have hw := with_eq t ⟨tok, att, 2, ts⟩ hs
  by_cases hz : soundP ⟨tok, att, 2, ts⟩
  · rw [if_pos hz, decide_eq_true hz]
    simp only [tokens_Finish.j0, Bool.not_true, Bool.false_eq_true, if_false]
    by_cases h2 : (ent t tok).f2 = 2
    · simp [h2]
    · by_cases h1 : (ent t tok).f2 = 1
      · by_cases h3 : (ent t tok).f1 = att
        · simp [h1, h3, tokens_Finish.j1, hw]
        · simp [h1, h3, tokens_Finish.j1]
      · simp [h1, h2, tokens_Finish.j1]
  · rw [if_neg hz, decide_eq_false hz]
    simp [tokens_Finish.j0]
def fenceR (t : List E) (tok att : Int) : List E × Int × Int :=
  if soundP ⟨tok, att, 3, 0⟩ then
    if (ent t tok).f2 = 2 then (t, (ent t tok).f3, 0) else ((updR t ⟨tok, mx att (ent t tok).f1, 3, 0⟩).1, 0, (updR t ⟨tok, mx att (ent t tok).f1, 3, 0⟩).2)
  else ([], 0, 1)
theorem fence_eq {t : List E} (h : Sn t) (tok att : Int) {k : Nat} (hk : 110 ≤ k) : tokens_Fence.f k t tok att = some (fenceR t tok att) := by
  obtain ⟨k, rfl⟩ : ∃ m, k = m + 5 := ⟨k - 5, by omega⟩
  have hs := h.few
  unfold tokens_Fence.f fenceR
  rw [find_eq, Option.bind_some, sane_eq h (by omega), Option.bind_some, if_pos rfl, show k + 5 = (k + 3) + 2 from rfl, sound_eq, Option.bind_some, fv_ent]
  have hw := with_eq t ⟨tok, mx att (ent t tok).f1, 3, 0⟩ hs
  by_cases hz : soundP ⟨tok, att, 3, 0⟩
  · rw [if_pos hz, decide_eq_true hz]
    simp only [tokens_Fence.j0, Bool.not_true, Bool.false_eq_true, if_false]
    by_cases h2 : (ent t tok).f2 = 2
    · simp [h2]
    · simp [h2, hw]
  · rw [if_neg hz, decide_eq_false hz]
    simp [tokens_Fence.j0]
def releaseR (t : List E) (tok : Int) : List E × Int :=
  if 0 ≤ tok ∧ tok ≤ 1099511627776 then
    match fnd t tok with
    | some x => if x.f2 = 1 then ([], 7) else (delT t tok, 0)
    | none => ([], 6)
  else ([], 1)
theorem release_eq {t : List E} (h : Sn t) (tok : Int) {k : Nat} (hk : 110 ≤ k) : tokens_Release.f k t tok = some (releaseR t tok) := by
  obtain ⟨k, rfl⟩ : ∃ m, k = m + 5 := ⟨k - 5, by omega⟩
  have hs := h.few
  unfold tokens_Release.f releaseR
  rw [find_eq, Option.bind_some, sane_eq h (by omega), Option.bind_some, if_pos rfl, within_eq, Option.bind_some]
  by_cases hz : 0 ≤ tok ∧ tok ≤ 1099511627776
  · rw [if_pos hz, decide_eq_true hz]
    simp only [tokens_Release.j0, Bool.not_true, Bool.false_eq_true, if_false]
    cases hf : fnd t tok with
    | none => simp [fv]
    | some x =>
      by_cases h1 : x.f2 = 1
      · simp [fv, h1]
      · obtain ⟨i, hi, e, hx, _, hd⟩ := idx_is t tok x hf
        have hw : wrap64 ((i : Int) + 1) = (i : Int) + 1 := by unfold wrap64; omega
        have hd' : tokens_Entry_19.f t (i : Int) ((i : Int) + 1) = some (delT t tok) := by
          unfold tokens_Entry_19.f
          rw [if_pos ⟨by omega, by omega, rfl⟩, Int.toNat_natCast, hd]
        simp only [fv, h1, if_true, if_false, at_eq, e, Option.bind_some, clone_eq t hs, hw, hd']
  · rw [if_neg hz, decide_eq_false hz]
    simp [tokens_Release.j0]
def didR (t : List E) (a b c ts : Int) : List E × Int :=
  if a = 0 ∨ a = 1 then startR t b c else if a = 2 ∨ a = 3 then finishR t b c ts else if a = 4 then ((fenceR t b c).1, (fenceR t b c).2.2) else releaseR t b
theorem did_eq {t : List E} (h : Sn t) (a b c ts : Int) {k : Nat} (hk : 120 ≤ k) : godwitlaw12_did.f k t a b c ts = some (didR t a b c ts) := by
  obtain ⟨k, rfl⟩ : ∃ m, k = m + 5 := ⟨k - 5, by omega⟩
  unfold godwitlaw12_did.f didR
  simp only [godwitlaw12_did.j0, godwitlaw12_did.j1, start_eq h b c (k := k + 4) (by omega), finish_eq h b c ts (k := k + 3) (by omega), fence_eq h b c (k := k + 3) (by omega), release_eq h b (k := k + 3) (by omega), Option.bind_some]
  by_cases h0 : a = 0
  · simp [h0]
  · by_cases h1 : a = 1
    · simp [h1]
    · by_cases h2 : a = 2
      · simp [h2]
      · by_cases h3 : a = 3
        · simp [h3]
        · by_cases h4 : a = 4
          · simp [h4]
          · simp [h0, h1, h2, h3, h4]
/-- What a thing that was done has made of the entries. -/
def Step (t u : List E) (a b c ts : Int) : Prop :=
  if a = 0 ∨ a = 1 then 0 ≤ c ∧ c ≤ 65535 ∧ (∀ x, fnd t b = some x → x.f2 ≠ 2 ∧ x.f1 < c) ∧ ∀ tok, fnd u tok = if tok = b then some ⟨b, c, 1, 0⟩ else fnd t tok
  else if a = 2 ∨ a = 3 then (∃ x, fnd t b = some x ∧ x.f2 = 1 ∧ x.f1 = c) ∧ ∀ tok, fnd u tok = if tok = b then some ⟨b, c, 2, ts⟩ else fnd t tok
  else if a = 4 then 0 ≤ c ∧ ((∃ x, fnd t b = some x ∧ x.f2 = 2 ∧ u = t) ∨ ((∀ x, fnd t b = some x → x.f2 ≠ 2) ∧ ∀ tok, fnd u tok = if tok = b then some ⟨b, mx c (ent t b).f1, 3, 0⟩ else fnd t tok))
  else (∃ x, fnd t b = some x ∧ x.f2 ≠ 1) ∧ ∀ tok, fnd u tok = if tok = b then none else fnd t tok
theorem upd_ok {t : List E} (h : Sn t) {z : E} (hz : soundP z) (h0 : (updR t z).2 = 0) : Sn (updR t z).1 ∧ ∀ tok, fnd (updR t z).1 tok = if tok = z.f0 then some z else fnd t tok := by
  unfold updR at h0 ⊢
  by_cases c : fnd t z.f0 = none ∧ 32 ≤ t.length
  · rw [if_pos c] at h0; cases h0
  · rw [if_neg c]
    refine ⟨h.set hz ?_, fun tok => fnd_set t z tok⟩
    by_cases d : fnd t z.f0 = none
    · exact .inr (by have : ¬ 32 ≤ t.length := fun h' => c ⟨d, h'⟩; omega)
    · exact .inl d
theorem ent_sound {t : List E} (h : Sn t) (tok : Int) : 0 ≤ (ent t tok).f1 ∧ (ent t tok).f1 ≤ 65535 := by
  unfold ent
  cases hf : fnd t tok with
  | none => simp
  | some x =>
    obtain ⟨_, _, h1, h2, _⟩ := h.all x (fnd_mem t tok x hf).1
    exact ⟨h1, h2⟩
theorem did_ok {t : List E} (h : Sn t) (a b c ts : Int) (h0 : (didR t a b c ts).2 = 0) : Sn (didR t a b c ts).1 ∧ Step t (didR t a b c ts).1 a b c ts := by
  unfold didR at h0 ⊢
  unfold Step
  by_cases c1 : a = 0 ∨ a = 1
  · simp only [c1, if_true] at h0 ⊢
    unfold startR at h0 ⊢
    by_cases hz : soundP ⟨b, c, 1, 0⟩
    · rw [if_pos hz] at h0 ⊢
      cases hf : fnd t b with
      | none =>
        simp only [hf] at h0 ⊢
        obtain ⟨u1, u2⟩ := upd_ok h hz h0
        exact ⟨u1, hz.2.2.1, hz.2.2.2.1, (fun x hx => by cases hx), u2⟩
      | some x =>
        simp only [hf] at h0 ⊢
        by_cases h2 : x.f2 = 2
        · rw [if_pos h2] at h0; cases h0
        · rw [if_neg h2] at h0 ⊢
          by_cases h3 : c ≤ x.f1
          · rw [if_pos h3] at h0; cases h0
          · rw [if_neg h3] at h0 ⊢
            obtain ⟨u1, u2⟩ := upd_ok h hz h0
            exact ⟨u1, hz.2.2.1, hz.2.2.2.1, (fun y hy => by cases hy; exact ⟨h2, by omega⟩), u2⟩
    · rw [if_neg hz] at h0; cases h0
  · simp only [c1, if_false] at h0 ⊢
    by_cases c2 : a = 2 ∨ a = 3
    · simp only [c2, if_true] at h0 ⊢
      unfold finishR at h0 ⊢
      by_cases hz : soundP ⟨b, c, 2, ts⟩
      · rw [if_pos hz] at h0 ⊢
        by_cases h2 : (ent t b).f2 = 2
        · rw [if_pos h2] at h0; cases h0
        · rw [if_neg h2] at h0 ⊢
          by_cases h3 : (ent t b).f2 = 1 ∧ (ent t b).f1 = c
          · rw [if_pos h3] at h0 ⊢
            obtain ⟨u1, u2⟩ := upd_ok h hz h0
            refine ⟨u1, ?_, u2⟩
            unfold ent at h3
            cases hf : fnd t b with
            | none => rw [hf] at h3; simp at h3
            | some x => rw [hf] at h3; exact ⟨x, rfl, h3⟩
          · rw [if_neg h3] at h0; cases h0
      · rw [if_neg hz] at h0; cases h0
    · simp only [c2, if_false] at h0 ⊢
      by_cases c3 : a = 4
      · simp only [c3, if_true] at h0 ⊢
        unfold fenceR at h0 ⊢
        by_cases hz : soundP ⟨b, c, 3, 0⟩
        · rw [if_pos hz] at h0 ⊢
          by_cases h2 : (ent t b).f2 = 2
          · rw [if_pos h2]
            refine ⟨h, hz.2.2.1, .inl ?_⟩
            unfold ent at h2
            cases hf : fnd t b with
            | none => rw [hf] at h2; simp at h2
            | some x => rw [hf] at h2; exact ⟨x, rfl, h2, rfl⟩
          · rw [if_neg h2] at h0 ⊢
            have es := ent_sound h b
            have hz' : soundP ⟨b, mx c (ent t b).f1, 3, 0⟩ := by
              obtain ⟨z1, z2, z3, z4, _⟩ := hz
              refine ⟨z1, z2, ?_, ?_, .inl ⟨.inr rfl, rfl⟩⟩ <;> simp only [mx] at * <;> split <;> omega
            obtain ⟨u1, u2⟩ := upd_ok h hz' h0
            refine ⟨u1, hz.2.2.1, .inr ⟨fun x hx => ?_, u2⟩⟩
            unfold ent at h2
            rw [hx] at h2
            exact h2
        · rw [if_neg hz] at h0; cases h0
      · simp only [c3, if_false] at h0 ⊢
        unfold releaseR at h0 ⊢
        by_cases hz : 0 ≤ b ∧ b ≤ 1099511627776
        · rw [if_pos hz] at h0 ⊢
          cases hf : fnd t b with
          | none => simp only [hf] at h0; cases h0
          | some x =>
            simp only [hf] at h0 ⊢
            by_cases h1 : x.f2 = 1
            · rw [if_pos h1] at h0; cases h0
            · rw [if_neg h1]
              exact ⟨h.del b, ⟨x, rfl, h1⟩, fun tok => fnd_del t b tok h.one⟩
        · rw [if_neg hz] at h0; cases h0
theorem awake_at {k : Nat} (hk : 200 ≤ k) : godwitlaw12_awake.f k = some true := by
  have s1 : startR [] 7 1 = ([⟨7, 1, 1, 0⟩], 0) := by simp [startR, soundP, fnd, updR, setT]
  have n1 : Sn [(⟨7, 1, 1, 0⟩ : E)] := by have := (did_ok Sn.nil 0 7 1 0 (by simp [didR, s1])).1; simpa [didR, s1] using this
  have s2 : fenceR [⟨7, 1, 1, 0⟩] 7 1 = ([⟨7, 1, 3, 0⟩], 0, 0) := by simp [fenceR, soundP, ent, fnd, updR, setT, mx]
  have n2 : Sn [(⟨7, 1, 3, 0⟩ : E)] := by have := (did_ok n1 4 7 1 0 (by simp [didR, s2])).1; simpa [didR, s2] using this
  have s3 : finishR [⟨7, 1, 3, 0⟩] 7 1 9 = ([], 14) := by simp [finishR, soundP, ent, fnd]
  have s4 : startR [⟨7, 1, 3, 0⟩] 7 2 = ([⟨7, 2, 1, 0⟩], 0) := by simp [startR, soundP, fnd, updR, setT]
  have n4 : Sn [(⟨7, 2, 1, 0⟩ : E)] := by have := (did_ok n2 0 7 2 0 (by simp [didR, s4])).1; simpa [didR, s4] using this
  have s5 : finishR [⟨7, 2, 1, 0⟩] 7 2 9 = ([⟨7, 2, 2, 9⟩], 0) := by simp [finishR, soundP, ent, fnd, updR, setT]
  unfold godwitlaw12_awake.f
  rw [start_eq Sn.nil 7 1 (by omega), s1, Option.bind_some, fence_eq n1 7 1 (by omega), s2, Option.bind_some, finish_eq n2 7 1 9 (by omega), s3, Option.bind_some, start_eq n2 7 2 (by omega), s4, Option.bind_some, finish_eq n4 7 2 9 (by omega), s5, Option.bind_some, find_eq, Option.bind_some]
  simp [fv, fnd]
end Go.Proofs.Ytaolmpchenpaeaa.Pure
