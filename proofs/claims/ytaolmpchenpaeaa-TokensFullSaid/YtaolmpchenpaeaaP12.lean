/- tokens in plain words: what each call makes of entries that may be. -/
import Derived.Test.YtaolmpchenpaeaaQx16
import Derived.Test.YtaolmpchenpaeaaQx13
namespace Go.Proofs.Ytaolmpchenpaeaa.Pure
open Go.RowKit Go.Proofs.Ytaolmpchenpaeaa.Q Go.Proofs.YtaolmpchenpaeaaW.PrintWords Go.Proofs.YtaolmpchenpaeaaW.PrintLast Go.Proofs.Ytaolmpchenpaeaa.G

abbrev E := S33
def fnd : List E → Int → Option E
  | [], _ => none
  | x :: l, tok => if x.f0 = tok then some x else fnd l tok
def setT : List E → E → List E
  | [], x => [x]
  | y :: l, x => if y.f0 = x.f0 then x :: l else y :: setT l x
def delT : List E → Int → List E
  | [], _ => []
  | y :: l, tok => if y.f0 = tok then l else y :: delT l tok
def soundP (x : E) : Prop := 0 ≤ x.f0 ∧ x.f0 ≤ 1099511627776 ∧ 0 ≤ x.f1 ∧ x.f1 ≤ 65535 ∧ ((x.f2 = 1 ∨ x.f2 = 3) ∧ x.f3 = 0 ∨ x.f2 = 2 ∧ 1 ≤ x.f3 ∧ x.f3 ≤ 1099511627776)
instance (x : E) : Decidable (soundP x) := by unfold soundP; infer_instance
structure Sn (t : List E) : Prop where
  all : ∀ x ∈ t, soundP x
  one : (t.map (·.f0)).Nodup
  few : t.length ≤ 32

theorem fnd_mem : ∀ (t : List E) (tok : Int) (x : E), fnd t tok = some x → x ∈ t ∧ x.f0 = tok
  | y :: l, tok, x, h => by
    unfold fnd at h
    split at h
    · cases h; exact ⟨List.mem_cons_self, ‹_›⟩
    · exact ⟨List.mem_cons_of_mem _ (fnd_mem l tok x h).1, (fnd_mem l tok x h).2⟩
theorem fnd_none : ∀ (t : List E) (tok : Int), fnd t tok = none → ∀ x ∈ t, x.f0 ≠ tok
  | y :: l, tok, h, x, hx => by
    unfold fnd at h
    split at h
    · cases h
    · rcases List.mem_cons.1 hx with rfl | hx
      · assumption
      · exact fnd_none l tok h x hx
theorem idx_none (t : List E) (tok : Int) (h : fnd t tok = none) : idxF (fun x => x.f0 == tok) t = -1 :=
  idxF_none _ _ (fun j hj => by simpa using fnd_none t tok h _ (List.getElem_mem hj))
/-- Where it is found: the place, the entry, the list with another one there, the list without it. -/
theorem idx_some : ∀ (t : List E) (tok : Int) (x : E), fnd t tok = some x → ∃ i : Nat, ∃ hi : i < t.length, t[i] = x ∧ (∀ j (hj : j < i), (t[j]'(by omega)).f0 ≠ tok) ∧ (∀ z : E, z.f0 = tok → t.set i z = setT t z) ∧ t.eraseIdx i = delT t tok
  | y :: l, tok, x, h => by
    unfold fnd at h
    split at h
    · rename_i e
      cases h
      exact ⟨0, by simp, rfl, fun j hj => by omega, fun z hz => by simp [setT, e, hz], by simp [delT, e]⟩
    · rename_i e
      obtain ⟨i, hi, h1, h2, h3, h4⟩ := idx_some l tok x h
      refine ⟨i + 1, by simp; omega, by simpa using h1, fun j hj => ?_, fun z hz => ?_, ?_⟩
      · cases j with
        | zero => exact e
        | succ j => simpa using h2 j (by omega)
      · have : ¬ y.f0 = z.f0 := by rw [hz]; exact e
        simp [setT, this, h3 z hz]
      · simp [delT, e, h4]
theorem idx_is (t : List E) (tok : Int) (x : E) (h : fnd t tok = some x) : ∃ i : Nat, ∃ hi : i < t.length, idxF (fun x => x.f0 == tok) t = i ∧ t[i] = x ∧ (∀ z : E, z.f0 = tok → t.set i z = setT t z) ∧ t.eraseIdx i = delT t tok := by
  obtain ⟨i, hi, h1, h2, h3, h4⟩ := idx_some t tok x h
  refine ⟨i, hi, idxF_found _ _ i hi (by simpa [h1] using (fnd_mem t tok x h).2) (fun j hj => by simpa using h2 j hj), h1, h3, h4⟩
theorem set_none : ∀ (t : List E) (z : E), fnd t z.f0 = none → t ++ [z] = setT t z
  | [], z, _ => rfl
  | y :: l, z, h => by
    unfold fnd at h
    split at h
    · cases h
    · simp [setT, *, set_none l z]
theorem fnd_set : ∀ (t : List E) (z : E) (tok : Int), fnd (setT t z) tok = if tok = z.f0 then some z else fnd t tok
  | [], z, tok => by
    by_cases h : tok = z.f0
    · simp [setT, fnd, h]
    · simp [setT, fnd, h, Ne.symm h]
  | y :: l, z, tok => by
    by_cases e : y.f0 = z.f0
    · by_cases h : tok = z.f0
      · simp [setT, e, fnd, h]
      · simp [setT, e, fnd, h, Ne.symm h]
    · by_cases h : y.f0 = tok
      · have : ¬ tok = z.f0 := fun h' => e (h.trans h')
        simp [setT, fnd, h, this]
      · simp only [setT, e, if_false, fnd, h]
        exact fnd_set l z tok
theorem fnd_del : ∀ (t : List E) (tok tok' : Int), (t.map (·.f0)).Nodup → fnd (delT t tok) tok' = if tok' = tok then none else fnd t tok'
  | [], tok, tok', _ => by simp [delT, fnd]
  | y :: l, tok, tok', hn => by
    have hn' := List.nodup_cons.1 (by simpa using hn : (y.f0 :: l.map (·.f0)).Nodup)
    by_cases e : y.f0 = tok
    · by_cases h : tok' = tok
      · subst h
        have : fnd l tok' = none := by
          cases hf : fnd l tok' with
          | none => rfl
          | some x =>
            obtain ⟨h1, h2⟩ := fnd_mem l tok' x hf
            exact absurd (List.mem_map.2 ⟨x, h1, h2.trans e.symm⟩) hn'.1
        simp [delT, e, this]
      · have : ¬ tok = tok' := fun h' => h h'.symm
        simp [delT, e, fnd, h, this]
    · by_cases h : y.f0 = tok'
      · have : ¬ tok' = tok := fun h' => e (h.trans h')
        simp [delT, fnd, h, this]
      · simp only [delT, e, if_false, fnd, h]
        exact fnd_del l tok tok' hn'.2
theorem mem_set : ∀ (t : List E) (z x : E), x ∈ setT t z → x = z ∨ x ∈ t
  | [], z, x, h => .inl (by simpa [setT] using h)
  | y :: l, z, x, h => by
    unfold setT at h
    split at h
    · rcases List.mem_cons.1 h with h | h
      · exact .inl h
      · exact .inr (List.mem_cons_of_mem _ h)
    · rcases List.mem_cons.1 h with h | h
      · exact .inr (h ▸ List.mem_cons_self)
      · exact (mem_set l z x h).imp_right (List.mem_cons_of_mem _)
theorem keys_set : ∀ (t : List E) (z : E), (setT t z).map (·.f0) = if fnd t z.f0 = none then t.map (·.f0) ++ [z.f0] else t.map (·.f0)
  | [], z => by simp [setT, fnd]
  | y :: l, z => by
    by_cases e : y.f0 = z.f0
    · simp [setT, e, fnd]
    · simp only [setT, e, if_false, fnd, List.map_cons, keys_set l z]
      split <;> simp
theorem len_set (t : List E) (z : E) : (setT t z).length = if fnd t z.f0 = none then t.length + 1 else t.length := by
  have := congrArg List.length (keys_set t z)
  rw [List.length_map] at this
  rw [this]
  split <;> simp
theorem mem_del : ∀ (t : List E) (tok : Int) (x : E), x ∈ delT t tok → x ∈ t
  | y :: l, tok, x, h => by
    unfold delT at h
    split at h
    · exact List.mem_cons_of_mem _ h
    · rcases List.mem_cons.1 h with h | h
      · exact h ▸ List.mem_cons_self
      · exact List.mem_cons_of_mem _ (mem_del l tok x h)
theorem del_sub : ∀ (t : List E) (tok : Int), (delT t tok).Sublist t
  | [], _ => List.Sublist.refl _
  | y :: l, tok => by
    unfold delT
    split
    · exact List.sublist_cons_self _ _
    · exact List.Sublist.cons_cons _ (del_sub l tok)
theorem Sn.set {t : List E} (h : Sn t) {z : E} (hz : soundP z) (hf : fnd t z.f0 ≠ none ∨ t.length < 32) : Sn (setT t z) := by
  refine ⟨fun x hx => ?_, ?_, ?_⟩
  · rcases mem_set t z x hx with rfl | hx
    · exact hz
    · exact h.all x hx
  · rw [keys_set]
    split
    · rename_i hn
      rw [List.nodup_append]
      refine ⟨h.one, by simp, fun a ha b hb => ?_⟩
      obtain ⟨x, hx, rfl⟩ := List.mem_map.1 ha
      rw [List.mem_singleton.1 hb]
      exact fnd_none t _ hn x hx
    · exact h.one
  · have := h.few
    rw [len_set]
    split
    · rename_i hn
      rcases hf with hf | hf
      · exact absurd hn hf
      · omega
    · exact this
theorem Sn.del {t : List E} (h : Sn t) (tok : Int) : Sn (delT t tok) :=
  ⟨fun x hx => h.all x (mem_del t tok x hx), List.Nodup.sublist (List.Sublist.map _ (del_sub t tok)) h.one, Nat.le_trans (List.Sublist.length_le (del_sub t tok)) h.few⟩
theorem Sn.nil : Sn [] := ⟨by simp, by simp, by simp⟩

-- the printed functions
theorem at_eq (t : List E) (tok : Int) : tokens_Table_at.f t tok = some (idxF (fun x => x.f0 == tok) t) := rfl
def fv : Option E → Int × Int × Int × Int × Bool
  | none => (0, 0, 0, 0, false)
  | some x => (x.f0, x.f1, x.f2, x.f3, true)
theorem find_eq (t : List E) (tok : Int) : tokens_Find.f t tok = some (fv (fnd t tok)) := by
  unfold tokens_Find.f
  rw [at_eq, Option.bind_some]
  cases h : fnd t tok with
  | none => rw [idx_none t tok h]; rfl
  | some x =>
    obtain ⟨i, hi, e, hx, _⟩ := idx_is t tok x h
    rw [e, if_neg (by omega), if_pos (by omega), if_pos (by omega)]
    have : rd_T33 t (i : Int) = x := by simp [rd_T33, List.getD_eq_getElem?_getD, hi, hx]
    rw [this]
    rfl
theorem within_eq (a b c : Int) : tokens_within.f a b c = some (decide (b ≤ a ∧ a ≤ c)) := by
  unfold tokens_within.f
  by_cases h : a ≥ b
  · rw [if_pos h]; simp [h]
  · rw [if_neg h, decide_eq_false (fun h' => h h'.1)]
theorem sound_eq (k : Nat) (a b c d : Int) : tokens_Entry_sound.f (k + 2) a b c d = some (decide (soundP ⟨a, b, c, d⟩)) := by
  unfold tokens_Entry_sound.f
  simp only [within_eq, Option.bind_some, tokens_Entry_sound.j0, tokens_Entry_sound.j1]
  by_cases h1 : 0 ≤ a ∧ a ≤ 1099511627776
  · by_cases h2 : 0 ≤ b ∧ b ≤ 65535
    · unfold soundP
      by_cases h3 : c = 1
      · subst h3; simp [h1, h2]; rfl
      · by_cases h4 : c = 3
        · subst h4; simp [h1, h2]; rfl
        · by_cases h5 : c = 2
          · subst h5; simp [h1, h2]
          · simp [h1, h2, h3, h4, h5]
    · rw [decide_eq_false (p := soundP _) (fun h => h2 ⟨h.2.2.1, h.2.2.2.1⟩), decide_eq_false h2, decide_eq_true h1]
      rfl
  · rw [decide_eq_false (p := soundP _) (fun h => h1 ⟨h.1, h.2.1⟩), decide_eq_false h1]
    rfl
theorem sane_l {t : List E} (h : Sn t) : ∀ (d i k : Nat), i + d = t.length → 3 * d + 4 ≤ k → tokens_Sane.l0 k t (t.length : Int) (i : Int) t = some true
  | 0, i, k, e, hk => by
    obtain ⟨k, rfl⟩ : ∃ m, k = m + 1 := ⟨k - 1, by omega⟩
    simp only [tokens_Sane.l0]
    rw [if_neg (by omega), decide_eq_true (by have := h.few; omega)]
  | d + 1, i, k, e, hk => by
    obtain ⟨k, rfl⟩ : ∃ m, k = m + 4 := ⟨k - 4, by omega⟩
    have hi : i < t.length := by omega
    have hr : rd_T33 t (i : Int) = t[i] := by simp [rd_T33, List.getD_eq_getElem?_getD, hi]
    have hs : soundP t[i] := h.all _ (List.getElem_mem hi)
    have hp : idxF (fun x => x.f0 == t[i].f0) t = i := by
      refine idxF_found _ _ i hi (by simp) (fun j hj => ?_)
      have := (List.pairwise_iff_getElem.1 h.one) j i (by simp; omega) (by simp; omega) hj
      simpa using this
    have hw : wrap64 ((i : Int) + 1) = ((i + 1 : Nat) : Int) := by have := h.few; unfold wrap64; omega
    show tokens_Sane.l0 (k + 3 + 1) t (t.length : Int) (i : Int) t = some true
    simp only [tokens_Sane.l0]
    rw [if_pos (by omega), if_pos (by omega), if_pos (by omega), hr]
    rw [show k + 3 = (k + 1) + 2 from rfl, sound_eq]
    simp only [Option.bind_some]
    rw [if_pos (by simpa using hs), at_eq, Option.bind_some, hp]
    simp only [tokens_Sane.j1]
    rw [if_neg (by simp), hw]
    exact sane_l h d (i + 1) (k + 2) (by omega) (by omega)
theorem sane_eq {t : List E} (h : Sn t) {k : Nat} (hk : 104 ≤ k) : tokens_Sane.f k t = some true := sane_l h t.length 0 k (by omega) (by have := h.few; omega)
end Go.Proofs.Ytaolmpchenpaeaa.Pure
