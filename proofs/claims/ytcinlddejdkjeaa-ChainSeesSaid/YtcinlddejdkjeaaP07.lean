/- chain in plain words: what each call makes of versions that may be. -/
import Derived.Test.YtcinlddejdkjeaaQx12
import Derived.Test.YtcinlddejdkjeaaQx17
import Derived.Test.YtcinlddejdkjeaaQx23
import Derived.Test.YtcinlddejdkjeaaQx8
import Derived.Test.YtcinlddejdkjeaaQx11
import Derived.Test.YtcinlddejdkjeaaQx15
import Derived.Test.YtcinlddejdkjeaaQx9
import Derived.Test.YtcinlddejdkjeaaQx14
import Derived.Test.YtcinlddejdkjeaaG07f
namespace Go.Proofs.Ytcinlddejdkjeaa.Pure
open Go.RowKit Go.Proofs.Ytcinlddejdkjeaa.Q Go.Proofs.YtcinlddejdkjeaaW.PrintWords Go.Proofs.YtcinlddejdkjeaaW.PrintLast Go.Proofs.Ytcinlddejdkjeaa.G

abbrev V := S37
abbrev V' := S46
def soundP (x : V) : Prop := 1 ≤ x.f0 ∧ x.f0 ≤ 1099511627776 ∧ x.f1.length ≤ 32 ∧ (x.f2 = true → x.f1.length = 0)
instance (x : V) : Decidable (soundP x) := by unfold soundP; infer_instance
structure Sn (t : List V) : Prop where
  all : ∀ x ∈ t, soundP x
  up : t.Pairwise (fun x y => x.f0 < y.f0)
  few : t.length ≤ 60
theorem rdV (t : List V) (i : Nat) (h : i < t.length) : rd_T37 t (i : Int) = t[i] := by simp [rd_T37, List.getD_eq_getElem?_getD, h]
theorem rdV' (t : List V') (i : Nat) (h : i < t.length) : rd_T46 t (i : Int) = t[i] := by simp [rd_T46, List.getD_eq_getElem?_getD, h]
theorem wrap_succ {i n : Nat} (h : i < n) (hn : n ≤ 1000) : wrap64 ((i : Int) + 1) = ((i + 1 : Nat) : Int) := by unfold wrap64; omega
theorem sound_eq (x : V) : chain_Ver_sound.f x.f0 x.f1 x.f2 = some (decide (soundP x)) := by
  unfold chain_Ver_sound.f
  by_cases hz : soundP x
  · have hz' := hz
    obtain ⟨h1, h2, h3, h4⟩ := hz'
    rw [decide_eq_true hz, if_pos h1, if_pos h2, if_pos (by omega)]
    by_cases h5 : x.f2 = true
    · rw [if_pos h5, h4 h5]; rfl
    · rw [if_neg h5]; rfl
  · rw [decide_eq_false hz]
    by_cases h1 : x.f0 ≥ 1
    · rw [if_pos h1]
      by_cases h2 : x.f0 ≤ 1099511627776
      · rw [if_pos h2]
        by_cases h3 : (x.f1.length : Int) ≤ 32
        · rw [if_pos h3]
          by_cases h5 : x.f2 = true
          · have h6 : x.f1.length ≠ 0 := fun h0 => hz ⟨h1, h2, by omega, fun _ => h0⟩
            rw [if_pos h5, decide_eq_true (by omega)]; rfl
          · exact absurd ⟨h1, h2, by omega, fun h => absurd h h5⟩ hz
        · rw [if_neg h3]
      · rw [if_neg h2]
    · rw [if_neg h1]
theorem sane_l {t : List V} (h : Sn t) : ∀ (d i k : Nat) (last : Int), i + d = t.length → (∀ j (hj : j < t.length), i ≤ j → last < t[j].f0) → 2 * d + 2 ≤ k → chain_Sane.l0 k last t (t.length : Int) (i : Int) = some true
  | 0, i, k, last, e, hl, hk => by
    obtain ⟨k, rfl⟩ : ∃ m, k = m + 1 := ⟨k - 1, by omega⟩
    simp only [chain_Sane.l0]
    rw [if_neg (by omega)]
  | d + 1, i, k, last, e, hl, hk => by
    obtain ⟨k, rfl⟩ : ∃ m, k = m + 2 := ⟨k - 2, by omega⟩
    have hi : i < t.length := by omega
    have hs := h.all t[i] (List.getElem_mem hi)
    have hlt := hl i hi (Nat.le_refl _)
    have few := h.few
    show chain_Sane.l0 (k + 1 + 1) last t (t.length : Int) (i : Int) = some true
    simp only [chain_Sane.l0]
    rw [if_pos (by omega), if_pos (by omega), if_pos (by omega), rdV t i hi, sound_eq, decide_eq_true hs, Option.bind_some, if_pos rfl]
    simp only [chain_Sane.j1]
    rw [if_neg (by simp; omega), wrap_succ hi (by omega)]
    exact sane_l h d (i + 1) k _ (by omega) (fun j hj hij => (List.pairwise_iff_getElem.1 h.up) i j hi hj (by omega)) (by omega)
theorem sane_eq {t : List V} (h : Sn t) {k : Nat} (hk : 130 ≤ k) : chain_Sane.f k t = some true := by
  unfold chain_Sane.f
  exact sane_l h t.length 0 k 0 (by omega) (fun j hj _ => by have := (h.all t[j] (List.getElem_mem hj)).1; omega) (by have := h.few; omega)
theorem clone_eq {t : List V} (h : t.length ≤ 60) : chain_Ver.f t = some t := by unfold chain_Ver.f; rw [if_pos (by omega)]
def lastT (t : List V) : Int := match t.getLast? with | none => 0 | some x => x.f0
theorem lastT_snoc (t : List V) (x : V) : lastT (t ++ [x]) = x.f0 := by simp [lastT]
theorem last_eq {t : List V} (h : t.length ≤ 60) : chain_Last.f t = some (lastT t) := by
  unfold chain_Last.f
  rcases List.eq_nil_or_concat t with rfl | ⟨l, x, rfl⟩
  · rfl
  · have hw : wrap64 (((l.concat x).length : Int) - 1) = (l.length : Int) := by simp at h ⊢; unfold wrap64; omega
    rw [if_neg (by simp; omega), hw, if_pos (by omega), if_pos (by simp; omega), rdV _ _ (by simp)]
    simp [lastT_snoc]
def pushR (t : List V) (x : V) : List V × Int := if soundP x then if x.f0 ≤ lastT t then ([], 7) else (t ++ [x], 0) else ([], 1)
theorem push_eq {t : List V} (h : Sn t) (x : V) {k : Nat} (hk : 130 ≤ k) : chain_Push.f k t x.f0 x.f1 x.f2 = some (pushR t x) := by
  obtain ⟨k, rfl⟩ : ∃ m, k = m + 1 := ⟨k - 1, by omega⟩
  have few := h.few
  unfold chain_Push.f pushR
  rw [sane_eq h hk, Option.bind_some, if_pos rfl, sound_eq, Option.bind_some]
  simp only [chain_Push.j0]
  by_cases hz : soundP x
  · rw [decide_eq_true hz, if_neg (by simp), if_pos hz, last_eq few, Option.bind_some]
    by_cases hl : x.f0 ≤ lastT t
    · rw [if_pos hl, if_pos hl]
    · rw [if_neg hl, if_neg hl, clone_eq few, Option.bind_some, Option.bind_some, if_pos (by simp; omega)]
  · rw [decide_eq_false hz, if_pos (by simp), if_neg hz]
theorem Sn.nil : Sn [] := ⟨by simp, by simp, by simp⟩
theorem lastT_ge {t : List V} (h : t.Pairwise (fun x y => x.f0 < y.f0)) : ∀ x ∈ t, x.f0 ≤ lastT t := by
  intro x hx
  rcases List.eq_nil_or_concat t with rfl | ⟨l, y, rfl⟩
  · cases hx
  · rw [List.concat_eq_append] at h hx ⊢
    rw [lastT_snoc]
    rcases List.mem_append.1 hx with hx | hx
    · exact Int.le_of_lt ((List.pairwise_append.1 h).2.2 x hx y (by simp))
    · rw [List.mem_singleton.1 hx]; exact Int.le_refl _
theorem Sn.push {t : List V} (h : Sn t) {x : V} (hx : soundP x) (hl : ¬ x.f0 ≤ lastT t) (hn : t.length < 60) : Sn (t ++ [x]) := by
  refine ⟨fun y hy => ?_, List.pairwise_append.2 ⟨h.up, by simp, fun y hy z hz => ?_⟩, by simp; omega⟩
  · rcases List.mem_append.1 hy with hy | hy
    · exact h.all y hy
    · rw [List.mem_singleton.1 hy]; exact hx
  · rw [List.mem_singleton.1 hz]; have := lastT_ge h.up y hy; omega
theorem Sn.sub {t u : List V} (h : Sn t) (hs : u.Sublist t) : Sn u := ⟨fun x hx => h.all x (hs.mem hx), h.up.sublist hs, Nat.le_trans hs.length_le h.few⟩

/-! What is seen, and what came later. -/
theorem split_at {t : List V} (h : t.Pairwise (fun x y => x.f0 < y.f0)) (s : Int) : ∃ a b, t = a ++ b ∧ (∀ x ∈ a, x.f0 ≤ s) ∧ ∀ x ∈ b, s < x.f0 := by
  induction t with
  | nil => exact ⟨[], [], rfl, by simp, by simp⟩
  | cons x t ih =>
    obtain ⟨hx, ht⟩ := List.pairwise_cons.1 h
    by_cases hs : x.f0 ≤ s
    · obtain ⟨a, b, rfl, ha, hb⟩ := ih ht
      refine ⟨x :: a, b, rfl, fun y hy => ?_, hb⟩
      rcases List.mem_cons.1 hy with rfl | hy
      · exact hs
      · exact ha y hy
    · refine ⟨[], x :: t, rfl, by simp, fun y hy => ?_⟩
      rcases List.mem_cons.1 hy with rfl | hy
      · omega
      · have := hx y hy; omega
theorem place_split {a b : List V} {s : Int} (ha : ∀ x ∈ a, x.f0 ≤ s) (hb : ∀ x ∈ b, s < x.f0) : placeL (a ++ b) s = (a.length : Int) - 1 := by
  unfold placeL
  rcases Nat.eq_zero_or_pos a.length with h | h
  · obtain rfl := List.length_eq_zero_iff.1 h
    rw [lastF_none]
    · rfl
    · intro j hj
      have := hb _ (List.getElem_mem (by simpa using hj))
      simpa using this
  · rw [lastF_found _ _ (a.length - 1) (by simp; omega)]
    · omega
    · rw [List.getElem_append_left (by omega)]
      exact decide_eq_true (ha _ (List.getElem_mem _))
    · intro j hj hlt
      rw [List.getElem_append_right (by omega)]
      have := hb _ (List.getElem_mem (l := b) (n := j - a.length) (by simp at hj; omega))
      simpa using this
theorem since_split {a b : List V} {s : Int} (ha : ∀ x ∈ a, x.f0 ≤ s) (hb : ∀ x ∈ b, s < x.f0) : sinceL (a ++ b) s = b := by
  unfold sinceL
  rw [List.filter_append, List.filter_eq_nil_iff.2 (fun x hx => by have := ha x hx; simp [late, this]), List.filter_eq_self.2 (fun x hx => by have := hb x hx; simp [late, this]), List.nil_append]
theorem since_eq {t : List V} (h : t.length ≤ 60) (s : Int) : chain_Since.f t s = some (sinceL t s) := by unfold chain_Since.f; rw [if_pos (by omega)]
theorem at_eq {a b : List V} {s : Int} (ha : ∀ x ∈ a, x.f0 ≤ s) (hb : ∀ x ∈ b, s < x.f0) : chain_At.f (a ++ b) s = some (match a.getLast? with | none => (0, [], false, false) | some x => (x.f0, x.f1, x.f2, true)) := by
  unfold chain_At.f chain_place.f
  rw [Option.bind_some, place_split ha hb]
  rcases List.eq_nil_or_concat a with rfl | ⟨l, x, rfl⟩
  · simp
  · rw [List.concat_eq_append]
    have e : (((l ++ [x]).length : Int) - 1) = (l.length : Int) := by simp
    rw [e, if_neg (by omega), if_pos (by omega), if_pos (by simp; omega), rdV _ _ (by simp)]
    simp
end Go.Proofs.Ytcinlddejdkjeaa.Pure
