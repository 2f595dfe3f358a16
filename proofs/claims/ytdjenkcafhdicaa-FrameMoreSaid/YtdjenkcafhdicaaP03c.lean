/- Frames behind frames, in plain words. -/
import Derived.Test.YtdjenkcafhdicaaQx13
import Derived.Test.YtdjenkcafhdicaaQx14
import Derived.Test.YtdjenkcafhdicaaP03
namespace Go.Proofs.Ytdjenkcafhdicaa.Pure
open Go.RowKit Go.Proofs.Ytdjenkcafhdicaa.Q Go.Proofs.YtdjenkcafhdicaaW.PrintWords Go.Proofs.YtdjenkcafhdicaaW.PrintLast Go.Proofs.Ytdjenkcafhdicaa.G
theorem readY_next {a n : Int} {y p : List Int} (h : readY a y = (p, n, 0)) : a + 6 ≤ n ∧ n ≤ a + y.length ∧ (∀ x ∈ p, x ∈ y) := by
  unfold readY at h
  by_cases c1 : y.length < 2
  · rw [if_pos c1] at h; simp at h
  rw [if_neg c1] at h
  by_cases c2 : leN (y.take 2) > 512
  · rw [if_pos c2] at h; simp at h
  rw [if_neg c2] at h
  by_cases c3 : y.length < 6 + leN (y.take 2)
  · rw [if_pos c3] at h; simp at h
  rw [if_neg c3] at h
  by_cases c4 : (leN ((y.drop 2).take 4) : Int) = sumP (payP y)
  · rw [if_pos c4] at h
    simp only [Prod.mk.injEq, and_true] at h
    obtain ⟨rfl, rfl⟩ := h
    exact ⟨by omega, by omega, fun x hx => List.mem_of_mem_take (List.mem_of_mem_drop hx)⟩
  · rw [if_neg c4] at h; simp at h
theorem readP_next {x p : List Int} {a n : Int} (h : readP x a = (p, n, 0)) : 0 ≤ a ∧ a + 6 ≤ n ∧ n ≤ x.length ∧ (∀ z ∈ p, z ∈ x) := by
  unfold readP at h
  by_cases c : a < 0 ∨ a > (x.length : Int)
  · rw [if_pos c] at h; simp at h
  rw [if_neg c] at h
  obtain ⟨h1, h2, h3⟩ := readY_next h
  have hd : (x.drop a.toNat).length = x.length - a.toNat := List.length_drop
  exact ⟨by omega, h1, by omega, fun z hz => List.mem_of_mem_drop (h3 z hz)⟩
/-- All the frames from a place on: d rounds at most. -/
def allF : Nat → List Int → Int → List (List Int) × Int × Int
  | 0, _, i => ([], i, 0)
  | d + 1, x, i => if i < (x.length : Int) then (if (readP x i).2.2 = 0 then ((readP x i).1 :: (allF d x (readP x i).2.1).1, (allF d x (readP x i).2.1).2) else ([], i, (readP x i).2.2)) else ([], i, 0)
theorem all_loop (x : List Int) (hx : Bs x) (hl : x.length ≤ 4000) : ∀ (d k : Nat) (acc : List (List Int)) (i : Int), 0 ≤ i → i ≤ (x.length : Int) → (x.length : Int) ≤ i + d → d + 10 ≤ k → acc.length + d ≤ 10000 → frame_All.l0 k x acc i = some (acc ++ (allF d x i).1, (allF d x i).2) := by
  intro d
  induction d with
  | zero =>
    intro k acc i h0 h1 h2 hk ha
    obtain ⟨k, rfl⟩ : ∃ m, k = m + 1 := ⟨k - 1, by omega⟩
    rw [frame_All.l0, if_neg (by omega)]
    simp [allF]
  | succ d ih =>
    intro k acc i h0 h1 h2 hk ha
    obtain ⟨k, rfl⟩ : ∃ m, k = m + 1 := ⟨k - 1, by omega⟩
    rw [frame_All.l0, allF]
    by_cases c : i < (x.length : Int)
    · rw [if_pos c, if_pos c]
      obtain ⟨k', hk'⟩ : ∃ m, k = m + 5 := ⟨k - 5, by omega⟩
      have hr : frame_Read.f k x i = some (readP x i) := by rw [hk']; exact read_eq k' x hx (by omega) i
      rw [hr, Option.bind_some]
      obtain ⟨⟨p, n, e⟩, hq⟩ : ∃ t, t = readP x i := ⟨_, rfl⟩
      rw [← hq]
      simp only
      by_cases he : e = 0
      · subst he
        obtain ⟨q1, q2, q3, _⟩ := readP_next hq.symm
        rw [if_pos rfl, if_pos rfl, if_pos (by omega), ih k (acc ++ [p]) n (by omega) (by omega) (by omega) (by omega) (by simp; omega)]
        simp
      · rw [if_neg he, if_neg he]
        simp
    · rw [if_neg c, if_neg c]
      simp
theorem all_eq (k : Nat) (x : List Int) (hx : Bs x) (hl : x.length ≤ 4000) : frame_All.f (k + 4010) x = some (allF 4000 x 0) := by
  unfold frame_All.f
  rw [all_loop x hx hl 4000 (k + 4010) [] 0 (by omega) (by omega) (by omega) (by omega) (by simp)]
  simp
theorem allF_more (x : List Int) : ∀ (d d' : Nat) (i : Int), 0 ≤ i → (x.length : Int) ≤ i + d → (x.length : Int) ≤ i + d' → i ≤ (x.length : Int) → allF d x i = allF d' x i := by
  intro d
  induction d with
  | zero =>
    intro d' i h0 h1 h2 h3
    cases d' with
    | zero => rfl
    | succ d' => rw [allF, allF, if_neg (by omega)]
  | succ d ih =>
    intro d' i h0 h1 h2 h3
    cases d' with
    | zero => rw [allF, allF, if_neg (by omega)]
    | succ d' =>
      rw [allF, allF]
      by_cases c : i < (x.length : Int)
      · rw [if_pos c, if_pos c]
        by_cases he : (readP x i).2.2 = 0
        · obtain ⟨⟨p, n, e⟩, hq⟩ : ∃ t, t = readP x i := ⟨_, rfl⟩
          rw [← hq] at he ⊢
          simp only at he ⊢
          subst he
          obtain ⟨q1, q2, q3, _⟩ := readP_next hq.symm
          rw [if_pos rfl, if_pos rfl, ih d' n (by omega) (by omega) (by omega) (by omega)]
        · rw [if_neg he, if_neg he]
      · rw [if_neg c, if_neg c]
/-- Whose letters they are. -/
theorem allF_bs (x : List Int) (hx : Bs x) : ∀ (d : Nat) (i : Int), (∀ p ∈ (allF d x i).1, Bs p) ∧ (allF d x i).1.length ≤ d := by
  intro d
  induction d with
  | zero => intro i; simp [allF]
  | succ d ih =>
    intro i
    rw [allF]
    split
    · split
      · rename_i c he
        obtain ⟨⟨p, n, e⟩, hq⟩ : ∃ t, t = readP x i := ⟨_, rfl⟩
        rw [← hq] at he ⊢
        simp only at he ⊢
        subst he
        obtain ⟨q1, q2, q3, q4⟩ := readP_next hq.symm
        have := ih n
        refine ⟨fun z hz => ?_, by simp; omega⟩
        rcases List.mem_cons.1 hz with rfl | hz
        · exact fun w hw => hx w (q4 w hw)
        · exact this.1 z hz
      · simp
    · simp
theorem rdL (a : List (List Int)) (i : Nat) (h : i < a.length) : rd_L1 a (i : Int) = a[i] := by
  simp [rd_L1, List.getD_eq_getElem?_getD, h]
/-- The lists are one. -/
theorem lists_loop (a : List (List Int)) (hl : a.length ≤ 10000) : ∀ (d k i : Nat), i + d = a.length → d + 1 ≤ k → godwitref03_Lists.l0 k a a (i : Int) = some true := by
  intro d
  induction d with
  | zero =>
    intro k i hi hk
    obtain ⟨k, rfl⟩ : ∃ m, k = m + 1 := ⟨k - 1, by omega⟩
    rw [godwitref03_Lists.l0, if_neg (by omega)]
  | succ d ih =>
    intro k i hi hk
    obtain ⟨k, rfl⟩ : ∃ m, k = m + 1 := ⟨k - 1, by omega⟩
    have hw : wrap64 ((i : Int) + 1) = ((i + 1 : Nat) : Int) := by unfold wrap64; omega
    rw [godwitref03_Lists.l0, if_pos (by omega), if_pos (by omega), if_pos (by omega), if_pos rfl, hw]
    exact ih k (i + 1) (by omega) (by omega)
theorem lists_eq (k : Nat) (a : List (List Int)) (hl : a.length ≤ 10000) : godwitref03_Lists.f (k + 10001) a a = some true := by
  unfold godwitref03_Lists.f
  rw [if_pos rfl]
  exact lists_loop a hl a.length _ 0 (by omega) (by omega)
end Go.Proofs.Ytdjenkcafhdicaa.Pure
