/- Frames behind frames are those of both. -/
import Derived.Test.YtdjenkcafhdicaaQx15
import Derived.Test.YtdjenkcafhdicaaP03c
namespace Go.Proofs.Ytdjenkcafhdicaa.Pure
open Go.RowKit Go.Proofs.Ytdjenkcafhdicaa.Q Go.Proofs.YtdjenkcafhdicaaW.PrintWords Go.Proofs.YtdjenkcafhdicaaW.PrintLast Go.Proofs.Ytdjenkcafhdicaa.G
theorem take_app {y r : List Int} {n : Nat} (h : n ≤ y.length) : (y ++ r).take n = y.take n := List.take_append_of_le_length h
/-- What is behind a whole frame tells nothing. -/
theorem readY_app {a n : Int} {y p : List Int} (r : List Int) (h : readY a y = (p, n, 0)) : readY a (y ++ r) = (p, n, 0) := by
  unfold readY at h
  by_cases c1 : y.length < 2
  · rw [if_pos c1] at h; simp at h
  rw [if_neg c1] at h
  by_cases c2 : leN (y.take 2) > 512
  · rw [if_pos c2] at h; simp at h
  rw [if_neg c2] at h
  by_cases c3 : y.length < 6 + leN (y.take 2)
  · rw [if_pos c3] at h; simp at h
  rw [if_neg c3] at h
  have t2 : (y ++ r).take 2 = y.take 2 := take_app (by omega)
  have t6 : ((y ++ r).drop 2).take 4 = (y.drop 2).take 4 := by
    have : ((y ++ r).take 6).drop 2 = (y.take 6).drop 2 := by rw [take_app (by omega)]
    rw [List.drop_take, List.drop_take] at this
    exact this
  have tp : payP (y ++ r) = payP y := by unfold payP; rw [t2, take_app (by omega)]
  unfold readY
  rw [if_neg (by simp; omega), t2, if_neg c2, if_neg (by simp; omega), t6, tp]
  exact h
theorem readP_app {x p : List Int} {a n : Int} (r : List Int) (h : readP x a = (p, n, 0)) : readP (x ++ r) a = (p, n, 0) := by
  obtain ⟨h0, h1, h2, _⟩ := readP_next h
  unfold readP at h ⊢
  rw [if_neg (by omega)] at h
  rw [if_neg (by simp; omega), List.drop_append_of_le_length (by omega)]
  exact readY_app r h
theorem readY_shift (a b : Int) (y : List Int) : readY (b + a) y = ((readY a y).1, (if (readY a y).2.2 = 0 then b + (readY a y).2.1 else (readY a y).2.1), (readY a y).2.2) := by
  unfold readY
  by_cases c1 : y.length < 2
  · simp [if_pos c1]
  simp only [if_neg c1]
  by_cases c2 : leN (y.take 2) > 512
  · simp [if_pos c2]
  simp only [if_neg c2]
  by_cases c3 : y.length < 6 + leN (y.take 2)
  · simp [if_pos c3]
  simp only [if_neg c3]
  by_cases c4 : (leN ((y.drop 2).take 4) : Int) = sumP (payP y)
  · simp only [if_pos c4, if_true, Prod.mk.injEq, and_true, true_and]; omega
  · simp [if_neg c4]
theorem readP_behind (x r : List Int) (j : Int) (h0 : 0 ≤ j) (h1 : j ≤ (r.length : Int)) : readP (x ++ r) (x.length + j) = ((readP r j).1, (if (readP r j).2.2 = 0 then x.length + (readP r j).2.1 else (readP r j).2.1), (readP r j).2.2) := by
  unfold readP
  rw [if_neg (by simp; omega), if_neg (by omega)]
  have e : (x ++ r).drop ((x.length : Int) + j).toNat = r.drop j.toNat := by
    rw [show ((x.length : Int) + j).toNat = x.length + j.toNat by omega, List.drop_append]
    simp [List.drop_of_length_le (show x.length ≤ x.length + j.toNat by omega)]
  rw [e]
  exact readY_shift j x.length _
theorem allF_behind (x r : List Int) : ∀ (d : Nat) (j : Int), 0 ≤ j → j ≤ (r.length : Int) → allF d (x ++ r) (x.length + j) = ((allF d r j).1, x.length + (allF d r j).2.1, (allF d r j).2.2) := by
  intro d
  induction d with
  | zero => intro j h0 h1; rfl
  | succ d ih =>
    intro j h0 h1
    rw [allF, allF, readP_behind x r j h0 h1]
    by_cases c : j < (r.length : Int)
    · rw [if_pos (by simp; omega), if_pos c]
      obtain ⟨⟨p, n, e⟩, hq⟩ : ∃ t, t = readP r j := ⟨_, rfl⟩
      rw [← hq]
      simp only
      by_cases he : e = 0
      · subst he
        obtain ⟨q1, q2, q3, _⟩ := readP_next hq.symm
        simp only [if_true]
        rw [ih n (by omega) (by omega)]
      · simp [if_neg he]
    · rw [if_neg (by simp; omega), if_neg c]
/-- All of the first, and what follows. -/
theorem allF_app (x r : List Int) : ∀ (d : Nat) (i : Int), 0 ≤ i → i ≤ (x.length : Int) → (x.length : Int) ≤ i + d → ((allF d x i).2.2 = 0 → (allF d x i).2.1 = x.length ∧ ∀ d' : Nat, (x.length + r.length : Int) ≤ i + d' → allF d' (x ++ r) i = ((allF d x i).1 ++ (allF d' r 0).1, x.length + (allF d' r 0).2.1, (allF d' r 0).2.2)) ∧ (∀ d' : Nat, d ≤ d' → (allF d x i).1.length ≤ (allF d' (x ++ r) i).1.length) := by
  intro d
  induction d with
  | zero =>
    intro i h0 h1 h2
    have e : i = x.length := by omega
    subst e
    refine ⟨fun _ => ⟨rfl, fun d' hd => ?_⟩, fun d' _ => by simp [allF]⟩
    have := allF_behind x r d' 0 (by omega) (by omega)
    rw [Int.add_zero] at this
    rw [this]
    simp [allF]
  | succ d ih =>
    intro i h0 h1 h2
    rw [allF]
    by_cases c : i < (x.length : Int)
    · rw [if_pos c]
      obtain ⟨⟨p, n, e⟩, hq⟩ : ∃ t, t = readP x i := ⟨_, rfl⟩
      rw [← hq]
      simp only
      by_cases he : e = 0
      · subst he
        obtain ⟨q1, q2, q3, _⟩ := readP_next hq.symm
        have ha := readP_app r hq.symm
        obtain ⟨i1, i2⟩ := ih n (by omega) (by omega) (by omega)
        simp only [if_true]
        refine ⟨fun h => ?_, fun d' hd => ?_⟩
        · obtain ⟨j1, j2⟩ := i1 h
          refine ⟨j1, fun d' hd => ?_⟩
          obtain ⟨d', rfl⟩ : ∃ m, d' = m + 1 := ⟨d' - 1, by omega⟩
          rw [allF, if_pos (by simp; omega), ha]
          simp only [if_true]
          rw [j2 d' (by omega)]
          rw [allF_more r (d' + 1) d' 0 (by omega) (by omega) (by omega) (by omega)]
          rfl
        · obtain ⟨d', rfl⟩ : ∃ m, d' = m + 1 := ⟨d' - 1, by omega⟩
          rw [allF, if_pos (by simp; omega), ha]
          simp only [if_true, List.length_cons]
          have := i2 d' (by omega)
          omega
      · rw [if_neg he]
        exact ⟨fun h => absurd h he, fun d' _ => by simp⟩
    · have e : i = x.length := by omega
      subst e
      rw [if_neg c]
      refine ⟨fun _ => ⟨rfl, fun d' hd => ?_⟩, fun d' _ => by simp⟩
      have := allF_behind x r d' 0 (by omega) (by omega)
      rw [Int.add_zero] at this
      rw [this]
      simp
theorem FrameMore : godwitlaw03_FrameMore.Pure := by
  intro l0 l1 ⟨_, b0⟩ ⟨_, b1⟩
  have hb0 : Bs l0 := fun x hx => wf_u8 (b0 x hx)
  have hb1 : Bs l1 := fun x hx => wf_u8 (b1 x hx)
  refine ⟨10002 + 4010, ?_⟩
  have q : godwitlaw03_FrameMore.j0 (10002 + 4010) l0 l1 true true = some true := by simp [godwitlaw03_FrameMore.j0]
  unfold godwitlaw03_FrameMore.f
  rw [awake_eq (10002 + 4004), Option.bind_some]
  by_cases c0 : (l0.length : Int) > 1000
  · rw [if_pos c0]; exact q
  rw [if_neg c0]
  by_cases c1 : (l1.length : Int) > 1000
  · rw [decide_eq_true c1]; exact q
  rw [decide_eq_false c1]
  have e0 : frame_All.f (10001 + 4010) l0 = some (allF 4000 l0 0) := all_eq _ l0 hb0 (by omega)
  have e1 : frame_All.f (10001 + 4010) l1 = some (allF 4000 l1 0) := all_eq _ l1 hb1 (by omega)
  have e2 : frame_All.f (10001 + 4010) (l0 ++ l1) = some (allF 4000 (l0 ++ l1) 0) := all_eq _ _ (hb0.app hb1) (by simp; omega)
  obtain ⟨h1, h2⟩ := allF_app l0 l1 4000 0 (by omega) (by omega) (by omega)
  have h2 := h2 4000 (by omega)
  have g0 := (allF_bs l0 hb0 4000 0).2
  have g1 := (allF_bs l1 hb1 4000 0).2
  have hn1 : 0 ≤ (allF 4000 l1 0).2.1 ∧ (allF 4000 l1 0).2.1 ≤ 4000 := by
    have : ∀ (d : Nat) (i : Int), 0 ≤ i → i ≤ (l1.length : Int) → 0 ≤ (allF d l1 i).2.1 ∧ (allF d l1 i).2.1 ≤ 4000 := by
      intro d
      induction d with
      | zero => intro i h0 h1; simp only [allF]; omega
      | succ d ih =>
        intro i h0 h1
        rw [allF]
        split
        · split
          · rename_i c he
            obtain ⟨⟨p, n, e⟩, hq⟩ : ∃ t, t = readP l1 i := ⟨_, rfl⟩
            rw [← hq] at he ⊢
            simp only at he ⊢
            subst he
            obtain ⟨q1, q2, q3, q4⟩ := readP_next hq.symm
            exact ih n (by omega) (by omega)
          · simp only; omega
        · simp only; omega
    exact this 4000 0 (by omega) (by omega)
  rw [show (10002 + 4010 : Nat) = (10001 + 4010) + 1 from rfl, godwitlaw03_FrameMore.j0]
  rw [if_neg (show ¬ (false = true) by decide), e0, Option.bind_some, e1, Option.bind_some, Option.bind_some, if_pos (by simp; omega), Option.bind_some, List.nil_append, if_pos (by omega), e2, Option.bind_some]
  by_cases he : (allF 4000 l0 0).2.2 = 0
  · obtain ⟨k1, k2⟩ := h1 he
    have k2 := k2 4000 (by omega)
    rw [if_pos he, if_pos (by omega), if_pos rfl, if_pos k1, k2, k1]
    simp only
    have hw : wrap64 ((l0.length : Int) + (allF 4000 l1 0).2.1) = l0.length + (allF 4000 l1 0).2.1 := by unfold wrap64; omega
    have e3 : godwitref03_Lists.f (10001 + 4010) ((allF 4000 l0 0).1 ++ (allF 4000 l1 0).1) ((allF 4000 l0 0).1 ++ (allF 4000 l1 0).1) = some true := lists_eq 4010 _ (by simp; omega)
    rw [if_pos hw.symm, if_pos trivial, e3, Option.bind_some]
  · rw [if_neg he, if_pos rfl]
    simp
    omega
end Go.Proofs.Ytdjenkcafhdicaa.Pure
