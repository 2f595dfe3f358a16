/- One payload is one frame, and a frame one payload. -/
import Derived.Test.YtdjenkcafhdicaaQx12
import Derived.Test.YtdjenkcafhdicaaP03
namespace Go.Proofs.Ytdjenkcafhdicaa.Pure
open Go.RowKit Go.Proofs.Ytdjenkcafhdicaa.Q Go.Proofs.YtdjenkcafhdicaaW.PrintWords Go.Proofs.YtdjenkcafhdicaaW.PrintLast Go.Proofs.Ytdjenkcafhdicaa.G
theorem putL_bs (p : List Int) (h : Bs p) : Bs (putL [] p) := (((Bs.app (a := []) (fun x hx => by simp at hx) (Bs_enc2 _)).app (Bs_enc4 _)).app h)
theorem putL_len (p : List Int) : (putL [] p).length = 6 + p.length := by simp [putL, enc2, enc4]; omega
theorem putL_inj {p q : List Int} (hp : p.length ≤ 512) (hq : q.length ≤ 512) (h1 : Bs p) (h2 : Bs q) (h : putL [] p = putL [] q) : p = q := by
  have a := read_put p [] hp h1 0
  have b := read_put q [] hq h2 0
  rw [h, b] at a
  exact (congrArg (·.1) a).symm
/-- What was read is the frame of its payload. -/
theorem read_back {a n : Int} {y p : List Int} (hy : Bs y) (h : readY a y = (p, n, 0)) : putL [] p = y.take (6 + p.length) ∧ n = a + 6 + p.length ∧ p.length ≤ 512 ∧ 6 + p.length ≤ y.length ∧ Bs p := by
  unfold readY at h
  by_cases c1 : y.length < 2
  · rw [if_pos c1] at h; simp at h
  rw [if_neg c1] at h
  by_cases c2 : leN (y.take 2) > 512
  · rw [if_pos c2] at h; simp at h
  rw [if_neg c2] at h
  by_cases c3 : y.length < 6 + leN (y.take 2)
  · rw [if_pos c3] at h; simp at h
  rw [if_neg c3] at h
  by_cases c4 : (leN ((y.drop 2).take 4) : Int) = sumP (payP y)
  · rw [if_pos c4] at h
    simp only [Prod.mk.injEq, and_true] at h
    obtain ⟨rfl, rfl⟩ := h
    have el : (payP y).length = leN (y.take 2) := by simp only [payP, List.length_drop, List.length_take]; omega
    refine ⟨?_, by rw [el], by omega, by omega, (hy.take _).drop _⟩
    unfold putL
    rw [el, List.nil_append, enc2_of (by simp; omega) (hy.take 2), ← c4, enc4_of (by simp; omega) ((hy.drop 2).take 4)]
    unfold payP
    have e2 : (y.take (6 + leN (y.take 2))).drop 6 = (y.drop 6).take (leN (y.take 2)) := by rw [List.drop_take]; congr 1; omega
    have e6 : y.take 2 ++ (y.drop 2).take 4 = y.take 6 := by rw [← List.take_add]
    rw [e2, e6, ← List.take_add]
  · rw [if_neg c4] at h; simp at h
/-- What was not read tells nothing. -/
theorem read_nothing {x p : List Int} {a n e : Int} (h : readP x a = (p, n, e)) (he : e ≠ 0) : p = [] ∧ n = 0 := by
  unfold readP readY at h
  split at h
  · simp only [Prod.mk.injEq] at h; exact ⟨h.1.symm, h.2.1.symm⟩
  split at h
  · simp only [Prod.mk.injEq] at h; exact ⟨h.1.symm, h.2.1.symm⟩
  split at h
  · simp only [Prod.mk.injEq] at h; exact ⟨h.1.symm, h.2.1.symm⟩
  split at h
  · simp only [Prod.mk.injEq] at h; exact ⟨h.1.symm, h.2.1.symm⟩
  split at h
  · simp only [Prod.mk.injEq] at h; exact absurd h.2.2.symm he
  · simp only [Prod.mk.injEq] at h; exact ⟨h.1.symm, h.2.1.symm⟩
theorem FrameOne : godwitlaw03_FrameOne.Pure := by
  intro l0 a1 l2 l3 ⟨_, b0⟩ w1 ⟨_, b2⟩ ⟨_, b3⟩
  have hb0 : Bs l0 := fun x hx => wf_u8 (b0 x hx)
  have hb2 : Bs l2 := fun x hx => wf_u8 (b2 x hx)
  have hb3 : Bs l3 := fun x hx => wf_u8 (b3 x hx)
  have ha := wf_i64 w1
  refine ⟨12, ?_⟩
  have q : godwitlaw03_FrameOne.j0 12 l0 a1 l2 l3 true true = some true := by simp [godwitlaw03_FrameOne.j0]
  unfold godwitlaw03_FrameOne.f
  rw [awake_eq 6, Option.bind_some]
  by_cases c0 : (l0.length : Int) > 2000
  · rw [if_pos c0]; exact q
  rw [if_neg c0]
  by_cases c2 : (l2.length : Int) > 512
  · rw [if_pos c2]; exact q
  rw [if_neg c2]
  by_cases c3 : (l3.length : Int) > 512
  · rw [decide_eq_true c3]; exact q
  rw [decide_eq_false c3]
  have p2 : putP [] l2 = (putL [] l2, 0) := if_neg c2
  have p3 : putP [] l3 = (putL [] l3, 0) := if_neg c3
  have n2 := putL_len l2
  have hne : (((strOfNums (putL [] l2)).toList == (strOfNums (putL [] l3)).toList) != ((strOfNums l2).toList == (strOfNums l3).toList)) = false := by
    by_cases e : l2 = l3
    · subst e; simp
    · have e1 : ¬ (strOfNums l2).toList = (strOfNums l3).toList := fun h => e ((str_inj hb2 hb3).1 h)
      have e2 : ¬ (strOfNums (putL [] l2)).toList = (strOfNums (putL [] l3)).toList := fun h => e (putL_inj (by omega) (by omega) hb2 hb3 ((str_inj (putL_bs _ hb2) (putL_bs _ hb3)).1 h))
      rw [beq_eq_false_iff_ne.2 e1, beq_eq_false_iff_ne.2 e2]; rfl
  rw [godwitlaw03_FrameOne.j0]
  rw [if_neg (show ¬ (false = true) by decide), put_eq 5 [] l2 (by simp), Option.bind_some, put_eq 5 [] l3 (by simp), Option.bind_some, p2, p3]
  simp only [if_true]
  rw [hne, if_neg (show ¬ (false = true) by decide), decide_eq_false (show ¬ (((putL [] l2).length : Int) < 6) by omega)]
  rw [godwitlaw03_FrameOne.j1]
  rw [if_neg (show ¬ (false = true) by decide), read_eq 5 l0 hb0 (by omega) a1, Option.bind_some]
  obtain ⟨⟨p, n, e⟩, hr⟩ : ∃ t, t = readP l0 a1 := ⟨_, rfl⟩
  rw [← hr]
  simp only
  by_cases he : e = 0
  · subst he
    have hin : ¬ (a1 < 0 ∨ a1 > (l0.length : Int)) := by
      intro hc
      unfold readP at hr
      rw [if_pos hc] at hr
      simp at hr
    have hr' : readY a1 (l0.drop a1.toNat) = (p, n, 0) := by
      unfold readP at hr
      rw [if_neg hin] at hr
      exact hr.symm
    obtain ⟨k1, k2, k3, k4, k5⟩ := read_back (hb0.drop _) hr'
    have hpp : putP [] p = (putL [] p, 0) := if_neg (by omega)
    have hd : (l0.drop a1.toNat).length = l0.length - a1.toNat := List.length_drop
    have hcut : (l0.take n.toNat).drop a1.toNat = putL [] p := by
      rw [k1, List.drop_take]; congr 1; omega
    have hlen : frame_Len.f p = some (6 + (p.length : Int)) := by
      unfold frame_Len.f
      rw [if_neg (by omega)]
      congr 1
      unfold wrap64; omega
    have hw : wrap64 (n - a1) = 6 + p.length := by unfold wrap64; omega
    rw [if_pos rfl, put_eq 4 [] p (by simp), Option.bind_some, hpp]
    simp only [if_true]
    rw [if_pos (by omega), if_pos (by omega), if_pos (by omega), if_pos (by omega), hcut, if_pos rfl, hlen, Option.bind_some, hw]
    simp
  · obtain ⟨rfl, rfl⟩ := read_nothing hr.symm he
    rw [if_neg he]
    simp
end Go.Proofs.Ytdjenkcafhdicaa.Pure
