/- Keys stand in a row: of two just one is ahead, or they are one; what stands ahead of what stands ahead stands ahead. -/
import Derived.Test.YtodcfcfoneimiaaQx7
import Derived.Test.YtodcfcfoneimiaaM06
namespace Go.Proofs.Ytodcfcfoneimiaa.Pure
open Go.RowKit Go.Proofs.Ytodcfcfoneimiaa.Q Go.Proofs.YtodcfcfoneimiaaW.PrintWords Go.Proofs.YtodcfcfoneimiaaW.PrintLast Go.Proofs.Ytodcfcfoneimiaa.G

theorem awake_true : godwitlaw06_awake.f = some true := by rfl

theorem KeysOrder : godwitlaw06_KeysOrder.Pure := by
  intro l0 l1 l2 _ h0 _ _ h1 _ _ h2 _
  refine ⟨2, ?_⟩
  have r01 := cmpB_range l0 l1
  have a01 := cmpB_anti l0 l1
  have z01 := cmpB_zero l0 l1
  have t := fun h k => @cmpB_trans l0 l1 l2 h k
  have hw : wrap64 (- cmpB l1 l0) = - cmpB l1 l0 := by unfold wrap64; omega
  have q : godwitlaw06_KeysOrder.j0 2 l0 l1 l2 true true = some true := by simp [godwitlaw06_KeysOrder.j0]
  unfold godwitlaw06_KeysOrder.f
  rw [awake_true, Option.bind_some]
  by_cases c0 : (l0.length : Int) > 100
  · rw [if_pos c0]; exact q
  rw [if_neg c0]
  by_cases c1 : (l1.length : Int) > 100
  · rw [if_pos c1]; exact q
  rw [if_neg c1]
  by_cases c2 : (l2.length : Int) > 100
  · rw [decide_eq_true c2]; exact q
  rw [decide_eq_false c2]
  have e : ((cmpB l0 l1 == 0) != ((strOfNums l0).toList == (strOfNums l1).toList)) = false := by
    rw [toList_of, toList_of]
    by_cases z : cmpB l0 l1 = 0
    · simp [z, z01.1 z]
    · have z' : ¬ Lib.bytesOf l0 = Lib.bytesOf l1 := fun h => z (z01.2 h)
      rw [beq_eq_false_iff_ne.2 z, beq_eq_false_iff_ne.2 z']; rfl
  have s : godwitlaw06_KeysOrder.j1 1 l0 l1 l2 true false = some true := by
    have e1 : (([] : List Int) ++ l0).length < 140737488355328 := by simp; omega
    simp only [godwitlaw06_KeysOrder.j1, keys_Cmp.f, Option.bind_some, List.nil_append, List.length_nil, Nat.zero_add, cmpB_snoc]
    simp only [List.nil_append] at e1
    simp only [e1, if_true, Bool.false_eq_true, if_false]
    by_cases x : cmpB l0 l1 < 0
    · by_cases y : cmpB l1 l2 < 0
      · have := t x y
        rw [if_pos x, if_pos y, if_neg (by omega)]; rfl
      · rw [if_pos x, if_neg y]; rfl
    · rw [if_neg x]; rfl
  simp only [godwitlaw06_KeysOrder.j0, keys_Cmp.f, Option.bind_some, hw, e, Bool.false_eq_true, if_false]
  rw [if_pos (by omega), if_neg (by omega), decide_eq_false (by omega)]
  exact s
end Go.Proofs.Ytodcfcfoneimiaa.Pure
