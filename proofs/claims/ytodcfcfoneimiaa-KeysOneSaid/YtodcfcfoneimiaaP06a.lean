/- What keys.Has, keys.Empty tell, in plain words. -/
import Derived.Test.YtodcfcfoneimiaaQx9
import Derived.Test.YtodcfcfoneimiaaQx8
import Derived.Test.YtodcfcfoneimiaaQx6
import Derived.Test.YtodcfcfoneimiaaM06
namespace Go.Proofs.Ytodcfcfoneimiaa.Pure
open Go.RowKit Go.Proofs.Ytodcfcfoneimiaa.Q Go.Proofs.YtodcfcfoneimiaaW.PrintWords Go.Proofs.YtodcfcfoneimiaaW.PrintLast Go.Proofs.Ytodcfcfoneimiaa.G

theorem awake_true : godwitlaw06_awake.f = some true := by rfl
/-- lo ≤ k, and k < hi unless open. -/
def hasB (lo hi : List Int) (op : Bool) (k : List Int) : Bool := decide (0 ≤ cmpB k lo) && (op || decide (cmpB k hi < 0))
def leastB (lo : List Int) : List Int := if lo.length = 0 then [0] else lo
def emptyB (lo hi : List Int) (op : Bool) : Bool := !(op || decide (cmpB (leastB lo) hi < 0))
theorem has_eq (lo hi : List Int) (op : Bool) (k : List Int) : keys_Has.f lo hi op k = some (hasB lo hi op k) := by
  unfold keys_Has.f keys_Cmp.f hasB
  simp only [Option.bind_some, keys_end.f, keys_edge_behind.f, keys_Cmp.f]
  by_cases h : cmpB k lo ≥ 0
  · rw [if_pos h, decide_eq_true (show 0 ≤ cmpB k lo from h)]
    cases op <;> simp
  · rw [if_neg h, decide_eq_false (show ¬ 0 ≤ cmpB k lo from h)]
    rfl
theorem behind_eq (hi : List Int) (op : Bool) (k : List Int) : keys_edge_behind.f hi op k = some (op || decide (cmpB k hi < 0)) := by
  unfold keys_edge_behind.f keys_Cmp.f
  cases op <;> simp
theorem empty_eq (lo hi : List Int) (op : Bool) : keys_Empty.f lo hi op = some (emptyB lo hi op) := by
  unfold keys_Empty.f emptyB leastB
  simp only [Option.bind_some, keys_end.f, behind_eq]
  by_cases h : lo.length = 0
  · rw [if_pos (by omega), if_pos h]
  · rw [if_neg (by omega), if_neg h]
theorem hasB_iff (lo hi : List Int) (op : Bool) (k : List Int) : hasB lo hi op k = true ↔ 0 ≤ cmpB k lo ∧ (op = true ∨ cmpB k hi < 0) := by
  unfold hasB; simp
theorem emptyB_iff (lo hi : List Int) (op : Bool) : emptyB lo hi op = true ↔ op = false ∧ 0 ≤ cmpB (leastB lo) hi := by
  unfold emptyB; cases op <;> simp
theorem zero_least {a : List Int} (h : a.length ≠ 0) : cmpB [0] a ≤ 0 := by
  cases a with
  | nil => simp at h
  | cons x l =>
    unfold cmpB Lib.bytesOf
    simp only [List.map_cons, List.map_nil]
    unfold Lib.compareBytes
    by_cases z : UInt8.ofNat (Int.toNat 0) < UInt8.ofNat x.toNat
    · rw [if_pos z]; omega
    · rw [if_neg z, if_neg (by simp)]
      cases l <;> simp [Lib.compareBytes]
theorem nil_least (a : List Int) : cmpB [] a ≤ 0 := by
  cases a <;> simp [cmpB, Lib.bytesOf, Lib.compareBytes]
theorem least_le {lo a : List Int} (h : a.length ≠ 0) (k : 0 ≤ cmpB a lo) : cmpB (leastB lo) a ≤ 0 := by
  unfold leastB
  split
  · exact zero_least h
  · have := cmpB_anti a lo; omega
/-- Of an empty range none is. -/
theorem empty_none {lo hi a : List Int} {op : Bool} (e : emptyB lo hi op = true) (h : a.length ≠ 0) : hasB lo hi op a = false := by
  obtain ⟨rfl, e⟩ := (emptyB_iff _ _ _).1 e
  refine Bool.eq_false_iff.2 fun k => ?_
  obtain ⟨k1, k2⟩ := (hasB_iff _ _ _ _).1 k
  have k2 : cmpB a hi < 0 := by simpa using k2
  have := cmpB_le_lt (least_le h k1) k2
  omega
theorem short_eq (lo hi : List Int) (op : Bool) : godwitref06_Short.f lo hi op = some (decide (lo.length ≤ 100) && decide (hi.length ≤ 100)) := by
  unfold godwitref06_Short.f
  by_cases h : lo.length ≤ 100
  · rw [if_pos (by omega)]; simp [h]; omega
  · rw [if_neg (by omega)]; simp [h]
end Go.Proofs.Ytodcfcfoneimiaa.Pure
