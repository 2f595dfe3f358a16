-- written by a turned copy of the kit's printer (wip/tools/patch_print.py over print.py); contracts of given functions are this session's own
import Derived.Test.YtfldileaolomlaaQx0
import Derived.Test.YtfldileaolomlaaG02b
namespace Go.Proofs.Ytfldileaolomlaa.Q
open Go.RowKit Go.Proofs.YtfldileaolomlaaW.PrintWords Go.Proofs.YtfldileaolomlaaW.PrintLast Go.Proofs.YtfldileaolomlaaW.PrintMore Go.Proofs.Ytfldileaolomlaa.G
attribute [local go_sem] max2_int min2_int max_two min_two max_three min_three max_four min_four   -- for this text's walks alone
set_option linter.unusedVariables false
set_option linter.unusedSimpArgs false

/-! ### godwitlaw02_CrcEach: function 7 -/
def godwitlaw02_CrcEach.f (a0 : Int) (a1 : Int) : Option (Bool) := if 0 ≤ a0 ∧ a0 < 256 ∧ 0 ≤ a1 ∧ a1 < 256 then some true else none
set_option maxHeartbeats 8000000 in
set_option maxRecDepth 100000 in
theorem godwitlaw02_CrcEach.calls (a0 : Int) (a1 : Int) (r : Bool) (w : World) (h : godwitlaw02_CrcEach.f a0 a1 = some r) :
    Calls Try.prog 7 #[.int .u8 a0, .int .u8 a1] w fun e w' => e = .returned (.bool r) ∧ Below w.heap.size w w' := by
-- GIVENIMP G02b
  simp only [godwitlaw02_CrcEach.f] at h
  split at h
  · rename_i hh
    obtain rfl := Option.some.inj h
    obtain ⟨a, rfl⟩ := Int.eq_ofNat_of_zero_le hh.1
    obtain ⟨b, rfl⟩ := Int.eq_ofNat_of_zero_le hh.2.2.1
    exact each_calls a b (by omega) (by omega) w
  · cases h

/-- THE ONE PURE STATEMENT of godwitlaw02_CrcEach. -/
def godwitlaw02_CrcEach.Pure : Prop := ∀ (a0 : Int) (a1 : Int), ((Lit.int .u8 a0).wf = true) → ((Lit.int .u8 a1).wf = true) → godwitlaw02_CrcEach.f a0 a1 = some true

end Go.Proofs.Ytfldileaolomlaa.Q
