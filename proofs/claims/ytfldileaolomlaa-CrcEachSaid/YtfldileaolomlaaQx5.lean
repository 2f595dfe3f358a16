-- written by a turned copy of the kit's printer (wip/tools/patch_print.py over print.py); contracts of given functions are this session's own
import Derived.Test.YtfldileaolomlaaQx0
import Derived.Test.YtfldileaolomlaaG02
namespace Go.Proofs.Ytfldileaolomlaa.Q
open Go.RowKit Go.Proofs.YtfldileaolomlaaW.PrintWords Go.Proofs.YtfldileaolomlaaW.PrintLast Go.Proofs.YtfldileaolomlaaW.PrintMore Go.Proofs.Ytfldileaolomlaa.G
attribute [local go_sem] max2_int min2_int max_two min_two max_three min_three max_four min_four   -- for this text's walks alone
set_option linter.unusedVariables false
set_option linter.unusedSimpArgs false

/-! ### crc_Shift: function 11 -/
def crc_Shift.f (a0 : Int) (a1 : Int) : Option (Int) := if 0 ≤ a0 ∧ a0 < 4294967296 then some (shiftI a0 a1) else none
set_option maxHeartbeats 8000000 in
set_option maxRecDepth 100000 in
theorem crc_Shift.calls (a0 : Int) (a1 : Int) (r : Int) (w : World) (h : crc_Shift.f a0 a1 = some r) :
    Calls Try.prog 11 #[.int .u32 a0, .int .i64 a1] w fun e w' => e = .returned (.int .u32 r) ∧ Below w.heap.size w w' := by
-- GIVEN
  simp only [crc_Shift.f] at h
  split at h
  · rename_i hh
    obtain rfl := Option.some.inj h
    exact shift_calls a0 a1 hh.1 hh.2 w
  · cases h

end Go.Proofs.Ytfldileaolomlaa.Q
