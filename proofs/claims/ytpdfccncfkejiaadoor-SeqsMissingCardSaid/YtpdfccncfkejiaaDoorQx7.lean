-- written by a turned copy of the kit's printer (wip/tools/patch_print.py over print.py); contracts of given functions are this session's own
import Derived.Test.YtpdfccncfkejiaaDoorQx0
import Derived.Test.YtpdfccncfkejiaaDoorL15b
namespace Go.Proofs.YtpdfccncfkejiaaDoor.Q
open Go.RowKit Go.Proofs.YtpdfccncfkejiaaDoorW.PrintWords Go.Proofs.YtpdfccncfkejiaaDoorW.PrintLast Go.Proofs.YtpdfccncfkejiaaDoorW.PrintMore Go.Proofs.YtpdfccncfkejiaaDoor.G
attribute [local go_sem] max2_int min2_int max_two min_two max_three min_three max_four min_four   -- for this text's walks alone
set_option linter.unusedVariables false
set_option linter.unusedSimpArgs false

/-! ### bits_TrailingZeros64: function 23 -/
def bits_TrailingZeros64.f (a0 : Int) : Option (Int) := if 0 ≤ a0 ∧ a0 < 18446744073709551616 then some ((Lib.ctz 64 a0.toNat : Nat) : Int) else none
set_option maxHeartbeats 8000000 in
set_option maxRecDepth 100000 in
theorem bits_TrailingZeros64.calls (a0 : Int) (r : Int) (w : World) (hLD : LaidT w) (h : bits_TrailingZeros64.f a0 = some r) :
    Calls Tryd.prog 23 #[.int .u64 a0] w fun e w' => e = .returned (.int .i64 r) ∧ Below w.heap.size w w' := by
-- GIVEN
  simp only [bits_TrailingZeros64.f] at h
  split at h
  · rename_i hh
    obtain rfl := Option.some.inj h
    exact tz_f a0 hh.1 hh.2 w hLD
  · cases h

end Go.Proofs.YtpdfccncfkejiaaDoor.Q
