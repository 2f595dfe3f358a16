-- written by a turned copy of the kit's printer (wip/tools/patch_print.py over print.py); contracts of given functions are this session's own
import Derived.Test.YtdjenkcafhdicaaQx0
import Derived.Test.YtdjenkcafhdicaaG02a
import Derived.Test.YtdjenkcafhdicaaG06b
import Derived.Test.YtdjenkcafhdicaaG03c
namespace Go.Proofs.Ytdjenkcafhdicaa.Q
open Go.RowKit Go.Proofs.YtdjenkcafhdicaaW.PrintWords Go.Proofs.YtdjenkcafhdicaaW.PrintLast Go.Proofs.YtdjenkcafhdicaaW.PrintMore Go.Proofs.Ytdjenkcafhdicaa.G
attribute [local go_sem] max2_int min2_int max_two min_two max_three min_three max_four min_four   -- for this text's walks alone
set_option linter.unusedVariables false
set_option linter.unusedSimpArgs false

/-! ### frame_read: function 20 -/
def frame_read.f (l0 : List Int) : Option (Int × Int × List Int × Int) := if (∀ x ∈ l0, 0 ≤ x ∧ x < 256) then some (readR l0) else none
set_option maxHeartbeats 8000000 in
set_option maxRecDepth 100000 in
theorem frame_read.calls (A0 : Option Addr) (c0 : Nat) (l0 : List Int) (r1 : Int) (r2 : Int) (r3 : List Int) (r4 : Int) (w : World) (hr0 : Kd.C (Kd.int .u8) w A0 l0.length l0) (hc0 : l0.length ≤ c0) (h : frame_read.f l0 = some (r1, r2, r3, r4)) :
    Calls Try.prog 20 #[.slice A0 l0.length c0] w fun e w' => ∃ v2_ : Value, e = .returned (.tuple #[.agg #[.int .i64 r1, .int .u32 r2, v2_], .int .i64 r4]) ∧ Kd.R (Kd.int .u8) 5 w' w.heap.size (fun _ => True) v2_ r3 ∧ Below w.heap.size w w' := by
-- GIVEN
  simp only [frame_read.f] at h
  split at h
  · rename_i hx
    have e := Option.some.inj h
    have k := read_calls A0 c0 l0 w hr0 hc0 hx
    rw [e] at k
    exact k
  · cases h

end Go.Proofs.Ytdjenkcafhdicaa.Q
