-- written by a turned copy of the kit's printer (wip/tools/patch_print.py over print.py); contracts of given functions are this session's own
import Derived.Test.YtcinlddejdkjeaaQx0
import Derived.Test.YtcinlddejdkjeaaG07b
import Derived.Test.YtcinlddejdkjeaaG07f
namespace Go.Proofs.Ytcinlddejdkjeaa.Q
open Go.RowKit Go.Proofs.YtcinlddejdkjeaaW.PrintWords Go.Proofs.YtcinlddejdkjeaaW.PrintLast Go.Proofs.YtcinlddejdkjeaaW.PrintMore Go.Proofs.Ytcinlddejdkjeaa.G
attribute [local go_sem] max2_int min2_int max_two min_two max_three min_three max_four min_four   -- for this text's walks alone
set_option linter.unusedVariables false
set_option linter.unusedSimpArgs false

/-! ### chain_place: function 29 -/
def chain_place.f (l0_0 : List (S37)) (a1 : Int) : Option (Int) := some (placeL l0_0 a1)
set_option maxHeartbeats 8000000 in
set_option maxRecDepth 100000 in
theorem chain_place.calls (A0_0 : Option Addr) (c0_0 : Nat) (l0_0 : List (S37)) (a1 : Int) (r : Int) (w : World) (hr0_0 : Kd.C k37 w A0_0 l0_0.length l0_0) (hc0_0 : l0_0.length ≤ c0_0) (h : chain_place.f l0_0 a1 = some r) :
    Calls Try.prog 29 #[.agg #[.slice A0_0 l0_0.length c0_0], .int .i64 a1] w fun e w' => e = .returned (.int .i64 r) ∧ Below w.heap.size w w' := by
-- GIVEN
  simp only [chain_place.f, Option.some.injEq] at h
  subst h
  exact place_calls A0_0 c0_0 l0_0 a1 w hr0_0

end Go.Proofs.Ytcinlddejdkjeaa.Q
