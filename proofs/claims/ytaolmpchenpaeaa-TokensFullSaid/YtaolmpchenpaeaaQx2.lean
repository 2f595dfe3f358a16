-- written by a turned copy of the kit's printer (wip/tools/patch_print.py over print.py); contracts of given functions are this session's own
import Derived.Test.YtaolmpchenpaeaaQx0
import Derived.Test.YtaolmpchenpaeaaG12
namespace Go.Proofs.Ytaolmpchenpaeaa.Q
open Go.RowKit Go.Proofs.YtaolmpchenpaeaaW.PrintWords Go.Proofs.YtaolmpchenpaeaaW.PrintLast Go.Proofs.YtaolmpchenpaeaaW.PrintMore Go.Proofs.Ytaolmpchenpaeaa.G
attribute [local go_sem] max2_int min2_int max_two min_two max_three min_three max_four min_four   -- for this text's walks alone
set_option linter.unusedVariables false
set_option linter.unusedSimpArgs false

/-! ### tokens_Table_at: function 15 -/
def tokens_Table_at.f (l0_0 : List (S33)) (a1 : Int) : Option (Int) := some (idxF (fun x => x.f0 == a1) l0_0)
set_option maxHeartbeats 8000000 in
set_option maxRecDepth 100000 in
theorem tokens_Table_at.calls (A0_0 : Option Addr) (c0_0 : Nat) (l0_0 : List (S33)) (a1 : Int) (r : Int) (w : World) (hr0_0 : Kd.C k33 w A0_0 l0_0.length l0_0) (hc0_0 : l0_0.length ≤ c0_0) (h : tokens_Table_at.f l0_0 a1 = some r) :
    Calls Try.prog 15 #[.agg #[.slice A0_0 l0_0.length c0_0], .int .i64 a1] w fun e w' => e = .returned (.int .i64 r) ∧ Below w.heap.size w w' := by
-- GIVEN
  simp only [tokens_Table_at.f, Option.some.injEq] at h
  subst h
  exact tableAt a1 A0_0 c0_0 l0_0 w hr0_0

end Go.Proofs.Ytaolmpchenpaeaa.Q
