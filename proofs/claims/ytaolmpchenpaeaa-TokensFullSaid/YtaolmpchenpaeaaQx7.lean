-- written by a turned copy of the kit's printer (wip/tools/patch_print.py over print.py); contracts of given functions are this session's own
import Derived.Test.YtaolmpchenpaeaaQx0
import Derived.Test.YtaolmpchenpaeaaG12
namespace Go.Proofs.Ytaolmpchenpaeaa.Q
open Go.RowKit Go.Proofs.YtaolmpchenpaeaaW.PrintWords Go.Proofs.YtaolmpchenpaeaaW.PrintLast Go.Proofs.YtaolmpchenpaeaaW.PrintMore Go.Proofs.Ytaolmpchenpaeaa.G
attribute [local go_sem] max2_int min2_int max_two min_two max_three min_three max_four min_four   -- for this text's walks alone
set_option linter.unusedVariables false
set_option linter.unusedSimpArgs false

/-! ### tokens_Entry_20: function 20 -/
def tokens_Entry_20.f (l0 : List (S33)) : Option ((List (S33))) := if l0.length * 32 ≤ 140737488355328 then some l0 else none
set_option maxHeartbeats 8000000 in
set_option maxRecDepth 100000 in
theorem tokens_Entry_20.calls (A0 : Option Addr) (c0 : Nat) (l0 : List (S33)) (r : List (S33)) (w : World) (hr0 : Kd.C k33 w A0 l0.length l0) (hc0 : l0.length ≤ c0) (h : tokens_Entry_20.f l0 = some r) :
    Calls Try.prog 20 #[.slice A0 l0.length c0] w fun e w' => ∃ v0_ : Value, e = .returned (v0_) ∧ Kd.R k33 33 w' w.heap.size (fun _ => True) v0_ r ∧ Below w.heap.size w w' := by
-- GIVEN
  simp only [tokens_Entry_20.f] at h
  split at h
  · obtain rfl := Option.some.inj h
    exact cloneEntry A0 c0 _ w hr0 hc0 ‹_›
  · cases h

end Go.Proofs.Ytaolmpchenpaeaa.Q
