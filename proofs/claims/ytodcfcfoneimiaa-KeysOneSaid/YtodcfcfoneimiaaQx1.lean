-- written by a turned copy of the kit's printer (wip/tools/patch_print.py over print.py); contracts of given functions are this session's own
import Derived.Test.YtodcfcfoneimiaaQx0
namespace Go.Proofs.Ytodcfcfoneimiaa.Q
open Go.RowKit Go.Proofs.YtodcfcfoneimiaaW.PrintWords Go.Proofs.YtodcfcfoneimiaaW.PrintLast Go.Proofs.YtodcfcfoneimiaaW.PrintMore Go.Proofs.Ytodcfcfoneimiaa.G
attribute [local go_sem] max2_int min2_int max_two min_two max_three min_three max_four min_four   -- for this text's walks alone
set_option linter.unusedVariables false
set_option linter.unusedSimpArgs false

/-! ### keys_Cmp: function 11 -/
def keys_Cmp.f (l0 : List Int) (l1 : List Int) : Option (Int) := some (cmpB l0 l1)
set_option maxHeartbeats 8000000 in
set_option maxRecDepth 100000 in
theorem keys_Cmp.calls (A0 : Option Addr) (c0 : Nat) (l0 : List Int) (A1 : Option Addr) (c1 : Nat) (l1 : List Int) (r : Int) (w : World) (hr0 : Kd.C (Kd.int .u8) w A0 l0.length l0) (hc0 : l0.length ≤ c0) (hr1 : Kd.C (Kd.int .u8) w A1 l1.length l1) (hc1 : l1.length ≤ c1) (h : keys_Cmp.f l0 l1 = some r) :
    Calls Try.prog 11 #[.slice A0 l0.length c0, .slice A1 l1.length c1] w fun e w' => e = .returned (.int .i64 r) ∧ Below w.heap.size w w' := by
  simp only [keys_Cmp.f, Option.some.injEq] at h
  subst h
  exact (keysCmp _ _ _ _ _ _ w hr0 hr1).mono fun e w' ⟨h1, h2⟩ => ⟨h1, h2 ▸ Below.refl _ _⟩

end Go.Proofs.Ytodcfcfoneimiaa.Q
