-- written by a turned copy of the kit's printer (wip/tools/patch_print.py over print.py); contracts of given functions are this session's own
import Derived.Test.YtfldileaolomlaaQx0
import Derived.Test.YtfldileaolomlaaG02c
namespace Go.Proofs.Ytfldileaolomlaa.Q
open Go.RowKit Go.Proofs.YtfldileaolomlaaW.PrintWords Go.Proofs.YtfldileaolomlaaW.PrintLast Go.Proofs.YtfldileaolomlaaW.PrintMore Go.Proofs.Ytfldileaolomlaa.G
attribute [local go_sem] max2_int min2_int max_two min_two max_three min_three max_four min_four   -- for this text's walks alone
set_option linter.unusedVariables false
set_option linter.unusedSimpArgs false

/-! ### godwitlaw02_CrcIs: function 8 -/
def godwitlaw02_CrcIs.f (l0 : List Int) (a1 : Int) (a2 : Int) (a3 : Int) : Option (Bool) := if 0 ≤ a1 ∧ a1 < 4294967296 then some true else none
set_option maxHeartbeats 8000000 in
set_option maxRecDepth 100000 in
theorem godwitlaw02_CrcIs.calls (A0 : Option Addr) (c0 : Nat) (l0 : List Int) (a1 : Int) (a2 : Int) (a3 : Int) (r : Bool) (w : World) (hr0 : Kd.C (Kd.int .u8) w A0 l0.length l0) (hc0 : l0.length ≤ c0) (h : godwitlaw02_CrcIs.f l0 a1 a2 a3 = some r) :
    Calls Try.prog 8 #[.slice A0 l0.length c0, .int .u32 a1, .int .u32 a2, .int .i64 a3] w fun e w' => e = .returned (.bool r) ∧ Below w.heap.size w w' := by
-- GIVENIMP G02c
  simp only [godwitlaw02_CrcIs.f] at h
  split at h
  · rename_i hh
    obtain rfl := Option.some.inj h
    exact is_calls A0 c0 l0 a1 a2 a3 w hr0 hc0 hh.1 hh.2
  · cases h

/-- THE ONE PURE STATEMENT of godwitlaw02_CrcIs. -/
def godwitlaw02_CrcIs.Pure : Prop := ∀ (l0 : List Int) (a1 : Int) (a2 : Int) (a3 : Int), (l0.length * 1 ≤ 140737488351232 ∧ ∀ y0_ ∈ l0, (Lit.int .u8 y0_).wf = true) → ((Lit.int .u32 a1).wf = true) → ((Lit.int .u32 a2).wf = true) → ((Lit.int .i64 a3).wf = true) → godwitlaw02_CrcIs.f l0 a1 a2 a3 = some true

end Go.Proofs.Ytfldileaolomlaa.Q
