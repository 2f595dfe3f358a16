-- written by a turned copy of the kit's printer (wip/tools/patch_print.py over print.py); contracts of given functions are this session's own
import Derived.Test.YtodcfcfoneimiaaQx0
namespace Go.Proofs.Ytodcfcfoneimiaa.Q
open Go.RowKit Go.Proofs.YtodcfcfoneimiaaW.PrintWords Go.Proofs.YtodcfcfoneimiaaW.PrintLast Go.Proofs.YtodcfcfoneimiaaW.PrintMore Go.Proofs.Ytodcfcfoneimiaa.G
attribute [local go_sem] max2_int min2_int max_two min_two max_three min_three max_four min_four   -- for this text's walks alone
set_option linter.unusedVariables false
set_option linter.unusedSimpArgs false

/-! ### keys_Sane: function 28 -/
def keys_Sane.f (l0 : List Int) : Option (Bool) := if (l0.length : Int) ≥ 1 then (some (decide ((l0.length : Int) ≤ 16))) else (some false)
set_option maxHeartbeats 8000000 in
set_option maxRecDepth 100000 in
theorem keys_Sane.calls (A0 : Option Addr) (c0 : Nat) (l0 : List Int) (r : Bool) (w : World) (hr0 : Kd.C (Kd.int .u8) w A0 l0.length l0) (hc0 : l0.length ≤ c0) (h : keys_Sane.f l0 = some r) :
    Calls Try.prog 28 #[.slice A0 l0.length c0] w fun e w' => e = .returned (.bool r) ∧ Drawn0 w w' := by
  have HR0 := Aside0.mk hr0
  have HC0 := Aside0.mk hc0
  clear hr0 hc0
  have H : (if (l0.length : Int) ≥ 1 then (some (decide ((l0.length : Int) ≤ 16))) else (some false)) = some r := h
  clear h
  by_cases c2 : (l0.length : Int) ≥ 1
  · rw [if_pos c2] at H
    have c2b0 : decide (1 ≤ (l0.length : Int)) = true := decide_eq_true c2
    have c2b1 : decide (1 ≤ l0.length) = true := decide_eq_true (by omega)
    clear c2
    obtain rfl := Option.some.inj H
    go_enter Try.func28, Try.ntmps28
    go_wp2
    go_ret
    exact ⟨by first | rfl | (simp; done) | (simp [*]; done), by repeat (first | exact Drawn0.refl _ | apply Drawn0.step)⟩
  · rw [if_neg c2] at H
    have c2b0 : decide (1 ≤ (l0.length : Int)) = false := decide_eq_false c2
    have c2b1 : decide (1 ≤ l0.length) = false := decide_eq_false (by omega)
    clear c2
    obtain rfl := Option.some.inj H
    go_enter Try.func28, Try.ntmps28
    go_wp2
    go_ret
    exact ⟨by first | rfl | (simp; done) | (simp [*]; done), by repeat (first | exact Drawn0.refl _ | apply Drawn0.step)⟩

end Go.Proofs.Ytodcfcfoneimiaa.Q
