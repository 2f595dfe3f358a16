-- written by a turned copy of the kit's printer (wip/tools/patch_print.py over print.py); contracts of given functions are this session's own
import Derived.Test.YtaolmpchenpaeaaQx0
import Derived.Test.YtaolmpchenpaeaaG12
namespace Go.Proofs.Ytaolmpchenpaeaa.Q
open Go.RowKit Go.Proofs.YtaolmpchenpaeaaW.PrintWords Go.Proofs.YtaolmpchenpaeaaW.PrintLast Go.Proofs.YtaolmpchenpaeaaW.PrintMore Go.Proofs.Ytaolmpchenpaeaa.G
attribute [local go_sem] max2_int min2_int max_two min_two max_three min_three max_four min_four   -- for this text's walks alone
set_option linter.unusedVariables false
set_option linter.unusedSimpArgs false

/-! ### tokens_Entry_19: function 19 -/
def tokens_Entry_19.f (l0 : List (S33)) (a1 : Int) (a2 : Int) : Option ((List (S33))) := if 0 ≤ a1 ∧ a1 < l0.length ∧ a2 = a1 + 1 then some (l0.eraseIdx a1.toNat) else none
set_option maxHeartbeats 8000000 in
set_option maxRecDepth 100000 in
theorem tokens_Entry_19.calls (P0_ : Nat → Prop) (u9000_ : Value) (l0 : List (S33)) (a1 : Int) (a2 : Int) (r : List (S33)) (w0 w : World) (hB : Below w0.heap.size w0 w) (ho0 : Kd.R k33 33 w w0.heap.size P0_ u9000_ l0) (h : tokens_Entry_19.f l0 a1 a2 = some r) :
    Calls Try.prog 19 #[u9000_, .int .i64 a1, .int .i64 a2] w fun e w' => ∃ v0_ : Value, e = .returned (v0_) ∧ Kd.R k33 33 w' w0.heap.size (fun k_ => (P0_ k_ ∨ w.heap.size ≤ k_)) v0_ r ∧ Below w0.heap.size w0 w' ∧ Kept w w' (fun k_ => P0_ k_) := by
-- GIVEN
  simp only [tokens_Entry_19.f] at h
  split at h
  · rename_i hh
    obtain ⟨h1, h2, h3⟩ := hh
    obtain rfl := Option.some.inj h
    obtain ⟨k, rfl⟩ := Int.eq_ofNat_of_zero_le h1
    subst h3
    obtain ⟨A, c, e⟩ := Kd.R_slice ho0
    subst e
    refine (deleteEntry w0.heap.size P0_ w0 A c l0 k w ho0 (by omega) hB.size hB).mono ?_
    rintro e w' ⟨v, rfl, hr, hb, hk⟩
    exact ⟨v, rfl, Kd.R_mono hr (fun _ hk => .inl hk), hb, hk⟩
  · cases h

end Go.Proofs.Ytaolmpchenpaeaa.Q
