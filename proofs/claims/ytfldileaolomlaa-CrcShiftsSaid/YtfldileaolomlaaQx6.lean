-- written by a turned copy of the kit's printer (wip/tools/patch_print.py over print.py); contracts of given functions are this session's own
import Derived.Test.YtfldileaolomlaaQx0
import Derived.Test.YtfldileaolomlaaQx2
import Derived.Test.YtfldileaolomlaaQx5
namespace Go.Proofs.Ytfldileaolomlaa.Q
open Go.RowKit Go.Proofs.YtfldileaolomlaaW.PrintWords Go.Proofs.YtfldileaolomlaaW.PrintLast Go.Proofs.YtfldileaolomlaaW.PrintMore Go.Proofs.Ytfldileaolomlaa.G
attribute [local go_sem] max2_int min2_int max_two min_two max_three min_three max_four min_four   -- for this text's walks alone
set_option linter.unusedVariables false
set_option linter.unusedSimpArgs false

/-! ### godwitlaw02_CrcShifts: function 5 -/
def godwitlaw02_CrcShifts.f (a0 : Int) (a1 : Int) (a2 : Int) (a3 : Int) : Option (Bool) := (godwitlaw02_awake.f).bind fun t131 => (if t131 = true then ((crc_Shift.f a0 (Go.bits .and .i64 a2 255)).bind fun t132 => ((crc_Shift.f t132 (Go.bits .and .i64 a3 255)).bind fun t133 => ((crc_Shift.f a0 (wrap64 ((Go.bits .and .i64 a2 255) + (Go.bits .and .i64 a3 255)))).bind fun t134 => (if t133 = t134 then ((crc_Shift.f 0 (Go.bits .and .i64 a2 255)).bind fun t135 => (if t135 = 0 then ((crc_Shift.f a0 0).bind fun t136 => (if t136 = a0 then ((crc_Shift.f a0 (Go.bits .and .i64 a2 255)).bind fun t137 => ((crc_Shift.f a1 (Go.bits .and .i64 a2 255)).bind fun t138 => (some ((t137 == t138) == (a0 == a1))))) else (none))) else (none))) else (none))))) else (none))
set_option maxHeartbeats 8000000 in
set_option maxRecDepth 100000 in
theorem godwitlaw02_CrcShifts.calls (a0 : Int) (a1 : Int) (a2 : Int) (a3 : Int) (r : Bool) (w : World) (h : godwitlaw02_CrcShifts.f a0 a1 a2 a3 = some r) :
    Calls Try.prog 5 #[.int .u32 a0, .int .u32 a1, .int .i64 a2, .int .i64 a3] w fun e w' => e = .returned (.bool r) ∧ Below w.heap.size w w' := by
  have HB := Aside0.mk (Below.refl w.heap.size w)
  have H : ((godwitlaw02_awake.f).bind fun t131 => (if t131 = true then ((crc_Shift.f a0 (Go.bits .and .i64 a2 255)).bind fun t132 => ((crc_Shift.f t132 (Go.bits .and .i64 a3 255)).bind fun t133 => ((crc_Shift.f a0 (wrap64 ((Go.bits .and .i64 a2 255) + (Go.bits .and .i64 a3 255)))).bind fun t134 => (if t133 = t134 then ((crc_Shift.f 0 (Go.bits .and .i64 a2 255)).bind fun t135 => (if t135 = 0 then ((crc_Shift.f a0 0).bind fun t136 => (if t136 = a0 then ((crc_Shift.f a0 (Go.bits .and .i64 a2 255)).bind fun t137 => ((crc_Shift.f a1 (Go.bits .and .i64 a2 255)).bind fun t138 => (some ((t137 == t138) == (a0 == a1))))) else (none))) else (none))) else (none))))) else (none))) = some r := h
  clear h
  replace H := Option.bind_eq_some_iff.mp H
  obtain ⟨t131, A50, H⟩ := H
  replace H : (if t131 = true then ((crc_Shift.f a0 (Go.bits .and .i64 a2 255)).bind fun t132 => ((crc_Shift.f t132 (Go.bits .and .i64 a3 255)).bind fun t133 => ((crc_Shift.f a0 (wrap64 ((Go.bits .and .i64 a2 255) + (Go.bits .and .i64 a3 255)))).bind fun t134 => (if t133 = t134 then ((crc_Shift.f 0 (Go.bits .and .i64 a2 255)).bind fun t135 => (if t135 = 0 then ((crc_Shift.f a0 0).bind fun t136 => (if t136 = a0 then ((crc_Shift.f a0 (Go.bits .and .i64 a2 255)).bind fun t137 => ((crc_Shift.f a1 (Go.bits .and .i64 a2 255)).bind fun t138 => (some ((t137 == t138) == (a0 == a1))))) else (none))) else (none))) else (none))))) else (none)) = some r := H
  have A5 := Aside0.mk A50
  clear A50
  by_cases c6 : t131 = true
  · subst c6
    have H1 : ((crc_Shift.f a0 (Go.bits .and .i64 a2 255)).bind fun t132 => ((crc_Shift.f t132 (Go.bits .and .i64 a3 255)).bind fun t133 => ((crc_Shift.f a0 (wrap64 ((Go.bits .and .i64 a2 255) + (Go.bits .and .i64 a3 255)))).bind fun t134 => (if t133 = t134 then ((crc_Shift.f 0 (Go.bits .and .i64 a2 255)).bind fun t135 => (if t135 = 0 then ((crc_Shift.f a0 0).bind fun t136 => (if t136 = a0 then ((crc_Shift.f a0 (Go.bits .and .i64 a2 255)).bind fun t137 => ((crc_Shift.f a1 (Go.bits .and .i64 a2 255)).bind fun t138 => (some ((t137 == t138) == (a0 == a1))))) else (none))) else (none))) else (none))))) = some r := by rw [if_pos rfl] at H; exact H
    clear H
    have H := H1
    clear H1
    replace H := Option.bind_eq_some_iff.mp H
    obtain ⟨t132, A70, H⟩ := H
    replace H : ((crc_Shift.f t132 (Go.bits .and .i64 a3 255)).bind fun t133 => ((crc_Shift.f a0 (wrap64 ((Go.bits .and .i64 a2 255) + (Go.bits .and .i64 a3 255)))).bind fun t134 => (if t133 = t134 then ((crc_Shift.f 0 (Go.bits .and .i64 a2 255)).bind fun t135 => (if t135 = 0 then ((crc_Shift.f a0 0).bind fun t136 => (if t136 = a0 then ((crc_Shift.f a0 (Go.bits .and .i64 a2 255)).bind fun t137 => ((crc_Shift.f a1 (Go.bits .and .i64 a2 255)).bind fun t138 => (some ((t137 == t138) == (a0 == a1))))) else (none))) else (none))) else (none)))) = some r := H
    have A7 := Aside0.mk A70
    clear A70
    replace H := Option.bind_eq_some_iff.mp H
    obtain ⟨t133, A80, H⟩ := H
    replace H : ((crc_Shift.f a0 (wrap64 ((Go.bits .and .i64 a2 255) + (Go.bits .and .i64 a3 255)))).bind fun t134 => (if t133 = t134 then ((crc_Shift.f 0 (Go.bits .and .i64 a2 255)).bind fun t135 => (if t135 = 0 then ((crc_Shift.f a0 0).bind fun t136 => (if t136 = a0 then ((crc_Shift.f a0 (Go.bits .and .i64 a2 255)).bind fun t137 => ((crc_Shift.f a1 (Go.bits .and .i64 a2 255)).bind fun t138 => (some ((t137 == t138) == (a0 == a1))))) else (none))) else (none))) else (none))) = some r := H
    have A8 := Aside0.mk A80
    clear A80
    replace H := Option.bind_eq_some_iff.mp H
    obtain ⟨t134, A90, H⟩ := H
    replace H : (if t133 = t134 then ((crc_Shift.f 0 (Go.bits .and .i64 a2 255)).bind fun t135 => (if t135 = 0 then ((crc_Shift.f a0 0).bind fun t136 => (if t136 = a0 then ((crc_Shift.f a0 (Go.bits .and .i64 a2 255)).bind fun t137 => ((crc_Shift.f a1 (Go.bits .and .i64 a2 255)).bind fun t138 => (some ((t137 == t138) == (a0 == a1))))) else (none))) else (none))) else (none)) = some r := H
    have A9 := Aside0.mk A90
    clear A90
    by_cases c10 : t133 = t134
    · rw [if_pos c10] at H
      have c10b0 : (t133 == t134) = true := beq_iff_eq.mpr c10
      have c10b1 : (t133 != t134) = false := bne_eq_false_iff_eq.mpr c10
      clear c10
      replace H := Option.bind_eq_some_iff.mp H
      obtain ⟨t135, A110, H⟩ := H
      replace H : (if t135 = 0 then ((crc_Shift.f a0 0).bind fun t136 => (if t136 = a0 then ((crc_Shift.f a0 (Go.bits .and .i64 a2 255)).bind fun t137 => ((crc_Shift.f a1 (Go.bits .and .i64 a2 255)).bind fun t138 => (some ((t137 == t138) == (a0 == a1))))) else (none))) else (none)) = some r := H
      have A11 := Aside0.mk A110
      clear A110
      by_cases c12 : t135 = 0
      · rw [if_pos c12] at H
        have c12b0 : (t135 == 0) = true := beq_iff_eq.mpr c12
        have c12b1 : (t135 != 0) = false := bne_eq_false_iff_eq.mpr c12
        clear c12
        replace H := Option.bind_eq_some_iff.mp H
        obtain ⟨t136, A130, H⟩ := H
        replace H : (if t136 = a0 then ((crc_Shift.f a0 (Go.bits .and .i64 a2 255)).bind fun t137 => ((crc_Shift.f a1 (Go.bits .and .i64 a2 255)).bind fun t138 => (some ((t137 == t138) == (a0 == a1))))) else (none)) = some r := H
        have A13 := Aside0.mk A130
        clear A130
        by_cases c14 : t136 = a0
        · rw [if_pos c14] at H
          have c14b0 : (t136 == a0) = true := beq_iff_eq.mpr c14
          have c14b1 : (t136 != a0) = false := bne_eq_false_iff_eq.mpr c14
          clear c14
          replace H := Option.bind_eq_some_iff.mp H
          obtain ⟨t137_, A150, H⟩ := H
          obtain rfl : t132 = t137_ := Option.some.inj (A7.out.symm.trans A150)
          replace H : ((crc_Shift.f a1 (Go.bits .and .i64 a2 255)).bind fun t138 => (some ((t132 == t138) == (a0 == a1)))) = some r := H
          have A15 := Aside0.mk A150
          clear A150
          replace H := Option.bind_eq_some_iff.mp H
          obtain ⟨t138, A160, H⟩ := H
          replace H : (some ((t132 == t138) == (a0 == a1))) = some r := H
          have A16 := Aside0.mk A160
          clear A160
          obtain rfl := Option.some.inj H
          go_enter Try.func5, Try.ntmps5
          go_wp2_with (first | ((with_reducible refine gate_callee (f := 9) rfl ?_); refine goesL_ (some 12) rfl rfl Try.func9 (by kernel_rfl) rfl #[] rfl (by (try simp only [List.map_toArray, List.map_cons, List.map_nil]); first | done | rfl | (simp only [List.length_drop, List.length_take]; rfl)) ?_; (with_reducible refine (godwitlaw02_awake.calls  true _ A5.out).mono ?_); rintro e w17 ⟨rfl, hb⟩; refine ⟨_, rfl, ?_⟩; have n0_ := Aside0.mk (below_step (by repeat (first | (with_reducible first | exact HB.out | apply below_alloc | apply pw_below_drewN | apply below_drew1) | exact HB.out)) hb); clear HB; have HB := n0_; clear n0_; (try clear hb); (try clear hb2); (try clear hk); (try clear hi)) | (go_at_call 11; (with_reducible refine (crc_Shift.calls a0 (Go.bits .and .i64 a2 255) t132 _ A7.out).mono ?_); rintro e w18 ⟨rfl, hb⟩; have n0_ := Aside0.mk (below_step (by repeat (first | (with_reducible first | exact HB.out | apply below_alloc | apply pw_below_drewN | apply below_drew1) | exact HB.out)) hb); clear HB; have HB := n0_; clear n0_; (try clear hb); (try clear hb2); (try clear hk); (try clear hi)) | (go_at_call 11; (with_reducible refine (crc_Shift.calls t132 (Go.bits .and .i64 a3 255) t133 _ A8.out).mono ?_); rintro e w19 ⟨rfl, hb⟩; have n0_ := Aside0.mk (below_step (by repeat (first | (with_reducible first | exact HB.out | apply below_alloc | apply pw_below_drewN | apply below_drew1) | exact HB.out)) hb); clear HB; have HB := n0_; clear n0_; (try clear hb); (try clear hb2); (try clear hk); (try clear hi)) | (go_at_call 11; (with_reducible refine (crc_Shift.calls a0 (wrap64 ((Go.bits .and .i64 a2 255) + (Go.bits .and .i64 a3 255))) t134 _ A9.out).mono ?_); rintro e w20 ⟨rfl, hb⟩; have n0_ := Aside0.mk (below_step (by repeat (first | (with_reducible first | exact HB.out | apply below_alloc | apply pw_below_drewN | apply below_drew1) | exact HB.out)) hb); clear HB; have HB := n0_; clear n0_; (try clear hb); (try clear hb2); (try clear hk); (try clear hi)) | (go_at_call 11; (with_reducible refine (crc_Shift.calls 0 (Go.bits .and .i64 a2 255) t135 _ A11.out).mono ?_); rintro e w21 ⟨rfl, hb⟩; have n0_ := Aside0.mk (below_step (by repeat (first | (with_reducible first | exact HB.out | apply below_alloc | apply pw_below_drewN | apply below_drew1) | exact HB.out)) hb); clear HB; have HB := n0_; clear n0_; (try clear hb); (try clear hb2); (try clear hk); (try clear hi)) | (go_at_call 11; (with_reducible refine (crc_Shift.calls a0 0 t136 _ A13.out).mono ?_); rintro e w22 ⟨rfl, hb⟩; have n0_ := Aside0.mk (below_step (by repeat (first | (with_reducible first | exact HB.out | apply below_alloc | apply pw_below_drewN | apply below_drew1) | exact HB.out)) hb); clear HB; have HB := n0_; clear n0_; (try clear hb); (try clear hb2); (try clear hk); (try clear hi)) | (go_at_call 11; (with_reducible refine (crc_Shift.calls a0 (Go.bits .and .i64 a2 255) t132 _ A15.out).mono ?_); rintro e w23 ⟨rfl, hb⟩; have n0_ := Aside0.mk (below_step (by repeat (first | (with_reducible first | exact HB.out | apply below_alloc | apply pw_below_drewN | apply below_drew1) | exact HB.out)) hb); clear HB; have HB := n0_; clear n0_; (try clear hb); (try clear hb2); (try clear hk); (try clear hi)) | (go_at_call 11; (with_reducible refine (crc_Shift.calls a1 (Go.bits .and .i64 a2 255) t138 _ A16.out).mono ?_); rintro e w24 ⟨rfl, hb⟩; have n0_ := Aside0.mk (below_step (by repeat (first | (with_reducible first | exact HB.out | apply below_alloc | apply pw_below_drewN | apply below_drew1) | exact HB.out)) hb); clear HB; have HB := n0_; clear n0_; (try clear hb); (try clear hb2); (try clear hk); (try clear hi)))
          go_ret
          first | (with_reducible exact (clash2 A16 A15).elim) | (with_reducible exact (clash2 A15 A16).elim) | (with_reducible exact (clash2 A16 A13).elim) | (with_reducible exact (clash2 A13 A16).elim) | (with_reducible exact (clash2 A16 A11).elim) | (with_reducible exact (clash2 A11 A16).elim) | (with_reducible exact (clash2 A16 A9).elim) | (with_reducible exact (clash2 A9 A16).elim) | (with_reducible exact (clash2 A16 A8).elim) | (with_reducible exact (clash2 A8 A16).elim) | (with_reducible exact (clash2 A16 A7).elim) | (with_reducible exact (clash2 A7 A16).elim) | (with_reducible exact (clash2 A16 A5).elim) | (with_reducible exact (clash2 A5 A16).elim) | (with_reducible exact (clash2 A15 A13).elim) | (with_reducible exact (clash2 A13 A15).elim) | (with_reducible exact (clash2 A15 A11).elim) | (with_reducible exact (clash2 A11 A15).elim) | (with_reducible exact (clash2 A15 A9).elim) | (with_reducible exact (clash2 A9 A15).elim) | (with_reducible exact (clash2 A15 A8).elim) | (with_reducible exact (clash2 A8 A15).elim) | (with_reducible exact (clash2 A15 A7).elim) | (with_reducible exact (clash2 A7 A15).elim) | (with_reducible exact (clash2 A15 A5).elim) | (with_reducible exact (clash2 A5 A15).elim) | (with_reducible exact (clash2 A13 A11).elim) | (with_reducible exact (clash2 A11 A13).elim) | (with_reducible exact (clash2 A13 A9).elim) | (with_reducible exact (clash2 A9 A13).elim) | (with_reducible exact (clash2 A13 A8).elim) | (with_reducible exact (clash2 A8 A13).elim) | (with_reducible exact (clash2 A13 A7).elim) | (with_reducible exact (clash2 A7 A13).elim) | (with_reducible exact (clash2 A13 A5).elim) | (with_reducible exact (clash2 A5 A13).elim) | (with_reducible exact (clash2 A11 A9).elim) | (with_reducible exact (clash2 A9 A11).elim) | (with_reducible exact (clash2 A11 A8).elim) | (with_reducible exact (clash2 A8 A11).elim) | (with_reducible exact (clash2 A11 A7).elim) | (with_reducible exact (clash2 A7 A11).elim) | (with_reducible exact (clash2 A11 A5).elim) | (with_reducible exact (clash2 A5 A11).elim) | (with_reducible exact (clash2 A9 A8).elim) | (with_reducible exact (clash2 A8 A9).elim) | (with_reducible exact (clash2 A9 A7).elim) | (with_reducible exact (clash2 A7 A9).elim) | (with_reducible exact (clash2 A9 A5).elim) | (with_reducible exact (clash2 A5 A9).elim) | (with_reducible exact (clash2 A8 A7).elim) | (with_reducible exact (clash2 A7 A8).elim) | (with_reducible exact (clash2 A8 A5).elim) | (with_reducible exact (clash2 A5 A8).elim) | (with_reducible exact (clash2 A7 A5).elim) | (with_reducible exact (clash2 A5 A7).elim) | exact ⟨by first | rfl | (simp [errW_none, errW_some] <;> rfl) | (simp [*, errW_none, errW_some] <;> rfl), by repeat (first | (with_reducible first | exact HB.out | apply below_alloc | apply pw_below_drewN | apply below_drew1) | exact HB.out)⟩
        · rw [if_neg c14] at H
          exact absurd H (by simp)
      · rw [if_neg c12] at H
        exact absurd H (by simp)
    · rw [if_neg c10] at H
      exact absurd H (by simp)
  · replace c6 := Bool.eq_false_iff.mpr c6
    subst c6
    have H1 : (none) = some r := by rw [if_neg (show ¬ (false = true) by decide)] at H; exact H
    clear H
    have H := H1
    clear H1
    exact absurd H (by simp)

/-- THE ONE PURE STATEMENT of godwitlaw02_CrcShifts. -/
def godwitlaw02_CrcShifts.Pure : Prop := ∀ (a0 : Int) (a1 : Int) (a2 : Int) (a3 : Int), ((Lit.int .u32 a0).wf = true) → ((Lit.int .u32 a1).wf = true) → ((Lit.int .i64 a2).wf = true) → ((Lit.int .i64 a3).wf = true) → godwitlaw02_CrcShifts.f a0 a1 a2 a3 = some true

end Go.Proofs.Ytfldileaolomlaa.Q
