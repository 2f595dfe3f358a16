-- written by a turned copy of the kit's printer (wip/tools/patch_print.py over print.py); contracts of given functions are this session's own
import Derived.Test.YtfldileaolomlaaQx0
import Derived.Test.YtfldileaolomlaaQx1
import Derived.Test.YtfldileaolomlaaQx2
import Derived.Test.YtfldileaolomlaaQx7
import Derived.Test.YtfldileaolomlaaQx8
namespace Go.Proofs.Ytfldileaolomlaa.Q
open Go.RowKit Go.Proofs.YtfldileaolomlaaW.PrintWords Go.Proofs.YtfldileaolomlaaW.PrintLast Go.Proofs.YtfldileaolomlaaW.PrintMore Go.Proofs.Ytfldileaolomlaa.G
attribute [local go_sem] max2_int min2_int max_two min_two max_three min_three max_four min_four   -- for this text's walks alone
set_option linter.unusedVariables false
set_option linter.unusedSimpArgs false

/-! ### godwitlaw02_CrcJoins: function 6 -/
def godwitlaw02_CrcJoins.j0 : Nat → List Int → List Int → Int → Bool → Bool → Option (Bool)
  | 0, _, _, _, _, _ => none
  | k + 1, x0, x1, x2, x7, x18 => if x18 = true then (some x7) else ((some (([] : List Int) : List Int)).bind fun y140 => (if y140.length + x0.length < 140737488355328 then ((some (y140 ++ x0 : List Int)).bind fun y143 => (if y143.length + x1.length < 140737488355328 then ((some (y143 ++ x1 : List Int)).bind fun y146 => ((crc_More.f x2 x0).bind fun t149 => (if x7 = true then ((crc_Of.f y146).bind fun t150 => ((crc_Of.f x0).bind fun t151 => ((crc_More.f t151 x1).bind fun t152 => (if t150 = t152 then ((crc_Of.f y146).bind fun t153 => ((crc_Of.f x0).bind fun t154 => ((crc_Of.f x1).bind fun t155 => ((crc_Join.f t154 t155 (x1.length : Int)).bind fun t156 => (if t153 = t156 then ((crc_More.f x2 y146).bind fun t157 => ((crc_More.f t149 x1).bind fun t158 => (some (t157 == t158)))) else (none)))))) else (none))))) else (none)))) else (none))) else (none)))
def godwitlaw02_CrcJoins.f (k : Nat) (l0 : List Int) (l1 : List Int) (a2 : Int) : Option (Bool) := (godwitlaw02_awake.f).bind fun t139 => (if (l0.length : Int) > 2000 then (godwitlaw02_CrcJoins.j0 k l0 l1 a2 t139 true) else (godwitlaw02_CrcJoins.j0 k l0 l1 a2 t139 (decide ((l1.length : Int) > 2000))))
theorem godwitlaw02_CrcJoins.mono_l : ∀ k, (∀ y0 y1 y2 y3 y4, LeO (godwitlaw02_CrcJoins.j0 k y0 y1 y2 y3 y4) (godwitlaw02_CrcJoins.j0 (k + 1) y0 y1 y2 y3 y4))
  | 0 => fun _ _ _ _ _ r h => by simp [godwitlaw02_CrcJoins.j0] at h
  | k + 1 => by
    have ih0 := godwitlaw02_CrcJoins.mono_l k
    · intro y0 y1 y2 y3 y4
      unfold godwitlaw02_CrcJoins.j0
      repeat' first
      | (with_reducible exact ih0 _ _ _ _ _)
      | (with_reducible exact LeO.refl _)
      | (with_reducible exact LeO.none _)
      | (with_reducible refine LeO.ite ?_ ?_)
      | (with_reducible refine LeO.bind ?_ (fun _ => ?_))
      | exact ih0 _ _ _ _ _
      | exact LeO.none _
      | refine LeO.ite ?_ ?_
      | refine LeO.bind ?_ (fun _ => ?_)
theorem godwitlaw02_CrcJoins.mono : ∀ a0 a1 a2 k, LeO (godwitlaw02_CrcJoins.f k a0 a1 a2) (godwitlaw02_CrcJoins.f (k + 1) a0 a1 a2) := by
  intro a0 a1 a2 k
  have ih0 := godwitlaw02_CrcJoins.mono_l k
  unfold godwitlaw02_CrcJoins.f
  repeat' first
      | (with_reducible exact ih0 _ _ _ _ _)
      | (with_reducible exact LeO.refl _)
      | (with_reducible exact LeO.none _)
      | (with_reducible refine LeO.ite ?_ ?_)
      | (with_reducible refine LeO.bind ?_ (fun _ => ?_))
      | exact ih0 _ _ _ _ _
      | exact LeO.none _
      | refine LeO.ite ?_ ?_
      | refine LeO.bind ?_ (fun _ => ?_)
set_option maxHeartbeats 8000000 in
set_option maxRecDepth 100000 in
theorem godwitlaw02_CrcJoins.calls (k : Nat) (A0 : Option Addr) (c0 : Nat) (l0 : List Int) (A1 : Option Addr) (c1 : Nat) (l1 : List Int) (a2 : Int) (r : Bool) (w : World) (hr0 : Kd.C (Kd.int .u8) w A0 l0.length l0) (hc0 : l0.length ≤ c0) (hr1 : Kd.C (Kd.int .u8) w A1 l1.length l1) (hc1 : l1.length ≤ c1) (h : godwitlaw02_CrcJoins.f k l0 l1 a2 = some r) :
    Calls Try.prog 6 #[.slice A0 l0.length c0, .slice A1 l1.length c1, .int .u32 a2] w fun e w' => e = .returned (.bool r) ∧ Below w.heap.size w w' := by
  have HR0 := Aside0.mk hr0
  have HC0 := Aside0.mk hc0
  clear hr0 hc0
  have HR1 := Aside0.mk hr1
  have HC1 := Aside0.mk hc1
  clear hr1 hc1
  have HB := Aside0.mk (Below.refl w.heap.size w)
  have H : ((godwitlaw02_awake.f).bind fun t139 => (if (l0.length : Int) > 2000 then (godwitlaw02_CrcJoins.j0 k l0 l1 a2 t139 true) else (godwitlaw02_CrcJoins.j0 k l0 l1 a2 t139 (decide ((l1.length : Int) > 2000))))) = some r := h
  clear h
  replace H := Option.bind_eq_some_iff.mp H
  obtain ⟨t139, A40, H⟩ := H
  replace H : (if (l0.length : Int) > 2000 then (godwitlaw02_CrcJoins.j0 k l0 l1 a2 t139 true) else (godwitlaw02_CrcJoins.j0 k l0 l1 a2 t139 (decide ((l1.length : Int) > 2000)))) = some r := H
  have A4 := Aside0.mk A40
  clear A40
  have HC5 := Aside0.mk H
  clear H
  go_enter Try.func6, Try.ntmps6
  go_upto_region 2 with (first | ((with_reducible refine gate_callee (f := 9) rfl ?_); refine goesL_ (some 10) rfl rfl Try.func9 (by kernel_rfl) rfl #[] rfl (by (try simp only [List.map_toArray, List.map_cons, List.map_nil]); first | done | rfl | (simp only [List.length_drop, List.length_take]; rfl)) ?_; (with_reducible refine (godwitlaw02_awake.calls  t139 _ A4.out).mono ?_); rintro e w6 ⟨rfl, hb⟩; refine ⟨_, rfl, ?_⟩; have n0_ := Aside0.mk (below_step (by repeat (first | (with_reducible first | exact HB.out | apply below_alloc | apply pw_below_drewN | apply below_drew1) | exact HB.out)) hb); clear HB; have HB := n0_; clear n0_; (try clear hb); (try clear hb2); (try clear hk); (try clear hi)))
  (try simp only [Act.put, List.setIfInBounds_toArray, List.set_cons_zero, List.set_cons_succ])
  go_cut [18] (fun v18 wc => ∃ (kq : Nat) (x18_4 : Bool), v18 = .bool x18_4 ∧ Aside0 (godwitlaw02_CrcJoins.j0 kq l0 l1 a2 t139 x18_4 = some r) ∧ Aside0 (kq ≤ k) ∧ Aside0 (Below w.heap.size w wc))
  case first =>
    have H := HC5.out
    clear HC5
    by_cases c7 : (l0.length : Int) > 2000
    · rw [if_pos c7] at H
      have c7b0 : decide (2000 < (l0.length : Int)) = true := decide_eq_true c7
      have c7b1 : decide (2000 < l0.length) = true := decide_eq_true (by omega)
      clear c7
      (first | rw [c7b0] | (simp only [i64_w, i32_w]; rw [c7b0]) | skip)
      have H' := Aside0.mk H
      clear H
      go_wp2
      go_meet
      case rel => exact ⟨_, (true), (by first | rfl | (simp; done) | (simp [*]; done)), H', ⟨by first | omega | exact Nat.le_refl _⟩, ⟨by repeat (first | (with_reducible first | exact HB.out | apply below_alloc | apply pw_below_drewN | apply below_drew1) | exact HB.out)⟩⟩
    · rw [if_neg c7] at H
      have c7b0 : decide (2000 < (l0.length : Int)) = false := decide_eq_false c7
      have c7b1 : decide (2000 < l0.length) = false := decide_eq_false (by omega)
      clear c7
      (first | rw [c7b0] | (simp only [i64_w, i32_w]; rw [c7b0]) | skip)
      have H' := Aside0.mk H
      clear H
      go_wp2
      go_meet
      case rel => exact ⟨_, (decide ((l1.length : Int) > 2000)), (by first | rfl | (simp; done) | (simp [*]; done)), H', ⟨by first | omega | exact Nat.le_refl _⟩, ⟨by repeat (first | (with_reducible first | exact HB.out | apply below_alloc | apply pw_below_drewN | apply below_drew1) | exact HB.out)⟩⟩
  case rest =>
    clear HC5
    try clear c1
    try clear p2
    try clear c6
    try clear c7
    try clear c7b0
    try clear c7b1
    obtain ⟨kq, x18_4, rfl, HA, HJ4, HB⟩ := hcut
    cases kq with
    | zero => exact absurd HA.out (by simp [godwitlaw02_CrcJoins.j0])
    | succ kj4 =>
      have H := HA.out
      clear HA
      simp only [godwitlaw02_CrcJoins.j0] at H
      by_cases c8 : x18_4 = true
      · subst c8
        have H1 : (some t139) = some r := by rw [if_pos rfl] at H; exact H
        clear H
        have H := H1
        clear H1
        obtain rfl := Option.some.inj H
        go_wp2
        go_ret
        exact ⟨by first | rfl | (simp [errW_none, errW_some] <;> rfl) | (simp [*, errW_none, errW_some] <;> rfl), by repeat (first | (with_reducible first | exact HB.out | apply below_alloc | apply pw_below_drewN | apply below_drew1) | exact HB.out)⟩
      · replace c8 := Bool.eq_false_iff.mpr c8
        subst c8
        have H1 : ((some (([] : List Int) : List Int)).bind fun y140 => (if y140.length + l0.length < 140737488355328 then ((some (y140 ++ l0 : List Int)).bind fun y143 => (if y143.length + l1.length < 140737488355328 then ((some (y143 ++ l1 : List Int)).bind fun y146 => ((crc_More.f a2 l0).bind fun t149 => (if t139 = true then ((crc_Of.f y146).bind fun t150 => ((crc_Of.f l0).bind fun t151 => ((crc_More.f t151 l1).bind fun t152 => (if t150 = t152 then ((crc_Of.f y146).bind fun t153 => ((crc_Of.f l0).bind fun t154 => ((crc_Of.f l1).bind fun t155 => ((crc_Join.f t154 t155 (l1.length : Int)).bind fun t156 => (if t153 = t156 then ((crc_More.f a2 y146).bind fun t157 => ((crc_More.f t149 l1).bind fun t158 => (some (t157 == t158)))) else (none)))))) else (none))))) else (none)))) else (none))) else (none))) = some r := by rw [if_neg (show ¬ (false = true) by decide)] at H; exact H
        clear H
        have H := H1
        clear H1
        obtain ⟨y140, hy140⟩ : ∃ y_ : List Int, y_ = (([] : List Int)) := ⟨_, rfl⟩
        replace H : (if y140.length + l0.length < 140737488355328 then ((some (y140 ++ l0 : List Int)).bind fun y143 => (if y143.length + l1.length < 140737488355328 then ((some (y143 ++ l1 : List Int)).bind fun y146 => ((crc_More.f a2 l0).bind fun t149 => (if t139 = true then ((crc_Of.f y146).bind fun t150 => ((crc_Of.f l0).bind fun t151 => ((crc_More.f t151 l1).bind fun t152 => (if t150 = t152 then ((crc_Of.f y146).bind fun t153 => ((crc_Of.f l0).bind fun t154 => ((crc_Of.f l1).bind fun t155 => ((crc_Join.f t154 t155 (l1.length : Int)).bind fun t156 => (if t153 = t156 then ((crc_More.f a2 y146).bind fun t157 => ((crc_More.f t149 l1).bind fun t158 => (some (t157 == t158)))) else (none)))))) else (none))))) else (none)))) else (none))) else (none)) = some r := by first | (rw [hy140]; with_reducible exact H) | (have H2_ := (Option.bind_some _ _).symm.trans H; rw [hy140]; with_reducible exact H2_) | (have H2_ := (Option.bind_some _ _).symm.trans H; with_reducible exact H2_) | with_reducible exact H | (rw [hy140]; exact H) | exact H
        have Ny140 := Aside0.mk hy140
        clear hy140
        by_cases c9 : y140.length + l0.length < 140737488355328
        · rw [if_pos c9] at H
          have LMc9 := Aside0.mk c9
          clear c9
          obtain ⟨y143, hy143⟩ : ∃ y_ : List Int, y_ = (y140 ++ l0) := ⟨_, rfl⟩
          replace H : (if y143.length + l1.length < 140737488355328 then ((some (y143 ++ l1 : List Int)).bind fun y146 => ((crc_More.f a2 l0).bind fun t149 => (if t139 = true then ((crc_Of.f y146).bind fun t150 => ((crc_Of.f l0).bind fun t151 => ((crc_More.f t151 l1).bind fun t152 => (if t150 = t152 then ((crc_Of.f y146).bind fun t153 => ((crc_Of.f l0).bind fun t154 => ((crc_Of.f l1).bind fun t155 => ((crc_Join.f t154 t155 (l1.length : Int)).bind fun t156 => (if t153 = t156 then ((crc_More.f a2 y146).bind fun t157 => ((crc_More.f t149 l1).bind fun t158 => (some (t157 == t158)))) else (none)))))) else (none))))) else (none)))) else (none)) = some r := by first | (rw [hy143]; with_reducible exact H) | (have H2_ := (Option.bind_some _ _).symm.trans H; rw [hy143]; with_reducible exact H2_) | (have H2_ := (Option.bind_some _ _).symm.trans H; with_reducible exact H2_) | with_reducible exact H | (rw [hy143]; exact H) | exact H
          have Ny143 := Aside0.mk hy143
          clear hy143
          by_cases c10 : y143.length + l1.length < 140737488355328
          · rw [if_pos c10] at H
            have LMc10 := Aside0.mk c10
            clear c10
            obtain ⟨y146, hy146⟩ : ∃ y_ : List Int, y_ = (y143 ++ l1) := ⟨_, rfl⟩
            replace H : ((crc_More.f a2 l0).bind fun t149 => (if t139 = true then ((crc_Of.f y146).bind fun t150 => ((crc_Of.f l0).bind fun t151 => ((crc_More.f t151 l1).bind fun t152 => (if t150 = t152 then ((crc_Of.f y146).bind fun t153 => ((crc_Of.f l0).bind fun t154 => ((crc_Of.f l1).bind fun t155 => ((crc_Join.f t154 t155 (l1.length : Int)).bind fun t156 => (if t153 = t156 then ((crc_More.f a2 y146).bind fun t157 => ((crc_More.f t149 l1).bind fun t158 => (some (t157 == t158)))) else (none)))))) else (none))))) else (none))) = some r := by first | (rw [hy146]; with_reducible exact H) | (have H2_ := (Option.bind_some _ _).symm.trans H; rw [hy146]; with_reducible exact H2_) | (have H2_ := (Option.bind_some _ _).symm.trans H; with_reducible exact H2_) | with_reducible exact H | (rw [hy146]; exact H) | exact H
            have Ny146 := Aside0.mk hy146
            clear hy146
            replace H := Option.bind_eq_some_iff.mp H
            obtain ⟨t149, A110, H⟩ := H
            replace H : (if t139 = true then ((crc_Of.f y146).bind fun t150 => ((crc_Of.f l0).bind fun t151 => ((crc_More.f t151 l1).bind fun t152 => (if t150 = t152 then ((crc_Of.f y146).bind fun t153 => ((crc_Of.f l0).bind fun t154 => ((crc_Of.f l1).bind fun t155 => ((crc_Join.f t154 t155 (l1.length : Int)).bind fun t156 => (if t153 = t156 then ((crc_More.f a2 y146).bind fun t157 => ((crc_More.f t149 l1).bind fun t158 => (some (t157 == t158)))) else (none)))))) else (none))))) else (none)) = some r := H
            have A11 := Aside0.mk A110
            clear A110
            by_cases c12 : t139 = true
            · subst c12
              have H1 : ((crc_Of.f y146).bind fun t150 => ((crc_Of.f l0).bind fun t151 => ((crc_More.f t151 l1).bind fun t152 => (if t150 = t152 then ((crc_Of.f y146).bind fun t153 => ((crc_Of.f l0).bind fun t154 => ((crc_Of.f l1).bind fun t155 => ((crc_Join.f t154 t155 (l1.length : Int)).bind fun t156 => (if t153 = t156 then ((crc_More.f a2 y146).bind fun t157 => ((crc_More.f t149 l1).bind fun t158 => (some (t157 == t158)))) else (none)))))) else (none))))) = some r := by rw [if_pos rfl] at H; exact H
              clear H
              have H := H1
              clear H1
              replace H := Option.bind_eq_some_iff.mp H
              obtain ⟨t150, A130, H⟩ := H
              replace H : ((crc_Of.f l0).bind fun t151 => ((crc_More.f t151 l1).bind fun t152 => (if t150 = t152 then ((crc_Of.f y146).bind fun t153 => ((crc_Of.f l0).bind fun t154 => ((crc_Of.f l1).bind fun t155 => ((crc_Join.f t154 t155 (l1.length : Int)).bind fun t156 => (if t153 = t156 then ((crc_More.f a2 y146).bind fun t157 => ((crc_More.f t149 l1).bind fun t158 => (some (t157 == t158)))) else (none)))))) else (none)))) = some r := H
              have A13 := Aside0.mk A130
              clear A130
              replace H := Option.bind_eq_some_iff.mp H
              obtain ⟨t151, A140, H⟩ := H
              replace H : ((crc_More.f t151 l1).bind fun t152 => (if t150 = t152 then ((crc_Of.f y146).bind fun t153 => ((crc_Of.f l0).bind fun t154 => ((crc_Of.f l1).bind fun t155 => ((crc_Join.f t154 t155 (l1.length : Int)).bind fun t156 => (if t153 = t156 then ((crc_More.f a2 y146).bind fun t157 => ((crc_More.f t149 l1).bind fun t158 => (some (t157 == t158)))) else (none)))))) else (none))) = some r := H
              have A14 := Aside0.mk A140
              clear A140
              replace H := Option.bind_eq_some_iff.mp H
              obtain ⟨t152, A150, H⟩ := H
              replace H : (if t150 = t152 then ((crc_Of.f y146).bind fun t153 => ((crc_Of.f l0).bind fun t154 => ((crc_Of.f l1).bind fun t155 => ((crc_Join.f t154 t155 (l1.length : Int)).bind fun t156 => (if t153 = t156 then ((crc_More.f a2 y146).bind fun t157 => ((crc_More.f t149 l1).bind fun t158 => (some (t157 == t158)))) else (none)))))) else (none)) = some r := H
              have A15 := Aside0.mk A150
              clear A150
              by_cases c16 : t150 = t152
              · rw [if_pos c16] at H
                have c16b0 : (t150 == t152) = true := beq_iff_eq.mpr c16
                have c16b1 : (t150 != t152) = false := bne_eq_false_iff_eq.mpr c16
                clear c16
                replace H := Option.bind_eq_some_iff.mp H
                obtain ⟨t153_, A170, H⟩ := H
                obtain rfl : t150 = t153_ := Option.some.inj (A13.out.symm.trans A170)
                replace H : ((crc_Of.f l0).bind fun t154 => ((crc_Of.f l1).bind fun t155 => ((crc_Join.f t154 t155 (l1.length : Int)).bind fun t156 => (if t150 = t156 then ((crc_More.f a2 y146).bind fun t157 => ((crc_More.f t149 l1).bind fun t158 => (some (t157 == t158)))) else (none))))) = some r := H
                have A17 := Aside0.mk A170
                clear A170
                replace H := Option.bind_eq_some_iff.mp H
                obtain ⟨t154_, A180, H⟩ := H
                obtain rfl : t151 = t154_ := Option.some.inj (A14.out.symm.trans A180)
                replace H : ((crc_Of.f l1).bind fun t155 => ((crc_Join.f t151 t155 (l1.length : Int)).bind fun t156 => (if t150 = t156 then ((crc_More.f a2 y146).bind fun t157 => ((crc_More.f t149 l1).bind fun t158 => (some (t157 == t158)))) else (none)))) = some r := H
                have A18 := Aside0.mk A180
                clear A180
                replace H := Option.bind_eq_some_iff.mp H
                obtain ⟨t155, A190, H⟩ := H
                replace H : ((crc_Join.f t151 t155 (l1.length : Int)).bind fun t156 => (if t150 = t156 then ((crc_More.f a2 y146).bind fun t157 => ((crc_More.f t149 l1).bind fun t158 => (some (t157 == t158)))) else (none))) = some r := H
                have A19 := Aside0.mk A190
                clear A190
                replace H := Option.bind_eq_some_iff.mp H
                obtain ⟨t156, A200, H⟩ := H
                replace H : (if t150 = t156 then ((crc_More.f a2 y146).bind fun t157 => ((crc_More.f t149 l1).bind fun t158 => (some (t157 == t158)))) else (none)) = some r := H
                have A20 := Aside0.mk A200
                clear A200
                by_cases c21 : t150 = t156
                · rw [if_pos c21] at H
                  have c21b0 : (t150 == t156) = true := beq_iff_eq.mpr c21
                  have c21b1 : (t150 != t156) = false := bne_eq_false_iff_eq.mpr c21
                  clear c21
                  replace H := Option.bind_eq_some_iff.mp H
                  obtain ⟨t157, A220, H⟩ := H
                  replace H : ((crc_More.f t149 l1).bind fun t158 => (some (t157 == t158))) = some r := H
                  have A22 := Aside0.mk A220
                  clear A220
                  replace H := Option.bind_eq_some_iff.mp H
                  obtain ⟨t158, A230, H⟩ := H
                  replace H : (some (t157 == t158)) = some r := H
                  have A23 := Aside0.mk A230
                  clear A230
                  obtain rfl := Option.some.inj H
                  go_wp2_with (first | ((with_reducible refine gate_dst (N := 20) rfl ?_); (try (refine gate_guard (by rfl) ?_; dsimp only)); refine Kd.R_lit (Kd.int .u8) _ 5 ?hg (N := 20) ?hd (xs := ([] : List Int)) (inner := []) (ok := fun _ => True) (okp := fun _ => True) ?hr ?hp (fun _ hk => hk) trivial (Below.refl _ _) (Nat.le_refl _) (by simp) ?_; (case hd => rfl); (case hg => rfl); (case hr => first | (go_simp; done) | (go_simp; rfl)); (case hp => exact (Reps.none _ _)); intro v141 w24 ho25 hb hg_ hnew_; clear hg_ hnew_; (first | rw [← Ny140.out] at ho25 | (simp only [Int.reduceToNat] at ho25; rw [← Ny140.out] at ho25)); have n0_ := Aside0.mk (Kd.R_lower ho25 (below_size (by repeat (first | (with_reducible first | exact HB.out | apply below_alloc | apply pw_below_drewN | apply below_drew1) | exact HB.out)))); have n1_ := Aside0.mk (below_step (by repeat (first | (with_reducible first | exact HB.out | apply below_alloc | apply pw_below_drewN | apply below_drew1) | exact HB.out)) hb); clear HB; have HO142 := n0_; have HB := n1_; clear n0_ n1_; clear hb ho25) | ((with_reducible refine gate_builtin (b := .append) (xs := #[.tmp 20, .tmp 21]) rfl ?_); (try (refine gate_guard (by rfl) ?_; dsimp only)); at_builtin; refine Kd.R_append_rows (Kd.int .u8) (w0 := w) w.heap.size rfl (.tmp 20) (.tmp 21) 22 5 (.int .u8 0) 1 rfl Try.underlying22 info5 rfl (by decide) (by omega) v141 y140 l0 _ _ _ (fun _ => True) (fun _ => False) rfl rfl ?aO ?aR (fun _ _ h => h) (fun _ h => h.elim) ?aF ?aB ?aS ?aL ?_; (case aR => repeat (first | exact (Kd.C_below HR0.out HB.out) | (with_reducible refine Kd.C_alloc ?_ _) | (with_reducible refine Kd.C_drewN ?_ _) | (with_reducible refine Kd.C_drew ?_))); (case aB => exact (by repeat (first | (with_reducible first | exact HB.out | apply below_alloc | apply pw_below_drewN | apply below_drew1) | exact HB.out))); (case aF => exact (fun _ _ => trivial)); (case aO => exact (by (with_reducible repeat (first | apply Kd.R_alloc | apply Kd.R_drewN | apply Kd.R_drew)); exact HO142.out)); (case aS => exact (below_size (by repeat (first | (with_reducible first | exact HB.out | apply below_alloc | apply pw_below_drewN | apply below_drew1) | exact HB.out)))); (case aL => have := LMc9.out; omega); intro v144 w26 ho hb hg hat; rw [← Ny143.out] at ho; have n0_ := Aside0.mk (hb); have n1_ := Aside0.mk (ho); clear HB; clear HO142; have HB := n0_; have HO145 := n1_; clear n0_ n1_; clear ho hb hg hat) | ((with_reducible refine gate_builtin (b := .append) (xs := #[.tmp 22, .tmp 23]) rfl ?_); (try (refine gate_guard (by rfl) ?_; dsimp only)); at_builtin; refine Kd.R_append_rows (Kd.int .u8) (w0 := w) w.heap.size rfl (.tmp 22) (.tmp 23) 22 5 (.int .u8 0) 1 rfl Try.underlying22 info5 rfl (by decide) (by omega) v144 y143 l1 _ _ _ (fun _ => True) (fun _ => False) rfl rfl ?aO ?aR (fun _ _ h => h) (fun _ h => h.elim) ?aF ?aB ?aS ?aL ?_; (case aR => repeat (first | exact (Kd.C_below HR1.out HB.out) | (with_reducible refine Kd.C_alloc ?_ _) | (with_reducible refine Kd.C_drewN ?_ _) | (with_reducible refine Kd.C_drew ?_))); (case aB => exact (by repeat (first | (with_reducible first | exact HB.out | apply below_alloc | apply pw_below_drewN | apply below_drew1) | exact HB.out))); (case aF => exact (fun _ _ => trivial)); (case aO => exact (by (with_reducible repeat (first | apply Kd.R_alloc | apply Kd.R_drewN | apply Kd.R_drew)); exact HO145.out)); (case aS => exact (below_size (by repeat (first | (with_reducible first | exact HB.out | apply below_alloc | apply pw_below_drewN | apply below_drew1) | exact HB.out)))); (case aL => have := LMc10.out; omega); intro v147 w27 ho hb hg hat; rw [← Ny146.out] at ho; have n0_ := Aside0.mk (hb); have n1_ := Aside0.mk (ho); clear HB; clear HO145; have HB := n0_; have HO148 := n1_; clear n0_ n1_; clear ho hb hg hat) | ((with_reducible refine gate_callee (f := 12) rfl ?_); refine goesL_ (some 27) rfl rfl Try.func12 (by kernel_rfl) rfl #[.int .u32 a2, .slice A0 l0.length c0] rfl (by (try simp only [List.map_toArray, List.map_cons, List.map_nil]); first | done | rfl | (simp only [List.length_drop, List.length_take]; rfl)) ?_; (with_reducible refine (crc_More.calls a2 _ _ l0 t149 _ ?side1 ?side2 A11.out).mono ?_); (case side1 => repeat (first | exact (Kd.C_below HR0.out HB.out) | (with_reducible refine Kd.C_alloc ?_ _) | (with_reducible refine Kd.C_drewN ?_ _) | (with_reducible refine Kd.C_drew ?_))); (case side2 => exact HC0.out); rintro e w28 ⟨rfl, hb⟩; refine ⟨_, rfl, ?_⟩; have n0_ := Aside0.mk (Kd.R_below (by (with_reducible repeat (first | apply Kd.R_alloc | apply Kd.R_drewN | apply Kd.R_drew)); exact HO148.out) hb); have n1_ := Aside0.mk (below_step (by repeat (first | (with_reducible first | exact HB.out | apply below_alloc | apply pw_below_drewN | apply below_drew1) | exact HB.out)) hb); clear HO148; clear HB; have HO148 := n0_; have HB := n1_; clear n0_ n1_; (try clear hb); (try clear hb2); (try clear hk); (try clear hi); obtain ⟨Ao29, co29, eo29⟩ := Kd.R_slice HO148.out; subst eo29) | (go_at_call 10; (with_reducible refine (crc_Of.calls _ _ y146 t150 _ ?side1 ?side2 A13.out).mono ?_); (case side1 => repeat (first | exact (Kd.R_reads' HO148.out).2.2 | (with_reducible refine Kd.C_alloc ?_ _) | (with_reducible refine Kd.C_drewN ?_ _) | (with_reducible refine Kd.C_drew ?_))); (case side2 => exact (Kd.R_reads' HO148.out).2.1); rintro e w30 ⟨rfl, hb⟩; have n0_ := Aside0.mk (Kd.R_below (by (with_reducible repeat (first | apply Kd.R_alloc | apply Kd.R_drewN | apply Kd.R_drew)); exact HO148.out) hb); have n1_ := Aside0.mk (below_step (by repeat (first | (with_reducible first | exact HB.out | apply below_alloc | apply pw_below_drewN | apply below_drew1) | exact HB.out)) hb); clear HO148; clear HB; have HO148 := n0_; have HB := n1_; clear n0_ n1_; (try clear hb); (try clear hb2); (try clear hk); (try clear hi)) | (go_at_call 10; (with_reducible refine (crc_Of.calls _ _ l0 t151 _ ?side1 ?side2 A14.out).mono ?_); (case side1 => repeat (first | exact (Kd.C_below HR0.out HB.out) | (with_reducible refine Kd.C_alloc ?_ _) | (with_reducible refine Kd.C_drewN ?_ _) | (with_reducible refine Kd.C_drew ?_))); (case side2 => exact HC0.out); rintro e w31 ⟨rfl, hb⟩; have n0_ := Aside0.mk (Kd.R_below (by (with_reducible repeat (first | apply Kd.R_alloc | apply Kd.R_drewN | apply Kd.R_drew)); exact HO148.out) hb); have n1_ := Aside0.mk (below_step (by repeat (first | (with_reducible first | exact HB.out | apply below_alloc | apply pw_below_drewN | apply below_drew1) | exact HB.out)) hb); clear HO148; clear HB; have HO148 := n0_; have HB := n1_; clear n0_ n1_; (try clear hb); (try clear hb2); (try clear hk); (try clear hi)) | (go_at_call 12; (with_reducible refine (crc_More.calls t151 _ _ l1 t152 _ ?side1 ?side2 A15.out).mono ?_); (case side1 => repeat (first | exact (Kd.C_below HR1.out HB.out) | (with_reducible refine Kd.C_alloc ?_ _) | (with_reducible refine Kd.C_drewN ?_ _) | (with_reducible refine Kd.C_drew ?_))); (case side2 => exact HC1.out); rintro e w32 ⟨rfl, hb⟩; have n0_ := Aside0.mk (Kd.R_below (by (with_reducible repeat (first | apply Kd.R_alloc | apply Kd.R_drewN | apply Kd.R_drew)); exact HO148.out) hb); have n1_ := Aside0.mk (below_step (by repeat (first | (with_reducible first | exact HB.out | apply below_alloc | apply pw_below_drewN | apply below_drew1) | exact HB.out)) hb); clear HO148; clear HB; have HO148 := n0_; have HB := n1_; clear n0_ n1_; (try clear hb); (try clear hb2); (try clear hk); (try clear hi)) | (go_at_call 10; (with_reducible refine (crc_Of.calls _ _ y146 t150 _ ?side1 ?side2 A17.out).mono ?_); (case side1 => repeat (first | exact (Kd.R_reads' HO148.out).2.2 | (with_reducible refine Kd.C_alloc ?_ _) | (with_reducible refine Kd.C_drewN ?_ _) | (with_reducible refine Kd.C_drew ?_))); (case side2 => exact (Kd.R_reads' HO148.out).2.1); rintro e w33 ⟨rfl, hb⟩; have n0_ := Aside0.mk (Kd.R_below (by (with_reducible repeat (first | apply Kd.R_alloc | apply Kd.R_drewN | apply Kd.R_drew)); exact HO148.out) hb); have n1_ := Aside0.mk (below_step (by repeat (first | (with_reducible first | exact HB.out | apply below_alloc | apply pw_below_drewN | apply below_drew1) | exact HB.out)) hb); clear HO148; clear HB; have HO148 := n0_; have HB := n1_; clear n0_ n1_; (try clear hb); (try clear hb2); (try clear hk); (try clear hi)) | (go_at_call 10; (with_reducible refine (crc_Of.calls _ _ l0 t151 _ ?side1 ?side2 A18.out).mono ?_); (case side1 => repeat (first | exact (Kd.C_below HR0.out HB.out) | (with_reducible refine Kd.C_alloc ?_ _) | (with_reducible refine Kd.C_drewN ?_ _) | (with_reducible refine Kd.C_drew ?_))); (case side2 => exact HC0.out); rintro e w34 ⟨rfl, hb⟩; have n0_ := Aside0.mk (Kd.R_below (by (with_reducible repeat (first | apply Kd.R_alloc | apply Kd.R_drewN | apply Kd.R_drew)); exact HO148.out) hb); have n1_ := Aside0.mk (below_step (by repeat (first | (with_reducible first | exact HB.out | apply below_alloc | apply pw_below_drewN | apply below_drew1) | exact HB.out)) hb); clear HO148; clear HB; have HO148 := n0_; have HB := n1_; clear n0_ n1_; (try clear hb); (try clear hb2); (try clear hk); (try clear hi)) | (go_at_call 10; (with_reducible refine (crc_Of.calls _ _ l1 t155 _ ?side1 ?side2 A19.out).mono ?_); (case side1 => repeat (first | exact (Kd.C_below HR1.out HB.out) | (with_reducible refine Kd.C_alloc ?_ _) | (with_reducible refine Kd.C_drewN ?_ _) | (with_reducible refine Kd.C_drew ?_))); (case side2 => exact HC1.out); rintro e w35 ⟨rfl, hb⟩; have n0_ := Aside0.mk (Kd.R_below (by (with_reducible repeat (first | apply Kd.R_alloc | apply Kd.R_drewN | apply Kd.R_drew)); exact HO148.out) hb); have n1_ := Aside0.mk (below_step (by repeat (first | (with_reducible first | exact HB.out | apply below_alloc | apply pw_below_drewN | apply below_drew1) | exact HB.out)) hb); clear HO148; clear HB; have HO148 := n0_; have HB := n1_; clear n0_ n1_; (try clear hb); (try clear hb2); (try clear hk); (try clear hi)) | (go_at_call 13; (with_reducible refine (crc_Join.calls t151 t155 (l1.length : Int) t156 _ A20.out).mono ?_); rintro e w36 ⟨rfl, hb⟩; have n0_ := Aside0.mk (Kd.R_below (by (with_reducible repeat (first | apply Kd.R_alloc | apply Kd.R_drewN | apply Kd.R_drew)); exact HO148.out) hb); have n1_ := Aside0.mk (below_step (by repeat (first | (with_reducible first | exact HB.out | apply below_alloc | apply pw_below_drewN | apply below_drew1) | exact HB.out)) hb); clear HO148; clear HB; have HO148 := n0_; have HB := n1_; clear n0_ n1_; (try clear hb); (try clear hb2); (try clear hk); (try clear hi)) | (go_at_call 12; (with_reducible refine (crc_More.calls a2 _ _ y146 t157 _ ?side1 ?side2 A22.out).mono ?_); (case side1 => repeat (first | exact (Kd.R_reads' HO148.out).2.2 | (with_reducible refine Kd.C_alloc ?_ _) | (with_reducible refine Kd.C_drewN ?_ _) | (with_reducible refine Kd.C_drew ?_))); (case side2 => exact (Kd.R_reads' HO148.out).2.1); rintro e w37 ⟨rfl, hb⟩; have n0_ := Aside0.mk (Kd.R_below (by (with_reducible repeat (first | apply Kd.R_alloc | apply Kd.R_drewN | apply Kd.R_drew)); exact HO148.out) hb); have n1_ := Aside0.mk (below_step (by repeat (first | (with_reducible first | exact HB.out | apply below_alloc | apply pw_below_drewN | apply below_drew1) | exact HB.out)) hb); clear HO148; clear HB; have HO148 := n0_; have HB := n1_; clear n0_ n1_; (try clear hb); (try clear hb2); (try clear hk); (try clear hi)) | (go_at_call 12; (with_reducible refine (crc_More.calls t149 _ _ l1 t158 _ ?side1 ?side2 A23.out).mono ?_); (case side1 => repeat (first | exact (Kd.C_below HR1.out HB.out) | (with_reducible refine Kd.C_alloc ?_ _) | (with_reducible refine Kd.C_drewN ?_ _) | (with_reducible refine Kd.C_drew ?_))); (case side2 => exact HC1.out); rintro e w38 ⟨rfl, hb⟩; have n0_ := Aside0.mk (Kd.R_below (by (with_reducible repeat (first | apply Kd.R_alloc | apply Kd.R_drewN | apply Kd.R_drew)); exact HO148.out) hb); have n1_ := Aside0.mk (below_step (by repeat (first | (with_reducible first | exact HB.out | apply below_alloc | apply pw_below_drewN | apply below_drew1) | exact HB.out)) hb); clear HO148; clear HB; have HO148 := n0_; have HB := n1_; clear n0_ n1_; (try clear hb); (try clear hb2); (try clear hk); (try clear hi)))
                  go_ret
                  first | (with_reducible exact (clash2 A23 A22).elim) | (with_reducible exact (clash2 A22 A23).elim) | (with_reducible exact (clash2 A23 A20).elim) | (with_reducible exact (clash2 A20 A23).elim) | (with_reducible exact (clash2 A23 A19).elim) | (with_reducible exact (clash2 A19 A23).elim) | (with_reducible exact (clash2 A23 A18).elim) | (with_reducible exact (clash2 A18 A23).elim) | (with_reducible exact (clash2 A23 A17).elim) | (with_reducible exact (clash2 A17 A23).elim) | (with_reducible exact (clash2 A23 A15).elim) | (with_reducible exact (clash2 A15 A23).elim) | (with_reducible exact (clash2 A23 A14).elim) | (with_reducible exact (clash2 A14 A23).elim) | (with_reducible exact (clash2 A23 A13).elim) | (with_reducible exact (clash2 A13 A23).elim) | (with_reducible exact (clash2 A23 A11).elim) | (with_reducible exact (clash2 A11 A23).elim) | (with_reducible exact (clash2 A23 A4).elim) | (with_reducible exact (clash2 A4 A23).elim) | (with_reducible exact (clash2 A22 A20).elim) | (with_reducible exact (clash2 A20 A22).elim) | (with_reducible exact (clash2 A22 A19).elim) | (with_reducible exact (clash2 A19 A22).elim) | (with_reducible exact (clash2 A22 A18).elim) | (with_reducible exact (clash2 A18 A22).elim) | (with_reducible exact (clash2 A22 A17).elim) | (with_reducible exact (clash2 A17 A22).elim) | (with_reducible exact (clash2 A22 A15).elim) | (with_reducible exact (clash2 A15 A22).elim) | (with_reducible exact (clash2 A22 A14).elim) | (with_reducible exact (clash2 A14 A22).elim) | (with_reducible exact (clash2 A22 A13).elim) | (with_reducible exact (clash2 A13 A22).elim) | (with_reducible exact (clash2 A22 A11).elim) | (with_reducible exact (clash2 A11 A22).elim) | (with_reducible exact (clash2 A22 A4).elim) | (with_reducible exact (clash2 A4 A22).elim) | (with_reducible exact (clash2 A20 A19).elim) | (with_reducible exact (clash2 A19 A20).elim) | (with_reducible exact (clash2 A20 A18).elim) | (with_reducible exact (clash2 A18 A20).elim) | (with_reducible exact (clash2 A20 A17).elim) | (with_reducible exact (clash2 A17 A20).elim) | (with_reducible exact (clash2 A20 A15).elim) | (with_reducible exact (clash2 A15 A20).elim) | (with_reducible exact (clash2 A20 A14).elim) | (with_reducible exact (clash2 A14 A20).elim) | (with_reducible exact (clash2 A20 A13).elim) | (with_reducible exact (clash2 A13 A20).elim) | (with_reducible exact (clash2 A20 A11).elim) | (with_reducible exact (clash2 A11 A20).elim) | (with_reducible exact (clash2 A20 A4).elim) | (with_reducible exact (clash2 A4 A20).elim) | (with_reducible exact (clash2 A19 A18).elim) | (with_reducible exact (clash2 A18 A19).elim) | (with_reducible exact (clash2 A19 A17).elim) | (with_reducible exact (clash2 A17 A19).elim) | (with_reducible exact (clash2 A19 A15).elim) | (with_reducible exact (clash2 A15 A19).elim) | (with_reducible exact (clash2 A19 A14).elim) | (with_reducible exact (clash2 A14 A19).elim) | (with_reducible exact (clash2 A19 A13).elim) | (with_reducible exact (clash2 A13 A19).elim) | (with_reducible exact (clash2 A19 A11).elim) | (with_reducible exact (clash2 A11 A19).elim) | (with_reducible exact (clash2 A19 A4).elim) | (with_reducible exact (clash2 A4 A19).elim) | (with_reducible exact (clash2 A18 A17).elim) | (with_reducible exact (clash2 A17 A18).elim) | (with_reducible exact (clash2 A18 A15).elim) | (with_reducible exact (clash2 A15 A18).elim) | (with_reducible exact (clash2 A18 A14).elim) | (with_reducible exact (clash2 A14 A18).elim) | (with_reducible exact (clash2 A18 A13).elim) | (with_reducible exact (clash2 A13 A18).elim) | (with_reducible exact (clash2 A18 A11).elim) | (with_reducible exact (clash2 A11 A18).elim) | (with_reducible exact (clash2 A18 A4).elim) | (with_reducible exact (clash2 A4 A18).elim) | (with_reducible exact (clash2 A17 A15).elim) | (with_reducible exact (clash2 A15 A17).elim) | (with_reducible exact (clash2 A17 A14).elim) | (with_reducible exact (clash2 A14 A17).elim) | (with_reducible exact (clash2 A17 A13).elim) | (with_reducible exact (clash2 A13 A17).elim) | (with_reducible exact (clash2 A17 A11).elim) | (with_reducible exact (clash2 A11 A17).elim) | (with_reducible exact (clash2 A17 A4).elim) | (with_reducible exact (clash2 A4 A17).elim) | (with_reducible exact (clash2 A15 A14).elim) | (with_reducible exact (clash2 A14 A15).elim) | (with_reducible exact (clash2 A15 A13).elim) | (with_reducible exact (clash2 A13 A15).elim) | (with_reducible exact (clash2 A15 A11).elim) | (with_reducible exact (clash2 A11 A15).elim) | (with_reducible exact (clash2 A15 A4).elim) | (with_reducible exact (clash2 A4 A15).elim) | (with_reducible exact (clash2 A14 A13).elim) | (with_reducible exact (clash2 A13 A14).elim) | (with_reducible exact (clash2 A14 A11).elim) | (with_reducible exact (clash2 A11 A14).elim) | (with_reducible exact (clash2 A14 A4).elim) | (with_reducible exact (clash2 A4 A14).elim) | (with_reducible exact (clash2 A13 A11).elim) | (with_reducible exact (clash2 A11 A13).elim) | (with_reducible exact (clash2 A13 A4).elim) | (with_reducible exact (clash2 A4 A13).elim) | (with_reducible exact (clash2 A11 A4).elim) | (with_reducible exact (clash2 A4 A11).elim) | exact ⟨by first | rfl | (simp [errW_none, errW_some] <;> rfl) | (simp [*, errW_none, errW_some] <;> rfl), by repeat (first | (with_reducible first | exact HB.out | apply below_alloc | apply pw_below_drewN | apply below_drew1) | exact HB.out)⟩
                · rw [if_neg c21] at H
                  exact absurd H (by simp)
              · rw [if_neg c16] at H
                exact absurd H (by simp)
            · replace c12 := Bool.eq_false_iff.mpr c12
              subst c12
              have H1 : (none) = some r := by rw [if_neg (show ¬ (false = true) by decide)] at H; exact H
              clear H
              have H := H1
              clear H1
              exact absurd H (by simp)
          · rw [if_neg c10] at H
            exact absurd H (by simp)
        · rw [if_neg c9] at H
          exact absurd H (by simp)

/-- THE ONE PURE STATEMENT of godwitlaw02_CrcJoins. -/
def godwitlaw02_CrcJoins.Pure : Prop := ∀ (l0 : List Int) (l1 : List Int) (a2 : Int), (l0.length * 1 ≤ 140737488351232 ∧ ∀ y0_ ∈ l0, (Lit.int .u8 y0_).wf = true) → (l1.length * 1 ≤ 140737488351232 ∧ ∀ y0_ ∈ l1, (Lit.int .u8 y0_).wf = true) → ((Lit.int .u32 a2).wf = true) → ∃ k, godwitlaw02_CrcJoins.f k l0 l1 a2 = some true

end Go.Proofs.Ytfldileaolomlaa.Q
