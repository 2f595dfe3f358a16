-- written by a turned copy of the kit's printer (wip/tools/patch_print.py over print.py); contracts of given functions are this session's own
import Derived.Test.YtdjenkcafhdicaaQx0
import Derived.Test.YtdjenkcafhdicaaQx10
import Derived.Test.YtdjenkcafhdicaaQx13
import Derived.Test.YtdjenkcafhdicaaQx14
namespace Go.Proofs.Ytdjenkcafhdicaa.Q
open Go.RowKit Go.Proofs.YtdjenkcafhdicaaW.PrintWords Go.Proofs.YtdjenkcafhdicaaW.PrintLast Go.Proofs.YtdjenkcafhdicaaW.PrintMore Go.Proofs.Ytdjenkcafhdicaa.G
attribute [local go_sem] max2_int min2_int max_two min_two max_three min_three max_four min_four   -- for this text's walks alone
set_option linter.unusedVariables false
set_option linter.unusedSimpArgs false

/-! ### godwitlaw03_FrameMore: function 4 -/
def godwitlaw03_FrameMore.j0 : Nat → List Int → List Int → Bool → Bool → Option (Bool)
  | 0, _, _, _, _ => none
  | k + 1, x0, x1, x5, x24 => if x24 = true then (some x5) else ((frame_All.f k x0).bind fun bt183 => ((frame_All.f k x1).bind fun bt188 => ((some (([] : List Int) : List Int)).bind fun y193 => (if y193.length + x0.length < 140737488355328 then ((some (y193 ++ x0 : List Int)).bind fun y196 => (if y196.length + x1.length < 140737488355328 then ((frame_All.f k (y196 ++ x1)).bind fun bt202 => (if bt183.2.2 = 0 then (if bt183.1.length + bt188.1.length < 5864062014805 then (if x5 = true then (if bt183.2.1 = (x0.length : Int) then (if bt202.2.1 = (wrap64 (bt183.2.1 + bt188.2.1)) then (if bt202.2.2 = bt188.2.2 then ((godwitref03_Lists.f k bt202.1 (bt183.1 ++ bt188.1)).bind fun t210 => (some t210)) else (none)) else (none)) else (none)) else (none)) else (none)) else (if x5 = true then (some (decide ((bt202.1.length : Int) ≥ (bt183.1.length : Int)))) else (none)))) else (none))) else (none)))))
def godwitlaw03_FrameMore.f (k : Nat) (l0 : List Int) (l1 : List Int) : Option (Bool) := (godwitlaw03_awake.f k).bind fun t182 => (if (l0.length : Int) > 1000 then (godwitlaw03_FrameMore.j0 k l0 l1 t182 true) else (godwitlaw03_FrameMore.j0 k l0 l1 t182 (decide ((l1.length : Int) > 1000))))
theorem godwitlaw03_FrameMore.mono_l : ∀ k, (∀ y0 y1 y2 y3, LeO (godwitlaw03_FrameMore.j0 k y0 y1 y2 y3) (godwitlaw03_FrameMore.j0 (k + 1) y0 y1 y2 y3))
  | 0 => fun _ _ _ _ r h => by simp [godwitlaw03_FrameMore.j0] at h
  | k + 1 => by
    have ih0 := godwitlaw03_FrameMore.mono_l k
    · intro y0 y1 y2 y3
      unfold godwitlaw03_FrameMore.j0
      repeat' first
      | (with_reducible exact ih0 _ _ _ _)
      | (with_reducible exact frame_All.mono _ _)
      | (with_reducible exact godwitlaw03_awake.mono _)
      | (with_reducible exact godwitref03_Lists.mono _ _ _)
      | (with_reducible exact LeO.refl _)
      | (with_reducible exact LeO.none _)
      | (with_reducible refine LeO.ite ?_ ?_)
      | (with_reducible refine LeO.bind ?_ (fun _ => ?_))
      | exact ih0 _ _ _ _
      | exact frame_All.mono _ _
      | exact godwitlaw03_awake.mono _
      | exact godwitref03_Lists.mono _ _ _
      | exact LeO.none _
      | refine LeO.ite ?_ ?_
      | refine LeO.bind ?_ (fun _ => ?_)
theorem godwitlaw03_FrameMore.mono : ∀ a0 a1 k, LeO (godwitlaw03_FrameMore.f k a0 a1) (godwitlaw03_FrameMore.f (k + 1) a0 a1) := by
  intro a0 a1 k
  have ih0 := godwitlaw03_FrameMore.mono_l k
  unfold godwitlaw03_FrameMore.f
  repeat' first
      | (with_reducible exact ih0 _ _ _ _)
      | (with_reducible exact frame_All.mono _ _)
      | (with_reducible exact godwitlaw03_awake.mono _)
      | (with_reducible exact godwitref03_Lists.mono _ _ _)
      | (with_reducible exact LeO.refl _)
      | (with_reducible exact LeO.none _)
      | (with_reducible refine LeO.ite ?_ ?_)
      | (with_reducible refine LeO.bind ?_ (fun _ => ?_))
      | exact ih0 _ _ _ _
      | exact frame_All.mono _ _
      | exact godwitlaw03_awake.mono _
      | exact godwitref03_Lists.mono _ _ _
      | exact LeO.none _
      | refine LeO.ite ?_ ?_
      | refine LeO.bind ?_ (fun _ => ?_)
set_option maxHeartbeats 8000000 in
set_option maxRecDepth 100000 in
theorem godwitlaw03_FrameMore.calls (k : Nat) (A0 : Option Addr) (c0 : Nat) (l0 : List Int) (A1 : Option Addr) (c1 : Nat) (l1 : List Int) (r : Bool) (w : World) (hr0 : Kd.C (Kd.int .u8) w A0 l0.length l0) (hc0 : l0.length ≤ c0) (hr1 : Kd.C (Kd.int .u8) w A1 l1.length l1) (hc1 : l1.length ≤ c1) (h : godwitlaw03_FrameMore.f k l0 l1 = some r) :
    Calls Try.prog 4 #[.slice A0 l0.length c0, .slice A1 l1.length c1] w fun e w' => e = .returned (.bool r) ∧ Below w.heap.size w w' := by
  have HR0 := Aside0.mk hr0
  have HC0 := Aside0.mk hc0
  clear hr0 hc0
  have HR1 := Aside0.mk hr1
  have HC1 := Aside0.mk hc1
  clear hr1 hc1
  have HB := Aside0.mk (Below.refl w.heap.size w)
  have H : ((godwitlaw03_awake.f k).bind fun t182 => (if (l0.length : Int) > 1000 then (godwitlaw03_FrameMore.j0 k l0 l1 t182 true) else (godwitlaw03_FrameMore.j0 k l0 l1 t182 (decide ((l1.length : Int) > 1000))))) = some r := h
  clear h
  replace H := Option.bind_eq_some_iff.mp H
  obtain ⟨t182, A30, H⟩ := H
  replace H : (if (l0.length : Int) > 1000 then (godwitlaw03_FrameMore.j0 k l0 l1 t182 true) else (godwitlaw03_FrameMore.j0 k l0 l1 t182 (decide ((l1.length : Int) > 1000)))) = some r := H
  have A3 := Aside0.mk A30
  clear A30
  have HC4 := Aside0.mk H
  clear H
  go_enter Try.func4, Try.ntmps4
  go_upto_region 2 with (first | ((with_reducible refine gate_callee (f := 7) rfl ?_); refine goesL_ (some 16) rfl rfl Try.func7 (by kernel_rfl) rfl #[] rfl (by (try simp only [List.map_toArray, List.map_cons, List.map_nil]); first | done | rfl | (simp only [List.length_drop, List.length_take]; rfl)) ?_; (with_reducible refine (godwitlaw03_awake.calls k  t182 _ A3.out).mono ?_); rintro e w5 ⟨rfl, hb⟩; refine ⟨_, rfl, ?_⟩; have n0_ := Aside0.mk (below_step (by repeat (first | (with_reducible first | exact HB.out | apply below_alloc | apply pw_below_drewN | apply below_drew1) | exact HB.out)) hb); clear HB; have HB := n0_; clear n0_; (try clear hb); (try clear hb2); (try clear hk); (try clear hi)))
  (try simp only [Act.put, List.setIfInBounds_toArray, List.set_cons_zero, List.set_cons_succ])
  go_cut [24] (fun v24 wc => ∃ (kq : Nat) (x24_3 : Bool), v24 = .bool x24_3 ∧ Aside0 (godwitlaw03_FrameMore.j0 kq l0 l1 t182 x24_3 = some r) ∧ Aside0 (kq ≤ k) ∧ Aside0 (Below w.heap.size w wc))
  case first =>
    have H := HC4.out
    clear HC4
    by_cases c6 : (l0.length : Int) > 1000
    · rw [if_pos c6] at H
      have c6b0 : decide (1000 < (l0.length : Int)) = true := decide_eq_true c6
      have c6b1 : decide (1000 < l0.length) = true := decide_eq_true (by omega)
      clear c6
      (first | rw [c6b0] | (simp only [i64_w, i32_w]; rw [c6b0]) | skip)
      have H' := Aside0.mk H
      clear H
      go_wp2
      go_meet
      case rel => exact ⟨_, (true), (by first | rfl | (simp; done) | (simp [*]; done)), H', ⟨by first | omega | exact Nat.le_refl _⟩, ⟨by repeat (first | (with_reducible first | exact HB.out | apply below_alloc | apply pw_below_drewN | apply below_drew1) | exact HB.out)⟩⟩
    · rw [if_neg c6] at H
      have c6b0 : decide (1000 < (l0.length : Int)) = false := decide_eq_false c6
      have c6b1 : decide (1000 < l0.length) = false := decide_eq_false (by omega)
      clear c6
      (first | rw [c6b0] | (simp only [i64_w, i32_w]; rw [c6b0]) | skip)
      have H' := Aside0.mk H
      clear H
      go_wp2
      go_meet
      case rel => exact ⟨_, (decide ((l1.length : Int) > 1000)), (by first | rfl | (simp; done) | (simp [*]; done)), H', ⟨by first | omega | exact Nat.le_refl _⟩, ⟨by repeat (first | (with_reducible first | exact HB.out | apply below_alloc | apply pw_below_drewN | apply below_drew1) | exact HB.out)⟩⟩
  case rest =>
    clear HC4
    try clear c1
    try clear p2
    try clear c4
    try clear c6
    try clear c6b0
    try clear c6b1
    obtain ⟨kq, x24_3, rfl, HA, HJ3, HB⟩ := hcut
    cases kq with
    | zero => exact absurd HA.out (by simp [godwitlaw03_FrameMore.j0])
    | succ kj3 =>
      have H := HA.out
      clear HA
      simp only [godwitlaw03_FrameMore.j0] at H
      by_cases c7 : x24_3 = true
      · subst c7
        have H1 : (some t182) = some r := by rw [if_pos rfl] at H; exact H
        clear H
        have H := H1
        clear H1
        obtain rfl := Option.some.inj H
        go_wp2
        go_ret
        exact ⟨by first | rfl | (simp [errW_none, errW_some] <;> rfl) | (simp [*, errW_none, errW_some] <;> rfl), by repeat (first | (with_reducible first | exact HB.out | apply below_alloc | apply pw_below_drewN | apply below_drew1) | exact HB.out)⟩
      · replace c7 := Bool.eq_false_iff.mpr c7
        subst c7
        have H1 : ((frame_All.f kj3 l0).bind fun bt183 => ((frame_All.f kj3 l1).bind fun bt188 => ((some (([] : List Int) : List Int)).bind fun y193 => (if y193.length + l0.length < 140737488355328 then ((some (y193 ++ l0 : List Int)).bind fun y196 => (if y196.length + l1.length < 140737488355328 then ((frame_All.f kj3 (y196 ++ l1)).bind fun bt202 => (if bt183.2.2 = 0 then (if bt183.1.length + bt188.1.length < 5864062014805 then (if t182 = true then (if bt183.2.1 = (l0.length : Int) then (if bt202.2.1 = (wrap64 (bt183.2.1 + bt188.2.1)) then (if bt202.2.2 = bt188.2.2 then ((godwitref03_Lists.f kj3 bt202.1 (bt183.1 ++ bt188.1)).bind fun t210 => (some t210)) else (none)) else (none)) else (none)) else (none)) else (none)) else (if t182 = true then (some (decide ((bt202.1.length : Int) ≥ (bt183.1.length : Int)))) else (none)))) else (none))) else (none))))) = some r := by rw [if_neg (show ¬ (false = true) by decide)] at H; exact H
        clear H
        have H := H1
        clear H1
        replace H := Option.bind_eq_some_iff.mp H
        obtain ⟨⟨t183, t184, t185⟩, A80, H⟩ := H
        replace H : ((frame_All.f kj3 l1).bind fun bt188 => ((some (([] : List Int) : List Int)).bind fun y193 => (if y193.length + l0.length < 140737488355328 then ((some (y193 ++ l0 : List Int)).bind fun y196 => (if y196.length + l1.length < 140737488355328 then ((frame_All.f kj3 (y196 ++ l1)).bind fun bt202 => (if t185 = 0 then (if t183.length + bt188.1.length < 5864062014805 then (if t182 = true then (if t184 = (l0.length : Int) then (if bt202.2.1 = (wrap64 (t184 + bt188.2.1)) then (if bt202.2.2 = bt188.2.2 then ((godwitref03_Lists.f kj3 bt202.1 (t183 ++ bt188.1)).bind fun t210 => (some t210)) else (none)) else (none)) else (none)) else (none)) else (none)) else (if t182 = true then (some (decide ((bt202.1.length : Int) ≥ (t183.length : Int)))) else (none)))) else (none))) else (none)))) = some r := H
        have A8 := Aside0.mk A80
        clear A80
        replace H := Option.bind_eq_some_iff.mp H
        obtain ⟨⟨t188, t189, t190⟩, A90, H⟩ := H
        replace H : ((some (([] : List Int) : List Int)).bind fun y193 => (if y193.length + l0.length < 140737488355328 then ((some (y193 ++ l0 : List Int)).bind fun y196 => (if y196.length + l1.length < 140737488355328 then ((frame_All.f kj3 (y196 ++ l1)).bind fun bt202 => (if t185 = 0 then (if t183.length + t188.length < 5864062014805 then (if t182 = true then (if t184 = (l0.length : Int) then (if bt202.2.1 = (wrap64 (t184 + t189)) then (if bt202.2.2 = t190 then ((godwitref03_Lists.f kj3 bt202.1 (t183 ++ t188)).bind fun t210 => (some t210)) else (none)) else (none)) else (none)) else (none)) else (none)) else (if t182 = true then (some (decide ((bt202.1.length : Int) ≥ (t183.length : Int)))) else (none)))) else (none))) else (none))) = some r := H
        have A9 := Aside0.mk A90
        clear A90
        obtain ⟨y193, hy193⟩ : ∃ y_ : List Int, y_ = (([] : List Int)) := ⟨_, rfl⟩
        replace H : (if y193.length + l0.length < 140737488355328 then ((some (y193 ++ l0 : List Int)).bind fun y196 => (if y196.length + l1.length < 140737488355328 then ((frame_All.f kj3 (y196 ++ l1)).bind fun bt202 => (if t185 = 0 then (if t183.length + t188.length < 5864062014805 then (if t182 = true then (if t184 = (l0.length : Int) then (if bt202.2.1 = (wrap64 (t184 + t189)) then (if bt202.2.2 = t190 then ((godwitref03_Lists.f kj3 bt202.1 (t183 ++ t188)).bind fun t210 => (some t210)) else (none)) else (none)) else (none)) else (none)) else (none)) else (if t182 = true then (some (decide ((bt202.1.length : Int) ≥ (t183.length : Int)))) else (none)))) else (none))) else (none)) = some r := by first | (rw [hy193]; with_reducible exact H) | (have H2_ := (Option.bind_some _ _).symm.trans H; rw [hy193]; with_reducible exact H2_) | (have H2_ := (Option.bind_some _ _).symm.trans H; with_reducible exact H2_) | with_reducible exact H | (rw [hy193]; exact H) | exact H
        have Ny193 := Aside0.mk hy193
        clear hy193
        by_cases c10 : y193.length + l0.length < 140737488355328
        · rw [if_pos c10] at H
          have LMc10 := Aside0.mk c10
          clear c10
          obtain ⟨y196, hy196⟩ : ∃ y_ : List Int, y_ = (y193 ++ l0) := ⟨_, rfl⟩
          replace H : (if y196.length + l1.length < 140737488355328 then ((frame_All.f kj3 (y196 ++ l1)).bind fun bt202 => (if t185 = 0 then (if t183.length + t188.length < 5864062014805 then (if t182 = true then (if t184 = (l0.length : Int) then (if bt202.2.1 = (wrap64 (t184 + t189)) then (if bt202.2.2 = t190 then ((godwitref03_Lists.f kj3 bt202.1 (t183 ++ t188)).bind fun t210 => (some t210)) else (none)) else (none)) else (none)) else (none)) else (none)) else (if t182 = true then (some (decide ((bt202.1.length : Int) ≥ (t183.length : Int)))) else (none)))) else (none)) = some r := by first | (rw [hy196]; with_reducible exact H) | (have H2_ := (Option.bind_some _ _).symm.trans H; rw [hy196]; with_reducible exact H2_) | (have H2_ := (Option.bind_some _ _).symm.trans H; with_reducible exact H2_) | with_reducible exact H | (rw [hy196]; exact H) | exact H
          have Ny196 := Aside0.mk hy196
          clear hy196
          by_cases c11 : y196.length + l1.length < 140737488355328
          · rw [if_pos c11] at H
            have LMc11 := Aside0.mk c11
            clear c11
            obtain ⟨y199, hy199⟩ : ∃ y_ : List Int, y_ = (y196 ++ l1) := ⟨_, rfl⟩
            replace H : ((frame_All.f kj3 y199).bind fun bt202 => (if t185 = 0 then (if t183.length + t188.length < 5864062014805 then (if t182 = true then (if t184 = (l0.length : Int) then (if bt202.2.1 = (wrap64 (t184 + t189)) then (if bt202.2.2 = t190 then ((godwitref03_Lists.f kj3 bt202.1 (t183 ++ t188)).bind fun t210 => (some t210)) else (none)) else (none)) else (none)) else (none)) else (none)) else (if t182 = true then (some (decide ((bt202.1.length : Int) ≥ (t183.length : Int)))) else (none)))) = some r := by first | (rw [hy199]; with_reducible exact H) | (have H2_ := (Option.bind_some _ _).symm.trans H; rw [hy199]; with_reducible exact H2_) | (have H2_ := (Option.bind_some _ _).symm.trans H; with_reducible exact H2_) | with_reducible exact H | (rw [hy199]; exact H) | exact H
            have Ny199 := Aside0.mk hy199
            clear hy199
            replace H := Option.bind_eq_some_iff.mp H
            obtain ⟨⟨t202, t203, t204⟩, A120, H⟩ := H
            replace H : (if t185 = 0 then (if t183.length + t188.length < 5864062014805 then (if t182 = true then (if t184 = (l0.length : Int) then (if t203 = (wrap64 (t184 + t189)) then (if t204 = t190 then ((godwitref03_Lists.f kj3 t202 (t183 ++ t188)).bind fun t210 => (some t210)) else (none)) else (none)) else (none)) else (none)) else (none)) else (if t182 = true then (some (decide ((t202.length : Int) ≥ (t183.length : Int)))) else (none))) = some r := H
            have A12 := Aside0.mk A120
            clear A120
            by_cases c13 : t185 = 0
            · rw [if_pos c13] at H
              have c13b0 : (t185 == 0) = true := beq_iff_eq.mpr c13
              have c13b1 : (t185 != 0) = false := bne_eq_false_iff_eq.mpr c13
              clear c13
              by_cases c14 : t183.length + t188.length < 5864062014805
              · rw [if_pos c14] at H
                have LMc14 := Aside0.mk c14
                clear c14
                obtain ⟨y207, hy207⟩ : ∃ y_ : List (List Int), y_ = (t183 ++ t188) := ⟨_, rfl⟩
                replace H : (if t182 = true then (if t184 = (l0.length : Int) then (if t203 = (wrap64 (t184 + t189)) then (if t204 = t190 then ((godwitref03_Lists.f kj3 t202 y207).bind fun t210 => (some t210)) else (none)) else (none)) else (none)) else (none)) = some r := by first | (rw [hy207]; with_reducible exact H) | (have H2_ := (Option.bind_some _ _).symm.trans H; rw [hy207]; with_reducible exact H2_) | (have H2_ := (Option.bind_some _ _).symm.trans H; with_reducible exact H2_) | with_reducible exact H | (rw [hy207]; exact H) | exact H
                have Ny207 := Aside0.mk hy207
                clear hy207
                by_cases c15 : t182 = true
                · subst c15
                  have H1 : (if t184 = (l0.length : Int) then (if t203 = (wrap64 (t184 + t189)) then (if t204 = t190 then ((godwitref03_Lists.f kj3 t202 y207).bind fun t210 => (some t210)) else (none)) else (none)) else (none)) = some r := by rw [if_pos rfl] at H; exact H
                  clear H
                  have H := H1
                  clear H1
                  by_cases c16 : t184 = (l0.length : Int)
                  · rw [if_pos c16] at H
                    have c16b0 : (t184 == (l0.length : Int)) = true := beq_iff_eq.mpr c16
                    have c16b1 : (t184 != (l0.length : Int)) = false := bne_eq_false_iff_eq.mpr c16
                    clear c16
                    by_cases c17 : t203 = (wrap64 (t184 + t189))
                    · rw [if_pos c17] at H
                      have c17b0 : (t203 == (wrap64 (t184 + t189))) = true := beq_iff_eq.mpr c17
                      have c17b1 : (t203 != (wrap64 (t184 + t189))) = false := bne_eq_false_iff_eq.mpr c17
                      clear c17
                      by_cases c18 : t204 = t190
                      · rw [if_pos c18] at H
                        have c18b0 : (t204 == t190) = true := beq_iff_eq.mpr c18
                        have c18b1 : (t204 != t190) = false := bne_eq_false_iff_eq.mpr c18
                        clear c18
                        replace H := Option.bind_eq_some_iff.mp H
                        obtain ⟨t210, A190, H⟩ := H
                        replace H : (some t210) = some r := H
                        have A19 := Aside0.mk A190
                        clear A190
                        obtain rfl := Option.some.inj H
                        go_wp2_with (first | ((with_reducible refine gate_callee (f := 11) rfl ?_); refine goesL_ (some 28) rfl rfl Try.func11 (by kernel_rfl) rfl #[.slice A0 l0.length c0] rfl (by (try simp only [List.map_toArray, List.map_cons, List.map_nil]); first | done | rfl | (simp only [List.length_drop, List.length_take]; rfl)) ?_; (with_reducible refine (frame_All.calls kj3 _ _ l0 t183 t184 t185 _ ?side1 ?side2 A8.out).mono ?_); (case side1 => repeat (first | exact (Kd.C_below HR0.out HB.out) | (with_reducible refine Kd.C_alloc ?_ _) | (with_reducible refine Kd.C_drewN ?_ _) | (with_reducible refine Kd.C_drew ?_))); (case side2 => exact HC0.out); rintro e w20 ⟨v186, rfl, ho0, hb⟩; refine ⟨_, rfl, ?_⟩; have n0_ := Aside0.mk (Kd.N_lower (Kd.N_mono (ok' := fun k_ => True) (Kd.S_N (Kd.S_bound ho0)) (fun k_ hk_ => trivial)) (below_size (by repeat (first | (with_reducible first | exact HB.out | apply below_alloc | apply pw_below_drewN | apply below_drew1) | exact HB.out)))); have n1_ := Aside0.mk (below_step (by repeat (first | (with_reducible first | exact HB.out | apply below_alloc | apply pw_below_drewN | apply below_drew1) | exact HB.out)) hb); clear HB; have HO187 := n0_; have HB := n1_; clear n0_ n1_; (try clear hb); (try clear hb2); (try clear hk); (try clear hi); (try clear ho0)) | ((with_reducible refine gate_callee (f := 11) rfl ?_); refine goesL_ (some 34) rfl rfl Try.func11 (by kernel_rfl) rfl #[.slice A1 l1.length c1] rfl (by (try simp only [List.map_toArray, List.map_cons, List.map_nil]); first | done | rfl | (simp only [List.length_drop, List.length_take]; rfl)) ?_; (with_reducible refine (frame_All.calls kj3 _ _ l1 t188 t189 t190 _ ?side1 ?side2 A9.out).mono ?_); (case side1 => repeat (first | exact (Kd.C_below HR1.out HB.out) | (with_reducible refine Kd.C_alloc ?_ _) | (with_reducible refine Kd.C_drewN ?_ _) | (with_reducible refine Kd.C_drew ?_))); (case side2 => exact HC1.out); rintro e w21 ⟨v191, rfl, ho0, hb⟩; refine ⟨_, rfl, ?_⟩; have n0_ := Aside0.mk (Kd.N_elder' (by (with_reducible repeat (first | apply Kd.N_alloc | apply Kd.N_drewN | apply Kd.N_drew)); exact HO187.out) (by first | exact Kd.N_base ho0 | exact Kd.N_base (Kd.S_N ho0)) hb); have n1_ := Aside0.mk (Kd.N_lower (Kd.N_mono (ok' := fun k_ => some k_ ≠ (v186 : Value).ownBlock) (Kd.S_N (Kd.S_bound ho0)) (fun k_ hk_ => (Kd.fresh' (Kd.N_lt (by (with_reducible repeat (first | apply Kd.N_alloc | apply Kd.N_drewN | apply Kd.N_drew)); exact HO187.out)) k_ hk_.2.1))) (below_size (by repeat (first | (with_reducible first | exact HB.out | apply below_alloc | apply pw_below_drewN | apply below_drew1) | exact HB.out)))); have n2_ := Aside0.mk (below_step (by repeat (first | (with_reducible first | exact HB.out | apply below_alloc | apply pw_below_drewN | apply below_drew1) | exact HB.out)) hb); clear HO187; clear HB; have HO187 := n0_; have HO192 := n1_; have HB := n2_; clear n0_ n1_ n2_; (try clear hb); (try clear hb2); (try clear hk); (try clear hi); (try clear ho0)) | ((with_reducible refine gate_dst (N := 38) rfl ?_); (try (refine gate_guard (by rfl) ?_; dsimp only)); refine Kd.R_lit (Kd.int .u8) _ 5 ?hg (N := 38) ?hd (xs := ([] : List Int)) (inner := []) (ok := fun _ => True) (okp := fun _ => True) ?hr ?hp (fun _ hk => hk) trivial (Below.refl _ _) (Nat.le_refl _) (by simp) ?_; (case hd => rfl); (case hg => rfl); (case hr => first | (go_simp; done) | (go_simp; rfl)); (case hp => exact (Reps.none _ _)); intro v194 w22 ho23 hb hg_ hnew_; clear hg_ hnew_; (first | rw [← Ny193.out] at ho23 | (simp only [Int.reduceToNat] at ho23; rw [← Ny193.out] at ho23)); have n0_ := Aside0.mk (Kd.N_elder' (by (with_reducible repeat (first | apply Kd.N_alloc | apply Kd.N_drewN | apply Kd.N_drew)); exact HO187.out) (Kd.R_base ho23) hb); have n1_ := Aside0.mk (Kd.N_elder' (by (with_reducible repeat (first | apply Kd.N_alloc | apply Kd.N_drewN | apply Kd.N_drew)); exact HO192.out) (Kd.R_base ho23) hb); have n2_ := Aside0.mk (Kd.R_lower ho23 (below_size (by repeat (first | (with_reducible first | exact HB.out | apply below_alloc | apply pw_below_drewN | apply below_drew1) | exact HB.out)))); have n3_ := Aside0.mk (below_step (by repeat (first | (with_reducible first | exact HB.out | apply below_alloc | apply pw_below_drewN | apply below_drew1) | exact HB.out)) hb); clear HO187; clear HO192; clear HB; have HO187 := n0_; have HO192 := n1_; have HO195 := n2_; have HB := n3_; clear n0_ n1_ n2_ n3_; clear hb ho23) | ((with_reducible refine gate_builtin (b := .append) (xs := #[.tmp 38, .tmp 39]) rfl ?_); (try (refine gate_guard (by rfl) ?_; dsimp only)); at_builtin; refine Kd.R_append_rows (Kd.int .u8) (w0 := w) w.heap.size rfl (.tmp 38) (.tmp 39) 22 5 (.int .u8 0) 1 rfl Try.underlying22 info5 rfl (by decide) (by omega) v194 y193 l0 _ _ _ (fun _ => True) (fun _ => False) rfl rfl ?aO ?aR (fun _ _ h => h) (fun _ h => h.elim) ?aF ?aB ?aS ?aL ?_; (case aR => repeat (first | exact (Kd.C_below HR0.out HB.out) | (with_reducible refine Kd.C_alloc ?_ _) | (with_reducible refine Kd.C_drewN ?_ _) | (with_reducible refine Kd.C_drew ?_))); (case aB => exact (by repeat (first | (with_reducible first | exact HB.out | apply below_alloc | apply pw_below_drewN | apply below_drew1) | exact HB.out))); (case aF => exact (fun _ _ => trivial)); (case aO => exact (by (with_reducible repeat (first | apply Kd.R_alloc | apply Kd.R_drewN | apply Kd.R_drew)); exact HO195.out)); (case aS => exact (below_size (by repeat (first | (with_reducible first | exact HB.out | apply below_alloc | apply pw_below_drewN | apply below_drew1) | exact HB.out)))); (case aL => have := LMc10.out; omega); intro v197 w24 ho hb hg hat; rw [← Ny196.out] at ho; have n0_ := Aside0.mk (Kd.N_afterv (ok := (fun k_ => some k_ ≠ (v191 : Value).ownBlock)) (by (with_reducible repeat (first | apply Kd.N_alloc | apply Kd.N_drewN | apply Kd.N_drew)); exact Kd.N_mono HO187.out (fun _ hk => ⟨hk.1.2, hk.2⟩)) hg hat); have n1_ := Aside0.mk (Kd.N_afterv (ok := (fun k_ => some k_ ≠ (v186 : Value).ownBlock)) (by (with_reducible repeat (first | apply Kd.N_alloc | apply Kd.N_drewN | apply Kd.N_drew)); exact HO192.out) hg hat); have n2_ := Aside0.mk (hb); have n3_ := Aside0.mk (ho); clear HO187; clear HO192; clear HB; clear HO195; have HO187 := n0_; have HO192 := n1_; have HB := n2_; have HO198 := n3_; clear n0_ n1_ n2_ n3_; clear ho hb hg hat) | ((with_reducible refine gate_builtin (b := .append) (xs := #[.tmp 40, .tmp 41]) rfl ?_); (try (refine gate_guard (by rfl) ?_; dsimp only)); at_builtin; refine Kd.R_append_rows (Kd.int .u8) (w0 := w) w.heap.size rfl (.tmp 40) (.tmp 41) 22 5 (.int .u8 0) 1 rfl Try.underlying22 info5 rfl (by decide) (by omega) v197 y196 l1 _ _ _ (fun _ => True) (fun _ => False) rfl rfl ?aO ?aR (fun _ _ h => h) (fun _ h => h.elim) ?aF ?aB ?aS ?aL ?_; (case aR => repeat (first | exact (Kd.C_below HR1.out HB.out) | (with_reducible refine Kd.C_alloc ?_ _) | (with_reducible refine Kd.C_drewN ?_ _) | (with_reducible refine Kd.C_drew ?_))); (case aB => exact (by repeat (first | (with_reducible first | exact HB.out | apply below_alloc | apply pw_below_drewN | apply below_drew1) | exact HB.out))); (case aF => exact (fun _ _ => trivial)); (case aO => exact (by (with_reducible repeat (first | apply Kd.R_alloc | apply Kd.R_drewN | apply Kd.R_drew)); exact HO198.out)); (case aS => exact (below_size (by repeat (first | (with_reducible first | exact HB.out | apply below_alloc | apply pw_below_drewN | apply below_drew1) | exact HB.out)))); (case aL => have := LMc11.out; omega); intro v200 w25 ho hb hg hat; rw [← Ny199.out] at ho; have n0_ := Aside0.mk (Kd.N_afterv (ok := (fun k_ => some k_ ≠ (v191 : Value).ownBlock)) (by (with_reducible repeat (first | apply Kd.N_alloc | apply Kd.N_drewN | apply Kd.N_drew)); exact HO187.out) hg hat); have n1_ := Aside0.mk (Kd.N_afterv (ok := (fun k_ => some k_ ≠ (v186 : Value).ownBlock)) (by (with_reducible repeat (first | apply Kd.N_alloc | apply Kd.N_drewN | apply Kd.N_drew)); exact HO192.out) hg hat); have n2_ := Aside0.mk (hb); have n3_ := Aside0.mk (ho); clear HO187; clear HO192; clear HB; clear HO198; have HO187 := n0_; have HO192 := n1_; have HB := n2_; have HO201 := n3_; clear n0_ n1_ n2_ n3_; clear ho hb hg hat; obtain ⟨Ao26, co26, eo26⟩ := Kd.R_slice HO201.out; subst eo26) | ((with_reducible refine gate_callee (f := 11) rfl ?_); refine goesL_ (some 45) rfl rfl Try.func11 (by kernel_rfl) rfl #[.slice Ao26 y199.length co26] rfl (by (try simp only [List.map_toArray, List.map_cons, List.map_nil]); first | done | rfl | (simp only [List.length_drop, List.length_take]; rfl)) ?_; (with_reducible refine (frame_All.calls kj3 _ _ y199 t202 t203 t204 _ ?side1 ?side2 A12.out).mono ?_); (case side1 => repeat (first | exact (Kd.R_reads' HO201.out).2.2 | (with_reducible refine Kd.C_alloc ?_ _) | (with_reducible refine Kd.C_drewN ?_ _) | (with_reducible refine Kd.C_drew ?_))); (case side2 => exact (Kd.R_reads' HO201.out).2.1); rintro e w27 ⟨v205, rfl, ho0, hb⟩; refine ⟨_, rfl, ?_⟩; have n0_ := Aside0.mk (Kd.N_elder' (by (with_reducible repeat (first | apply Kd.N_alloc | apply Kd.N_drewN | apply Kd.N_drew)); exact HO187.out) (by first | exact Kd.N_base ho0 | exact Kd.N_base (Kd.S_N ho0)) hb); have n1_ := Aside0.mk (Kd.N_elder' (by (with_reducible repeat (first | apply Kd.N_alloc | apply Kd.N_drewN | apply Kd.N_drew)); exact HO192.out) (by first | exact Kd.N_base ho0 | exact Kd.N_base (Kd.S_N ho0)) hb); have n2_ := Aside0.mk (Kd.R_below (by (with_reducible repeat (first | apply Kd.R_alloc | apply Kd.R_drewN | apply Kd.R_drew)); exact HO201.out) hb); have n3_ := Aside0.mk (Kd.N_lower (Kd.N_mono (ok' := fun k_ => some k_ ≠ (v186 : Value).ownBlock ∧ some k_ ≠ (v191 : Value).ownBlock ∧ some k_ ≠ (.slice Ao26 y199.length co26 : Value).ownBlock) (Kd.S_N (Kd.S_bound ho0)) (fun k_ hk_ => ⟨(Kd.fresh' (Kd.N_lt (by (with_reducible repeat (first | apply Kd.N_alloc | apply Kd.N_drewN | apply Kd.N_drew)); exact HO187.out)) k_ hk_.2.1), (Kd.fresh' (Kd.N_lt (by (with_reducible repeat (first | apply Kd.N_alloc | apply Kd.N_drewN | apply Kd.N_drew)); exact HO192.out)) k_ hk_.2.1), (Kd.fresh' (Kd.R_lt (by (with_reducible repeat (first | apply Kd.R_alloc | apply Kd.R_drewN | apply Kd.R_drew)); exact HO201.out)) k_ hk_.2.1)⟩)) (below_size (by repeat (first | (with_reducible first | exact HB.out | apply below_alloc | apply pw_below_drewN | apply below_drew1) | exact HB.out)))); have n4_ := Aside0.mk (below_step (by repeat (first | (with_reducible first | exact HB.out | apply below_alloc | apply pw_below_drewN | apply below_drew1) | exact HB.out)) hb); clear HO187; clear HO192; clear HO201; clear HB; have HO187 := n0_; have HO192 := n1_; have HO201 := n2_; have HO206 := n3_; have HB := n4_; clear n0_ n1_ n2_ n3_ n4_; (try clear hb); (try clear hb2); (try clear hk); (try clear hi); (try clear ho0); obtain ⟨Ao29, co29, eo29⟩ := Kd.N_slice HO192.out; subst eo29) | ((with_reducible refine gate_builtin (b := .append) (xs := #[.tmp 59, .tmp 60]) rfl ?_); (try (refine gate_guard (by rfl) ?_; dsimp only)); at_builtin; refine Kd.N_append_rows (Kd.slice 5 (Kd.int .u8)) (w0 := w) w.heap.size rfl (.tmp 59) (.tmp 60) 31 22 (.slice none 0 0) 24 rfl Try.underlying31 info22 rfl (by decide) (by omega) v186 t183 t188 _ _ _ (fun k_ => some k_ ≠ (.slice Ao26 y199.length co26 : Value).ownBlock ∧ some k_ ≠ (v205 : Value).ownBlock) (fun k_ => ((fun k_ => some k_ ≠ (.slice Ao26 y199.length co26 : Value).ownBlock ∧ some k_ ≠ (v205 : Value).ownBlock)) k_ ∧ some k_ ≠ (v186 : Value).ownBlock) rfl rfl ?aO ?aR (fun _ hk => hk) ?aF ?aB ?aS ?aL ?_; (case aR => exact (by skip; exact Kd.N_F (Kd.N_mono (ok' := (fun k_ => ((fun k_ => some k_ ≠ (.slice Ao26 y199.length co26 : Value).ownBlock ∧ some k_ ≠ (v205 : Value).ownBlock)) k_ ∧ some k_ ≠ (v186 : Value).ownBlock)) (HO192.out) (fun k_ hk => ⟨⟨hk.1.2, hk.2⟩, hk.1.1⟩)))); (case aB => exact (by repeat (first | (with_reducible first | exact HB.out | apply below_alloc | apply pw_below_drewN | apply below_drew1) | exact HB.out))); (case aF => exact (fun k_ hk => ⟨Kd.fresh' (Kd.R_lt (by (with_reducible repeat (first | apply Kd.R_alloc | apply Kd.R_drewN | apply Kd.R_drew)); exact HO201.out)) k_ hk, Kd.fresh' (Kd.N_lt (by (with_reducible repeat (first | apply Kd.N_alloc | apply Kd.N_drewN | apply Kd.N_drew)); exact HO206.out)) k_ hk⟩)); (case aO => exact (by (with_reducible repeat (first | apply Kd.N_alloc | apply Kd.N_drewN | apply Kd.N_drew)); exact Kd.N_mono HO187.out (fun _ hk => ⟨hk.1.2, hk.2⟩))); (case aS => exact (below_size (by repeat (first | (with_reducible first | exact HB.out | apply below_alloc | apply pw_below_drewN | apply below_drew1) | exact HB.out)))); (case aL => have := LMc14.out; omega); intro v208 w28 ho hb hg hat; rw [← Ny207.out] at ho; have n0_ := Aside0.mk (Kd.N_afterv (ok := (fun k_ => some k_ ≠ (.slice Ao26 y199.length co26 : Value).ownBlock ∧ some k_ ≠ (v205 : Value).ownBlock)) (by (with_reducible repeat (first | apply Kd.N_alloc | apply Kd.N_drewN | apply Kd.N_drew)); exact Kd.N_mono HO192.out (fun _ hk => ⟨⟨hk.1.2, hk.2⟩, hk.1.1⟩)) hg hat); have n1_ := Aside0.mk (Kd.R_over' (by (with_reducible repeat (first | apply Kd.R_alloc | apply Kd.R_drewN | apply Kd.R_drew)); exact HO201.out) (Kd.N_typed (by (with_reducible repeat (first | apply Kd.N_alloc | apply Kd.N_drewN | apply Kd.N_drew)); exact HO187.out)) (by decide) hg); have n2_ := Aside0.mk (Kd.N_afterv (ok := (fun k_ => some k_ ≠ (.slice Ao29 t188.length co29 : Value).ownBlock ∧ some k_ ≠ (.slice Ao26 y199.length co26 : Value).ownBlock)) (by (with_reducible repeat (first | apply Kd.N_alloc | apply Kd.N_drewN | apply Kd.N_drew)); exact Kd.N_mono HO206.out (fun _ hk => ⟨⟨hk.2.1, hk.2.2⟩, hk.1⟩)) hg hat); have n3_ := Aside0.mk (hb); have n4_ := Aside0.mk (ho); clear HO192; clear HO201; clear HO206; clear HB; clear HO187; have HO192 := n0_; have HO201 := n1_; have HO206 := n2_; have HB := n3_; have HO209 := n4_; clear n0_ n1_ n2_ n3_ n4_; clear ho hb hg hat; obtain ⟨Ao30, co30, eo30⟩ := Kd.N_slice HO206.out; subst eo30; obtain ⟨Ao31, co31, eo31⟩ := Kd.N_slice HO209.out; subst eo31) | (go_at_call 12; (with_reducible refine (godwitref03_Lists.calls kj3 _ _ t202 _ _ y207 t210 _ ?side1 ?side2 ?side3 ?side4 A19.out).mono ?_); (case side1 => repeat (first | exact (Kd.N_reads' HO206.out).2.2 | (with_reducible refine Kd.C_alloc ?_ _) | (with_reducible refine Kd.C_drewN ?_ _) | (with_reducible refine Kd.C_drew ?_))); (case side2 => exact (Kd.N_reads' HO206.out).2.1); (case side3 => repeat (first | exact (Kd.N_reads' HO209.out).2.2 | (with_reducible refine Kd.C_alloc ?_ _) | (with_reducible refine Kd.C_drewN ?_ _) | (with_reducible refine Kd.C_drew ?_))); (case side4 => exact (Kd.N_reads' HO209.out).2.1); rintro e w' ⟨rfl, ⟨nd, rfl⟩⟩))
                        go_ret
                        first | (with_reducible exact (clash2 A12 A9).elim) | (with_reducible exact (clash2 A9 A12).elim) | (with_reducible exact (clash2 A12 A8).elim) | (with_reducible exact (clash2 A8 A12).elim) | (with_reducible exact (clash2 A9 A8).elim) | (with_reducible exact (clash2 A8 A9).elim) | exact ⟨by first | rfl | (simp [errW_none, errW_some] <;> rfl) | (simp [*, errW_none, errW_some] <;> rfl), by repeat (first | (with_reducible first | exact HB.out | apply below_alloc | apply pw_below_drewN | apply below_drew1) | exact HB.out)⟩
                      · rw [if_neg c18] at H
                        exact absurd H (by simp)
                    · rw [if_neg c17] at H
                      exact absurd H (by simp)
                  · rw [if_neg c16] at H
                    exact absurd H (by simp)
                · replace c15 := Bool.eq_false_iff.mpr c15
                  subst c15
                  have H1 : (none) = some r := by rw [if_neg (show ¬ (false = true) by decide)] at H; exact H
                  clear H
                  have H := H1
                  clear H1
                  exact absurd H (by simp)
              · rw [if_neg c14] at H
                exact absurd H (by simp)
            · rw [if_neg c13] at H
              have c13b0 : (t185 == 0) = false := beq_eq_false_iff_ne.mpr c13
              have c13b1 : (t185 != 0) = true := bne_iff_ne.mpr c13
              by_cases c32 : t182 = true
              · subst c32
                have H1 : (some (decide ((t202.length : Int) ≥ (t183.length : Int)))) = some r := by rw [if_pos rfl] at H; exact H
                clear H
                have H := H1
                clear H1
                obtain rfl := Option.some.inj H
                go_wp2_with (first | ((with_reducible refine gate_callee (f := 11) rfl ?_); refine goesL_ (some 28) rfl rfl Try.func11 (by kernel_rfl) rfl #[.slice A0 l0.length c0] rfl (by (try simp only [List.map_toArray, List.map_cons, List.map_nil]); first | done | rfl | (simp only [List.length_drop, List.length_take]; rfl)) ?_; (with_reducible refine (frame_All.calls kj3 _ _ l0 t183 t184 t185 _ ?side1 ?side2 A8.out).mono ?_); (case side1 => repeat (first | exact (Kd.C_below HR0.out HB.out) | (with_reducible refine Kd.C_alloc ?_ _) | (with_reducible refine Kd.C_drewN ?_ _) | (with_reducible refine Kd.C_drew ?_))); (case side2 => exact HC0.out); rintro e w33 ⟨v186, rfl, ho0, hb⟩; refine ⟨_, rfl, ?_⟩; have n0_ := Aside0.mk (Kd.N_lower (Kd.N_mono (ok' := fun k_ => True) (Kd.S_N (Kd.S_bound ho0)) (fun k_ hk_ => trivial)) (below_size (by repeat (first | (with_reducible first | exact HB.out | apply below_alloc | apply pw_below_drewN | apply below_drew1) | exact HB.out)))); have n1_ := Aside0.mk (below_step (by repeat (first | (with_reducible first | exact HB.out | apply below_alloc | apply pw_below_drewN | apply below_drew1) | exact HB.out)) hb); clear HB; have HO187 := n0_; have HB := n1_; clear n0_ n1_; (try clear hb); (try clear hb2); (try clear hk); (try clear hi); (try clear ho0)) | ((with_reducible refine gate_callee (f := 11) rfl ?_); refine goesL_ (some 34) rfl rfl Try.func11 (by kernel_rfl) rfl #[.slice A1 l1.length c1] rfl (by (try simp only [List.map_toArray, List.map_cons, List.map_nil]); first | done | rfl | (simp only [List.length_drop, List.length_take]; rfl)) ?_; (with_reducible refine (frame_All.calls kj3 _ _ l1 t188 t189 t190 _ ?side1 ?side2 A9.out).mono ?_); (case side1 => repeat (first | exact (Kd.C_below HR1.out HB.out) | (with_reducible refine Kd.C_alloc ?_ _) | (with_reducible refine Kd.C_drewN ?_ _) | (with_reducible refine Kd.C_drew ?_))); (case side2 => exact HC1.out); rintro e w34 ⟨v191, rfl, ho0, hb⟩; refine ⟨_, rfl, ?_⟩; have n0_ := Aside0.mk (Kd.N_elder' (by (with_reducible repeat (first | apply Kd.N_alloc | apply Kd.N_drewN | apply Kd.N_drew)); exact HO187.out) (by first | exact Kd.N_base ho0 | exact Kd.N_base (Kd.S_N ho0)) hb); have n1_ := Aside0.mk (Kd.N_lower (Kd.N_mono (ok' := fun k_ => some k_ ≠ (v186 : Value).ownBlock) (Kd.S_N (Kd.S_bound ho0)) (fun k_ hk_ => (Kd.fresh' (Kd.N_lt (by (with_reducible repeat (first | apply Kd.N_alloc | apply Kd.N_drewN | apply Kd.N_drew)); exact HO187.out)) k_ hk_.2.1))) (below_size (by repeat (first | (with_reducible first | exact HB.out | apply below_alloc | apply pw_below_drewN | apply below_drew1) | exact HB.out)))); have n2_ := Aside0.mk (below_step (by repeat (first | (with_reducible first | exact HB.out | apply below_alloc | apply pw_below_drewN | apply below_drew1) | exact HB.out)) hb); clear HO187; clear HB; have HO187 := n0_; have HO192 := n1_; have HB := n2_; clear n0_ n1_ n2_; (try clear hb); (try clear hb2); (try clear hk); (try clear hi); (try clear ho0)) | ((with_reducible refine gate_dst (N := 38) rfl ?_); (try (refine gate_guard (by rfl) ?_; dsimp only)); refine Kd.R_lit (Kd.int .u8) _ 5 ?hg (N := 38) ?hd (xs := ([] : List Int)) (inner := []) (ok := fun _ => True) (okp := fun _ => True) ?hr ?hp (fun _ hk => hk) trivial (Below.refl _ _) (Nat.le_refl _) (by simp) ?_; (case hd => rfl); (case hg => rfl); (case hr => first | (go_simp; done) | (go_simp; rfl)); (case hp => exact (Reps.none _ _)); intro v194 w35 ho36 hb hg_ hnew_; clear hg_ hnew_; (first | rw [← Ny193.out] at ho36 | (simp only [Int.reduceToNat] at ho36; rw [← Ny193.out] at ho36)); have n0_ := Aside0.mk (Kd.N_elder' (by (with_reducible repeat (first | apply Kd.N_alloc | apply Kd.N_drewN | apply Kd.N_drew)); exact HO187.out) (Kd.R_base ho36) hb); have n1_ := Aside0.mk (Kd.N_elder' (by (with_reducible repeat (first | apply Kd.N_alloc | apply Kd.N_drewN | apply Kd.N_drew)); exact HO192.out) (Kd.R_base ho36) hb); have n2_ := Aside0.mk (Kd.R_lower ho36 (below_size (by repeat (first | (with_reducible first | exact HB.out | apply below_alloc | apply pw_below_drewN | apply below_drew1) | exact HB.out)))); have n3_ := Aside0.mk (below_step (by repeat (first | (with_reducible first | exact HB.out | apply below_alloc | apply pw_below_drewN | apply below_drew1) | exact HB.out)) hb); clear HO187; clear HO192; clear HB; have HO187 := n0_; have HO192 := n1_; have HO195 := n2_; have HB := n3_; clear n0_ n1_ n2_ n3_; clear hb ho36) | ((with_reducible refine gate_builtin (b := .append) (xs := #[.tmp 38, .tmp 39]) rfl ?_); (try (refine gate_guard (by rfl) ?_; dsimp only)); at_builtin; refine Kd.R_append_rows (Kd.int .u8) (w0 := w) w.heap.size rfl (.tmp 38) (.tmp 39) 22 5 (.int .u8 0) 1 rfl Try.underlying22 info5 rfl (by decide) (by omega) v194 y193 l0 _ _ _ (fun _ => True) (fun _ => False) rfl rfl ?aO ?aR (fun _ _ h => h) (fun _ h => h.elim) ?aF ?aB ?aS ?aL ?_; (case aR => repeat (first | exact (Kd.C_below HR0.out HB.out) | (with_reducible refine Kd.C_alloc ?_ _) | (with_reducible refine Kd.C_drewN ?_ _) | (with_reducible refine Kd.C_drew ?_))); (case aB => exact (by repeat (first | (with_reducible first | exact HB.out | apply below_alloc | apply pw_below_drewN | apply below_drew1) | exact HB.out))); (case aF => exact (fun _ _ => trivial)); (case aO => exact (by (with_reducible repeat (first | apply Kd.R_alloc | apply Kd.R_drewN | apply Kd.R_drew)); exact HO195.out)); (case aS => exact (below_size (by repeat (first | (with_reducible first | exact HB.out | apply below_alloc | apply pw_below_drewN | apply below_drew1) | exact HB.out)))); (case aL => have := LMc10.out; omega); intro v197 w37 ho hb hg hat; rw [← Ny196.out] at ho; have n0_ := Aside0.mk (Kd.N_afterv (ok := (fun k_ => some k_ ≠ (v191 : Value).ownBlock)) (by (with_reducible repeat (first | apply Kd.N_alloc | apply Kd.N_drewN | apply Kd.N_drew)); exact Kd.N_mono HO187.out (fun _ hk => ⟨hk.1.2, hk.2⟩)) hg hat); have n1_ := Aside0.mk (Kd.N_afterv (ok := (fun k_ => some k_ ≠ (v186 : Value).ownBlock)) (by (with_reducible repeat (first | apply Kd.N_alloc | apply Kd.N_drewN | apply Kd.N_drew)); exact HO192.out) hg hat); have n2_ := Aside0.mk (hb); have n3_ := Aside0.mk (ho); clear HO187; clear HO192; clear HB; clear HO195; have HO187 := n0_; have HO192 := n1_; have HB := n2_; have HO198 := n3_; clear n0_ n1_ n2_ n3_; clear ho hb hg hat) | ((with_reducible refine gate_builtin (b := .append) (xs := #[.tmp 40, .tmp 41]) rfl ?_); (try (refine gate_guard (by rfl) ?_; dsimp only)); at_builtin; refine Kd.R_append_rows (Kd.int .u8) (w0 := w) w.heap.size rfl (.tmp 40) (.tmp 41) 22 5 (.int .u8 0) 1 rfl Try.underlying22 info5 rfl (by decide) (by omega) v197 y196 l1 _ _ _ (fun _ => True) (fun _ => False) rfl rfl ?aO ?aR (fun _ _ h => h) (fun _ h => h.elim) ?aF ?aB ?aS ?aL ?_; (case aR => repeat (first | exact (Kd.C_below HR1.out HB.out) | (with_reducible refine Kd.C_alloc ?_ _) | (with_reducible refine Kd.C_drewN ?_ _) | (with_reducible refine Kd.C_drew ?_))); (case aB => exact (by repeat (first | (with_reducible first | exact HB.out | apply below_alloc | apply pw_below_drewN | apply below_drew1) | exact HB.out))); (case aF => exact (fun _ _ => trivial)); (case aO => exact (by (with_reducible repeat (first | apply Kd.R_alloc | apply Kd.R_drewN | apply Kd.R_drew)); exact HO198.out)); (case aS => exact (below_size (by repeat (first | (with_reducible first | exact HB.out | apply below_alloc | apply pw_below_drewN | apply below_drew1) | exact HB.out)))); (case aL => have := LMc11.out; omega); intro v200 w38 ho hb hg hat; rw [← Ny199.out] at ho; have n0_ := Aside0.mk (Kd.N_afterv (ok := (fun k_ => some k_ ≠ (v191 : Value).ownBlock)) (by (with_reducible repeat (first | apply Kd.N_alloc | apply Kd.N_drewN | apply Kd.N_drew)); exact HO187.out) hg hat); have n1_ := Aside0.mk (Kd.N_afterv (ok := (fun k_ => some k_ ≠ (v186 : Value).ownBlock)) (by (with_reducible repeat (first | apply Kd.N_alloc | apply Kd.N_drewN | apply Kd.N_drew)); exact HO192.out) hg hat); have n2_ := Aside0.mk (hb); have n3_ := Aside0.mk (ho); clear HO187; clear HO192; clear HB; clear HO198; have HO187 := n0_; have HO192 := n1_; have HB := n2_; have HO201 := n3_; clear n0_ n1_ n2_ n3_; clear ho hb hg hat; obtain ⟨Ao39, co39, eo39⟩ := Kd.R_slice HO201.out; subst eo39) | ((with_reducible refine gate_callee (f := 11) rfl ?_); refine goesL_ (some 45) rfl rfl Try.func11 (by kernel_rfl) rfl #[.slice Ao39 y199.length co39] rfl (by (try simp only [List.map_toArray, List.map_cons, List.map_nil]); first | done | rfl | (simp only [List.length_drop, List.length_take]; rfl)) ?_; (with_reducible refine (frame_All.calls kj3 _ _ y199 t202 t203 t204 _ ?side1 ?side2 A12.out).mono ?_); (case side1 => repeat (first | exact (Kd.R_reads' HO201.out).2.2 | (with_reducible refine Kd.C_alloc ?_ _) | (with_reducible refine Kd.C_drewN ?_ _) | (with_reducible refine Kd.C_drew ?_))); (case side2 => exact (Kd.R_reads' HO201.out).2.1); rintro e w40 ⟨v205, rfl, ho0, hb⟩; refine ⟨_, rfl, ?_⟩; have n0_ := Aside0.mk (Kd.N_elder' (by (with_reducible repeat (first | apply Kd.N_alloc | apply Kd.N_drewN | apply Kd.N_drew)); exact HO187.out) (by first | exact Kd.N_base ho0 | exact Kd.N_base (Kd.S_N ho0)) hb); have n1_ := Aside0.mk (Kd.N_elder' (by (with_reducible repeat (first | apply Kd.N_alloc | apply Kd.N_drewN | apply Kd.N_drew)); exact HO192.out) (by first | exact Kd.N_base ho0 | exact Kd.N_base (Kd.S_N ho0)) hb); have n2_ := Aside0.mk (Kd.R_below (by (with_reducible repeat (first | apply Kd.R_alloc | apply Kd.R_drewN | apply Kd.R_drew)); exact HO201.out) hb); have n3_ := Aside0.mk (Kd.N_lower (Kd.N_mono (ok' := fun k_ => some k_ ≠ (v186 : Value).ownBlock ∧ some k_ ≠ (v191 : Value).ownBlock ∧ some k_ ≠ (.slice Ao39 y199.length co39 : Value).ownBlock) (Kd.S_N (Kd.S_bound ho0)) (fun k_ hk_ => ⟨(Kd.fresh' (Kd.N_lt (by (with_reducible repeat (first | apply Kd.N_alloc | apply Kd.N_drewN | apply Kd.N_drew)); exact HO187.out)) k_ hk_.2.1), (Kd.fresh' (Kd.N_lt (by (with_reducible repeat (first | apply Kd.N_alloc | apply Kd.N_drewN | apply Kd.N_drew)); exact HO192.out)) k_ hk_.2.1), (Kd.fresh' (Kd.R_lt (by (with_reducible repeat (first | apply Kd.R_alloc | apply Kd.R_drewN | apply Kd.R_drew)); exact HO201.out)) k_ hk_.2.1)⟩)) (below_size (by repeat (first | (with_reducible first | exact HB.out | apply below_alloc | apply pw_below_drewN | apply below_drew1) | exact HB.out)))); have n4_ := Aside0.mk (below_step (by repeat (first | (with_reducible first | exact HB.out | apply below_alloc | apply pw_below_drewN | apply below_drew1) | exact HB.out)) hb); clear HO187; clear HO192; clear HO201; clear HB; have HO187 := n0_; have HO192 := n1_; have HO201 := n2_; have HO206 := n3_; have HB := n4_; clear n0_ n1_ n2_ n3_ n4_; (try clear hb); (try clear hb2); (try clear hk); (try clear hi); (try clear ho0); obtain ⟨Ao41, co41, eo41⟩ := Kd.N_slice HO206.out; subst eo41; obtain ⟨Ao42, co42, eo42⟩ := Kd.N_slice HO187.out; subst eo42))
                go_ret
                first | (with_reducible exact (clash2 A12 A9).elim) | (with_reducible exact (clash2 A9 A12).elim) | (with_reducible exact (clash2 A12 A8).elim) | (with_reducible exact (clash2 A8 A12).elim) | (with_reducible exact (clash2 A9 A8).elim) | (with_reducible exact (clash2 A8 A9).elim) | exact ⟨by first | rfl | (simp [errW_none, errW_some] <;> rfl) | (simp [*, errW_none, errW_some] <;> rfl), by repeat (first | (with_reducible first | exact HB.out | apply below_alloc | apply pw_below_drewN | apply below_drew1) | exact HB.out)⟩
              · replace c32 := Bool.eq_false_iff.mpr c32
                subst c32
                have H1 : (none) = some r := by rw [if_neg (show ¬ (false = true) by decide)] at H; exact H
                clear H
                have H := H1
                clear H1
                exact absurd H (by simp)
          · rw [if_neg c11] at H
            exact absurd H (by simp)
        · rw [if_neg c10] at H
          exact absurd H (by simp)

/-- THE ONE PURE STATEMENT of godwitlaw03_FrameMore. -/
def godwitlaw03_FrameMore.Pure : Prop := ∀ (l0 : List Int) (l1 : List Int), (l0.length * 1 ≤ 140737488351232 ∧ ∀ y0_ ∈ l0, (Lit.int .u8 y0_).wf = true) → (l1.length * 1 ≤ 140737488351232 ∧ ∀ y0_ ∈ l1, (Lit.int .u8 y0_).wf = true) → ∃ k, godwitlaw03_FrameMore.f k l0 l1 = some true

end Go.Proofs.Ytdjenkcafhdicaa.Q
