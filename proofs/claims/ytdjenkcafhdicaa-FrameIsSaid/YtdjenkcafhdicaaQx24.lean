-- written by a turned copy of the kit's printer (wip/tools/patch_print.py over print.py); contracts of given functions are this session's own
import Derived.Test.YtdjenkcafhdicaaQx0
import Derived.Test.YtdjenkcafhdicaaQx7
import Derived.Test.YtdjenkcafhdicaaQx9
import Derived.Test.YtdjenkcafhdicaaQx10
import Derived.Test.YtdjenkcafhdicaaQx11
import Derived.Test.YtdjenkcafhdicaaQx13
import Derived.Test.YtdjenkcafhdicaaQx14
import Derived.Test.YtdjenkcafhdicaaQx20
import Derived.Test.YtdjenkcafhdicaaQx21
import Derived.Test.YtdjenkcafhdicaaQx22
import Derived.Test.YtdjenkcafhdicaaQx23
namespace Go.Proofs.Ytdjenkcafhdicaa.Q
open Go.RowKit Go.Proofs.YtdjenkcafhdicaaW.PrintWords Go.Proofs.YtdjenkcafhdicaaW.PrintLast Go.Proofs.YtdjenkcafhdicaaW.PrintMore Go.Proofs.Ytdjenkcafhdicaa.G
attribute [local go_sem] max2_int min2_int max_two min_two max_three min_three max_four min_four   -- for this text's walks alone
set_option linter.unusedVariables false
set_option linter.unusedSimpArgs false

/-! ### godwitlaw03_FrameIs: function 5 -/
def godwitlaw03_FrameIs.j0 : Nat → List Int → Int → List Int → Bool → Bool → Option (Bool)
  | 0, _, _, _, _, _ => none
  | k + 1, x0, x1, x2, x7, x32 => if x32 = true then (some x7) else ((frame_Put.f k x0 x2).bind fun bt266 => ((godwitref03_Put.f k x0 x2).bind fun bt270 => ((frame_Read.f k x0 x1).bind fun bt274 => ((godwitref03_Read.f k x0 x1).bind fun bt279 => ((frame_All.f k x0).bind fun bt284 => ((godwitref03_All.f k x0).bind fun bt289 => (if x7 = true then (if (strOfNums bt266.1).toList = (strOfNums bt270.1).toList then (if bt266.2 = bt270.2 then (if (strOfNums bt274.1).toList = (strOfNums bt279.1).toList then (if bt274.2.1 = bt279.2.1 then (if bt274.2.2 = bt279.2.2 then ((godwitref03_Lists.f k bt284.1 bt289.1).bind fun t294 => (if t294 = true then (if bt284.2.1 = bt289.2.1 then (if bt284.2.2 = bt289.2.2 then ((frame_Len.f x2).bind fun t295 => ((godwitref03_Len.f x2).bind fun t296 => (some (t295 == t296)))) else (none)) else (none)) else (none))) else (none)) else (none)) else (none)) else (none)) else (none)) else (none))))))))
def godwitlaw03_FrameIs.f (k : Nat) (l0 : List Int) (a1 : Int) (l2 : List Int) : Option (Bool) := (godwitlaw03_awake.f k).bind fun t265 => (if (l0.length : Int) > 2000 then (godwitlaw03_FrameIs.j0 k l0 a1 l2 t265 true) else (godwitlaw03_FrameIs.j0 k l0 a1 l2 t265 (decide ((l2.length : Int) > 2000))))
theorem godwitlaw03_FrameIs.mono_l : ∀ k, (∀ y0 y1 y2 y3 y4, LeO (godwitlaw03_FrameIs.j0 k y0 y1 y2 y3 y4) (godwitlaw03_FrameIs.j0 (k + 1) y0 y1 y2 y3 y4))
  | 0 => fun _ _ _ _ _ r h => by simp [godwitlaw03_FrameIs.j0] at h
  | k + 1 => by
    have ih0 := godwitlaw03_FrameIs.mono_l k
    · intro y0 y1 y2 y3 y4
      unfold godwitlaw03_FrameIs.j0
      repeat' first
      | (with_reducible exact ih0 _ _ _ _ _)
      | (with_reducible exact frame_All.mono _ _)
      | (with_reducible exact frame_Put.mono _ _ _)
      | (with_reducible exact frame_Read.mono _ _ _)
      | (with_reducible exact godwitlaw03_awake.mono _)
      | (with_reducible exact godwitref03_All.mono _ _)
      | (with_reducible exact godwitref03_Lists.mono _ _ _)
      | (with_reducible exact godwitref03_Put.mono _ _ _)
      | (with_reducible exact godwitref03_Read.mono _ _ _)
      | (with_reducible exact LeO.refl _)
      | (with_reducible exact LeO.none _)
      | (with_reducible refine LeO.ite ?_ ?_)
      | (with_reducible refine LeO.bind ?_ (fun _ => ?_))
      | exact ih0 _ _ _ _ _
      | exact frame_All.mono _ _
      | exact frame_Put.mono _ _ _
      | exact frame_Read.mono _ _ _
      | exact godwitlaw03_awake.mono _
      | exact godwitref03_All.mono _ _
      | exact godwitref03_Lists.mono _ _ _
      | exact godwitref03_Put.mono _ _ _
      | exact godwitref03_Read.mono _ _ _
      | exact LeO.none _
      | refine LeO.ite ?_ ?_
      | refine LeO.bind ?_ (fun _ => ?_)
theorem godwitlaw03_FrameIs.mono : ∀ a0 a1 a2 k, LeO (godwitlaw03_FrameIs.f k a0 a1 a2) (godwitlaw03_FrameIs.f (k + 1) a0 a1 a2) := by
  intro a0 a1 a2 k
  have ih0 := godwitlaw03_FrameIs.mono_l k
  unfold godwitlaw03_FrameIs.f
  repeat' first
      | (with_reducible exact ih0 _ _ _ _ _)
      | (with_reducible exact frame_All.mono _ _)
      | (with_reducible exact frame_Put.mono _ _ _)
      | (with_reducible exact frame_Read.mono _ _ _)
      | (with_reducible exact godwitlaw03_awake.mono _)
      | (with_reducible exact godwitref03_All.mono _ _)
      | (with_reducible exact godwitref03_Lists.mono _ _ _)
      | (with_reducible exact godwitref03_Put.mono _ _ _)
      | (with_reducible exact godwitref03_Read.mono _ _ _)
      | (with_reducible exact LeO.refl _)
      | (with_reducible exact LeO.none _)
      | (with_reducible refine LeO.ite ?_ ?_)
      | (with_reducible refine LeO.bind ?_ (fun _ => ?_))
      | exact ih0 _ _ _ _ _
      | exact frame_All.mono _ _
      | exact frame_Put.mono _ _ _
      | exact frame_Read.mono _ _ _
      | exact godwitlaw03_awake.mono _
      | exact godwitref03_All.mono _ _
      | exact godwitref03_Lists.mono _ _ _
      | exact godwitref03_Put.mono _ _ _
      | exact godwitref03_Read.mono _ _ _
      | exact LeO.none _
      | refine LeO.ite ?_ ?_
      | refine LeO.bind ?_ (fun _ => ?_)
set_option maxHeartbeats 8000000 in
set_option maxRecDepth 100000 in
theorem godwitlaw03_FrameIs.calls (k : Nat) (A0 : Option Addr) (c0 : Nat) (l0 : List Int) (a1 : Int) (A2 : Option Addr) (c2 : Nat) (l2 : List Int) (r : Bool) (w : World) (hr0 : Kd.C (Kd.int .u8) w A0 l0.length l0) (hc0 : l0.length ≤ c0) (hr2 : Kd.C (Kd.int .u8) w A2 l2.length l2) (hc2 : l2.length ≤ c2) (h : godwitlaw03_FrameIs.f k l0 a1 l2 = some r) :
    Calls Try.prog 5 #[.slice A0 l0.length c0, .int .i64 a1, .slice A2 l2.length c2] w fun e w' => e = .returned (.bool r) ∧ Below w.heap.size w w' := by
  have HR0 := Aside0.mk hr0
  have HC0 := Aside0.mk hc0
  clear hr0 hc0
  have HR2 := Aside0.mk hr2
  have HC2 := Aside0.mk hc2
  clear hr2 hc2
  have HB := Aside0.mk (Below.refl w.heap.size w)
  have H : ((godwitlaw03_awake.f k).bind fun t265 => (if (l0.length : Int) > 2000 then (godwitlaw03_FrameIs.j0 k l0 a1 l2 t265 true) else (godwitlaw03_FrameIs.j0 k l0 a1 l2 t265 (decide ((l2.length : Int) > 2000))))) = some r := h
  clear h
  replace H := Option.bind_eq_some_iff.mp H
  obtain ⟨t265, A40, H⟩ := H
  replace H : (if (l0.length : Int) > 2000 then (godwitlaw03_FrameIs.j0 k l0 a1 l2 t265 true) else (godwitlaw03_FrameIs.j0 k l0 a1 l2 t265 (decide ((l2.length : Int) > 2000)))) = some r := H
  have A4 := Aside0.mk A40
  clear A40
  have HC5 := Aside0.mk H
  clear H
  go_enter Try.func5, Try.ntmps5
  go_upto_region 2 with (first | ((with_reducible refine gate_callee (f := 7) rfl ?_); refine goesL_ (some 24) rfl rfl Try.func7 (by kernel_rfl) rfl #[] rfl (by (try simp only [List.map_toArray, List.map_cons, List.map_nil]); first | done | rfl | (simp only [List.length_drop, List.length_take]; rfl)) ?_; (with_reducible refine (godwitlaw03_awake.calls k  t265 _ A4.out).mono ?_); rintro e w6 ⟨rfl, hb⟩; refine ⟨_, rfl, ?_⟩; have n0_ := Aside0.mk (below_step (by repeat (first | (with_reducible first | exact HB.out | apply below_alloc | apply pw_below_drewN | apply below_drew1) | exact HB.out)) hb); clear HB; have HB := n0_; clear n0_; (try clear hb); (try clear hb2); (try clear hk); (try clear hi)))
  (try simp only [Act.put, List.setIfInBounds_toArray, List.set_cons_zero, List.set_cons_succ])
  go_cut [32] (fun v32 wc => ∃ (kq : Nat) (x32_4 : Bool), v32 = .bool x32_4 ∧ Aside0 (godwitlaw03_FrameIs.j0 kq l0 a1 l2 t265 x32_4 = some r) ∧ Aside0 (kq ≤ k) ∧ Aside0 (Below w.heap.size w wc))
  case first =>
    have H := HC5.out
    clear HC5
    by_cases c7 : (l0.length : Int) > 2000
    · rw [if_pos c7] at H
      have c7b0 : decide (2000 < (l0.length : Int)) = true := decide_eq_true c7
      have c7b1 : decide (2000 < l0.length) = true := decide_eq_true (by omega)
      clear c7
      (first | rw [c7b0] | (simp only [i64_w, i32_w]; rw [c7b0]) | skip)
      have H' := Aside0.mk H
      clear H
      go_wp2
      go_meet
      case rel => exact ⟨_, (true), (by first | rfl | (simp; done) | (simp [*]; done)), H', ⟨by first | omega | exact Nat.le_refl _⟩, ⟨by repeat (first | (with_reducible first | exact HB.out | apply below_alloc | apply pw_below_drewN | apply below_drew1) | exact HB.out)⟩⟩
    · rw [if_neg c7] at H
      have c7b0 : decide (2000 < (l0.length : Int)) = false := decide_eq_false c7
      have c7b1 : decide (2000 < l0.length) = false := decide_eq_false (by omega)
      clear c7
      (first | rw [c7b0] | (simp only [i64_w, i32_w]; rw [c7b0]) | skip)
      have H' := Aside0.mk H
      clear H
      go_wp2
      go_meet
      case rel => exact ⟨_, (decide ((l2.length : Int) > 2000)), (by first | rfl | (simp; done) | (simp [*]; done)), H', ⟨by first | omega | exact Nat.le_refl _⟩, ⟨by repeat (first | (with_reducible first | exact HB.out | apply below_alloc | apply pw_below_drewN | apply below_drew1) | exact HB.out)⟩⟩
  case rest =>
    clear HC5
    try clear c2
    try clear p2
    try clear c5
    try clear c7
    try clear c7b0
    try clear c7b1
    obtain ⟨kq, x32_4, rfl, HA, HJ4, HB⟩ := hcut
    cases kq with
    | zero => exact absurd HA.out (by simp [godwitlaw03_FrameIs.j0])
    | succ kj4 =>
      have H := HA.out
      clear HA
      simp only [godwitlaw03_FrameIs.j0] at H
      by_cases c8 : x32_4 = true
      · subst c8
        have H1 : (some t265) = some r := by rw [if_pos rfl] at H; exact H
        clear H
        have H := H1
        clear H1
        obtain rfl := Option.some.inj H
        go_wp2
        go_ret
        exact ⟨by first | rfl | (simp [errW_none, errW_some] <;> rfl) | (simp [*, errW_none, errW_some] <;> rfl), by repeat (first | (with_reducible first | exact HB.out | apply below_alloc | apply pw_below_drewN | apply below_drew1) | exact HB.out)⟩
      · replace c8 := Bool.eq_false_iff.mpr c8
        subst c8
        have H1 : ((frame_Put.f kj4 l0 l2).bind fun bt266 => ((godwitref03_Put.f kj4 l0 l2).bind fun bt270 => ((frame_Read.f kj4 l0 a1).bind fun bt274 => ((godwitref03_Read.f kj4 l0 a1).bind fun bt279 => ((frame_All.f kj4 l0).bind fun bt284 => ((godwitref03_All.f kj4 l0).bind fun bt289 => (if t265 = true then (if (strOfNums bt266.1).toList = (strOfNums bt270.1).toList then (if bt266.2 = bt270.2 then (if (strOfNums bt274.1).toList = (strOfNums bt279.1).toList then (if bt274.2.1 = bt279.2.1 then (if bt274.2.2 = bt279.2.2 then ((godwitref03_Lists.f kj4 bt284.1 bt289.1).bind fun t294 => (if t294 = true then (if bt284.2.1 = bt289.2.1 then (if bt284.2.2 = bt289.2.2 then ((frame_Len.f l2).bind fun t295 => ((godwitref03_Len.f l2).bind fun t296 => (some (t295 == t296)))) else (none)) else (none)) else (none))) else (none)) else (none)) else (none)) else (none)) else (none)) else (none)))))))) = some r := by rw [if_neg (show ¬ (false = true) by decide)] at H; exact H
        clear H
        have H := H1
        clear H1
        replace H := Option.bind_eq_some_iff.mp H
        obtain ⟨⟨t266, t267⟩, A90, H⟩ := H
        replace H : ((godwitref03_Put.f kj4 l0 l2).bind fun bt270 => ((frame_Read.f kj4 l0 a1).bind fun bt274 => ((godwitref03_Read.f kj4 l0 a1).bind fun bt279 => ((frame_All.f kj4 l0).bind fun bt284 => ((godwitref03_All.f kj4 l0).bind fun bt289 => (if t265 = true then (if (strOfNums t266).toList = (strOfNums bt270.1).toList then (if t267 = bt270.2 then (if (strOfNums bt274.1).toList = (strOfNums bt279.1).toList then (if bt274.2.1 = bt279.2.1 then (if bt274.2.2 = bt279.2.2 then ((godwitref03_Lists.f kj4 bt284.1 bt289.1).bind fun t294 => (if t294 = true then (if bt284.2.1 = bt289.2.1 then (if bt284.2.2 = bt289.2.2 then ((frame_Len.f l2).bind fun t295 => ((godwitref03_Len.f l2).bind fun t296 => (some (t295 == t296)))) else (none)) else (none)) else (none))) else (none)) else (none)) else (none)) else (none)) else (none)) else (none))))))) = some r := H
        have A9 := Aside0.mk A90
        clear A90
        replace H := Option.bind_eq_some_iff.mp H
        obtain ⟨⟨t270, t271⟩, A100, H⟩ := H
        replace H : ((frame_Read.f kj4 l0 a1).bind fun bt274 => ((godwitref03_Read.f kj4 l0 a1).bind fun bt279 => ((frame_All.f kj4 l0).bind fun bt284 => ((godwitref03_All.f kj4 l0).bind fun bt289 => (if t265 = true then (if (strOfNums t266).toList = (strOfNums t270).toList then (if t267 = t271 then (if (strOfNums bt274.1).toList = (strOfNums bt279.1).toList then (if bt274.2.1 = bt279.2.1 then (if bt274.2.2 = bt279.2.2 then ((godwitref03_Lists.f kj4 bt284.1 bt289.1).bind fun t294 => (if t294 = true then (if bt284.2.1 = bt289.2.1 then (if bt284.2.2 = bt289.2.2 then ((frame_Len.f l2).bind fun t295 => ((godwitref03_Len.f l2).bind fun t296 => (some (t295 == t296)))) else (none)) else (none)) else (none))) else (none)) else (none)) else (none)) else (none)) else (none)) else (none)))))) = some r := H
        have A10 := Aside0.mk A100
        clear A100
        replace H := Option.bind_eq_some_iff.mp H
        obtain ⟨⟨t274, t275, t276⟩, A110, H⟩ := H
        replace H : ((godwitref03_Read.f kj4 l0 a1).bind fun bt279 => ((frame_All.f kj4 l0).bind fun bt284 => ((godwitref03_All.f kj4 l0).bind fun bt289 => (if t265 = true then (if (strOfNums t266).toList = (strOfNums t270).toList then (if t267 = t271 then (if (strOfNums t274).toList = (strOfNums bt279.1).toList then (if t275 = bt279.2.1 then (if t276 = bt279.2.2 then ((godwitref03_Lists.f kj4 bt284.1 bt289.1).bind fun t294 => (if t294 = true then (if bt284.2.1 = bt289.2.1 then (if bt284.2.2 = bt289.2.2 then ((frame_Len.f l2).bind fun t295 => ((godwitref03_Len.f l2).bind fun t296 => (some (t295 == t296)))) else (none)) else (none)) else (none))) else (none)) else (none)) else (none)) else (none)) else (none)) else (none))))) = some r := H
        have A11 := Aside0.mk A110
        clear A110
        replace H := Option.bind_eq_some_iff.mp H
        obtain ⟨⟨t279, t280, t281⟩, A120, H⟩ := H
        replace H : ((frame_All.f kj4 l0).bind fun bt284 => ((godwitref03_All.f kj4 l0).bind fun bt289 => (if t265 = true then (if (strOfNums t266).toList = (strOfNums t270).toList then (if t267 = t271 then (if (strOfNums t274).toList = (strOfNums t279).toList then (if t275 = t280 then (if t276 = t281 then ((godwitref03_Lists.f kj4 bt284.1 bt289.1).bind fun t294 => (if t294 = true then (if bt284.2.1 = bt289.2.1 then (if bt284.2.2 = bt289.2.2 then ((frame_Len.f l2).bind fun t295 => ((godwitref03_Len.f l2).bind fun t296 => (some (t295 == t296)))) else (none)) else (none)) else (none))) else (none)) else (none)) else (none)) else (none)) else (none)) else (none)))) = some r := H
        have A12 := Aside0.mk A120
        clear A120
        replace H := Option.bind_eq_some_iff.mp H
        obtain ⟨⟨t284, t285, t286⟩, A130, H⟩ := H
        replace H : ((godwitref03_All.f kj4 l0).bind fun bt289 => (if t265 = true then (if (strOfNums t266).toList = (strOfNums t270).toList then (if t267 = t271 then (if (strOfNums t274).toList = (strOfNums t279).toList then (if t275 = t280 then (if t276 = t281 then ((godwitref03_Lists.f kj4 t284 bt289.1).bind fun t294 => (if t294 = true then (if t285 = bt289.2.1 then (if t286 = bt289.2.2 then ((frame_Len.f l2).bind fun t295 => ((godwitref03_Len.f l2).bind fun t296 => (some (t295 == t296)))) else (none)) else (none)) else (none))) else (none)) else (none)) else (none)) else (none)) else (none)) else (none))) = some r := H
        have A13 := Aside0.mk A130
        clear A130
        replace H := Option.bind_eq_some_iff.mp H
        obtain ⟨⟨t289, t290, t291⟩, A140, H⟩ := H
        replace H : (if t265 = true then (if (strOfNums t266).toList = (strOfNums t270).toList then (if t267 = t271 then (if (strOfNums t274).toList = (strOfNums t279).toList then (if t275 = t280 then (if t276 = t281 then ((godwitref03_Lists.f kj4 t284 t289).bind fun t294 => (if t294 = true then (if t285 = t290 then (if t286 = t291 then ((frame_Len.f l2).bind fun t295 => ((godwitref03_Len.f l2).bind fun t296 => (some (t295 == t296)))) else (none)) else (none)) else (none))) else (none)) else (none)) else (none)) else (none)) else (none)) else (none)) = some r := H
        have A14 := Aside0.mk A140
        clear A140
        by_cases c15 : t265 = true
        · subst c15
          have H1 : (if (strOfNums t266).toList = (strOfNums t270).toList then (if t267 = t271 then (if (strOfNums t274).toList = (strOfNums t279).toList then (if t275 = t280 then (if t276 = t281 then ((godwitref03_Lists.f kj4 t284 t289).bind fun t294 => (if t294 = true then (if t285 = t290 then (if t286 = t291 then ((frame_Len.f l2).bind fun t295 => ((godwitref03_Len.f l2).bind fun t296 => (some (t295 == t296)))) else (none)) else (none)) else (none))) else (none)) else (none)) else (none)) else (none)) else (none)) = some r := by rw [if_pos rfl] at H; exact H
          clear H
          have H := H1
          clear H1
          by_cases c16 : (strOfNums t266).toList = (strOfNums t270).toList
          · rw [if_pos c16] at H
            have c16b0 : ((strOfNums t266).toList == (strOfNums t270).toList) = true := beq_iff_eq.mpr c16
            have c16b1 : ((strOfNums t266).toList != (strOfNums t270).toList) = false := bne_eq_false_iff_eq.mpr c16
            clear c16
            by_cases c17 : t267 = t271
            · rw [if_pos c17] at H
              have c17b0 : (t267 == t271) = true := beq_iff_eq.mpr c17
              have c17b1 : (t267 != t271) = false := bne_eq_false_iff_eq.mpr c17
              clear c17
              by_cases c18 : (strOfNums t274).toList = (strOfNums t279).toList
              · rw [if_pos c18] at H
                have c18b0 : ((strOfNums t274).toList == (strOfNums t279).toList) = true := beq_iff_eq.mpr c18
                have c18b1 : ((strOfNums t274).toList != (strOfNums t279).toList) = false := bne_eq_false_iff_eq.mpr c18
                clear c18
                by_cases c19 : t275 = t280
                · rw [if_pos c19] at H
                  have c19b0 : (t275 == t280) = true := beq_iff_eq.mpr c19
                  have c19b1 : (t275 != t280) = false := bne_eq_false_iff_eq.mpr c19
                  clear c19
                  by_cases c20 : t276 = t281
                  · rw [if_pos c20] at H
                    have c20b0 : (t276 == t281) = true := beq_iff_eq.mpr c20
                    have c20b1 : (t276 != t281) = false := bne_eq_false_iff_eq.mpr c20
                    clear c20
                    replace H := Option.bind_eq_some_iff.mp H
                    obtain ⟨t294, A210, H⟩ := H
                    replace H : (if t294 = true then (if t285 = t290 then (if t286 = t291 then ((frame_Len.f l2).bind fun t295 => ((godwitref03_Len.f l2).bind fun t296 => (some (t295 == t296)))) else (none)) else (none)) else (none)) = some r := H
                    have A21 := Aside0.mk A210
                    clear A210
                    by_cases c22 : t294 = true
                    · subst c22
                      have H1 : (if t285 = t290 then (if t286 = t291 then ((frame_Len.f l2).bind fun t295 => ((godwitref03_Len.f l2).bind fun t296 => (some (t295 == t296)))) else (none)) else (none)) = some r := by rw [if_pos rfl] at H; exact H
                      clear H
                      have H := H1
                      clear H1
                      by_cases c23 : t285 = t290
                      · rw [if_pos c23] at H
                        have c23b0 : (t285 == t290) = true := beq_iff_eq.mpr c23
                        have c23b1 : (t285 != t290) = false := bne_eq_false_iff_eq.mpr c23
                        clear c23
                        by_cases c24 : t286 = t291
                        · rw [if_pos c24] at H
                          have c24b0 : (t286 == t291) = true := beq_iff_eq.mpr c24
                          have c24b1 : (t286 != t291) = false := bne_eq_false_iff_eq.mpr c24
                          clear c24
                          replace H := Option.bind_eq_some_iff.mp H
                          obtain ⟨t295, A250, H⟩ := H
                          replace H : ((godwitref03_Len.f l2).bind fun t296 => (some (t295 == t296))) = some r := H
                          have A25 := Aside0.mk A250
                          clear A250
                          replace H := Option.bind_eq_some_iff.mp H
                          obtain ⟨t296, A260, H⟩ := H
                          replace H : (some (t295 == t296)) = some r := H
                          have A26 := Aside0.mk A260
                          clear A260
                          obtain rfl := Option.some.inj H
                          go_wp2_with (first | ((with_reducible refine gate_callee (f := 8) rfl ?_); refine goesL_ (some 37) rfl rfl Try.func8 (by kernel_rfl) rfl #[.slice A0 l0.length c0, .slice A2 l2.length c2] rfl (by (try simp only [List.map_toArray, List.map_cons, List.map_nil]); first | done | rfl | (simp only [List.length_drop, List.length_take]; rfl)) ?_; (with_reducible refine (frame_Put.calls kj4 _ _ l0 _ _ l2 t266 t267 _ ?side1 ?side2 ?side3 ?side4 A9.out).mono ?_); (case side1 => repeat (first | exact (Kd.C_below HR0.out HB.out) | (with_reducible refine Kd.C_alloc ?_ _) | (with_reducible refine Kd.C_drewN ?_ _) | (with_reducible refine Kd.C_drew ?_))); (case side2 => exact HC0.out); (case side3 => repeat (first | exact (Kd.C_below HR2.out HB.out) | (with_reducible refine Kd.C_alloc ?_ _) | (with_reducible refine Kd.C_drewN ?_ _) | (with_reducible refine Kd.C_drew ?_))); (case side4 => exact HC2.out); rintro e w27 ⟨v268, rfl, ho0, hb⟩; refine ⟨_, rfl, ?_⟩; have n0_ := Aside0.mk (Kd.R_lower ho0 (below_size (by repeat (first | (with_reducible first | exact HB.out | apply below_alloc | apply pw_below_drewN | apply below_drew1) | exact HB.out)))); have n1_ := Aside0.mk (below_step (by repeat (first | (with_reducible first | exact HB.out | apply below_alloc | apply pw_below_drewN | apply below_drew1) | exact HB.out)) hb); clear HB; have HO269 := n0_; have HB := n1_; clear n0_ n1_; (try clear hb); (try clear hb2); (try clear hk); (try clear hi); (try clear ho0)) | ((with_reducible refine gate_callee (f := 13) rfl ?_); refine goesL_ (some 43) rfl rfl Try.func13 (by kernel_rfl) rfl #[.slice A0 l0.length c0, .slice A2 l2.length c2] rfl (by (try simp only [List.map_toArray, List.map_cons, List.map_nil]); first | done | rfl | (simp only [List.length_drop, List.length_take]; rfl)) ?_; (with_reducible refine (godwitref03_Put.calls kj4 _ _ l0 _ _ l2 t270 t271 _ ?side1 ?side2 ?side3 ?side4 A10.out).mono ?_); (case side1 => repeat (first | exact (Kd.C_below HR0.out HB.out) | (with_reducible refine Kd.C_alloc ?_ _) | (with_reducible refine Kd.C_drewN ?_ _) | (with_reducible refine Kd.C_drew ?_))); (case side2 => exact HC0.out); (case side3 => repeat (first | exact (Kd.C_below HR2.out HB.out) | (with_reducible refine Kd.C_alloc ?_ _) | (with_reducible refine Kd.C_drewN ?_ _) | (with_reducible refine Kd.C_drew ?_))); (case side4 => exact HC2.out); rintro e w28 ⟨v272, rfl, ho0, hb⟩; refine ⟨_, rfl, ?_⟩; have n0_ := Aside0.mk (Kd.R_elder' (by (with_reducible repeat (first | apply Kd.R_alloc | apply Kd.R_drewN | apply Kd.R_drew)); exact HO269.out) (Kd.R_base ho0) hb); have n1_ := Aside0.mk (Kd.R_lower (Kd.R_new' ho0 (Kd.R_lt (by (with_reducible repeat (first | apply Kd.R_alloc | apply Kd.R_drewN | apply Kd.R_drew)); exact HO269.out))) (below_size (by repeat (first | (with_reducible first | exact HB.out | apply below_alloc | apply pw_below_drewN | apply below_drew1) | exact HB.out)))); have n2_ := Aside0.mk (below_step (by repeat (first | (with_reducible first | exact HB.out | apply below_alloc | apply pw_below_drewN | apply below_drew1) | exact HB.out)) hb); clear HO269; clear HB; have HO269 := n0_; have HO273 := n1_; have HB := n2_; clear n0_ n1_ n2_; (try clear hb); (try clear hb2); (try clear hk); (try clear hi); (try clear ho0)) | ((with_reducible refine gate_callee (f := 9) rfl ?_); refine goesL_ (some 49) rfl rfl Try.func9 (by kernel_rfl) rfl #[.slice A0 l0.length c0, .int .i64 a1] rfl (by (try simp only [List.map_toArray, List.map_cons, List.map_nil]); first | done | rfl | (simp only [List.length_drop, List.length_take]; rfl)) ?_; (with_reducible refine (frame_Read.calls kj4 _ _ l0 a1 t274 t275 t276 _ ?side1 ?side2 A11.out).mono ?_); (case side1 => repeat (first | exact (Kd.C_below HR0.out HB.out) | (with_reducible refine Kd.C_alloc ?_ _) | (with_reducible refine Kd.C_drewN ?_ _) | (with_reducible refine Kd.C_drew ?_))); (case side2 => exact HC0.out); rintro e w29 ⟨v277, rfl, ho0, hb⟩; refine ⟨_, rfl, ?_⟩; have n0_ := Aside0.mk (Kd.R_elder' (by (with_reducible repeat (first | apply Kd.R_alloc | apply Kd.R_drewN | apply Kd.R_drew)); exact HO269.out) (Kd.R_base ho0) hb); have n1_ := Aside0.mk (Kd.R_elder' (by (with_reducible repeat (first | apply Kd.R_alloc | apply Kd.R_drewN | apply Kd.R_drew)); exact HO273.out) (Kd.R_base ho0) hb); have n2_ := Aside0.mk (Kd.R_lower (Kd.R_new' (Kd.R_new' ho0 (Kd.R_lt (by (with_reducible repeat (first | apply Kd.R_alloc | apply Kd.R_drewN | apply Kd.R_drew)); exact HO269.out))) (Kd.R_lt (by (with_reducible repeat (first | apply Kd.R_alloc | apply Kd.R_drewN | apply Kd.R_drew)); exact HO273.out))) (below_size (by repeat (first | (with_reducible first | exact HB.out | apply below_alloc | apply pw_below_drewN | apply below_drew1) | exact HB.out)))); have n3_ := Aside0.mk (below_step (by repeat (first | (with_reducible first | exact HB.out | apply below_alloc | apply pw_below_drewN | apply below_drew1) | exact HB.out)) hb); clear HO269; clear HO273; clear HB; have HO269 := n0_; have HO273 := n1_; have HO278 := n2_; have HB := n3_; clear n0_ n1_ n2_ n3_; (try clear hb); (try clear hb2); (try clear hk); (try clear hi); (try clear ho0)) | ((with_reducible refine gate_callee (f := 14) rfl ?_); refine goesL_ (some 56) rfl rfl Try.func14 (by kernel_rfl) rfl #[.slice A0 l0.length c0, .int .i64 a1] rfl (by (try simp only [List.map_toArray, List.map_cons, List.map_nil]); first | done | rfl | (simp only [List.length_drop, List.length_take]; rfl)) ?_; (with_reducible refine (godwitref03_Read.calls kj4 _ _ l0 a1 t279 t280 t281 _ ?side1 ?side2 A12.out).mono ?_); (case side1 => repeat (first | exact (Kd.C_below HR0.out HB.out) | (with_reducible refine Kd.C_alloc ?_ _) | (with_reducible refine Kd.C_drewN ?_ _) | (with_reducible refine Kd.C_drew ?_))); (case side2 => exact HC0.out); rintro e w30 ⟨v282, rfl, ho0, hb⟩; refine ⟨_, rfl, ?_⟩; have n0_ := Aside0.mk (Kd.R_elder' (by (with_reducible repeat (first | apply Kd.R_alloc | apply Kd.R_drewN | apply Kd.R_drew)); exact HO269.out) (Kd.R_base ho0) hb); have n1_ := Aside0.mk (Kd.R_elder' (by (with_reducible repeat (first | apply Kd.R_alloc | apply Kd.R_drewN | apply Kd.R_drew)); exact HO273.out) (Kd.R_base ho0) hb); have n2_ := Aside0.mk (Kd.R_elder' (by (with_reducible repeat (first | apply Kd.R_alloc | apply Kd.R_drewN | apply Kd.R_drew)); exact HO278.out) (Kd.R_base ho0) hb); have n3_ := Aside0.mk (Kd.R_lower (Kd.R_new' (Kd.R_new' (Kd.R_new' ho0 (Kd.R_lt (by (with_reducible repeat (first | apply Kd.R_alloc | apply Kd.R_drewN | apply Kd.R_drew)); exact HO269.out))) (Kd.R_lt (by (with_reducible repeat (first | apply Kd.R_alloc | apply Kd.R_drewN | apply Kd.R_drew)); exact HO273.out))) (Kd.R_lt (by (with_reducible repeat (first | apply Kd.R_alloc | apply Kd.R_drewN | apply Kd.R_drew)); exact HO278.out))) (below_size (by repeat (first | (with_reducible first | exact HB.out | apply below_alloc | apply pw_below_drewN | apply below_drew1) | exact HB.out)))); have n4_ := Aside0.mk (below_step (by repeat (first | (with_reducible first | exact HB.out | apply below_alloc | apply pw_below_drewN | apply below_drew1) | exact HB.out)) hb); clear HO269; clear HO273; clear HO278; clear HB; have HO269 := n0_; have HO273 := n1_; have HO278 := n2_; have HO283 := n3_; have HB := n4_; clear n0_ n1_ n2_ n3_ n4_; (try clear hb); (try clear hb2); (try clear hk); (try clear hi); (try clear ho0)) | ((with_reducible refine gate_callee (f := 11) rfl ?_); refine goesL_ (some 62) rfl rfl Try.func11 (by kernel_rfl) rfl #[.slice A0 l0.length c0] rfl (by (try simp only [List.map_toArray, List.map_cons, List.map_nil]); first | done | rfl | (simp only [List.length_drop, List.length_take]; rfl)) ?_; (with_reducible refine (frame_All.calls kj4 _ _ l0 t284 t285 t286 _ ?side1 ?side2 A13.out).mono ?_); (case side1 => repeat (first | exact (Kd.C_below HR0.out HB.out) | (with_reducible refine Kd.C_alloc ?_ _) | (with_reducible refine Kd.C_drewN ?_ _) | (with_reducible refine Kd.C_drew ?_))); (case side2 => exact HC0.out); rintro e w31 ⟨v287, rfl, ho0, hb⟩; refine ⟨_, rfl, ?_⟩; have n0_ := Aside0.mk (Kd.R_below (by (with_reducible repeat (first | apply Kd.R_alloc | apply Kd.R_drewN | apply Kd.R_drew)); exact HO269.out) hb); have n1_ := Aside0.mk (Kd.R_below (by (with_reducible repeat (first | apply Kd.R_alloc | apply Kd.R_drewN | apply Kd.R_drew)); exact HO273.out) hb); have n2_ := Aside0.mk (Kd.R_below (by (with_reducible repeat (first | apply Kd.R_alloc | apply Kd.R_drewN | apply Kd.R_drew)); exact HO278.out) hb); have n3_ := Aside0.mk (Kd.R_below (by (with_reducible repeat (first | apply Kd.R_alloc | apply Kd.R_drewN | apply Kd.R_drew)); exact HO283.out) hb); have n4_ := Aside0.mk (Kd.S_lower (Kd.S_new' (Kd.S_new' (Kd.S_new' (Kd.S_new' ho0 (Kd.R_lt (by (with_reducible repeat (first | apply Kd.R_alloc | apply Kd.R_drewN | apply Kd.R_drew)); exact HO269.out))) (Kd.R_lt (by (with_reducible repeat (first | apply Kd.R_alloc | apply Kd.R_drewN | apply Kd.R_drew)); exact HO273.out))) (Kd.R_lt (by (with_reducible repeat (first | apply Kd.R_alloc | apply Kd.R_drewN | apply Kd.R_drew)); exact HO278.out))) (Kd.R_lt (by (with_reducible repeat (first | apply Kd.R_alloc | apply Kd.R_drewN | apply Kd.R_drew)); exact HO283.out))) (below_size (by repeat (first | (with_reducible first | exact HB.out | apply below_alloc | apply pw_below_drewN | apply below_drew1) | exact HB.out)))); have n5_ := Aside0.mk (below_step (by repeat (first | (with_reducible first | exact HB.out | apply below_alloc | apply pw_below_drewN | apply below_drew1) | exact HB.out)) hb); clear HO269; clear HO273; clear HO278; clear HO283; clear HB; have HO269 := n0_; have HO273 := n1_; have HO278 := n2_; have HO283 := n3_; have HO288 := n4_; have HB := n5_; clear n0_ n1_ n2_ n3_ n4_ n5_; (try clear hb); (try clear hb2); (try clear hk); (try clear hi); (try clear ho0)) | ((with_reducible refine gate_callee (f := 15) rfl ?_); refine goesL_ (some 68) rfl rfl Try.func15 (by kernel_rfl) rfl #[.slice A0 l0.length c0] rfl (by (try simp only [List.map_toArray, List.map_cons, List.map_nil]); first | done | rfl | (simp only [List.length_drop, List.length_take]; rfl)) ?_; (with_reducible refine (godwitref03_All.calls kj4 _ _ l0 t289 t290 t291 _ ?side1 ?side2 A14.out).mono ?_); (case side1 => repeat (first | exact (Kd.C_below HR0.out HB.out) | (with_reducible refine Kd.C_alloc ?_ _) | (with_reducible refine Kd.C_drewN ?_ _) | (with_reducible refine Kd.C_drew ?_))); (case side2 => exact HC0.out); rintro e w32 ⟨v292, rfl, ho0, hb⟩; refine ⟨_, rfl, ?_⟩; have n0_ := Aside0.mk (Kd.R_below (by (with_reducible repeat (first | apply Kd.R_alloc | apply Kd.R_drewN | apply Kd.R_drew)); exact HO269.out) hb); have n1_ := Aside0.mk (Kd.R_below (by (with_reducible repeat (first | apply Kd.R_alloc | apply Kd.R_drewN | apply Kd.R_drew)); exact HO273.out) hb); have n2_ := Aside0.mk (Kd.R_below (by (with_reducible repeat (first | apply Kd.R_alloc | apply Kd.R_drewN | apply Kd.R_drew)); exact HO278.out) hb); have n3_ := Aside0.mk (Kd.R_below (by (with_reducible repeat (first | apply Kd.R_alloc | apply Kd.R_drewN | apply Kd.R_drew)); exact HO283.out) hb); have n4_ := Aside0.mk (Kd.S_elder' (by (with_reducible repeat (first | apply Kd.S_alloc | apply Kd.S_drewN | apply Kd.S_drew)); exact HO288.out) (Kd.S_base ho0) hb); have n5_ := Aside0.mk (Kd.S_lower (Kd.S_new' (Kd.S_new' (Kd.S_new' (Kd.S_new' (Kd.S_new' ho0 (Kd.R_lt (by (with_reducible repeat (first | apply Kd.R_alloc | apply Kd.R_drewN | apply Kd.R_drew)); exact HO269.out))) (Kd.R_lt (by (with_reducible repeat (first | apply Kd.R_alloc | apply Kd.R_drewN | apply Kd.R_drew)); exact HO273.out))) (Kd.R_lt (by (with_reducible repeat (first | apply Kd.R_alloc | apply Kd.R_drewN | apply Kd.R_drew)); exact HO278.out))) (Kd.R_lt (by (with_reducible repeat (first | apply Kd.R_alloc | apply Kd.R_drewN | apply Kd.R_drew)); exact HO283.out))) (Kd.S_lt (by (with_reducible repeat (first | apply Kd.S_alloc | apply Kd.S_drewN | apply Kd.S_drew)); exact HO288.out))) (below_size (by repeat (first | (with_reducible first | exact HB.out | apply below_alloc | apply pw_below_drewN | apply below_drew1) | exact HB.out)))); have n6_ := Aside0.mk (below_step (by repeat (first | (with_reducible first | exact HB.out | apply below_alloc | apply pw_below_drewN | apply below_drew1) | exact HB.out)) hb); clear HO269; clear HO273; clear HO278; clear HO283; clear HO288; clear HB; have HO269 := n0_; have HO273 := n1_; have HO278 := n2_; have HO283 := n3_; have HO288 := n4_; have HO293 := n5_; have HB := n6_; clear n0_ n1_ n2_ n3_ n4_ n5_ n6_; (try clear hb); (try clear hb2); (try clear hk); (try clear hi); (try clear ho0); have hcv33 := own_string (P := Try.prog) Try.underlying22 Try.underlying5 Try.underlying9 (Kd.own_of_R HO269.out); have hcv34 := own_string (P := Try.prog) Try.underlying22 Try.underlying5 Try.underlying9 (Kd.own_of_R HO273.out); have hcv35 := own_string (P := Try.prog) Try.underlying22 Try.underlying5 Try.underlying9 (Kd.own_of_R HO278.out); have hcv36 := own_string (P := Try.prog) Try.underlying22 Try.underlying5 Try.underlying9 (Kd.own_of_R HO283.out); obtain ⟨Ao37, co37, eo37⟩ := Kd.S_slice HO288.out; subst eo37; obtain ⟨Ao38, co38, eo38⟩ := Kd.S_slice HO293.out; subst eo38) | (go_at_call 12; (with_reducible refine (godwitref03_Lists.calls kj4 _ _ t284 _ _ t289 true _ ?side1 ?side2 ?side3 ?side4 A21.out).mono ?_); (case side1 => repeat (first | exact (Kd.S_reads' HO288.out).2.2 | (with_reducible refine Kd.C_alloc ?_ _) | (with_reducible refine Kd.C_drewN ?_ _) | (with_reducible refine Kd.C_drew ?_))); (case side2 => exact (Kd.S_reads' HO288.out).2.1); (case side3 => repeat (first | exact (Kd.S_reads' HO293.out).2.2 | (with_reducible refine Kd.C_alloc ?_ _) | (with_reducible refine Kd.C_drewN ?_ _) | (with_reducible refine Kd.C_drew ?_))); (case side4 => exact (Kd.S_reads' HO293.out).2.1); rintro e w' ⟨rfl, ⟨nd, rfl⟩⟩) | (go_at_call 10; (with_reducible refine (frame_Len.calls _ _ l2 t295 _ ?side1 ?side2 A25.out).mono ?_); (case side1 => repeat (first | exact (Kd.C_below HR2.out (by repeat (first | (with_reducible first | exact HB.out | apply below_alloc | apply pw_below_drewN | apply below_drew1) | exact HB.out))) | (with_reducible refine Kd.C_alloc ?_ _) | (with_reducible refine Kd.C_drewN ?_ _) | (with_reducible refine Kd.C_drew ?_))); (case side2 => exact HC2.out); rintro e w' ⟨rfl, ⟨nd, rfl⟩⟩) | (go_at_call 16; (with_reducible refine (godwitref03_Len.calls _ _ l2 t296 _ ?side1 ?side2 A26.out).mono ?_); (case side1 => repeat (first | exact (Kd.C_below HR2.out (by repeat (first | (with_reducible first | exact HB.out | apply below_alloc | apply pw_below_drewN | apply below_drew1) | exact HB.out))) | (with_reducible refine Kd.C_alloc ?_ _) | (with_reducible refine Kd.C_drewN ?_ _) | (with_reducible refine Kd.C_drew ?_))); (case side2 => exact HC2.out); rintro e w' ⟨rfl, ⟨nd, rfl⟩⟩))
                          go_ret
                          first | (with_reducible exact (clash2 A14 A13).elim) | (with_reducible exact (clash2 A13 A14).elim) | (with_reducible exact (clash2 A14 A12).elim) | (with_reducible exact (clash2 A12 A14).elim) | (with_reducible exact (clash2 A14 A11).elim) | (with_reducible exact (clash2 A11 A14).elim) | (with_reducible exact (clash2 A14 A10).elim) | (with_reducible exact (clash2 A10 A14).elim) | (with_reducible exact (clash2 A14 A9).elim) | (with_reducible exact (clash2 A9 A14).elim) | (with_reducible exact (clash2 A13 A12).elim) | (with_reducible exact (clash2 A12 A13).elim) | (with_reducible exact (clash2 A13 A11).elim) | (with_reducible exact (clash2 A11 A13).elim) | (with_reducible exact (clash2 A13 A10).elim) | (with_reducible exact (clash2 A10 A13).elim) | (with_reducible exact (clash2 A13 A9).elim) | (with_reducible exact (clash2 A9 A13).elim) | (with_reducible exact (clash2 A12 A11).elim) | (with_reducible exact (clash2 A11 A12).elim) | (with_reducible exact (clash2 A12 A10).elim) | (with_reducible exact (clash2 A10 A12).elim) | (with_reducible exact (clash2 A12 A9).elim) | (with_reducible exact (clash2 A9 A12).elim) | (with_reducible exact (clash2 A11 A10).elim) | (with_reducible exact (clash2 A10 A11).elim) | (with_reducible exact (clash2 A11 A9).elim) | (with_reducible exact (clash2 A9 A11).elim) | (with_reducible exact (clash2 A10 A9).elim) | (with_reducible exact (clash2 A9 A10).elim) | exact ⟨by first | rfl | (simp [errW_none, errW_some] <;> rfl) | (simp [*, errW_none, errW_some] <;> rfl), by repeat (first | (with_reducible first | exact HB.out | apply below_alloc | apply pw_below_drewN | apply below_drew1) | exact HB.out)⟩
                        · rw [if_neg c24] at H
                          exact absurd H (by simp)
                      · rw [if_neg c23] at H
                        exact absurd H (by simp)
                    · replace c22 := Bool.eq_false_iff.mpr c22
                      subst c22
                      have H1 : (none) = some r := by rw [if_neg (show ¬ (false = true) by decide)] at H; exact H
                      clear H
                      have H := H1
                      clear H1
                      exact absurd H (by simp)
                  · rw [if_neg c20] at H
                    exact absurd H (by simp)
                · rw [if_neg c19] at H
                  exact absurd H (by simp)
              · rw [if_neg c18] at H
                exact absurd H (by simp)
            · rw [if_neg c17] at H
              exact absurd H (by simp)
          · rw [if_neg c16] at H
            exact absurd H (by simp)
        · replace c15 := Bool.eq_false_iff.mpr c15
          subst c15
          have H1 : (none) = some r := by rw [if_neg (show ¬ (false = true) by decide)] at H; exact H
          clear H
          have H := H1
          clear H1
          exact absurd H (by simp)

/-- THE ONE PURE STATEMENT of godwitlaw03_FrameIs. -/
def godwitlaw03_FrameIs.Pure : Prop := ∀ (l0 : List Int) (a1 : Int) (l2 : List Int), (l0.length * 1 ≤ 140737488351232 ∧ ∀ y0_ ∈ l0, (Lit.int .u8 y0_).wf = true) → ((Lit.int .i64 a1).wf = true) → (l2.length * 1 ≤ 140737488351232 ∧ ∀ y0_ ∈ l2, (Lit.int .u8 y0_).wf = true) → ∃ k, godwitlaw03_FrameIs.f k l0 a1 l2 = some true

end Go.Proofs.Ytdjenkcafhdicaa.Q
