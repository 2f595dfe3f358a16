-- written by a turned copy of the kit's printer (wip/tools/patch_print.py over print.py); contracts of given functions are this session's own
import Derived.Test.YtdjenkcafhdicaaQx0
import Derived.Test.YtdjenkcafhdicaaQx7
import Derived.Test.YtdjenkcafhdicaaQx9
import Derived.Test.YtdjenkcafhdicaaQx10
import Derived.Test.YtdjenkcafhdicaaQx11
namespace Go.Proofs.Ytdjenkcafhdicaa.Q
open Go.RowKit Go.Proofs.YtdjenkcafhdicaaW.PrintWords Go.Proofs.YtdjenkcafhdicaaW.PrintLast Go.Proofs.YtdjenkcafhdicaaW.PrintMore Go.Proofs.Ytdjenkcafhdicaa.G
attribute [local go_sem] max2_int min2_int max_two min_two max_three min_three max_four min_four   -- for this text's walks alone
set_option linter.unusedVariables false
set_option linter.unusedSimpArgs false

/-! ### godwitlaw03_FrameOne: function 3 -/
mutual
def godwitlaw03_FrameOne.j0 : Nat → List Int → Int → List Int → List Int → Bool → Bool → Option (Bool)
  | 0, _, _, _, _, _, _ => none
  | k + 1, x0, x1, x2, x3, x9, x32 => if x32 = true then (some x9) else ((frame_Put.f k ([] : List Int) x2).bind fun bt153 => ((frame_Put.f k ([] : List Int) x3).bind fun bt157 => (if bt153.2 = 0 then (if bt157.2 = 0 then (if (((strOfNums bt153.1).toList == (strOfNums bt157.1).toList) != ((strOfNums x2).toList == (strOfNums x3).toList)) = true then (godwitlaw03_FrameOne.j1 k x0 x1 x9 true) else (godwitlaw03_FrameOne.j1 k x0 x1 x9 (decide ((bt153.1.length : Int) < 6)))) else (godwitlaw03_FrameOne.j1 k x0 x1 x9 true)) else (godwitlaw03_FrameOne.j1 k x0 x1 x9 true))))
def godwitlaw03_FrameOne.j1 : Nat → List Int → Int → Bool → Bool → Option (Bool)
  | 0, _, _, _, _ => none
  | k + 1, x0, x1, x9, x67 => if x67 = true then (none) else ((frame_Read.f k x0 x1).bind fun bt161 => (if bt161.2.2 = 0 then ((frame_Put.f k ([] : List Int) bt161.1).bind fun bt166 => (if x9 = true then (if bt166.2 = 0 then (if x1 ≥ 0 then (if bt161.2.1 ≤ (x0.length : Int) then (if 0 ≤ x1 then (if x1 ≤ bt161.2.1 then (if (strOfNums bt166.1).toList = (strOfNums ((x0.take (bt161.2.1 : Int).toNat).drop (x1 : Int).toNat)).toList then ((frame_Len.f bt161.1).bind fun t171 => (some ((wrap64 (bt161.2.1 - x1)) == t171))) else (none)) else (none)) else (none)) else (none)) else (none)) else (none)) else (none))) else (if x9 = true then (if bt161.2.1 = 0 then (some ((bt161.1.length : Int) == 0)) else (none)) else (none))))
end
def godwitlaw03_FrameOne.f (k : Nat) (l0 : List Int) (a1 : Int) (l2 : List Int) (l3 : List Int) : Option (Bool) := (godwitlaw03_awake.f k).bind fun t152 => (if (l0.length : Int) > 2000 then (godwitlaw03_FrameOne.j0 k l0 a1 l2 l3 t152 true) else (if (l2.length : Int) > 512 then (godwitlaw03_FrameOne.j0 k l0 a1 l2 l3 t152 true) else (godwitlaw03_FrameOne.j0 k l0 a1 l2 l3 t152 (decide ((l3.length : Int) > 512)))))
theorem godwitlaw03_FrameOne.mono_l : ∀ k, (∀ y0 y1 y2 y3 y4 y5, LeO (godwitlaw03_FrameOne.j0 k y0 y1 y2 y3 y4 y5) (godwitlaw03_FrameOne.j0 (k + 1) y0 y1 y2 y3 y4 y5)) ∧ (∀ y0 y1 y2 y3, LeO (godwitlaw03_FrameOne.j1 k y0 y1 y2 y3) (godwitlaw03_FrameOne.j1 (k + 1) y0 y1 y2 y3))
  | 0 => ⟨fun _ _ _ _ _ _ r h => by simp [godwitlaw03_FrameOne.j0] at h, fun _ _ _ _ r h => by simp [godwitlaw03_FrameOne.j1] at h⟩
  | k + 1 => by
    obtain ⟨ih0, ih1⟩ := godwitlaw03_FrameOne.mono_l k
    refine ⟨?_, ?_⟩
    · intro y0 y1 y2 y3 y4 y5
      unfold godwitlaw03_FrameOne.j0
      repeat' first
      | (with_reducible exact ih0 _ _ _ _ _ _)
      | (with_reducible exact ih1 _ _ _ _)
      | (with_reducible exact frame_Put.mono _ _ _)
      | (with_reducible exact frame_Read.mono _ _ _)
      | (with_reducible exact godwitlaw03_awake.mono _)
      | (with_reducible exact LeO.refl _)
      | (with_reducible exact LeO.none _)
      | (with_reducible refine LeO.ite ?_ ?_)
      | (with_reducible refine LeO.bind ?_ (fun _ => ?_))
      | exact ih0 _ _ _ _ _ _
      | exact ih1 _ _ _ _
      | exact frame_Put.mono _ _ _
      | exact frame_Read.mono _ _ _
      | exact godwitlaw03_awake.mono _
      | exact LeO.none _
      | refine LeO.ite ?_ ?_
      | refine LeO.bind ?_ (fun _ => ?_)
    · intro y0 y1 y2 y3
      unfold godwitlaw03_FrameOne.j1
      repeat' first
      | (with_reducible exact ih0 _ _ _ _ _ _)
      | (with_reducible exact ih1 _ _ _ _)
      | (with_reducible exact frame_Put.mono _ _ _)
      | (with_reducible exact frame_Read.mono _ _ _)
      | (with_reducible exact godwitlaw03_awake.mono _)
      | (with_reducible exact LeO.refl _)
      | (with_reducible exact LeO.none _)
      | (with_reducible refine LeO.ite ?_ ?_)
      | (with_reducible refine LeO.bind ?_ (fun _ => ?_))
      | exact ih0 _ _ _ _ _ _
      | exact ih1 _ _ _ _
      | exact frame_Put.mono _ _ _
      | exact frame_Read.mono _ _ _
      | exact godwitlaw03_awake.mono _
      | exact LeO.none _
      | refine LeO.ite ?_ ?_
      | refine LeO.bind ?_ (fun _ => ?_)
theorem godwitlaw03_FrameOne.mono : ∀ a0 a1 a2 a3 k, LeO (godwitlaw03_FrameOne.f k a0 a1 a2 a3) (godwitlaw03_FrameOne.f (k + 1) a0 a1 a2 a3) := by
  intro a0 a1 a2 a3 k
  obtain ⟨ih0, ih1⟩ := godwitlaw03_FrameOne.mono_l k
  unfold godwitlaw03_FrameOne.f
  repeat' first
      | (with_reducible exact ih0 _ _ _ _ _ _)
      | (with_reducible exact ih1 _ _ _ _)
      | (with_reducible exact frame_Put.mono _ _ _)
      | (with_reducible exact frame_Read.mono _ _ _)
      | (with_reducible exact godwitlaw03_awake.mono _)
      | (with_reducible exact LeO.refl _)
      | (with_reducible exact LeO.none _)
      | (with_reducible refine LeO.ite ?_ ?_)
      | (with_reducible refine LeO.bind ?_ (fun _ => ?_))
      | exact ih0 _ _ _ _ _ _
      | exact ih1 _ _ _ _
      | exact frame_Put.mono _ _ _
      | exact frame_Read.mono _ _ _
      | exact godwitlaw03_awake.mono _
      | exact LeO.none _
      | refine LeO.ite ?_ ?_
      | refine LeO.bind ?_ (fun _ => ?_)
def godwitlaw03_FrameOne.T12 : Bool × List (List Nat × List Nat) := (true, [([], []), ([0], [0]), ([1], [1]), ([2, 1], [1, 2]), ([1, 3], [1, 3]), ([4, 1], [4]), ([5], [5]), ([6, 5], [5, 6]), ([5, 7], [5, 7]), ([8, 5], [8]), ([9], [9]), ([9], [9]), ([11, 9], [9, 11]), ([10, 12, 9], [9, 10, 12]), ([9, 13], [9, 13]), ([14, 9], [14]), ([15], [15]), ([16, 15], [15, 16]), ([15], [15]), ([15], [15]), ([15], [15]), ([18, 19, 20, 15], [15, 18, 19, 20]), ([21, 15], [15, 21]), ([17, 22, 15], [15, 17, 22]), ([15, 23], [15, 23]), ([24, 15], [24]), ([25], [25]), ([25], [25]), ([26, 27, 25], [25, 26, 27]), ([25], [25]), ([29, 25, 25], [25, 29]), ([28, 30, 25], [25, 28, 30]), ([25, 31], [25, 31]), ([32, 30, 0, 1, 2, 3, 4, 5, 6, 7, 8, 9, 10, 11, 12, 13, 14, 15, 16, 17, 18, 19, 20, 21, 22, 23, 24, 25, 26, 27, 28, 29, 30, 31, 32], [32])])
def godwitlaw03_FrameOne.B12 : List Nat := [0, 1, 3, 7, 15, 31, 63, 127, 255, 511, 1023, 1023, 3071, 8191, 16383, 32767, 65535, 131071, 65535, 65535, 65535, 1900543, 3997695, 8388607, 16777215, 33554431, 67108863, 67108863, 268435455, 67108863, 603979775, 2147483647, 4294967295, 8589934591]
theorem godwitlaw03_FrameOne.tab12 : rtab .any (opsOf Try.f3 12) = godwitlaw03_FrameOne.T12 := by kernel_rfl
theorem godwitlaw03_FrameOne.bits12 : waitsOk godwitlaw03_FrameOne.T12.2 godwitlaw03_FrameOne.B12 = true := by kernel_rfl
set_option maxHeartbeats 8000000 in
set_option maxRecDepth 100000 in
theorem godwitlaw03_FrameOne.calls (k : Nat) (A0 : Option Addr) (c0 : Nat) (l0 : List Int) (a1 : Int) (A2 : Option Addr) (c2 : Nat) (l2 : List Int) (A3 : Option Addr) (c3 : Nat) (l3 : List Int) (r : Bool) (w : World) (hr0 : Kd.C (Kd.int .u8) w A0 l0.length l0) (hc0 : l0.length ≤ c0) (hr2 : Kd.C (Kd.int .u8) w A2 l2.length l2) (hc2 : l2.length ≤ c2) (hr3 : Kd.C (Kd.int .u8) w A3 l3.length l3) (hc3 : l3.length ≤ c3) (h : godwitlaw03_FrameOne.f k l0 a1 l2 l3 = some r) :
    Calls Try.prog 3 #[.slice A0 l0.length c0, .int .i64 a1, .slice A2 l2.length c2, .slice A3 l3.length c3] w fun e w' => e = .returned (.bool r) ∧ Below w.heap.size w w' := by
  have HR0 := Aside0.mk hr0
  have HC0 := Aside0.mk hc0
  clear hr0 hc0
  have HR2 := Aside0.mk hr2
  have HC2 := Aside0.mk hc2
  clear hr2 hc2
  have HR3 := Aside0.mk hr3
  have HC3 := Aside0.mk hc3
  clear hr3 hc3
  have HB := Aside0.mk (Below.refl w.heap.size w)
  have H : ((godwitlaw03_awake.f k).bind fun t152 => (if (l0.length : Int) > 2000 then (godwitlaw03_FrameOne.j0 k l0 a1 l2 l3 t152 true) else (if (l2.length : Int) > 512 then (godwitlaw03_FrameOne.j0 k l0 a1 l2 l3 t152 true) else (godwitlaw03_FrameOne.j0 k l0 a1 l2 l3 t152 (decide ((l3.length : Int) > 512)))))) = some r := h
  clear h
  replace H := Option.bind_eq_some_iff.mp H
  obtain ⟨t152, A50, H⟩ := H
  replace H : (if (l0.length : Int) > 2000 then (godwitlaw03_FrameOne.j0 k l0 a1 l2 l3 t152 true) else (if (l2.length : Int) > 512 then (godwitlaw03_FrameOne.j0 k l0 a1 l2 l3 t152 true) else (godwitlaw03_FrameOne.j0 k l0 a1 l2 l3 t152 (decide ((l3.length : Int) > 512))))) = some r := H
  have A5 := Aside0.mk A50
  clear A50
  have HC6 := Aside0.mk H
  clear H
  go_enter Try.func3, Try.ntmps3
  go_upto_region 2 with (first | ((with_reducible refine gate_callee (f := 7) rfl ?_); refine goesL_ (some 19) rfl rfl Try.func7 (by kernel_rfl) rfl #[] rfl (by (try simp only [List.map_toArray, List.map_cons, List.map_nil]); first | done | rfl | (simp only [List.length_drop, List.length_take]; rfl)) ?_; (with_reducible refine (godwitlaw03_awake.calls k  t152 _ A5.out).mono ?_); rintro e w7 ⟨rfl, hb⟩; refine ⟨_, rfl, ?_⟩; have n0_ := Aside0.mk (below_step (by repeat (first | (with_reducible first | exact HB.out | apply below_alloc | apply pw_below_drewN | apply below_drew1) | exact HB.out)) hb); clear HB; have HB := n0_; clear n0_; (try clear hb); (try clear hb2); (try clear hk); (try clear hi)))
  (try simp only [Act.put, List.setIfInBounds_toArray, List.set_cons_zero, List.set_cons_succ])
  go_cut [32] (fun v32 wc => ∃ (kq : Nat) (x32_5 : Bool), v32 = .bool x32_5 ∧ Aside0 (godwitlaw03_FrameOne.j0 kq l0 a1 l2 l3 t152 x32_5 = some r) ∧ Aside0 (kq ≤ k) ∧ Aside0 (Below w.heap.size w wc))
  case first =>
    have H := HC6.out
    clear HC6
    by_cases c8 : (l0.length : Int) > 2000
    · rw [if_pos c8] at H
      have c8b0 : decide (2000 < (l0.length : Int)) = true := decide_eq_true c8
      have c8b1 : decide (2000 < l0.length) = true := decide_eq_true (by omega)
      clear c8
      (first | rw [c8b0] | (simp only [i64_w, i32_w]; rw [c8b0]) | skip)
      have H' := Aside0.mk H
      clear H
      go_wp2
      go_meet
      case rel => exact ⟨_, (true), (by first | rfl | (simp; done) | (simp [*]; done)), H', ⟨by first | omega | exact Nat.le_refl _⟩, ⟨by repeat (first | (with_reducible first | exact HB.out | apply below_alloc | apply pw_below_drewN | apply below_drew1) | exact HB.out)⟩⟩
    · rw [if_neg c8] at H
      have c8b0 : decide (2000 < (l0.length : Int)) = false := decide_eq_false c8
      have c8b1 : decide (2000 < l0.length) = false := decide_eq_false (by omega)
      clear c8
      (first | rw [c8b0] | (simp only [i64_w, i32_w]; rw [c8b0]) | skip)
      by_cases c9 : (l2.length : Int) > 512
      · rw [if_pos c9] at H
        have c9b0 : decide (512 < (l2.length : Int)) = true := decide_eq_true c9
        have c9b1 : decide (512 < l2.length) = true := decide_eq_true (by omega)
        clear c9
        have H' := Aside0.mk H
        clear H
        go_wp2
        go_meet
        case rel => exact ⟨_, (true), (by first | rfl | (simp; done) | (simp [*]; done)), H', ⟨by first | omega | exact Nat.le_refl _⟩, ⟨by repeat (first | (with_reducible first | exact HB.out | apply below_alloc | apply pw_below_drewN | apply below_drew1) | exact HB.out)⟩⟩
      · rw [if_neg c9] at H
        have c9b0 : decide (512 < (l2.length : Int)) = false := decide_eq_false c9
        have c9b1 : decide (512 < l2.length) = false := decide_eq_false (by omega)
        clear c9
        have H' := Aside0.mk H
        clear H
        go_wp2
        go_meet
        case rel => exact ⟨_, (decide ((l3.length : Int) > 512)), (by first | rfl | (simp; done) | (simp [*]; done)), H', ⟨by first | omega | exact Nat.le_refl _⟩, ⟨by repeat (first | (with_reducible first | exact HB.out | apply below_alloc | apply pw_below_drewN | apply below_drew1) | exact HB.out)⟩⟩
  case rest =>
    clear HC6
    try clear c2
    try clear p2
    try clear c3
    try clear c7
    try clear c8
    try clear c8b0
    try clear c8b1
    try clear c9
    try clear c9b0
    try clear c9b1
    obtain ⟨kq, x32_5, rfl, HA, HJ5, HB⟩ := hcut
    cases kq with
    | zero => exact absurd HA.out (by simp [godwitlaw03_FrameOne.j0])
    | succ kj5 =>
      have H := HA.out
      clear HA
      simp only [godwitlaw03_FrameOne.j0] at H
      by_cases c10 : x32_5 = true
      · subst c10
        have H1 : (some t152) = some r := by rw [if_pos rfl] at H; exact H
        clear H
        have H := H1
        clear H1
        obtain rfl := Option.some.inj H
        go_wp2
        go_ret
        exact ⟨by first | rfl | (simp [errW_none, errW_some] <;> rfl) | (simp [*, errW_none, errW_some] <;> rfl), by repeat (first | (with_reducible first | exact HB.out | apply below_alloc | apply pw_below_drewN | apply below_drew1) | exact HB.out)⟩
      · replace c10 := Bool.eq_false_iff.mpr c10
        subst c10
        have H1 : ((frame_Put.f kj5 ([] : List Int) l2).bind fun bt153 => ((frame_Put.f kj5 ([] : List Int) l3).bind fun bt157 => (if bt153.2 = 0 then (if bt157.2 = 0 then (if (((strOfNums bt153.1).toList == (strOfNums bt157.1).toList) != ((strOfNums l2).toList == (strOfNums l3).toList)) = true then (godwitlaw03_FrameOne.j1 kj5 l0 a1 t152 true) else (godwitlaw03_FrameOne.j1 kj5 l0 a1 t152 (decide ((bt153.1.length : Int) < 6)))) else (godwitlaw03_FrameOne.j1 kj5 l0 a1 t152 true)) else (godwitlaw03_FrameOne.j1 kj5 l0 a1 t152 true)))) = some r := by rw [if_neg (show ¬ (false = true) by decide)] at H; exact H
        clear H
        have H := H1
        clear H1
        replace H := Option.bind_eq_some_iff.mp H
        obtain ⟨⟨t153, t154⟩, A110, H⟩ := H
        replace H : ((frame_Put.f kj5 ([] : List Int) l3).bind fun bt157 => (if t154 = 0 then (if bt157.2 = 0 then (if (((strOfNums t153).toList == (strOfNums bt157.1).toList) != ((strOfNums l2).toList == (strOfNums l3).toList)) = true then (godwitlaw03_FrameOne.j1 kj5 l0 a1 t152 true) else (godwitlaw03_FrameOne.j1 kj5 l0 a1 t152 (decide ((t153.length : Int) < 6)))) else (godwitlaw03_FrameOne.j1 kj5 l0 a1 t152 true)) else (godwitlaw03_FrameOne.j1 kj5 l0 a1 t152 true))) = some r := H
        have A11 := Aside0.mk A110
        clear A110
        replace H := Option.bind_eq_some_iff.mp H
        obtain ⟨⟨t157, t158⟩, A120, H⟩ := H
        replace H : (if t154 = 0 then (if t158 = 0 then (if (((strOfNums t153).toList == (strOfNums t157).toList) != ((strOfNums l2).toList == (strOfNums l3).toList)) = true then (godwitlaw03_FrameOne.j1 kj5 l0 a1 t152 true) else (godwitlaw03_FrameOne.j1 kj5 l0 a1 t152 (decide ((t153.length : Int) < 6)))) else (godwitlaw03_FrameOne.j1 kj5 l0 a1 t152 true)) else (godwitlaw03_FrameOne.j1 kj5 l0 a1 t152 true)) = some r := H
        have A12 := Aside0.mk A120
        clear A120
        have HC13 := Aside0.mk H
        clear H
        go_upto_region 6 with (first | ((with_reducible refine gate_callee (f := 8) rfl ?_); refine goesL_ (some 36) rfl rfl Try.func8 (by kernel_rfl) rfl #[.slice none 0 0, .slice A2 l2.length c2] rfl (by (try simp only [List.map_toArray, List.map_cons, List.map_nil]); first | done | rfl | (simp only [List.length_drop, List.length_take]; rfl)) ?_; (refine (frame_Put.calls kj5 _ _ ([] : List Int) _ _ l2 t153 t154 _ ?side1 ?side2 ?side3 ?side4 A11.out).mono ?_); (case side1 => exact Kd.C_nil _ _); (case side2 => exact Nat.le_refl _); (case side3 => repeat (first | exact (Kd.C_below HR2.out HB.out) | (with_reducible refine Kd.C_alloc ?_ _) | (with_reducible refine Kd.C_drewN ?_ _) | (with_reducible refine Kd.C_drew ?_))); (case side4 => exact HC2.out); rintro e w14 ⟨v155, rfl, ho0, hb⟩; refine ⟨_, rfl, ?_⟩; have n0_ := Aside0.mk (Kd.R_lower ho0 (below_size (by repeat (first | (with_reducible first | exact HB.out | apply below_alloc | apply pw_below_drewN | apply below_drew1) | exact HB.out)))); have n1_ := Aside0.mk (below_step (by repeat (first | (with_reducible first | exact HB.out | apply below_alloc | apply pw_below_drewN | apply below_drew1) | exact HB.out)) hb); clear HB; have HO156 := n0_; have HB := n1_; clear n0_ n1_; (try clear hb); (try clear hb2); (try clear hk); (try clear hi); (try clear ho0)) | ((with_reducible refine gate_callee (f := 8) rfl ?_); refine goesL_ (some 41) rfl rfl Try.func8 (by kernel_rfl) rfl #[.slice none 0 0, .slice A3 l3.length c3] rfl (by (try simp only [List.map_toArray, List.map_cons, List.map_nil]); first | done | rfl | (simp only [List.length_drop, List.length_take]; rfl)) ?_; (refine (frame_Put.calls kj5 _ _ ([] : List Int) _ _ l3 t157 t158 _ ?side1 ?side2 ?side3 ?side4 A12.out).mono ?_); (case side1 => exact Kd.C_nil _ _); (case side2 => exact Nat.le_refl _); (case side3 => repeat (first | exact (Kd.C_below HR3.out HB.out) | (with_reducible refine Kd.C_alloc ?_ _) | (with_reducible refine Kd.C_drewN ?_ _) | (with_reducible refine Kd.C_drew ?_))); (case side4 => exact HC3.out); rintro e w15 ⟨v159, rfl, ho0, hb⟩; refine ⟨_, rfl, ?_⟩; have n0_ := Aside0.mk (Kd.R_elder' (by (with_reducible repeat (first | apply Kd.R_alloc | apply Kd.R_drewN | apply Kd.R_drew)); exact HO156.out) (Kd.R_base ho0) hb); have n1_ := Aside0.mk (Kd.R_lower (Kd.R_new' ho0 (Kd.R_lt (by (with_reducible repeat (first | apply Kd.R_alloc | apply Kd.R_drewN | apply Kd.R_drew)); exact HO156.out))) (below_size (by repeat (first | (with_reducible first | exact HB.out | apply below_alloc | apply pw_below_drewN | apply below_drew1) | exact HB.out)))); have n2_ := Aside0.mk (below_step (by repeat (first | (with_reducible first | exact HB.out | apply below_alloc | apply pw_below_drewN | apply below_drew1) | exact HB.out)) hb); clear HO156; clear HB; have HO156 := n0_; have HO160 := n1_; have HB := n2_; clear n0_ n1_ n2_; (try clear hb); (try clear hb2); (try clear hk); (try clear hi); (try clear ho0)))
        (try simp only [Act.put, List.setIfInBounds_toArray, List.set_cons_zero, List.set_cons_succ])
        go_cut [67] (fun v67 wc => ∃ (kq : Nat) (x67_12 : Bool), v67 = .bool x67_12 ∧ Aside0 (godwitlaw03_FrameOne.j1 kq l0 a1 t152 x67_12 = some r) ∧ Aside0 (kq ≤ kj5) ∧ Aside0 (Below w.heap.size w wc))
        case first =>
          have H := HC13.out
          clear HC13
          by_cases c16 : t154 = 0
          · rw [if_pos c16] at H
            have c16b0 : (t154 == 0) = true := beq_iff_eq.mpr c16
            have c16b1 : (t154 != 0) = false := bne_eq_false_iff_eq.mpr c16
            clear c16
            (first | rw [c16b0] | (simp only [i64_w, i32_w]; rw [c16b0]) | skip)
            by_cases c17 : t158 = 0
            · rw [if_pos c17] at H
              have c17b0 : (t158 == 0) = true := beq_iff_eq.mpr c17
              have c17b1 : (t158 != 0) = false := bne_eq_false_iff_eq.mpr c17
              clear c17
              by_cases c18 : (((strOfNums t153).toList == (strOfNums t157).toList) != ((strOfNums l2).toList == (strOfNums l3).toList)) = true
              · rw [if_pos c18] at H
                have c18b0 : (((strOfNums t153).toList == (strOfNums t157).toList) != ((strOfNums l2).toList == (strOfNums l3).toList)) = true := c18
                (try (have c18b1 : decide (((strOfNums t153).toList == (strOfNums t157).toList) = ((strOfNums l2).toList == (strOfNums l3).toList)) = false := by simpa using c18))
                (try (have c18b2 : (((strOfNums t153).toList == (strOfNums t157).toList) == ((strOfNums l2).toList == (strOfNums l3).toList)) = false := by simpa using c18))
                (try (have c18b3 : ¬ (((strOfNums t153).toList == (strOfNums t157).toList) = ((strOfNums l2).toList == (strOfNums l3).toList)) := by simpa using c18))
                clear c18
                have H' := Aside0.mk H
                clear H
                have hcv19 := own_string (P := Try.prog) Try.underlying22 Try.underlying5 Try.underlying9 (Kd.own_of_R HO156.out)
                have hcv20 := own_string (P := Try.prog) Try.underlying22 Try.underlying5 Try.underlying9 (Kd.own_of_R HO160.out)
                have hcv21 := Kd.C_string (P := Try.prog) (A := A2) (c := c2) Try.underlying22 Try.underlying5 Try.underlying9 (Kd.C_below HR2.out HB.out)
                have hcv21d := fun n_ => Kd.C_string (P := Try.prog) (A := A2) (c := c2) Try.underlying22 Try.underlying5 Try.underlying9 (Kd.C_drewN (Kd.C_below HR2.out HB.out) n_)
                have hcv21e := fun m_ n_ => Kd.C_string (P := Try.prog) (A := A2) (c := c2) Try.underlying22 Try.underlying5 Try.underlying9 (Kd.C_drewN (Kd.C_drewN (Kd.C_below HR2.out HB.out) m_) n_)
                have hcv22 := Kd.C_string (P := Try.prog) (A := A3) (c := c3) Try.underlying22 Try.underlying5 Try.underlying9 (Kd.C_below HR3.out HB.out)
                have hcv22d := fun n_ => Kd.C_string (P := Try.prog) (A := A3) (c := c3) Try.underlying22 Try.underlying5 Try.underlying9 (Kd.C_drewN (Kd.C_below HR3.out HB.out) n_)
                have hcv22e := fun m_ n_ => Kd.C_string (P := Try.prog) (A := A3) (c := c3) Try.underlying22 Try.underlying5 Try.underlying9 (Kd.C_drewN (Kd.C_drewN (Kd.C_below HR3.out HB.out) m_) n_)
                go_wp2
                go_meet
                case rel => exact ⟨_, (true), (by first | rfl | (simp; done) | (simp [*]; done)), H', ⟨by have := HJ5.out; first | omega | exact Nat.le_refl _⟩, ⟨by repeat (first | (with_reducible first | exact HB.out | apply below_alloc | apply pw_below_drewN | apply below_drew1) | exact HB.out)⟩⟩
              · rw [if_neg c18] at H
                have c18b0 : (((strOfNums t153).toList == (strOfNums t157).toList) != ((strOfNums l2).toList == (strOfNums l3).toList)) = false := by simpa using c18
                (try (have c18b1 : decide (((strOfNums t153).toList == (strOfNums t157).toList) = ((strOfNums l2).toList == (strOfNums l3).toList)) = true := by simpa using c18))
                (try (have c18b2 : (((strOfNums t153).toList == (strOfNums t157).toList) == ((strOfNums l2).toList == (strOfNums l3).toList)) = true := by simpa using c18))
                clear c18
                have H' := Aside0.mk H
                clear H
                have hcv23 := own_string (P := Try.prog) Try.underlying22 Try.underlying5 Try.underlying9 (Kd.own_of_R HO156.out)
                have hcv24 := own_string (P := Try.prog) Try.underlying22 Try.underlying5 Try.underlying9 (Kd.own_of_R HO160.out)
                have hcv25 := Kd.C_string (P := Try.prog) (A := A2) (c := c2) Try.underlying22 Try.underlying5 Try.underlying9 (Kd.C_below HR2.out HB.out)
                have hcv25d := fun n_ => Kd.C_string (P := Try.prog) (A := A2) (c := c2) Try.underlying22 Try.underlying5 Try.underlying9 (Kd.C_drewN (Kd.C_below HR2.out HB.out) n_)
                have hcv25e := fun m_ n_ => Kd.C_string (P := Try.prog) (A := A2) (c := c2) Try.underlying22 Try.underlying5 Try.underlying9 (Kd.C_drewN (Kd.C_drewN (Kd.C_below HR2.out HB.out) m_) n_)
                have hcv26 := Kd.C_string (P := Try.prog) (A := A3) (c := c3) Try.underlying22 Try.underlying5 Try.underlying9 (Kd.C_below HR3.out HB.out)
                have hcv26d := fun n_ => Kd.C_string (P := Try.prog) (A := A3) (c := c3) Try.underlying22 Try.underlying5 Try.underlying9 (Kd.C_drewN (Kd.C_below HR3.out HB.out) n_)
                have hcv26e := fun m_ n_ => Kd.C_string (P := Try.prog) (A := A3) (c := c3) Try.underlying22 Try.underlying5 Try.underlying9 (Kd.C_drewN (Kd.C_drewN (Kd.C_below HR3.out HB.out) m_) n_)
                obtain ⟨Ao27, co27, eo27⟩ := Kd.R_slice HO156.out
                subst eo27
                go_wp2
                go_meet
                case rel => exact ⟨_, (decide ((t153.length : Int) < 6)), (by first | rfl | (simp; done) | (simp [*]; done)), H', ⟨by have := HJ5.out; first | omega | exact Nat.le_refl _⟩, ⟨by repeat (first | (with_reducible first | exact HB.out | apply below_alloc | apply pw_below_drewN | apply below_drew1) | exact HB.out)⟩⟩
            · rw [if_neg c17] at H
              have c17b0 : (t158 == 0) = false := beq_eq_false_iff_ne.mpr c17
              have c17b1 : (t158 != 0) = true := bne_iff_ne.mpr c17
              have H' := Aside0.mk H
              clear H
              go_wp2
              go_meet
              case rel => exact ⟨_, (true), (by first | rfl | (simp; done) | (simp [*]; done)), H', ⟨by have := HJ5.out; first | omega | exact Nat.le_refl _⟩, ⟨by repeat (first | (with_reducible first | exact HB.out | apply below_alloc | apply pw_below_drewN | apply below_drew1) | exact HB.out)⟩⟩
          · rw [if_neg c16] at H
            have c16b0 : (t154 == 0) = false := beq_eq_false_iff_ne.mpr c16
            have c16b1 : (t154 != 0) = true := bne_iff_ne.mpr c16
            (first | rw [c16b0] | (simp only [i64_w, i32_w]; rw [c16b0]) | skip)
            have H' := Aside0.mk H
            clear H
            go_wp2
            go_meet
            case rel => exact ⟨_, (true), (by first | rfl | (simp; done) | (simp [*]; done)), H', ⟨by have := HJ5.out; first | omega | exact Nat.le_refl _⟩, ⟨by repeat (first | (with_reducible first | exact HB.out | apply below_alloc | apply pw_below_drewN | apply below_drew1) | exact HB.out)⟩⟩
        case rest =>
          clear HC13
          try clear c1
          try clear hcv1
          try clear c2
          try clear p2
          try clear hcv2
          try clear c3
          try clear c7
          try clear c8
          try clear c8b0
          try clear c8b1
          try clear c9
          try clear c9b0
          try clear c9b1
          try clear c10
          try clear c16
          try clear c16b0
          try clear c16b1
          try clear c17
          try clear c17b0
          try clear c17b1
          try clear c18
          try clear c18b0
          try clear c18b1
          try clear c18b2
          try clear hcv19
          try clear hcv20
          try clear hcv21
          try clear hcv22
          try clear hcv23
          try clear hcv24
          try clear hcv25
          try clear hcv26
          try clear p2
          obtain ⟨kq, x67_12, rfl, HA, HJ12, HB⟩ := hcut
          cases kq with
          | zero => exact absurd HA.out (by simp [godwitlaw03_FrameOne.j1])
          | succ kj12 =>
            have H := HA.out
            clear HA
            simp only [godwitlaw03_FrameOne.j1] at H
            by_cases c28 : x67_12 = true
            · subst c28
              have H1 : (none) = some r := by rw [if_pos rfl] at H; exact H
              clear H
              have H := H1
              clear H1
              exact absurd H (by simp)
            · replace c28 := Bool.eq_false_iff.mpr c28
              subst c28
              have H1 : ((frame_Read.f kj12 l0 a1).bind fun bt161 => (if bt161.2.2 = 0 then ((frame_Put.f kj12 ([] : List Int) bt161.1).bind fun bt166 => (if t152 = true then (if bt166.2 = 0 then (if a1 ≥ 0 then (if bt161.2.1 ≤ (l0.length : Int) then (if 0 ≤ a1 then (if a1 ≤ bt161.2.1 then (if (strOfNums bt166.1).toList = (strOfNums ((l0.take (bt161.2.1 : Int).toNat).drop (a1 : Int).toNat)).toList then ((frame_Len.f bt161.1).bind fun t171 => (some ((wrap64 (bt161.2.1 - a1)) == t171))) else (none)) else (none)) else (none)) else (none)) else (none)) else (none)) else (none))) else (if t152 = true then (if bt161.2.1 = 0 then (some ((bt161.1.length : Int) == 0)) else (none)) else (none)))) = some r := by rw [if_neg (show ¬ (false = true) by decide)] at H; exact H
              clear H
              have H := H1
              clear H1
              replace H := Option.bind_eq_some_iff.mp H
              obtain ⟨⟨t161, t162, t163⟩, A290, H⟩ := H
              replace H : (if t163 = 0 then ((frame_Put.f kj12 ([] : List Int) t161).bind fun bt166 => (if t152 = true then (if bt166.2 = 0 then (if a1 ≥ 0 then (if t162 ≤ (l0.length : Int) then (if 0 ≤ a1 then (if a1 ≤ t162 then (if (strOfNums bt166.1).toList = (strOfNums ((l0.take (t162 : Int).toNat).drop (a1 : Int).toNat)).toList then ((frame_Len.f t161).bind fun t171 => (some ((wrap64 (t162 - a1)) == t171))) else (none)) else (none)) else (none)) else (none)) else (none)) else (none)) else (none))) else (if t152 = true then (if t162 = 0 then (some ((t161.length : Int) == 0)) else (none)) else (none))) = some r := H
              have A29 := Aside0.mk A290
              clear A290
              by_cases c30 : t163 = 0
              · rw [if_pos c30] at H
                have c30b0 : (t163 == 0) = true := beq_iff_eq.mpr c30
                have c30b1 : (t163 != 0) = false := bne_eq_false_iff_eq.mpr c30
                clear c30
                replace H := Option.bind_eq_some_iff.mp H
                obtain ⟨⟨t166, t167⟩, A310, H⟩ := H
                replace H : (if t152 = true then (if t167 = 0 then (if a1 ≥ 0 then (if t162 ≤ (l0.length : Int) then (if 0 ≤ a1 then (if a1 ≤ t162 then (if (strOfNums t166).toList = (strOfNums ((l0.take (t162 : Int).toNat).drop (a1 : Int).toNat)).toList then ((frame_Len.f t161).bind fun t171 => (some ((wrap64 (t162 - a1)) == t171))) else (none)) else (none)) else (none)) else (none)) else (none)) else (none)) else (none)) = some r := H
                have A31 := Aside0.mk A310
                clear A310
                by_cases c32 : t152 = true
                · subst c32
                  have H1 : (if t167 = 0 then (if a1 ≥ 0 then (if t162 ≤ (l0.length : Int) then (if 0 ≤ a1 then (if a1 ≤ t162 then (if (strOfNums t166).toList = (strOfNums ((l0.take (t162 : Int).toNat).drop (a1 : Int).toNat)).toList then ((frame_Len.f t161).bind fun t171 => (some ((wrap64 (t162 - a1)) == t171))) else (none)) else (none)) else (none)) else (none)) else (none)) else (none)) = some r := by rw [if_pos rfl] at H; exact H
                  clear H
                  have H := H1
                  clear H1
                  by_cases c33 : t167 = 0
                  · rw [if_pos c33] at H
                    have c33b0 : (t167 == 0) = true := beq_iff_eq.mpr c33
                    have c33b1 : (t167 != 0) = false := bne_eq_false_iff_eq.mpr c33
                    clear c33
                    by_cases c34 : a1 ≥ 0
                    · rw [if_pos c34] at H
                      have c34b0 : decide (0 ≤ a1) = true := decide_eq_true c34
                      clear c34
                      by_cases c35 : t162 ≤ (l0.length : Int)
                      · rw [if_pos c35] at H
                        have c35b0 : decide (t162 ≤ (l0.length : Int)) = true := decide_eq_true c35
                        clear c35
                        by_cases c36 : 0 ≤ a1
                        · rw [if_pos c36] at H
                          have c36b0 := eq_true c36
                          have c36b1 : decide (0 ≤ a1) = true := decide_eq_true c36
                          clear c36
                          by_cases c37 : a1 ≤ t162
                          · rw [if_pos c37] at H
                            have c37b0 := eq_true c37
                            have c37b1 : decide (a1 ≤ t162) = true := decide_eq_true c37
                            clear c37
                            have c38b0 := eq_true (of_decide_eq_true (by first | (with_reducible assumption) | assumption) : t162 ≤ (l0.length : Int))
                            by_cases c39 : (strOfNums t166).toList = (strOfNums ((l0.take (t162 : Int).toNat).drop (a1 : Int).toNat)).toList
                            · rw [if_pos c39] at H
                              have c39b0 : ((strOfNums t166).toList == (strOfNums ((l0.take (t162 : Int).toNat).drop (a1 : Int).toNat)).toList) = true := beq_iff_eq.mpr c39
                              have c39b1 : ((strOfNums t166).toList != (strOfNums ((l0.take (t162 : Int).toNat).drop (a1 : Int).toNat)).toList) = false := bne_eq_false_iff_eq.mpr c39
                              clear c39
                              replace H := Option.bind_eq_some_iff.mp H
                              obtain ⟨t171, A400, H⟩ := H
                              replace H : (some ((wrap64 (t162 - a1)) == t171)) = some r := H
                              have A40 := Aside0.mk A400
                              clear A400
                              obtain rfl := Option.some.inj H
                              try go_wp2_with (first | ((with_reducible refine gate_callee (f := 9) rfl ?_); refine goesL_ (some 71) rfl rfl Try.func9 (by kernel_rfl) rfl #[.slice A0 l0.length c0, .int .i64 a1] rfl (by (try simp only [List.map_toArray, List.map_cons, List.map_nil]); first | done | rfl | (simp only [List.length_drop, List.length_take]; rfl)) ?_; (with_reducible refine (frame_Read.calls kj12 _ _ l0 a1 t161 t162 t163 _ ?side1 ?side2 A29.out).mono ?_); (case side1 => repeat (first | exact (Kd.C_below HR0.out HB.out) | (with_reducible refine Kd.C_alloc ?_ _) | (with_reducible refine Kd.C_drewN ?_ _) | (with_reducible refine Kd.C_drew ?_))); (case side2 => exact HC0.out); rintro e w41 ⟨v164, rfl, ho0, hb⟩; refine ⟨_, rfl, ?_⟩; have n0_ := Aside0.mk (Kd.R_lower ho0 (below_size (by repeat (first | (with_reducible first | exact HB.out | apply below_alloc | apply pw_below_drewN | apply below_drew1) | exact HB.out)))); have n1_ := Aside0.mk (below_step (by repeat (first | (with_reducible first | exact HB.out | apply below_alloc | apply pw_below_drewN | apply below_drew1) | exact HB.out)) hb); clear HB; have HO165 := n0_; have HB := n1_; clear n0_ n1_; (try clear hb); (try clear hb2); (try clear hk); (try clear hi); (try clear ho0); obtain ⟨Ao42, co42, eo42⟩ := Kd.R_slice HO165.out; subst eo42) | ((with_reducible refine gate_callee (f := 8) rfl ?_); refine goesL_ (some 89) rfl rfl Try.func8 (by kernel_rfl) rfl #[.slice none 0 0, .slice Ao42 t161.length co42] rfl (by (try simp only [List.map_toArray, List.map_cons, List.map_nil]); first | done | rfl | (simp only [List.length_drop, List.length_take]; rfl)) ?_; (refine (frame_Put.calls kj12 _ _ ([] : List Int) _ _ t161 t166 t167 _ ?side1 ?side2 ?side3 ?side4 A31.out).mono ?_); (case side1 => exact Kd.C_nil _ _); (case side2 => exact Nat.le_refl _); (case side3 => repeat (first | exact (Kd.R_reads' HO165.out).2.2 | (with_reducible refine Kd.C_alloc ?_ _) | (with_reducible refine Kd.C_drewN ?_ _) | (with_reducible refine Kd.C_drew ?_))); (case side4 => exact (Kd.R_reads' HO165.out).2.1); rintro e w43 ⟨v168, rfl, ho0, hb⟩; refine ⟨_, rfl, ?_⟩; have n0_ := Aside0.mk (Kd.R_elder' (by (with_reducible repeat (first | apply Kd.R_alloc | apply Kd.R_drewN | apply Kd.R_drew)); exact HO165.out) (Kd.R_base ho0) hb); have n1_ := Aside0.mk (Kd.R_lower (Kd.R_new' ho0 (Kd.R_lt (by (with_reducible repeat (first | apply Kd.R_alloc | apply Kd.R_drewN | apply Kd.R_drew)); exact HO165.out))) (below_size (by repeat (first | (with_reducible first | exact HB.out | apply below_alloc | apply pw_below_drewN | apply below_drew1) | exact HB.out)))); have n2_ := Aside0.mk (below_step (by repeat (first | (with_reducible first | exact HB.out | apply below_alloc | apply pw_below_drewN | apply below_drew1) | exact HB.out)) hb); clear HO165; clear HB; have HO165 := n0_; have HO169 := n1_; have HB := n2_; clear n0_ n1_ n2_; (try clear hb); (try clear hb2); (try clear hk); (try clear hi); (try clear ho0)))
                              have n0_ := Aside0.mk (Kd.R_drew HO165.out)
                              have n1_ := Aside0.mk (Kd.R_drew HO169.out)
                              have n2_ := Aside0.mk (below_drew1 HB.out)
                              clear HO165
                              clear HO169
                              clear HB
                              have HO165 := n0_
                              have HO169 := n1_
                              have HB := n2_
                              clear n0_ n1_ n2_
                              obtain ⟨i045, hi045, _, hsz45, _⟩ := info_parts info5
                              obtain ⟨A45, hcut45, hA45, hC45⟩ := print_mid_of (P := Try.prog) (Value.int .u8) 0 22 5 .i64 .i64 Try.underlying22 hi045 hsz45 A0 c0 l0 a1 t162 (of_decide_eq_true (by first | (with_reducible assumption) | assumption)) (by first | omega | exact of_decide_eq_true (by first | (with_reducible assumption) | assumption)) (of_decide_eq_true (by first | (with_reducible assumption) | assumption)) HC0.out
                              have HR170 := Aside0.mk (Kd.C_of_reads (h1 := fun _ => rfl) (hA45 _ (Kd.reads_of_C HR0.out)))
                              have HC170 := Aside0.mk hC45
                              clear hA45 hC45 hi045 hsz45
                              refine start_ (n := 34) (S := fun w' => (convert 22 9 v168).run Try.prog w' = .ok (.string (strOfNums t166)) w' ∧ (convert 22 9 (.slice A45 (t162.toNat - a1.toNat) (c0 - a1.toNat))).run Try.prog w' = .ok (.string (strOfNums ((l0.take (t162 : Int).toNat).drop (a1 : Int).toNat))) w') (ds := []) #[false, false, false, false, false, false, false, false, false, false, false, false, false, false, false, false, false, false, false, false, false, false, false, false, false, false, false, false, false, false, false, false, false, false] (by kernel_rfl) rfl rfl ⟨own_string (P := Try.prog) Try.underlying22 Try.underlying5 Try.underlying9 (Kd.own_of_R HO169.out), (by have hl_ : ((l0.take (t162 : Int).toNat).drop (a1 : Int).toNat).length = t162.toNat - a1.toNat := (by have h1_ := of_eq_true c38b0; simp only [List.length_drop, List.length_take]; omega); rw [← hl_]; exact Kd.C_string (P := Try.prog) (A := A45) (c := (c0 - a1.toNat)) Try.underlying22 Try.underlying5 Try.underlying9 (Kd.C_below HR170.out HB.out))⟩ (fun hHeld => ?_); refine with_tabW godwitlaw03_FrameOne.tab12 godwitlaw03_FrameOne.bits12 (fun HT_ HW_ => ?_)
                              generalize w43.drew = w44 at HO165 HO169 HB HR170 hHeld ⊢
                              refine pure_ (i := 0) (N := some 92) (v := ?_) (a' := ?_) #[true, false, false, false, false, false, false, false, false, false, false, false, false, false, false, false, false, false, false, false, false, false, false, false, false, false, false, false, false, false, false, false, false, false] rfl rfl (any_of HT_.out (by kernel_rfl)) (fun _ _ _ h => h) (Or.inl ⟨by rfl, ?_⟩) ?_ ?_
                              rotate_left
                              · intro w'
                                go_simp
                                with_reducible rfl
                              rotate_left
                              · simp only [Act.put, List.setIfInBounds_toArray, List.set_cons_zero, List.set_cons_succ, i64_w, i32_w]
                                rfl
                              refine pure_ (i := 1) (N := some 93) (v := ?_) (a' := ?_) #[true, true, false, false, false, false, false, false, false, false, false, false, false, false, false, false, false, false, false, false, false, false, false, false, false, false, false, false, false, false, false, false, false, false] rfl rfl (any_of HT_.out (by kernel_rfl)) (fun _ _ _ h => h) (Or.inl ⟨by rfl, ?_⟩) ?_ ?_
                              rotate_left
                              · intro w'
                                go_simp
                                with_reducible rfl
                              rotate_left
                              · simp only [Act.put, List.setIfInBounds_toArray, List.set_cons_zero, List.set_cons_succ, i64_w, i32_w]
                                rfl
                              refine pure_ (i := 2) (N := some 94) (v := ?_) (a' := ?_) #[true, true, true, false, false, false, false, false, false, false, false, false, false, false, false, false, false, false, false, false, false, false, false, false, false, false, false, false, false, false, false, false, false, false] rfl rfl (any_of HT_.out (by kernel_rfl)) (fun _ _ _ h => h) (Or.inl ⟨by rfl, ?_⟩) ?_ ?_
                              rotate_left
                              · intro w'
                                go_simp
                                with_reducible rfl
                              rotate_left
                              · simp only [Act.put, List.setIfInBounds_toArray, List.set_cons_zero, List.set_cons_succ, i64_w, i32_w]
                                rfl
                              refine pure_ (i := 3) (N := some 95) (v := ?_) (a' := ?_) #[true, true, true, true, false, false, false, false, false, false, false, false, false, false, false, false, false, false, false, false, false, false, false, false, false, false, false, false, false, false, false, false, false, false] rfl rfl (any_of HT_.out (by kernel_rfl)) (fun _ _ _ h => h) (Or.inl ⟨by rfl, ?_⟩) ?_ ?_
                              rotate_left
                              · intro w'
                                go_simp
                                with_reducible rfl
                              rotate_left
                              · simp only [Act.put, List.setIfInBounds_toArray, List.set_cons_zero, List.set_cons_succ, i64_w, i32_w]
                                rfl
                              refine pure_ (i := 4) (N := some 96) (v := ?_) (a' := ?_) #[true, true, true, true, true, false, false, false, false, false, false, false, false, false, false, false, false, false, false, false, false, false, false, false, false, false, false, false, false, false, false, false, false, false] rfl rfl (any_of HT_.out (by kernel_rfl)) (fun _ _ _ h => h) (Or.inl ⟨by rfl, ?_⟩) ?_ ?_
                              rotate_left
                              · intro w'
                                go_simp
                                with_reducible rfl
                              rotate_left
                              · simp only [Act.put, List.setIfInBounds_toArray, List.set_cons_zero, List.set_cons_succ, i64_w, i32_w]
                                rfl
                              refine pure_ (i := 5) (N := some 97) (v := ?_) (a' := ?_) #[true, true, true, true, true, true, false, false, false, false, false, false, false, false, false, false, false, false, false, false, false, false, false, false, false, false, false, false, false, false, false, false, false, false] rfl rfl (any_of HT_.out (by kernel_rfl)) (fun _ _ _ h => h) (Or.inl ⟨by rfl, ?_⟩) ?_ ?_
                              rotate_left
                              · intro w'
                                go_simp
                                with_reducible rfl
                              rotate_left
                              · simp only [Act.put, List.setIfInBounds_toArray, List.set_cons_zero, List.set_cons_succ, i64_w, i32_w]
                                rfl
                              refine pure_ (i := 6) (N := some 98) (v := ?_) (a' := ?_) #[true, true, true, true, true, true, true, false, false, false, false, false, false, false, false, false, false, false, false, false, false, false, false, false, false, false, false, false, false, false, false, false, false, false] rfl rfl (any_of HT_.out (by kernel_rfl)) (fun _ _ _ h => h) (Or.inl ⟨by rfl, ?_⟩) ?_ ?_
                              rotate_left
                              · intro w'
                                go_simp
                                with_reducible rfl
                              rotate_left
                              · simp only [Act.put, List.setIfInBounds_toArray, List.set_cons_zero, List.set_cons_succ, i64_w, i32_w]
                                rfl
                              refine pure_ (i := 7) (N := some 99) (v := ?_) (a' := ?_) #[true, true, true, true, true, true, true, true, false, false, false, false, false, false, false, false, false, false, false, false, false, false, false, false, false, false, false, false, false, false, false, false, false, false] rfl rfl (any_of HT_.out (by kernel_rfl)) (fun _ _ _ h => h) (Or.inl ⟨by rfl, ?_⟩) ?_ ?_
                              rotate_left
                              · intro w'
                                go_simp
                                with_reducible rfl
                              rotate_left
                              · simp only [Act.put, List.setIfInBounds_toArray, List.set_cons_zero, List.set_cons_succ, i64_w, i32_w]
                                rfl
                              refine pure_ (i := 8) (N := some 100) (v := ?_) (a' := ?_) #[true, true, true, true, true, true, true, true, true, false, false, false, false, false, false, false, false, false, false, false, false, false, false, false, false, false, false, false, false, false, false, false, false, false] rfl rfl (any_of HT_.out (by kernel_rfl)) (fun _ _ _ h => h) (Or.inl ⟨by rfl, ?_⟩) ?_ ?_
                              rotate_left
                              · intro w'
                                go_simp
                                with_reducible rfl
                              rotate_left
                              · simp only [Act.put, List.setIfInBounds_toArray, List.set_cons_zero, List.set_cons_succ, i64_w, i32_w]
                                rfl
                              refine pure_ (i := 9) (N := some 101) (v := ?_) (a' := ?_) #[true, true, true, true, true, true, true, true, true, true, false, false, false, false, false, false, false, false, false, false, false, false, false, false, false, false, false, false, false, false, false, false, false, false] rfl rfl (any_of HT_.out (by kernel_rfl)) (fun _ _ _ h => h) (Or.inl ⟨by rfl, ?_⟩) ?_ ?_
                              rotate_left
                              · intro w'
                                go_simp
                                with_reducible rfl
                              rotate_left
                              · simp only [Act.put, List.setIfInBounds_toArray, List.set_cons_zero, List.set_cons_succ, i64_w, i32_w]
                                rfl
                              refine pure_ (i := 10) (N := some 102) (v := ?_) (a' := ?_) #[true, true, true, true, true, true, true, true, true, true, true, false, false, false, false, false, false, false, false, false, false, false, false, false, false, false, false, false, false, false, false, false, false, false] rfl rfl (any_of HT_.out (by kernel_rfl)) (fun _ _ _ h => h) (Or.inl ⟨by rfl, ?_⟩) ?_ ?_
                              rotate_left
                              · intro w'
                                go_simp
                                with_reducible rfl
                              rotate_left
                              · simp only [Act.put, List.setIfInBounds_toArray, List.set_cons_zero, List.set_cons_succ, i64_w, i32_w]
                                rfl
                              refine pure_ (i := 11) (N := some 103) (v := ?_) (a' := ?_) #[true, true, true, true, true, true, true, true, true, true, true, true, false, false, false, false, false, false, false, false, false, false, false, false, false, false, false, false, false, false, false, false, false, false] rfl rfl (any_of HT_.out (by kernel_rfl)) (fun _ _ _ h => h) (Or.inl ⟨by rfl, ?_⟩) ?_ ?_
                              rotate_left
                              · intro w'
                                go_simp
                                with_reducible rfl
                              rotate_left
                              · simp only [Act.put, List.setIfInBounds_toArray, List.set_cons_zero, List.set_cons_succ, i64_w, i32_w]
                                rfl
                              refine pure_ (i := 12) (N := some 104) (v := ?_) (a' := ?_) #[true, true, true, true, true, true, true, true, true, true, true, true, true, false, false, false, false, false, false, false, false, false, false, false, false, false, false, false, false, false, false, false, false, false] rfl rfl (any_of HT_.out (by kernel_rfl)) (fun _ _ _ h => h) (Or.inl ⟨by rfl, ?_⟩) ?_ ?_
                              rotate_left
                              · intro w'
                                go_simp
                                with_reducible rfl
                              rotate_left
                              · simp only [Act.put, List.setIfInBounds_toArray, List.set_cons_zero, List.set_cons_succ, i64_w, i32_w]
                                rfl
                              refine pure_ (i := 13) (N := some 105) (v := ?_) (a' := ?_) #[true, true, true, true, true, true, true, true, true, true, true, true, true, true, false, false, false, false, false, false, false, false, false, false, false, false, false, false, false, false, false, false, false, false] rfl rfl (any_of HT_.out (by kernel_rfl)) (fun _ _ _ h => h) (Or.inl ⟨by rfl, ?_⟩) ?_ ?_
                              rotate_left
                              · intro w'
                                go_simp
                                with_reducible rfl
                              rotate_left
                              · simp only [Act.put, List.setIfInBounds_toArray, List.set_cons_zero, List.set_cons_succ, i64_w, i32_w]
                                rfl
                              refine pure_ (i := 14) (N := some 106) (v := ?_) (a' := ?_) #[true, true, true, true, true, true, true, true, true, true, true, true, true, true, true, false, false, false, false, false, false, false, false, false, false, false, false, false, false, false, false, false, false, false] rfl rfl (any_of HT_.out (by kernel_rfl)) (fun _ _ _ h => h) (Or.inl ⟨by rfl, ?_⟩) ?_ ?_
                              rotate_left
                              · intro w'
                                go_simp
                                with_reducible rfl
                              rotate_left
                              · simp only [Act.put, List.setIfInBounds_toArray, List.set_cons_zero, List.set_cons_succ, i64_w, i32_w]
                                rfl
                              refine pure_ (i := 15) (N := some 107) (v := ?_) (a' := ?_) #[true, true, true, true, true, true, true, true, true, true, true, true, true, true, true, true, false, false, false, false, false, false, false, false, false, false, false, false, false, false, false, false, false, false] rfl rfl (any_of HT_.out (by kernel_rfl)) (fun _ _ _ h => h) (Or.inl ⟨by rfl, ?_⟩) ?_ ?_
                              rotate_left
                              · intro w'
                                go_simp
                                with_reducible rfl
                              rotate_left
                              · simp only [Act.put, List.setIfInBounds_toArray, List.set_cons_zero, List.set_cons_succ, i64_w, i32_w]
                                rfl
                              refine pure_ (i := 16) (N := some 108) (v := ?_) (a' := ?_) #[true, true, true, true, true, true, true, true, true, true, true, true, true, true, true, true, true, false, false, false, false, false, false, false, false, false, false, false, false, false, false, false, false, false] rfl rfl (any_of HT_.out (by kernel_rfl)) (fun _ _ _ h => h) (Or.inl ⟨by rfl, ?_⟩) ?_ ?_
                              rotate_left
                              · intro w'
                                go_simp
                                with_reducible rfl
                              rotate_left
                              · simp only [Act.put, List.setIfInBounds_toArray, List.set_cons_zero, List.set_cons_succ, i64_w, i32_w]
                                rfl
                              refine pure_ (i := 18) (N := some 110) (v := ?_) (a' := ?_) #[true, true, true, true, true, true, true, true, true, true, true, true, true, true, true, true, true, false, true, false, false, false, false, false, false, false, false, false, false, false, false, false, false, false] rfl rfl (any_of HT_.out (by kernel_rfl)) (fun _ _ _ h => h) (Or.inl ⟨by rfl, ?_⟩) ?_ ?_
                              rotate_left
                              · intro w'
                                go_simp
                                with_reducible rfl
                              rotate_left
                              · simp only [Act.put, List.setIfInBounds_toArray, List.set_cons_zero, List.set_cons_succ, i64_w, i32_w]
                                rfl
                              refine pure_ (i := 19) (N := some 111) (v := ?_) (a' := ?_) #[true, true, true, true, true, true, true, true, true, true, true, true, true, true, true, true, true, false, true, true, false, false, false, false, false, false, false, false, false, false, false, false, false, false] rfl rfl (any_of HT_.out (by kernel_rfl)) (fun _ _ _ h => h) (Or.inl ⟨by rfl, ?_⟩) ?_ ?_
                              rotate_left
                              · intro w'
                                go_simp
                                with_reducible rfl
                              rotate_left
                              · simp only [Act.put, List.setIfInBounds_toArray, List.set_cons_zero, List.set_cons_succ, i64_w, i32_w]
                                rfl
                              refine pure_ (i := 20) (N := some 112) (v := ?_) (a' := ?_) #[true, true, true, true, true, true, true, true, true, true, true, true, true, true, true, true, true, false, true, true, true, false, false, false, false, false, false, false, false, false, false, false, false, false] rfl rfl (any_of HT_.out (by kernel_rfl)) (fun _ _ _ h => h) (Or.inl ⟨by rfl, ?_⟩) ?_ ?_
                              rotate_left
                              · intro w'
                                go_simp
                                with_reducible rfl
                              rotate_left
                              · simp only [Act.put, List.setIfInBounds_toArray, List.set_cons_zero, List.set_cons_succ, i64_w, i32_w]
                                rfl
                              refine pure_ (i := 21) (N := some 113) (v := ?_) (a' := ?_) #[true, true, true, true, true, true, true, true, true, true, true, true, true, true, true, true, true, false, true, true, true, true, false, false, false, false, false, false, false, false, false, false, false, false] rfl rfl (any_of HT_.out (by kernel_rfl)) (fun _ _ _ h => h) (Or.inl ⟨by rfl, ?_⟩) ?_ ?_
                              rotate_left
                              · intro w'
                                go_simp
                                with_reducible rfl
                              rotate_left
                              · simp only [Act.put, List.setIfInBounds_toArray, List.set_cons_zero, List.set_cons_succ, i64_w, i32_w]
                                rfl
                              refine take_ (i := 17) (N := some 109) (v := ?_) (a' := ?_) #[true, true, true, true, true, true, true, true, true, true, true, true, true, true, true, true, true, true, true, true, true, true, false, false, false, false, false, false, false, false, false, false, false, false] rfl rfl (take_ofW HT_.out HW_.out (by kernel_rfl)) (fun _ _ _ h => h) (Or.inl ⟨by rfl, ?_⟩) hHeld ?_ ?_
                              rotate_left
                              · rintro w' ⟨s0, s1⟩
                                go_simp
                                with_reducible rfl
                              rotate_left
                              · simp only [Act.put, List.setIfInBounds_toArray, List.set_cons_zero, List.set_cons_succ, i64_w, i32_w]
                                rfl
                              refine take_ (i := 22) (N := some 114) (v := ?_) (a' := ?_) #[true, true, true, true, true, true, true, true, true, true, true, true, true, true, true, true, true, true, true, true, true, true, true, false, false, false, false, false, false, false, false, false, false, false] rfl rfl (take_ofW HT_.out HW_.out (by kernel_rfl)) (fun _ _ _ h => h) (Or.inl ⟨by rfl, ?_⟩) hHeld ?_ ?_
                              rotate_left
                              · rintro w' ⟨s0, s1⟩
                                go_simp
                                with_reducible rfl
                              rotate_left
                              · simp only [Act.put, List.setIfInBounds_toArray, List.set_cons_zero, List.set_cons_succ, i64_w, i32_w]
                                rfl
                              refine pure_ (i := 23) (N := some 115) (v := ?_) (a' := ?_) #[true, true, true, true, true, true, true, true, true, true, true, true, true, true, true, true, true, true, true, true, true, true, true, true, false, false, false, false, false, false, false, false, false, false] rfl rfl (any_of HT_.out (by kernel_rfl)) (fun _ _ _ h => h) (Or.inl ⟨by rfl, ?_⟩) ?_ ?_
                              rotate_left
                              · intro w'
                                go_simp
                                with_reducible rfl
                              rotate_left
                              · simp only [Act.put, List.setIfInBounds_toArray, List.set_cons_zero, List.set_cons_succ, i64_w, i32_w]
                                rfl
                              refine pure_ (i := 24) (N := some 116) (v := ?_) (a' := ?_) #[true, true, true, true, true, true, true, true, true, true, true, true, true, true, true, true, true, true, true, true, true, true, true, true, true, false, false, false, false, false, false, false, false, false] rfl rfl (any_of HT_.out (by kernel_rfl)) (fun _ _ _ h => h) (Or.inl ⟨by rfl, ?_⟩) ?_ ?_
                              rotate_left
                              · intro w'
                                go_simp
                                with_reducible rfl
                              rotate_left
                              · simp only [Act.put, List.setIfInBounds_toArray, List.set_cons_zero, List.set_cons_succ, i64_w, i32_w]
                                rfl
                              refine pure_ (i := 25) (N := some 117) (v := ?_) (a' := ?_) #[true, true, true, true, true, true, true, true, true, true, true, true, true, true, true, true, true, true, true, true, true, true, true, true, true, true, false, false, false, false, false, false, false, false] rfl rfl (any_of HT_.out (by kernel_rfl)) (fun _ _ _ h => h) (Or.inl ⟨by rfl, ?_⟩) ?_ ?_
                              rotate_left
                              · intro w'
                                go_simp
                                with_reducible rfl
                              rotate_left
                              · simp only [Act.put, List.setIfInBounds_toArray, List.set_cons_zero, List.set_cons_succ, i64_w, i32_w]
                                rfl
                              refine pure_ (i := 26) (N := some 118) (v := ?_) (a' := ?_) #[true, true, true, true, true, true, true, true, true, true, true, true, true, true, true, true, true, true, true, true, true, true, true, true, true, true, true, false, false, false, false, false, false, false] rfl rfl (any_of HT_.out (by kernel_rfl)) (fun _ _ _ h => h) (Or.inl ⟨by rfl, ?_⟩) ?_ ?_
                              rotate_left
                              · intro w'
                                go_simp
                                with_reducible rfl
                              rotate_left
                              · simp only [Act.put, List.setIfInBounds_toArray, List.set_cons_zero, List.set_cons_succ, i64_w, i32_w]
                                rfl
                              refine pure_ (i := 27) (N := some 119) (v := ?_) (a' := ?_) #[true, true, true, true, true, true, true, true, true, true, true, true, true, true, true, true, true, true, true, true, true, true, true, true, true, true, true, true, false, false, false, false, false, false] rfl rfl (any_of HT_.out (by kernel_rfl)) (fun _ _ _ h => h) (Or.inl ⟨by rfl, ?_⟩) ?_ ?_
                              rotate_left
                              · intro w'
                                go_simp
                                with_reducible rfl
                              rotate_left
                              · simp only [Act.put, List.setIfInBounds_toArray, List.set_cons_zero, List.set_cons_succ, i64_w, i32_w]
                                rfl
                              refine pure_ (i := 28) (N := some 120) (v := ?_) (a' := ?_) #[true, true, true, true, true, true, true, true, true, true, true, true, true, true, true, true, true, true, true, true, true, true, true, true, true, true, true, true, true, false, false, false, false, false] rfl rfl (any_of HT_.out (by kernel_rfl)) (fun _ _ _ h => h) (Or.inl ⟨by rfl, ?_⟩) ?_ ?_
                              rotate_left
                              · intro w'
                                go_simp
                                with_reducible rfl
                              rotate_left
                              · simp only [Act.put, List.setIfInBounds_toArray, List.set_cons_zero, List.set_cons_succ, i64_w, i32_w]
                                rfl
                              refine pure_ (i := 29) (N := some 121) (v := ?_) (a' := ?_) #[true, true, true, true, true, true, true, true, true, true, true, true, true, true, true, true, true, true, true, true, true, true, true, true, true, true, true, true, true, true, false, false, false, false] rfl rfl (any_of HT_.out (by kernel_rfl)) (fun _ _ _ h => h) (Or.inl ⟨by rfl, ?_⟩) ?_ ?_
                              rotate_left
                              · intro w'
                                go_simp
                                with_reducible rfl
                              rotate_left
                              · simp only [Act.put, List.setIfInBounds_toArray, List.set_cons_zero, List.set_cons_succ, i64_w, i32_w]
                                rfl
                              refine one_ (i := 30) (N := some 122) #[true, true, true, true, true, true, true, true, true, true, true, true, true, true, true, true, true, true, true, true, true, true, true, true, true, true, true, true, true, true, true, false, false, false] rfl rfl (one_of HT_.out (by kernel_rfl)) (by decide) (fun K hK => ?_)
                              refine goes_ Try.func10 (by kernel_rfl) rfl #[.slice Ao42 t161.length co42] (by rfl) rfl rfl (by (try simp only [List.map_toArray, List.map_cons, List.map_nil]); first | done | rfl | (simp only [List.length_drop, List.length_take]; rfl)) ?_
                              with_reducible refine (frame_Len.calls _ _ t161 t171 _ ?side1 ?side2 A40.out).mono ?_
                              (case side1 => repeat (first | exact (Kd.R_reads' HO165.out).2.2 | (with_reducible refine Kd.C_alloc ?_ _) | (with_reducible refine Kd.C_drewN ?_ _) | (with_reducible refine Kd.C_drew ?_)))
                              (case side2 => exact (Kd.R_reads' HO165.out).2.1)
                              rintro e w' ⟨rfl, ⟨nd, rfl⟩⟩
                              refine ⟨_, rfl, ?_⟩
                              refine hK.out _ _ ⟨(by first | exact own_string (P := Try.prog) Try.underlying22 Try.underlying5 Try.underlying9 (Kd.own_of_R HO169.out) | exact own_string (P := Try.prog) Try.underlying22 Try.underlying5 Try.underlying9 (Kd.own_of_R (Kd.R_drewN HO169.out _))), (by have hl_ : ((l0.take (t162 : Int).toNat).drop (a1 : Int).toNat).length = t162.toNat - a1.toNat := (by have h1_ := of_eq_true c38b0; simp only [List.length_drop, List.length_take]; omega); rw [← hl_]; first | (exact Kd.C_string (P := Try.prog) (A := A45) (c := (c0 - a1.toNat)) Try.underlying22 Try.underlying5 Try.underlying9 (Kd.C_below HR170.out HB.out)) | (exact Kd.C_string (P := Try.prog) (A := A45) (c := (c0 - a1.toNat)) Try.underlying22 Try.underlying5 Try.underlying9 (Kd.C_drewN (Kd.C_below HR170.out HB.out) _)))⟩ (fun hHeld => ?_)
                              clear hK K
                              refine norm_ (a' := ?_) ?_ ?_
                              rotate_left
                              · show Act.put _ (some 122) _ = _
                                simp only [Act.put, List.setIfInBounds_toArray, List.set_cons_zero, List.set_cons_succ, i64_w, i32_w]
                                rfl
                              refine pure_ (i := 31) (N := some 123) (v := ?_) (a' := ?_) #[true, true, true, true, true, true, true, true, true, true, true, true, true, true, true, true, true, true, true, true, true, true, true, true, true, true, true, true, true, true, true, true, false, false] rfl rfl (any_of HT_.out (by kernel_rfl)) (fun _ _ _ h => h) (Or.inl ⟨by rfl, ?_⟩) ?_ ?_
                              rotate_left
                              · intro w'
                                go_simp
                                with_reducible rfl
                              rotate_left
                              · simp only [Act.put, List.setIfInBounds_toArray, List.set_cons_zero, List.set_cons_succ, i64_w, i32_w]
                                rfl
                              refine pure_ (i := 32) (N := some 124) (v := ?_) (a' := ?_) #[true, true, true, true, true, true, true, true, true, true, true, true, true, true, true, true, true, true, true, true, true, true, true, true, true, true, true, true, true, true, true, true, true, false] rfl rfl (any_of HT_.out (by kernel_rfl)) (fun _ _ _ h => h) (Or.inl ⟨by rfl, ?_⟩) ?_ ?_
                              rotate_left
                              · intro w'
                                go_simp
                                with_reducible rfl
                              rotate_left
                              · simp only [Act.put, List.setIfInBounds_toArray, List.set_cons_zero, List.set_cons_succ, i64_w, i32_w]
                                rfl
                              refine pure_ (i := 33) (N := some 8) (v := ?_) (a' := ?_) #[true, true, true, true, true, true, true, true, true, true, true, true, true, true, true, true, true, true, true, true, true, true, true, true, true, true, true, true, true, true, true, true, true, true] rfl rfl (any_of HT_.out (by kernel_rfl)) (fun _ _ _ h => h) (Or.inl ⟨by rfl, ?_⟩) ?_ ?_
                              rotate_left
                              · intro w'
                                go_simp
                                with_reducible rfl
                              rotate_left
                              · simp only [Act.put, List.setIfInBounds_toArray, List.set_cons_zero, List.set_cons_succ, i64_w, i32_w]
                                rfl
                              refine done_ (done_of HT_.out (by kernel_rfl)) ?_
                              try go_wp2
                              go_ret
                              first | (with_reducible exact (clash2 A31 A29).elim) | (with_reducible exact (clash2 A29 A31).elim) | (with_reducible exact (clash2 A31 A12).elim) | (with_reducible exact (clash2 A12 A31).elim) | (with_reducible exact (clash2 A31 A11).elim) | (with_reducible exact (clash2 A11 A31).elim) | (with_reducible exact (clash2 A29 A12).elim) | (with_reducible exact (clash2 A12 A29).elim) | (with_reducible exact (clash2 A29 A11).elim) | (with_reducible exact (clash2 A11 A29).elim) | (with_reducible exact (clash2 A12 A11).elim) | (with_reducible exact (clash2 A11 A12).elim) | exact ⟨by first | rfl | (simp [errW_none, errW_some] <;> rfl) | (simp [*, errW_none, errW_some] <;> rfl), by repeat (first | (with_reducible first | exact HB.out | apply below_alloc | apply pw_below_drewN | apply below_drew1) | exact HB.out)⟩
                            · rw [if_neg c39] at H
                              exact absurd H (by simp)
                          · rw [if_neg c37] at H
                            exact absurd H (by simp)
                        · rw [if_neg c36] at H
                          exact absurd H (by simp)
                      · rw [if_neg c35] at H
                        exact absurd H (by simp)
                    · rw [if_neg c34] at H
                      exact absurd H (by simp)
                  · rw [if_neg c33] at H
                    exact absurd H (by simp)
                · replace c32 := Bool.eq_false_iff.mpr c32
                  subst c32
                  have H1 : (none) = some r := by rw [if_neg (show ¬ (false = true) by decide)] at H; exact H
                  clear H
                  have H := H1
                  clear H1
                  exact absurd H (by simp)
              · rw [if_neg c30] at H
                have c30b0 : (t163 == 0) = false := beq_eq_false_iff_ne.mpr c30
                have c30b1 : (t163 != 0) = true := bne_iff_ne.mpr c30
                by_cases c47 : t152 = true
                · subst c47
                  have H1 : (if t162 = 0 then (some ((t161.length : Int) == 0)) else (none)) = some r := by rw [if_pos rfl] at H; exact H
                  clear H
                  have H := H1
                  clear H1
                  by_cases c48 : t162 = 0
                  · rw [if_pos c48] at H
                    have c48b0 : (t162 == 0) = true := beq_iff_eq.mpr c48
                    have c48b1 : (t162 != 0) = false := bne_eq_false_iff_eq.mpr c48
                    clear c48
                    obtain rfl := Option.some.inj H
                    go_wp2_with (first | ((with_reducible refine gate_callee (f := 9) rfl ?_); refine goesL_ (some 71) rfl rfl Try.func9 (by kernel_rfl) rfl #[.slice A0 l0.length c0, .int .i64 a1] rfl (by (try simp only [List.map_toArray, List.map_cons, List.map_nil]); first | done | rfl | (simp only [List.length_drop, List.length_take]; rfl)) ?_; (with_reducible refine (frame_Read.calls kj12 _ _ l0 a1 t161 t162 t163 _ ?side1 ?side2 A29.out).mono ?_); (case side1 => repeat (first | exact (Kd.C_below HR0.out HB.out) | (with_reducible refine Kd.C_alloc ?_ _) | (with_reducible refine Kd.C_drewN ?_ _) | (with_reducible refine Kd.C_drew ?_))); (case side2 => exact HC0.out); rintro e w49 ⟨v164, rfl, ho0, hb⟩; refine ⟨_, rfl, ?_⟩; have n0_ := Aside0.mk (Kd.R_lower ho0 (below_size (by repeat (first | (with_reducible first | exact HB.out | apply below_alloc | apply pw_below_drewN | apply below_drew1) | exact HB.out)))); have n1_ := Aside0.mk (below_step (by repeat (first | (with_reducible first | exact HB.out | apply below_alloc | apply pw_below_drewN | apply below_drew1) | exact HB.out)) hb); clear HB; have HO165 := n0_; have HB := n1_; clear n0_ n1_; (try clear hb); (try clear hb2); (try clear hk); (try clear hi); (try clear ho0); obtain ⟨Ao50, co50, eo50⟩ := Kd.R_slice HO165.out; subst eo50))
                    go_ret
                    first | (with_reducible exact (clash2 A29 A12).elim) | (with_reducible exact (clash2 A12 A29).elim) | (with_reducible exact (clash2 A29 A11).elim) | (with_reducible exact (clash2 A11 A29).elim) | (with_reducible exact (clash2 A12 A11).elim) | (with_reducible exact (clash2 A11 A12).elim) | exact ⟨by first | rfl | (simp [errW_none, errW_some] <;> rfl) | (simp [*, errW_none, errW_some] <;> rfl), by repeat (first | (with_reducible first | exact HB.out | apply below_alloc | apply pw_below_drewN | apply below_drew1) | exact HB.out)⟩
                  · rw [if_neg c48] at H
                    exact absurd H (by simp)
                · replace c47 := Bool.eq_false_iff.mpr c47
                  subst c47
                  have H1 : (none) = some r := by rw [if_neg (show ¬ (false = true) by decide)] at H; exact H
                  clear H
                  have H := H1
                  clear H1
                  exact absurd H (by simp)

/-- THE ONE PURE STATEMENT of godwitlaw03_FrameOne. -/
def godwitlaw03_FrameOne.Pure : Prop := ∀ (l0 : List Int) (a1 : Int) (l2 : List Int) (l3 : List Int), (l0.length * 1 ≤ 140737488351232 ∧ ∀ y0_ ∈ l0, (Lit.int .u8 y0_).wf = true) → ((Lit.int .i64 a1).wf = true) → (l2.length * 1 ≤ 140737488351232 ∧ ∀ y0_ ∈ l2, (Lit.int .u8 y0_).wf = true) → (l3.length * 1 ≤ 140737488351232 ∧ ∀ y0_ ∈ l3, (Lit.int .u8 y0_).wf = true) → ∃ k, godwitlaw03_FrameOne.f k l0 a1 l2 l3 = some true

end Go.Proofs.Ytdjenkcafhdicaa.Q
