-- written by a turned copy of the kit's printer (wip/tools/patch_print.py over print.py); contracts of given functions are this session's own
import Derived.Test.YtcinlddejdkjeaaQx0
import Derived.Test.YtcinlddejdkjeaaQx2
import Derived.Test.YtcinlddejdkjeaaQx3
import Derived.Test.YtcinlddejdkjeaaQx8
import Derived.Test.YtcinlddejdkjeaaQx9
import Derived.Test.YtcinlddejdkjeaaQx11
import Derived.Test.YtcinlddejdkjeaaQx17
namespace Go.Proofs.Ytcinlddejdkjeaa.Q
open Go.RowKit Go.Proofs.YtcinlddejdkjeaaW.PrintWords Go.Proofs.YtcinlddejdkjeaaW.PrintLast Go.Proofs.YtcinlddejdkjeaaW.PrintMore Go.Proofs.Ytcinlddejdkjeaa.G
attribute [local go_sem] max2_int min2_int max_two min_two max_three min_three max_four min_four   -- for this text's walks alone
set_option linter.unusedVariables false
set_option linter.unusedSimpArgs false

/-! ### godwitlaw07_ChainSees: function 4 -/
mutual
def godwitlaw07_ChainSees.j0 : Nat → Int → Int → Bool → Bool → Bool → List (S37) → Int → List Int → Bool → Option (Bool)
  | 0, _, _, _, _, _, _, _, _, _ => none
  | k + 1, x1, x2, x7, x10, x68, x246000, x253000, x253001, x253002 => if x68 = true then (none) else (godwitlaw07_ChainSees.l0 k x1 x2 x7 x10 0 x246000 x253000 x253001 x253002)
def godwitlaw07_ChainSees.l0 : Nat → Int → Int → Bool → Bool → Int → List (S37) → Int → List Int → Bool → Option (Bool)
  | 0, _, _, _, _, _, _, _, _, _ => none
  | k + 1, x1, x2, x7, x10, x13, x246000, x253000, x253001, x253002 => if x13 < (x246000.length : Int) then (if 0 ≤ x13 then (if ((rd_T37 x246000 x13).f0) ≤ (mn x1 x2) then (if x10 = true then (godwitlaw07_ChainSees.j2 k x1 x2 x7 x10 x13 (decide (((rd_T37 x246000 x13).f0) > x253000)) x246000 x253000 x253001 x253002) else (godwitlaw07_ChainSees.j2 k x1 x2 x7 x10 x13 true x246000 x253000 x253001 x253002)) else (godwitlaw07_ChainSees.j2 k x1 x2 x7 x10 x13 false x246000 x253000 x253001 x253002)) else (none)) else (if x7 = true then ((chain_Since.f x246000 0).bind fun t262 => (if (t262.length : Int) = (x246000.length : Int) then (if (x246000.length : Int) = 0 then (some true) else ((chain_Last.f x246000).bind fun t265 => (if 0 ≤ (wrap64 ((x246000.length : Int) - 1)) then (if (wrap64 ((x246000.length : Int) - 1)) < (x246000.length : Int) then (some (t265 == ((rd_T37 x246000 (wrap64 ((x246000.length : Int) - 1))).f0))) else (none)) else (none)))) else (none))) else (none))
def godwitlaw07_ChainSees.j2 : Nat → Int → Int → Bool → Bool → Int → Bool → List (S37) → Int → List Int → Bool → Option (Bool)
  | 0, _, _, _, _, _, _, _, _, _, _ => none
  | k + 1, x1, x2, x7, x10, x13, x100, x246000, x253000, x253001, x253002 => if x100 = true then (none) else (godwitlaw07_ChainSees.l0 k x1 x2 x7 x10 (wrap64 (x13 + 1)) x246000 x253000 x253001 x253002)
end
def godwitlaw07_ChainSees.f (k : Nat) (l0 : List (S46)) (a1 : Int) (a2 : Int) : Option (Bool) := (godwitlaw07_awake.f k).bind fun t240 => ((godwitref07_Few.f k l0).bind fun t241 => (if t241 = true then ((godwitlaw07_grown.f k l0).bind fun t242 => ((chain_At.f t242 (mn a1 a2)).bind fun bt246 => ((chain_At.f t242 (mx a1 a2)).bind fun bt253 => (if bt246.2.2.2 = true then (if bt253.2.2.2 = true then (if bt246.1 > bt253.1 then (godwitlaw07_ChainSees.j0 k a1 a2 t240 bt246.2.2.2 true t242 bt246.1 bt246.2.1 bt246.2.2.1) else (if bt246.1 > (mn a1 a2) then (godwitlaw07_ChainSees.j0 k a1 a2 t240 bt246.2.2.2 true t242 bt246.1 bt246.2.1 bt246.2.2.1) else (godwitlaw07_ChainSees.j0 k a1 a2 t240 bt246.2.2.2 (decide (bt253.1 > (mx a1 a2))) t242 bt246.1 bt246.2.1 bt246.2.2.1))) else (godwitlaw07_ChainSees.j0 k a1 a2 t240 bt246.2.2.2 true t242 bt246.1 bt246.2.1 bt246.2.2.1)) else (if bt253.2.2.2 = true then (godwitlaw07_ChainSees.j0 k a1 a2 t240 bt246.2.2.2 (decide (bt253.1 > (mx a1 a2))) t242 bt246.1 bt246.2.1 bt246.2.2.1) else (godwitlaw07_ChainSees.j0 k a1 a2 t240 bt246.2.2.2 false t242 bt246.1 bt246.2.1 bt246.2.2.1)))))) else (some t240)))
theorem godwitlaw07_ChainSees.mono_l : ∀ k, (∀ y0 y1 y2 y3 y4 y5 y6 y7 y8, LeO (godwitlaw07_ChainSees.j0 k y0 y1 y2 y3 y4 y5 y6 y7 y8) (godwitlaw07_ChainSees.j0 (k + 1) y0 y1 y2 y3 y4 y5 y6 y7 y8)) ∧ (∀ y0 y1 y2 y3 y4 y5 y6 y7 y8, LeO (godwitlaw07_ChainSees.l0 k y0 y1 y2 y3 y4 y5 y6 y7 y8) (godwitlaw07_ChainSees.l0 (k + 1) y0 y1 y2 y3 y4 y5 y6 y7 y8)) ∧ (∀ y0 y1 y2 y3 y4 y5 y6 y7 y8 y9, LeO (godwitlaw07_ChainSees.j2 k y0 y1 y2 y3 y4 y5 y6 y7 y8 y9) (godwitlaw07_ChainSees.j2 (k + 1) y0 y1 y2 y3 y4 y5 y6 y7 y8 y9))
  | 0 => ⟨fun _ _ _ _ _ _ _ _ _ r h => by simp [godwitlaw07_ChainSees.j0] at h, fun _ _ _ _ _ _ _ _ _ r h => by simp [godwitlaw07_ChainSees.l0] at h, fun _ _ _ _ _ _ _ _ _ _ r h => by simp [godwitlaw07_ChainSees.j2] at h⟩
  | k + 1 => by
    obtain ⟨ih0, ih1, ih2⟩ := godwitlaw07_ChainSees.mono_l k
    refine ⟨?_, ?_, ?_⟩
    · intro y0 y1 y2 y3 y4 y5 y6 y7 y8
      unfold godwitlaw07_ChainSees.j0
      repeat' first
      | (with_reducible exact ih0 _ _ _ _ _ _ _ _ _)
      | (with_reducible exact ih1 _ _ _ _ _ _ _ _ _)
      | (with_reducible exact ih2 _ _ _ _ _ _ _ _ _ _)
      | (with_reducible exact godwitlaw07_awake.mono _)
      | (with_reducible exact godwitlaw07_grown.mono _ _)
      | (with_reducible exact godwitref07_Few.mono _ _)
      | (with_reducible exact LeO.refl _)
      | (with_reducible exact LeO.none _)
      | (with_reducible refine LeO.ite ?_ ?_)
      | (with_reducible refine LeO.bind ?_ (fun _ => ?_))
      | exact ih0 _ _ _ _ _ _ _ _ _
      | exact ih1 _ _ _ _ _ _ _ _ _
      | exact ih2 _ _ _ _ _ _ _ _ _ _
      | exact godwitlaw07_awake.mono _
      | exact godwitlaw07_grown.mono _ _
      | exact godwitref07_Few.mono _ _
      | exact LeO.none _
      | refine LeO.ite ?_ ?_
      | refine LeO.bind ?_ (fun _ => ?_)
    · intro y0 y1 y2 y3 y4 y5 y6 y7 y8
      unfold godwitlaw07_ChainSees.l0
      repeat' first
      | (with_reducible exact ih0 _ _ _ _ _ _ _ _ _)
      | (with_reducible exact ih1 _ _ _ _ _ _ _ _ _)
      | (with_reducible exact ih2 _ _ _ _ _ _ _ _ _ _)
      | (with_reducible exact godwitlaw07_awake.mono _)
      | (with_reducible exact godwitlaw07_grown.mono _ _)
      | (with_reducible exact godwitref07_Few.mono _ _)
      | (with_reducible exact LeO.refl _)
      | (with_reducible exact LeO.none _)
      | (with_reducible refine LeO.ite ?_ ?_)
      | (with_reducible refine LeO.bind ?_ (fun _ => ?_))
      | exact ih0 _ _ _ _ _ _ _ _ _
      | exact ih1 _ _ _ _ _ _ _ _ _
      | exact ih2 _ _ _ _ _ _ _ _ _ _
      | exact godwitlaw07_awake.mono _
      | exact godwitlaw07_grown.mono _ _
      | exact godwitref07_Few.mono _ _
      | exact LeO.none _
      | refine LeO.ite ?_ ?_
      | refine LeO.bind ?_ (fun _ => ?_)
    · intro y0 y1 y2 y3 y4 y5 y6 y7 y8 y9
      unfold godwitlaw07_ChainSees.j2
      repeat' first
      | (with_reducible exact ih0 _ _ _ _ _ _ _ _ _)
      | (with_reducible exact ih1 _ _ _ _ _ _ _ _ _)
      | (with_reducible exact ih2 _ _ _ _ _ _ _ _ _ _)
      | (with_reducible exact godwitlaw07_awake.mono _)
      | (with_reducible exact godwitlaw07_grown.mono _ _)
      | (with_reducible exact godwitref07_Few.mono _ _)
      | (with_reducible exact LeO.refl _)
      | (with_reducible exact LeO.none _)
      | (with_reducible refine LeO.ite ?_ ?_)
      | (with_reducible refine LeO.bind ?_ (fun _ => ?_))
      | exact ih0 _ _ _ _ _ _ _ _ _
      | exact ih1 _ _ _ _ _ _ _ _ _
      | exact ih2 _ _ _ _ _ _ _ _ _ _
      | exact godwitlaw07_awake.mono _
      | exact godwitlaw07_grown.mono _ _
      | exact godwitref07_Few.mono _ _
      | exact LeO.none _
      | refine LeO.ite ?_ ?_
      | refine LeO.bind ?_ (fun _ => ?_)
theorem godwitlaw07_ChainSees.mono : ∀ a0 a1 a2 k, LeO (godwitlaw07_ChainSees.f k a0 a1 a2) (godwitlaw07_ChainSees.f (k + 1) a0 a1 a2) := by
  intro a0 a1 a2 k
  obtain ⟨ih0, ih1, ih2⟩ := godwitlaw07_ChainSees.mono_l k
  unfold godwitlaw07_ChainSees.f
  repeat' first
      | (with_reducible exact ih0 _ _ _ _ _ _ _ _ _)
      | (with_reducible exact ih1 _ _ _ _ _ _ _ _ _)
      | (with_reducible exact ih2 _ _ _ _ _ _ _ _ _ _)
      | (with_reducible exact godwitlaw07_awake.mono _)
      | (with_reducible exact godwitlaw07_grown.mono _ _)
      | (with_reducible exact godwitref07_Few.mono _ _)
      | (with_reducible exact LeO.refl _)
      | (with_reducible exact LeO.none _)
      | (with_reducible refine LeO.ite ?_ ?_)
      | (with_reducible refine LeO.bind ?_ (fun _ => ?_))
      | exact ih0 _ _ _ _ _ _ _ _ _
      | exact ih1 _ _ _ _ _ _ _ _ _
      | exact ih2 _ _ _ _ _ _ _ _ _ _
      | exact godwitlaw07_awake.mono _
      | exact godwitlaw07_grown.mono _ _
      | exact godwitref07_Few.mono _ _
      | exact LeO.none _
      | refine LeO.ite ?_ ?_
      | refine LeO.bind ?_ (fun _ => ?_)
def godwitlaw07_ChainSees.T12 : Bool × List (List Nat × List Nat) := (true, [([], []), ([0], [0]), ([], []), ([1, 2], [1, 2]), ([3], [3]), ([4], [4]), ([], []), ([], []), ([6, 7], [6, 7]), ([5, 8], [5, 8]), ([9], [9]), ([10], [10]), ([11, 10], [10, 11]), ([12, 10, 10], [10, 12]), ([13], [13]), ([14, 13], [13, 14]), ([13], [13]), ([15, 16, 13], [13, 15, 16]), ([17, 13], [13, 17]), ([18, 13], [13, 18]), ([13], [13]), ([20, 13], [13, 20]), ([19, 21, 13], [13, 19, 21]), ([13, 22, 10], [10, 13, 22]), ([10, 23], [10, 23])])
def godwitlaw07_ChainSees.B12 : List Nat := [0, 1, 0, 7, 15, 31, 0, 0, 192, 511, 1023, 2047, 4095, 8191, 16383, 32767, 16383, 131071, 262143, 524287, 16383, 1064959, 4194303, 8388607, 16777215]
theorem godwitlaw07_ChainSees.tab12 : rtab .any (opsOf Try.f4 12) = godwitlaw07_ChainSees.T12 := by kernel_rfl
theorem godwitlaw07_ChainSees.bits12 : waitsOk godwitlaw07_ChainSees.T12.2 godwitlaw07_ChainSees.B12 = true := by kernel_rfl
def godwitlaw07_ChainSees.T14 : Bool × List (List Nat × List Nat) := (true, [([], []), ([0], [0]), ([1], [1]), ([2, 1, 1], [1, 2]), ([3, 1], [1, 3]), ([1], [1]), ([5, 1], [1, 5]), ([6, 1], [1, 6]), ([4, 7, 1], [1, 4, 7]), ([1, 8], [1, 8]), ([9, 3], [9]), ([10], [10]), ([11, 10], [10, 11]), ([12, 10], [10, 12]), ([13, 10], [10, 13]), ([14, 10, 10], [10, 14]), ([15], [15]), ([16, 15, 15], [15, 16]), ([15], [15]), ([18, 15], [15, 18]), ([15], [15]), ([20, 15], [15, 20]), ([21, 15], [15, 21]), ([22, 15], [15, 22]), ([19, 23, 15], [15, 19, 23]), ([24, 15], [15, 24]), ([25, 15], [15, 25]), ([17, 26, 15], [15, 17, 26]), ([15, 27, 10], [10, 15, 27]), ([10, 28], [10, 28]), ([29, 17, 0, 1, 2, 3, 4, 5, 6, 7, 8, 9, 10, 11, 12, 13, 14, 15, 16, 17, 18, 19, 20, 21, 22, 23, 24, 25, 26, 27, 28, 29], [29])])
def godwitlaw07_ChainSees.B14 : List Nat := [0, 1, 3, 7, 15, 3, 35, 99, 255, 511, 1023, 2047, 4095, 8191, 16383, 32767, 65535, 131071, 65535, 327679, 65535, 1114111, 3211263, 7405567, 16580607, 33357823, 66912255, 134217727, 268435455, 536870911, 1073741823]
theorem godwitlaw07_ChainSees.tab14 : rtab .any (opsOf Try.f4 14) = godwitlaw07_ChainSees.T14 := by kernel_rfl
theorem godwitlaw07_ChainSees.bits14 : waitsOk godwitlaw07_ChainSees.T14.2 godwitlaw07_ChainSees.B14 = true := by kernel_rfl
set_option maxHeartbeats 8000000 in
set_option maxRecDepth 100000 in
theorem godwitlaw07_ChainSees.calls (k : Nat) (A0 : Option Addr) (c0 : Nat) (l0 : List (S46)) (a1 : Int) (a2 : Int) (r : Bool) (w : World) (hr0 : Kd.C k46 w A0 l0.length l0) (hc0 : l0.length ≤ c0) (h : godwitlaw07_ChainSees.f k l0 a1 a2 = some r) :
    Calls Try.prog 4 #[.slice A0 l0.length c0, .int .i64 a1, .int .i64 a2] w fun e w' => e = .returned (.bool r) ∧ Below w.heap.size w w' := by
  have hu26 := Try.underlying26
  have hu29 := Try.underlying29
  have hu37 := Try.underlying37
  have HR0 := Aside0.mk hr0
  have HC0 := Aside0.mk hc0
  clear hr0 hc0
  have HB := Aside0.mk (Below.refl w.heap.size w)
  have H : ((godwitlaw07_awake.f k).bind fun t240 => ((godwitref07_Few.f k l0).bind fun t241 => (if t241 = true then ((godwitlaw07_grown.f k l0).bind fun t242 => ((chain_At.f t242 (mn a1 a2)).bind fun bt246 => ((chain_At.f t242 (mx a1 a2)).bind fun bt253 => (if bt246.2.2.2 = true then (if bt253.2.2.2 = true then (if bt246.1 > bt253.1 then (godwitlaw07_ChainSees.j0 k a1 a2 t240 bt246.2.2.2 true t242 bt246.1 bt246.2.1 bt246.2.2.1) else (if bt246.1 > (mn a1 a2) then (godwitlaw07_ChainSees.j0 k a1 a2 t240 bt246.2.2.2 true t242 bt246.1 bt246.2.1 bt246.2.2.1) else (godwitlaw07_ChainSees.j0 k a1 a2 t240 bt246.2.2.2 (decide (bt253.1 > (mx a1 a2))) t242 bt246.1 bt246.2.1 bt246.2.2.1))) else (godwitlaw07_ChainSees.j0 k a1 a2 t240 bt246.2.2.2 true t242 bt246.1 bt246.2.1 bt246.2.2.1)) else (if bt253.2.2.2 = true then (godwitlaw07_ChainSees.j0 k a1 a2 t240 bt246.2.2.2 (decide (bt253.1 > (mx a1 a2))) t242 bt246.1 bt246.2.1 bt246.2.2.1) else (godwitlaw07_ChainSees.j0 k a1 a2 t240 bt246.2.2.2 false t242 bt246.1 bt246.2.1 bt246.2.2.1)))))) else (some t240)))) = some r := h
  clear h
  replace H := Option.bind_eq_some_iff.mp H
  obtain ⟨t240, A40, H⟩ := H
  replace H : ((godwitref07_Few.f k l0).bind fun t241 => (if t241 = true then ((godwitlaw07_grown.f k l0).bind fun t242 => ((chain_At.f t242 (mn a1 a2)).bind fun bt246 => ((chain_At.f t242 (mx a1 a2)).bind fun bt253 => (if bt246.2.2.2 = true then (if bt253.2.2.2 = true then (if bt246.1 > bt253.1 then (godwitlaw07_ChainSees.j0 k a1 a2 t240 bt246.2.2.2 true t242 bt246.1 bt246.2.1 bt246.2.2.1) else (if bt246.1 > (mn a1 a2) then (godwitlaw07_ChainSees.j0 k a1 a2 t240 bt246.2.2.2 true t242 bt246.1 bt246.2.1 bt246.2.2.1) else (godwitlaw07_ChainSees.j0 k a1 a2 t240 bt246.2.2.2 (decide (bt253.1 > (mx a1 a2))) t242 bt246.1 bt246.2.1 bt246.2.2.1))) else (godwitlaw07_ChainSees.j0 k a1 a2 t240 bt246.2.2.2 true t242 bt246.1 bt246.2.1 bt246.2.2.1)) else (if bt253.2.2.2 = true then (godwitlaw07_ChainSees.j0 k a1 a2 t240 bt246.2.2.2 (decide (bt253.1 > (mx a1 a2))) t242 bt246.1 bt246.2.1 bt246.2.2.1) else (godwitlaw07_ChainSees.j0 k a1 a2 t240 bt246.2.2.2 false t242 bt246.1 bt246.2.1 bt246.2.2.1)))))) else (some t240))) = some r := H
  have A4 := Aside0.mk A40
  clear A40
  replace H := Option.bind_eq_some_iff.mp H
  obtain ⟨t241, A50, H⟩ := H
  replace H : (if t241 = true then ((godwitlaw07_grown.f k l0).bind fun t242 => ((chain_At.f t242 (mn a1 a2)).bind fun bt246 => ((chain_At.f t242 (mx a1 a2)).bind fun bt253 => (if bt246.2.2.2 = true then (if bt253.2.2.2 = true then (if bt246.1 > bt253.1 then (godwitlaw07_ChainSees.j0 k a1 a2 t240 bt246.2.2.2 true t242 bt246.1 bt246.2.1 bt246.2.2.1) else (if bt246.1 > (mn a1 a2) then (godwitlaw07_ChainSees.j0 k a1 a2 t240 bt246.2.2.2 true t242 bt246.1 bt246.2.1 bt246.2.2.1) else (godwitlaw07_ChainSees.j0 k a1 a2 t240 bt246.2.2.2 (decide (bt253.1 > (mx a1 a2))) t242 bt246.1 bt246.2.1 bt246.2.2.1))) else (godwitlaw07_ChainSees.j0 k a1 a2 t240 bt246.2.2.2 true t242 bt246.1 bt246.2.1 bt246.2.2.1)) else (if bt253.2.2.2 = true then (godwitlaw07_ChainSees.j0 k a1 a2 t240 bt246.2.2.2 (decide (bt253.1 > (mx a1 a2))) t242 bt246.1 bt246.2.1 bt246.2.2.1) else (godwitlaw07_ChainSees.j0 k a1 a2 t240 bt246.2.2.2 false t242 bt246.1 bt246.2.1 bt246.2.2.1)))))) else (some t240)) = some r := H
  have A5 := Aside0.mk A50
  clear A50
  by_cases c6 : t241 = true
  · subst c6
    have H1 : ((godwitlaw07_grown.f k l0).bind fun t242 => ((chain_At.f t242 (mn a1 a2)).bind fun bt246 => ((chain_At.f t242 (mx a1 a2)).bind fun bt253 => (if bt246.2.2.2 = true then (if bt253.2.2.2 = true then (if bt246.1 > bt253.1 then (godwitlaw07_ChainSees.j0 k a1 a2 t240 bt246.2.2.2 true t242 bt246.1 bt246.2.1 bt246.2.2.1) else (if bt246.1 > (mn a1 a2) then (godwitlaw07_ChainSees.j0 k a1 a2 t240 bt246.2.2.2 true t242 bt246.1 bt246.2.1 bt246.2.2.1) else (godwitlaw07_ChainSees.j0 k a1 a2 t240 bt246.2.2.2 (decide (bt253.1 > (mx a1 a2))) t242 bt246.1 bt246.2.1 bt246.2.2.1))) else (godwitlaw07_ChainSees.j0 k a1 a2 t240 bt246.2.2.2 true t242 bt246.1 bt246.2.1 bt246.2.2.1)) else (if bt253.2.2.2 = true then (godwitlaw07_ChainSees.j0 k a1 a2 t240 bt246.2.2.2 (decide (bt253.1 > (mx a1 a2))) t242 bt246.1 bt246.2.1 bt246.2.2.1) else (godwitlaw07_ChainSees.j0 k a1 a2 t240 bt246.2.2.2 false t242 bt246.1 bt246.2.1 bt246.2.2.1)))))) = some r := by rw [if_pos rfl] at H; exact H
    clear H
    have H := H1
    clear H1
    replace H := Option.bind_eq_some_iff.mp H
    obtain ⟨t242, A70, H⟩ := H
    replace H : ((chain_At.f t242 (mn a1 a2)).bind fun bt246 => ((chain_At.f t242 (mx a1 a2)).bind fun bt253 => (if bt246.2.2.2 = true then (if bt253.2.2.2 = true then (if bt246.1 > bt253.1 then (godwitlaw07_ChainSees.j0 k a1 a2 t240 bt246.2.2.2 true t242 bt246.1 bt246.2.1 bt246.2.2.1) else (if bt246.1 > (mn a1 a2) then (godwitlaw07_ChainSees.j0 k a1 a2 t240 bt246.2.2.2 true t242 bt246.1 bt246.2.1 bt246.2.2.1) else (godwitlaw07_ChainSees.j0 k a1 a2 t240 bt246.2.2.2 (decide (bt253.1 > (mx a1 a2))) t242 bt246.1 bt246.2.1 bt246.2.2.1))) else (godwitlaw07_ChainSees.j0 k a1 a2 t240 bt246.2.2.2 true t242 bt246.1 bt246.2.1 bt246.2.2.1)) else (if bt253.2.2.2 = true then (godwitlaw07_ChainSees.j0 k a1 a2 t240 bt246.2.2.2 (decide (bt253.1 > (mx a1 a2))) t242 bt246.1 bt246.2.1 bt246.2.2.1) else (godwitlaw07_ChainSees.j0 k a1 a2 t240 bt246.2.2.2 false t242 bt246.1 bt246.2.1 bt246.2.2.1))))) = some r := H
    have A7 := Aside0.mk A70
    clear A70
    obtain ⟨ji8, hji8⟩ : ∃ j_ : Int, (mn a1 a2) = j_ := ⟨_, rfl⟩
    replace H : ((chain_At.f t242 (ji8)).bind fun bt246 => ((chain_At.f t242 (mx a1 a2)).bind fun bt253 => (if bt246.2.2.2 = true then (if bt253.2.2.2 = true then (if bt246.1 > bt253.1 then (godwitlaw07_ChainSees.j0 k a1 a2 t240 bt246.2.2.2 true t242 bt246.1 bt246.2.1 bt246.2.2.1) else (if bt246.1 > (ji8) then (godwitlaw07_ChainSees.j0 k a1 a2 t240 bt246.2.2.2 true t242 bt246.1 bt246.2.1 bt246.2.2.1) else (godwitlaw07_ChainSees.j0 k a1 a2 t240 bt246.2.2.2 (decide (bt253.1 > (mx a1 a2))) t242 bt246.1 bt246.2.1 bt246.2.2.1))) else (godwitlaw07_ChainSees.j0 k a1 a2 t240 bt246.2.2.2 true t242 bt246.1 bt246.2.1 bt246.2.2.1)) else (if bt253.2.2.2 = true then (godwitlaw07_ChainSees.j0 k a1 a2 t240 bt246.2.2.2 (decide (bt253.1 > (mx a1 a2))) t242 bt246.1 bt246.2.1 bt246.2.2.1) else (godwitlaw07_ChainSees.j0 k a1 a2 t240 bt246.2.2.2 false t242 bt246.1 bt246.2.1 bt246.2.2.1))))) = some r := by first | (rw [hji8] at H; exact H) | (simp only [hji8] at H ⊢; exact H)
    (try rw [hji8] at A4)
    (try rw [hji8] at A5)
    (try rw [hji8] at A7)
    have hji8_ : (if a2 < a1 then a2 else a1) = ji8 := hji8
    replace H := Option.bind_eq_some_iff.mp H
    obtain ⟨⟨t246, t247, t250, t251⟩, A90, H⟩ := H
    replace H : ((chain_At.f t242 (mx a1 a2)).bind fun bt253 => (if t251 = true then (if bt253.2.2.2 = true then (if t246 > bt253.1 then (godwitlaw07_ChainSees.j0 k a1 a2 t240 t251 true t242 t246 t247 t250) else (if t246 > (ji8) then (godwitlaw07_ChainSees.j0 k a1 a2 t240 t251 true t242 t246 t247 t250) else (godwitlaw07_ChainSees.j0 k a1 a2 t240 t251 (decide (bt253.1 > (mx a1 a2))) t242 t246 t247 t250))) else (godwitlaw07_ChainSees.j0 k a1 a2 t240 t251 true t242 t246 t247 t250)) else (if bt253.2.2.2 = true then (godwitlaw07_ChainSees.j0 k a1 a2 t240 t251 (decide (bt253.1 > (mx a1 a2))) t242 t246 t247 t250) else (godwitlaw07_ChainSees.j0 k a1 a2 t240 t251 false t242 t246 t247 t250)))) = some r := H
    have A9 := Aside0.mk A90
    clear A90
    obtain ⟨ji10, hji10⟩ : ∃ j_ : Int, (mx a1 a2) = j_ := ⟨_, rfl⟩
    replace H : ((chain_At.f t242 (ji10)).bind fun bt253 => (if t251 = true then (if bt253.2.2.2 = true then (if t246 > bt253.1 then (godwitlaw07_ChainSees.j0 k a1 a2 t240 t251 true t242 t246 t247 t250) else (if t246 > (ji8) then (godwitlaw07_ChainSees.j0 k a1 a2 t240 t251 true t242 t246 t247 t250) else (godwitlaw07_ChainSees.j0 k a1 a2 t240 t251 (decide (bt253.1 > (ji10))) t242 t246 t247 t250))) else (godwitlaw07_ChainSees.j0 k a1 a2 t240 t251 true t242 t246 t247 t250)) else (if bt253.2.2.2 = true then (godwitlaw07_ChainSees.j0 k a1 a2 t240 t251 (decide (bt253.1 > (ji10))) t242 t246 t247 t250) else (godwitlaw07_ChainSees.j0 k a1 a2 t240 t251 false t242 t246 t247 t250)))) = some r := by first | (rw [hji10] at H; exact H) | (simp only [hji10] at H ⊢; exact H)
    (try rw [hji10] at A4)
    (try rw [hji10] at A5)
    (try rw [hji10] at A7)
    (try rw [hji10] at A9)
    have hji10_ : (if a1 < a2 then a2 else a1) = ji10 := hji10
    replace H := Option.bind_eq_some_iff.mp H
    obtain ⟨⟨t253, t254, t257, t258⟩, A110, H⟩ := H
    replace H : (if t251 = true then (if t258 = true then (if t246 > t253 then (godwitlaw07_ChainSees.j0 k a1 a2 t240 t251 true t242 t246 t247 t250) else (if t246 > (ji8) then (godwitlaw07_ChainSees.j0 k a1 a2 t240 t251 true t242 t246 t247 t250) else (godwitlaw07_ChainSees.j0 k a1 a2 t240 t251 (decide (t253 > (ji10))) t242 t246 t247 t250))) else (godwitlaw07_ChainSees.j0 k a1 a2 t240 t251 true t242 t246 t247 t250)) else (if t258 = true then (godwitlaw07_ChainSees.j0 k a1 a2 t240 t251 (decide (t253 > (ji10))) t242 t246 t247 t250) else (godwitlaw07_ChainSees.j0 k a1 a2 t240 t251 false t242 t246 t247 t250))) = some r := H
    have A11 := Aside0.mk A110
    clear A110
    have HC12 := Aside0.mk H
    clear H
    go_enter Try.func4, Try.ntmps4
    go_upto_region 7 with (first | ((with_reducible refine gate_callee (f := 8) rfl ?_); refine goesL_ (some 14) rfl rfl Try.func8 (by kernel_rfl) rfl #[] rfl (by (try simp only [List.map_toArray, List.map_cons, List.map_nil]); first | done | rfl | (simp only [List.length_drop, List.length_take]; rfl)) ?_; (with_reducible refine (godwitlaw07_awake.calls k  t240 _ A4.out).mono ?_); rintro e w13 ⟨rfl, hb⟩; refine ⟨_, rfl, ?_⟩; have n0_ := Aside0.mk (below_step (by repeat (first | (with_reducible first | exact HB.out | apply below_alloc | apply pw_below_drewN | apply below_drew1) | exact HB.out)) hb); clear HB; have HB := n0_; clear n0_; (try clear hb); (try clear hb2); (try clear hk); (try clear hi)) | ((with_reducible refine gate_callee (f := 9) rfl ?_); refine goesL_ (some 17) rfl rfl Try.func9 (by kernel_rfl) rfl #[.agg #[.slice A0 l0.length c0]] rfl (by (try simp only [List.map_toArray, List.map_cons, List.map_nil]); first | done | rfl | (simp only [List.length_drop, List.length_take]; rfl)) ?_; (with_reducible refine (godwitref07_Few.calls k _ _ l0 true _ ?side1 ?side2 A5.out).mono ?_); (case side1 => repeat (first | exact (Kd.C_below HR0.out HB.out) | (with_reducible refine Kd.C_alloc ?_ _) | (with_reducible refine Kd.C_drewN ?_ _) | (with_reducible refine Kd.C_drew ?_))); (case side2 => exact HC0.out); rintro e w14 ⟨rfl, hb⟩; refine ⟨_, rfl, ?_⟩; have n0_ := Aside0.mk (below_step (by repeat (first | (with_reducible first | exact HB.out | apply below_alloc | apply pw_below_drewN | apply below_drew1) | exact HB.out)) hb); clear HB; have HB := n0_; clear n0_; (try clear hb); (try clear hb2); (try clear hk); (try clear hi)) | ((with_reducible refine gate_callee (f := 10) rfl ?_); refine goesL_ (some 21) rfl rfl Try.func10 (by kernel_rfl) rfl #[.slice A0 l0.length c0] rfl (by (try simp only [List.map_toArray, List.map_cons, List.map_nil]); first | done | rfl | (simp only [List.length_drop, List.length_take]; rfl)) ?_; (with_reducible refine (godwitlaw07_grown.calls k (fun k_ => k_ < w.heap.size) _ _ l0 t242 _ ?side1 A7.out).mono ?_); (case side1 => exact Kd.V_mk HC0.out (Kd.F_below (Kd.C_F k46_heap HR0.out) (by repeat (first | (with_reducible first | exact HB.out | apply below_alloc | apply pw_below_drewN | apply below_drew1) | exact HB.out)))); rintro e w15 ⟨v243, rfl, ho0, hb⟩; refine ⟨_, rfl, ?_⟩; have n0_ := Aside0.mk (Kd.N_lower (Kd.N_mono (ok' := fun k_ => True) ho0 (fun k_ hk_ => trivial)) (below_size (by repeat (first | (with_reducible first | exact HB.out | apply below_alloc | apply pw_below_drewN | apply below_drew1) | exact HB.out)))); have n1_ := Aside0.mk (below_step (by repeat (first | (with_reducible first | exact HB.out | apply below_alloc | apply pw_below_drewN | apply below_drew1) | exact HB.out)) hb); clear HB; have HO244 := n0_; have HB := n1_; clear n0_ n1_; (try clear hb); (try clear hb2); (try clear hk); (try clear hi); (try clear ho0)) | ((with_reducible refine gate_dst (N := 8) rfl ?_); (try (refine gate_guard (by rfl) ?_; dsimp only)); refine box_event ?hg (N := 8) ?hd (cs := #[.slice none 0 0]) (t := 29) ?hr ?_; (case hd => rfl); (case hg => rfl); (case hr => first | (go_simp; done) | (go_simp; rfl)); intro gb245 hg w16 hbox hb; have n0_ := Aside0.mk (Kd.N_below (Kd.N_elderB (by (with_reducible repeat (first | apply Kd.N_alloc | apply Kd.N_drewN | apply Kd.N_drew)); exact HO244.out) gb245 (Nat.le_of_eq hg.symm)) hb); have n1_ := Aside0.mk (below_step (by repeat (first | (with_reducible first | exact HB.out | apply below_alloc | apply pw_below_drewN | apply below_drew1) | exact HB.out)) hb); have n2_ := Aside0.mk (hbox); have n3_ := Aside0.mk ((by rw [hg]; exact (below_size (by repeat (first | (with_reducible first | exact HB.out | apply below_alloc | apply pw_below_drewN | apply below_drew1) | exact HB.out))) : w.heap.size ≤ gb245)); have n4_ := Aside0.mk ((by rw [hg]; exact (below_size (by repeat (first | (with_reducible first | exact HB.out | apply below_alloc | apply pw_below_drewN | apply below_drew1) | exact HB.out))) : w.heap.size ≤ gb245)); clear HO244; clear HB; have HO244 := n0_; have HB := n1_; have BK245 := n2_; have GW245 := n3_; have GE245 := n4_; clear n0_ n1_ n2_ n3_ n4_; clear hb hbox hg; obtain ⟨Ao17, co17, eo17⟩ := Kd.N_slice HO244.out; subst eo17; have hcz18_0 : w16.cell? ⟨gb245, 0, none⟩ = some (.slice none 0 0) := (blk_cell BK245.out 0).trans rfl; have hfz18_0 := blk_frozen BK245.out 0) | ((with_reducible refine gate_store (t := 29) (p := 8) rfl ?_); refine store_event (t := 29) (p := 8) (v := ?vo_w19) (w1 := (w16.setCell ⟨gb245, 0, none⟩ (.slice Ao17 t242.length co17))) ?hg ?ho ?hn ?hr ?_; (case ho => rfl); (case hg => rfl); (case hn => rfl); (case hr => first | (go_simp; done) | (go_simp; rfl)); intro w19 hw; have n0_ : Aside0 (Kd.N k37 37 w19 w.heap.size (fun k_ => k_ ≠ gb245) (.slice Ao17 t242.length co17) t242) := ⟨(by rw [hw]; exact (by (with_reducible repeat (first | apply Kd.N_alloc | apply Kd.N_drewN | apply Kd.N_drew)); exact Kd.N_mono (Kd.N_far (p := ⟨gb245, 0, none⟩) (Kd.N_mono HO244.out (fun k_ hk => (⟨hk, hk.2⟩ : _ ∧ k_ ≠ gb245))) (fun _ hk => hk.2) (.slice Ao17 t242.length co17)) (fun _ hk => hk.1.2)))⟩; have n1_ : Aside0 (w19.heap[gb245]? = some (.cells #[.slice Ao17 t242.length co17] 29 (0, 0))) := ⟨(by rw [hw]; exact (by (with_reducible repeat (first | refine blk_drewN ?_ _ | refine blk_drew ?_ | refine blk_alloc ?_ _)); refine blk_put (cs := #[.slice none 0 0]) ?_ 0 _ rfl; (with_reducible repeat (first | refine blk_drewN ?_ _ | refine blk_drew ?_ | refine blk_alloc ?_ _)); exact BK245.out))⟩; have n2_ : Aside0 (Below w.heap.size w w19) := ⟨(by rw [hw]; exact (by repeat (first | (with_reducible first | exact HB.out | apply below_alloc | apply pw_below_drewN | apply below_drew1 | refine below_set ?_ GE245.out) | exact HB.out)))⟩; clear hw; clear HO244; clear BK245; clear HB; have HO244 := n0_; have BK245 := n1_; have HB := n2_; clear n0_ n1_ n2_; have hcz20_0 : w19.cell? ⟨gb245, 0, none⟩ = some (.slice Ao17 t242.length co17) := (blk_cell BK245.out 0).trans rfl; have hfz20_0 := blk_frozen BK245.out 0) | ((with_reducible refine gate_callee (f := 14) rfl ?_); refine goesL_ (some 27) rfl rfl Try.func14 (by kernel_rfl) rfl #[.agg #[.slice Ao17 t242.length co17], .int .i64 ji8] rfl (by (try simp only [List.map_toArray, List.map_cons, List.map_nil]); first | done | (simp only [hji8]; rfl) | rfl | (simp only [List.length_drop, List.length_take]; rfl)) ?_; (with_reducible refine (chain_At.calls (fun k_ => k_ ≠ gb245) _ _ t242 ji8 t246 t247 t250 t251 _ ?side1 A9.out).mono ?_); (case side1 => exact Kd.N_V (HO244.out)); rintro e w21 ⟨v248, rfl, ho0, hb⟩; refine ⟨_, rfl, ?_⟩; have n0_ := Aside0.mk (Kd.N_below (by (with_reducible repeat (first | apply Kd.N_alloc | apply Kd.N_drewN | apply Kd.N_drew)); exact HO244.out) hb); have n1_ := Aside0.mk (Kd.V_lower (Kd.V_mono (ok' := fun k_ => k_ ≠ gb245) ho0 (fun k_ hk_ => Or.elim hk_ (fun hs_ => hs_) (fun hn_ => (Kd.freshB (g := gb245) (o := .cells #[.slice Ao17 t242.length co17] 29 (0, 0)) (by (with_reducible repeat (first | refine blk_drewN ?_ _ | refine blk_drew ?_ | refine blk_alloc ?_ _)); exact BK245.out) k_ hn_)))) (below_size (by repeat (first | (with_reducible first | exact HB.out | apply below_alloc | apply pw_below_drewN | apply below_drew1 | refine below_set ?_ GE245.out) | exact HB.out)))); have n2_ := Aside0.mk (blk_below (g := gb245) (o := .cells #[.slice Ao17 t242.length co17] 29 (0, 0)) (by (with_reducible repeat (first | refine blk_drewN ?_ _ | refine blk_drew ?_ | refine blk_alloc ?_ _)); exact BK245.out) hb); have n3_ := Aside0.mk (below_step (by repeat (first | (with_reducible first | exact HB.out | apply below_alloc | apply pw_below_drewN | apply below_drew1 | refine below_set ?_ GE245.out) | exact HB.out)) hb); clear HO244; clear BK245; clear HB; have HO244 := n0_; have HO249 := n1_; have BK245 := n2_; have HB := n3_; clear n0_ n1_ n2_ n3_; (try clear hb); (try clear hb2); (try clear hk); (try clear hi); (try clear ho0)) | ((with_reducible refine gate_dst (N := 9) rfl ?_); (try (refine gate_guard (by rfl) ?_; dsimp only)); refine box_event ?hg (N := 9) ?hd (cs := #[.int .i64 0, .slice none 0 0, .bool false]) (t := 37) ?hr ?_; (case hd => rfl); (case hg => rfl); (case hr => first | (go_simp; done) | (go_simp; rfl)); intro gb252 hg w22 hbox hb; have n0_ := Aside0.mk (Kd.N_below (Kd.N_elderB (by (with_reducible repeat (first | apply Kd.N_alloc | apply Kd.N_drewN | apply Kd.N_drew)); exact HO244.out) gb252 (Nat.le_of_eq hg.symm)) hb); have n1_ := Aside0.mk (Kd.V_below (Kd.V_elderB (by (with_reducible repeat (first | apply Kd.V_alloc | apply Kd.V_drewN | apply Kd.V_drew)); exact HO249.out) gb252 (Nat.le_of_eq hg.symm)) hb); have n2_ := Aside0.mk (blk_below (g := gb245) (o := .cells #[.slice Ao17 t242.length co17] 29 (0, 0)) (by (with_reducible repeat (first | refine blk_drewN ?_ _ | refine blk_drew ?_ | refine blk_alloc ?_ _)); exact BK245.out) hb); have n3_ := Aside0.mk (below_step (by repeat (first | (with_reducible first | exact HB.out | apply below_alloc | apply pw_below_drewN | apply below_drew1 | refine below_set ?_ GE245.out) | exact HB.out)) hb); have n4_ := Aside0.mk (hbox); have n5_ := Aside0.mk ((by rw [hg]; exact (below_size (by repeat (first | (with_reducible first | exact HB.out | apply below_alloc | apply pw_below_drewN | apply below_drew1 | refine below_set ?_ GE245.out) | exact HB.out))) : w.heap.size ≤ gb252)); have n6_ := Aside0.mk ((by rw [hg]; exact (below_size (by repeat (first | (with_reducible first | exact HB.out | apply below_alloc | apply pw_below_drewN | apply below_drew1 | refine below_set ?_ GE245.out) | exact HB.out))) : w.heap.size ≤ gb252)); have n7_ := Aside0.mk ((by rw [hg]; exact Nat.ne_of_lt (blk_lt (g := gb245) (o := .cells #[.slice Ao17 t242.length co17] 29 (0, 0)) (by (with_reducible repeat (first | refine blk_drewN ?_ _ | refine blk_drew ?_ | refine blk_alloc ?_ _)); exact BK245.out)) : gb245 ≠ gb252)); have n8_ := Aside0.mk ((by rw [hg]; exact Nat.ne_of_gt (blk_lt (g := gb245) (o := .cells #[.slice Ao17 t242.length co17] 29 (0, 0)) (by (with_reducible repeat (first | refine blk_drewN ?_ _ | refine blk_drew ?_ | refine blk_alloc ?_ _)); exact BK245.out)) : gb252 ≠ gb245)); clear HO244; clear HO249; clear BK245; clear HB; have HO244 := n0_; have HO249 := n1_; have BK245 := n2_; have HB := n3_; have BK252 := n4_; have GW252 := n5_; have GE252 := n6_; have NB245_252 := n7_; have NB252_245 := n8_; clear n0_ n1_ n2_ n3_ n4_ n5_ n6_ n7_ n8_; clear hb hbox hg; have hnb23 := NB252_245.out; have hnc23 := NB245_252.out; have hcz24_0 : w22.cell? ⟨gb252, 0, none⟩ = some (.int .i64 0) := (blk_cell BK252.out 0).trans rfl; have hcz24_1 : w22.cell? ⟨gb252, 1, none⟩ = some (.slice none 0 0) := (blk_cell BK252.out 1).trans rfl; have hcz24_2 : w22.cell? ⟨gb252, 2, none⟩ = some (.bool false) := (blk_cell BK252.out 2).trans rfl; have hfz24_0 := blk_frozen BK252.out 0; have hfz24_1 := blk_frozen BK252.out 1; have hfz24_2 := blk_frozen BK252.out 2; obtain ⟨Ao25, co25, eo25⟩ := Kd.V_slice HO249.out; subst eo25) | ((with_reducible refine gate_store (t := 37) (p := 9) rfl ?_); refine store_event (t := 37) (p := 9) (v := ?vo_w26) (w1 := (((w22.setCell ⟨gb252, 0, none⟩ (.int .i64 t246)).setCell ⟨gb252, 1, none⟩ (.slice Ao25 t247.length co25)).setCell ⟨gb252, 2, none⟩ (.bool t250))) ?hg ?ho ?hn ?hr ?_; (case ho => rfl); (case hg => rfl); (case hn => rfl); (case hr => first | (go_simp; done) | (go_simp; rfl)); intro w26 hw; have n0_ : Aside0 (Kd.N k37 37 w26 w.heap.size (fun k_ => k_ ≠ gb245 ∧ k_ ≠ gb252) (.slice Ao17 t242.length co17) t242) := ⟨(by rw [hw]; exact (by (with_reducible repeat (first | apply Kd.N_alloc | apply Kd.N_drewN | apply Kd.N_drew)); exact Kd.N_mono (Kd.N_far (p := ⟨gb252, 2, none⟩) (Kd.N_far (p := ⟨gb252, 1, none⟩) (Kd.N_far (p := ⟨gb252, 0, none⟩) (Kd.N_mono HO244.out (fun k_ hk => (⟨hk, hk.2⟩ : _ ∧ k_ ≠ gb252))) (fun _ hk => hk.2) (.int .i64 t246)) (fun _ hk => hk.2) (.slice Ao25 t247.length co25)) (fun _ hk => hk.2) (.bool t250)) (fun _ hk => ⟨hk.1.1, hk.1.2⟩)))⟩; have n1_ : Aside0 (Kd.V (Kd.int .u8) 5 w26 w.heap.size (fun k_ => k_ ≠ gb245 ∧ k_ ≠ gb252) (.slice Ao25 t247.length co25) t247) := ⟨(by rw [hw]; exact (by (with_reducible repeat (first | apply Kd.V_alloc | apply Kd.V_drewN | apply Kd.V_drew)); exact Kd.V_mono (Kd.V_far (p := ⟨gb252, 2, none⟩) (Kd.V_far (p := ⟨gb252, 1, none⟩) (Kd.V_far (p := ⟨gb252, 0, none⟩) (Kd.V_mono HO249.out (fun k_ hk => (⟨hk, hk.2⟩ : _ ∧ k_ ≠ gb252))) (fun _ hk => hk.2) (.int .i64 t246)) (fun _ hk => hk.2) (.slice Ao25 t247.length co25)) (fun _ hk => hk.2) (.bool t250)) (fun _ hk => ⟨hk.1.1, hk.1.2⟩)))⟩; have n2_ : Aside0 (w26.heap[gb245]? = some (.cells #[.slice Ao17 t242.length co17] 29 (0, 0))) := ⟨(by rw [hw]; exact (by (with_reducible repeat (first | refine blk_drewN ?_ _ | refine blk_drew ?_ | refine blk_alloc ?_ _)); refine blk_far ?_ NB245_252.out _; (with_reducible repeat (first | refine blk_drewN ?_ _ | refine blk_drew ?_ | refine blk_alloc ?_ _)); refine blk_far ?_ NB245_252.out _; (with_reducible repeat (first | refine blk_drewN ?_ _ | refine blk_drew ?_ | refine blk_alloc ?_ _)); refine blk_far ?_ NB245_252.out _; (with_reducible repeat (first | refine blk_drewN ?_ _ | refine blk_drew ?_ | refine blk_alloc ?_ _)); exact BK245.out))⟩; have n3_ : Aside0 (w26.heap[gb252]? = some (.cells #[.int .i64 t246, .slice Ao25 t247.length co25, .bool t250] 37 (0, 0))) := ⟨(by rw [hw]; exact (by (with_reducible repeat (first | refine blk_drewN ?_ _ | refine blk_drew ?_ | refine blk_alloc ?_ _)); refine blk_put (cs := #[.int .i64 t246, .slice Ao25 t247.length co25, .bool false]) ?_ 2 _ rfl; (with_reducible repeat (first | refine blk_drewN ?_ _ | refine blk_drew ?_ | refine blk_alloc ?_ _)); refine blk_put (cs := #[.int .i64 t246, .slice none 0 0, .bool false]) ?_ 1 _ rfl; (with_reducible repeat (first | refine blk_drewN ?_ _ | refine blk_drew ?_ | refine blk_alloc ?_ _)); refine blk_put (cs := #[.int .i64 0, .slice none 0 0, .bool false]) ?_ 0 _ rfl; (with_reducible repeat (first | refine blk_drewN ?_ _ | refine blk_drew ?_ | refine blk_alloc ?_ _)); exact BK252.out))⟩; have n4_ : Aside0 (Below w.heap.size w w26) := ⟨(by rw [hw]; exact (by repeat (first | (with_reducible first | exact HB.out | apply below_alloc | apply pw_below_drewN | apply below_drew1 | refine below_set ?_ GE245.out | refine below_set ?_ GE252.out) | exact HB.out)))⟩; clear hw; clear HO244; clear HO249; clear BK245; clear BK252; clear HB; have HO244 := n0_; have HO249 := n1_; have BK245 := n2_; have BK252 := n3_; have HB := n4_; clear n0_ n1_ n2_ n3_ n4_; have hcz27_0 : w26.cell? ⟨gb245, 0, none⟩ = some (.slice Ao17 t242.length co17) := (blk_cell BK245.out 0).trans rfl; have hfz27_0 := blk_frozen BK245.out 0) | ((with_reducible refine gate_callee (f := 14) rfl ?_); refine goesL_ (some 35) rfl rfl Try.func14 (by kernel_rfl) rfl #[.agg #[.slice Ao17 t242.length co17], .int .i64 ji10] rfl (by (try simp only [List.map_toArray, List.map_cons, List.map_nil]); first | done | (simp only [hji10]; rfl) | rfl | (simp only [List.length_drop, List.length_take]; rfl)) ?_; (with_reducible refine (chain_At.calls (fun k_ => (k_ ≠ gb245 ∧ k_ ≠ gb252)) _ _ t242 ji10 t253 t254 t257 t258 _ ?side1 A11.out).mono ?_); (case side1 => exact Kd.N_V (HO244.out)); rintro e w28 ⟨v255, rfl, ho0, hb⟩; refine ⟨_, rfl, ?_⟩; have n0_ := Aside0.mk (Kd.N_below (by (with_reducible repeat (first | apply Kd.N_alloc | apply Kd.N_drewN | apply Kd.N_drew)); exact HO244.out) hb); have n1_ := Aside0.mk (Kd.V_below (by (with_reducible repeat (first | apply Kd.V_alloc | apply Kd.V_drewN | apply Kd.V_drew)); exact HO249.out) hb); have n2_ := Aside0.mk (Kd.V_lower (Kd.V_mono (ok' := fun k_ => k_ ≠ gb245 ∧ k_ ≠ gb252) ho0 (fun k_ hk_ => ⟨Or.elim hk_ (fun hs_ => hs_.1) (fun hn_ => (Kd.freshB (g := gb245) (o := .cells #[.slice Ao17 t242.length co17] 29 (0, 0)) (by (with_reducible repeat (first | refine blk_drewN ?_ _ | refine blk_drew ?_ | refine blk_alloc ?_ _)); exact BK245.out) k_ hn_)), Or.elim hk_ (fun hs_ => hs_.2) (fun hn_ => (Kd.freshB (g := gb252) (o := .cells #[.int .i64 t246, .slice Ao25 t247.length co25, .bool t250] 37 (0, 0)) (by (with_reducible repeat (first | refine blk_drewN ?_ _ | refine blk_drew ?_ | refine blk_alloc ?_ _)); exact BK252.out) k_ hn_))⟩)) (below_size (by repeat (first | (with_reducible first | exact HB.out | apply below_alloc | apply pw_below_drewN | apply below_drew1 | refine below_set ?_ GE245.out | refine below_set ?_ GE252.out) | exact HB.out)))); have n3_ := Aside0.mk (blk_below (g := gb245) (o := .cells #[.slice Ao17 t242.length co17] 29 (0, 0)) (by (with_reducible repeat (first | refine blk_drewN ?_ _ | refine blk_drew ?_ | refine blk_alloc ?_ _)); exact BK245.out) hb); have n4_ := Aside0.mk (blk_below (g := gb252) (o := .cells #[.int .i64 t246, .slice Ao25 t247.length co25, .bool t250] 37 (0, 0)) (by (with_reducible repeat (first | refine blk_drewN ?_ _ | refine blk_drew ?_ | refine blk_alloc ?_ _)); exact BK252.out) hb); have n5_ := Aside0.mk (below_step (by repeat (first | (with_reducible first | exact HB.out | apply below_alloc | apply pw_below_drewN | apply below_drew1 | refine below_set ?_ GE245.out | refine below_set ?_ GE252.out) | exact HB.out)) hb); clear HO244; clear HO249; clear BK245; clear BK252; clear HB; have HO244 := n0_; have HO249 := n1_; have HO256 := n2_; have BK245 := n3_; have BK252 := n4_; have HB := n5_; clear n0_ n1_ n2_ n3_ n4_ n5_; (try clear hb); (try clear hb2); (try clear hk); (try clear hi); (try clear ho0)) | ((with_reducible refine gate_dst (N := 11) rfl ?_); (try (refine gate_guard (by rfl) ?_; dsimp only)); refine box_event ?hg (N := 11) ?hd (cs := #[.int .i64 0, .slice none 0 0, .bool false]) (t := 37) ?hr ?_; (case hd => rfl); (case hg => rfl); (case hr => first | (go_simp; done) | (go_simp; rfl)); intro gb259 hg w29 hbox hb; have n0_ := Aside0.mk (Kd.N_below (Kd.N_elderB (by (with_reducible repeat (first | apply Kd.N_alloc | apply Kd.N_drewN | apply Kd.N_drew)); exact HO244.out) gb259 (Nat.le_of_eq hg.symm)) hb); have n1_ := Aside0.mk (Kd.V_below (Kd.V_elderB (by (with_reducible repeat (first | apply Kd.V_alloc | apply Kd.V_drewN | apply Kd.V_drew)); exact HO249.out) gb259 (Nat.le_of_eq hg.symm)) hb); have n2_ := Aside0.mk (Kd.V_below (Kd.V_elderB (by (with_reducible repeat (first | apply Kd.V_alloc | apply Kd.V_drewN | apply Kd.V_drew)); exact HO256.out) gb259 (Nat.le_of_eq hg.symm)) hb); have n3_ := Aside0.mk (blk_below (g := gb245) (o := .cells #[.slice Ao17 t242.length co17] 29 (0, 0)) (by (with_reducible repeat (first | refine blk_drewN ?_ _ | refine blk_drew ?_ | refine blk_alloc ?_ _)); exact BK245.out) hb); have n4_ := Aside0.mk (blk_below (g := gb252) (o := .cells #[.int .i64 t246, .slice Ao25 t247.length co25, .bool t250] 37 (0, 0)) (by (with_reducible repeat (first | refine blk_drewN ?_ _ | refine blk_drew ?_ | refine blk_alloc ?_ _)); exact BK252.out) hb); have n5_ := Aside0.mk (below_step (by repeat (first | (with_reducible first | exact HB.out | apply below_alloc | apply pw_below_drewN | apply below_drew1 | refine below_set ?_ GE245.out | refine below_set ?_ GE252.out) | exact HB.out)) hb); have n6_ := Aside0.mk (hbox); have n7_ := Aside0.mk ((by rw [hg]; exact (below_size (by repeat (first | (with_reducible first | exact HB.out | apply below_alloc | apply pw_below_drewN | apply below_drew1 | refine below_set ?_ GE245.out | refine below_set ?_ GE252.out) | exact HB.out))) : w.heap.size ≤ gb259)); have n8_ := Aside0.mk ((by rw [hg]; exact (below_size (by repeat (first | (with_reducible first | exact HB.out | apply below_alloc | apply pw_below_drewN | apply below_drew1 | refine below_set ?_ GE245.out | refine below_set ?_ GE252.out) | exact HB.out))) : w.heap.size ≤ gb259)); have n9_ := Aside0.mk ((by rw [hg]; exact Nat.ne_of_lt (blk_lt (g := gb245) (o := .cells #[.slice Ao17 t242.length co17] 29 (0, 0)) (by (with_reducible repeat (first | refine blk_drewN ?_ _ | refine blk_drew ?_ | refine blk_alloc ?_ _)); exact BK245.out)) : gb245 ≠ gb259)); have n10_ := Aside0.mk ((by rw [hg]; exact Nat.ne_of_gt (blk_lt (g := gb245) (o := .cells #[.slice Ao17 t242.length co17] 29 (0, 0)) (by (with_reducible repeat (first | refine blk_drewN ?_ _ | refine blk_drew ?_ | refine blk_alloc ?_ _)); exact BK245.out)) : gb259 ≠ gb245)); have n11_ := Aside0.mk ((by rw [hg]; exact Nat.ne_of_lt (blk_lt (g := gb252) (o := .cells #[.int .i64 t246, .slice Ao25 t247.length co25, .bool t250] 37 (0, 0)) (by (with_reducible repeat (first | refine blk_drewN ?_ _ | refine blk_drew ?_ | refine blk_alloc ?_ _)); exact BK252.out)) : gb252 ≠ gb259)); have n12_ := Aside0.mk ((by rw [hg]; exact Nat.ne_of_gt (blk_lt (g := gb252) (o := .cells #[.int .i64 t246, .slice Ao25 t247.length co25, .bool t250] 37 (0, 0)) (by (with_reducible repeat (first | refine blk_drewN ?_ _ | refine blk_drew ?_ | refine blk_alloc ?_ _)); exact BK252.out)) : gb259 ≠ gb252)); clear HO244; clear HO249; clear HO256; clear BK245; clear BK252; clear HB; have HO244 := n0_; have HO249 := n1_; have HO256 := n2_; have BK245 := n3_; have BK252 := n4_; have HB := n5_; have BK259 := n6_; have GW259 := n7_; have GE259 := n8_; have NB245_259 := n9_; have NB259_245 := n10_; have NB252_259 := n11_; have NB259_252 := n12_; clear n0_ n1_ n2_ n3_ n4_ n5_ n6_ n7_ n8_ n9_ n10_ n11_ n12_; clear hb hbox hg; have hnb30 := NB259_245.out; have hnc30 := NB245_259.out; have hnb31 := NB259_252.out; have hnc31 := NB252_259.out; have hcz32_0 : w29.cell? ⟨gb259, 0, none⟩ = some (.int .i64 0) := (blk_cell BK259.out 0).trans rfl; have hcz32_1 : w29.cell? ⟨gb259, 1, none⟩ = some (.slice none 0 0) := (blk_cell BK259.out 1).trans rfl; have hcz32_2 : w29.cell? ⟨gb259, 2, none⟩ = some (.bool false) := (blk_cell BK259.out 2).trans rfl; have hfz32_0 := blk_frozen BK259.out 0; have hfz32_1 := blk_frozen BK259.out 1; have hfz32_2 := blk_frozen BK259.out 2; obtain ⟨Ao33, co33, eo33⟩ := Kd.V_slice HO256.out; subst eo33))
    (try simp only [Act.put, List.setIfInBounds_toArray, List.set_cons_zero, List.set_cons_succ])
    go_cut [68] (fun v68 wc => ∃ (kq : Nat) (x68_11 : Bool), v68 = .bool x68_11 ∧ Aside0 (godwitlaw07_ChainSees.j0 kq a1 a2 t240 t251 x68_11 t242 t246 t247 t250 = some r) ∧ Aside0 (kq ≤ k) ∧ Aside0 (Kd.N k37 37 wc w.heap.size (fun k_ => k_ ≠ gb245 ∧ k_ ≠ gb252 ∧ k_ ≠ gb259) (.slice Ao17 t242.length co17) t242) ∧ Aside0 (Kd.V (Kd.int .u8) 5 wc w.heap.size (fun k_ => k_ ≠ gb245 ∧ k_ ≠ gb252 ∧ k_ ≠ gb259) (.slice Ao25 t247.length co25) t247) ∧ Aside0 (Kd.V (Kd.int .u8) 5 wc w.heap.size (fun k_ => k_ ≠ gb245 ∧ k_ ≠ gb252 ∧ k_ ≠ gb259) (.slice Ao33 t254.length co33) t254) ∧ Aside0 (wc.heap[gb245]? = some (.cells #[(.slice Ao17 t242.length co17)] 29 (0, 0))) ∧ Aside0 (wc.heap[gb252]? = some (.cells #[.int .i64 t246, (.slice Ao25 t247.length co25), .bool t250] 37 (0, 0))) ∧ Aside0 (wc.heap[gb259]? = some (.cells #[.int .i64 t253, (.slice Ao33 t254.length co33), .bool t257] 37 (0, 0))) ∧ Aside0 (Below w.heap.size w wc))
    case first =>
      have H := HC12.out
      clear HC12
      by_cases c34 : t251 = true
      · subst c34
        have H1 : (if t258 = true then (if t246 > t253 then (godwitlaw07_ChainSees.j0 k a1 a2 t240 true true t242 t246 t247 t250) else (if t246 > (ji8) then (godwitlaw07_ChainSees.j0 k a1 a2 t240 true true t242 t246 t247 t250) else (godwitlaw07_ChainSees.j0 k a1 a2 t240 true (decide (t253 > (ji10))) t242 t246 t247 t250))) else (godwitlaw07_ChainSees.j0 k a1 a2 t240 true true t242 t246 t247 t250)) = some r := by rw [if_pos rfl] at H; exact H
        clear H
        have H := H1
        clear H1
        by_cases c35 : t258 = true
        · subst c35
          have H1 : (if t246 > t253 then (godwitlaw07_ChainSees.j0 k a1 a2 t240 true true t242 t246 t247 t250) else (if t246 > (ji8) then (godwitlaw07_ChainSees.j0 k a1 a2 t240 true true t242 t246 t247 t250) else (godwitlaw07_ChainSees.j0 k a1 a2 t240 true (decide (t253 > (ji10))) t242 t246 t247 t250))) = some r := by rw [if_pos rfl] at H; exact H
          clear H
          have H := H1
          clear H1
          by_cases c36 : t246 > t253
          · rw [if_pos c36] at H
            have c36b0 : decide (t253 < t246) = true := decide_eq_true c36
            clear c36
            (first | rw [c36b0] | (simp only [i64_w, i32_w]; rw [c36b0]) | skip)
            have H' := Aside0.mk H
            clear H
            have hnb37 := NB252_245.out
            have hnc37 := NB245_252.out
            have hnb38 := NB252_259.out
            have hnc38 := NB259_252.out
            have hcz39_0 : w29.cell? ⟨gb252, 0, none⟩ = some (.int .i64 t246) := (blk_cell BK252.out 0).trans rfl
            have hcz39_1 : w29.cell? ⟨gb252, 1, none⟩ = some (.slice Ao25 t247.length co25) := (blk_cell BK252.out 1).trans rfl
            have hcz39_2 : w29.cell? ⟨gb252, 2, none⟩ = some (.bool t250) := (blk_cell BK252.out 2).trans rfl
            have hfz39_0 := blk_frozen BK252.out 0
            have hfz39_1 := blk_frozen BK252.out 1
            have hfz39_2 := blk_frozen BK252.out 2
            have hnb40 := NB259_245.out
            have hnc40 := NB245_259.out
            have hcz41_0 : w29.cell? ⟨gb259, 0, none⟩ = some (.int .i64 0) := (blk_cell BK259.out 0).trans rfl
            have hcz41_1 : w29.cell? ⟨gb259, 1, none⟩ = some (.slice none 0 0) := (blk_cell BK259.out 1).trans rfl
            have hcz41_2 : w29.cell? ⟨gb259, 2, none⟩ = some (.bool false) := (blk_cell BK259.out 2).trans rfl
            have hfz41_0 := blk_frozen BK259.out 0
            have hfz41_1 := blk_frozen BK259.out 1
            have hfz41_2 := blk_frozen BK259.out 2
            go_wp2
            go_meet
            case rel => exact ⟨_, (true), (by first | rfl | (simp; done) | (simp [*]; done)), H', ⟨by first | omega | exact Nat.le_refl _⟩, ⟨by (with_reducible repeat (first | apply Kd.N_alloc | apply Kd.N_drewN | apply Kd.N_drew)); exact Kd.N_mono (Kd.N_far (p := ⟨gb259, 2, none⟩) (Kd.N_far (p := ⟨gb259, 1, none⟩) (Kd.N_far (p := ⟨gb259, 0, none⟩) (Kd.N_mono HO244.out (fun k_ hk => (⟨hk, hk.2⟩ : _ ∧ k_ ≠ gb259))) (fun _ hk => hk.2) (.int .i64 t253)) (fun _ hk => hk.2) (.slice Ao33 t254.length co33)) (fun _ hk => hk.2) (.bool t257)) (fun _ hk => ⟨hk.1.1.1, ⟨hk.1.1.2, hk.1.2⟩⟩)⟩, ⟨by (with_reducible repeat (first | apply Kd.V_alloc | apply Kd.V_drewN | apply Kd.V_drew)); exact Kd.V_mono (Kd.V_far (p := ⟨gb259, 2, none⟩) (Kd.V_far (p := ⟨gb259, 1, none⟩) (Kd.V_far (p := ⟨gb259, 0, none⟩) (Kd.V_mono HO249.out (fun k_ hk => (⟨hk, hk.2⟩ : _ ∧ k_ ≠ gb259))) (fun _ hk => hk.2) (.int .i64 t253)) (fun _ hk => hk.2) (.slice Ao33 t254.length co33)) (fun _ hk => hk.2) (.bool t257)) (fun _ hk => ⟨hk.1.1.1, ⟨hk.1.1.2, hk.1.2⟩⟩)⟩, ⟨by (with_reducible repeat (first | apply Kd.V_alloc | apply Kd.V_drewN | apply Kd.V_drew)); exact Kd.V_mono (Kd.V_far (p := ⟨gb259, 2, none⟩) (Kd.V_far (p := ⟨gb259, 1, none⟩) (Kd.V_far (p := ⟨gb259, 0, none⟩) (Kd.V_mono HO256.out (fun k_ hk => (⟨hk, hk.2⟩ : _ ∧ k_ ≠ gb259))) (fun _ hk => hk.2) (.int .i64 t253)) (fun _ hk => hk.2) (.slice Ao33 t254.length co33)) (fun _ hk => hk.2) (.bool t257)) (fun _ hk => ⟨hk.1.1.1, ⟨hk.1.1.2, hk.1.2⟩⟩)⟩, ⟨by (with_reducible repeat (first | refine blk_drewN ?_ _ | refine blk_drew ?_ | refine blk_alloc ?_ _)); refine blk_far ?_ NB245_259.out _; (with_reducible repeat (first | refine blk_drewN ?_ _ | refine blk_drew ?_ | refine blk_alloc ?_ _)); refine blk_far ?_ NB245_259.out _; (with_reducible repeat (first | refine blk_drewN ?_ _ | refine blk_drew ?_ | refine blk_alloc ?_ _)); refine blk_far ?_ NB245_259.out _; (with_reducible repeat (first | refine blk_drewN ?_ _ | refine blk_drew ?_ | refine blk_alloc ?_ _)); exact BK245.out⟩, ⟨by (with_reducible repeat (first | refine blk_drewN ?_ _ | refine blk_drew ?_ | refine blk_alloc ?_ _)); refine blk_far ?_ NB252_259.out _; (with_reducible repeat (first | refine blk_drewN ?_ _ | refine blk_drew ?_ | refine blk_alloc ?_ _)); refine blk_far ?_ NB252_259.out _; (with_reducible repeat (first | refine blk_drewN ?_ _ | refine blk_drew ?_ | refine blk_alloc ?_ _)); refine blk_far ?_ NB252_259.out _; (with_reducible repeat (first | refine blk_drewN ?_ _ | refine blk_drew ?_ | refine blk_alloc ?_ _)); exact BK252.out⟩, ⟨by (with_reducible repeat (first | refine blk_drewN ?_ _ | refine blk_drew ?_ | refine blk_alloc ?_ _)); refine blk_put (cs := #[.int .i64 t253, .slice Ao33 t254.length co33, .bool false]) ?_ 2 _ rfl; (with_reducible repeat (first | refine blk_drewN ?_ _ | refine blk_drew ?_ | refine blk_alloc ?_ _)); refine blk_put (cs := #[.int .i64 t253, .slice none 0 0, .bool false]) ?_ 1 _ rfl; (with_reducible repeat (first | refine blk_drewN ?_ _ | refine blk_drew ?_ | refine blk_alloc ?_ _)); refine blk_put (cs := #[.int .i64 0, .slice none 0 0, .bool false]) ?_ 0 _ rfl; (with_reducible repeat (first | refine blk_drewN ?_ _ | refine blk_drew ?_ | refine blk_alloc ?_ _)); exact BK259.out⟩, ⟨by repeat (first | (with_reducible first | exact HB.out | apply below_alloc | apply pw_below_drewN | apply below_drew1 | refine below_set ?_ GE245.out | refine below_set ?_ GE252.out | refine below_set ?_ GE259.out) | exact HB.out)⟩⟩
          · rw [if_neg c36] at H
            have c36b0 : decide (t253 < t246) = false := decide_eq_false c36
            clear c36
            (first | rw [c36b0] | (simp only [i64_w, i32_w]; rw [c36b0]) | skip)
            by_cases c42 : t246 > (ji8)
            · rw [if_pos c42] at H
              have c42b0 : decide ((ji8) < t246) = true := decide_eq_true c42
              clear c42
              have H' := Aside0.mk H
              clear H
              have hnb43 := NB252_245.out
              have hnc43 := NB245_252.out
              have hnb44 := NB252_259.out
              have hnc44 := NB259_252.out
              have hcz45_0 : w29.cell? ⟨gb252, 0, none⟩ = some (.int .i64 t246) := (blk_cell BK252.out 0).trans rfl
              have hcz45_1 : w29.cell? ⟨gb252, 1, none⟩ = some (.slice Ao25 t247.length co25) := (blk_cell BK252.out 1).trans rfl
              have hcz45_2 : w29.cell? ⟨gb252, 2, none⟩ = some (.bool t250) := (blk_cell BK252.out 2).trans rfl
              have hfz45_0 := blk_frozen BK252.out 0
              have hfz45_1 := blk_frozen BK252.out 1
              have hfz45_2 := blk_frozen BK252.out 2
              have hnb46 := NB259_245.out
              have hnc46 := NB245_259.out
              have hcz47_0 : w29.cell? ⟨gb259, 0, none⟩ = some (.int .i64 0) := (blk_cell BK259.out 0).trans rfl
              have hcz47_1 : w29.cell? ⟨gb259, 1, none⟩ = some (.slice none 0 0) := (blk_cell BK259.out 1).trans rfl
              have hcz47_2 : w29.cell? ⟨gb259, 2, none⟩ = some (.bool false) := (blk_cell BK259.out 2).trans rfl
              have hfz47_0 := blk_frozen BK259.out 0
              have hfz47_1 := blk_frozen BK259.out 1
              have hfz47_2 := blk_frozen BK259.out 2
              go_wp2
              go_meet
              case rel => exact ⟨_, (true), (by first | rfl | (simp; done) | (simp [*]; done)), H', ⟨by first | omega | exact Nat.le_refl _⟩, ⟨by (with_reducible repeat (first | apply Kd.N_alloc | apply Kd.N_drewN | apply Kd.N_drew)); exact Kd.N_mono (Kd.N_far (p := ⟨gb259, 2, none⟩) (Kd.N_far (p := ⟨gb259, 1, none⟩) (Kd.N_far (p := ⟨gb259, 0, none⟩) (Kd.N_mono HO244.out (fun k_ hk => (⟨hk, hk.2⟩ : _ ∧ k_ ≠ gb259))) (fun _ hk => hk.2) (.int .i64 t253)) (fun _ hk => hk.2) (.slice Ao33 t254.length co33)) (fun _ hk => hk.2) (.bool t257)) (fun _ hk => ⟨hk.1.1.1, ⟨hk.1.1.2, hk.1.2⟩⟩)⟩, ⟨by (with_reducible repeat (first | apply Kd.V_alloc | apply Kd.V_drewN | apply Kd.V_drew)); exact Kd.V_mono (Kd.V_far (p := ⟨gb259, 2, none⟩) (Kd.V_far (p := ⟨gb259, 1, none⟩) (Kd.V_far (p := ⟨gb259, 0, none⟩) (Kd.V_mono HO249.out (fun k_ hk => (⟨hk, hk.2⟩ : _ ∧ k_ ≠ gb259))) (fun _ hk => hk.2) (.int .i64 t253)) (fun _ hk => hk.2) (.slice Ao33 t254.length co33)) (fun _ hk => hk.2) (.bool t257)) (fun _ hk => ⟨hk.1.1.1, ⟨hk.1.1.2, hk.1.2⟩⟩)⟩, ⟨by (with_reducible repeat (first | apply Kd.V_alloc | apply Kd.V_drewN | apply Kd.V_drew)); exact Kd.V_mono (Kd.V_far (p := ⟨gb259, 2, none⟩) (Kd.V_far (p := ⟨gb259, 1, none⟩) (Kd.V_far (p := ⟨gb259, 0, none⟩) (Kd.V_mono HO256.out (fun k_ hk => (⟨hk, hk.2⟩ : _ ∧ k_ ≠ gb259))) (fun _ hk => hk.2) (.int .i64 t253)) (fun _ hk => hk.2) (.slice Ao33 t254.length co33)) (fun _ hk => hk.2) (.bool t257)) (fun _ hk => ⟨hk.1.1.1, ⟨hk.1.1.2, hk.1.2⟩⟩)⟩, ⟨by (with_reducible repeat (first | refine blk_drewN ?_ _ | refine blk_drew ?_ | refine blk_alloc ?_ _)); refine blk_far ?_ NB245_259.out _; (with_reducible repeat (first | refine blk_drewN ?_ _ | refine blk_drew ?_ | refine blk_alloc ?_ _)); refine blk_far ?_ NB245_259.out _; (with_reducible repeat (first | refine blk_drewN ?_ _ | refine blk_drew ?_ | refine blk_alloc ?_ _)); refine blk_far ?_ NB245_259.out _; (with_reducible repeat (first | refine blk_drewN ?_ _ | refine blk_drew ?_ | refine blk_alloc ?_ _)); exact BK245.out⟩, ⟨by (with_reducible repeat (first | refine blk_drewN ?_ _ | refine blk_drew ?_ | refine blk_alloc ?_ _)); refine blk_far ?_ NB252_259.out _; (with_reducible repeat (first | refine blk_drewN ?_ _ | refine blk_drew ?_ | refine blk_alloc ?_ _)); refine blk_far ?_ NB252_259.out _; (with_reducible repeat (first | refine blk_drewN ?_ _ | refine blk_drew ?_ | refine blk_alloc ?_ _)); refine blk_far ?_ NB252_259.out _; (with_reducible repeat (first | refine blk_drewN ?_ _ | refine blk_drew ?_ | refine blk_alloc ?_ _)); exact BK252.out⟩, ⟨by (with_reducible repeat (first | refine blk_drewN ?_ _ | refine blk_drew ?_ | refine blk_alloc ?_ _)); refine blk_put (cs := #[.int .i64 t253, .slice Ao33 t254.length co33, .bool false]) ?_ 2 _ rfl; (with_reducible repeat (first | refine blk_drewN ?_ _ | refine blk_drew ?_ | refine blk_alloc ?_ _)); refine blk_put (cs := #[.int .i64 t253, .slice none 0 0, .bool false]) ?_ 1 _ rfl; (with_reducible repeat (first | refine blk_drewN ?_ _ | refine blk_drew ?_ | refine blk_alloc ?_ _)); refine blk_put (cs := #[.int .i64 0, .slice none 0 0, .bool false]) ?_ 0 _ rfl; (with_reducible repeat (first | refine blk_drewN ?_ _ | refine blk_drew ?_ | refine blk_alloc ?_ _)); exact BK259.out⟩, ⟨by repeat (first | (with_reducible first | exact HB.out | apply below_alloc | apply pw_below_drewN | apply below_drew1 | refine below_set ?_ GE245.out | refine below_set ?_ GE252.out | refine below_set ?_ GE259.out) | exact HB.out)⟩⟩
            · rw [if_neg c42] at H
              have c42b0 : decide ((ji8) < t246) = false := decide_eq_false c42
              clear c42
              have H' := Aside0.mk H
              clear H
              have hnb48 := NB252_245.out
              have hnc48 := NB245_252.out
              have hnb49 := NB252_259.out
              have hnc49 := NB259_252.out
              have hcz50_0 : w29.cell? ⟨gb252, 0, none⟩ = some (.int .i64 t246) := (blk_cell BK252.out 0).trans rfl
              have hcz50_1 : w29.cell? ⟨gb252, 1, none⟩ = some (.slice Ao25 t247.length co25) := (blk_cell BK252.out 1).trans rfl
              have hcz50_2 : w29.cell? ⟨gb252, 2, none⟩ = some (.bool t250) := (blk_cell BK252.out 2).trans rfl
              have hfz50_0 := blk_frozen BK252.out 0
              have hfz50_1 := blk_frozen BK252.out 1
              have hfz50_2 := blk_frozen BK252.out 2
              have hnb51 := NB259_245.out
              have hnc51 := NB245_259.out
              have hcz52_0 : w29.cell? ⟨gb259, 0, none⟩ = some (.int .i64 0) := (blk_cell BK259.out 0).trans rfl
              have hcz52_1 : w29.cell? ⟨gb259, 1, none⟩ = some (.slice none 0 0) := (blk_cell BK259.out 1).trans rfl
              have hcz52_2 : w29.cell? ⟨gb259, 2, none⟩ = some (.bool false) := (blk_cell BK259.out 2).trans rfl
              have hfz52_0 := blk_frozen BK259.out 0
              have hfz52_1 := blk_frozen BK259.out 1
              have hfz52_2 := blk_frozen BK259.out 2
              go_wp2
              go_meet
              case rel => exact ⟨_, (decide (t253 > (ji10))), (by first | rfl | (simp; done) | (simp only [← hji10] <;> (first | rfl | simp)) | (simp [*]; done)), H', ⟨by first | omega | exact Nat.le_refl _⟩, ⟨by (with_reducible repeat (first | apply Kd.N_alloc | apply Kd.N_drewN | apply Kd.N_drew)); exact Kd.N_mono (Kd.N_far (p := ⟨gb259, 2, none⟩) (Kd.N_far (p := ⟨gb259, 1, none⟩) (Kd.N_far (p := ⟨gb259, 0, none⟩) (Kd.N_mono HO244.out (fun k_ hk => (⟨hk, hk.2⟩ : _ ∧ k_ ≠ gb259))) (fun _ hk => hk.2) (.int .i64 t253)) (fun _ hk => hk.2) (.slice Ao33 t254.length co33)) (fun _ hk => hk.2) (.bool t257)) (fun _ hk => ⟨hk.1.1.1, ⟨hk.1.1.2, hk.1.2⟩⟩)⟩, ⟨by (with_reducible repeat (first | apply Kd.V_alloc | apply Kd.V_drewN | apply Kd.V_drew)); exact Kd.V_mono (Kd.V_far (p := ⟨gb259, 2, none⟩) (Kd.V_far (p := ⟨gb259, 1, none⟩) (Kd.V_far (p := ⟨gb259, 0, none⟩) (Kd.V_mono HO249.out (fun k_ hk => (⟨hk, hk.2⟩ : _ ∧ k_ ≠ gb259))) (fun _ hk => hk.2) (.int .i64 t253)) (fun _ hk => hk.2) (.slice Ao33 t254.length co33)) (fun _ hk => hk.2) (.bool t257)) (fun _ hk => ⟨hk.1.1.1, ⟨hk.1.1.2, hk.1.2⟩⟩)⟩, ⟨by (with_reducible repeat (first | apply Kd.V_alloc | apply Kd.V_drewN | apply Kd.V_drew)); exact Kd.V_mono (Kd.V_far (p := ⟨gb259, 2, none⟩) (Kd.V_far (p := ⟨gb259, 1, none⟩) (Kd.V_far (p := ⟨gb259, 0, none⟩) (Kd.V_mono HO256.out (fun k_ hk => (⟨hk, hk.2⟩ : _ ∧ k_ ≠ gb259))) (fun _ hk => hk.2) (.int .i64 t253)) (fun _ hk => hk.2) (.slice Ao33 t254.length co33)) (fun _ hk => hk.2) (.bool t257)) (fun _ hk => ⟨hk.1.1.1, ⟨hk.1.1.2, hk.1.2⟩⟩)⟩, ⟨by (with_reducible repeat (first | refine blk_drewN ?_ _ | refine blk_drew ?_ | refine blk_alloc ?_ _)); refine blk_far ?_ NB245_259.out _; (with_reducible repeat (first | refine blk_drewN ?_ _ | refine blk_drew ?_ | refine blk_alloc ?_ _)); refine blk_far ?_ NB245_259.out _; (with_reducible repeat (first | refine blk_drewN ?_ _ | refine blk_drew ?_ | refine blk_alloc ?_ _)); refine blk_far ?_ NB245_259.out _; (with_reducible repeat (first | refine blk_drewN ?_ _ | refine blk_drew ?_ | refine blk_alloc ?_ _)); exact BK245.out⟩, ⟨by (with_reducible repeat (first | refine blk_drewN ?_ _ | refine blk_drew ?_ | refine blk_alloc ?_ _)); refine blk_far ?_ NB252_259.out _; (with_reducible repeat (first | refine blk_drewN ?_ _ | refine blk_drew ?_ | refine blk_alloc ?_ _)); refine blk_far ?_ NB252_259.out _; (with_reducible repeat (first | refine blk_drewN ?_ _ | refine blk_drew ?_ | refine blk_alloc ?_ _)); refine blk_far ?_ NB252_259.out _; (with_reducible repeat (first | refine blk_drewN ?_ _ | refine blk_drew ?_ | refine blk_alloc ?_ _)); exact BK252.out⟩, ⟨by (with_reducible repeat (first | refine blk_drewN ?_ _ | refine blk_drew ?_ | refine blk_alloc ?_ _)); refine blk_put (cs := #[.int .i64 t253, .slice Ao33 t254.length co33, .bool false]) ?_ 2 _ rfl; (with_reducible repeat (first | refine blk_drewN ?_ _ | refine blk_drew ?_ | refine blk_alloc ?_ _)); refine blk_put (cs := #[.int .i64 t253, .slice none 0 0, .bool false]) ?_ 1 _ rfl; (with_reducible repeat (first | refine blk_drewN ?_ _ | refine blk_drew ?_ | refine blk_alloc ?_ _)); refine blk_put (cs := #[.int .i64 0, .slice none 0 0, .bool false]) ?_ 0 _ rfl; (with_reducible repeat (first | refine blk_drewN ?_ _ | refine blk_drew ?_ | refine blk_alloc ?_ _)); exact BK259.out⟩, ⟨by repeat (first | (with_reducible first | exact HB.out | apply below_alloc | apply pw_below_drewN | apply below_drew1 | refine below_set ?_ GE245.out | refine below_set ?_ GE252.out | refine below_set ?_ GE259.out) | exact HB.out)⟩⟩
        · replace c35 := Bool.eq_false_iff.mpr c35
          subst c35
          have H1 : (godwitlaw07_ChainSees.j0 k a1 a2 t240 true true t242 t246 t247 t250) = some r := by rw [if_neg (show ¬ (false = true) by decide)] at H; exact H
          clear H
          have H := H1
          clear H1
          have H' := Aside0.mk H
          clear H
          go_wp2
          go_meet
          case rel => exact ⟨_, (true), (by first | rfl | (simp; done) | (simp [*]; done)), H', ⟨by first | omega | exact Nat.le_refl _⟩, ⟨by (with_reducible repeat (first | apply Kd.N_alloc | apply Kd.N_drewN | apply Kd.N_drew)); exact Kd.N_mono (Kd.N_far (p := ⟨gb259, 2, none⟩) (Kd.N_far (p := ⟨gb259, 1, none⟩) (Kd.N_far (p := ⟨gb259, 0, none⟩) (Kd.N_mono HO244.out (fun k_ hk => (⟨hk, hk.2⟩ : _ ∧ k_ ≠ gb259))) (fun _ hk => hk.2) (.int .i64 t253)) (fun _ hk => hk.2) (.slice Ao33 t254.length co33)) (fun _ hk => hk.2) (.bool t257)) (fun _ hk => ⟨hk.1.1.1, ⟨hk.1.1.2, hk.1.2⟩⟩)⟩, ⟨by (with_reducible repeat (first | apply Kd.V_alloc | apply Kd.V_drewN | apply Kd.V_drew)); exact Kd.V_mono (Kd.V_far (p := ⟨gb259, 2, none⟩) (Kd.V_far (p := ⟨gb259, 1, none⟩) (Kd.V_far (p := ⟨gb259, 0, none⟩) (Kd.V_mono HO249.out (fun k_ hk => (⟨hk, hk.2⟩ : _ ∧ k_ ≠ gb259))) (fun _ hk => hk.2) (.int .i64 t253)) (fun _ hk => hk.2) (.slice Ao33 t254.length co33)) (fun _ hk => hk.2) (.bool t257)) (fun _ hk => ⟨hk.1.1.1, ⟨hk.1.1.2, hk.1.2⟩⟩)⟩, ⟨by (with_reducible repeat (first | apply Kd.V_alloc | apply Kd.V_drewN | apply Kd.V_drew)); exact Kd.V_mono (Kd.V_far (p := ⟨gb259, 2, none⟩) (Kd.V_far (p := ⟨gb259, 1, none⟩) (Kd.V_far (p := ⟨gb259, 0, none⟩) (Kd.V_mono HO256.out (fun k_ hk => (⟨hk, hk.2⟩ : _ ∧ k_ ≠ gb259))) (fun _ hk => hk.2) (.int .i64 t253)) (fun _ hk => hk.2) (.slice Ao33 t254.length co33)) (fun _ hk => hk.2) (.bool t257)) (fun _ hk => ⟨hk.1.1.1, ⟨hk.1.1.2, hk.1.2⟩⟩)⟩, ⟨by (with_reducible repeat (first | refine blk_drewN ?_ _ | refine blk_drew ?_ | refine blk_alloc ?_ _)); refine blk_far ?_ NB245_259.out _; (with_reducible repeat (first | refine blk_drewN ?_ _ | refine blk_drew ?_ | refine blk_alloc ?_ _)); refine blk_far ?_ NB245_259.out _; (with_reducible repeat (first | refine blk_drewN ?_ _ | refine blk_drew ?_ | refine blk_alloc ?_ _)); refine blk_far ?_ NB245_259.out _; (with_reducible repeat (first | refine blk_drewN ?_ _ | refine blk_drew ?_ | refine blk_alloc ?_ _)); exact BK245.out⟩, ⟨by (with_reducible repeat (first | refine blk_drewN ?_ _ | refine blk_drew ?_ | refine blk_alloc ?_ _)); refine blk_far ?_ NB252_259.out _; (with_reducible repeat (first | refine blk_drewN ?_ _ | refine blk_drew ?_ | refine blk_alloc ?_ _)); refine blk_far ?_ NB252_259.out _; (with_reducible repeat (first | refine blk_drewN ?_ _ | refine blk_drew ?_ | refine blk_alloc ?_ _)); refine blk_far ?_ NB252_259.out _; (with_reducible repeat (first | refine blk_drewN ?_ _ | refine blk_drew ?_ | refine blk_alloc ?_ _)); exact BK252.out⟩, ⟨by (with_reducible repeat (first | refine blk_drewN ?_ _ | refine blk_drew ?_ | refine blk_alloc ?_ _)); refine blk_put (cs := #[.int .i64 t253, .slice Ao33 t254.length co33, .bool false]) ?_ 2 _ rfl; (with_reducible repeat (first | refine blk_drewN ?_ _ | refine blk_drew ?_ | refine blk_alloc ?_ _)); refine blk_put (cs := #[.int .i64 t253, .slice none 0 0, .bool false]) ?_ 1 _ rfl; (with_reducible repeat (first | refine blk_drewN ?_ _ | refine blk_drew ?_ | refine blk_alloc ?_ _)); refine blk_put (cs := #[.int .i64 0, .slice none 0 0, .bool false]) ?_ 0 _ rfl; (with_reducible repeat (first | refine blk_drewN ?_ _ | refine blk_drew ?_ | refine blk_alloc ?_ _)); exact BK259.out⟩, ⟨by repeat (first | (with_reducible first | exact HB.out | apply below_alloc | apply pw_below_drewN | apply below_drew1 | refine below_set ?_ GE245.out | refine below_set ?_ GE252.out | refine below_set ?_ GE259.out) | exact HB.out)⟩⟩
      · replace c34 := Bool.eq_false_iff.mpr c34
        subst c34
        have H1 : (if t258 = true then (godwitlaw07_ChainSees.j0 k a1 a2 t240 false (decide (t253 > (ji10))) t242 t246 t247 t250) else (godwitlaw07_ChainSees.j0 k a1 a2 t240 false false t242 t246 t247 t250)) = some r := by rw [if_neg (show ¬ (false = true) by decide)] at H; exact H
        clear H
        have H := H1
        clear H1
        by_cases c53 : t258 = true
        · subst c53
          have H1 : (godwitlaw07_ChainSees.j0 k a1 a2 t240 false (decide (t253 > (ji10))) t242 t246 t247 t250) = some r := by rw [if_pos rfl] at H; exact H
          clear H
          have H := H1
          clear H1
          have H' := Aside0.mk H
          clear H
          have hnb54 := NB259_245.out
          have hnc54 := NB245_259.out
          have hnb55 := NB259_252.out
          have hnc55 := NB252_259.out
          have hcz56_0 : w29.cell? ⟨gb259, 0, none⟩ = some (.int .i64 0) := (blk_cell BK259.out 0).trans rfl
          have hcz56_1 : w29.cell? ⟨gb259, 1, none⟩ = some (.slice none 0 0) := (blk_cell BK259.out 1).trans rfl
          have hcz56_2 : w29.cell? ⟨gb259, 2, none⟩ = some (.bool false) := (blk_cell BK259.out 2).trans rfl
          have hfz56_0 := blk_frozen BK259.out 0
          have hfz56_1 := blk_frozen BK259.out 1
          have hfz56_2 := blk_frozen BK259.out 2
          go_wp2
          go_meet
          case rel => exact ⟨_, (decide (t253 > (ji10))), (by first | rfl | (simp; done) | (simp only [← hji10] <;> (first | rfl | simp)) | (simp [*]; done)), H', ⟨by first | omega | exact Nat.le_refl _⟩, ⟨by (with_reducible repeat (first | apply Kd.N_alloc | apply Kd.N_drewN | apply Kd.N_drew)); exact Kd.N_mono (Kd.N_far (p := ⟨gb259, 2, none⟩) (Kd.N_far (p := ⟨gb259, 1, none⟩) (Kd.N_far (p := ⟨gb259, 0, none⟩) (Kd.N_mono HO244.out (fun k_ hk => (⟨hk, hk.2⟩ : _ ∧ k_ ≠ gb259))) (fun _ hk => hk.2) (.int .i64 t253)) (fun _ hk => hk.2) (.slice Ao33 t254.length co33)) (fun _ hk => hk.2) (.bool t257)) (fun _ hk => ⟨hk.1.1.1, ⟨hk.1.1.2, hk.1.2⟩⟩)⟩, ⟨by (with_reducible repeat (first | apply Kd.V_alloc | apply Kd.V_drewN | apply Kd.V_drew)); exact Kd.V_mono (Kd.V_far (p := ⟨gb259, 2, none⟩) (Kd.V_far (p := ⟨gb259, 1, none⟩) (Kd.V_far (p := ⟨gb259, 0, none⟩) (Kd.V_mono HO249.out (fun k_ hk => (⟨hk, hk.2⟩ : _ ∧ k_ ≠ gb259))) (fun _ hk => hk.2) (.int .i64 t253)) (fun _ hk => hk.2) (.slice Ao33 t254.length co33)) (fun _ hk => hk.2) (.bool t257)) (fun _ hk => ⟨hk.1.1.1, ⟨hk.1.1.2, hk.1.2⟩⟩)⟩, ⟨by (with_reducible repeat (first | apply Kd.V_alloc | apply Kd.V_drewN | apply Kd.V_drew)); exact Kd.V_mono (Kd.V_far (p := ⟨gb259, 2, none⟩) (Kd.V_far (p := ⟨gb259, 1, none⟩) (Kd.V_far (p := ⟨gb259, 0, none⟩) (Kd.V_mono HO256.out (fun k_ hk => (⟨hk, hk.2⟩ : _ ∧ k_ ≠ gb259))) (fun _ hk => hk.2) (.int .i64 t253)) (fun _ hk => hk.2) (.slice Ao33 t254.length co33)) (fun _ hk => hk.2) (.bool t257)) (fun _ hk => ⟨hk.1.1.1, ⟨hk.1.1.2, hk.1.2⟩⟩)⟩, ⟨by (with_reducible repeat (first | refine blk_drewN ?_ _ | refine blk_drew ?_ | refine blk_alloc ?_ _)); refine blk_far ?_ NB245_259.out _; (with_reducible repeat (first | refine blk_drewN ?_ _ | refine blk_drew ?_ | refine blk_alloc ?_ _)); refine blk_far ?_ NB245_259.out _; (with_reducible repeat (first | refine blk_drewN ?_ _ | refine blk_drew ?_ | refine blk_alloc ?_ _)); refine blk_far ?_ NB245_259.out _; (with_reducible repeat (first | refine blk_drewN ?_ _ | refine blk_drew ?_ | refine blk_alloc ?_ _)); exact BK245.out⟩, ⟨by (with_reducible repeat (first | refine blk_drewN ?_ _ | refine blk_drew ?_ | refine blk_alloc ?_ _)); refine blk_far ?_ NB252_259.out _; (with_reducible repeat (first | refine blk_drewN ?_ _ | refine blk_drew ?_ | refine blk_alloc ?_ _)); refine blk_far ?_ NB252_259.out _; (with_reducible repeat (first | refine blk_drewN ?_ _ | refine blk_drew ?_ | refine blk_alloc ?_ _)); refine blk_far ?_ NB252_259.out _; (with_reducible repeat (first | refine blk_drewN ?_ _ | refine blk_drew ?_ | refine blk_alloc ?_ _)); exact BK252.out⟩, ⟨by (with_reducible repeat (first | refine blk_drewN ?_ _ | refine blk_drew ?_ | refine blk_alloc ?_ _)); refine blk_put (cs := #[.int .i64 t253, .slice Ao33 t254.length co33, .bool false]) ?_ 2 _ rfl; (with_reducible repeat (first | refine blk_drewN ?_ _ | refine blk_drew ?_ | refine blk_alloc ?_ _)); refine blk_put (cs := #[.int .i64 t253, .slice none 0 0, .bool false]) ?_ 1 _ rfl; (with_reducible repeat (first | refine blk_drewN ?_ _ | refine blk_drew ?_ | refine blk_alloc ?_ _)); refine blk_put (cs := #[.int .i64 0, .slice none 0 0, .bool false]) ?_ 0 _ rfl; (with_reducible repeat (first | refine blk_drewN ?_ _ | refine blk_drew ?_ | refine blk_alloc ?_ _)); exact BK259.out⟩, ⟨by repeat (first | (with_reducible first | exact HB.out | apply below_alloc | apply pw_below_drewN | apply below_drew1 | refine below_set ?_ GE245.out | refine below_set ?_ GE252.out | refine below_set ?_ GE259.out) | exact HB.out)⟩⟩
        · replace c53 := Bool.eq_false_iff.mpr c53
          subst c53
          have H1 : (godwitlaw07_ChainSees.j0 k a1 a2 t240 false false t242 t246 t247 t250) = some r := by rw [if_neg (show ¬ (false = true) by decide)] at H; exact H
          clear H
          have H := H1
          clear H1
          have H' := Aside0.mk H
          clear H
          go_wp2
          go_meet
          case rel => exact ⟨_, (false), (by first | rfl | (simp; done) | (simp [*]; done)), H', ⟨by first | omega | exact Nat.le_refl _⟩, ⟨by (with_reducible repeat (first | apply Kd.N_alloc | apply Kd.N_drewN | apply Kd.N_drew)); exact Kd.N_mono (Kd.N_far (p := ⟨gb259, 2, none⟩) (Kd.N_far (p := ⟨gb259, 1, none⟩) (Kd.N_far (p := ⟨gb259, 0, none⟩) (Kd.N_mono HO244.out (fun k_ hk => (⟨hk, hk.2⟩ : _ ∧ k_ ≠ gb259))) (fun _ hk => hk.2) (.int .i64 t253)) (fun _ hk => hk.2) (.slice Ao33 t254.length co33)) (fun _ hk => hk.2) (.bool t257)) (fun _ hk => ⟨hk.1.1.1, ⟨hk.1.1.2, hk.1.2⟩⟩)⟩, ⟨by (with_reducible repeat (first | apply Kd.V_alloc | apply Kd.V_drewN | apply Kd.V_drew)); exact Kd.V_mono (Kd.V_far (p := ⟨gb259, 2, none⟩) (Kd.V_far (p := ⟨gb259, 1, none⟩) (Kd.V_far (p := ⟨gb259, 0, none⟩) (Kd.V_mono HO249.out (fun k_ hk => (⟨hk, hk.2⟩ : _ ∧ k_ ≠ gb259))) (fun _ hk => hk.2) (.int .i64 t253)) (fun _ hk => hk.2) (.slice Ao33 t254.length co33)) (fun _ hk => hk.2) (.bool t257)) (fun _ hk => ⟨hk.1.1.1, ⟨hk.1.1.2, hk.1.2⟩⟩)⟩, ⟨by (with_reducible repeat (first | apply Kd.V_alloc | apply Kd.V_drewN | apply Kd.V_drew)); exact Kd.V_mono (Kd.V_far (p := ⟨gb259, 2, none⟩) (Kd.V_far (p := ⟨gb259, 1, none⟩) (Kd.V_far (p := ⟨gb259, 0, none⟩) (Kd.V_mono HO256.out (fun k_ hk => (⟨hk, hk.2⟩ : _ ∧ k_ ≠ gb259))) (fun _ hk => hk.2) (.int .i64 t253)) (fun _ hk => hk.2) (.slice Ao33 t254.length co33)) (fun _ hk => hk.2) (.bool t257)) (fun _ hk => ⟨hk.1.1.1, ⟨hk.1.1.2, hk.1.2⟩⟩)⟩, ⟨by (with_reducible repeat (first | refine blk_drewN ?_ _ | refine blk_drew ?_ | refine blk_alloc ?_ _)); refine blk_far ?_ NB245_259.out _; (with_reducible repeat (first | refine blk_drewN ?_ _ | refine blk_drew ?_ | refine blk_alloc ?_ _)); refine blk_far ?_ NB245_259.out _; (with_reducible repeat (first | refine blk_drewN ?_ _ | refine blk_drew ?_ | refine blk_alloc ?_ _)); refine blk_far ?_ NB245_259.out _; (with_reducible repeat (first | refine blk_drewN ?_ _ | refine blk_drew ?_ | refine blk_alloc ?_ _)); exact BK245.out⟩, ⟨by (with_reducible repeat (first | refine blk_drewN ?_ _ | refine blk_drew ?_ | refine blk_alloc ?_ _)); refine blk_far ?_ NB252_259.out _; (with_reducible repeat (first | refine blk_drewN ?_ _ | refine blk_drew ?_ | refine blk_alloc ?_ _)); refine blk_far ?_ NB252_259.out _; (with_reducible repeat (first | refine blk_drewN ?_ _ | refine blk_drew ?_ | refine blk_alloc ?_ _)); refine blk_far ?_ NB252_259.out _; (with_reducible repeat (first | refine blk_drewN ?_ _ | refine blk_drew ?_ | refine blk_alloc ?_ _)); exact BK252.out⟩, ⟨by (with_reducible repeat (first | refine blk_drewN ?_ _ | refine blk_drew ?_ | refine blk_alloc ?_ _)); refine blk_put (cs := #[.int .i64 t253, .slice Ao33 t254.length co33, .bool false]) ?_ 2 _ rfl; (with_reducible repeat (first | refine blk_drewN ?_ _ | refine blk_drew ?_ | refine blk_alloc ?_ _)); refine blk_put (cs := #[.int .i64 t253, .slice none 0 0, .bool false]) ?_ 1 _ rfl; (with_reducible repeat (first | refine blk_drewN ?_ _ | refine blk_drew ?_ | refine blk_alloc ?_ _)); refine blk_put (cs := #[.int .i64 0, .slice none 0 0, .bool false]) ?_ 0 _ rfl; (with_reducible repeat (first | refine blk_drewN ?_ _ | refine blk_drew ?_ | refine blk_alloc ?_ _)); exact BK259.out⟩, ⟨by repeat (first | (with_reducible first | exact HB.out | apply below_alloc | apply pw_below_drewN | apply below_drew1 | refine below_set ?_ GE245.out | refine below_set ?_ GE252.out | refine below_set ?_ GE259.out) | exact HB.out)⟩⟩
    case rest =>
      clear HC12
      try clear c1
      try clear c2
      try clear p2
      try clear c3
      try clear c4
      try clear c5
      try clear c6
      try clear c8
      try clear c9
      try clear c10
      try clear c14
      try clear c23
      try clear c30
      try clear c31
      try clear c34
      try clear c35
      try clear c36
      try clear c36b0
      try clear c37
      try clear c38
      try clear c40
      try clear c42
      try clear c42b0
      try clear c43
      try clear c44
      try clear c46
      try clear c48
      try clear c49
      try clear c51
      try clear c53
      try clear c54
      try clear c55
      try clear hcz18_0
      try clear hcz20_0
      try clear hcz24_0
      try clear hcz24_1
      try clear hcz24_2
      try clear hcz27_0
      try clear hcz32_0
      try clear hcz32_1
      try clear hcz32_2
      try clear hcz39_0
      try clear hcz39_1
      try clear hcz39_2
      try clear hcz41_0
      try clear hcz41_1
      try clear hcz41_2
      try clear hcz45_0
      try clear hcz45_1
      try clear hcz45_2
      try clear hcz47_0
      try clear hcz47_1
      try clear hcz47_2
      try clear hcz50_0
      try clear hcz50_1
      try clear hcz50_2
      try clear hcz52_0
      try clear hcz52_1
      try clear hcz52_2
      try clear hcz56_0
      try clear hcz56_1
      try clear hcz56_2
      try clear hfz18_0
      try clear hfz20_0
      try clear hfz24_0
      try clear hfz24_1
      try clear hfz24_2
      try clear hfz27_0
      try clear hfz32_0
      try clear hfz32_1
      try clear hfz32_2
      try clear hfz39_0
      try clear hfz39_1
      try clear hfz39_2
      try clear hfz41_0
      try clear hfz41_1
      try clear hfz41_2
      try clear hfz45_0
      try clear hfz45_1
      try clear hfz45_2
      try clear hfz47_0
      try clear hfz47_1
      try clear hfz47_2
      try clear hfz50_0
      try clear hfz50_1
      try clear hfz50_2
      try clear hfz52_0
      try clear hfz52_1
      try clear hfz52_2
      try clear hfz56_0
      try clear hfz56_1
      try clear hfz56_2
      obtain ⟨kq, x68_11, rfl, HA, HJ11, HO_246000, HO_253001, HO_260001, BK245, BK252, BK259, HB⟩ := hcut
      cases kq with
      | zero => exact absurd HA.out (by simp [godwitlaw07_ChainSees.j0])
      | succ kj11 =>
        have H := HA.out
        clear HA
        simp only [godwitlaw07_ChainSees.j0] at H
        by_cases c57 : x68_11 = true
        · subst c57
          have H1 : (none) = some r := by rw [if_pos rfl] at H; exact H
          clear H
          have H := H1
          clear H1
          exact absurd H (by simp)
        · replace c57 := Bool.eq_false_iff.mpr c57
          subst c57
          have H1 : (godwitlaw07_ChainSees.l0 kj11 a1 a2 t240 t251 0 t242 t246 t247 t250) = some r := by rw [if_neg (show ¬ (false = true) by decide)] at H; exact H
          clear H
          have H := H1
          clear H1
          have H' := Aside0.mk H
          clear H
          go_wp2
          go_loopg [13] kj11 (fun kq v13 w' => ∃ (x13_2 : Int), v13 = .int .i64 x13_2 ∧ Aside0 (godwitlaw07_ChainSees.l0 kq a1 a2 t240 t251 x13_2 t242 t246 t247 t250 = some r) ∧ Aside0 (kq ≤ kj11) ∧ Aside0 (Kd.N k37 37 w' w.heap.size (fun k_ => k_ ≠ gb245 ∧ k_ ≠ gb252 ∧ k_ ≠ gb259) (.slice Ao17 t242.length co17) t242) ∧ Aside0 (Kd.V (Kd.int .u8) 5 w' w.heap.size (fun k_ => k_ ≠ gb245 ∧ k_ ≠ gb252 ∧ k_ ≠ gb259) (.slice Ao25 t247.length co25) t247) ∧ Aside0 (Kd.V (Kd.int .u8) 5 w' w.heap.size (fun k_ => k_ ≠ gb245 ∧ k_ ≠ gb252 ∧ k_ ≠ gb259) (.slice Ao33 t254.length co33) t254) ∧ Aside0 (w'.heap[gb245]? = some (.cells #[(.slice Ao17 t242.length co17)] 29 (0, 0))) ∧ Aside0 (w'.heap[gb252]? = some (.cells #[.int .i64 t246, (.slice Ao25 t247.length co25), .bool t250] 37 (0, 0))) ∧ Aside0 (w'.heap[gb259]? = some (.cells #[.int .i64 t253, (.slice Ao33 t254.length co33), .bool t257] 37 (0, 0))) ∧ Aside0 (Below w.heap.size w w'))
          case atStart => exact ⟨(0), (by first | rfl | (simp; done) | (simp [*]; done)), H', ⟨Nat.le_refl _⟩, ⟨by (with_reducible repeat (first | apply Kd.N_alloc | apply Kd.N_drewN | apply Kd.N_drew)); exact HO_246000.out⟩, ⟨by (with_reducible repeat (first | apply Kd.V_alloc | apply Kd.V_drewN | apply Kd.V_drew)); exact HO_253001.out⟩, ⟨by (with_reducible repeat (first | apply Kd.V_alloc | apply Kd.V_drewN | apply Kd.V_drew)); exact HO_260001.out⟩, ⟨by (with_reducible repeat (first | refine blk_drewN ?_ _ | refine blk_drew ?_ | refine blk_alloc ?_ _)); exact BK245.out⟩, ⟨by (with_reducible repeat (first | refine blk_drewN ?_ _ | refine blk_drew ?_ | refine blk_alloc ?_ _)); exact BK252.out⟩, ⟨by (with_reducible repeat (first | refine blk_drewN ?_ _ | refine blk_drew ?_ | refine blk_alloc ?_ _)); exact BK259.out⟩, ⟨by repeat (first | (with_reducible first | exact HB.out | apply below_alloc | apply pw_below_drewN | apply below_drew1 | refine below_set ?_ GE245.out | refine below_set ?_ GE252.out | refine below_set ?_ GE259.out) | exact HB.out)⟩⟩
          case round =>
            clear H'
            try clear c1
            try clear c2
            try clear p2
            try clear c3
            try clear c4
            try clear c5
            try clear c6
            try clear c8
            try clear c9
            try clear c10
            try clear c14
            try clear c23
            try clear c30
            try clear c31
            try clear c34
            try clear c35
            try clear c36
            try clear c36b0
            try clear c37
            try clear c38
            try clear c40
            try clear c42
            try clear c42b0
            try clear c43
            try clear c44
            try clear c46
            try clear c48
            try clear c49
            try clear c51
            try clear c53
            try clear c54
            try clear c55
            try clear c57
            try clear hcz18_0
            try clear hcz20_0
            try clear hcz24_0
            try clear hcz24_1
            try clear hcz24_2
            try clear hcz27_0
            try clear hcz32_0
            try clear hcz32_1
            try clear hcz32_2
            try clear hcz39_0
            try clear hcz39_1
            try clear hcz39_2
            try clear hcz41_0
            try clear hcz41_1
            try clear hcz41_2
            try clear hcz45_0
            try clear hcz45_1
            try clear hcz45_2
            try clear hcz47_0
            try clear hcz47_1
            try clear hcz47_2
            try clear hcz50_0
            try clear hcz50_1
            try clear hcz50_2
            try clear hcz52_0
            try clear hcz52_1
            try clear hcz52_2
            try clear hcz56_0
            try clear hcz56_1
            try clear hcz56_2
            try clear hfz18_0
            try clear hfz20_0
            try clear hfz24_0
            try clear hfz24_1
            try clear hfz24_2
            try clear hfz27_0
            try clear hfz32_0
            try clear hfz32_1
            try clear hfz32_2
            try clear hfz39_0
            try clear hfz39_1
            try clear hfz39_2
            try clear hfz41_0
            try clear hfz41_1
            try clear hfz41_2
            try clear hfz45_0
            try clear hfz45_1
            try clear hfz45_2
            try clear hfz47_0
            try clear hfz47_1
            try clear hfz47_2
            try clear hfz50_0
            try clear hfz50_1
            try clear hfz50_2
            try clear hfz52_0
            try clear hfz52_1
            try clear hfz52_2
            try clear hfz56_0
            try clear hfz56_1
            try clear hfz56_2
            try clear p2
            obtain ⟨x13_2, rfl, HA, HK2, HO_246000, HO_253001, HO_260001, BK245, BK252, BK259, HB⟩ := hrel
            cases gk with
            | zero => exact absurd HA.out (by simp [godwitlaw07_ChainSees.l0])
            | succ k2 =>
              have H := HA.out
              clear HA
              simp only [godwitlaw07_ChainSees.l0] at H
              by_cases c58 : x13_2 < (t242.length : Int)
              · rw [if_pos c58] at H
                have c58b0 : decide (x13_2 < (t242.length : Int)) = true := decide_eq_true c58
                clear c58
                have HC59 := Aside0.mk H
                clear H
                have hnb60 := NB245_252.out
                have hnc60 := NB252_245.out
                have hnb61 := NB245_259.out
                have hnc61 := NB259_245.out
                have hcz62_0 : wr.cell? ⟨gb245, 0, none⟩ = some (.slice Ao17 t242.length co17) := (blk_cell BK245.out 0).trans rfl
                have hfz62_0 := blk_frozen BK245.out 0
                go_upto_region 12 with (fail)
                go_cut [100] (fun v100 wc => ∃ (kq : Nat) (x100_58 : Bool), v100 = .bool x100_58 ∧ Aside0 (godwitlaw07_ChainSees.j2 kq a1 a2 t240 t251 x13_2 x100_58 t242 t246 t247 t250 = some r) ∧ Aside0 (kq ≤ k2) ∧ Aside0 (Kd.N k37 37 wc w.heap.size (fun k_ => k_ ≠ gb245 ∧ k_ ≠ gb252 ∧ k_ ≠ gb259) (.slice Ao17 t242.length co17) t242) ∧ Aside0 (Kd.V (Kd.int .u8) 5 wc w.heap.size (fun k_ => k_ ≠ gb245 ∧ k_ ≠ gb252 ∧ k_ ≠ gb259) (.slice Ao25 t247.length co25) t247) ∧ Aside0 (Kd.V (Kd.int .u8) 5 wc w.heap.size (fun k_ => k_ ≠ gb245 ∧ k_ ≠ gb252 ∧ k_ ≠ gb259) (.slice Ao33 t254.length co33) t254) ∧ Aside0 (wc.heap[gb245]? = some (.cells #[(.slice Ao17 t242.length co17)] 29 (0, 0))) ∧ Aside0 (wc.heap[gb252]? = some (.cells #[.int .i64 t246, (.slice Ao25 t247.length co25), .bool t250] 37 (0, 0))) ∧ Aside0 (wc.heap[gb259]? = some (.cells #[.int .i64 t253, (.slice Ao33 t254.length co33), .bool t257] 37 (0, 0))) ∧ Aside0 (Below w.heap.size w wc))
                case first =>
                  have H := HC59.out
                  clear HC59
                  by_cases c63 : 0 ≤ x13_2
                  · rw [if_pos c63] at H
                    have c63b0 : decide (0 ≤ x13_2) = true := decide_eq_true c63
                    clear c63
                    (first | rw [c63b0] | (simp only [i64_w, i32_w]; rw [c63b0]) | skip)
                    obtain ⟨ji64, hji64⟩ : ∃ j_ : Int, (mn a1 a2) = j_ := ⟨_, rfl⟩
                    replace H : (if ((rd_T37 t242 x13_2).f0) ≤ (ji64) then (if t251 = true then (godwitlaw07_ChainSees.j2 k2 a1 a2 t240 t251 x13_2 (decide (((rd_T37 t242 x13_2).f0) > t246)) t242 t246 t247 t250) else (godwitlaw07_ChainSees.j2 k2 a1 a2 t240 t251 x13_2 true t242 t246 t247 t250)) else (godwitlaw07_ChainSees.j2 k2 a1 a2 t240 t251 x13_2 false t242 t246 t247 t250)) = some r := by first | (rw [hji64] at H; exact H) | (simp only [hji64] at H ⊢; exact H)
                    (try clear hji8_); have hji64_ : (if a2 < a1 then a2 else a1) = ji64 := hji64
                    by_cases c65 : ((rd_T37 t242 x13_2).f0) ≤ (ji64)
                    · rw [if_pos c65] at H
                      have c65b0 : decide (((rd_T37 t242 x13_2).f0) ≤ (ji64)) = true := decide_eq_true c65
                      clear c65
                      by_cases c66 : t251 = true
                      · subst c66
                        have H1 : (godwitlaw07_ChainSees.j2 k2 a1 a2 t240 true x13_2 (decide (((rd_T37 t242 x13_2).f0) > t246)) t242 t246 t247 t250) = some r := by rw [if_pos rfl] at H; exact H
                        clear H
                        have H := H1
                        clear H1
                        have H' := Aside0.mk H
                        clear H
                        try go_wp2
                        have n0_ := Aside0.mk (Kd.N_drew HO_246000.out)
                        have n1_ := Aside0.mk (Kd.V_drew HO_253001.out)
                        have n2_ := Aside0.mk (Kd.V_drew HO_260001.out)
                        have n3_ := Aside0.mk (blk_drew BK245.out)
                        have n4_ := Aside0.mk (blk_drew BK252.out)
                        have n5_ := Aside0.mk (blk_drew BK259.out)
                        have n6_ := Aside0.mk (below_drew1 HB.out)
                        clear HO_246000
                        clear HO_253001
                        clear HO_260001
                        clear BK245
                        clear BK252
                        clear BK259
                        clear HB
                        have HO_246000 := n0_
                        have HO_253001 := n1_
                        have HO_260001 := n2_
                        have BK245 := n3_
                        have BK252 := n4_
                        have BK259 := n5_
                        have HB := n6_
                        clear n0_ n1_ n2_ n3_ n4_ n5_ n6_
                        have p260 : 0 ≤ (x13_2 : Int) := of_decide_eq_true (by first | (with_reducible assumption) | assumption)
                        have q260 : x13_2 < (t242.length : Int) := of_decide_eq_true (by first | (with_reducible assumption) | assumption)
                        obtain ⟨ad260, A260_1, c260_1, e260, hx260_0, hx260_1, hx260_2, hl260_1, hi260_1⟩ := at_T37 (Kd.N_reads' HO_246000.out).2.2 x13_2 p260 q260
                        cases e260
                        obtain ⟨ce260, hce260, hMe260, hcc260⟩ := Kd.N_get HO_246000.out z37 x13_2 p260 (by first | exact q260 | exact of_decide_eq_true (by first | (with_reducible assumption) | assumption) | (have e_ := (Kd.N_reads' HO_246000.out).1; omega))
                        obtain ⟨ua260_1, uc260_1, rfl, ul260_1, ge260_1⟩ := k37_openF hMe260
                        have hv260_1 := hcc260 1 _ rfl
                        rw [add_field _ _ 1 (by omega)] at hv260_1
                        replace hv260_1 := Option.some.inj (hv260_1.symm.trans hx260_1)
                        injection hv260_1 with hva_ hvn_ hvc_
                        rw [hva_] at ge260_1
                        rw [hvc_] at ul260_1
                        have HL260_1 := Aside0.mk (show Kd.V (Kd.int .u8) 5 _ w.heap.size _ _ ((rd_T37 t242 x13_2).f1) from Kd.V_mk ul260_1 ge260_1)
                        clear hva_ hvn_ hvc_ ge260_1 ul260_1
                        clear hcc260 hce260
                        have HR260_1 := Aside0.mk hi260_1
                        have HC260_1 := Aside0.mk hl260_1
                        clear hi260_1 hl260_1
                        replace p260 := eq_true p260
                        replace q260 := eq_true q260
                        have p261 : 0 ≤ (x13_2 : Int) := of_decide_eq_true (by first | (with_reducible assumption) | assumption)
                        have q261 : x13_2 < (t242.length : Int) := of_decide_eq_true (by first | (with_reducible assumption) | assumption)
                        obtain ⟨ad261, A261_1, c261_1, e261, hx261_0, hx261_1, hx261_2, hl261_1, hi261_1⟩ := at_T37 (Kd.N_reads' HO_246000.out).2.2 x13_2 p261 q261
                        obtain rfl : ad260 = ad261 := (by injection e261)
                        obtain ⟨ce261, hce261, hMe261, hcc261⟩ := Kd.N_get HO_246000.out z37 x13_2 p261 (by first | exact q261 | exact of_decide_eq_true (by first | (with_reducible assumption) | assumption) | (have e_ := (Kd.N_reads' HO_246000.out).1; omega))
                        obtain ⟨ua261_1, uc261_1, rfl, ul261_1, ge261_1⟩ := k37_openF hMe261
                        have hv261_1 := hcc261 1 _ rfl
                        rw [add_field _ _ 1 (by omega)] at hv261_1
                        replace hv261_1 := Option.some.inj (hv261_1.symm.trans hx261_1)
                        injection hv261_1 with hva_ hvn_ hvc_
                        rw [hva_] at ge261_1
                        rw [hvc_] at ul261_1
                        have HL261_1 := Aside0.mk (show Kd.V (Kd.int .u8) 5 _ w.heap.size _ _ ((rd_T37 t242 x13_2).f1) from Kd.V_mk ul261_1 ge261_1)
                        clear hva_ hvn_ hvc_ ge261_1 ul261_1
                        clear hcc261 hce261
                        have HR261_1 := Aside0.mk hi261_1
                        have HC261_1 := Aside0.mk hl261_1
                        clear hi261_1 hl261_1
                        replace p261 := eq_true p261
                        replace q261 := eq_true q261
                        have ea_ := Option.some.inj (hx260_1.symm.trans hx261_1)
                        injection ea_ with ea_ en_ ec_
                        subst ea_
                        subst ec_
                        clear en_
                        refine start_ (n := 25) (S := fun w' => w'.cell? ⟨gb245, 0, none⟩ = some (.slice (some ad260) t242.length co17) ∧ w'.cell? ⟨gb252, 0, none⟩ = some (.int .i64 t246) ∧ w'.cell? ⟨gb252, 1, none⟩ = some (.slice Ao25 t247.length co25) ∧ w'.cell? ⟨gb252, 2, none⟩ = some (.bool t250) ∧ w'.cell? (ad260.add ((x13_2).toNat * 3)) = some (.int .i64 ((rd_T37 t242 x13_2).f0)) ∧ w'.cell? ⟨(ad260.add ((x13_2).toNat * 3)).block, (ad260.add ((x13_2).toNat * 3)).off + 1, none⟩ = some (.slice A260_1 ((rd_T37 t242 x13_2).f1).length c260_1) ∧ w'.cell? ⟨(ad260.add ((x13_2).toNat * 3)).block, (ad260.add ((x13_2).toNat * 3)).off + 2, none⟩ = some (.bool ((rd_T37 t242 x13_2).f2)) ∧ w'.cell? (ad260.add ((x13_2).toNat * 3)) = some (.int .i64 ((rd_T37 t242 x13_2).f0)) ∧ w'.cell? ⟨(ad260.add ((x13_2).toNat * 3)).block, (ad260.add ((x13_2).toNat * 3)).off + 1, none⟩ = some (.slice A260_1 ((rd_T37 t242 x13_2).f1).length c260_1) ∧ w'.cell? ⟨(ad260.add ((x13_2).toNat * 3)).block, (ad260.add ((x13_2).toNat * 3)).off + 2, none⟩ = some (.bool ((rd_T37 t242 x13_2).f2))) (ds := []) #[false, false, false, false, false, false, false, false, false, false, false, false, false, false, false, false, false, false, false, false, false, false, false, false, false] (by kernel_rfl) rfl rfl ⟨(blk_cell BK245.out 0).trans rfl, (blk_cell BK252.out 0).trans rfl, (blk_cell BK252.out 1).trans rfl, (blk_cell BK252.out 2).trans rfl, hx260_0, hx260_1, hx260_2, hx261_0, hx261_1, hx261_2⟩ (fun hHeld => ?_); refine with_tabW godwitlaw07_ChainSees.tab12 godwitlaw07_ChainSees.bits12 (fun HT_ HW_ => ?_)
                        generalize wr.drew = w67 at HO_246000 HO_253001 HO_260001 BK245 BK252 BK259 HB HL260_1 HL261_1 HR260_1 HR261_1 hx260_0 hx260_1 hx260_2 hx261_0 hx261_1 hx261_2 hHeld ⊢
                        refine pure_ (i := 0) (N := some 76) (v := ?_) (a' := ?_) #[true, false, false, false, false, false, false, false, false, false, false, false, false, false, false, false, false, false, false, false, false, false, false, false, false] rfl rfl (any_of HT_.out (by kernel_rfl)) (fun _ _ _ h => h) (Or.inl ⟨by rfl, ?_⟩) ?_ ?_
                        rotate_left
                        · intro w'
                          go_simp
                          with_reducible rfl
                        rotate_left
                        · simp only [Act.put, List.setIfInBounds_toArray, List.set_cons_zero, List.set_cons_succ, i64_w, i32_w]
                          rfl
                        refine pure_ (i := 2) (N := some 78) (v := ?_) (a' := ?_) #[true, false, true, false, false, false, false, false, false, false, false, false, false, false, false, false, false, false, false, false, false, false, false, false, false] rfl rfl (any_of HT_.out (by kernel_rfl)) (fun _ _ _ h => h) (Or.inl ⟨by rfl, ?_⟩) ?_ ?_
                        rotate_left
                        · intro w'
                          go_simp
                          with_reducible rfl
                        rotate_left
                        · simp only [Act.put, List.setIfInBounds_toArray, List.set_cons_zero, List.set_cons_succ, i64_w, i32_w]
                          rfl
                        refine pure_ (i := 6) (N := some 82) (v := ?_) (a' := ?_) #[true, false, true, false, false, false, true, false, false, false, false, false, false, false, false, false, false, false, false, false, false, false, false, false, false] rfl rfl (any_of HT_.out (by kernel_rfl)) (fun _ _ _ h => h) (Or.inl ⟨by rfl, ?_⟩) ?_ ?_
                        rotate_left
                        · intro w'
                          go_simp
                          with_reducible rfl
                        rotate_left
                        · simp only [Act.put, List.setIfInBounds_toArray, List.set_cons_zero, List.set_cons_succ, i64_w, i32_w]
                          rfl
                        refine pure_ (i := 7) (N := some 83) (v := ?_) (a' := ?_) #[true, false, true, false, false, false, true, true, false, false, false, false, false, false, false, false, false, false, false, false, false, false, false, false, false] rfl rfl (any_of HT_.out (by kernel_rfl)) (fun _ _ _ h => h) (Or.inl ⟨by rfl, ?_⟩) ?_ ?_
                        rotate_left
                        · intro w'
                          go_simp
                          with_reducible rfl
                        rotate_left
                        · simp only [Act.put, List.setIfInBounds_toArray, List.set_cons_zero, List.set_cons_succ, i64_w, i32_w]
                          rfl
                        refine pure_ (i := 8) (N := some 84) (v := ?_) (a' := ?_) #[true, false, true, false, false, false, true, true, true, false, false, false, false, false, false, false, false, false, false, false, false, false, false, false, false] rfl rfl (any_of HT_.out (by kernel_rfl)) (fun _ _ _ h => h) (Or.inl ⟨by rfl, ?_⟩) ?_ ?_
                        rotate_left
                        · intro w'
                          go_simp
                          with_reducible rfl
                        rotate_left
                        · simp only [Act.put, List.setIfInBounds_toArray, List.set_cons_zero, List.set_cons_succ, i64_w, i32_w]
                          rfl
                        refine take_ (i := 1) (N := some 77) (v := ?_) (a' := ?_) #[true, true, true, false, false, false, true, true, true, false, false, false, false, false, false, false, false, false, false, false, false, false, false, false, false] rfl rfl (take_ofW HT_.out HW_.out (by kernel_rfl)) (fun _ _ _ h => h) (Or.inl ⟨by rfl, ?_⟩) hHeld ?_ ?_
                        rotate_left
                        · rintro w' ⟨s0, s1, s2, s3, s4, s5, s6, s7, s8, s9⟩
                          go_simp
                          with_reducible rfl
                        rotate_left
                        · simp only [Act.put, List.setIfInBounds_toArray, List.set_cons_zero, List.set_cons_succ, i64_w, i32_w]
                          rfl
                        refine pure_ (i := 3) (N := some 79) (v := ?_) (a' := ?_) #[true, true, true, true, false, false, true, true, true, false, false, false, false, false, false, false, false, false, false, false, false, false, false, false, false] rfl rfl (any_of HT_.out (by kernel_rfl)) (fun _ _ _ h => h) (Or.inl ⟨by rfl, ?_⟩) ?_ ?_
                        rotate_left
                        · intro w'
                          go_simp
                          with_reducible rfl
                        rotate_left
                        · simp only [Act.put, List.setIfInBounds_toArray, List.set_cons_zero, List.set_cons_succ, i64_w, i32_w]
                          rfl
                        refine pure_ (i := 4) (N := some 80) (v := ?_) (a' := ?_) #[true, true, true, true, true, false, true, true, true, false, false, false, false, false, false, false, false, false, false, false, false, false, false, false, false] rfl rfl (any_of HT_.out (by kernel_rfl)) (fun _ _ _ h => h) (Or.inl ⟨by rfl, ?_⟩) ?_ ?_
                        rotate_left
                        · intro w'
                          go_simp
                          with_reducible rfl
                        rotate_left
                        · simp only [Act.put, List.setIfInBounds_toArray, List.set_cons_zero, List.set_cons_succ, i64_w, i32_w]
                          rfl
                        refine take_ (i := 5) (N := some 81) (v := ?_) (a' := ?_) #[true, true, true, true, true, true, true, true, true, false, false, false, false, false, false, false, false, false, false, false, false, false, false, false, false] rfl rfl (take_ofW HT_.out HW_.out (by kernel_rfl)) (fun _ _ _ h => h) (Or.inl ⟨by rfl, ?_⟩) hHeld ?_ ?_
                        rotate_left
                        · rintro w' ⟨s0, s1, s2, s3, s4, s5, s6, s7, s8, s9⟩
                          go_simp
                          with_reducible rfl
                        rotate_left
                        · simp only [Act.put, List.setIfInBounds_toArray, List.set_cons_zero, List.set_cons_succ, i64_w, i32_w]
                          rfl
                        refine pure_ (i := 9) (N := some 85) (v := ?_) (a' := ?_) #[true, true, true, true, true, true, true, true, true, true, false, false, false, false, false, false, false, false, false, false, false, false, false, false, false] rfl rfl (any_of HT_.out (by kernel_rfl)) (fun _ _ _ h => h) (Or.inl ⟨by rfl, ?_⟩) ?_ ?_
                        rotate_left
                        · intro w'
                          go_simp
                          with_reducible rfl
                        rotate_left
                        · simp only [Act.put, List.setIfInBounds_toArray, List.set_cons_zero, List.set_cons_succ, i64_w, i32_w]
                          rfl
                        refine pure_ (i := 10) (N := some 86) (v := ?_) (a' := ?_) #[true, true, true, true, true, true, true, true, true, true, true, false, false, false, false, false, false, false, false, false, false, false, false, false, false] rfl rfl (any_of HT_.out (by kernel_rfl)) (fun _ _ _ h => h) (Or.inl ⟨by rfl, ?_⟩) ?_ ?_
                        rotate_left
                        · intro w'
                          go_simp
                          with_reducible rfl
                        rotate_left
                        · simp only [Act.put, List.setIfInBounds_toArray, List.set_cons_zero, List.set_cons_succ, i64_w, i32_w]
                          rfl
                        refine pure_ (i := 11) (N := some 87) (v := ?_) (a' := ?_) #[true, true, true, true, true, true, true, true, true, true, true, true, false, false, false, false, false, false, false, false, false, false, false, false, false] rfl rfl (any_of HT_.out (by kernel_rfl)) (fun _ _ _ h => h) (Or.inl ⟨by rfl, ?_⟩) ?_ ?_
                        rotate_left
                        · intro w'
                          go_simp
                          with_reducible rfl
                        rotate_left
                        · simp only [Act.put, List.setIfInBounds_toArray, List.set_cons_zero, List.set_cons_succ, i64_w, i32_w]
                          rfl
                        refine pure_ (i := 12) (N := some 88) (v := ?_) (a' := ?_) #[true, true, true, true, true, true, true, true, true, true, true, true, true, false, false, false, false, false, false, false, false, false, false, false, false] rfl rfl (any_of HT_.out (by kernel_rfl)) (fun _ _ _ h => h) (Or.inl ⟨by rfl, ?_⟩) ?_ ?_
                        rotate_left
                        · intro w'
                          go_simp
                          with_reducible rfl
                        rotate_left
                        · simp only [Act.put, List.setIfInBounds_toArray, List.set_cons_zero, List.set_cons_succ, i64_w, i32_w]
                          rfl
                        refine pure_ (i := 13) (N := some 89) (v := ?_) (a' := ?_) #[true, true, true, true, true, true, true, true, true, true, true, true, true, true, false, false, false, false, false, false, false, false, false, false, false] rfl rfl (any_of HT_.out (by kernel_rfl)) (fun _ _ _ h => h) (Or.inl ⟨by rfl, ?_⟩) ?_ ?_
                        rotate_left
                        · intro w'
                          go_simp
                          with_reducible rfl
                        rotate_left
                        · simp only [Act.put, List.setIfInBounds_toArray, List.set_cons_zero, List.set_cons_succ, i64_w, i32_w]
                          rfl
                        refine pure_ (i := 14) (N := some 90) (v := ?_) (a' := ?_) #[true, true, true, true, true, true, true, true, true, true, true, true, true, true, true, false, false, false, false, false, false, false, false, false, false] rfl rfl (any_of HT_.out (by kernel_rfl)) (fun _ _ _ h => h) (Or.inl ⟨by rfl, ?_⟩) ?_ ?_
                        rotate_left
                        · intro w'
                          go_simp
                          with_reducible rfl
                        rotate_left
                        · simp only [Act.put, List.setIfInBounds_toArray, List.set_cons_zero, List.set_cons_succ, i64_w, i32_w]
                          rfl
                        refine pure_ (i := 16) (N := some 92) (v := ?_) (a' := ?_) #[true, true, true, true, true, true, true, true, true, true, true, true, true, true, true, false, true, false, false, false, false, false, false, false, false] rfl rfl (any_of HT_.out (by kernel_rfl)) (fun _ _ _ h => h) (Or.inl ⟨by rfl, ?_⟩) ?_ ?_
                        rotate_left
                        · intro w'
                          go_simp
                          with_reducible rfl
                        rotate_left
                        · simp only [Act.put, List.setIfInBounds_toArray, List.set_cons_zero, List.set_cons_succ, i64_w, i32_w]
                          rfl
                        refine pure_ (i := 20) (N := some 96) (v := ?_) (a' := ?_) #[true, true, true, true, true, true, true, true, true, true, true, true, true, true, true, false, true, false, false, false, true, false, false, false, false] rfl rfl (any_of HT_.out (by kernel_rfl)) (fun _ _ _ h => h) (Or.inl ⟨by rfl, ?_⟩) ?_ ?_
                        rotate_left
                        · intro w'
                          go_simp
                          with_reducible rfl
                        rotate_left
                        · simp only [Act.put, List.setIfInBounds_toArray, List.set_cons_zero, List.set_cons_succ, i64_w, i32_w]
                          rfl
                        refine take_ (i := 15) (N := some 91) (v := ?_) (a' := ?_) #[true, true, true, true, true, true, true, true, true, true, true, true, true, true, true, true, true, false, false, false, true, false, false, false, false] rfl rfl (take_ofW HT_.out HW_.out (by kernel_rfl)) (fun _ _ _ h => h) (Or.inl ⟨by rfl, ?_⟩) hHeld ?_ ?_
                        rotate_left
                        · rintro w' ⟨s0, s1, s2, s3, s4, s5, s6, s7, s8, s9⟩
                          go_simp
                          with_reducible rfl
                        rotate_left
                        · simp only [Act.put, List.setIfInBounds_toArray, List.set_cons_zero, List.set_cons_succ, i64_w, i32_w]
                          rfl
                        refine pure_ (i := 17) (N := some 93) (v := ?_) (a' := ?_) #[true, true, true, true, true, true, true, true, true, true, true, true, true, true, true, true, true, true, false, false, true, false, false, false, false] rfl rfl (any_of HT_.out (by kernel_rfl)) (fun _ _ _ h => h) (Or.inl ⟨by rfl, ?_⟩) ?_ ?_
                        rotate_left
                        · intro w'
                          go_simp
                          with_reducible rfl
                        rotate_left
                        · simp only [Act.put, List.setIfInBounds_toArray, List.set_cons_zero, List.set_cons_succ, i64_w, i32_w]
                          rfl
                        refine pure_ (i := 18) (N := some 94) (v := ?_) (a' := ?_) #[true, true, true, true, true, true, true, true, true, true, true, true, true, true, true, true, true, true, true, false, true, false, false, false, false] rfl rfl (any_of HT_.out (by kernel_rfl)) (fun _ _ _ h => h) (Or.inl ⟨by rfl, ?_⟩) ?_ ?_
                        rotate_left
                        · intro w'
                          go_simp
                          with_reducible rfl
                        rotate_left
                        · simp only [Act.put, List.setIfInBounds_toArray, List.set_cons_zero, List.set_cons_succ, i64_w, i32_w]
                          rfl
                        refine take_ (i := 19) (N := some 95) (v := ?_) (a' := ?_) #[true, true, true, true, true, true, true, true, true, true, true, true, true, true, true, true, true, true, true, true, true, false, false, false, false] rfl rfl (take_ofW HT_.out HW_.out (by kernel_rfl)) (fun _ _ _ h => h) (Or.inl ⟨by rfl, ?_⟩) hHeld ?_ ?_
                        rotate_left
                        · rintro w' ⟨s0, s1, s2, s3, s4, s5, s6, s7, s8, s9⟩
                          go_simp
                          with_reducible rfl
                        rotate_left
                        · simp only [Act.put, List.setIfInBounds_toArray, List.set_cons_zero, List.set_cons_succ, i64_w, i32_w]
                          rfl
                        refine take_ (i := 21) (N := some 97) (v := ?_) (a' := ?_) #[true, true, true, true, true, true, true, true, true, true, true, true, true, true, true, true, true, true, true, true, true, true, false, false, false] rfl rfl (take_ofW HT_.out HW_.out (by kernel_rfl)) (fun _ _ _ h => h) (Or.inl ⟨by rfl, ?_⟩) hHeld ?_ ?_
                        rotate_left
                        · rintro w' ⟨s0, s1, s2, s3, s4, s5, s6, s7, s8, s9⟩
                          go_simp
                          with_reducible rfl
                        rotate_left
                        · simp only [Act.put, List.setIfInBounds_toArray, List.set_cons_zero, List.set_cons_succ, i64_w, i32_w]
                          rfl
                        refine pure_ (i := 22) (N := some 98) (v := ?_) (a' := ?_) #[true, true, true, true, true, true, true, true, true, true, true, true, true, true, true, true, true, true, true, true, true, true, true, false, false] rfl rfl (any_of HT_.out (by kernel_rfl)) (fun _ _ _ h => h) (Or.inl ⟨by rfl, ?_⟩) ?_ ?_
                        rotate_left
                        · intro w'
                          go_simp
                          with_reducible rfl
                        rotate_left
                        · simp only [Act.put, List.setIfInBounds_toArray, List.set_cons_zero, List.set_cons_succ, i64_w, i32_w]
                          rfl
                        refine pure_ (i := 23) (N := some 99) (v := ?_) (a' := ?_) #[true, true, true, true, true, true, true, true, true, true, true, true, true, true, true, true, true, true, true, true, true, true, true, true, false] rfl rfl (any_of HT_.out (by kernel_rfl)) (fun _ _ _ h => h) (Or.inl ⟨by rfl, ?_⟩) ?_ ?_
                        rotate_left
                        · intro w'
                          go_simp
                          with_reducible rfl
                        rotate_left
                        · simp only [Act.put, List.setIfInBounds_toArray, List.set_cons_zero, List.set_cons_succ, i64_w, i32_w]
                          rfl
                        refine pure_ (i := 24) (N := some 100) (v := ?_) (a' := ?_) #[true, true, true, true, true, true, true, true, true, true, true, true, true, true, true, true, true, true, true, true, true, true, true, true, true] rfl rfl (any_of HT_.out (by kernel_rfl)) (fun _ _ _ h => h) (Or.inl ⟨by rfl, ?_⟩) ?_ ?_
                        rotate_left
                        · intro w'
                          go_simp
                          with_reducible rfl
                        rotate_left
                        · simp only [Act.put, List.setIfInBounds_toArray, List.set_cons_zero, List.set_cons_succ, i64_w, i32_w]
                          rfl
                        refine done_ (done_of HT_.out (by kernel_rfl)) ?_
                        try go_wp2
                        go_meet
                        case rel => exact ⟨_, (decide (((rd_T37 t242 x13_2).f0) > t246)), (by first | rfl | (simp; done) | (simp [*]; done)), H', ⟨by have := HJ11.out; have := HK2.out; first | omega | exact Nat.le_refl _⟩, ⟨by (with_reducible repeat (first | apply Kd.N_alloc | apply Kd.N_drewN | apply Kd.N_drew)); exact HO_246000.out⟩, ⟨by (with_reducible repeat (first | apply Kd.V_alloc | apply Kd.V_drewN | apply Kd.V_drew)); exact HO_253001.out⟩, ⟨by (with_reducible repeat (first | apply Kd.V_alloc | apply Kd.V_drewN | apply Kd.V_drew)); exact HO_260001.out⟩, ⟨by (with_reducible repeat (first | refine blk_drewN ?_ _ | refine blk_drew ?_ | refine blk_alloc ?_ _)); exact BK245.out⟩, ⟨by (with_reducible repeat (first | refine blk_drewN ?_ _ | refine blk_drew ?_ | refine blk_alloc ?_ _)); exact BK252.out⟩, ⟨by (with_reducible repeat (first | refine blk_drewN ?_ _ | refine blk_drew ?_ | refine blk_alloc ?_ _)); exact BK259.out⟩, ⟨by repeat (first | (with_reducible first | exact HB.out | apply below_alloc | apply pw_below_drewN | apply below_drew1 | refine below_set ?_ GE245.out | refine below_set ?_ GE252.out | refine below_set ?_ GE259.out) | exact HB.out)⟩⟩
                      · replace c66 := Bool.eq_false_iff.mpr c66
                        subst c66
                        have H1 : (godwitlaw07_ChainSees.j2 k2 a1 a2 t240 false x13_2 true t242 t246 t247 t250) = some r := by rw [if_neg (show ¬ (false = true) by decide)] at H; exact H
                        clear H
                        have H := H1
                        clear H1
                        have H' := Aside0.mk H
                        clear H
                        try go_wp2
                        have n0_ := Aside0.mk (Kd.N_drew HO_246000.out)
                        have n1_ := Aside0.mk (Kd.V_drew HO_253001.out)
                        have n2_ := Aside0.mk (Kd.V_drew HO_260001.out)
                        have n3_ := Aside0.mk (blk_drew BK245.out)
                        have n4_ := Aside0.mk (blk_drew BK252.out)
                        have n5_ := Aside0.mk (blk_drew BK259.out)
                        have n6_ := Aside0.mk (below_drew1 HB.out)
                        clear HO_246000
                        clear HO_253001
                        clear HO_260001
                        clear BK245
                        clear BK252
                        clear BK259
                        clear HB
                        have HO_246000 := n0_
                        have HO_253001 := n1_
                        have HO_260001 := n2_
                        have BK245 := n3_
                        have BK252 := n4_
                        have BK259 := n5_
                        have HB := n6_
                        clear n0_ n1_ n2_ n3_ n4_ n5_ n6_
                        have p260 : 0 ≤ (x13_2 : Int) := of_decide_eq_true (by first | (with_reducible assumption) | assumption)
                        have q260 : x13_2 < (t242.length : Int) := of_decide_eq_true (by first | (with_reducible assumption) | assumption)
                        obtain ⟨ad260, A260_1, c260_1, e260, hx260_0, hx260_1, hx260_2, hl260_1, hi260_1⟩ := at_T37 (Kd.N_reads' HO_246000.out).2.2 x13_2 p260 q260
                        cases e260
                        obtain ⟨ce260, hce260, hMe260, hcc260⟩ := Kd.N_get HO_246000.out z37 x13_2 p260 (by first | exact q260 | exact of_decide_eq_true (by first | (with_reducible assumption) | assumption) | (have e_ := (Kd.N_reads' HO_246000.out).1; omega))
                        obtain ⟨ua260_1, uc260_1, rfl, ul260_1, ge260_1⟩ := k37_openF hMe260
                        have hv260_1 := hcc260 1 _ rfl
                        rw [add_field _ _ 1 (by omega)] at hv260_1
                        replace hv260_1 := Option.some.inj (hv260_1.symm.trans hx260_1)
                        injection hv260_1 with hva_ hvn_ hvc_
                        rw [hva_] at ge260_1
                        rw [hvc_] at ul260_1
                        have HL260_1 := Aside0.mk (show Kd.V (Kd.int .u8) 5 _ w.heap.size _ _ ((rd_T37 t242 x13_2).f1) from Kd.V_mk ul260_1 ge260_1)
                        clear hva_ hvn_ hvc_ ge260_1 ul260_1
                        clear hcc260 hce260
                        have HR260_1 := Aside0.mk hi260_1
                        have HC260_1 := Aside0.mk hl260_1
                        clear hi260_1 hl260_1
                        replace p260 := eq_true p260
                        replace q260 := eq_true q260
                        refine start_ (n := 25) (S := fun w' => w'.cell? ⟨gb245, 0, none⟩ = some (.slice (some ad260) t242.length co17) ∧ w'.cell? (ad260.add ((x13_2).toNat * 3)) = some (.int .i64 ((rd_T37 t242 x13_2).f0)) ∧ w'.cell? ⟨(ad260.add ((x13_2).toNat * 3)).block, (ad260.add ((x13_2).toNat * 3)).off + 1, none⟩ = some (.slice A260_1 ((rd_T37 t242 x13_2).f1).length c260_1) ∧ w'.cell? ⟨(ad260.add ((x13_2).toNat * 3)).block, (ad260.add ((x13_2).toNat * 3)).off + 2, none⟩ = some (.bool ((rd_T37 t242 x13_2).f2))) (ds := []) #[false, false, false, false, false, false, false, false, false, false, false, false, false, false, false, false, false, false, false, false, false, false, false, false, false] (by kernel_rfl) rfl rfl ⟨(blk_cell BK245.out 0).trans rfl, hx260_0, hx260_1, hx260_2⟩ (fun hHeld => ?_); refine with_tabW godwitlaw07_ChainSees.tab12 godwitlaw07_ChainSees.bits12 (fun HT_ HW_ => ?_)
                        generalize wr.drew = w68 at HO_246000 HO_253001 HO_260001 BK245 BK252 BK259 HB HL260_1 HR260_1 hx260_0 hx260_1 hx260_2 hHeld ⊢
                        refine pure_ (i := 0) (N := some 76) (v := ?_) (a' := ?_) #[true, false, false, false, false, false, false, false, false, false, false, false, false, false, false, false, false, false, false, false, false, false, false, false, false] rfl rfl (any_of HT_.out (by kernel_rfl)) (fun _ _ _ h => h) (Or.inl ⟨by rfl, ?_⟩) ?_ ?_
                        rotate_left
                        · intro w'
                          go_simp
                          with_reducible rfl
                        rotate_left
                        · simp only [Act.put, List.setIfInBounds_toArray, List.set_cons_zero, List.set_cons_succ, i64_w, i32_w]
                          rfl
                        refine pure_ (i := 2) (N := some 78) (v := ?_) (a' := ?_) #[true, false, true, false, false, false, false, false, false, false, false, false, false, false, false, false, false, false, false, false, false, false, false, false, false] rfl rfl (any_of HT_.out (by kernel_rfl)) (fun _ _ _ h => h) (Or.inl ⟨by rfl, ?_⟩) ?_ ?_
                        rotate_left
                        · intro w'
                          go_simp
                          with_reducible rfl
                        rotate_left
                        · simp only [Act.put, List.setIfInBounds_toArray, List.set_cons_zero, List.set_cons_succ, i64_w, i32_w]
                          rfl
                        refine pure_ (i := 6) (N := some 82) (v := ?_) (a' := ?_) #[true, false, true, false, false, false, true, false, false, false, false, false, false, false, false, false, false, false, false, false, false, false, false, false, false] rfl rfl (any_of HT_.out (by kernel_rfl)) (fun _ _ _ h => h) (Or.inl ⟨by rfl, ?_⟩) ?_ ?_
                        rotate_left
                        · intro w'
                          go_simp
                          with_reducible rfl
                        rotate_left
                        · simp only [Act.put, List.setIfInBounds_toArray, List.set_cons_zero, List.set_cons_succ, i64_w, i32_w]
                          rfl
                        refine pure_ (i := 7) (N := some 83) (v := ?_) (a' := ?_) #[true, false, true, false, false, false, true, true, false, false, false, false, false, false, false, false, false, false, false, false, false, false, false, false, false] rfl rfl (any_of HT_.out (by kernel_rfl)) (fun _ _ _ h => h) (Or.inl ⟨by rfl, ?_⟩) ?_ ?_
                        rotate_left
                        · intro w'
                          go_simp
                          with_reducible rfl
                        rotate_left
                        · simp only [Act.put, List.setIfInBounds_toArray, List.set_cons_zero, List.set_cons_succ, i64_w, i32_w]
                          rfl
                        refine pure_ (i := 8) (N := some 84) (v := ?_) (a' := ?_) #[true, false, true, false, false, false, true, true, true, false, false, false, false, false, false, false, false, false, false, false, false, false, false, false, false] rfl rfl (any_of HT_.out (by kernel_rfl)) (fun _ _ _ h => h) (Or.inl ⟨by rfl, ?_⟩) ?_ ?_
                        rotate_left
                        · intro w'
                          go_simp
                          with_reducible rfl
                        rotate_left
                        · simp only [Act.put, List.setIfInBounds_toArray, List.set_cons_zero, List.set_cons_succ, i64_w, i32_w]
                          rfl
                        refine take_ (i := 1) (N := some 77) (v := ?_) (a' := ?_) #[true, true, true, false, false, false, true, true, true, false, false, false, false, false, false, false, false, false, false, false, false, false, false, false, false] rfl rfl (take_ofW HT_.out HW_.out (by kernel_rfl)) (fun _ _ _ h => h) (Or.inl ⟨by rfl, ?_⟩) hHeld ?_ ?_
                        rotate_left
                        · rintro w' ⟨s0, s1, s2, s3⟩
                          go_simp
                          with_reducible rfl
                        rotate_left
                        · simp only [Act.put, List.setIfInBounds_toArray, List.set_cons_zero, List.set_cons_succ, i64_w, i32_w]
                          rfl
                        refine pure_ (i := 3) (N := some 79) (v := ?_) (a' := ?_) #[true, true, true, true, false, false, true, true, true, false, false, false, false, false, false, false, false, false, false, false, false, false, false, false, false] rfl rfl (any_of HT_.out (by kernel_rfl)) (fun _ _ _ h => h) (Or.inl ⟨by rfl, ?_⟩) ?_ ?_
                        rotate_left
                        · intro w'
                          go_simp
                          with_reducible rfl
                        rotate_left
                        · simp only [Act.put, List.setIfInBounds_toArray, List.set_cons_zero, List.set_cons_succ, i64_w, i32_w]
                          rfl
                        refine pure_ (i := 4) (N := some 80) (v := ?_) (a' := ?_) #[true, true, true, true, true, false, true, true, true, false, false, false, false, false, false, false, false, false, false, false, false, false, false, false, false] rfl rfl (any_of HT_.out (by kernel_rfl)) (fun _ _ _ h => h) (Or.inl ⟨by rfl, ?_⟩) ?_ ?_
                        rotate_left
                        · intro w'
                          go_simp
                          with_reducible rfl
                        rotate_left
                        · simp only [Act.put, List.setIfInBounds_toArray, List.set_cons_zero, List.set_cons_succ, i64_w, i32_w]
                          rfl
                        refine take_ (i := 5) (N := some 81) (v := ?_) (a' := ?_) #[true, true, true, true, true, true, true, true, true, false, false, false, false, false, false, false, false, false, false, false, false, false, false, false, false] rfl rfl (take_ofW HT_.out HW_.out (by kernel_rfl)) (fun _ _ _ h => h) (Or.inl ⟨by rfl, ?_⟩) hHeld ?_ ?_
                        rotate_left
                        · rintro w' ⟨s0, s1, s2, s3⟩
                          go_simp
                          with_reducible rfl
                        rotate_left
                        · simp only [Act.put, List.setIfInBounds_toArray, List.set_cons_zero, List.set_cons_succ, i64_w, i32_w]
                          rfl
                        refine pure_ (i := 9) (N := some 85) (v := ?_) (a' := ?_) #[true, true, true, true, true, true, true, true, true, true, false, false, false, false, false, false, false, false, false, false, false, false, false, false, false] rfl rfl (any_of HT_.out (by kernel_rfl)) (fun _ _ _ h => h) (Or.inl ⟨by rfl, ?_⟩) ?_ ?_
                        rotate_left
                        · intro w'
                          go_simp
                          with_reducible rfl
                        rotate_left
                        · simp only [Act.put, List.setIfInBounds_toArray, List.set_cons_zero, List.set_cons_succ, i64_w, i32_w]
                          rfl
                        refine pure_ (i := 10) (N := some 86) (v := ?_) (a' := ?_) #[true, true, true, true, true, true, true, true, true, true, true, false, false, false, false, false, false, false, false, false, false, false, false, false, false] rfl rfl (any_of HT_.out (by kernel_rfl)) (fun _ _ _ h => h) (Or.inl ⟨by rfl, ?_⟩) ?_ ?_
                        rotate_left
                        · intro w'
                          go_simp
                          with_reducible rfl
                        rotate_left
                        · simp only [Act.put, List.setIfInBounds_toArray, List.set_cons_zero, List.set_cons_succ, i64_w, i32_w]
                          rfl
                        refine pure_ (i := 11) (N := some 87) (v := ?_) (a' := ?_) #[true, true, true, true, true, true, true, true, true, true, true, true, false, false, false, false, false, false, false, false, false, false, false, false, false] rfl rfl (any_of HT_.out (by kernel_rfl)) (fun _ _ _ h => h) (Or.inl ⟨by rfl, ?_⟩) ?_ ?_
                        rotate_left
                        · intro w'
                          go_simp
                          with_reducible rfl
                        rotate_left
                        · simp only [Act.put, List.setIfInBounds_toArray, List.set_cons_zero, List.set_cons_succ, i64_w, i32_w]
                          rfl
                        refine pure_ (i := 12) (N := some 88) (v := ?_) (a' := ?_) #[true, true, true, true, true, true, true, true, true, true, true, true, true, false, false, false, false, false, false, false, false, false, false, false, false] rfl rfl (any_of HT_.out (by kernel_rfl)) (fun _ _ _ h => h) (Or.inl ⟨by rfl, ?_⟩) ?_ ?_
                        rotate_left
                        · intro w'
                          go_simp
                          with_reducible rfl
                        rotate_left
                        · simp only [Act.put, List.setIfInBounds_toArray, List.set_cons_zero, List.set_cons_succ, i64_w, i32_w]
                          rfl
                        refine pure_ (i := 13) (N := some 89) (v := ?_) (a' := ?_) #[true, true, true, true, true, true, true, true, true, true, true, true, true, true, false, false, false, false, false, false, false, false, false, false, false] rfl rfl (any_of HT_.out (by kernel_rfl)) (fun _ _ _ h => h) (Or.inl ⟨by rfl, ?_⟩) ?_ ?_
                        rotate_left
                        · intro w'
                          go_simp
                          with_reducible rfl
                        rotate_left
                        · simp only [Act.put, List.setIfInBounds_toArray, List.set_cons_zero, List.set_cons_succ, i64_w, i32_w]
                          rfl
                        refine pure_ (i := 14) (N := some 90) (v := undef) (a' := ?_) #[true, true, true, true, true, true, true, true, true, true, true, true, true, true, true, false, false, false, false, false, false, false, false, false, false] rfl rfl (any_of HT_.out (by kernel_rfl)) (fun _ _ _ h => h) (Or.inr ⟨by rfl, rfl⟩) ?_ ?_
                        rotate_left
                        · simp only [Act.put, List.setIfInBounds_toArray, List.set_cons_zero, List.set_cons_succ, i64_w, i32_w]
                          rfl
                        refine pure_ (i := 15) (N := some 91) (v := undef) (a' := ?_) #[true, true, true, true, true, true, true, true, true, true, true, true, true, true, true, true, false, false, false, false, false, false, false, false, false] rfl rfl (any_of HT_.out (by kernel_rfl)) (fun _ _ _ h => h) (Or.inr ⟨by rfl, rfl⟩) ?_ ?_
                        rotate_left
                        · simp only [Act.put, List.setIfInBounds_toArray, List.set_cons_zero, List.set_cons_succ, i64_w, i32_w]
                          rfl
                        refine pure_ (i := 16) (N := some 92) (v := undef) (a' := ?_) #[true, true, true, true, true, true, true, true, true, true, true, true, true, true, true, true, true, false, false, false, false, false, false, false, false] rfl rfl (any_of HT_.out (by kernel_rfl)) (fun _ _ _ h => h) (Or.inr ⟨by rfl, rfl⟩) ?_ ?_
                        rotate_left
                        · simp only [Act.put, List.setIfInBounds_toArray, List.set_cons_zero, List.set_cons_succ, i64_w, i32_w]
                          rfl
                        refine pure_ (i := 17) (N := some 93) (v := undef) (a' := ?_) #[true, true, true, true, true, true, true, true, true, true, true, true, true, true, true, true, true, true, false, false, false, false, false, false, false] rfl rfl (any_of HT_.out (by kernel_rfl)) (fun _ _ _ h => h) (Or.inr ⟨by rfl, rfl⟩) ?_ ?_
                        rotate_left
                        · simp only [Act.put, List.setIfInBounds_toArray, List.set_cons_zero, List.set_cons_succ, i64_w, i32_w]
                          rfl
                        refine pure_ (i := 18) (N := some 94) (v := undef) (a' := ?_) #[true, true, true, true, true, true, true, true, true, true, true, true, true, true, true, true, true, true, true, false, false, false, false, false, false] rfl rfl (any_of HT_.out (by kernel_rfl)) (fun _ _ _ h => h) (Or.inr ⟨by rfl, rfl⟩) ?_ ?_
                        rotate_left
                        · simp only [Act.put, List.setIfInBounds_toArray, List.set_cons_zero, List.set_cons_succ, i64_w, i32_w]
                          rfl
                        refine pure_ (i := 19) (N := some 95) (v := undef) (a' := ?_) #[true, true, true, true, true, true, true, true, true, true, true, true, true, true, true, true, true, true, true, true, false, false, false, false, false] rfl rfl (any_of HT_.out (by kernel_rfl)) (fun _ _ _ h => h) (Or.inr ⟨by rfl, rfl⟩) ?_ ?_
                        rotate_left
                        · simp only [Act.put, List.setIfInBounds_toArray, List.set_cons_zero, List.set_cons_succ, i64_w, i32_w]
                          rfl
                        refine pure_ (i := 20) (N := some 96) (v := undef) (a' := ?_) #[true, true, true, true, true, true, true, true, true, true, true, true, true, true, true, true, true, true, true, true, true, false, false, false, false] rfl rfl (any_of HT_.out (by kernel_rfl)) (fun _ _ _ h => h) (Or.inr ⟨by rfl, rfl⟩) ?_ ?_
                        rotate_left
                        · simp only [Act.put, List.setIfInBounds_toArray, List.set_cons_zero, List.set_cons_succ, i64_w, i32_w]
                          rfl
                        refine pure_ (i := 21) (N := some 97) (v := undef) (a' := ?_) #[true, true, true, true, true, true, true, true, true, true, true, true, true, true, true, true, true, true, true, true, true, true, false, false, false] rfl rfl (any_of HT_.out (by kernel_rfl)) (fun _ _ _ h => h) (Or.inr ⟨by rfl, rfl⟩) ?_ ?_
                        rotate_left
                        · simp only [Act.put, List.setIfInBounds_toArray, List.set_cons_zero, List.set_cons_succ, i64_w, i32_w]
                          rfl
                        refine pure_ (i := 22) (N := some 98) (v := undef) (a' := ?_) #[true, true, true, true, true, true, true, true, true, true, true, true, true, true, true, true, true, true, true, true, true, true, true, false, false] rfl rfl (any_of HT_.out (by kernel_rfl)) (fun _ _ _ h => h) (Or.inr ⟨by rfl, rfl⟩) ?_ ?_
                        rotate_left
                        · simp only [Act.put, List.setIfInBounds_toArray, List.set_cons_zero, List.set_cons_succ, i64_w, i32_w]
                          rfl
                        refine pure_ (i := 23) (N := some 99) (v := ?_) (a' := ?_) #[true, true, true, true, true, true, true, true, true, true, true, true, true, true, true, true, true, true, true, true, true, true, true, true, false] rfl rfl (any_of HT_.out (by kernel_rfl)) (fun _ _ _ h => h) (Or.inl ⟨by rfl, ?_⟩) ?_ ?_
                        rotate_left
                        · intro w'
                          go_simp
                          with_reducible rfl
                        rotate_left
                        · simp only [Act.put, List.setIfInBounds_toArray, List.set_cons_zero, List.set_cons_succ, i64_w, i32_w]
                          rfl
                        refine pure_ (i := 24) (N := some 100) (v := ?_) (a' := ?_) #[true, true, true, true, true, true, true, true, true, true, true, true, true, true, true, true, true, true, true, true, true, true, true, true, true] rfl rfl (any_of HT_.out (by kernel_rfl)) (fun _ _ _ h => h) (Or.inl ⟨by rfl, ?_⟩) ?_ ?_
                        rotate_left
                        · intro w'
                          go_simp
                          with_reducible rfl
                        rotate_left
                        · simp only [Act.put, List.setIfInBounds_toArray, List.set_cons_zero, List.set_cons_succ, i64_w, i32_w]
                          rfl
                        refine done_ (done_of HT_.out (by kernel_rfl)) ?_
                        try go_wp2
                        go_meet
                        case rel => exact ⟨_, (true), (by first | rfl | (simp; done) | (simp [*]; done)), H', ⟨by have := HJ11.out; have := HK2.out; first | omega | exact Nat.le_refl _⟩, ⟨by (with_reducible repeat (first | apply Kd.N_alloc | apply Kd.N_drewN | apply Kd.N_drew)); exact HO_246000.out⟩, ⟨by (with_reducible repeat (first | apply Kd.V_alloc | apply Kd.V_drewN | apply Kd.V_drew)); exact HO_253001.out⟩, ⟨by (with_reducible repeat (first | apply Kd.V_alloc | apply Kd.V_drewN | apply Kd.V_drew)); exact HO_260001.out⟩, ⟨by (with_reducible repeat (first | refine blk_drewN ?_ _ | refine blk_drew ?_ | refine blk_alloc ?_ _)); exact BK245.out⟩, ⟨by (with_reducible repeat (first | refine blk_drewN ?_ _ | refine blk_drew ?_ | refine blk_alloc ?_ _)); exact BK252.out⟩, ⟨by (with_reducible repeat (first | refine blk_drewN ?_ _ | refine blk_drew ?_ | refine blk_alloc ?_ _)); exact BK259.out⟩, ⟨by repeat (first | (with_reducible first | exact HB.out | apply below_alloc | apply pw_below_drewN | apply below_drew1 | refine below_set ?_ GE245.out | refine below_set ?_ GE252.out | refine below_set ?_ GE259.out) | exact HB.out)⟩⟩
                    · rw [if_neg c65] at H
                      have c65b0 : decide (((rd_T37 t242 x13_2).f0) ≤ (ji64)) = false := decide_eq_false c65
                      clear c65
                      have H' := Aside0.mk H
                      clear H
                      try go_wp2
                      have n0_ := Aside0.mk (Kd.N_drew HO_246000.out)
                      have n1_ := Aside0.mk (Kd.V_drew HO_253001.out)
                      have n2_ := Aside0.mk (Kd.V_drew HO_260001.out)
                      have n3_ := Aside0.mk (blk_drew BK245.out)
                      have n4_ := Aside0.mk (blk_drew BK252.out)
                      have n5_ := Aside0.mk (blk_drew BK259.out)
                      have n6_ := Aside0.mk (below_drew1 HB.out)
                      clear HO_246000
                      clear HO_253001
                      clear HO_260001
                      clear BK245
                      clear BK252
                      clear BK259
                      clear HB
                      have HO_246000 := n0_
                      have HO_253001 := n1_
                      have HO_260001 := n2_
                      have BK245 := n3_
                      have BK252 := n4_
                      have BK259 := n5_
                      have HB := n6_
                      clear n0_ n1_ n2_ n3_ n4_ n5_ n6_
                      have p260 : 0 ≤ (x13_2 : Int) := of_decide_eq_true (by first | (with_reducible assumption) | assumption)
                      have q260 : x13_2 < (t242.length : Int) := of_decide_eq_true (by first | (with_reducible assumption) | assumption)
                      obtain ⟨ad260, A260_1, c260_1, e260, hx260_0, hx260_1, hx260_2, hl260_1, hi260_1⟩ := at_T37 (Kd.N_reads' HO_246000.out).2.2 x13_2 p260 q260
                      cases e260
                      obtain ⟨ce260, hce260, hMe260, hcc260⟩ := Kd.N_get HO_246000.out z37 x13_2 p260 (by first | exact q260 | exact of_decide_eq_true (by first | (with_reducible assumption) | assumption) | (have e_ := (Kd.N_reads' HO_246000.out).1; omega))
                      obtain ⟨ua260_1, uc260_1, rfl, ul260_1, ge260_1⟩ := k37_openF hMe260
                      have hv260_1 := hcc260 1 _ rfl
                      rw [add_field _ _ 1 (by omega)] at hv260_1
                      replace hv260_1 := Option.some.inj (hv260_1.symm.trans hx260_1)
                      injection hv260_1 with hva_ hvn_ hvc_
                      rw [hva_] at ge260_1
                      rw [hvc_] at ul260_1
                      have HL260_1 := Aside0.mk (show Kd.V (Kd.int .u8) 5 _ w.heap.size _ _ ((rd_T37 t242 x13_2).f1) from Kd.V_mk ul260_1 ge260_1)
                      clear hva_ hvn_ hvc_ ge260_1 ul260_1
                      clear hcc260 hce260
                      have HR260_1 := Aside0.mk hi260_1
                      have HC260_1 := Aside0.mk hl260_1
                      clear hi260_1 hl260_1
                      replace p260 := eq_true p260
                      replace q260 := eq_true q260
                      refine start_ (n := 25) (S := fun w' => w'.cell? ⟨gb245, 0, none⟩ = some (.slice (some ad260) t242.length co17) ∧ w'.cell? (ad260.add ((x13_2).toNat * 3)) = some (.int .i64 ((rd_T37 t242 x13_2).f0)) ∧ w'.cell? ⟨(ad260.add ((x13_2).toNat * 3)).block, (ad260.add ((x13_2).toNat * 3)).off + 1, none⟩ = some (.slice A260_1 ((rd_T37 t242 x13_2).f1).length c260_1) ∧ w'.cell? ⟨(ad260.add ((x13_2).toNat * 3)).block, (ad260.add ((x13_2).toNat * 3)).off + 2, none⟩ = some (.bool ((rd_T37 t242 x13_2).f2))) (ds := []) #[false, false, false, false, false, false, false, false, false, false, false, false, false, false, false, false, false, false, false, false, false, false, false, false, false] (by kernel_rfl) rfl rfl ⟨(blk_cell BK245.out 0).trans rfl, hx260_0, hx260_1, hx260_2⟩ (fun hHeld => ?_); refine with_tabW godwitlaw07_ChainSees.tab12 godwitlaw07_ChainSees.bits12 (fun HT_ HW_ => ?_)
                      generalize wr.drew = w69 at HO_246000 HO_253001 HO_260001 BK245 BK252 BK259 HB HL260_1 HR260_1 hx260_0 hx260_1 hx260_2 hHeld ⊢
                      refine pure_ (i := 0) (N := some 76) (v := ?_) (a' := ?_) #[true, false, false, false, false, false, false, false, false, false, false, false, false, false, false, false, false, false, false, false, false, false, false, false, false] rfl rfl (any_of HT_.out (by kernel_rfl)) (fun _ _ _ h => h) (Or.inl ⟨by rfl, ?_⟩) ?_ ?_
                      rotate_left
                      · intro w'
                        go_simp
                        with_reducible rfl
                      rotate_left
                      · simp only [Act.put, List.setIfInBounds_toArray, List.set_cons_zero, List.set_cons_succ, i64_w, i32_w]
                        rfl
                      refine pure_ (i := 2) (N := some 78) (v := ?_) (a' := ?_) #[true, false, true, false, false, false, false, false, false, false, false, false, false, false, false, false, false, false, false, false, false, false, false, false, false] rfl rfl (any_of HT_.out (by kernel_rfl)) (fun _ _ _ h => h) (Or.inl ⟨by rfl, ?_⟩) ?_ ?_
                      rotate_left
                      · intro w'
                        go_simp
                        with_reducible rfl
                      rotate_left
                      · simp only [Act.put, List.setIfInBounds_toArray, List.set_cons_zero, List.set_cons_succ, i64_w, i32_w]
                        rfl
                      refine pure_ (i := 6) (N := some 82) (v := ?_) (a' := ?_) #[true, false, true, false, false, false, true, false, false, false, false, false, false, false, false, false, false, false, false, false, false, false, false, false, false] rfl rfl (any_of HT_.out (by kernel_rfl)) (fun _ _ _ h => h) (Or.inl ⟨by rfl, ?_⟩) ?_ ?_
                      rotate_left
                      · intro w'
                        go_simp
                        with_reducible rfl
                      rotate_left
                      · simp only [Act.put, List.setIfInBounds_toArray, List.set_cons_zero, List.set_cons_succ, i64_w, i32_w]
                        rfl
                      refine pure_ (i := 7) (N := some 83) (v := ?_) (a' := ?_) #[true, false, true, false, false, false, true, true, false, false, false, false, false, false, false, false, false, false, false, false, false, false, false, false, false] rfl rfl (any_of HT_.out (by kernel_rfl)) (fun _ _ _ h => h) (Or.inl ⟨by rfl, ?_⟩) ?_ ?_
                      rotate_left
                      · intro w'
                        go_simp
                        with_reducible rfl
                      rotate_left
                      · simp only [Act.put, List.setIfInBounds_toArray, List.set_cons_zero, List.set_cons_succ, i64_w, i32_w]
                        rfl
                      refine pure_ (i := 8) (N := some 84) (v := ?_) (a' := ?_) #[true, false, true, false, false, false, true, true, true, false, false, false, false, false, false, false, false, false, false, false, false, false, false, false, false] rfl rfl (any_of HT_.out (by kernel_rfl)) (fun _ _ _ h => h) (Or.inl ⟨by rfl, ?_⟩) ?_ ?_
                      rotate_left
                      · intro w'
                        go_simp
                        with_reducible rfl
                      rotate_left
                      · simp only [Act.put, List.setIfInBounds_toArray, List.set_cons_zero, List.set_cons_succ, i64_w, i32_w]
                        rfl
                      refine take_ (i := 1) (N := some 77) (v := ?_) (a' := ?_) #[true, true, true, false, false, false, true, true, true, false, false, false, false, false, false, false, false, false, false, false, false, false, false, false, false] rfl rfl (take_ofW HT_.out HW_.out (by kernel_rfl)) (fun _ _ _ h => h) (Or.inl ⟨by rfl, ?_⟩) hHeld ?_ ?_
                      rotate_left
                      · rintro w' ⟨s0, s1, s2, s3⟩
                        go_simp
                        with_reducible rfl
                      rotate_left
                      · simp only [Act.put, List.setIfInBounds_toArray, List.set_cons_zero, List.set_cons_succ, i64_w, i32_w]
                        rfl
                      refine pure_ (i := 3) (N := some 79) (v := ?_) (a' := ?_) #[true, true, true, true, false, false, true, true, true, false, false, false, false, false, false, false, false, false, false, false, false, false, false, false, false] rfl rfl (any_of HT_.out (by kernel_rfl)) (fun _ _ _ h => h) (Or.inl ⟨by rfl, ?_⟩) ?_ ?_
                      rotate_left
                      · intro w'
                        go_simp
                        with_reducible rfl
                      rotate_left
                      · simp only [Act.put, List.setIfInBounds_toArray, List.set_cons_zero, List.set_cons_succ, i64_w, i32_w]
                        rfl
                      refine pure_ (i := 4) (N := some 80) (v := ?_) (a' := ?_) #[true, true, true, true, true, false, true, true, true, false, false, false, false, false, false, false, false, false, false, false, false, false, false, false, false] rfl rfl (any_of HT_.out (by kernel_rfl)) (fun _ _ _ h => h) (Or.inl ⟨by rfl, ?_⟩) ?_ ?_
                      rotate_left
                      · intro w'
                        go_simp
                        with_reducible rfl
                      rotate_left
                      · simp only [Act.put, List.setIfInBounds_toArray, List.set_cons_zero, List.set_cons_succ, i64_w, i32_w]
                        rfl
                      refine take_ (i := 5) (N := some 81) (v := ?_) (a' := ?_) #[true, true, true, true, true, true, true, true, true, false, false, false, false, false, false, false, false, false, false, false, false, false, false, false, false] rfl rfl (take_ofW HT_.out HW_.out (by kernel_rfl)) (fun _ _ _ h => h) (Or.inl ⟨by rfl, ?_⟩) hHeld ?_ ?_
                      rotate_left
                      · rintro w' ⟨s0, s1, s2, s3⟩
                        go_simp
                        with_reducible rfl
                      rotate_left
                      · simp only [Act.put, List.setIfInBounds_toArray, List.set_cons_zero, List.set_cons_succ, i64_w, i32_w]
                        rfl
                      refine pure_ (i := 9) (N := some 85) (v := ?_) (a' := ?_) #[true, true, true, true, true, true, true, true, true, true, false, false, false, false, false, false, false, false, false, false, false, false, false, false, false] rfl rfl (any_of HT_.out (by kernel_rfl)) (fun _ _ _ h => h) (Or.inl ⟨by rfl, ?_⟩) ?_ ?_
                      rotate_left
                      · intro w'
                        go_simp
                        with_reducible rfl
                      rotate_left
                      · simp only [Act.put, List.setIfInBounds_toArray, List.set_cons_zero, List.set_cons_succ, i64_w, i32_w]
                        rfl
                      refine pure_ (i := 10) (N := some 86) (v := ?_) (a' := ?_) #[true, true, true, true, true, true, true, true, true, true, true, false, false, false, false, false, false, false, false, false, false, false, false, false, false] rfl rfl (any_of HT_.out (by kernel_rfl)) (fun _ _ _ h => h) (Or.inl ⟨by rfl, ?_⟩) ?_ ?_
                      rotate_left
                      · intro w'
                        go_simp
                        with_reducible rfl
                      rotate_left
                      · simp only [Act.put, List.setIfInBounds_toArray, List.set_cons_zero, List.set_cons_succ, i64_w, i32_w]
                        rfl
                      refine pure_ (i := 11) (N := some 87) (v := undef) (a' := ?_) #[true, true, true, true, true, true, true, true, true, true, true, true, false, false, false, false, false, false, false, false, false, false, false, false, false] rfl rfl (any_of HT_.out (by kernel_rfl)) (fun _ _ _ h => h) (Or.inr ⟨by rfl, rfl⟩) ?_ ?_
                      rotate_left
                      · simp only [Act.put, List.setIfInBounds_toArray, List.set_cons_zero, List.set_cons_succ, i64_w, i32_w]
                        rfl
                      refine pure_ (i := 12) (N := some 88) (v := undef) (a' := ?_) #[true, true, true, true, true, true, true, true, true, true, true, true, true, false, false, false, false, false, false, false, false, false, false, false, false] rfl rfl (any_of HT_.out (by kernel_rfl)) (fun _ _ _ h => h) (Or.inr ⟨by rfl, rfl⟩) ?_ ?_
                      rotate_left
                      · simp only [Act.put, List.setIfInBounds_toArray, List.set_cons_zero, List.set_cons_succ, i64_w, i32_w]
                        rfl
                      refine pure_ (i := 13) (N := some 89) (v := undef) (a' := ?_) #[true, true, true, true, true, true, true, true, true, true, true, true, true, true, false, false, false, false, false, false, false, false, false, false, false] rfl rfl (any_of HT_.out (by kernel_rfl)) (fun _ _ _ h => h) (Or.inr ⟨by rfl, rfl⟩) ?_ ?_
                      rotate_left
                      · simp only [Act.put, List.setIfInBounds_toArray, List.set_cons_zero, List.set_cons_succ, i64_w, i32_w]
                        rfl
                      refine pure_ (i := 14) (N := some 90) (v := undef) (a' := ?_) #[true, true, true, true, true, true, true, true, true, true, true, true, true, true, true, false, false, false, false, false, false, false, false, false, false] rfl rfl (any_of HT_.out (by kernel_rfl)) (fun _ _ _ h => h) (Or.inr ⟨by rfl, rfl⟩) ?_ ?_
                      rotate_left
                      · simp only [Act.put, List.setIfInBounds_toArray, List.set_cons_zero, List.set_cons_succ, i64_w, i32_w]
                        rfl
                      refine pure_ (i := 15) (N := some 91) (v := undef) (a' := ?_) #[true, true, true, true, true, true, true, true, true, true, true, true, true, true, true, true, false, false, false, false, false, false, false, false, false] rfl rfl (any_of HT_.out (by kernel_rfl)) (fun _ _ _ h => h) (Or.inr ⟨by rfl, rfl⟩) ?_ ?_
                      rotate_left
                      · simp only [Act.put, List.setIfInBounds_toArray, List.set_cons_zero, List.set_cons_succ, i64_w, i32_w]
                        rfl
                      refine pure_ (i := 16) (N := some 92) (v := undef) (a' := ?_) #[true, true, true, true, true, true, true, true, true, true, true, true, true, true, true, true, true, false, false, false, false, false, false, false, false] rfl rfl (any_of HT_.out (by kernel_rfl)) (fun _ _ _ h => h) (Or.inr ⟨by rfl, rfl⟩) ?_ ?_
                      rotate_left
                      · simp only [Act.put, List.setIfInBounds_toArray, List.set_cons_zero, List.set_cons_succ, i64_w, i32_w]
                        rfl
                      refine pure_ (i := 17) (N := some 93) (v := undef) (a' := ?_) #[true, true, true, true, true, true, true, true, true, true, true, true, true, true, true, true, true, true, false, false, false, false, false, false, false] rfl rfl (any_of HT_.out (by kernel_rfl)) (fun _ _ _ h => h) (Or.inr ⟨by rfl, rfl⟩) ?_ ?_
                      rotate_left
                      · simp only [Act.put, List.setIfInBounds_toArray, List.set_cons_zero, List.set_cons_succ, i64_w, i32_w]
                        rfl
                      refine pure_ (i := 18) (N := some 94) (v := undef) (a' := ?_) #[true, true, true, true, true, true, true, true, true, true, true, true, true, true, true, true, true, true, true, false, false, false, false, false, false] rfl rfl (any_of HT_.out (by kernel_rfl)) (fun _ _ _ h => h) (Or.inr ⟨by rfl, rfl⟩) ?_ ?_
                      rotate_left
                      · simp only [Act.put, List.setIfInBounds_toArray, List.set_cons_zero, List.set_cons_succ, i64_w, i32_w]
                        rfl
                      refine pure_ (i := 19) (N := some 95) (v := undef) (a' := ?_) #[true, true, true, true, true, true, true, true, true, true, true, true, true, true, true, true, true, true, true, true, false, false, false, false, false] rfl rfl (any_of HT_.out (by kernel_rfl)) (fun _ _ _ h => h) (Or.inr ⟨by rfl, rfl⟩) ?_ ?_
                      rotate_left
                      · simp only [Act.put, List.setIfInBounds_toArray, List.set_cons_zero, List.set_cons_succ, i64_w, i32_w]
                        rfl
                      refine pure_ (i := 20) (N := some 96) (v := undef) (a' := ?_) #[true, true, true, true, true, true, true, true, true, true, true, true, true, true, true, true, true, true, true, true, true, false, false, false, false] rfl rfl (any_of HT_.out (by kernel_rfl)) (fun _ _ _ h => h) (Or.inr ⟨by rfl, rfl⟩) ?_ ?_
                      rotate_left
                      · simp only [Act.put, List.setIfInBounds_toArray, List.set_cons_zero, List.set_cons_succ, i64_w, i32_w]
                        rfl
                      refine pure_ (i := 21) (N := some 97) (v := undef) (a' := ?_) #[true, true, true, true, true, true, true, true, true, true, true, true, true, true, true, true, true, true, true, true, true, true, false, false, false] rfl rfl (any_of HT_.out (by kernel_rfl)) (fun _ _ _ h => h) (Or.inr ⟨by rfl, rfl⟩) ?_ ?_
                      rotate_left
                      · simp only [Act.put, List.setIfInBounds_toArray, List.set_cons_zero, List.set_cons_succ, i64_w, i32_w]
                        rfl
                      refine pure_ (i := 22) (N := some 98) (v := undef) (a' := ?_) #[true, true, true, true, true, true, true, true, true, true, true, true, true, true, true, true, true, true, true, true, true, true, true, false, false] rfl rfl (any_of HT_.out (by kernel_rfl)) (fun _ _ _ h => h) (Or.inr ⟨by rfl, rfl⟩) ?_ ?_
                      rotate_left
                      · simp only [Act.put, List.setIfInBounds_toArray, List.set_cons_zero, List.set_cons_succ, i64_w, i32_w]
                        rfl
                      refine pure_ (i := 23) (N := some 99) (v := undef) (a' := ?_) #[true, true, true, true, true, true, true, true, true, true, true, true, true, true, true, true, true, true, true, true, true, true, true, true, false] rfl rfl (any_of HT_.out (by kernel_rfl)) (fun _ _ _ h => h) (Or.inr ⟨by rfl, rfl⟩) ?_ ?_
                      rotate_left
                      · simp only [Act.put, List.setIfInBounds_toArray, List.set_cons_zero, List.set_cons_succ, i64_w, i32_w]
                        rfl
                      refine pure_ (i := 24) (N := some 100) (v := ?_) (a' := ?_) #[true, true, true, true, true, true, true, true, true, true, true, true, true, true, true, true, true, true, true, true, true, true, true, true, true] rfl rfl (any_of HT_.out (by kernel_rfl)) (fun _ _ _ h => h) (Or.inl ⟨by rfl, ?_⟩) ?_ ?_
                      rotate_left
                      · intro w'
                        go_simp
                        with_reducible rfl
                      rotate_left
                      · simp only [Act.put, List.setIfInBounds_toArray, List.set_cons_zero, List.set_cons_succ, i64_w, i32_w]
                        rfl
                      refine done_ (done_of HT_.out (by kernel_rfl)) ?_
                      try go_wp2
                      go_meet
                      case rel => exact ⟨_, (false), (by first | rfl | (simp; done) | (simp [*]; done)), H', ⟨by have := HJ11.out; have := HK2.out; first | omega | exact Nat.le_refl _⟩, ⟨by (with_reducible repeat (first | apply Kd.N_alloc | apply Kd.N_drewN | apply Kd.N_drew)); exact HO_246000.out⟩, ⟨by (with_reducible repeat (first | apply Kd.V_alloc | apply Kd.V_drewN | apply Kd.V_drew)); exact HO_253001.out⟩, ⟨by (with_reducible repeat (first | apply Kd.V_alloc | apply Kd.V_drewN | apply Kd.V_drew)); exact HO_260001.out⟩, ⟨by (with_reducible repeat (first | refine blk_drewN ?_ _ | refine blk_drew ?_ | refine blk_alloc ?_ _)); exact BK245.out⟩, ⟨by (with_reducible repeat (first | refine blk_drewN ?_ _ | refine blk_drew ?_ | refine blk_alloc ?_ _)); exact BK252.out⟩, ⟨by (with_reducible repeat (first | refine blk_drewN ?_ _ | refine blk_drew ?_ | refine blk_alloc ?_ _)); exact BK259.out⟩, ⟨by repeat (first | (with_reducible first | exact HB.out | apply below_alloc | apply pw_below_drewN | apply below_drew1 | refine below_set ?_ GE245.out | refine below_set ?_ GE252.out | refine below_set ?_ GE259.out) | exact HB.out)⟩⟩
                  · rw [if_neg c63] at H
                    exact absurd H (by simp)
                case rest =>
                  clear HC59
                  try clear c2
                  try clear p2
                  try clear q2
                  try clear hx2
                  try clear c6
                  try clear c26
                  try clear p26
                  try clear q26
                  try clear hx26
                  try clear c63
                  try clear c65
                  try clear c65b0
                  try clear c66
                  try clear hx260_0
                  try clear hx260_1
                  try clear hx260_2
                  try clear p260
                  try clear q260
                  obtain ⟨kq, x100_58, rfl, HA, HJ58, HO_246000, HO_253001, HO_260001, BK245, BK252, BK259, HB⟩ := hcut
                  cases kq with
                  | zero => exact absurd HA.out (by simp [godwitlaw07_ChainSees.j2])
                  | succ kj58 =>
                    have H := HA.out
                    clear HA
                    simp only [godwitlaw07_ChainSees.j2] at H
                    by_cases c70 : x100_58 = true
                    · subst c70
                      have H1 : (none) = some r := by rw [if_pos rfl] at H; exact H
                      clear H
                      have H := H1
                      clear H1
                      exact absurd H (by simp)
                    · replace c70 := Bool.eq_false_iff.mpr c70
                      subst c70
                      have H1 : (godwitlaw07_ChainSees.l0 kj58 a1 a2 t240 t251 (wrap64 (x13_2 + 1)) t242 t246 t247 t250) = some r := by rw [if_neg (show ¬ (false = true) by decide)] at H; exact H
                      clear H
                      have H := H1
                      clear H1
                      have H' := Aside0.mk H
                      clear H
                      go_wp2
                      go_roundg kj58
                      case measure => have := HJ11.out; have := HK2.out; have := HJ58.out; omega
                      case rel => exact ⟨(wrap64 (x13_2 + 1)), (by first | rfl | (simp; done) | (simp [*]; done)), H', ⟨by have := HJ11.out; have := HK2.out; have := HJ58.out; omega⟩, ⟨by (with_reducible repeat (first | apply Kd.N_alloc | apply Kd.N_drewN | apply Kd.N_drew)); exact HO_246000.out⟩, ⟨by (with_reducible repeat (first | apply Kd.V_alloc | apply Kd.V_drewN | apply Kd.V_drew)); exact HO_253001.out⟩, ⟨by (with_reducible repeat (first | apply Kd.V_alloc | apply Kd.V_drewN | apply Kd.V_drew)); exact HO_260001.out⟩, ⟨by (with_reducible repeat (first | refine blk_drewN ?_ _ | refine blk_drew ?_ | refine blk_alloc ?_ _)); exact BK245.out⟩, ⟨by (with_reducible repeat (first | refine blk_drewN ?_ _ | refine blk_drew ?_ | refine blk_alloc ?_ _)); exact BK252.out⟩, ⟨by (with_reducible repeat (first | refine blk_drewN ?_ _ | refine blk_drew ?_ | refine blk_alloc ?_ _)); exact BK259.out⟩, ⟨by repeat (first | (with_reducible first | exact HB.out | apply below_alloc | apply pw_below_drewN | apply below_drew1 | refine below_set ?_ GE245.out | refine below_set ?_ GE252.out | refine below_set ?_ GE259.out) | exact HB.out)⟩⟩
              · rw [if_neg c58] at H
                have c58b0 : decide (x13_2 < (t242.length : Int)) = false := decide_eq_false c58
                clear c58
                by_cases c71 : t240 = true
                · subst c71
                  have H1 : ((chain_Since.f t242 0).bind fun t262 => (if (t262.length : Int) = (t242.length : Int) then (if (t242.length : Int) = 0 then (some true) else ((chain_Last.f t242).bind fun t265 => (if 0 ≤ (wrap64 ((t242.length : Int) - 1)) then (if (wrap64 ((t242.length : Int) - 1)) < (t242.length : Int) then (some (t265 == ((rd_T37 t242 (wrap64 ((t242.length : Int) - 1))).f0))) else (none)) else (none)))) else (none))) = some r := by rw [if_pos rfl] at H; exact H
                  clear H
                  have H := H1
                  clear H1
                  replace H := Option.bind_eq_some_iff.mp H
                  obtain ⟨t262, A720, H⟩ := H
                  replace H : (if (t262.length : Int) = (t242.length : Int) then (if (t242.length : Int) = 0 then (some true) else ((chain_Last.f t242).bind fun t265 => (if 0 ≤ (wrap64 ((t242.length : Int) - 1)) then (if (wrap64 ((t242.length : Int) - 1)) < (t242.length : Int) then (some (t265 == ((rd_T37 t242 (wrap64 ((t242.length : Int) - 1))).f0))) else (none)) else (none)))) else (none)) = some r := H
                  have A72 := Aside0.mk A720
                  clear A720
                  by_cases c73 : (t262.length : Int) = (t242.length : Int)
                  · rw [if_pos c73] at H
                    have c73b0 : ((t262.length : Int) == (t242.length : Int)) = true := beq_iff_eq.mpr c73
                    have c73b1 : ((t262.length : Int) != (t242.length : Int)) = false := bne_eq_false_iff_eq.mpr c73
                    have c73b2 : (t262.length == t242.length) = true := by first | simpa using c73 | (simp at c73 ⊢; omega)
                    clear c73
                    by_cases c74 : (t242.length : Int) = 0
                    · rw [if_pos c74] at H
                      have c74b0 : ((t242.length : Int) == 0) = true := beq_iff_eq.mpr c74
                      have c74b1 : ((t242.length : Int) != 0) = false := bne_eq_false_iff_eq.mpr c74
                      clear c74
                      obtain rfl := Option.some.inj H
                      have hnb75 := NB245_252.out
                      have hnc75 := NB252_245.out
                      have hnb76 := NB245_259.out
                      have hnc76 := NB259_245.out
                      have hcz77_0 : wr.cell? ⟨gb245, 0, none⟩ = some (.slice Ao17 t242.length co17) := (blk_cell BK245.out 0).trans rfl
                      have hfz77_0 := blk_frozen BK245.out 0
                      try go_wp2
                      have n0_ := Aside0.mk (Kd.N_drew HO_246000.out)
                      have n1_ := Aside0.mk (Kd.V_drew HO_253001.out)
                      have n2_ := Aside0.mk (Kd.V_drew HO_260001.out)
                      have n3_ := Aside0.mk (blk_drew BK245.out)
                      have n4_ := Aside0.mk (blk_drew BK252.out)
                      have n5_ := Aside0.mk (blk_drew BK259.out)
                      have n6_ := Aside0.mk (below_drew1 HB.out)
                      clear HO_246000
                      clear HO_253001
                      clear HO_260001
                      clear BK245
                      clear BK252
                      clear BK259
                      clear HB
                      have HO_246000 := n0_
                      have HO_253001 := n1_
                      have HO_260001 := n2_
                      have BK245 := n3_
                      have BK252 := n4_
                      have BK259 := n5_
                      have HB := n6_
                      clear n0_ n1_ n2_ n3_ n4_ n5_ n6_
                      refine start_ (n := 31) (S := fun w' => w'.cell? ⟨gb245, 0, none⟩ = some (.slice Ao17 t242.length co17)) (ds := []) #[false, false, false, false, false, false, false, false, false, false, false, false, false, false, false, false, false, false, false, false, false, false, false, false, false, false, false, false, false, false, false] (by kernel_rfl) rfl rfl ((blk_cell BK245.out 0).trans rfl) (fun hHeld => ?_); refine with_tabW godwitlaw07_ChainSees.tab14 godwitlaw07_ChainSees.bits14 (fun HT_ HW_ => ?_)
                      generalize wr.drew = w78 at HO_246000 HO_253001 HO_260001 BK245 BK252 BK259 HB hHeld ⊢
                      refine pure_ (i := 0) (N := some 101) (v := ?_) (a' := ?_) #[true, false, false, false, false, false, false, false, false, false, false, false, false, false, false, false, false, false, false, false, false, false, false, false, false, false, false, false, false, false, false] rfl rfl (any_of HT_.out (by kernel_rfl)) (fun _ _ _ h => h) (Or.inl ⟨by rfl, ?_⟩) ?_ ?_
                      rotate_left
                      · intro w'
                        go_simp
                        with_reducible rfl
                      rotate_left
                      · simp only [Act.put, List.setIfInBounds_toArray, List.set_cons_zero, List.set_cons_succ, i64_w, i32_w]
                        rfl
                      refine pure_ (i := 1) (N := some 102) (v := ?_) (a' := ?_) #[true, true, false, false, false, false, false, false, false, false, false, false, false, false, false, false, false, false, false, false, false, false, false, false, false, false, false, false, false, false, false] rfl rfl (any_of HT_.out (by kernel_rfl)) (fun _ _ _ h => h) (Or.inl ⟨by rfl, ?_⟩) ?_ ?_
                      rotate_left
                      · intro w'
                        go_simp
                        with_reducible rfl
                      rotate_left
                      · simp only [Act.put, List.setIfInBounds_toArray, List.set_cons_zero, List.set_cons_succ, i64_w, i32_w]
                        rfl
                      refine pure_ (i := 5) (N := some 106) (v := ?_) (a' := ?_) #[true, true, false, false, false, true, false, false, false, false, false, false, false, false, false, false, false, false, false, false, false, false, false, false, false, false, false, false, false, false, false] rfl rfl (any_of HT_.out (by kernel_rfl)) (fun _ _ _ h => h) (Or.inl ⟨by rfl, ?_⟩) ?_ ?_
                      rotate_left
                      · intro w'
                        go_simp
                        with_reducible rfl
                      rotate_left
                      · simp only [Act.put, List.setIfInBounds_toArray, List.set_cons_zero, List.set_cons_succ, i64_w, i32_w]
                        rfl
                      refine take_ (i := 2) (N := some 103) (v := ?_) (a' := ?_) #[true, true, true, false, false, true, false, false, false, false, false, false, false, false, false, false, false, false, false, false, false, false, false, false, false, false, false, false, false, false, false] rfl rfl (take_ofW HT_.out HW_.out (by kernel_rfl)) (fun _ _ _ h => h) (Or.inl ⟨by rfl, ?_⟩) hHeld ?_ ?_
                      rotate_left
                      · intro w' s0
                        go_simp
                        with_reducible rfl
                      rotate_left
                      · simp only [Act.put, List.setIfInBounds_toArray, List.set_cons_zero, List.set_cons_succ, i64_w, i32_w]
                        rfl
                      refine take_ (i := 6) (N := some 107) (v := ?_) (a' := ?_) #[true, true, true, false, false, true, true, false, false, false, false, false, false, false, false, false, false, false, false, false, false, false, false, false, false, false, false, false, false, false, false] rfl rfl (take_ofW HT_.out HW_.out (by kernel_rfl)) (fun _ _ _ h => h) (Or.inl ⟨by rfl, ?_⟩) hHeld ?_ ?_
                      rotate_left
                      · intro w' s0
                        go_simp
                        with_reducible rfl
                      rotate_left
                      · simp only [Act.put, List.setIfInBounds_toArray, List.set_cons_zero, List.set_cons_succ, i64_w, i32_w]
                        rfl
                      refine pure_ (i := 7) (N := some 108) (v := ?_) (a' := ?_) #[true, true, true, false, false, true, true, true, false, false, false, false, false, false, false, false, false, false, false, false, false, false, false, false, false, false, false, false, false, false, false] rfl rfl (any_of HT_.out (by kernel_rfl)) (fun _ _ _ h => h) (Or.inl ⟨by rfl, ?_⟩) ?_ ?_
                      rotate_left
                      · intro w'
                        go_simp
                        with_reducible rfl
                      rotate_left
                      · simp only [Act.put, List.setIfInBounds_toArray, List.set_cons_zero, List.set_cons_succ, i64_w, i32_w]
                        rfl
                      refine one_ (i := 3) (N := some 104) #[true, true, true, true, false, true, true, true, false, false, false, false, false, false, false, false, false, false, false, false, false, false, false, false, false, false, false, false, false, false, false] rfl rfl (one_of HT_.out (by kernel_rfl)) (by decide) (fun K hK => ?_)
                      refine goes_ Try.func15 (by kernel_rfl) rfl #[.agg #[.slice Ao17 t242.length co17], .int .i64 0] (by rfl) rfl rfl (by (try simp only [List.map_toArray, List.map_cons, List.map_nil]); first | done | rfl | (simp only [List.length_drop, List.length_take]; rfl)) ?_
                      with_reducible refine (chain_Since.calls (fun k_ => (k_ ≠ gb245 ∧ (k_ ≠ gb252 ∧ k_ ≠ gb259))) _ _ t242 0 t262 _ ?side1 A72.out).mono ?_
                      (case side1 => exact Kd.N_V (HO_246000.out))
                      rintro e w79 ⟨v263, rfl, ho0, hb⟩
                      refine ⟨_, rfl, ?_⟩
                      have n0_ := Aside0.mk (Kd.N_below (by (with_reducible repeat (first | apply Kd.N_alloc | apply Kd.N_drewN | apply Kd.N_drew)); exact HO_246000.out) hb)
                      have n1_ := Aside0.mk (Kd.V_below (by (with_reducible repeat (first | apply Kd.V_alloc | apply Kd.V_drewN | apply Kd.V_drew)); exact HO_253001.out) hb)
                      have n2_ := Aside0.mk (Kd.V_below (by (with_reducible repeat (first | apply Kd.V_alloc | apply Kd.V_drewN | apply Kd.V_drew)); exact HO_260001.out) hb)
                      have n3_ := Aside0.mk (Kd.V_lower (Kd.V_mono (ok' := fun k_ => k_ ≠ gb245 ∧ k_ ≠ gb252 ∧ k_ ≠ gb259) ho0 (fun k_ hk_ => ⟨Or.elim hk_ (fun hs_ => hs_.1) (fun hn_ => (Kd.freshB (g := gb245) (o := .cells #[.slice Ao17 t242.length co17] 29 (0, 0)) (by (with_reducible repeat (first | refine blk_drewN ?_ _ | refine blk_drew ?_ | refine blk_alloc ?_ _)); exact BK245.out) k_ hn_)), Or.elim hk_ (fun hs_ => hs_.2.1) (fun hn_ => (Kd.freshB (g := gb252) (o := .cells #[.int .i64 t246, .slice Ao25 t247.length co25, .bool t250] 37 (0, 0)) (by (with_reducible repeat (first | refine blk_drewN ?_ _ | refine blk_drew ?_ | refine blk_alloc ?_ _)); exact BK252.out) k_ hn_)), Or.elim hk_ (fun hs_ => hs_.2.2) (fun hn_ => (Kd.freshB (g := gb259) (o := .cells #[.int .i64 t253, .slice Ao33 t254.length co33, .bool t257] 37 (0, 0)) (by (with_reducible repeat (first | refine blk_drewN ?_ _ | refine blk_drew ?_ | refine blk_alloc ?_ _)); exact BK259.out) k_ hn_))⟩)) (below_size (by repeat (first | (with_reducible first | exact HB.out | apply below_alloc | apply pw_below_drewN | apply below_drew1 | refine below_set ?_ GE245.out | refine below_set ?_ GE252.out | refine below_set ?_ GE259.out) | exact HB.out))))
                      have n4_ := Aside0.mk (blk_below (g := gb245) (o := .cells #[.slice Ao17 t242.length co17] 29 (0, 0)) (by (with_reducible repeat (first | refine blk_drewN ?_ _ | refine blk_drew ?_ | refine blk_alloc ?_ _)); exact BK245.out) hb)
                      have n5_ := Aside0.mk (blk_below (g := gb252) (o := .cells #[.int .i64 t246, .slice Ao25 t247.length co25, .bool t250] 37 (0, 0)) (by (with_reducible repeat (first | refine blk_drewN ?_ _ | refine blk_drew ?_ | refine blk_alloc ?_ _)); exact BK252.out) hb)
                      have n6_ := Aside0.mk (blk_below (g := gb259) (o := .cells #[.int .i64 t253, .slice Ao33 t254.length co33, .bool t257] 37 (0, 0)) (by (with_reducible repeat (first | refine blk_drewN ?_ _ | refine blk_drew ?_ | refine blk_alloc ?_ _)); exact BK259.out) hb)
                      have n7_ := Aside0.mk (below_step (by repeat (first | (with_reducible first | exact HB.out | apply below_alloc | apply pw_below_drewN | apply below_drew1 | refine below_set ?_ GE245.out | refine below_set ?_ GE252.out | refine below_set ?_ GE259.out) | exact HB.out)) hb)
                      clear HO_246000
                      clear HO_253001
                      clear HO_260001
                      clear BK245
                      clear BK252
                      clear BK259
                      clear HB
                      have HO_246000 := n0_
                      have HO_253001 := n1_
                      have HO_260001 := n2_
                      have HO264 := n3_
                      have BK245 := n4_
                      have BK252 := n5_
                      have BK259 := n6_
                      have HB := n7_
                      clear n0_ n1_ n2_ n3_ n4_ n5_ n6_ n7_
                      (try clear hb)
                      (try clear hb2)
                      (try clear hk)
                      (try clear hi)
                      (try clear ho0)
                      obtain ⟨Ao80, co80, eo80⟩ := Kd.V_slice HO264.out
                      (first | subst eo80 | (injection eo80 with f1_ f2_ f3_; have f4_ := f1_.symm; have f5_ := f3_.symm; clear f1_ f2_ f3_; subst f4_; subst f5_))
                      refine hK.out _ _ ((blk_cell BK245.out 0).trans rfl) (fun hHeld => ?_)
                      clear hK K
                      refine norm_ (a' := ?_) ?_ ?_
                      rotate_left
                      · show Act.put _ (some 104) _ = _
                        simp only [Act.put, List.setIfInBounds_toArray, List.set_cons_zero, List.set_cons_succ, i64_w, i32_w]
                        rfl
                      refine pure_ (i := 4) (N := some 105) (v := ?_) (a' := ?_) #[true, true, true, true, true, true, true, true, false, false, false, false, false, false, false, false, false, false, false, false, false, false, false, false, false, false, false, false, false, false, false] rfl rfl (any_of HT_.out (by kernel_rfl)) (fun _ _ _ h => h) (Or.inl ⟨by rfl, ?_⟩) ?_ ?_
                      rotate_left
                      · intro w'
                        go_simp
                        with_reducible rfl
                      rotate_left
                      · simp only [Act.put, List.setIfInBounds_toArray, List.set_cons_zero, List.set_cons_succ, i64_w, i32_w]
                        rfl
                      refine pure_ (i := 8) (N := some 109) (v := ?_) (a' := ?_) #[true, true, true, true, true, true, true, true, true, false, false, false, false, false, false, false, false, false, false, false, false, false, false, false, false, false, false, false, false, false, false] rfl rfl (any_of HT_.out (by kernel_rfl)) (fun _ _ _ h => h) (Or.inl ⟨by rfl, ?_⟩) ?_ ?_
                      rotate_left
                      · intro w'
                        go_simp
                        with_reducible rfl
                      rotate_left
                      · simp only [Act.put, List.setIfInBounds_toArray, List.set_cons_zero, List.set_cons_succ, i64_w, i32_w]
                        rfl
                      refine pure_ (i := 9) (N := some 110) (v := ?_) (a' := ?_) #[true, true, true, true, true, true, true, true, true, true, false, false, false, false, false, false, false, false, false, false, false, false, false, false, false, false, false, false, false, false, false] rfl rfl (any_of HT_.out (by kernel_rfl)) (fun _ _ _ h => h) (Or.inl ⟨by rfl, ?_⟩) ?_ ?_
                      rotate_left
                      · intro w'
                        go_simp
                        with_reducible rfl
                      rotate_left
                      · simp only [Act.put, List.setIfInBounds_toArray, List.set_cons_zero, List.set_cons_succ, i64_w, i32_w]
                        rfl
                      refine pure_ (i := 10) (N := some 111) (v := ?_) (a' := ?_) #[true, true, true, true, true, true, true, true, true, true, true, false, false, false, false, false, false, false, false, false, false, false, false, false, false, false, false, false, false, false, false] rfl rfl (any_of HT_.out (by kernel_rfl)) (fun _ _ _ h => h) (Or.inl ⟨by rfl, ?_⟩) ?_ ?_
                      rotate_left
                      · intro w'
                        go_simp
                        with_reducible rfl
                      rotate_left
                      · simp only [Act.put, List.setIfInBounds_toArray, List.set_cons_zero, List.set_cons_succ, i64_w, i32_w]
                        rfl
                      refine pure_ (i := 11) (N := some 112) (v := ?_) (a' := ?_) #[true, true, true, true, true, true, true, true, true, true, true, true, false, false, false, false, false, false, false, false, false, false, false, false, false, false, false, false, false, false, false] rfl rfl (any_of HT_.out (by kernel_rfl)) (fun _ _ _ h => h) (Or.inl ⟨by rfl, ?_⟩) ?_ ?_
                      rotate_left
                      · intro w'
                        go_simp
                        with_reducible rfl
                      rotate_left
                      · simp only [Act.put, List.setIfInBounds_toArray, List.set_cons_zero, List.set_cons_succ, i64_w, i32_w]
                        rfl
                      refine take_ (i := 12) (N := some 113) (v := ?_) (a' := ?_) #[true, true, true, true, true, true, true, true, true, true, true, true, true, false, false, false, false, false, false, false, false, false, false, false, false, false, false, false, false, false, false] rfl rfl (take_ofW HT_.out HW_.out (by kernel_rfl)) (fun _ _ _ h => h) (Or.inl ⟨by rfl, ?_⟩) hHeld ?_ ?_
                      rotate_left
                      · intro w' s0
                        go_simp
                        with_reducible rfl
                      rotate_left
                      · simp only [Act.put, List.setIfInBounds_toArray, List.set_cons_zero, List.set_cons_succ, i64_w, i32_w]
                        rfl
                      refine pure_ (i := 13) (N := some 114) (v := ?_) (a' := ?_) #[true, true, true, true, true, true, true, true, true, true, true, true, true, true, false, false, false, false, false, false, false, false, false, false, false, false, false, false, false, false, false] rfl rfl (any_of HT_.out (by kernel_rfl)) (fun _ _ _ h => h) (Or.inl ⟨by rfl, ?_⟩) ?_ ?_
                      rotate_left
                      · intro w'
                        go_simp
                        with_reducible rfl
                      rotate_left
                      · simp only [Act.put, List.setIfInBounds_toArray, List.set_cons_zero, List.set_cons_succ, i64_w, i32_w]
                        rfl
                      refine pure_ (i := 14) (N := some 115) (v := ?_) (a' := ?_) #[true, true, true, true, true, true, true, true, true, true, true, true, true, true, true, false, false, false, false, false, false, false, false, false, false, false, false, false, false, false, false] rfl rfl (any_of HT_.out (by kernel_rfl)) (fun _ _ _ h => h) (Or.inl ⟨by rfl, ?_⟩) ?_ ?_
                      rotate_left
                      · intro w'
                        go_simp
                        with_reducible rfl
                      rotate_left
                      · simp only [Act.put, List.setIfInBounds_toArray, List.set_cons_zero, List.set_cons_succ, i64_w, i32_w]
                        rfl
                      refine pure_ (i := 15) (N := some 116) (v := ?_) (a' := ?_) #[true, true, true, true, true, true, true, true, true, true, true, true, true, true, true, true, false, false, false, false, false, false, false, false, false, false, false, false, false, false, false] rfl rfl (any_of HT_.out (by kernel_rfl)) (fun _ _ _ h => h) (Or.inl ⟨by rfl, ?_⟩) ?_ ?_
                      rotate_left
                      · intro w'
                        go_simp
                        with_reducible rfl
                      rotate_left
                      · simp only [Act.put, List.setIfInBounds_toArray, List.set_cons_zero, List.set_cons_succ, i64_w, i32_w]
                        rfl
                      refine pure_ (i := 16) (N := some 117) (v := undef) (a' := ?_) #[true, true, true, true, true, true, true, true, true, true, true, true, true, true, true, true, true, false, false, false, false, false, false, false, false, false, false, false, false, false, false] rfl rfl (any_of HT_.out (by kernel_rfl)) (fun _ _ _ h => h) (Or.inr ⟨by rfl, rfl⟩) ?_ ?_
                      rotate_left
                      · simp only [Act.put, List.setIfInBounds_toArray, List.set_cons_zero, List.set_cons_succ, i64_w, i32_w]
                        rfl
                      refine pure_ (i := 17) (N := some 118) (v := undef) (a' := ?_) #[true, true, true, true, true, true, true, true, true, true, true, true, true, true, true, true, true, true, false, false, false, false, false, false, false, false, false, false, false, false, false] rfl rfl (any_of HT_.out (by kernel_rfl)) (fun _ _ _ h => h) (Or.inr ⟨by rfl, rfl⟩) ?_ ?_
                      rotate_left
                      · simp only [Act.put, List.setIfInBounds_toArray, List.set_cons_zero, List.set_cons_succ, i64_w, i32_w]
                        rfl
                      refine pure_ (i := 18) (N := some 119) (v := undef) (a' := ?_) #[true, true, true, true, true, true, true, true, true, true, true, true, true, true, true, true, true, true, true, false, false, false, false, false, false, false, false, false, false, false, false] rfl rfl (any_of HT_.out (by kernel_rfl)) (fun _ _ _ h => h) (Or.inr ⟨by rfl, rfl⟩) ?_ ?_
                      rotate_left
                      · simp only [Act.put, List.setIfInBounds_toArray, List.set_cons_zero, List.set_cons_succ, i64_w, i32_w]
                        rfl
                      refine pure_ (i := 19) (N := some 120) (v := undef) (a' := ?_) #[true, true, true, true, true, true, true, true, true, true, true, true, true, true, true, true, true, true, true, true, false, false, false, false, false, false, false, false, false, false, false] rfl rfl (any_of HT_.out (by kernel_rfl)) (fun _ _ _ h => h) (Or.inr ⟨by rfl, rfl⟩) ?_ ?_
                      rotate_left
                      · simp only [Act.put, List.setIfInBounds_toArray, List.set_cons_zero, List.set_cons_succ, i64_w, i32_w]
                        rfl
                      refine pure_ (i := 20) (N := some 121) (v := undef) (a' := ?_) #[true, true, true, true, true, true, true, true, true, true, true, true, true, true, true, true, true, true, true, true, true, false, false, false, false, false, false, false, false, false, false] rfl rfl (any_of HT_.out (by kernel_rfl)) (fun _ _ _ h => h) (Or.inr ⟨by rfl, rfl⟩) ?_ ?_
                      rotate_left
                      · simp only [Act.put, List.setIfInBounds_toArray, List.set_cons_zero, List.set_cons_succ, i64_w, i32_w]
                        rfl
                      refine pure_ (i := 21) (N := some 122) (v := undef) (a' := ?_) #[true, true, true, true, true, true, true, true, true, true, true, true, true, true, true, true, true, true, true, true, true, true, false, false, false, false, false, false, false, false, false] rfl rfl (any_of HT_.out (by kernel_rfl)) (fun _ _ _ h => h) (Or.inr ⟨by rfl, rfl⟩) ?_ ?_
                      rotate_left
                      · simp only [Act.put, List.setIfInBounds_toArray, List.set_cons_zero, List.set_cons_succ, i64_w, i32_w]
                        rfl
                      refine pure_ (i := 22) (N := some 123) (v := undef) (a' := ?_) #[true, true, true, true, true, true, true, true, true, true, true, true, true, true, true, true, true, true, true, true, true, true, true, false, false, false, false, false, false, false, false] rfl rfl (any_of HT_.out (by kernel_rfl)) (fun _ _ _ h => h) (Or.inr ⟨by rfl, rfl⟩) ?_ ?_
                      rotate_left
                      · simp only [Act.put, List.setIfInBounds_toArray, List.set_cons_zero, List.set_cons_succ, i64_w, i32_w]
                        rfl
                      refine pure_ (i := 23) (N := some 124) (v := undef) (a' := ?_) #[true, true, true, true, true, true, true, true, true, true, true, true, true, true, true, true, true, true, true, true, true, true, true, true, false, false, false, false, false, false, false] rfl rfl (any_of HT_.out (by kernel_rfl)) (fun _ _ _ h => h) (Or.inr ⟨by rfl, rfl⟩) ?_ ?_
                      rotate_left
                      · simp only [Act.put, List.setIfInBounds_toArray, List.set_cons_zero, List.set_cons_succ, i64_w, i32_w]
                        rfl
                      refine pure_ (i := 24) (N := some 125) (v := undef) (a' := ?_) #[true, true, true, true, true, true, true, true, true, true, true, true, true, true, true, true, true, true, true, true, true, true, true, true, true, false, false, false, false, false, false] rfl rfl (any_of HT_.out (by kernel_rfl)) (fun _ _ _ h => h) (Or.inr ⟨by rfl, rfl⟩) ?_ ?_
                      rotate_left
                      · simp only [Act.put, List.setIfInBounds_toArray, List.set_cons_zero, List.set_cons_succ, i64_w, i32_w]
                        rfl
                      refine pure_ (i := 25) (N := some 126) (v := undef) (a' := ?_) #[true, true, true, true, true, true, true, true, true, true, true, true, true, true, true, true, true, true, true, true, true, true, true, true, true, true, false, false, false, false, false] rfl rfl (any_of HT_.out (by kernel_rfl)) (fun _ _ _ h => h) (Or.inr ⟨by rfl, rfl⟩) ?_ ?_
                      rotate_left
                      · simp only [Act.put, List.setIfInBounds_toArray, List.set_cons_zero, List.set_cons_succ, i64_w, i32_w]
                        rfl
                      refine pure_ (i := 26) (N := some 127) (v := undef) (a' := ?_) #[true, true, true, true, true, true, true, true, true, true, true, true, true, true, true, true, true, true, true, true, true, true, true, true, true, true, true, false, false, false, false] rfl rfl (any_of HT_.out (by kernel_rfl)) (fun _ _ _ h => h) (Or.inr ⟨by rfl, rfl⟩) ?_ ?_
                      rotate_left
                      · simp only [Act.put, List.setIfInBounds_toArray, List.set_cons_zero, List.set_cons_succ, i64_w, i32_w]
                        rfl
                      refine pure_ (i := 27) (N := some 128) (v := undef) (a' := ?_) #[true, true, true, true, true, true, true, true, true, true, true, true, true, true, true, true, true, true, true, true, true, true, true, true, true, true, true, true, false, false, false] rfl rfl (any_of HT_.out (by kernel_rfl)) (fun _ _ _ h => h) (Or.inr ⟨by rfl, rfl⟩) ?_ ?_
                      rotate_left
                      · simp only [Act.put, List.setIfInBounds_toArray, List.set_cons_zero, List.set_cons_succ, i64_w, i32_w]
                        rfl
                      refine pure_ (i := 28) (N := some 129) (v := ?_) (a' := ?_) #[true, true, true, true, true, true, true, true, true, true, true, true, true, true, true, true, true, true, true, true, true, true, true, true, true, true, true, true, true, false, false] rfl rfl (any_of HT_.out (by kernel_rfl)) (fun _ _ _ h => h) (Or.inl ⟨by rfl, ?_⟩) ?_ ?_
                      rotate_left
                      · intro w'
                        go_simp
                        with_reducible rfl
                      rotate_left
                      · simp only [Act.put, List.setIfInBounds_toArray, List.set_cons_zero, List.set_cons_succ, i64_w, i32_w]
                        rfl
                      refine pure_ (i := 29) (N := some 130) (v := ?_) (a' := ?_) #[true, true, true, true, true, true, true, true, true, true, true, true, true, true, true, true, true, true, true, true, true, true, true, true, true, true, true, true, true, true, false] rfl rfl (any_of HT_.out (by kernel_rfl)) (fun _ _ _ h => h) (Or.inl ⟨by rfl, ?_⟩) ?_ ?_
                      rotate_left
                      · intro w'
                        go_simp
                        with_reducible rfl
                      rotate_left
                      · simp only [Act.put, List.setIfInBounds_toArray, List.set_cons_zero, List.set_cons_succ, i64_w, i32_w]
                        rfl
                      refine pure_ (i := 30) (N := some 6) (v := ?_) (a' := ?_) #[true, true, true, true, true, true, true, true, true, true, true, true, true, true, true, true, true, true, true, true, true, true, true, true, true, true, true, true, true, true, true] rfl rfl (any_of HT_.out (by kernel_rfl)) (fun _ _ _ h => h) (Or.inl ⟨by rfl, ?_⟩) ?_ ?_
                      rotate_left
                      · intro w'
                        go_simp
                        with_reducible rfl
                      rotate_left
                      · simp only [Act.put, List.setIfInBounds_toArray, List.set_cons_zero, List.set_cons_succ, i64_w, i32_w]
                        rfl
                      refine done_ (done_of HT_.out (by kernel_rfl)) ?_
                      try go_wp2
                      go_ret
                      first | (with_reducible exact (clash2 A72 A11).elim) | (with_reducible exact (clash2 A11 A72).elim) | (with_reducible exact (clash2 A72 A9).elim) | (with_reducible exact (clash2 A9 A72).elim) | (with_reducible exact (clash2 A72 A7).elim) | (with_reducible exact (clash2 A7 A72).elim) | (with_reducible exact (clash2 A72 A5).elim) | (with_reducible exact (clash2 A5 A72).elim) | (with_reducible exact (clash2 A72 A4).elim) | (with_reducible exact (clash2 A4 A72).elim) | (with_reducible exact (clash2 A11 A9).elim) | (with_reducible exact (clash2 A9 A11).elim) | (with_reducible exact (clash2 A11 A7).elim) | (with_reducible exact (clash2 A7 A11).elim) | (with_reducible exact (clash2 A11 A5).elim) | (with_reducible exact (clash2 A5 A11).elim) | (with_reducible exact (clash2 A11 A4).elim) | (with_reducible exact (clash2 A4 A11).elim) | (with_reducible exact (clash2 A9 A7).elim) | (with_reducible exact (clash2 A7 A9).elim) | (with_reducible exact (clash2 A9 A5).elim) | (with_reducible exact (clash2 A5 A9).elim) | (with_reducible exact (clash2 A9 A4).elim) | (with_reducible exact (clash2 A4 A9).elim) | (with_reducible exact (clash2 A7 A5).elim) | (with_reducible exact (clash2 A5 A7).elim) | (with_reducible exact (clash2 A7 A4).elim) | (with_reducible exact (clash2 A4 A7).elim) | (with_reducible exact (clash2 A5 A4).elim) | (with_reducible exact (clash2 A4 A5).elim) | exact ⟨by first | rfl | (simp [errW_none, errW_some] <;> rfl) | (simp only [← hji8, ← hji10]; first | rfl | (simp [errW_none, errW_some] <;> rfl)) | (simp [*, errW_none, errW_some] <;> rfl), by repeat (first | (with_reducible first | exact HB.out | apply below_alloc | apply pw_below_drewN | apply below_drew1 | refine below_set ?_ GE245.out | refine below_set ?_ GE252.out | refine below_set ?_ GE259.out) | exact HB.out)⟩
                    · rw [if_neg c74] at H
                      have c74b0 : ((t242.length : Int) == 0) = false := beq_eq_false_iff_ne.mpr c74
                      have c74b1 : ((t242.length : Int) != 0) = true := bne_iff_ne.mpr c74
                      have c74b2 : ¬ (t242 = []) := fun h_ => c74 (by rw [h_]; rfl)
                      replace H := Option.bind_eq_some_iff.mp H
                      obtain ⟨t265, A810, H⟩ := H
                      replace H : (if 0 ≤ (wrap64 ((t242.length : Int) - 1)) then (if (wrap64 ((t242.length : Int) - 1)) < (t242.length : Int) then (some (t265 == ((rd_T37 t242 (wrap64 ((t242.length : Int) - 1))).f0))) else (none)) else (none)) = some r := H
                      have A81 := Aside0.mk A810
                      clear A810
                      obtain ⟨ji82, hji82⟩ : ∃ j_ : Int, (wrap64 ((t242.length : Int) - 1)) = j_ := ⟨_, rfl⟩
                      replace H : (if 0 ≤ (ji82) then (if (ji82) < (t242.length : Int) then (some (t265 == ((rd_T37 t242 (ji82)).f0))) else (none)) else (none)) = some r := by first | (rw [hji82] at H; exact H) | (simp only [hji82] at H ⊢; exact H)
                      (try rw [hji82] at A72)
                      (try rw [hji82] at A81)
                      have hji82w : (IntKind.i64.wrap ((t242.length : Int) - 1)) = ji82 := (i64_w _).trans hji82
                      by_cases c83 : 0 ≤ (ji82)
                      · rw [if_pos c83] at H
                        have c83b0 : decide (0 ≤ (ji82)) = true := decide_eq_true c83
                        clear c83
                        by_cases c84 : (ji82) < (t242.length : Int)
                        · rw [if_pos c84] at H
                          have c84b0 : decide ((ji82) < (t242.length : Int)) = true := decide_eq_true c84
                          clear c84
                          obtain rfl := Option.some.inj H
                          have hnb85 := NB245_252.out
                          have hnc85 := NB252_245.out
                          have hnb86 := NB245_259.out
                          have hnc86 := NB259_245.out
                          have hcz87_0 : wr.cell? ⟨gb245, 0, none⟩ = some (.slice Ao17 t242.length co17) := (blk_cell BK245.out 0).trans rfl
                          have hfz87_0 := blk_frozen BK245.out 0
                          try go_wp2
                          have n0_ := Aside0.mk (Kd.N_drew HO_246000.out)
                          have n1_ := Aside0.mk (Kd.V_drew HO_253001.out)
                          have n2_ := Aside0.mk (Kd.V_drew HO_260001.out)
                          have n3_ := Aside0.mk (blk_drew BK245.out)
                          have n4_ := Aside0.mk (blk_drew BK252.out)
                          have n5_ := Aside0.mk (blk_drew BK259.out)
                          have n6_ := Aside0.mk (below_drew1 HB.out)
                          clear HO_246000
                          clear HO_253001
                          clear HO_260001
                          clear BK245
                          clear BK252
                          clear BK259
                          clear HB
                          have HO_246000 := n0_
                          have HO_253001 := n1_
                          have HO_260001 := n2_
                          have BK245 := n3_
                          have BK252 := n4_
                          have BK259 := n5_
                          have HB := n6_
                          clear n0_ n1_ n2_ n3_ n4_ n5_ n6_
                          have p266 : 0 ≤ ((ji82) : Int) := of_decide_eq_true (by first | (with_reducible assumption) | assumption)
                          have q266 : (ji82) < (t242.length : Int) := of_decide_eq_true (by first | (with_reducible assumption) | assumption)
                          obtain ⟨ad266, A266_1, c266_1, e266, hx266_0, hx266_1, hx266_2, hl266_1, hi266_1⟩ := at_T37 (Kd.N_reads' HO_246000.out).2.2 (ji82) p266 q266
                          cases e266
                          obtain ⟨ce266, hce266, hMe266, hcc266⟩ := Kd.N_get HO_246000.out z37 (ji82) p266 (by first | exact q266 | exact of_decide_eq_true (by first | (with_reducible assumption) | assumption) | (have e_ := (Kd.N_reads' HO_246000.out).1; omega))
                          obtain ⟨ua266_1, uc266_1, rfl, ul266_1, ge266_1⟩ := k37_openF hMe266
                          have hv266_1 := hcc266 1 _ rfl
                          rw [add_field _ _ 1 (by omega)] at hv266_1
                          replace hv266_1 := Option.some.inj (hv266_1.symm.trans hx266_1)
                          injection hv266_1 with hva_ hvn_ hvc_
                          rw [hva_] at ge266_1
                          rw [hvc_] at ul266_1
                          have HL266_1 := Aside0.mk (show Kd.V (Kd.int .u8) 5 _ w.heap.size _ _ ((rd_T37 t242 (ji82)).f1) from Kd.V_mk ul266_1 ge266_1)
                          clear hva_ hvn_ hvc_ ge266_1 ul266_1
                          clear hcc266 hce266
                          have HR266_1 := Aside0.mk hi266_1
                          have HC266_1 := Aside0.mk hl266_1
                          clear hi266_1 hl266_1
                          replace p266 := eq_true p266
                          replace q266 := eq_true q266
                          refine start_ (n := 31) (S := fun w' => w'.cell? ⟨gb245, 0, none⟩ = some (.slice (some ad266) t242.length co17) ∧ w'.cell? (ad266.add (((ji82)).toNat * 3)) = some (.int .i64 ((rd_T37 t242 (ji82)).f0)) ∧ w'.cell? ⟨(ad266.add (((ji82)).toNat * 3)).block, (ad266.add (((ji82)).toNat * 3)).off + 1, none⟩ = some (.slice A266_1 ((rd_T37 t242 (ji82)).f1).length c266_1) ∧ w'.cell? ⟨(ad266.add (((ji82)).toNat * 3)).block, (ad266.add (((ji82)).toNat * 3)).off + 2, none⟩ = some (.bool ((rd_T37 t242 (ji82)).f2))) (ds := []) #[false, false, false, false, false, false, false, false, false, false, false, false, false, false, false, false, false, false, false, false, false, false, false, false, false, false, false, false, false, false, false] (by kernel_rfl) rfl rfl ⟨(blk_cell BK245.out 0).trans rfl, hx266_0, hx266_1, hx266_2⟩ (fun hHeld => ?_); refine with_tabW godwitlaw07_ChainSees.tab14 godwitlaw07_ChainSees.bits14 (fun HT_ HW_ => ?_)
                          generalize wr.drew = w88 at HO_246000 HO_253001 HO_260001 BK245 BK252 BK259 HB HL266_1 HR266_1 hx266_0 hx266_1 hx266_2 hHeld ⊢
                          refine pure_ (i := 0) (N := some 101) (v := ?_) (a' := ?_) #[true, false, false, false, false, false, false, false, false, false, false, false, false, false, false, false, false, false, false, false, false, false, false, false, false, false, false, false, false, false, false] rfl rfl (any_of HT_.out (by kernel_rfl)) (fun _ _ _ h => h) (Or.inl ⟨by rfl, ?_⟩) ?_ ?_
                          rotate_left
                          · intro w'
                            go_simp
                            with_reducible rfl
                          rotate_left
                          · simp only [Act.put, List.setIfInBounds_toArray, List.set_cons_zero, List.set_cons_succ, i64_w, i32_w]
                            rfl
                          refine pure_ (i := 1) (N := some 102) (v := ?_) (a' := ?_) #[true, true, false, false, false, false, false, false, false, false, false, false, false, false, false, false, false, false, false, false, false, false, false, false, false, false, false, false, false, false, false] rfl rfl (any_of HT_.out (by kernel_rfl)) (fun _ _ _ h => h) (Or.inl ⟨by rfl, ?_⟩) ?_ ?_
                          rotate_left
                          · intro w'
                            go_simp
                            with_reducible rfl
                          rotate_left
                          · simp only [Act.put, List.setIfInBounds_toArray, List.set_cons_zero, List.set_cons_succ, i64_w, i32_w]
                            rfl
                          refine pure_ (i := 5) (N := some 106) (v := ?_) (a' := ?_) #[true, true, false, false, false, true, false, false, false, false, false, false, false, false, false, false, false, false, false, false, false, false, false, false, false, false, false, false, false, false, false] rfl rfl (any_of HT_.out (by kernel_rfl)) (fun _ _ _ h => h) (Or.inl ⟨by rfl, ?_⟩) ?_ ?_
                          rotate_left
                          · intro w'
                            go_simp
                            with_reducible rfl
                          rotate_left
                          · simp only [Act.put, List.setIfInBounds_toArray, List.set_cons_zero, List.set_cons_succ, i64_w, i32_w]
                            rfl
                          refine take_ (i := 2) (N := some 103) (v := ?_) (a' := ?_) #[true, true, true, false, false, true, false, false, false, false, false, false, false, false, false, false, false, false, false, false, false, false, false, false, false, false, false, false, false, false, false] rfl rfl (take_ofW HT_.out HW_.out (by kernel_rfl)) (fun _ _ _ h => h) (Or.inl ⟨by rfl, ?_⟩) hHeld ?_ ?_
                          rotate_left
                          · rintro w' ⟨s0, s1, s2, s3⟩
                            go_simp
                            with_reducible rfl
                          rotate_left
                          · simp only [Act.put, List.setIfInBounds_toArray, List.set_cons_zero, List.set_cons_succ, i64_w, i32_w]
                            rfl
                          refine take_ (i := 6) (N := some 107) (v := ?_) (a' := ?_) #[true, true, true, false, false, true, true, false, false, false, false, false, false, false, false, false, false, false, false, false, false, false, false, false, false, false, false, false, false, false, false] rfl rfl (take_ofW HT_.out HW_.out (by kernel_rfl)) (fun _ _ _ h => h) (Or.inl ⟨by rfl, ?_⟩) hHeld ?_ ?_
                          rotate_left
                          · rintro w' ⟨s0, s1, s2, s3⟩
                            go_simp
                            with_reducible rfl
                          rotate_left
                          · simp only [Act.put, List.setIfInBounds_toArray, List.set_cons_zero, List.set_cons_succ, i64_w, i32_w]
                            rfl
                          refine pure_ (i := 7) (N := some 108) (v := ?_) (a' := ?_) #[true, true, true, false, false, true, true, true, false, false, false, false, false, false, false, false, false, false, false, false, false, false, false, false, false, false, false, false, false, false, false] rfl rfl (any_of HT_.out (by kernel_rfl)) (fun _ _ _ h => h) (Or.inl ⟨by rfl, ?_⟩) ?_ ?_
                          rotate_left
                          · intro w'
                            go_simp
                            with_reducible rfl
                          rotate_left
                          · simp only [Act.put, List.setIfInBounds_toArray, List.set_cons_zero, List.set_cons_succ, i64_w, i32_w]
                            rfl
                          refine one_ (i := 3) (N := some 104) #[true, true, true, true, false, true, true, true, false, false, false, false, false, false, false, false, false, false, false, false, false, false, false, false, false, false, false, false, false, false, false] rfl rfl (one_of HT_.out (by kernel_rfl)) (by decide) (fun K hK => ?_)
                          refine goes_ Try.func15 (by kernel_rfl) rfl #[.agg #[.slice (some ad266) t242.length co17], .int .i64 0] (by rfl) rfl rfl (by (try simp only [List.map_toArray, List.map_cons, List.map_nil]); first | done | rfl | (simp only [List.length_drop, List.length_take]; rfl)) ?_
                          with_reducible refine (chain_Since.calls (fun k_ => (k_ ≠ gb245 ∧ (k_ ≠ gb252 ∧ k_ ≠ gb259))) _ _ t242 0 t262 _ ?side1 A72.out).mono ?_
                          (case side1 => exact Kd.N_V (HO_246000.out))
                          rintro e w89 ⟨v263, rfl, ho0, hb⟩
                          have HS1_ := (hb.cell (World.block_lt_of_cell? _ _ (hHeld.2.1))).trans (hHeld.2.1)
                          have HS2_ := (hb.cell (World.block_lt_of_cell? _ _ (hHeld.2.2.1))).trans (hHeld.2.2.1)
                          have HS3_ := (hb.cell (World.block_lt_of_cell? _ _ (hHeld.2.2.2))).trans (hHeld.2.2.2)
                          refine ⟨_, rfl, ?_⟩
                          have n0_ := Aside0.mk (Kd.N_below (by (with_reducible repeat (first | apply Kd.N_alloc | apply Kd.N_drewN | apply Kd.N_drew)); exact HO_246000.out) hb)
                          have n1_ := Aside0.mk (Kd.V_below (by (with_reducible repeat (first | apply Kd.V_alloc | apply Kd.V_drewN | apply Kd.V_drew)); exact HO_253001.out) hb)
                          have n2_ := Aside0.mk (Kd.V_below (by (with_reducible repeat (first | apply Kd.V_alloc | apply Kd.V_drewN | apply Kd.V_drew)); exact HO_260001.out) hb)
                          have n3_ := Aside0.mk (Kd.V_lower (Kd.V_mono (ok' := fun k_ => k_ ≠ gb245 ∧ k_ ≠ gb252 ∧ k_ ≠ gb259) ho0 (fun k_ hk_ => ⟨Or.elim hk_ (fun hs_ => hs_.1) (fun hn_ => (Kd.freshB (g := gb245) (o := .cells #[.slice (some ad266) t242.length co17] 29 (0, 0)) (by (with_reducible repeat (first | refine blk_drewN ?_ _ | refine blk_drew ?_ | refine blk_alloc ?_ _)); exact BK245.out) k_ hn_)), Or.elim hk_ (fun hs_ => hs_.2.1) (fun hn_ => (Kd.freshB (g := gb252) (o := .cells #[.int .i64 t246, .slice Ao25 t247.length co25, .bool t250] 37 (0, 0)) (by (with_reducible repeat (first | refine blk_drewN ?_ _ | refine blk_drew ?_ | refine blk_alloc ?_ _)); exact BK252.out) k_ hn_)), Or.elim hk_ (fun hs_ => hs_.2.2) (fun hn_ => (Kd.freshB (g := gb259) (o := .cells #[.int .i64 t253, .slice Ao33 t254.length co33, .bool t257] 37 (0, 0)) (by (with_reducible repeat (first | refine blk_drewN ?_ _ | refine blk_drew ?_ | refine blk_alloc ?_ _)); exact BK259.out) k_ hn_))⟩)) (below_size (by repeat (first | (with_reducible first | exact HB.out | apply below_alloc | apply pw_below_drewN | apply below_drew1 | refine below_set ?_ GE245.out | refine below_set ?_ GE252.out | refine below_set ?_ GE259.out) | exact HB.out))))
                          have n4_ := Aside0.mk (blk_below (g := gb245) (o := .cells #[.slice (some ad266) t242.length co17] 29 (0, 0)) (by (with_reducible repeat (first | refine blk_drewN ?_ _ | refine blk_drew ?_ | refine blk_alloc ?_ _)); exact BK245.out) hb)
                          have n5_ := Aside0.mk (blk_below (g := gb252) (o := .cells #[.int .i64 t246, .slice Ao25 t247.length co25, .bool t250] 37 (0, 0)) (by (with_reducible repeat (first | refine blk_drewN ?_ _ | refine blk_drew ?_ | refine blk_alloc ?_ _)); exact BK252.out) hb)
                          have n6_ := Aside0.mk (blk_below (g := gb259) (o := .cells #[.int .i64 t253, .slice Ao33 t254.length co33, .bool t257] 37 (0, 0)) (by (with_reducible repeat (first | refine blk_drewN ?_ _ | refine blk_drew ?_ | refine blk_alloc ?_ _)); exact BK259.out) hb)
                          have n7_ := Aside0.mk (below_step (by repeat (first | (with_reducible first | exact HB.out | apply below_alloc | apply pw_below_drewN | apply below_drew1 | refine below_set ?_ GE245.out | refine below_set ?_ GE252.out | refine below_set ?_ GE259.out) | exact HB.out)) hb)
                          clear HO_246000
                          clear HO_253001
                          clear HO_260001
                          clear BK245
                          clear BK252
                          clear BK259
                          clear HB
                          have HO_246000 := n0_
                          have HO_253001 := n1_
                          have HO_260001 := n2_
                          have HO264 := n3_
                          have BK245 := n4_
                          have BK252 := n5_
                          have BK259 := n6_
                          have HB := n7_
                          clear n0_ n1_ n2_ n3_ n4_ n5_ n6_ n7_
                          (try clear hb)
                          (try clear hb2)
                          (try clear hk)
                          (try clear hi)
                          (try clear ho0)
                          obtain ⟨Ao90, co90, eo90⟩ := Kd.V_slice HO264.out
                          (first | subst eo90 | (injection eo90 with f1_ f2_ f3_; have f4_ := f1_.symm; have f5_ := f3_.symm; clear f1_ f2_ f3_; subst f4_; subst f5_))
                          refine hK.out _ _ ⟨(blk_cell BK245.out 0).trans rfl, HS1_, HS2_, HS3_⟩ (fun hHeld => ?_)
                          clear hK K
                          refine norm_ (a' := ?_) ?_ ?_
                          rotate_left
                          · show Act.put _ (some 104) _ = _
                            simp only [Act.put, List.setIfInBounds_toArray, List.set_cons_zero, List.set_cons_succ, i64_w, i32_w]
                            rfl
                          refine pure_ (i := 4) (N := some 105) (v := ?_) (a' := ?_) #[true, true, true, true, true, true, true, true, false, false, false, false, false, false, false, false, false, false, false, false, false, false, false, false, false, false, false, false, false, false, false] rfl rfl (any_of HT_.out (by kernel_rfl)) (fun _ _ _ h => h) (Or.inl ⟨by rfl, ?_⟩) ?_ ?_
                          rotate_left
                          · intro w'
                            go_simp
                            with_reducible rfl
                          rotate_left
                          · simp only [Act.put, List.setIfInBounds_toArray, List.set_cons_zero, List.set_cons_succ, i64_w, i32_w]
                            rfl
                          refine pure_ (i := 8) (N := some 109) (v := ?_) (a' := ?_) #[true, true, true, true, true, true, true, true, true, false, false, false, false, false, false, false, false, false, false, false, false, false, false, false, false, false, false, false, false, false, false] rfl rfl (any_of HT_.out (by kernel_rfl)) (fun _ _ _ h => h) (Or.inl ⟨by rfl, ?_⟩) ?_ ?_
                          rotate_left
                          · intro w'
                            go_simp
                            with_reducible rfl
                          rotate_left
                          · simp only [Act.put, List.setIfInBounds_toArray, List.set_cons_zero, List.set_cons_succ, i64_w, i32_w]
                            rfl
                          refine pure_ (i := 9) (N := some 110) (v := ?_) (a' := ?_) #[true, true, true, true, true, true, true, true, true, true, false, false, false, false, false, false, false, false, false, false, false, false, false, false, false, false, false, false, false, false, false] rfl rfl (any_of HT_.out (by kernel_rfl)) (fun _ _ _ h => h) (Or.inl ⟨by rfl, ?_⟩) ?_ ?_
                          rotate_left
                          · intro w'
                            go_simp
                            with_reducible rfl
                          rotate_left
                          · simp only [Act.put, List.setIfInBounds_toArray, List.set_cons_zero, List.set_cons_succ, i64_w, i32_w]
                            rfl
                          refine pure_ (i := 10) (N := some 111) (v := ?_) (a' := ?_) #[true, true, true, true, true, true, true, true, true, true, true, false, false, false, false, false, false, false, false, false, false, false, false, false, false, false, false, false, false, false, false] rfl rfl (any_of HT_.out (by kernel_rfl)) (fun _ _ _ h => h) (Or.inl ⟨by rfl, ?_⟩) ?_ ?_
                          rotate_left
                          · intro w'
                            go_simp
                            with_reducible rfl
                          rotate_left
                          · simp only [Act.put, List.setIfInBounds_toArray, List.set_cons_zero, List.set_cons_succ, i64_w, i32_w]
                            rfl
                          refine pure_ (i := 11) (N := some 112) (v := ?_) (a' := ?_) #[true, true, true, true, true, true, true, true, true, true, true, true, false, false, false, false, false, false, false, false, false, false, false, false, false, false, false, false, false, false, false] rfl rfl (any_of HT_.out (by kernel_rfl)) (fun _ _ _ h => h) (Or.inl ⟨by rfl, ?_⟩) ?_ ?_
                          rotate_left
                          · intro w'
                            go_simp
                            with_reducible rfl
                          rotate_left
                          · simp only [Act.put, List.setIfInBounds_toArray, List.set_cons_zero, List.set_cons_succ, i64_w, i32_w]
                            rfl
                          refine take_ (i := 12) (N := some 113) (v := ?_) (a' := ?_) #[true, true, true, true, true, true, true, true, true, true, true, true, true, false, false, false, false, false, false, false, false, false, false, false, false, false, false, false, false, false, false] rfl rfl (take_ofW HT_.out HW_.out (by kernel_rfl)) (fun _ _ _ h => h) (Or.inl ⟨by rfl, ?_⟩) hHeld ?_ ?_
                          rotate_left
                          · rintro w' ⟨s0, s1, s2, s3⟩
                            go_simp
                            with_reducible rfl
                          rotate_left
                          · simp only [Act.put, List.setIfInBounds_toArray, List.set_cons_zero, List.set_cons_succ, i64_w, i32_w]
                            rfl
                          refine pure_ (i := 13) (N := some 114) (v := ?_) (a' := ?_) #[true, true, true, true, true, true, true, true, true, true, true, true, true, true, false, false, false, false, false, false, false, false, false, false, false, false, false, false, false, false, false] rfl rfl (any_of HT_.out (by kernel_rfl)) (fun _ _ _ h => h) (Or.inl ⟨by rfl, ?_⟩) ?_ ?_
                          rotate_left
                          · intro w'
                            go_simp
                            with_reducible rfl
                          rotate_left
                          · simp only [Act.put, List.setIfInBounds_toArray, List.set_cons_zero, List.set_cons_succ, i64_w, i32_w]
                            rfl
                          refine pure_ (i := 14) (N := some 115) (v := ?_) (a' := ?_) #[true, true, true, true, true, true, true, true, true, true, true, true, true, true, true, false, false, false, false, false, false, false, false, false, false, false, false, false, false, false, false] rfl rfl (any_of HT_.out (by kernel_rfl)) (fun _ _ _ h => h) (Or.inl ⟨by rfl, ?_⟩) ?_ ?_
                          rotate_left
                          · intro w'
                            go_simp
                            with_reducible rfl
                          rotate_left
                          · simp only [Act.put, List.setIfInBounds_toArray, List.set_cons_zero, List.set_cons_succ, i64_w, i32_w]
                            rfl
                          refine pure_ (i := 15) (N := some 116) (v := ?_) (a' := ?_) #[true, true, true, true, true, true, true, true, true, true, true, true, true, true, true, true, false, false, false, false, false, false, false, false, false, false, false, false, false, false, false] rfl rfl (any_of HT_.out (by kernel_rfl)) (fun _ _ _ h => h) (Or.inl ⟨by rfl, ?_⟩) ?_ ?_
                          rotate_left
                          · intro w'
                            go_simp
                            with_reducible rfl
                          rotate_left
                          · simp only [Act.put, List.setIfInBounds_toArray, List.set_cons_zero, List.set_cons_succ, i64_w, i32_w]
                            rfl
                          refine pure_ (i := 18) (N := some 119) (v := ?_) (a' := ?_) #[true, true, true, true, true, true, true, true, true, true, true, true, true, true, true, true, false, false, true, false, false, false, false, false, false, false, false, false, false, false, false] rfl rfl (any_of HT_.out (by kernel_rfl)) (fun _ _ _ h => h) (Or.inl ⟨by rfl, ?_⟩) ?_ ?_
                          rotate_left
                          · intro w'
                            go_simp
                            with_reducible rfl
                          rotate_left
                          · simp only [Act.put, List.setIfInBounds_toArray, List.set_cons_zero, List.set_cons_succ, i64_w, i32_w]
                            rfl
                          refine pure_ (i := 20) (N := some 121) (v := ?_) (a' := ?_) #[true, true, true, true, true, true, true, true, true, true, true, true, true, true, true, true, false, false, true, false, true, false, false, false, false, false, false, false, false, false, false] rfl rfl (any_of HT_.out (by kernel_rfl)) (fun _ _ _ h => h) (Or.inl ⟨by rfl, ?_⟩) ?_ ?_
                          rotate_left
                          · intro w'
                            go_simp
                            with_reducible rfl
                          rotate_left
                          · simp only [Act.put, List.setIfInBounds_toArray, List.set_cons_zero, List.set_cons_succ, i64_w, i32_w]
                            rfl
                          refine take_ (i := 16) (N := some 117) (v := ?_) (a' := ?_) #[true, true, true, true, true, true, true, true, true, true, true, true, true, true, true, true, true, false, true, false, true, false, false, false, false, false, false, false, false, false, false] rfl rfl (take_ofW HT_.out HW_.out (by kernel_rfl)) (fun _ _ _ h => h) (Or.inl ⟨by rfl, ?_⟩) hHeld ?_ ?_
                          rotate_left
                          · rintro w' ⟨s0, s1, s2, s3⟩
                            go_simp
                            with_reducible rfl
                          rotate_left
                          · simp only [Act.put, List.setIfInBounds_toArray, List.set_cons_zero, List.set_cons_succ, i64_w, i32_w]
                            rfl
                          refine take_ (i := 19) (N := some 120) (v := ?_) (a' := ?_) #[true, true, true, true, true, true, true, true, true, true, true, true, true, true, true, true, true, false, true, true, true, false, false, false, false, false, false, false, false, false, false] rfl rfl (take_ofW HT_.out HW_.out (by kernel_rfl)) (fun _ _ _ h => h) (Or.inl ⟨by rfl, ?_⟩) hHeld ?_ ?_
                          rotate_left
                          · rintro w' ⟨s0, s1, s2, s3⟩
                            go_simp
                            with_reducible rfl
                          rotate_left
                          · simp only [Act.put, List.setIfInBounds_toArray, List.set_cons_zero, List.set_cons_succ, i64_w, i32_w]
                            rfl
                          refine take_ (i := 21) (N := some 122) (v := ?_) (a' := ?_) #[true, true, true, true, true, true, true, true, true, true, true, true, true, true, true, true, true, false, true, true, true, true, false, false, false, false, false, false, false, false, false] rfl rfl (take_ofW HT_.out HW_.out (by kernel_rfl)) (fun _ _ _ h => h) (Or.inl ⟨by rfl, ?_⟩) hHeld ?_ ?_
                          rotate_left
                          · rintro w' ⟨s0, s1, s2, s3⟩
                            go_simp
                            with_reducible rfl
                          rotate_left
                          · simp only [Act.put, List.setIfInBounds_toArray, List.set_cons_zero, List.set_cons_succ, i64_w, i32_w]
                            rfl
                          refine pure_ (i := 22) (N := some 123) (v := ?_) (a' := ?_) #[true, true, true, true, true, true, true, true, true, true, true, true, true, true, true, true, true, false, true, true, true, true, true, false, false, false, false, false, false, false, false] rfl rfl (any_of HT_.out (by kernel_rfl)) (fun _ _ _ h => h) (Or.inl ⟨by rfl, ?_⟩) ?_ ?_
                          rotate_left
                          · intro w'
                            go_simp
                            with_reducible rfl
                          rotate_left
                          · simp only [Act.put, List.setIfInBounds_toArray, List.set_cons_zero, List.set_cons_succ, i64_w, i32_w]
                            rfl
                          refine pure_ (i := 23) (N := some 124) (v := ?_) (a' := ?_) #[true, true, true, true, true, true, true, true, true, true, true, true, true, true, true, true, true, false, true, true, true, true, true, true, false, false, false, false, false, false, false] rfl rfl (any_of HT_.out (by kernel_rfl)) (fun _ _ _ h => h) (Or.inl ⟨by rfl, ?_⟩) ?_ ?_
                          rotate_left
                          · intro w'
                            go_simp
                            with_reducible rfl
                          rotate_left
                          · simp only [Act.put, List.setIfInBounds_toArray, List.set_cons_zero, List.set_cons_succ, i64_w, i32_w]
                            rfl
                          refine pure_ (i := 24) (N := some 125) (v := ?_) (a' := ?_) #[true, true, true, true, true, true, true, true, true, true, true, true, true, true, true, true, true, false, true, true, true, true, true, true, true, false, false, false, false, false, false] rfl rfl (any_of HT_.out (by kernel_rfl)) (fun _ _ _ h => h) (Or.inl ⟨by rfl, ?_⟩) ?_ ?_
                          rotate_left
                          · intro w'
                            go_simp
                            with_reducible rfl
                          rotate_left
                          · simp only [Act.put, List.setIfInBounds_toArray, List.set_cons_zero, List.set_cons_succ, i64_w, i32_w]
                            rfl
                          refine pure_ (i := 25) (N := some 126) (v := ?_) (a' := ?_) #[true, true, true, true, true, true, true, true, true, true, true, true, true, true, true, true, true, false, true, true, true, true, true, true, true, true, false, false, false, false, false] rfl rfl (any_of HT_.out (by kernel_rfl)) (fun _ _ _ h => h) (Or.inl ⟨by rfl, ?_⟩) ?_ ?_
                          rotate_left
                          · intro w'
                            go_simp
                            with_reducible rfl
                          rotate_left
                          · simp only [Act.put, List.setIfInBounds_toArray, List.set_cons_zero, List.set_cons_succ, i64_w, i32_w]
                            rfl
                          refine take_ (i := 26) (N := some 127) (v := ?_) (a' := ?_) #[true, true, true, true, true, true, true, true, true, true, true, true, true, true, true, true, true, false, true, true, true, true, true, true, true, true, true, false, false, false, false] rfl rfl (take_ofW HT_.out HW_.out (by kernel_rfl)) (fun _ _ _ h => h) (Or.inl ⟨by rfl, ?_⟩) hHeld ?_ ?_
                          rotate_left
                          · rintro w' ⟨s0, s1, s2, s3⟩
                            go_simp
                            with_reducible rfl
                          rotate_left
                          · simp only [Act.put, List.setIfInBounds_toArray, List.set_cons_zero, List.set_cons_succ, i64_w, i32_w]
                            rfl
                          refine one_ (i := 17) (N := some 118) #[true, true, true, true, true, true, true, true, true, true, true, true, true, true, true, true, true, true, true, true, true, true, true, true, true, true, true, false, false, false, false] rfl rfl (one_of HT_.out (by kernel_rfl)) (by decide) (fun K hK => ?_)
                          refine goes_ Try.func16 (by kernel_rfl) rfl #[.agg #[.slice (some ad266) t242.length co17]] (by rfl) rfl rfl (by (try simp only [List.map_toArray, List.map_cons, List.map_nil]); first | done | rfl | (simp only [List.length_drop, List.length_take]; rfl)) ?_
                          with_reducible refine (chain_Last.calls _ _ t242 t265 _ ?side1 ?side2 A81.out).mono ?_
                          (case side1 => repeat (first | exact (Kd.N_reads' HO_246000.out).2.2 | (with_reducible refine Kd.C_alloc ?_ _) | (with_reducible refine Kd.C_drewN ?_ _) | (with_reducible refine Kd.C_drew ?_)))
                          (case side2 => exact (Kd.N_reads' HO_246000.out).2.1)
                          rintro e w91 ⟨rfl, hb⟩
                          have HS1_ := (hb.cell (World.block_lt_of_cell? _ _ (hHeld.2.1))).trans (hHeld.2.1)
                          have HS2_ := (hb.cell (World.block_lt_of_cell? _ _ (hHeld.2.2.1))).trans (hHeld.2.2.1)
                          have HS3_ := (hb.cell (World.block_lt_of_cell? _ _ (hHeld.2.2.2))).trans (hHeld.2.2.2)
                          refine ⟨_, rfl, ?_⟩
                          have n0_ := Aside0.mk (Kd.N_below (by (with_reducible repeat (first | apply Kd.N_alloc | apply Kd.N_drewN | apply Kd.N_drew)); exact HO_246000.out) hb)
                          have n1_ := Aside0.mk (Kd.V_below (by (with_reducible repeat (first | apply Kd.V_alloc | apply Kd.V_drewN | apply Kd.V_drew)); exact HO_253001.out) hb)
                          have n2_ := Aside0.mk (Kd.V_below (by (with_reducible repeat (first | apply Kd.V_alloc | apply Kd.V_drewN | apply Kd.V_drew)); exact HO_260001.out) hb)
                          have n3_ := Aside0.mk (Kd.V_below (by (with_reducible repeat (first | apply Kd.V_alloc | apply Kd.V_drewN | apply Kd.V_drew)); exact HO264.out) hb)
                          have n4_ := Aside0.mk (blk_below (g := gb245) (o := .cells #[.slice (some ad266) t242.length co17] 29 (0, 0)) (by (with_reducible repeat (first | refine blk_drewN ?_ _ | refine blk_drew ?_ | refine blk_alloc ?_ _)); exact BK245.out) hb)
                          have n5_ := Aside0.mk (blk_below (g := gb252) (o := .cells #[.int .i64 t246, .slice Ao25 t247.length co25, .bool t250] 37 (0, 0)) (by (with_reducible repeat (first | refine blk_drewN ?_ _ | refine blk_drew ?_ | refine blk_alloc ?_ _)); exact BK252.out) hb)
                          have n6_ := Aside0.mk (blk_below (g := gb259) (o := .cells #[.int .i64 t253, .slice Ao33 t254.length co33, .bool t257] 37 (0, 0)) (by (with_reducible repeat (first | refine blk_drewN ?_ _ | refine blk_drew ?_ | refine blk_alloc ?_ _)); exact BK259.out) hb)
                          have n7_ := Aside0.mk (below_step (by repeat (first | (with_reducible first | exact HB.out | apply below_alloc | apply pw_below_drewN | apply below_drew1 | refine below_set ?_ GE245.out | refine below_set ?_ GE252.out | refine below_set ?_ GE259.out) | exact HB.out)) hb)
                          clear HO_246000
                          clear HO_253001
                          clear HO_260001
                          clear HO264
                          clear BK245
                          clear BK252
                          clear BK259
                          clear HB
                          have HO_246000 := n0_
                          have HO_253001 := n1_
                          have HO_260001 := n2_
                          have HO264 := n3_
                          have BK245 := n4_
                          have BK252 := n5_
                          have BK259 := n6_
                          have HB := n7_
                          clear n0_ n1_ n2_ n3_ n4_ n5_ n6_ n7_
                          (try clear hb)
                          (try clear hb2)
                          (try clear hk)
                          (try clear hi)
                          refine hK.out _ _ ⟨(blk_cell BK245.out 0).trans rfl, HS1_, HS2_, HS3_⟩ (fun hHeld => ?_)
                          clear hK K
                          refine norm_ (a' := ?_) ?_ ?_
                          rotate_left
                          · show Act.put _ (some 118) _ = _
                            simp only [Act.put, List.setIfInBounds_toArray, List.set_cons_zero, List.set_cons_succ, i64_w, i32_w]
                            rfl
                          refine pure_ (i := 27) (N := some 128) (v := ?_) (a' := ?_) #[true, true, true, true, true, true, true, true, true, true, true, true, true, true, true, true, true, true, true, true, true, true, true, true, true, true, true, true, false, false, false] rfl rfl (any_of HT_.out (by kernel_rfl)) (fun _ _ _ h => h) (Or.inl ⟨by rfl, ?_⟩) ?_ ?_
                          rotate_left
                          · intro w'
                            go_simp
                            with_reducible rfl
                          rotate_left
                          · simp only [Act.put, List.setIfInBounds_toArray, List.set_cons_zero, List.set_cons_succ, i64_w, i32_w]
                            rfl
                          refine pure_ (i := 28) (N := some 129) (v := ?_) (a' := ?_) #[true, true, true, true, true, true, true, true, true, true, true, true, true, true, true, true, true, true, true, true, true, true, true, true, true, true, true, true, true, false, false] rfl rfl (any_of HT_.out (by kernel_rfl)) (fun _ _ _ h => h) (Or.inl ⟨by rfl, ?_⟩) ?_ ?_
                          rotate_left
                          · intro w'
                            go_simp
                            with_reducible rfl
                          rotate_left
                          · simp only [Act.put, List.setIfInBounds_toArray, List.set_cons_zero, List.set_cons_succ, i64_w, i32_w]
                            rfl
                          refine pure_ (i := 29) (N := some 130) (v := ?_) (a' := ?_) #[true, true, true, true, true, true, true, true, true, true, true, true, true, true, true, true, true, true, true, true, true, true, true, true, true, true, true, true, true, true, false] rfl rfl (any_of HT_.out (by kernel_rfl)) (fun _ _ _ h => h) (Or.inl ⟨by rfl, ?_⟩) ?_ ?_
                          rotate_left
                          · intro w'
                            go_simp
                            with_reducible rfl
                          rotate_left
                          · simp only [Act.put, List.setIfInBounds_toArray, List.set_cons_zero, List.set_cons_succ, i64_w, i32_w]
                            rfl
                          refine pure_ (i := 30) (N := some 6) (v := ?_) (a' := ?_) #[true, true, true, true, true, true, true, true, true, true, true, true, true, true, true, true, true, true, true, true, true, true, true, true, true, true, true, true, true, true, true] rfl rfl (any_of HT_.out (by kernel_rfl)) (fun _ _ _ h => h) (Or.inl ⟨by rfl, ?_⟩) ?_ ?_
                          rotate_left
                          · intro w'
                            go_simp
                            with_reducible rfl
                          rotate_left
                          · simp only [Act.put, List.setIfInBounds_toArray, List.set_cons_zero, List.set_cons_succ, i64_w, i32_w]
                            rfl
                          refine done_ (done_of HT_.out (by kernel_rfl)) ?_
                          try go_wp2
                          go_ret
                          first | (with_reducible exact (clash2 A81 A72).elim) | (with_reducible exact (clash2 A72 A81).elim) | (with_reducible exact (clash2 A81 A11).elim) | (with_reducible exact (clash2 A11 A81).elim) | (with_reducible exact (clash2 A81 A9).elim) | (with_reducible exact (clash2 A9 A81).elim) | (with_reducible exact (clash2 A81 A7).elim) | (with_reducible exact (clash2 A7 A81).elim) | (with_reducible exact (clash2 A81 A5).elim) | (with_reducible exact (clash2 A5 A81).elim) | (with_reducible exact (clash2 A81 A4).elim) | (with_reducible exact (clash2 A4 A81).elim) | (with_reducible exact (clash2 A72 A11).elim) | (with_reducible exact (clash2 A11 A72).elim) | (with_reducible exact (clash2 A72 A9).elim) | (with_reducible exact (clash2 A9 A72).elim) | (with_reducible exact (clash2 A72 A7).elim) | (with_reducible exact (clash2 A7 A72).elim) | (with_reducible exact (clash2 A72 A5).elim) | (with_reducible exact (clash2 A5 A72).elim) | (with_reducible exact (clash2 A72 A4).elim) | (with_reducible exact (clash2 A4 A72).elim) | (with_reducible exact (clash2 A11 A9).elim) | (with_reducible exact (clash2 A9 A11).elim) | (with_reducible exact (clash2 A11 A7).elim) | (with_reducible exact (clash2 A7 A11).elim) | (with_reducible exact (clash2 A11 A5).elim) | (with_reducible exact (clash2 A5 A11).elim) | (with_reducible exact (clash2 A11 A4).elim) | (with_reducible exact (clash2 A4 A11).elim) | (with_reducible exact (clash2 A9 A7).elim) | (with_reducible exact (clash2 A7 A9).elim) | (with_reducible exact (clash2 A9 A5).elim) | (with_reducible exact (clash2 A5 A9).elim) | (with_reducible exact (clash2 A9 A4).elim) | (with_reducible exact (clash2 A4 A9).elim) | (with_reducible exact (clash2 A7 A5).elim) | (with_reducible exact (clash2 A5 A7).elim) | (with_reducible exact (clash2 A7 A4).elim) | (with_reducible exact (clash2 A4 A7).elim) | (with_reducible exact (clash2 A5 A4).elim) | (with_reducible exact (clash2 A4 A5).elim) | exact ⟨by first | rfl | (simp [errW_none, errW_some] <;> rfl) | (simp only [← hji8, ← hji10, ← hji82]; first | rfl | (simp [errW_none, errW_some] <;> rfl)) | (simp [*, errW_none, errW_some] <;> rfl), by repeat (first | (with_reducible first | exact HB.out | apply below_alloc | apply pw_below_drewN | apply below_drew1 | refine below_set ?_ GE245.out | refine below_set ?_ GE252.out | refine below_set ?_ GE259.out) | exact HB.out)⟩
                        · rw [if_neg c84] at H
                          exact absurd H (by simp)
                      · rw [if_neg c83] at H
                        exact absurd H (by simp)
                  · rw [if_neg c73] at H
                    exact absurd H (by simp)
                · replace c71 := Bool.eq_false_iff.mpr c71
                  subst c71
                  have H1 : (none) = some r := by rw [if_neg (show ¬ (false = true) by decide)] at H; exact H
                  clear H
                  have H := H1
                  clear H1
                  exact absurd H (by simp)
  · replace c6 := Bool.eq_false_iff.mpr c6
    subst c6
    have H1 : (some t240) = some r := by rw [if_neg (show ¬ (false = true) by decide)] at H; exact H
    clear H
    have H := H1
    clear H1
    obtain rfl := Option.some.inj H
    go_enter Try.func4, Try.ntmps4
    go_wp2_with (first | ((with_reducible refine gate_callee (f := 8) rfl ?_); refine goesL_ (some 14) rfl rfl Try.func8 (by kernel_rfl) rfl #[] rfl (by (try simp only [List.map_toArray, List.map_cons, List.map_nil]); first | done | rfl | (simp only [List.length_drop, List.length_take]; rfl)) ?_; (with_reducible refine (godwitlaw07_awake.calls k  t240 _ A4.out).mono ?_); rintro e w92 ⟨rfl, hb⟩; refine ⟨_, rfl, ?_⟩; have n0_ := Aside0.mk (below_step (by repeat (first | (with_reducible first | exact HB.out | apply below_alloc | apply pw_below_drewN | apply below_drew1) | exact HB.out)) hb); clear HB; have HB := n0_; clear n0_; (try clear hb); (try clear hb2); (try clear hk); (try clear hi)) | ((with_reducible refine gate_callee (f := 9) rfl ?_); refine goesL_ (some 17) rfl rfl Try.func9 (by kernel_rfl) rfl #[.agg #[.slice A0 l0.length c0]] rfl (by (try simp only [List.map_toArray, List.map_cons, List.map_nil]); first | done | rfl | (simp only [List.length_drop, List.length_take]; rfl)) ?_; (with_reducible refine (godwitref07_Few.calls k _ _ l0 false _ ?side1 ?side2 A5.out).mono ?_); (case side1 => repeat (first | exact (Kd.C_below HR0.out HB.out) | (with_reducible refine Kd.C_alloc ?_ _) | (with_reducible refine Kd.C_drewN ?_ _) | (with_reducible refine Kd.C_drew ?_))); (case side2 => exact HC0.out); rintro e w93 ⟨rfl, hb⟩; refine ⟨_, rfl, ?_⟩; have n0_ := Aside0.mk (below_step (by repeat (first | (with_reducible first | exact HB.out | apply below_alloc | apply pw_below_drewN | apply below_drew1) | exact HB.out)) hb); clear HB; have HB := n0_; clear n0_; (try clear hb); (try clear hb2); (try clear hk); (try clear hi)))
    go_ret
    first | (with_reducible exact (clash2 A5 A4).elim) | (with_reducible exact (clash2 A4 A5).elim) | exact ⟨by first | rfl | (simp [errW_none, errW_some] <;> rfl) | (simp [*, errW_none, errW_some] <;> rfl), by repeat (first | (with_reducible first | exact HB.out | apply below_alloc | apply pw_below_drewN | apply below_drew1) | exact HB.out)⟩

/-- THE ONE PURE STATEMENT of godwitlaw07_ChainSees. -/
def godwitlaw07_ChainSees.Pure : Prop := ∀ (l0 : List (S46)) (a1 : Int) (a2 : Int), (l0.length * 40 ≤ 140737488351232 ∧ ∀ y0_ ∈ l0, ((Lit.int .i64 y0_.f0).wf = true) ∧ (y0_.f1.length * 1 ≤ 140737488351232 ∧ ∀ y1_ ∈ y0_.f1, (Lit.int .u8 y1_).wf = true) ∧ (True)) → ((Lit.int .i64 a1).wf = true) → ((Lit.int .i64 a2).wf = true) → ∃ k, godwitlaw07_ChainSees.f k l0 a1 a2 = some true

end Go.Proofs.Ytcinlddejdkjeaa.Q
