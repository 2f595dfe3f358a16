-- written by a turned copy of the kit's printer (wip/tools/patch_print.py over print.py); contracts of given functions are this session's own
import Derived.Test.YtaolmpchenpaeaaQx0
import Derived.Test.YtaolmpchenpaeaaQx10
import Derived.Test.YtaolmpchenpaeaaQx13
import Derived.Test.YtaolmpchenpaeaaQx16
namespace Go.Proofs.Ytaolmpchenpaeaa.Q
open Go.RowKit Go.Proofs.YtaolmpchenpaeaaW.PrintWords Go.Proofs.YtaolmpchenpaeaaW.PrintLast Go.Proofs.YtaolmpchenpaeaaW.PrintMore Go.Proofs.Ytaolmpchenpaeaa.G
attribute [local go_sem] max2_int min2_int max_two min_two max_three min_three max_four min_four   -- for this text's walks alone
set_option linter.unusedVariables false
set_option linter.unusedSimpArgs false

/-! ### godwitlaw12_TokensFence: function 6 -/
mutual
def godwitlaw12_TokensFence.j0 : Nat → List (S28) → Int → Int → List (S28) → Bool → Bool → Option (Bool)
  | 0, _, _, _, _, _, _ => none
  | k + 1, x0, x1, x2, x3, x9, x28 => if x28 = true then (some x9) else (godwitlaw12_TokensFence.l0 k x0 x1 x2 x3 x9 0 ([] : List (S33)))
def godwitlaw12_TokensFence.l0 : Nat → List (S28) → Int → Int → List (S28) → Bool → Int → List (S33) → Option (Bool)
  | 0, _, _, _, _, _, _, _ => none
  | k + 1, x0, x1, x2, x3, x9, x11, x336000 => if x11 < (x0.length : Int) then (if 0 ≤ x11 then ((godwitlaw12_did.f k x336000 ((rd_T28 x0 x11).f0) ((rd_T28 x0 x11).f1) ((rd_T28 x0 x11).f2) (wrap64 (x11 + 1))).bind fun bt337 => (if bt337.2 = 0 then (godwitlaw12_TokensFence.l0 k x0 x1 x2 x3 x9 (wrap64 (x11 + 1)) bt337.1) else (godwitlaw12_TokensFence.l0 k x0 x1 x2 x3 x9 (wrap64 (x11 + 1)) x336000))) else (none)) else ((tokens_Fence.f k x336000 x1 x2).bind fun bt342 => (if bt342.2.2 = 0 then (godwitlaw12_TokensFence.j2 k x1 x2 x3 x9 (decide (bt342.2.1 > 0)) bt342.1) else (godwitlaw12_TokensFence.j2 k x1 x2 x3 x9 true bt342.1)))
def godwitlaw12_TokensFence.j2 : Nat → Int → Int → List (S28) → Bool → Bool → List (S33) → Option (Bool)
  | 0, _, _, _, _, _, _ => none
  | k + 1, x1, x2, x3, x9, x64, x348000 => if x64 = true then (some x9) else (godwitlaw12_TokensFence.l1 k x1 x2 x3 x9 0 x348000)
def godwitlaw12_TokensFence.l1 : Nat → Int → Int → List (S28) → Bool → Int → List (S33) → Option (Bool)
  | 0, _, _, _, _, _, _ => none
  | k + 1, x1, x2, x3, x9, x17, x336000 => if x17 < (x3.length : Int) then (if 0 ≤ x17 then (if ((rd_T28 x3 x17).f0) = 5 then (godwitlaw12_TokensFence.j4 k x1 x2 x3 x9 x17 true x336000) else (if ((rd_T28 x3 x17).f0) < 0 then (godwitlaw12_TokensFence.j4 k x1 x2 x3 x9 x17 true x336000) else (godwitlaw12_TokensFence.j4 k x1 x2 x3 x9 x17 (decide (((rd_T28 x3 x17).f0) > 5)) x336000))) else (none)) else (some x9)
def godwitlaw12_TokensFence.j4 : Nat → Int → Int → List (S28) → Bool → Int → Bool → List (S33) → Option (Bool)
  | 0, _, _, _, _, _, _, _ => none
  | k + 1, x1, x2, x3, x9, x17, x94, x336000 => if x94 = true then (godwitlaw12_TokensFence.l1 k x1 x2 x3 x9 (wrap64 (x17 + 1)) x336000) else (if 0 ≤ x17 then (if x17 < (x3.length : Int) then ((godwitlaw12_did.f k x336000 ((rd_T28 x3 x17).f0) ((rd_T28 x3 x17).f1) ((rd_T28 x3 x17).f2) (wrap64 (100 + x17))).bind fun bt352 => (if bt352.2 = 0 then (if ((rd_T28 x3 x17).f1) = x1 then (if ((rd_T28 x3 x17).f0) ≤ 3 then (godwitlaw12_TokensFence.j5 k x1 x2 x3 x9 x17 (decide (((rd_T28 x3 x17).f2) ≤ x2)) bt352.1) else (godwitlaw12_TokensFence.j5 k x1 x2 x3 x9 x17 false bt352.1)) else (godwitlaw12_TokensFence.j5 k x1 x2 x3 x9 x17 false bt352.1)) else (godwitlaw12_TokensFence.l1 k x1 x2 x3 x9 (wrap64 (x17 + 1)) x336000))) else (none)) else (none))
def godwitlaw12_TokensFence.j5 : Nat → Int → Int → List (S28) → Bool → Int → Bool → List (S33) → Option (Bool)
  | 0, _, _, _, _, _, _, _ => none
  | k + 1, x1, x2, x3, x9, x17, x131, x357000 => if x131 = true then (none) else (godwitlaw12_TokensFence.l1 k x1 x2 x3 x9 (wrap64 (x17 + 1)) x357000)
end
def godwitlaw12_TokensFence.f (k : Nat) (l0 : List (S28)) (a1 : Int) (a2 : Int) (l3 : List (S28)) : Option (Bool) := (godwitlaw12_awake.f k).bind fun t334 => (if (l0.length : Int) > 60 then (godwitlaw12_TokensFence.j0 k l0 a1 a2 l3 t334 true) else (godwitlaw12_TokensFence.j0 k l0 a1 a2 l3 t334 (decide ((l3.length : Int) > 60))))
theorem godwitlaw12_TokensFence.mono_l : ∀ k, (∀ y0 y1 y2 y3 y4 y5, LeO (godwitlaw12_TokensFence.j0 k y0 y1 y2 y3 y4 y5) (godwitlaw12_TokensFence.j0 (k + 1) y0 y1 y2 y3 y4 y5)) ∧ (∀ y0 y1 y2 y3 y4 y5 y6, LeO (godwitlaw12_TokensFence.l0 k y0 y1 y2 y3 y4 y5 y6) (godwitlaw12_TokensFence.l0 (k + 1) y0 y1 y2 y3 y4 y5 y6)) ∧ (∀ y0 y1 y2 y3 y4 y5, LeO (godwitlaw12_TokensFence.j2 k y0 y1 y2 y3 y4 y5) (godwitlaw12_TokensFence.j2 (k + 1) y0 y1 y2 y3 y4 y5)) ∧ (∀ y0 y1 y2 y3 y4 y5, LeO (godwitlaw12_TokensFence.l1 k y0 y1 y2 y3 y4 y5) (godwitlaw12_TokensFence.l1 (k + 1) y0 y1 y2 y3 y4 y5)) ∧ (∀ y0 y1 y2 y3 y4 y5 y6, LeO (godwitlaw12_TokensFence.j4 k y0 y1 y2 y3 y4 y5 y6) (godwitlaw12_TokensFence.j4 (k + 1) y0 y1 y2 y3 y4 y5 y6)) ∧ (∀ y0 y1 y2 y3 y4 y5 y6, LeO (godwitlaw12_TokensFence.j5 k y0 y1 y2 y3 y4 y5 y6) (godwitlaw12_TokensFence.j5 (k + 1) y0 y1 y2 y3 y4 y5 y6))
  | 0 => ⟨fun _ _ _ _ _ _ r h => by simp [godwitlaw12_TokensFence.j0] at h, fun _ _ _ _ _ _ _ r h => by simp [godwitlaw12_TokensFence.l0] at h, fun _ _ _ _ _ _ r h => by simp [godwitlaw12_TokensFence.j2] at h, fun _ _ _ _ _ _ r h => by simp [godwitlaw12_TokensFence.l1] at h, fun _ _ _ _ _ _ _ r h => by simp [godwitlaw12_TokensFence.j4] at h, fun _ _ _ _ _ _ _ r h => by simp [godwitlaw12_TokensFence.j5] at h⟩
  | k + 1 => by
    obtain ⟨ih0, ih1, ih2, ih3, ih4, ih5⟩ := godwitlaw12_TokensFence.mono_l k
    refine ⟨?_, ?_, ?_, ?_, ?_, ?_⟩
    · intro y0 y1 y2 y3 y4 y5
      unfold godwitlaw12_TokensFence.j0
      repeat' first
      | (with_reducible exact ih0 _ _ _ _ _ _)
      | (with_reducible exact ih1 _ _ _ _ _ _ _)
      | (with_reducible exact ih2 _ _ _ _ _ _)
      | (with_reducible exact ih3 _ _ _ _ _ _)
      | (with_reducible exact ih4 _ _ _ _ _ _ _)
      | (with_reducible exact ih5 _ _ _ _ _ _ _)
      | (with_reducible exact godwitlaw12_awake.mono _)
      | (with_reducible exact godwitlaw12_did.mono _ _ _ _ _ _)
      | (with_reducible exact tokens_Fence.mono _ _ _ _)
      | (with_reducible exact LeO.refl _)
      | (with_reducible exact LeO.none _)
      | (with_reducible refine LeO.ite ?_ ?_)
      | (with_reducible refine LeO.bind ?_ (fun _ => ?_))
      | exact ih0 _ _ _ _ _ _
      | exact ih1 _ _ _ _ _ _ _
      | exact ih2 _ _ _ _ _ _
      | exact ih3 _ _ _ _ _ _
      | exact ih4 _ _ _ _ _ _ _
      | exact ih5 _ _ _ _ _ _ _
      | exact godwitlaw12_awake.mono _
      | exact godwitlaw12_did.mono _ _ _ _ _ _
      | exact tokens_Fence.mono _ _ _ _
      | exact LeO.none _
      | refine LeO.ite ?_ ?_
      | refine LeO.bind ?_ (fun _ => ?_)
    · intro y0 y1 y2 y3 y4 y5 y6
      unfold godwitlaw12_TokensFence.l0
      repeat' first
      | (with_reducible exact ih0 _ _ _ _ _ _)
      | (with_reducible exact ih1 _ _ _ _ _ _ _)
      | (with_reducible exact ih2 _ _ _ _ _ _)
      | (with_reducible exact ih3 _ _ _ _ _ _)
      | (with_reducible exact ih4 _ _ _ _ _ _ _)
      | (with_reducible exact ih5 _ _ _ _ _ _ _)
      | (with_reducible exact godwitlaw12_awake.mono _)
      | (with_reducible exact godwitlaw12_did.mono _ _ _ _ _ _)
      | (with_reducible exact tokens_Fence.mono _ _ _ _)
      | (with_reducible exact LeO.refl _)
      | (with_reducible exact LeO.none _)
      | (with_reducible refine LeO.ite ?_ ?_)
      | (with_reducible refine LeO.bind ?_ (fun _ => ?_))
      | exact ih0 _ _ _ _ _ _
      | exact ih1 _ _ _ _ _ _ _
      | exact ih2 _ _ _ _ _ _
      | exact ih3 _ _ _ _ _ _
      | exact ih4 _ _ _ _ _ _ _
      | exact ih5 _ _ _ _ _ _ _
      | exact godwitlaw12_awake.mono _
      | exact godwitlaw12_did.mono _ _ _ _ _ _
      | exact tokens_Fence.mono _ _ _ _
      | exact LeO.none _
      | refine LeO.ite ?_ ?_
      | refine LeO.bind ?_ (fun _ => ?_)
    · intro y0 y1 y2 y3 y4 y5
      unfold godwitlaw12_TokensFence.j2
      repeat' first
      | (with_reducible exact ih0 _ _ _ _ _ _)
      | (with_reducible exact ih1 _ _ _ _ _ _ _)
      | (with_reducible exact ih2 _ _ _ _ _ _)
      | (with_reducible exact ih3 _ _ _ _ _ _)
      | (with_reducible exact ih4 _ _ _ _ _ _ _)
      | (with_reducible exact ih5 _ _ _ _ _ _ _)
      | (with_reducible exact godwitlaw12_awake.mono _)
      | (with_reducible exact godwitlaw12_did.mono _ _ _ _ _ _)
      | (with_reducible exact tokens_Fence.mono _ _ _ _)
      | (with_reducible exact LeO.refl _)
      | (with_reducible exact LeO.none _)
      | (with_reducible refine LeO.ite ?_ ?_)
      | (with_reducible refine LeO.bind ?_ (fun _ => ?_))
      | exact ih0 _ _ _ _ _ _
      | exact ih1 _ _ _ _ _ _ _
      | exact ih2 _ _ _ _ _ _
      | exact ih3 _ _ _ _ _ _
      | exact ih4 _ _ _ _ _ _ _
      | exact ih5 _ _ _ _ _ _ _
      | exact godwitlaw12_awake.mono _
      | exact godwitlaw12_did.mono _ _ _ _ _ _
      | exact tokens_Fence.mono _ _ _ _
      | exact LeO.none _
      | refine LeO.ite ?_ ?_
      | refine LeO.bind ?_ (fun _ => ?_)
    · intro y0 y1 y2 y3 y4 y5
      unfold godwitlaw12_TokensFence.l1
      repeat' first
      | (with_reducible exact ih0 _ _ _ _ _ _)
      | (with_reducible exact ih1 _ _ _ _ _ _ _)
      | (with_reducible exact ih2 _ _ _ _ _ _)
      | (with_reducible exact ih3 _ _ _ _ _ _)
      | (with_reducible exact ih4 _ _ _ _ _ _ _)
      | (with_reducible exact ih5 _ _ _ _ _ _ _)
      | (with_reducible exact godwitlaw12_awake.mono _)
      | (with_reducible exact godwitlaw12_did.mono _ _ _ _ _ _)
      | (with_reducible exact tokens_Fence.mono _ _ _ _)
      | (with_reducible exact LeO.refl _)
      | (with_reducible exact LeO.none _)
      | (with_reducible refine LeO.ite ?_ ?_)
      | (with_reducible refine LeO.bind ?_ (fun _ => ?_))
      | exact ih0 _ _ _ _ _ _
      | exact ih1 _ _ _ _ _ _ _
      | exact ih2 _ _ _ _ _ _
      | exact ih3 _ _ _ _ _ _
      | exact ih4 _ _ _ _ _ _ _
      | exact ih5 _ _ _ _ _ _ _
      | exact godwitlaw12_awake.mono _
      | exact godwitlaw12_did.mono _ _ _ _ _ _
      | exact tokens_Fence.mono _ _ _ _
      | exact LeO.none _
      | refine LeO.ite ?_ ?_
      | refine LeO.bind ?_ (fun _ => ?_)
    · intro y0 y1 y2 y3 y4 y5 y6
      unfold godwitlaw12_TokensFence.j4
      repeat' first
      | (with_reducible exact ih0 _ _ _ _ _ _)
      | (with_reducible exact ih1 _ _ _ _ _ _ _)
      | (with_reducible exact ih2 _ _ _ _ _ _)
      | (with_reducible exact ih3 _ _ _ _ _ _)
      | (with_reducible exact ih4 _ _ _ _ _ _ _)
      | (with_reducible exact ih5 _ _ _ _ _ _ _)
      | (with_reducible exact godwitlaw12_awake.mono _)
      | (with_reducible exact godwitlaw12_did.mono _ _ _ _ _ _)
      | (with_reducible exact tokens_Fence.mono _ _ _ _)
      | (with_reducible exact LeO.refl _)
      | (with_reducible exact LeO.none _)
      | (with_reducible refine LeO.ite ?_ ?_)
      | (with_reducible refine LeO.bind ?_ (fun _ => ?_))
      | exact ih0 _ _ _ _ _ _
      | exact ih1 _ _ _ _ _ _ _
      | exact ih2 _ _ _ _ _ _
      | exact ih3 _ _ _ _ _ _
      | exact ih4 _ _ _ _ _ _ _
      | exact ih5 _ _ _ _ _ _ _
      | exact godwitlaw12_awake.mono _
      | exact godwitlaw12_did.mono _ _ _ _ _ _
      | exact tokens_Fence.mono _ _ _ _
      | exact LeO.none _
      | refine LeO.ite ?_ ?_
      | refine LeO.bind ?_ (fun _ => ?_)
    · intro y0 y1 y2 y3 y4 y5 y6
      unfold godwitlaw12_TokensFence.j5
      repeat' first
      | (with_reducible exact ih0 _ _ _ _ _ _)
      | (with_reducible exact ih1 _ _ _ _ _ _ _)
      | (with_reducible exact ih2 _ _ _ _ _ _)
      | (with_reducible exact ih3 _ _ _ _ _ _)
      | (with_reducible exact ih4 _ _ _ _ _ _ _)
      | (with_reducible exact ih5 _ _ _ _ _ _ _)
      | (with_reducible exact godwitlaw12_awake.mono _)
      | (with_reducible exact godwitlaw12_did.mono _ _ _ _ _ _)
      | (with_reducible exact tokens_Fence.mono _ _ _ _)
      | (with_reducible exact LeO.refl _)
      | (with_reducible exact LeO.none _)
      | (with_reducible refine LeO.ite ?_ ?_)
      | (with_reducible refine LeO.bind ?_ (fun _ => ?_))
      | exact ih0 _ _ _ _ _ _
      | exact ih1 _ _ _ _ _ _ _
      | exact ih2 _ _ _ _ _ _
      | exact ih3 _ _ _ _ _ _
      | exact ih4 _ _ _ _ _ _ _
      | exact ih5 _ _ _ _ _ _ _
      | exact godwitlaw12_awake.mono _
      | exact godwitlaw12_did.mono _ _ _ _ _ _
      | exact tokens_Fence.mono _ _ _ _
      | exact LeO.none _
      | refine LeO.ite ?_ ?_
      | refine LeO.bind ?_ (fun _ => ?_)
theorem godwitlaw12_TokensFence.mono : ∀ a0 a1 a2 a3 k, LeO (godwitlaw12_TokensFence.f k a0 a1 a2 a3) (godwitlaw12_TokensFence.f (k + 1) a0 a1 a2 a3) := by
  intro a0 a1 a2 a3 k
  obtain ⟨ih0, ih1, ih2, ih3, ih4, ih5⟩ := godwitlaw12_TokensFence.mono_l k
  unfold godwitlaw12_TokensFence.f
  repeat' first
      | (with_reducible exact ih0 _ _ _ _ _ _)
      | (with_reducible exact ih1 _ _ _ _ _ _ _)
      | (with_reducible exact ih2 _ _ _ _ _ _)
      | (with_reducible exact ih3 _ _ _ _ _ _)
      | (with_reducible exact ih4 _ _ _ _ _ _ _)
      | (with_reducible exact ih5 _ _ _ _ _ _ _)
      | (with_reducible exact godwitlaw12_awake.mono _)
      | (with_reducible exact godwitlaw12_did.mono _ _ _ _ _ _)
      | (with_reducible exact tokens_Fence.mono _ _ _ _)
      | (with_reducible exact LeO.refl _)
      | (with_reducible exact LeO.none _)
      | (with_reducible refine LeO.ite ?_ ?_)
      | (with_reducible refine LeO.bind ?_ (fun _ => ?_))
      | exact ih0 _ _ _ _ _ _
      | exact ih1 _ _ _ _ _ _ _
      | exact ih2 _ _ _ _ _ _
      | exact ih3 _ _ _ _ _ _
      | exact ih4 _ _ _ _ _ _ _
      | exact ih5 _ _ _ _ _ _ _
      | exact godwitlaw12_awake.mono _
      | exact godwitlaw12_did.mono _ _ _ _ _ _
      | exact tokens_Fence.mono _ _ _ _
      | exact LeO.none _
      | refine LeO.ite ?_ ?_
      | refine LeO.bind ?_ (fun _ => ?_)
def godwitlaw12_TokensFence.T8 : Bool × List (List Nat × List Nat) := (true, [([], []), ([], []), ([], []), ([1, 2], [1, 2]), ([3], [3]), ([], []), ([5], [5]), ([0, 4, 6], [0, 4, 6]), ([7], [7]), ([8], [8]), ([8], [8]), ([], []), ([11, 9, 7, 0, 1, 2, 3, 4, 5, 6, 7, 8, 9, 11], [9, 11]), ([10, 12, 0, 1, 2, 3, 4, 5, 6, 7, 8, 9, 10, 11, 12], [10])])
def godwitlaw12_TokensFence.B8 : List Nat := [0, 0, 0, 6, 14, 0, 32, 127, 255, 511, 511, 0, 3071, 8191]
theorem godwitlaw12_TokensFence.tab8 : rtab .any (opsOf Try.f6 8) = godwitlaw12_TokensFence.T8 := by kernel_rfl
theorem godwitlaw12_TokensFence.bits8 : waitsOk godwitlaw12_TokensFence.T8.2 godwitlaw12_TokensFence.B8 = true := by kernel_rfl
def godwitlaw12_TokensFence.T19 : Bool × List (List Nat × List Nat) := (true, [([], []), ([], []), ([], []), ([1, 2], [1, 2]), ([3], [3]), ([], []), ([5], [5]), ([0, 4, 6], [0, 4, 6]), ([7], [7]), ([8], [8]), ([8], [8]), ([], []), ([11, 9, 7, 0, 1, 2, 3, 4, 5, 6, 7, 8, 9, 11], [9, 11]), ([10, 12, 0, 1, 2, 3, 4, 5, 6, 7, 8, 9, 10, 11, 12], [10])])
def godwitlaw12_TokensFence.B19 : List Nat := [0, 0, 0, 6, 14, 0, 32, 127, 255, 511, 511, 0, 3071, 8191]
theorem godwitlaw12_TokensFence.tab19 : rtab .any (opsOf Try.f6 19) = godwitlaw12_TokensFence.T19 := by kernel_rfl
theorem godwitlaw12_TokensFence.bits19 : waitsOk godwitlaw12_TokensFence.T19.2 godwitlaw12_TokensFence.B19 = true := by kernel_rfl
set_option maxHeartbeats 8000000 in
set_option maxRecDepth 100000 in
theorem godwitlaw12_TokensFence.calls (k : Nat) (A0 : Option Addr) (c0 : Nat) (l0 : List (S28)) (a1 : Int) (a2 : Int) (A3 : Option Addr) (c3 : Nat) (l3 : List (S28)) (r : Bool) (w : World) (hr0 : Kd.C k28 w A0 l0.length l0) (hc0 : l0.length ≤ c0) (hr3 : Kd.C k28 w A3 l3.length l3) (hc3 : l3.length ≤ c3) (h : godwitlaw12_TokensFence.f k l0 a1 a2 l3 = some r) :
    Calls Try.prog 6 #[.slice A0 l0.length c0, .int .i64 a1, .int .i64 a2, .slice A3 l3.length c3] w fun e w' => e = .returned (.bool r) ∧ Below w.heap.size w w' := by
  have hu26 := Try.underlying26
  have hu28 := Try.underlying28
  have HR0 := Aside0.mk hr0
  have HC0 := Aside0.mk hc0
  clear hr0 hc0
  have HR3 := Aside0.mk hr3
  have HC3 := Aside0.mk hc3
  clear hr3 hc3
  have HB := Aside0.mk (Below.refl w.heap.size w)
  have H : ((godwitlaw12_awake.f k).bind fun t334 => (if (l0.length : Int) > 60 then (godwitlaw12_TokensFence.j0 k l0 a1 a2 l3 t334 true) else (godwitlaw12_TokensFence.j0 k l0 a1 a2 l3 t334 (decide ((l3.length : Int) > 60))))) = some r := h
  clear h
  replace H := Option.bind_eq_some_iff.mp H
  obtain ⟨t334, A50, H⟩ := H
  replace H : (if (l0.length : Int) > 60 then (godwitlaw12_TokensFence.j0 k l0 a1 a2 l3 t334 true) else (godwitlaw12_TokensFence.j0 k l0 a1 a2 l3 t334 (decide ((l3.length : Int) > 60)))) = some r := H
  have A5 := Aside0.mk A50
  clear A50
  have HC6 := Aside0.mk H
  clear H
  go_enter Try.func6, Try.ntmps6
  go_upto_region 2 with (first | ((with_reducible refine gate_callee (f := 7) rfl ?_); refine goesL_ (some 20) rfl rfl Try.func7 (by kernel_rfl) rfl #[] rfl (by (try simp only [List.map_toArray, List.map_cons, List.map_nil]); first | done | rfl | (simp only [List.length_drop, List.length_take]; rfl)) ?_; (with_reducible refine (godwitlaw12_awake.calls k  t334 _ A5.out).mono ?_); rintro e w7 ⟨rfl, hb⟩; refine ⟨_, rfl, ?_⟩; have n0_ := Aside0.mk (below_step (by repeat (first | (with_reducible first | exact HB.out | apply below_alloc | apply pw_below_drewN | apply below_drew1) | exact HB.out)) hb); clear HB; have HB := n0_; clear n0_; (try clear hb); (try clear hb2); (try clear hk); (try clear hi)))
  (try simp only [Act.put, List.setIfInBounds_toArray, List.set_cons_zero, List.set_cons_succ])
  go_cut [28] (fun v28 wc => ∃ (kq : Nat) (x28_5 : Bool), v28 = .bool x28_5 ∧ Aside0 (godwitlaw12_TokensFence.j0 kq l0 a1 a2 l3 t334 x28_5 = some r) ∧ Aside0 (kq ≤ k) ∧ Aside0 (Below w.heap.size w wc))
  case first =>
    have H := HC6.out
    clear HC6
    by_cases c8 : (l0.length : Int) > 60
    · rw [if_pos c8] at H
      have c8b0 : decide (60 < (l0.length : Int)) = true := decide_eq_true c8
      have c8b1 : decide (60 < l0.length) = true := decide_eq_true (by omega)
      clear c8
      (first | rw [c8b0] | (simp only [i64_w, i32_w]; rw [c8b0]) | skip)
      have H' := Aside0.mk H
      clear H
      go_wp2
      go_meet
      case rel => exact ⟨_, (true), (by first | rfl | (simp; done) | (simp [*]; done)), H', ⟨by first | omega | exact Nat.le_refl _⟩, ⟨by repeat (first | (with_reducible first | exact HB.out | apply below_alloc | apply pw_below_drewN | apply below_drew1) | exact HB.out)⟩⟩
    · rw [if_neg c8] at H
      have c8b0 : decide (60 < (l0.length : Int)) = false := decide_eq_false c8
      have c8b1 : decide (60 < l0.length) = false := decide_eq_false (by omega)
      clear c8
      (first | rw [c8b0] | (simp only [i64_w, i32_w]; rw [c8b0]) | skip)
      have H' := Aside0.mk H
      clear H
      go_wp2
      go_meet
      case rel => exact ⟨_, (decide ((l3.length : Int) > 60)), (by first | rfl | (simp; done) | (simp [*]; done)), H', ⟨by first | omega | exact Nat.le_refl _⟩, ⟨by repeat (first | (with_reducible first | exact HB.out | apply below_alloc | apply pw_below_drewN | apply below_drew1) | exact HB.out)⟩⟩
  case rest =>
    clear HC6
    try clear p2
    try clear c3
    try clear c6
    try clear c7
    try clear c8
    try clear c8b0
    try clear c8b1
    obtain ⟨kq, x28_5, rfl, HA, HJ5, HB⟩ := hcut
    cases kq with
    | zero => exact absurd HA.out (by simp [godwitlaw12_TokensFence.j0])
    | succ kj5 =>
      have H := HA.out
      clear HA
      simp only [godwitlaw12_TokensFence.j0] at H
      by_cases c9 : x28_5 = true
      · subst c9
        have H1 : (some t334) = some r := by rw [if_pos rfl] at H; exact H
        clear H
        have H := H1
        clear H1
        obtain rfl := Option.some.inj H
        go_wp2
        go_ret
        exact ⟨by first | rfl | (simp [errW_none, errW_some] <;> rfl) | (simp [*, errW_none, errW_some] <;> rfl), by repeat (first | (with_reducible first | exact HB.out | apply below_alloc | apply pw_below_drewN | apply below_drew1) | exact HB.out)⟩
      · replace c9 := Bool.eq_false_iff.mpr c9
        subst c9
        have H1 : (godwitlaw12_TokensFence.l0 kj5 l0 a1 a2 l3 t334 0 ([] : List (S33))) = some r := by rw [if_neg (show ¬ (false = true) by decide)] at H; exact H
        clear H
        have H := H1
        clear H1
        have H' := Aside0.mk H
        clear H
        go_wp2_with (first | ((with_reducible refine gate_dst (N := 10) rfl ?_); (try (refine gate_guard (by rfl) ?_; dsimp only)); refine box_event ?hg (N := 10) ?hd (cs := #[.slice none 0 0]) (t := 26) ?hr ?_; (case hd => rfl); (case hg => rfl); (case hr => first | (go_simp; done) | (go_simp; rfl)); intro gb335 hg w10 hbox hb; have n0_ := Aside0.mk (below_step (by repeat (first | (with_reducible first | exact HB.out | apply below_alloc | apply pw_below_drewN | apply below_drew1) | exact HB.out)) hb); have n1_ := Aside0.mk (hbox); have n2_ := Aside0.mk ((by rw [hg]; exact (below_size (by repeat (first | (with_reducible first | exact HB.out | apply below_alloc | apply pw_below_drewN | apply below_drew1) | exact HB.out))) : w.heap.size ≤ gb335)); have n3_ := Aside0.mk ((by rw [hg]; exact (below_size (by repeat (first | (with_reducible first | exact HB.out | apply below_alloc | apply pw_below_drewN | apply below_drew1) | exact HB.out))) : w.heap.size ≤ gb335)); clear HB; have HB := n0_; have BK335 := n1_; have GW335 := n2_; have GE335 := n3_; clear n0_ n1_ n2_ n3_; clear hb hbox hg; have hcz11_0 : w10.cell? ⟨gb335, 0, none⟩ = some (.slice none 0 0) := (blk_cell BK335.out 0).trans rfl; have hfz11_0 := blk_frozen BK335.out 0))
        go_loopg [11] kj5 (fun kq v11 w' => ∃ (x11_2 : Int) (x336000_2 : List (S33)) (u336000 : Value), v11 = .int .i64 x11_2 ∧ Aside0 (godwitlaw12_TokensFence.l0 kq l0 a1 a2 l3 t334 x11_2 x336000_2 = some r) ∧ Aside0 (kq ≤ kj5) ∧ Aside0 (Kd.V k33 33 w' w.heap.size (fun k_ => k_ ≠ gb335) u336000 x336000_2) ∧ Aside0 (w'.heap[gb335]? = some (.cells #[u336000] 26 (0, 0))) ∧ Aside0 (Below w.heap.size w w'))
        case atStart => exact ⟨(0), (([] : List (S33))), (.slice none 0 0), (by first | rfl | (simp; done) | (simp [*]; done)), H', ⟨Nat.le_refl _⟩, ⟨Kd.V_nil _ _ _ _ _⟩, ⟨by (with_reducible repeat (first | refine blk_drewN ?_ _ | refine blk_drew ?_ | refine blk_alloc ?_ _)); refine blk_put (cs := #[.slice none 0 0]) ?_ 0 _ rfl; (with_reducible repeat (first | refine blk_drewN ?_ _ | refine blk_drew ?_ | refine blk_alloc ?_ _)); exact BK335.out⟩, ⟨by repeat (first | (with_reducible first | exact HB.out | apply below_alloc | apply pw_below_drewN | apply below_drew1 | refine below_set ?_ GE335.out) | exact HB.out)⟩⟩
        case round =>
          clear H'
          try clear p2
          try clear c3
          try clear c6
          try clear c7
          try clear c8
          try clear c8b0
          try clear c8b1
          try clear c9
          try clear hcz11_0
          try clear hfz11_0
          try clear p2
          obtain ⟨x11_2, x336000_2, u336000, rfl, HA, HK2, HO_336000, BK335, HB⟩ := hrel
          cases gk with
          | zero => exact absurd HA.out (by simp [godwitlaw12_TokensFence.l0])
          | succ k2 =>
            have H := HA.out
            clear HA
            simp only [godwitlaw12_TokensFence.l0] at H
            by_cases c12 : x11_2 < (l0.length : Int)
            · rw [if_pos c12] at H
              have c12b0 : decide (x11_2 < (l0.length : Int)) = true := decide_eq_true c12
              clear c12
              by_cases c13 : 0 ≤ x11_2
              · rw [if_pos c13] at H
                have c13b0 : decide (0 ≤ x11_2) = true := decide_eq_true c13
                clear c13
                replace H := Option.bind_eq_some_iff.mp H
                obtain ⟨⟨t337, t340⟩, A140, H⟩ := H
                replace H : (if t340 = 0 then (godwitlaw12_TokensFence.l0 k2 l0 a1 a2 l3 t334 (wrap64 (x11_2 + 1)) t337) else (godwitlaw12_TokensFence.l0 k2 l0 a1 a2 l3 t334 (wrap64 (x11_2 + 1)) x336000_2)) = some r := H
                have A14 := Aside0.mk A140
                clear A140
                by_cases c15 : t340 = 0
                · rw [if_pos c15] at H
                  have c15b0 : (t340 == 0) = true := beq_iff_eq.mpr c15
                  have c15b1 : (t340 != 0) = false := bne_eq_false_iff_eq.mpr c15
                  clear c15
                  have H' := Aside0.mk H
                  clear H
                  obtain ⟨Ao16, co16, eo16⟩ := Kd.V_slice HO_336000.out
                  subst eo16
                  try go_wp2
                  have n0_ := Aside0.mk (Kd.V_drew HO_336000.out)
                  have n1_ := Aside0.mk (blk_drew BK335.out)
                  have n2_ := Aside0.mk (below_drew1 HB.out)
                  clear HO_336000
                  clear BK335
                  clear HB
                  have HO_336000 := n0_
                  have BK335 := n1_
                  have HB := n2_
                  clear n0_ n1_ n2_
                  have p336 : 0 ≤ (x11_2 : Int) := of_decide_eq_true (by first | (with_reducible assumption) | assumption)
                  have q336 : x11_2 < (l0.length : Int) := of_decide_eq_true (by first | (with_reducible assumption) | assumption)
                  obtain ⟨ad336, e336, hx336_0, hx336_1, hx336_2⟩ := at_T28 HR0.out x11_2 p336 q336
                  have hw336_2 := hx336_2
                  have hw336_1 := hx336_1
                  have hw336_0 := hx336_0
                  cases e336
                  replace hx336_0 := (HB.out.cell (World.block_lt_of_cell? w _ hx336_0)).trans hx336_0
                  replace hx336_1 := (HB.out.cell (World.block_lt_of_cell? w _ hx336_1)).trans hx336_1
                  replace hx336_2 := (HB.out.cell (World.block_lt_of_cell? w _ hx336_2)).trans hx336_2
                  replace p336 := eq_true p336
                  replace q336 := eq_true q336
                  refine start_ (n := 14) (S := fun w' => w'.cell? ⟨gb335, 0, none⟩ = some (.slice Ao16 x336000_2.length co16) ∧ w'.cell? (ad336.add ((x11_2).toNat * 3)) = some (.int .i64 ((rd_T28 l0 x11_2).f0)) ∧ w'.cell? ⟨(ad336.add ((x11_2).toNat * 3)).block, (ad336.add ((x11_2).toNat * 3)).off + 1, none⟩ = some (.int .i64 ((rd_T28 l0 x11_2).f1)) ∧ w'.cell? ⟨(ad336.add ((x11_2).toNat * 3)).block, (ad336.add ((x11_2).toNat * 3)).off + 2, none⟩ = some (.int .i64 ((rd_T28 l0 x11_2).f2))) (ds := []) #[false, false, false, false, false, false, false, false, false, false, false, false, false, false] (by kernel_rfl) rfl rfl ⟨(blk_cell BK335.out 0).trans rfl, ((HB.out.cell (World.block_lt_of_cell? w _ hw336_0)).trans hw336_0), ((HB.out.cell (World.block_lt_of_cell? w _ hw336_1)).trans hw336_1), ((HB.out.cell (World.block_lt_of_cell? w _ hw336_2)).trans hw336_2)⟩ (fun hHeld => ?_); refine with_tabW godwitlaw12_TokensFence.tab8 godwitlaw12_TokensFence.bits8 (fun HT_ HW_ => ?_)
                  generalize wr.drew = w17 at HO_336000 BK335 HB hx336_0 hx336_1 hx336_2 hHeld ⊢
                  refine pure_ (i := 1) (N := some 39) (v := ?_) (a' := ?_) #[false, true, false, false, false, false, false, false, false, false, false, false, false, false] rfl rfl (any_of HT_.out (by kernel_rfl)) (fun _ _ _ h => h) (Or.inl ⟨by rfl, ?_⟩) ?_ ?_
                  rotate_left
                  · intro w'
                    go_simp
                    with_reducible rfl
                  rotate_left
                  · simp only [Act.put, List.setIfInBounds_toArray, List.set_cons_zero, List.set_cons_succ, i64_w, i32_w]
                    rfl
                  refine pure_ (i := 2) (N := some 40) (v := ?_) (a' := ?_) #[false, true, true, false, false, false, false, false, false, false, false, false, false, false] rfl rfl (any_of HT_.out (by kernel_rfl)) (fun _ _ _ h => h) (Or.inl ⟨by rfl, ?_⟩) ?_ ?_
                  rotate_left
                  · intro w'
                    go_simp
                    with_reducible rfl
                  rotate_left
                  · simp only [Act.put, List.setIfInBounds_toArray, List.set_cons_zero, List.set_cons_succ, i64_w, i32_w]
                    rfl
                  refine pure_ (i := 3) (N := some 41) (v := ?_) (a' := ?_) #[false, true, true, true, false, false, false, false, false, false, false, false, false, false] rfl rfl (any_of HT_.out (by kernel_rfl)) (fun _ _ _ h => h) (Or.inl ⟨by rfl, ?_⟩) ?_ ?_
                  rotate_left
                  · intro w'
                    go_simp
                    with_reducible rfl
                  rotate_left
                  · simp only [Act.put, List.setIfInBounds_toArray, List.set_cons_zero, List.set_cons_succ, i64_w, i32_w]
                    rfl
                  refine pure_ (i := 5) (N := some 43) (v := ?_) (a' := ?_) #[false, true, true, true, false, true, false, false, false, false, false, false, false, false] rfl rfl (any_of HT_.out (by kernel_rfl)) (fun _ _ _ h => h) (Or.inl ⟨by rfl, ?_⟩) ?_ ?_
                  rotate_left
                  · intro w'
                    go_simp
                    with_reducible rfl
                  rotate_left
                  · simp only [Act.put, List.setIfInBounds_toArray, List.set_cons_zero, List.set_cons_succ, i64_w, i32_w]
                    rfl
                  refine pure_ (i := 6) (N := some 44) (v := ?_) (a' := ?_) #[false, true, true, true, false, true, true, false, false, false, false, false, false, false] rfl rfl (any_of HT_.out (by kernel_rfl)) (fun _ _ _ h => h) (Or.inl ⟨by rfl, ?_⟩) ?_ ?_
                  rotate_left
                  · intro w'
                    go_simp
                    with_reducible rfl
                  rotate_left
                  · simp only [Act.put, List.setIfInBounds_toArray, List.set_cons_zero, List.set_cons_succ, i64_w, i32_w]
                    rfl
                  refine take_ (i := 0) (N := some 38) (v := ?_) (a' := ?_) #[true, true, true, true, false, true, true, false, false, false, false, false, false, false] rfl rfl (take_ofW HT_.out HW_.out (by kernel_rfl)) (fun _ _ _ h => h) (Or.inl ⟨by rfl, ?_⟩) hHeld ?_ ?_
                  rotate_left
                  · rintro w' ⟨s0, s1, s2, s3⟩
                    go_simp
                    with_reducible rfl
                  rotate_left
                  · simp only [Act.put, List.setIfInBounds_toArray, List.set_cons_zero, List.set_cons_succ, i64_w, i32_w]
                    rfl
                  refine take_ (i := 4) (N := some 42) (v := ?_) (a' := ?_) #[true, true, true, true, true, true, true, false, false, false, false, false, false, false] rfl rfl (take_ofW HT_.out HW_.out (by kernel_rfl)) (fun _ _ _ h => h) (Or.inl ⟨by rfl, ?_⟩) hHeld ?_ ?_
                  rotate_left
                  · rintro w' ⟨s0, s1, s2, s3⟩
                    go_simp
                    with_reducible rfl
                  rotate_left
                  · simp only [Act.put, List.setIfInBounds_toArray, List.set_cons_zero, List.set_cons_succ, i64_w, i32_w]
                    rfl
                  refine join_ (σ := Value × Nat) 2 #[true, true, true, true, true, true, true, true, true, true, true, true, false, false] (fun s_ => [(45, .tuple #[.agg #[s_.1], .int .i64 t340]), (12, .pointer (some ⟨s_.2, 0, none⟩)), (37, .tuple #[.agg #[s_.1], .int .i64 t340]), (46, .agg #[s_.1]), (47, .int .i64 t340)]) (fun s_ w' => (w'.cell? ⟨gb335, 0, none⟩ = some (.slice Ao16 x336000_2.length co16) ∧ w'.cell? (ad336.add ((x11_2).toNat * 3)) = some (.int .i64 ((rd_T28 l0 x11_2).f0)) ∧ w'.cell? ⟨(ad336.add ((x11_2).toNat * 3)).block, (ad336.add ((x11_2).toNat * 3)).off + 1, none⟩ = some (.int .i64 ((rd_T28 l0 x11_2).f1)) ∧ w'.cell? ⟨(ad336.add ((x11_2).toNat * 3)).block, (ad336.add ((x11_2).toNat * 3)).off + 2, none⟩ = some (.int .i64 ((rd_T28 l0 x11_2).f2))) ∧ (Kd.V k33 33 w' w.heap.size (fun k_ => k_ ≠ gb335 ∧ k_ ≠ s_.2) s_.1 t337) ∧ (Kd.V k33 33 w' w.heap.size (fun k_ => k_ ≠ gb335 ∧ k_ ≠ s_.2) (.slice Ao16 x336000_2.length co16) x336000_2) ∧ (w'.heap[gb335]? = some (.cells #[.slice Ao16 x336000_2.length co16] 26 (0, 0))) ∧ (w'.heap[s_.2]? = some (.cells #[.slice none 0 0] 26 (0, 0))) ∧ (w.heap.size ≤ s_.2) ∧ (w.heap.size ≤ s_.2) ∧ (gb335 ≠ s_.2) ∧ (s_.2 ≠ gb335) ∧ (Below w.heap.size w w')) ?_ ?_
                  rotate_left
                  · intro hCont
                    refine two_ (i := 7) (j := 11) (Ni := some 45) (Nj := some 12) #[true, true, true, true, true, true, true, true, false, false, false, false, false, false] #[true, true, true, true, true, true, true, false, false, false, false, true, false, false] rfl rfl rfl rfl (two_of HT_.out (by kernel_rfl)) (by decide) (by decide) (fun K hK => ?_) (fun K hK => ?_)
                    · skip
                      refine goes_ Try.func8 (by kernel_rfl) rfl #[.agg #[.slice Ao16 x336000_2.length co16], .agg #[.int .i64 ((rd_T28 l0 x11_2).f0), .int .i64 ((rd_T28 l0 x11_2).f1), .int .i64 ((rd_T28 l0 x11_2).f2)], .int .i64 (wrap64 (x11_2 + 1))] (by rfl) rfl rfl (by (try simp only [List.map_toArray, List.map_cons, List.map_nil]); first | done | rfl | (simp only [List.length_drop, List.length_take]; rfl)) ?_
                      with_reducible refine (godwitlaw12_did.calls k2 (fun k_ => k_ ≠ gb335) _ _ x336000_2 ((rd_T28 l0 x11_2).f0) ((rd_T28 l0 x11_2).f1) ((rd_T28 l0 x11_2).f2) (wrap64 (x11_2 + 1)) t337 t340 _ ?side1 A14.out).mono ?_
                      (case side1 => exact HO_336000.out)
                      rintro e w18 ⟨v338, rfl, ho0, hb⟩
                      refine ⟨_, rfl, ?_⟩
                      have n0_ := Aside0.mk (Kd.V_below (by (with_reducible repeat (first | apply Kd.V_alloc | apply Kd.V_drewN | apply Kd.V_drew)); exact HO_336000.out) hb)
                      have n1_ := Aside0.mk (Kd.V_lower (Kd.V_mono (ok' := fun k_ => k_ ≠ gb335) ho0 (fun k_ hk_ => Or.elim hk_ (fun hs_ => hs_) (fun hn_ => (Kd.freshB (g := gb335) (o := .cells #[.slice Ao16 x336000_2.length co16] 26 (0, 0)) (by (with_reducible repeat (first | refine blk_drewN ?_ _ | refine blk_drew ?_ | refine blk_alloc ?_ _)); exact BK335.out) k_ hn_)))) (below_size (by repeat (first | (with_reducible first | exact HB.out | apply below_alloc | apply pw_below_drewN | apply below_drew1 | refine below_set ?_ GE335.out) | exact HB.out))))
                      have n2_ := Aside0.mk (blk_below (g := gb335) (o := .cells #[.slice Ao16 x336000_2.length co16] 26 (0, 0)) (by (with_reducible repeat (first | refine blk_drewN ?_ _ | refine blk_drew ?_ | refine blk_alloc ?_ _)); exact BK335.out) hb)
                      have n3_ := Aside0.mk (below_step (by repeat (first | (with_reducible first | exact HB.out | apply below_alloc | apply pw_below_drewN | apply below_drew1 | refine below_set ?_ GE335.out) | exact HB.out)) hb)
                      clear HO_336000
                      clear BK335
                      clear HB
                      have HO_336000 := n0_
                      have HO339 := n1_
                      have BK335 := n2_
                      have HB := n3_
                      clear n0_ n1_ n2_ n3_
                      (try clear hb)
                      (try clear hb2)
                      (try clear hk)
                      (try clear hi)
                      (try clear ho0)
                      refine hK.out _ _ ⟨(blk_cell BK335.out 0).trans rfl, ((HB.out.cell (World.block_lt_of_cell? w _ hw336_0)).trans hw336_0), ((HB.out.cell (World.block_lt_of_cell? w _ hw336_1)).trans hw336_1), ((HB.out.cell (World.block_lt_of_cell? w _ hw336_2)).trans hw336_2)⟩ (fun hHeld => ?_)
                      clear hK K
                      refine norm_ (a' := ?_) ?_ ?_
                      rotate_left
                      · show Act.put _ (some 45) _ = _
                        simp only [Act.put, List.setIfInBounds_toArray, List.set_cons_zero, List.set_cons_succ, i64_w, i32_w]
                        rfl
                      refine pure_ (i := 8) (N := some 37) (v := ?_) (a' := ?_) #[true, true, true, true, true, true, true, true, true, false, false, false, false, false] rfl rfl (any_of HT_.out (by kernel_rfl)) (fun _ _ _ h => h) (Or.inl ⟨by rfl, ?_⟩) ?_ ?_
                      rotate_left
                      · intro w'
                        go_simp
                        with_reducible rfl
                      rotate_left
                      · simp only [Act.put, List.setIfInBounds_toArray, List.set_cons_zero, List.set_cons_succ, i64_w, i32_w]
                        rfl
                      refine pure_ (i := 9) (N := some 46) (v := ?_) (a' := ?_) #[true, true, true, true, true, true, true, true, true, true, false, false, false, false] rfl rfl (any_of HT_.out (by kernel_rfl)) (fun _ _ _ h => h) (Or.inl ⟨by rfl, ?_⟩) ?_ ?_
                      rotate_left
                      · intro w'
                        go_simp
                        with_reducible rfl
                      rotate_left
                      · simp only [Act.put, List.setIfInBounds_toArray, List.set_cons_zero, List.set_cons_succ, i64_w, i32_w]
                        rfl
                      refine pure_ (i := 10) (N := some 47) (v := ?_) (a' := ?_) #[true, true, true, true, true, true, true, true, true, true, true, false, false, false] rfl rfl (any_of HT_.out (by kernel_rfl)) (fun _ _ _ h => h) (Or.inl ⟨by rfl, ?_⟩) ?_ ?_
                      rotate_left
                      · intro w'
                        go_simp
                        with_reducible rfl
                      rotate_left
                      · simp only [Act.put, List.setIfInBounds_toArray, List.set_cons_zero, List.set_cons_succ, i64_w, i32_w]
                        rfl
                      refine one_ (i := 11) (N := some 12) #[true, true, true, true, true, true, true, true, true, true, true, true, false, false] rfl rfl (one_of HT_.out (by kernel_rfl)) (by decide) (fun K hK => ?_)
                      refine box_step ?hg (N := 12) ?hd (cs := #[.slice none 0 0]) (t := 26) ?hr ?_; (case hd => rfl); (case hg => rfl); (case hr => first | (go_simp; done) | (go_simp; rfl))
                      intro gb341 hg w19 hbox hb
                      have n0_ := Aside0.mk (Kd.V_below (Kd.V_elderB (by (with_reducible repeat (first | apply Kd.V_alloc | apply Kd.V_drewN | apply Kd.V_drew)); exact HO_336000.out) gb341 (Nat.le_of_eq hg.symm)) hb)
                      have n1_ := Aside0.mk (Kd.V_below (Kd.V_elderB (by (with_reducible repeat (first | apply Kd.V_alloc | apply Kd.V_drewN | apply Kd.V_drew)); exact HO339.out) gb341 (Nat.le_of_eq hg.symm)) hb)
                      have n2_ := Aside0.mk (blk_below (g := gb335) (o := .cells #[.slice Ao16 x336000_2.length co16] 26 (0, 0)) (by (with_reducible repeat (first | refine blk_drewN ?_ _ | refine blk_drew ?_ | refine blk_alloc ?_ _)); exact BK335.out) hb)
                      have n3_ := Aside0.mk (below_step (by repeat (first | (with_reducible first | exact HB.out | apply below_alloc | apply pw_below_drewN | apply below_drew1 | refine below_set ?_ GE335.out) | exact HB.out)) hb)
                      have n4_ := Aside0.mk (hbox)
                      have n5_ := Aside0.mk ((by rw [hg]; exact (below_size (by repeat (first | (with_reducible first | exact HB.out | apply below_alloc | apply pw_below_drewN | apply below_drew1 | refine below_set ?_ GE335.out) | exact HB.out))) : w.heap.size ≤ gb341))
                      have n6_ := Aside0.mk ((by rw [hg]; exact (below_size (by repeat (first | (with_reducible first | exact HB.out | apply below_alloc | apply pw_below_drewN | apply below_drew1 | refine below_set ?_ GE335.out) | exact HB.out))) : w.heap.size ≤ gb341))
                      have n7_ := Aside0.mk ((by rw [hg]; exact Nat.ne_of_lt (blk_lt (g := gb335) (o := .cells #[.slice Ao16 x336000_2.length co16] 26 (0, 0)) (by (with_reducible repeat (first | refine blk_drewN ?_ _ | refine blk_drew ?_ | refine blk_alloc ?_ _)); exact BK335.out)) : gb335 ≠ gb341))
                      have n8_ := Aside0.mk ((by rw [hg]; exact Nat.ne_of_gt (blk_lt (g := gb335) (o := .cells #[.slice Ao16 x336000_2.length co16] 26 (0, 0)) (by (with_reducible repeat (first | refine blk_drewN ?_ _ | refine blk_drew ?_ | refine blk_alloc ?_ _)); exact BK335.out)) : gb341 ≠ gb335))
                      clear HO_336000
                      clear HO339
                      clear BK335
                      clear HB
                      have HO_336000 := n0_
                      have HO339 := n1_
                      have BK335 := n2_
                      have HB := n3_
                      have BK341 := n4_
                      have GW341 := n5_
                      have GE341 := n6_
                      have NB335_341 := n7_
                      have NB341_335 := n8_
                      clear n0_ n1_ n2_ n3_ n4_ n5_ n6_ n7_ n8_
                      clear hb hbox hg
                      refine hK.out _ _ ⟨(blk_cell BK335.out 0).trans rfl, ((HB.out.cell (World.block_lt_of_cell? w _ hw336_0)).trans hw336_0), ((HB.out.cell (World.block_lt_of_cell? w _ hw336_1)).trans hw336_1), ((HB.out.cell (World.block_lt_of_cell? w _ hw336_2)).trans hw336_2)⟩ (fun hHeld => ?_)
                      clear hK K
                      refine norm_ (a' := ?_) ?_ ?_
                      rotate_left
                      · show Act.put _ (some 12) _ = _
                        simp only [Act.put, List.setIfInBounds_toArray, List.set_cons_zero, List.set_cons_succ, i64_w, i32_w]
                        rfl
                      exact norm_ (by simp only [putAll, Act.put, List.setIfInBounds_toArray, List.set_cons_zero, List.set_cons_succ]) (hCont (v338, gb341) _ ⟨hHeld, (by (with_reducible repeat (first | apply Kd.V_alloc | apply Kd.V_drewN | apply Kd.V_drew)); exact HO339.out), (by (with_reducible repeat (first | apply Kd.V_alloc | apply Kd.V_drewN | apply Kd.V_drew)); exact HO_336000.out), (by (with_reducible repeat (first | refine blk_drewN ?_ _ | refine blk_drew ?_ | refine blk_alloc ?_ _)); exact BK335.out), (by (with_reducible repeat (first | refine blk_drewN ?_ _ | refine blk_drew ?_ | refine blk_alloc ?_ _)); exact BK341.out), GW341.out, GE341.out, NB335_341.out, NB341_335.out, (by repeat (first | (with_reducible first | exact HB.out | apply below_alloc | apply pw_below_drewN | apply below_drew1 | refine below_set ?_ GE335.out | refine below_set ?_ GE341.out) | exact HB.out))⟩)
                    · skip
                      refine box_step ?hg (N := 12) ?hd (cs := #[.slice none 0 0]) (t := 26) ?hr ?_; (case hd => rfl); (case hg => rfl); (case hr => first | (go_simp; done) | (go_simp; rfl))
                      intro gb341 hg w18 hbox hb
                      have n0_ := Aside0.mk (Kd.V_below (Kd.V_elderB (by (with_reducible repeat (first | apply Kd.V_alloc | apply Kd.V_drewN | apply Kd.V_drew)); exact HO_336000.out) gb341 (Nat.le_of_eq hg.symm)) hb)
                      have n1_ := Aside0.mk (blk_below (g := gb335) (o := .cells #[.slice Ao16 x336000_2.length co16] 26 (0, 0)) (by (with_reducible repeat (first | refine blk_drewN ?_ _ | refine blk_drew ?_ | refine blk_alloc ?_ _)); exact BK335.out) hb)
                      have n2_ := Aside0.mk (below_step (by repeat (first | (with_reducible first | exact HB.out | apply below_alloc | apply pw_below_drewN | apply below_drew1 | refine below_set ?_ GE335.out) | exact HB.out)) hb)
                      have n3_ := Aside0.mk (hbox)
                      have n4_ := Aside0.mk ((by rw [hg]; exact (below_size (by repeat (first | (with_reducible first | exact HB.out | apply below_alloc | apply pw_below_drewN | apply below_drew1 | refine below_set ?_ GE335.out) | exact HB.out))) : w.heap.size ≤ gb341))
                      have n5_ := Aside0.mk ((by rw [hg]; exact (below_size (by repeat (first | (with_reducible first | exact HB.out | apply below_alloc | apply pw_below_drewN | apply below_drew1 | refine below_set ?_ GE335.out) | exact HB.out))) : w.heap.size ≤ gb341))
                      have n6_ := Aside0.mk ((by rw [hg]; exact Nat.ne_of_lt (blk_lt (g := gb335) (o := .cells #[.slice Ao16 x336000_2.length co16] 26 (0, 0)) (by (with_reducible repeat (first | refine blk_drewN ?_ _ | refine blk_drew ?_ | refine blk_alloc ?_ _)); exact BK335.out)) : gb335 ≠ gb341))
                      have n7_ := Aside0.mk ((by rw [hg]; exact Nat.ne_of_gt (blk_lt (g := gb335) (o := .cells #[.slice Ao16 x336000_2.length co16] 26 (0, 0)) (by (with_reducible repeat (first | refine blk_drewN ?_ _ | refine blk_drew ?_ | refine blk_alloc ?_ _)); exact BK335.out)) : gb341 ≠ gb335))
                      clear HO_336000
                      clear BK335
                      clear HB
                      have HO_336000 := n0_
                      have BK335 := n1_
                      have HB := n2_
                      have BK341 := n3_
                      have GW341 := n4_
                      have GE341 := n5_
                      have NB335_341 := n6_
                      have NB341_335 := n7_
                      clear n0_ n1_ n2_ n3_ n4_ n5_ n6_ n7_
                      clear hb hbox hg
                      refine hK.out _ _ ⟨(blk_cell BK335.out 0).trans rfl, ((HB.out.cell (World.block_lt_of_cell? w _ hw336_0)).trans hw336_0), ((HB.out.cell (World.block_lt_of_cell? w _ hw336_1)).trans hw336_1), ((HB.out.cell (World.block_lt_of_cell? w _ hw336_2)).trans hw336_2)⟩ (fun hHeld => ?_)
                      clear hK K
                      refine norm_ (a' := ?_) ?_ ?_
                      rotate_left
                      · show Act.put _ (some 12) _ = _
                        simp only [Act.put, List.setIfInBounds_toArray, List.set_cons_zero, List.set_cons_succ, i64_w, i32_w]
                        rfl
                      refine one_ (i := 7) (N := some 45) #[true, true, true, true, true, true, true, true, false, false, false, true, false, false] rfl rfl (one_of HT_.out (by kernel_rfl)) (by decide) (fun K hK => ?_)
                      refine goes_ Try.func8 (by kernel_rfl) rfl #[.agg #[.slice Ao16 x336000_2.length co16], .agg #[.int .i64 ((rd_T28 l0 x11_2).f0), .int .i64 ((rd_T28 l0 x11_2).f1), .int .i64 ((rd_T28 l0 x11_2).f2)], .int .i64 (wrap64 (x11_2 + 1))] (by rfl) rfl rfl (by (try simp only [List.map_toArray, List.map_cons, List.map_nil]); first | done | rfl | (simp only [List.length_drop, List.length_take]; rfl)) ?_
                      with_reducible refine (godwitlaw12_did.calls k2 (fun k_ => (k_ ≠ gb335 ∧ k_ ≠ gb341)) _ _ x336000_2 ((rd_T28 l0 x11_2).f0) ((rd_T28 l0 x11_2).f1) ((rd_T28 l0 x11_2).f2) (wrap64 (x11_2 + 1)) t337 t340 _ ?side1 A14.out).mono ?_
                      (case side1 => exact HO_336000.out)
                      rintro e w19 ⟨v338, rfl, ho0, hb⟩
                      refine ⟨_, rfl, ?_⟩
                      have n0_ := Aside0.mk (Kd.V_below (by (with_reducible repeat (first | apply Kd.V_alloc | apply Kd.V_drewN | apply Kd.V_drew)); exact HO_336000.out) hb)
                      have n1_ := Aside0.mk (Kd.V_lower (Kd.V_mono (ok' := fun k_ => k_ ≠ gb335 ∧ k_ ≠ gb341) ho0 (fun k_ hk_ => ⟨Or.elim hk_ (fun hs_ => hs_.1) (fun hn_ => (Kd.freshB (g := gb335) (o := .cells #[.slice Ao16 x336000_2.length co16] 26 (0, 0)) (by (with_reducible repeat (first | refine blk_drewN ?_ _ | refine blk_drew ?_ | refine blk_alloc ?_ _)); exact BK335.out) k_ hn_)), Or.elim hk_ (fun hs_ => hs_.2) (fun hn_ => (Kd.freshB (g := gb341) (o := .cells #[.slice none 0 0] 26 (0, 0)) (by (with_reducible repeat (first | refine blk_drewN ?_ _ | refine blk_drew ?_ | refine blk_alloc ?_ _)); exact BK341.out) k_ hn_))⟩)) (below_size (by repeat (first | (with_reducible first | exact HB.out | apply below_alloc | apply pw_below_drewN | apply below_drew1 | refine below_set ?_ GE335.out | refine below_set ?_ GE341.out) | exact HB.out))))
                      have n2_ := Aside0.mk (blk_below (g := gb335) (o := .cells #[.slice Ao16 x336000_2.length co16] 26 (0, 0)) (by (with_reducible repeat (first | refine blk_drewN ?_ _ | refine blk_drew ?_ | refine blk_alloc ?_ _)); exact BK335.out) hb)
                      have n3_ := Aside0.mk (blk_below (g := gb341) (o := .cells #[.slice none 0 0] 26 (0, 0)) (by (with_reducible repeat (first | refine blk_drewN ?_ _ | refine blk_drew ?_ | refine blk_alloc ?_ _)); exact BK341.out) hb)
                      have n4_ := Aside0.mk (below_step (by repeat (first | (with_reducible first | exact HB.out | apply below_alloc | apply pw_below_drewN | apply below_drew1 | refine below_set ?_ GE335.out | refine below_set ?_ GE341.out) | exact HB.out)) hb)
                      clear HO_336000
                      clear BK335
                      clear BK341
                      clear HB
                      have HO_336000 := n0_
                      have HO339 := n1_
                      have BK335 := n2_
                      have BK341 := n3_
                      have HB := n4_
                      clear n0_ n1_ n2_ n3_ n4_
                      (try clear hb)
                      (try clear hb2)
                      (try clear hk)
                      (try clear hi)
                      (try clear ho0)
                      refine hK.out _ _ ⟨(blk_cell BK335.out 0).trans rfl, ((HB.out.cell (World.block_lt_of_cell? w _ hw336_0)).trans hw336_0), ((HB.out.cell (World.block_lt_of_cell? w _ hw336_1)).trans hw336_1), ((HB.out.cell (World.block_lt_of_cell? w _ hw336_2)).trans hw336_2)⟩ (fun hHeld => ?_)
                      clear hK K
                      refine norm_ (a' := ?_) ?_ ?_
                      rotate_left
                      · show Act.put _ (some 45) _ = _
                        simp only [Act.put, List.setIfInBounds_toArray, List.set_cons_zero, List.set_cons_succ, i64_w, i32_w]
                        rfl
                      refine pure_ (i := 8) (N := some 37) (v := ?_) (a' := ?_) #[true, true, true, true, true, true, true, true, true, false, false, true, false, false] rfl rfl (any_of HT_.out (by kernel_rfl)) (fun _ _ _ h => h) (Or.inl ⟨by rfl, ?_⟩) ?_ ?_
                      rotate_left
                      · intro w'
                        go_simp
                        with_reducible rfl
                      rotate_left
                      · simp only [Act.put, List.setIfInBounds_toArray, List.set_cons_zero, List.set_cons_succ, i64_w, i32_w]
                        rfl
                      refine pure_ (i := 9) (N := some 46) (v := ?_) (a' := ?_) #[true, true, true, true, true, true, true, true, true, true, false, true, false, false] rfl rfl (any_of HT_.out (by kernel_rfl)) (fun _ _ _ h => h) (Or.inl ⟨by rfl, ?_⟩) ?_ ?_
                      rotate_left
                      · intro w'
                        go_simp
                        with_reducible rfl
                      rotate_left
                      · simp only [Act.put, List.setIfInBounds_toArray, List.set_cons_zero, List.set_cons_succ, i64_w, i32_w]
                        rfl
                      refine pure_ (i := 10) (N := some 47) (v := ?_) (a' := ?_) #[true, true, true, true, true, true, true, true, true, true, true, true, false, false] rfl rfl (any_of HT_.out (by kernel_rfl)) (fun _ _ _ h => h) (Or.inl ⟨by rfl, ?_⟩) ?_ ?_
                      rotate_left
                      · intro w'
                        go_simp
                        with_reducible rfl
                      rotate_left
                      · simp only [Act.put, List.setIfInBounds_toArray, List.set_cons_zero, List.set_cons_succ, i64_w, i32_w]
                        rfl
                      exact norm_ (by simp only [putAll, Act.put, List.setIfInBounds_toArray, List.set_cons_zero, List.set_cons_succ]) (hCont (v338, gb341) _ ⟨hHeld, (by (with_reducible repeat (first | apply Kd.V_alloc | apply Kd.V_drewN | apply Kd.V_drew)); exact HO339.out), (by (with_reducible repeat (first | apply Kd.V_alloc | apply Kd.V_drewN | apply Kd.V_drew)); exact HO_336000.out), (by (with_reducible repeat (first | refine blk_drewN ?_ _ | refine blk_drew ?_ | refine blk_alloc ?_ _)); exact BK335.out), (by (with_reducible repeat (first | refine blk_drewN ?_ _ | refine blk_drew ?_ | refine blk_alloc ?_ _)); exact BK341.out), GW341.out, GE341.out, NB335_341.out, NB341_335.out, (by repeat (first | (with_reducible first | exact HB.out | apply below_alloc | apply pw_below_drewN | apply below_drew1 | refine below_set ?_ GE335.out | refine below_set ?_ GE341.out) | exact HB.out))⟩)
                  rintro ⟨v338, gb341⟩ w20 ⟨hS_, h0_, h1_, h2_, h3_, h4_, h5_, h6_, h7_, h8_⟩
                  have n0_ : Aside0 (Kd.V k33 33 w20 w.heap.size (fun k_ => k_ ≠ gb335 ∧ k_ ≠ gb341) v338 t337) := ⟨h0_⟩
                  have n1_ : Aside0 (Kd.V k33 33 w20 w.heap.size (fun k_ => k_ ≠ gb335 ∧ k_ ≠ gb341) (.slice Ao16 x336000_2.length co16) x336000_2) := ⟨h1_⟩
                  have n2_ : Aside0 (w20.heap[gb335]? = some (.cells #[.slice Ao16 x336000_2.length co16] 26 (0, 0))) := ⟨h2_⟩
                  have n3_ : Aside0 (w20.heap[gb341]? = some (.cells #[.slice none 0 0] 26 (0, 0))) := ⟨h3_⟩
                  have n4_ : Aside0 (w.heap.size ≤ gb341) := ⟨h4_⟩
                  have n5_ : Aside0 (w.heap.size ≤ gb341) := ⟨h5_⟩
                  have n6_ : Aside0 (gb335 ≠ gb341) := ⟨h6_⟩
                  have n7_ : Aside0 (gb341 ≠ gb335) := ⟨h7_⟩
                  have n8_ : Aside0 (Below w.heap.size w w20) := ⟨h8_⟩
                  clear HO_336000
                  clear BK335
                  clear HB
                  clear h0_ h1_ h2_ h3_ h4_ h5_ h6_ h7_ h8_
                  have HO339 := n0_
                  have HO_336000 := n1_
                  have BK335 := n2_
                  have BK341 := n3_
                  have GW341 := n4_
                  have GE341 := n5_
                  have NB335_341 := n6_
                  have NB341_335 := n7_
                  have HB := n8_
                  clear n0_ n1_ n2_ n3_ n4_ n5_ n6_ n7_ n8_
                  have hHeld : w20.cell? ⟨gb335, 0, none⟩ = some (.slice Ao16 x336000_2.length co16) ∧ w20.cell? (ad336.add ((x11_2).toNat * 3)) = some (.int .i64 ((rd_T28 l0 x11_2).f0)) ∧ w20.cell? ⟨(ad336.add ((x11_2).toNat * 3)).block, (ad336.add ((x11_2).toNat * 3)).off + 1, none⟩ = some (.int .i64 ((rd_T28 l0 x11_2).f1)) ∧ w20.cell? ⟨(ad336.add ((x11_2).toNat * 3)).block, (ad336.add ((x11_2).toNat * 3)).off + 2, none⟩ = some (.int .i64 ((rd_T28 l0 x11_2).f2)) := hS_
                  obtain ⟨Ao21, co21, eo21⟩ := Kd.V_slice HO339.out
                  (first | subst eo21 | (injection eo21 with f1_ f2_ f3_; have f4_ := f1_.symm; have f5_ := f3_.symm; clear f1_ f2_ f3_; subst f4_; subst f5_))
                  refine norm_ (a' := ?_) ?_ ?_
                  rotate_left
                  · simp only [putAll, Act.put, List.setIfInBounds_toArray, List.set_cons_zero, List.set_cons_succ]
                    rfl
                  refine one_ (i := 12) (N := none) #[true, true, true, true, true, true, true, true, true, true, true, true, true, false] rfl rfl (one_of HT_.out (by kernel_rfl)) (by decide) (fun K hK => ?_)
                  have hs22 : w20.cell? ⟨gb341, 0, none⟩ = some (.slice none 0 0) := (blk_cell BK341.out 0).trans rfl
                  have hfs22 := blk_frozen BK341.out 0
                  have hns22_0 := NB335_341.out
                  have hms22_0 := NB341_335.out
                  refine skip_ (w1 := ?_) (by rfl) rfl ?_ ?_
                  rotate_left
                  · go_simp
                    rfl
                  refine hK.out _ _ ⟨((cell_far (p := ⟨gb341, _, none⟩) NB335_341.out _).trans (hHeld.1)), ((cell_far (p := ⟨gb341, _, none⟩) (by first | exact Nat.ne_of_lt (Nat.lt_of_lt_of_le (by have := World.block_lt_of_cell? _ _ hw336_0; first | rwa [add_block] at this | exact this) GW341.out) | (rw [add_block]; exact Nat.ne_of_lt (Nat.lt_of_lt_of_le (by have := World.block_lt_of_cell? _ _ hw336_0; first | rwa [add_block] at this | exact this) GW341.out)) | (show (Addr.add _ _).block ≠ _; rw [add_block]; exact Nat.ne_of_lt (Nat.lt_of_lt_of_le (by have := World.block_lt_of_cell? _ _ hw336_0; first | rwa [add_block] at this | exact this) GW341.out)) | (dsimp only; exact Nat.ne_of_lt (Nat.lt_of_lt_of_le (by have := World.block_lt_of_cell? _ _ hw336_0; first | rwa [add_block] at this | exact this) GW341.out))) _).trans (hHeld.2.1)), ((cell_far (p := ⟨gb341, _, none⟩) (by first | exact Nat.ne_of_lt (Nat.lt_of_lt_of_le (by have := World.block_lt_of_cell? _ _ hw336_1; first | rwa [add_block] at this | exact this) GW341.out) | (rw [add_block]; exact Nat.ne_of_lt (Nat.lt_of_lt_of_le (by have := World.block_lt_of_cell? _ _ hw336_1; first | rwa [add_block] at this | exact this) GW341.out)) | (show (Addr.add _ _).block ≠ _; rw [add_block]; exact Nat.ne_of_lt (Nat.lt_of_lt_of_le (by have := World.block_lt_of_cell? _ _ hw336_1; first | rwa [add_block] at this | exact this) GW341.out)) | (dsimp only; exact Nat.ne_of_lt (Nat.lt_of_lt_of_le (by have := World.block_lt_of_cell? _ _ hw336_1; first | rwa [add_block] at this | exact this) GW341.out))) _).trans (hHeld.2.2.1)), ((cell_far (p := ⟨gb341, _, none⟩) (by first | exact Nat.ne_of_lt (Nat.lt_of_lt_of_le (by have := World.block_lt_of_cell? _ _ hw336_2; first | rwa [add_block] at this | exact this) GW341.out) | (rw [add_block]; exact Nat.ne_of_lt (Nat.lt_of_lt_of_le (by have := World.block_lt_of_cell? _ _ hw336_2; first | rwa [add_block] at this | exact this) GW341.out)) | (show (Addr.add _ _).block ≠ _; rw [add_block]; exact Nat.ne_of_lt (Nat.lt_of_lt_of_le (by have := World.block_lt_of_cell? _ _ hw336_2; first | rwa [add_block] at this | exact this) GW341.out)) | (dsimp only; exact Nat.ne_of_lt (Nat.lt_of_lt_of_le (by have := World.block_lt_of_cell? _ _ hw336_2; first | rwa [add_block] at this | exact this) GW341.out))) _).trans (hHeld.2.2.2))⟩ (fun hHeld => ?_)
                  clear hK K
                  refine pure_ (i := 13) (N := some 13) (v := ?_) (a' := ?_) #[true, true, true, true, true, true, true, true, true, true, true, true, true, true] rfl rfl (any_of HT_.out (by kernel_rfl)) (fun _ _ _ h => h) (Or.inl ⟨by rfl, ?_⟩) ?_ ?_
                  rotate_left
                  · intro w'
                    go_simp
                    with_reducible rfl
                  rotate_left
                  · simp only [Act.put, List.setIfInBounds_toArray, List.set_cons_zero, List.set_cons_succ, i64_w, i32_w]
                    rfl
                  refine done_ (done_of HT_.out (by kernel_rfl)) ?_
                  have hnb23 := NB341_335.out
                  have hnc23 := NB335_341.out
                  have hcz24_0 : w20.cell? ⟨gb341, 0, none⟩ = some (.slice none 0 0) := (blk_cell BK341.out 0).trans rfl
                  have hfz24_0 := blk_frozen BK341.out 0
                  have hcz25_0 : w20.cell? ⟨gb335, 0, none⟩ = some (.slice Ao16 x336000_2.length co16) := (blk_cell BK335.out 0).trans rfl
                  have hfz25_0 := blk_frozen BK335.out 0
                  try go_wp2
                  go_roundg k2
                  case measure => have := HJ5.out; have := HK2.out; omega
                  case rel => exact ⟨(wrap64 (x11_2 + 1)), (t337), (.slice Ao21 t337.length co21), (by first | rfl | (simp; done) | (simp [*]; done)), H', ⟨by have := HJ5.out; have := HK2.out; omega⟩, ⟨by (with_reducible repeat (first | apply Kd.V_alloc | apply Kd.V_drewN | apply Kd.V_drew)); exact Kd.V_mono (Kd.V_far (p := ⟨gb335, 0, none⟩) (Kd.V_far (p := ⟨gb341, 0, none⟩) (Kd.V_mono (Kd.V_mono HO339.out (fun k_ hk => (⟨hk, hk.2⟩ : _ ∧ k_ ≠ gb341))) (fun k_ hk => (⟨hk, hk.1.1⟩ : _ ∧ k_ ≠ gb335))) (fun _ hk => hk.1.2) (.slice Ao21 t337.length co21)) (fun _ hk => hk.2) (.slice Ao21 t337.length co21)) (fun _ hk => hk.1.1.1)⟩, ⟨by (with_reducible repeat (first | refine blk_drewN ?_ _ | refine blk_drew ?_ | refine blk_alloc ?_ _)); refine blk_put (cs := #[.slice Ao16 x336000_2.length co16]) ?_ 0 _ rfl; (with_reducible repeat (first | refine blk_drewN ?_ _ | refine blk_drew ?_ | refine blk_alloc ?_ _)); refine blk_far ?_ NB335_341.out _; (with_reducible repeat (first | refine blk_drewN ?_ _ | refine blk_drew ?_ | refine blk_alloc ?_ _)); exact BK335.out⟩, ⟨by repeat (first | (with_reducible first | exact HB.out | apply below_alloc | apply pw_below_drewN | apply below_drew1 | refine below_set ?_ GE335.out | refine below_set ?_ GE341.out) | exact HB.out)⟩⟩
                · rw [if_neg c15] at H
                  have c15b0 : (t340 == 0) = false := beq_eq_false_iff_ne.mpr c15
                  have c15b1 : (t340 != 0) = true := bne_iff_ne.mpr c15
                  have H' := Aside0.mk H
                  clear H
                  obtain ⟨Ao26, co26, eo26⟩ := Kd.V_slice HO_336000.out
                  subst eo26
                  try go_wp2
                  have n0_ := Aside0.mk (Kd.V_drew HO_336000.out)
                  have n1_ := Aside0.mk (blk_drew BK335.out)
                  have n2_ := Aside0.mk (below_drew1 HB.out)
                  clear HO_336000
                  clear BK335
                  clear HB
                  have HO_336000 := n0_
                  have BK335 := n1_
                  have HB := n2_
                  clear n0_ n1_ n2_
                  have p336 : 0 ≤ (x11_2 : Int) := of_decide_eq_true (by first | (with_reducible assumption) | assumption)
                  have q336 : x11_2 < (l0.length : Int) := of_decide_eq_true (by first | (with_reducible assumption) | assumption)
                  obtain ⟨ad336, e336, hx336_0, hx336_1, hx336_2⟩ := at_T28 HR0.out x11_2 p336 q336
                  have hw336_2 := hx336_2
                  have hw336_1 := hx336_1
                  have hw336_0 := hx336_0
                  cases e336
                  replace hx336_0 := (HB.out.cell (World.block_lt_of_cell? w _ hx336_0)).trans hx336_0
                  replace hx336_1 := (HB.out.cell (World.block_lt_of_cell? w _ hx336_1)).trans hx336_1
                  replace hx336_2 := (HB.out.cell (World.block_lt_of_cell? w _ hx336_2)).trans hx336_2
                  replace p336 := eq_true p336
                  replace q336 := eq_true q336
                  refine start_ (n := 14) (S := fun w' => w'.cell? ⟨gb335, 0, none⟩ = some (.slice Ao26 x336000_2.length co26) ∧ w'.cell? (ad336.add ((x11_2).toNat * 3)) = some (.int .i64 ((rd_T28 l0 x11_2).f0)) ∧ w'.cell? ⟨(ad336.add ((x11_2).toNat * 3)).block, (ad336.add ((x11_2).toNat * 3)).off + 1, none⟩ = some (.int .i64 ((rd_T28 l0 x11_2).f1)) ∧ w'.cell? ⟨(ad336.add ((x11_2).toNat * 3)).block, (ad336.add ((x11_2).toNat * 3)).off + 2, none⟩ = some (.int .i64 ((rd_T28 l0 x11_2).f2))) (ds := []) #[false, false, false, false, false, false, false, false, false, false, false, false, false, false] (by kernel_rfl) rfl rfl ⟨(blk_cell BK335.out 0).trans rfl, ((HB.out.cell (World.block_lt_of_cell? w _ hw336_0)).trans hw336_0), ((HB.out.cell (World.block_lt_of_cell? w _ hw336_1)).trans hw336_1), ((HB.out.cell (World.block_lt_of_cell? w _ hw336_2)).trans hw336_2)⟩ (fun hHeld => ?_); refine with_tabW godwitlaw12_TokensFence.tab8 godwitlaw12_TokensFence.bits8 (fun HT_ HW_ => ?_)
                  generalize wr.drew = w27 at HO_336000 BK335 HB hx336_0 hx336_1 hx336_2 hHeld ⊢
                  refine pure_ (i := 1) (N := some 39) (v := ?_) (a' := ?_) #[false, true, false, false, false, false, false, false, false, false, false, false, false, false] rfl rfl (any_of HT_.out (by kernel_rfl)) (fun _ _ _ h => h) (Or.inl ⟨by rfl, ?_⟩) ?_ ?_
                  rotate_left
                  · intro w'
                    go_simp
                    with_reducible rfl
                  rotate_left
                  · simp only [Act.put, List.setIfInBounds_toArray, List.set_cons_zero, List.set_cons_succ, i64_w, i32_w]
                    rfl
                  refine pure_ (i := 2) (N := some 40) (v := ?_) (a' := ?_) #[false, true, true, false, false, false, false, false, false, false, false, false, false, false] rfl rfl (any_of HT_.out (by kernel_rfl)) (fun _ _ _ h => h) (Or.inl ⟨by rfl, ?_⟩) ?_ ?_
                  rotate_left
                  · intro w'
                    go_simp
                    with_reducible rfl
                  rotate_left
                  · simp only [Act.put, List.setIfInBounds_toArray, List.set_cons_zero, List.set_cons_succ, i64_w, i32_w]
                    rfl
                  refine pure_ (i := 3) (N := some 41) (v := ?_) (a' := ?_) #[false, true, true, true, false, false, false, false, false, false, false, false, false, false] rfl rfl (any_of HT_.out (by kernel_rfl)) (fun _ _ _ h => h) (Or.inl ⟨by rfl, ?_⟩) ?_ ?_
                  rotate_left
                  · intro w'
                    go_simp
                    with_reducible rfl
                  rotate_left
                  · simp only [Act.put, List.setIfInBounds_toArray, List.set_cons_zero, List.set_cons_succ, i64_w, i32_w]
                    rfl
                  refine pure_ (i := 5) (N := some 43) (v := ?_) (a' := ?_) #[false, true, true, true, false, true, false, false, false, false, false, false, false, false] rfl rfl (any_of HT_.out (by kernel_rfl)) (fun _ _ _ h => h) (Or.inl ⟨by rfl, ?_⟩) ?_ ?_
                  rotate_left
                  · intro w'
                    go_simp
                    with_reducible rfl
                  rotate_left
                  · simp only [Act.put, List.setIfInBounds_toArray, List.set_cons_zero, List.set_cons_succ, i64_w, i32_w]
                    rfl
                  refine pure_ (i := 6) (N := some 44) (v := ?_) (a' := ?_) #[false, true, true, true, false, true, true, false, false, false, false, false, false, false] rfl rfl (any_of HT_.out (by kernel_rfl)) (fun _ _ _ h => h) (Or.inl ⟨by rfl, ?_⟩) ?_ ?_
                  rotate_left
                  · intro w'
                    go_simp
                    with_reducible rfl
                  rotate_left
                  · simp only [Act.put, List.setIfInBounds_toArray, List.set_cons_zero, List.set_cons_succ, i64_w, i32_w]
                    rfl
                  refine take_ (i := 0) (N := some 38) (v := ?_) (a' := ?_) #[true, true, true, true, false, true, true, false, false, false, false, false, false, false] rfl rfl (take_ofW HT_.out HW_.out (by kernel_rfl)) (fun _ _ _ h => h) (Or.inl ⟨by rfl, ?_⟩) hHeld ?_ ?_
                  rotate_left
                  · rintro w' ⟨s0, s1, s2, s3⟩
                    go_simp
                    with_reducible rfl
                  rotate_left
                  · simp only [Act.put, List.setIfInBounds_toArray, List.set_cons_zero, List.set_cons_succ, i64_w, i32_w]
                    rfl
                  refine take_ (i := 4) (N := some 42) (v := ?_) (a' := ?_) #[true, true, true, true, true, true, true, false, false, false, false, false, false, false] rfl rfl (take_ofW HT_.out HW_.out (by kernel_rfl)) (fun _ _ _ h => h) (Or.inl ⟨by rfl, ?_⟩) hHeld ?_ ?_
                  rotate_left
                  · rintro w' ⟨s0, s1, s2, s3⟩
                    go_simp
                    with_reducible rfl
                  rotate_left
                  · simp only [Act.put, List.setIfInBounds_toArray, List.set_cons_zero, List.set_cons_succ, i64_w, i32_w]
                    rfl
                  refine join_ (σ := Value × Nat) 2 #[true, true, true, true, true, true, true, true, true, true, true, true, false, false] (fun s_ => [(45, .tuple #[.agg #[s_.1], .int .i64 t340]), (12, .pointer (some ⟨s_.2, 0, none⟩)), (37, .tuple #[.agg #[s_.1], .int .i64 t340]), (46, .agg #[s_.1]), (47, .int .i64 t340)]) (fun s_ w' => (w'.cell? ⟨gb335, 0, none⟩ = some (.slice Ao26 x336000_2.length co26) ∧ w'.cell? (ad336.add ((x11_2).toNat * 3)) = some (.int .i64 ((rd_T28 l0 x11_2).f0)) ∧ w'.cell? ⟨(ad336.add ((x11_2).toNat * 3)).block, (ad336.add ((x11_2).toNat * 3)).off + 1, none⟩ = some (.int .i64 ((rd_T28 l0 x11_2).f1)) ∧ w'.cell? ⟨(ad336.add ((x11_2).toNat * 3)).block, (ad336.add ((x11_2).toNat * 3)).off + 2, none⟩ = some (.int .i64 ((rd_T28 l0 x11_2).f2))) ∧ (Kd.V k33 33 w' w.heap.size (fun k_ => k_ ≠ gb335 ∧ k_ ≠ s_.2) s_.1 t337) ∧ (Kd.V k33 33 w' w.heap.size (fun k_ => k_ ≠ gb335 ∧ k_ ≠ s_.2) (.slice Ao26 x336000_2.length co26) x336000_2) ∧ (w'.heap[gb335]? = some (.cells #[.slice Ao26 x336000_2.length co26] 26 (0, 0))) ∧ (w'.heap[s_.2]? = some (.cells #[.slice none 0 0] 26 (0, 0))) ∧ (w.heap.size ≤ s_.2) ∧ (w.heap.size ≤ s_.2) ∧ (gb335 ≠ s_.2) ∧ (s_.2 ≠ gb335) ∧ (Below w.heap.size w w')) ?_ ?_
                  rotate_left
                  · intro hCont
                    refine two_ (i := 7) (j := 11) (Ni := some 45) (Nj := some 12) #[true, true, true, true, true, true, true, true, false, false, false, false, false, false] #[true, true, true, true, true, true, true, false, false, false, false, true, false, false] rfl rfl rfl rfl (two_of HT_.out (by kernel_rfl)) (by decide) (by decide) (fun K hK => ?_) (fun K hK => ?_)
                    · skip
                      refine goes_ Try.func8 (by kernel_rfl) rfl #[.agg #[.slice Ao26 x336000_2.length co26], .agg #[.int .i64 ((rd_T28 l0 x11_2).f0), .int .i64 ((rd_T28 l0 x11_2).f1), .int .i64 ((rd_T28 l0 x11_2).f2)], .int .i64 (wrap64 (x11_2 + 1))] (by rfl) rfl rfl (by (try simp only [List.map_toArray, List.map_cons, List.map_nil]); first | done | rfl | (simp only [List.length_drop, List.length_take]; rfl)) ?_
                      with_reducible refine (godwitlaw12_did.calls k2 (fun k_ => k_ ≠ gb335) _ _ x336000_2 ((rd_T28 l0 x11_2).f0) ((rd_T28 l0 x11_2).f1) ((rd_T28 l0 x11_2).f2) (wrap64 (x11_2 + 1)) t337 t340 _ ?side1 A14.out).mono ?_
                      (case side1 => exact HO_336000.out)
                      rintro e w28 ⟨v338, rfl, ho0, hb⟩
                      refine ⟨_, rfl, ?_⟩
                      have n0_ := Aside0.mk (Kd.V_below (by (with_reducible repeat (first | apply Kd.V_alloc | apply Kd.V_drewN | apply Kd.V_drew)); exact HO_336000.out) hb)
                      have n1_ := Aside0.mk (Kd.V_lower (Kd.V_mono (ok' := fun k_ => k_ ≠ gb335) ho0 (fun k_ hk_ => Or.elim hk_ (fun hs_ => hs_) (fun hn_ => (Kd.freshB (g := gb335) (o := .cells #[.slice Ao26 x336000_2.length co26] 26 (0, 0)) (by (with_reducible repeat (first | refine blk_drewN ?_ _ | refine blk_drew ?_ | refine blk_alloc ?_ _)); exact BK335.out) k_ hn_)))) (below_size (by repeat (first | (with_reducible first | exact HB.out | apply below_alloc | apply pw_below_drewN | apply below_drew1 | refine below_set ?_ GE335.out) | exact HB.out))))
                      have n2_ := Aside0.mk (blk_below (g := gb335) (o := .cells #[.slice Ao26 x336000_2.length co26] 26 (0, 0)) (by (with_reducible repeat (first | refine blk_drewN ?_ _ | refine blk_drew ?_ | refine blk_alloc ?_ _)); exact BK335.out) hb)
                      have n3_ := Aside0.mk (below_step (by repeat (first | (with_reducible first | exact HB.out | apply below_alloc | apply pw_below_drewN | apply below_drew1 | refine below_set ?_ GE335.out) | exact HB.out)) hb)
                      clear HO_336000
                      clear BK335
                      clear HB
                      have HO_336000 := n0_
                      have HO339 := n1_
                      have BK335 := n2_
                      have HB := n3_
                      clear n0_ n1_ n2_ n3_
                      (try clear hb)
                      (try clear hb2)
                      (try clear hk)
                      (try clear hi)
                      (try clear ho0)
                      refine hK.out _ _ ⟨(blk_cell BK335.out 0).trans rfl, ((HB.out.cell (World.block_lt_of_cell? w _ hw336_0)).trans hw336_0), ((HB.out.cell (World.block_lt_of_cell? w _ hw336_1)).trans hw336_1), ((HB.out.cell (World.block_lt_of_cell? w _ hw336_2)).trans hw336_2)⟩ (fun hHeld => ?_)
                      clear hK K
                      refine norm_ (a' := ?_) ?_ ?_
                      rotate_left
                      · show Act.put _ (some 45) _ = _
                        simp only [Act.put, List.setIfInBounds_toArray, List.set_cons_zero, List.set_cons_succ, i64_w, i32_w]
                        rfl
                      refine pure_ (i := 8) (N := some 37) (v := ?_) (a' := ?_) #[true, true, true, true, true, true, true, true, true, false, false, false, false, false] rfl rfl (any_of HT_.out (by kernel_rfl)) (fun _ _ _ h => h) (Or.inl ⟨by rfl, ?_⟩) ?_ ?_
                      rotate_left
                      · intro w'
                        go_simp
                        with_reducible rfl
                      rotate_left
                      · simp only [Act.put, List.setIfInBounds_toArray, List.set_cons_zero, List.set_cons_succ, i64_w, i32_w]
                        rfl
                      refine pure_ (i := 9) (N := some 46) (v := ?_) (a' := ?_) #[true, true, true, true, true, true, true, true, true, true, false, false, false, false] rfl rfl (any_of HT_.out (by kernel_rfl)) (fun _ _ _ h => h) (Or.inl ⟨by rfl, ?_⟩) ?_ ?_
                      rotate_left
                      · intro w'
                        go_simp
                        with_reducible rfl
                      rotate_left
                      · simp only [Act.put, List.setIfInBounds_toArray, List.set_cons_zero, List.set_cons_succ, i64_w, i32_w]
                        rfl
                      refine pure_ (i := 10) (N := some 47) (v := ?_) (a' := ?_) #[true, true, true, true, true, true, true, true, true, true, true, false, false, false] rfl rfl (any_of HT_.out (by kernel_rfl)) (fun _ _ _ h => h) (Or.inl ⟨by rfl, ?_⟩) ?_ ?_
                      rotate_left
                      · intro w'
                        go_simp
                        with_reducible rfl
                      rotate_left
                      · simp only [Act.put, List.setIfInBounds_toArray, List.set_cons_zero, List.set_cons_succ, i64_w, i32_w]
                        rfl
                      refine one_ (i := 11) (N := some 12) #[true, true, true, true, true, true, true, true, true, true, true, true, false, false] rfl rfl (one_of HT_.out (by kernel_rfl)) (by decide) (fun K hK => ?_)
                      refine box_step ?hg (N := 12) ?hd (cs := #[.slice none 0 0]) (t := 26) ?hr ?_; (case hd => rfl); (case hg => rfl); (case hr => first | (go_simp; done) | (go_simp; rfl))
                      intro gb341 hg w29 hbox hb
                      have n0_ := Aside0.mk (Kd.V_below (Kd.V_elderB (by (with_reducible repeat (first | apply Kd.V_alloc | apply Kd.V_drewN | apply Kd.V_drew)); exact HO_336000.out) gb341 (Nat.le_of_eq hg.symm)) hb)
                      have n1_ := Aside0.mk (Kd.V_below (Kd.V_elderB (by (with_reducible repeat (first | apply Kd.V_alloc | apply Kd.V_drewN | apply Kd.V_drew)); exact HO339.out) gb341 (Nat.le_of_eq hg.symm)) hb)
                      have n2_ := Aside0.mk (blk_below (g := gb335) (o := .cells #[.slice Ao26 x336000_2.length co26] 26 (0, 0)) (by (with_reducible repeat (first | refine blk_drewN ?_ _ | refine blk_drew ?_ | refine blk_alloc ?_ _)); exact BK335.out) hb)
                      have n3_ := Aside0.mk (below_step (by repeat (first | (with_reducible first | exact HB.out | apply below_alloc | apply pw_below_drewN | apply below_drew1 | refine below_set ?_ GE335.out) | exact HB.out)) hb)
                      have n4_ := Aside0.mk (hbox)
                      have n5_ := Aside0.mk ((by rw [hg]; exact (below_size (by repeat (first | (with_reducible first | exact HB.out | apply below_alloc | apply pw_below_drewN | apply below_drew1 | refine below_set ?_ GE335.out) | exact HB.out))) : w.heap.size ≤ gb341))
                      have n6_ := Aside0.mk ((by rw [hg]; exact (below_size (by repeat (first | (with_reducible first | exact HB.out | apply below_alloc | apply pw_below_drewN | apply below_drew1 | refine below_set ?_ GE335.out) | exact HB.out))) : w.heap.size ≤ gb341))
                      have n7_ := Aside0.mk ((by rw [hg]; exact Nat.ne_of_lt (blk_lt (g := gb335) (o := .cells #[.slice Ao26 x336000_2.length co26] 26 (0, 0)) (by (with_reducible repeat (first | refine blk_drewN ?_ _ | refine blk_drew ?_ | refine blk_alloc ?_ _)); exact BK335.out)) : gb335 ≠ gb341))
                      have n8_ := Aside0.mk ((by rw [hg]; exact Nat.ne_of_gt (blk_lt (g := gb335) (o := .cells #[.slice Ao26 x336000_2.length co26] 26 (0, 0)) (by (with_reducible repeat (first | refine blk_drewN ?_ _ | refine blk_drew ?_ | refine blk_alloc ?_ _)); exact BK335.out)) : gb341 ≠ gb335))
                      clear HO_336000
                      clear HO339
                      clear BK335
                      clear HB
                      have HO_336000 := n0_
                      have HO339 := n1_
                      have BK335 := n2_
                      have HB := n3_
                      have BK341 := n4_
                      have GW341 := n5_
                      have GE341 := n6_
                      have NB335_341 := n7_
                      have NB341_335 := n8_
                      clear n0_ n1_ n2_ n3_ n4_ n5_ n6_ n7_ n8_
                      clear hb hbox hg
                      refine hK.out _ _ ⟨(blk_cell BK335.out 0).trans rfl, ((HB.out.cell (World.block_lt_of_cell? w _ hw336_0)).trans hw336_0), ((HB.out.cell (World.block_lt_of_cell? w _ hw336_1)).trans hw336_1), ((HB.out.cell (World.block_lt_of_cell? w _ hw336_2)).trans hw336_2)⟩ (fun hHeld => ?_)
                      clear hK K
                      refine norm_ (a' := ?_) ?_ ?_
                      rotate_left
                      · show Act.put _ (some 12) _ = _
                        simp only [Act.put, List.setIfInBounds_toArray, List.set_cons_zero, List.set_cons_succ, i64_w, i32_w]
                        rfl
                      exact norm_ (by simp only [putAll, Act.put, List.setIfInBounds_toArray, List.set_cons_zero, List.set_cons_succ]) (hCont (v338, gb341) _ ⟨hHeld, (by (with_reducible repeat (first | apply Kd.V_alloc | apply Kd.V_drewN | apply Kd.V_drew)); exact HO339.out), (by (with_reducible repeat (first | apply Kd.V_alloc | apply Kd.V_drewN | apply Kd.V_drew)); exact HO_336000.out), (by (with_reducible repeat (first | refine blk_drewN ?_ _ | refine blk_drew ?_ | refine blk_alloc ?_ _)); exact BK335.out), (by (with_reducible repeat (first | refine blk_drewN ?_ _ | refine blk_drew ?_ | refine blk_alloc ?_ _)); exact BK341.out), GW341.out, GE341.out, NB335_341.out, NB341_335.out, (by repeat (first | (with_reducible first | exact HB.out | apply below_alloc | apply pw_below_drewN | apply below_drew1 | refine below_set ?_ GE335.out | refine below_set ?_ GE341.out) | exact HB.out))⟩)
                    · skip
                      refine box_step ?hg (N := 12) ?hd (cs := #[.slice none 0 0]) (t := 26) ?hr ?_; (case hd => rfl); (case hg => rfl); (case hr => first | (go_simp; done) | (go_simp; rfl))
                      intro gb341 hg w28 hbox hb
                      have n0_ := Aside0.mk (Kd.V_below (Kd.V_elderB (by (with_reducible repeat (first | apply Kd.V_alloc | apply Kd.V_drewN | apply Kd.V_drew)); exact HO_336000.out) gb341 (Nat.le_of_eq hg.symm)) hb)
                      have n1_ := Aside0.mk (blk_below (g := gb335) (o := .cells #[.slice Ao26 x336000_2.length co26] 26 (0, 0)) (by (with_reducible repeat (first | refine blk_drewN ?_ _ | refine blk_drew ?_ | refine blk_alloc ?_ _)); exact BK335.out) hb)
                      have n2_ := Aside0.mk (below_step (by repeat (first | (with_reducible first | exact HB.out | apply below_alloc | apply pw_below_drewN | apply below_drew1 | refine below_set ?_ GE335.out) | exact HB.out)) hb)
                      have n3_ := Aside0.mk (hbox)
                      have n4_ := Aside0.mk ((by rw [hg]; exact (below_size (by repeat (first | (with_reducible first | exact HB.out | apply below_alloc | apply pw_below_drewN | apply below_drew1 | refine below_set ?_ GE335.out) | exact HB.out))) : w.heap.size ≤ gb341))
                      have n5_ := Aside0.mk ((by rw [hg]; exact (below_size (by repeat (first | (with_reducible first | exact HB.out | apply below_alloc | apply pw_below_drewN | apply below_drew1 | refine below_set ?_ GE335.out) | exact HB.out))) : w.heap.size ≤ gb341))
                      have n6_ := Aside0.mk ((by rw [hg]; exact Nat.ne_of_lt (blk_lt (g := gb335) (o := .cells #[.slice Ao26 x336000_2.length co26] 26 (0, 0)) (by (with_reducible repeat (first | refine blk_drewN ?_ _ | refine blk_drew ?_ | refine blk_alloc ?_ _)); exact BK335.out)) : gb335 ≠ gb341))
                      have n7_ := Aside0.mk ((by rw [hg]; exact Nat.ne_of_gt (blk_lt (g := gb335) (o := .cells #[.slice Ao26 x336000_2.length co26] 26 (0, 0)) (by (with_reducible repeat (first | refine blk_drewN ?_ _ | refine blk_drew ?_ | refine blk_alloc ?_ _)); exact BK335.out)) : gb341 ≠ gb335))
                      clear HO_336000
                      clear BK335
                      clear HB
                      have HO_336000 := n0_
                      have BK335 := n1_
                      have HB := n2_
                      have BK341 := n3_
                      have GW341 := n4_
                      have GE341 := n5_
                      have NB335_341 := n6_
                      have NB341_335 := n7_
                      clear n0_ n1_ n2_ n3_ n4_ n5_ n6_ n7_
                      clear hb hbox hg
                      refine hK.out _ _ ⟨(blk_cell BK335.out 0).trans rfl, ((HB.out.cell (World.block_lt_of_cell? w _ hw336_0)).trans hw336_0), ((HB.out.cell (World.block_lt_of_cell? w _ hw336_1)).trans hw336_1), ((HB.out.cell (World.block_lt_of_cell? w _ hw336_2)).trans hw336_2)⟩ (fun hHeld => ?_)
                      clear hK K
                      refine norm_ (a' := ?_) ?_ ?_
                      rotate_left
                      · show Act.put _ (some 12) _ = _
                        simp only [Act.put, List.setIfInBounds_toArray, List.set_cons_zero, List.set_cons_succ, i64_w, i32_w]
                        rfl
                      refine one_ (i := 7) (N := some 45) #[true, true, true, true, true, true, true, true, false, false, false, true, false, false] rfl rfl (one_of HT_.out (by kernel_rfl)) (by decide) (fun K hK => ?_)
                      refine goes_ Try.func8 (by kernel_rfl) rfl #[.agg #[.slice Ao26 x336000_2.length co26], .agg #[.int .i64 ((rd_T28 l0 x11_2).f0), .int .i64 ((rd_T28 l0 x11_2).f1), .int .i64 ((rd_T28 l0 x11_2).f2)], .int .i64 (wrap64 (x11_2 + 1))] (by rfl) rfl rfl (by (try simp only [List.map_toArray, List.map_cons, List.map_nil]); first | done | rfl | (simp only [List.length_drop, List.length_take]; rfl)) ?_
                      with_reducible refine (godwitlaw12_did.calls k2 (fun k_ => (k_ ≠ gb335 ∧ k_ ≠ gb341)) _ _ x336000_2 ((rd_T28 l0 x11_2).f0) ((rd_T28 l0 x11_2).f1) ((rd_T28 l0 x11_2).f2) (wrap64 (x11_2 + 1)) t337 t340 _ ?side1 A14.out).mono ?_
                      (case side1 => exact HO_336000.out)
                      rintro e w29 ⟨v338, rfl, ho0, hb⟩
                      refine ⟨_, rfl, ?_⟩
                      have n0_ := Aside0.mk (Kd.V_below (by (with_reducible repeat (first | apply Kd.V_alloc | apply Kd.V_drewN | apply Kd.V_drew)); exact HO_336000.out) hb)
                      have n1_ := Aside0.mk (Kd.V_lower (Kd.V_mono (ok' := fun k_ => k_ ≠ gb335 ∧ k_ ≠ gb341) ho0 (fun k_ hk_ => ⟨Or.elim hk_ (fun hs_ => hs_.1) (fun hn_ => (Kd.freshB (g := gb335) (o := .cells #[.slice Ao26 x336000_2.length co26] 26 (0, 0)) (by (with_reducible repeat (first | refine blk_drewN ?_ _ | refine blk_drew ?_ | refine blk_alloc ?_ _)); exact BK335.out) k_ hn_)), Or.elim hk_ (fun hs_ => hs_.2) (fun hn_ => (Kd.freshB (g := gb341) (o := .cells #[.slice none 0 0] 26 (0, 0)) (by (with_reducible repeat (first | refine blk_drewN ?_ _ | refine blk_drew ?_ | refine blk_alloc ?_ _)); exact BK341.out) k_ hn_))⟩)) (below_size (by repeat (first | (with_reducible first | exact HB.out | apply below_alloc | apply pw_below_drewN | apply below_drew1 | refine below_set ?_ GE335.out | refine below_set ?_ GE341.out) | exact HB.out))))
                      have n2_ := Aside0.mk (blk_below (g := gb335) (o := .cells #[.slice Ao26 x336000_2.length co26] 26 (0, 0)) (by (with_reducible repeat (first | refine blk_drewN ?_ _ | refine blk_drew ?_ | refine blk_alloc ?_ _)); exact BK335.out) hb)
                      have n3_ := Aside0.mk (blk_below (g := gb341) (o := .cells #[.slice none 0 0] 26 (0, 0)) (by (with_reducible repeat (first | refine blk_drewN ?_ _ | refine blk_drew ?_ | refine blk_alloc ?_ _)); exact BK341.out) hb)
                      have n4_ := Aside0.mk (below_step (by repeat (first | (with_reducible first | exact HB.out | apply below_alloc | apply pw_below_drewN | apply below_drew1 | refine below_set ?_ GE335.out | refine below_set ?_ GE341.out) | exact HB.out)) hb)
                      clear HO_336000
                      clear BK335
                      clear BK341
                      clear HB
                      have HO_336000 := n0_
                      have HO339 := n1_
                      have BK335 := n2_
                      have BK341 := n3_
                      have HB := n4_
                      clear n0_ n1_ n2_ n3_ n4_
                      (try clear hb)
                      (try clear hb2)
                      (try clear hk)
                      (try clear hi)
                      (try clear ho0)
                      refine hK.out _ _ ⟨(blk_cell BK335.out 0).trans rfl, ((HB.out.cell (World.block_lt_of_cell? w _ hw336_0)).trans hw336_0), ((HB.out.cell (World.block_lt_of_cell? w _ hw336_1)).trans hw336_1), ((HB.out.cell (World.block_lt_of_cell? w _ hw336_2)).trans hw336_2)⟩ (fun hHeld => ?_)
                      clear hK K
                      refine norm_ (a' := ?_) ?_ ?_
                      rotate_left
                      · show Act.put _ (some 45) _ = _
                        simp only [Act.put, List.setIfInBounds_toArray, List.set_cons_zero, List.set_cons_succ, i64_w, i32_w]
                        rfl
                      refine pure_ (i := 8) (N := some 37) (v := ?_) (a' := ?_) #[true, true, true, true, true, true, true, true, true, false, false, true, false, false] rfl rfl (any_of HT_.out (by kernel_rfl)) (fun _ _ _ h => h) (Or.inl ⟨by rfl, ?_⟩) ?_ ?_
                      rotate_left
                      · intro w'
                        go_simp
                        with_reducible rfl
                      rotate_left
                      · simp only [Act.put, List.setIfInBounds_toArray, List.set_cons_zero, List.set_cons_succ, i64_w, i32_w]
                        rfl
                      refine pure_ (i := 9) (N := some 46) (v := ?_) (a' := ?_) #[true, true, true, true, true, true, true, true, true, true, false, true, false, false] rfl rfl (any_of HT_.out (by kernel_rfl)) (fun _ _ _ h => h) (Or.inl ⟨by rfl, ?_⟩) ?_ ?_
                      rotate_left
                      · intro w'
                        go_simp
                        with_reducible rfl
                      rotate_left
                      · simp only [Act.put, List.setIfInBounds_toArray, List.set_cons_zero, List.set_cons_succ, i64_w, i32_w]
                        rfl
                      refine pure_ (i := 10) (N := some 47) (v := ?_) (a' := ?_) #[true, true, true, true, true, true, true, true, true, true, true, true, false, false] rfl rfl (any_of HT_.out (by kernel_rfl)) (fun _ _ _ h => h) (Or.inl ⟨by rfl, ?_⟩) ?_ ?_
                      rotate_left
                      · intro w'
                        go_simp
                        with_reducible rfl
                      rotate_left
                      · simp only [Act.put, List.setIfInBounds_toArray, List.set_cons_zero, List.set_cons_succ, i64_w, i32_w]
                        rfl
                      exact norm_ (by simp only [putAll, Act.put, List.setIfInBounds_toArray, List.set_cons_zero, List.set_cons_succ]) (hCont (v338, gb341) _ ⟨hHeld, (by (with_reducible repeat (first | apply Kd.V_alloc | apply Kd.V_drewN | apply Kd.V_drew)); exact HO339.out), (by (with_reducible repeat (first | apply Kd.V_alloc | apply Kd.V_drewN | apply Kd.V_drew)); exact HO_336000.out), (by (with_reducible repeat (first | refine blk_drewN ?_ _ | refine blk_drew ?_ | refine blk_alloc ?_ _)); exact BK335.out), (by (with_reducible repeat (first | refine blk_drewN ?_ _ | refine blk_drew ?_ | refine blk_alloc ?_ _)); exact BK341.out), GW341.out, GE341.out, NB335_341.out, NB341_335.out, (by repeat (first | (with_reducible first | exact HB.out | apply below_alloc | apply pw_below_drewN | apply below_drew1 | refine below_set ?_ GE335.out | refine below_set ?_ GE341.out) | exact HB.out))⟩)
                  rintro ⟨v338, gb341⟩ w30 ⟨hS_, h0_, h1_, h2_, h3_, h4_, h5_, h6_, h7_, h8_⟩
                  have n0_ : Aside0 (Kd.V k33 33 w30 w.heap.size (fun k_ => k_ ≠ gb335 ∧ k_ ≠ gb341) v338 t337) := ⟨h0_⟩
                  have n1_ : Aside0 (Kd.V k33 33 w30 w.heap.size (fun k_ => k_ ≠ gb335 ∧ k_ ≠ gb341) (.slice Ao26 x336000_2.length co26) x336000_2) := ⟨h1_⟩
                  have n2_ : Aside0 (w30.heap[gb335]? = some (.cells #[.slice Ao26 x336000_2.length co26] 26 (0, 0))) := ⟨h2_⟩
                  have n3_ : Aside0 (w30.heap[gb341]? = some (.cells #[.slice none 0 0] 26 (0, 0))) := ⟨h3_⟩
                  have n4_ : Aside0 (w.heap.size ≤ gb341) := ⟨h4_⟩
                  have n5_ : Aside0 (w.heap.size ≤ gb341) := ⟨h5_⟩
                  have n6_ : Aside0 (gb335 ≠ gb341) := ⟨h6_⟩
                  have n7_ : Aside0 (gb341 ≠ gb335) := ⟨h7_⟩
                  have n8_ : Aside0 (Below w.heap.size w w30) := ⟨h8_⟩
                  clear HO_336000
                  clear BK335
                  clear HB
                  clear h0_ h1_ h2_ h3_ h4_ h5_ h6_ h7_ h8_
                  have HO339 := n0_
                  have HO_336000 := n1_
                  have BK335 := n2_
                  have BK341 := n3_
                  have GW341 := n4_
                  have GE341 := n5_
                  have NB335_341 := n6_
                  have NB341_335 := n7_
                  have HB := n8_
                  clear n0_ n1_ n2_ n3_ n4_ n5_ n6_ n7_ n8_
                  have hHeld : w30.cell? ⟨gb335, 0, none⟩ = some (.slice Ao26 x336000_2.length co26) ∧ w30.cell? (ad336.add ((x11_2).toNat * 3)) = some (.int .i64 ((rd_T28 l0 x11_2).f0)) ∧ w30.cell? ⟨(ad336.add ((x11_2).toNat * 3)).block, (ad336.add ((x11_2).toNat * 3)).off + 1, none⟩ = some (.int .i64 ((rd_T28 l0 x11_2).f1)) ∧ w30.cell? ⟨(ad336.add ((x11_2).toNat * 3)).block, (ad336.add ((x11_2).toNat * 3)).off + 2, none⟩ = some (.int .i64 ((rd_T28 l0 x11_2).f2)) := hS_
                  obtain ⟨Ao31, co31, eo31⟩ := Kd.V_slice HO339.out
                  (first | subst eo31 | (injection eo31 with f1_ f2_ f3_; have f4_ := f1_.symm; have f5_ := f3_.symm; clear f1_ f2_ f3_; subst f4_; subst f5_))
                  refine norm_ (a' := ?_) ?_ ?_
                  rotate_left
                  · simp only [putAll, Act.put, List.setIfInBounds_toArray, List.set_cons_zero, List.set_cons_succ]
                    rfl
                  refine one_ (i := 12) (N := none) #[true, true, true, true, true, true, true, true, true, true, true, true, true, false] rfl rfl (one_of HT_.out (by kernel_rfl)) (by decide) (fun K hK => ?_)
                  have hs32 : w30.cell? ⟨gb341, 0, none⟩ = some (.slice none 0 0) := (blk_cell BK341.out 0).trans rfl
                  have hfs32 := blk_frozen BK341.out 0
                  have hns32_0 := NB335_341.out
                  have hms32_0 := NB341_335.out
                  refine skip_ (w1 := ?_) (by rfl) rfl ?_ ?_
                  rotate_left
                  · go_simp
                    rfl
                  refine hK.out _ _ ⟨((cell_far (p := ⟨gb341, _, none⟩) NB335_341.out _).trans (hHeld.1)), ((cell_far (p := ⟨gb341, _, none⟩) (by first | exact Nat.ne_of_lt (Nat.lt_of_lt_of_le (by have := World.block_lt_of_cell? _ _ hw336_0; first | rwa [add_block] at this | exact this) GW341.out) | (rw [add_block]; exact Nat.ne_of_lt (Nat.lt_of_lt_of_le (by have := World.block_lt_of_cell? _ _ hw336_0; first | rwa [add_block] at this | exact this) GW341.out)) | (show (Addr.add _ _).block ≠ _; rw [add_block]; exact Nat.ne_of_lt (Nat.lt_of_lt_of_le (by have := World.block_lt_of_cell? _ _ hw336_0; first | rwa [add_block] at this | exact this) GW341.out)) | (dsimp only; exact Nat.ne_of_lt (Nat.lt_of_lt_of_le (by have := World.block_lt_of_cell? _ _ hw336_0; first | rwa [add_block] at this | exact this) GW341.out))) _).trans (hHeld.2.1)), ((cell_far (p := ⟨gb341, _, none⟩) (by first | exact Nat.ne_of_lt (Nat.lt_of_lt_of_le (by have := World.block_lt_of_cell? _ _ hw336_1; first | rwa [add_block] at this | exact this) GW341.out) | (rw [add_block]; exact Nat.ne_of_lt (Nat.lt_of_lt_of_le (by have := World.block_lt_of_cell? _ _ hw336_1; first | rwa [add_block] at this | exact this) GW341.out)) | (show (Addr.add _ _).block ≠ _; rw [add_block]; exact Nat.ne_of_lt (Nat.lt_of_lt_of_le (by have := World.block_lt_of_cell? _ _ hw336_1; first | rwa [add_block] at this | exact this) GW341.out)) | (dsimp only; exact Nat.ne_of_lt (Nat.lt_of_lt_of_le (by have := World.block_lt_of_cell? _ _ hw336_1; first | rwa [add_block] at this | exact this) GW341.out))) _).trans (hHeld.2.2.1)), ((cell_far (p := ⟨gb341, _, none⟩) (by first | exact Nat.ne_of_lt (Nat.lt_of_lt_of_le (by have := World.block_lt_of_cell? _ _ hw336_2; first | rwa [add_block] at this | exact this) GW341.out) | (rw [add_block]; exact Nat.ne_of_lt (Nat.lt_of_lt_of_le (by have := World.block_lt_of_cell? _ _ hw336_2; first | rwa [add_block] at this | exact this) GW341.out)) | (show (Addr.add _ _).block ≠ _; rw [add_block]; exact Nat.ne_of_lt (Nat.lt_of_lt_of_le (by have := World.block_lt_of_cell? _ _ hw336_2; first | rwa [add_block] at this | exact this) GW341.out)) | (dsimp only; exact Nat.ne_of_lt (Nat.lt_of_lt_of_le (by have := World.block_lt_of_cell? _ _ hw336_2; first | rwa [add_block] at this | exact this) GW341.out))) _).trans (hHeld.2.2.2))⟩ (fun hHeld => ?_)
                  clear hK K
                  refine pure_ (i := 13) (N := some 13) (v := ?_) (a' := ?_) #[true, true, true, true, true, true, true, true, true, true, true, true, true, true] rfl rfl (any_of HT_.out (by kernel_rfl)) (fun _ _ _ h => h) (Or.inl ⟨by rfl, ?_⟩) ?_ ?_
                  rotate_left
                  · intro w'
                    go_simp
                    with_reducible rfl
                  rotate_left
                  · simp only [Act.put, List.setIfInBounds_toArray, List.set_cons_zero, List.set_cons_succ, i64_w, i32_w]
                    rfl
                  refine done_ (done_of HT_.out (by kernel_rfl)) ?_
                  try go_wp2
                  go_roundg k2
                  case measure => have := HJ5.out; have := HK2.out; omega
                  case rel => exact ⟨(wrap64 (x11_2 + 1)), (x336000_2), (.slice Ao26 x336000_2.length co26), (by first | rfl | (simp; done) | (simp [*]; done)), H', ⟨by have := HJ5.out; have := HK2.out; omega⟩, ⟨by (with_reducible repeat (first | apply Kd.V_alloc | apply Kd.V_drewN | apply Kd.V_drew)); exact Kd.V_mono (Kd.V_far (p := ⟨gb341, 0, none⟩) (Kd.V_mono HO_336000.out (fun k_ hk => (⟨hk, hk.2⟩ : _ ∧ k_ ≠ gb341))) (fun _ hk => hk.2) (.slice Ao31 t337.length co31)) (fun _ hk => hk.1.1)⟩, ⟨by (with_reducible repeat (first | refine blk_drewN ?_ _ | refine blk_drew ?_ | refine blk_alloc ?_ _)); refine blk_far ?_ NB335_341.out _; (with_reducible repeat (first | refine blk_drewN ?_ _ | refine blk_drew ?_ | refine blk_alloc ?_ _)); exact BK335.out⟩, ⟨by repeat (first | (with_reducible first | exact HB.out | apply below_alloc | apply pw_below_drewN | apply below_drew1 | refine below_set ?_ GE335.out | refine below_set ?_ GE341.out) | exact HB.out)⟩⟩
              · rw [if_neg c13] at H
                exact absurd H (by simp)
            · rw [if_neg c12] at H
              have c12b0 : decide (x11_2 < (l0.length : Int)) = false := decide_eq_false c12
              clear c12
              replace H := Option.bind_eq_some_iff.mp H
              obtain ⟨⟨t342, t345, t346⟩, A330, H⟩ := H
              replace H : (if t346 = 0 then (godwitlaw12_TokensFence.j2 k2 a1 a2 l3 t334 (decide (t345 > 0)) t342) else (godwitlaw12_TokensFence.j2 k2 a1 a2 l3 t334 true t342)) = some r := H
              have A33 := Aside0.mk A330
              clear A330
              have HC34 := Aside0.mk H
              clear H
              have hcz35_0 : wr.cell? ⟨gb335, 0, none⟩ = some (u336000) := (blk_cell BK335.out 0).trans rfl
              have hfz35_0 := blk_frozen BK335.out 0
              obtain ⟨Ao36, co36, eo36⟩ := Kd.V_slice HO_336000.out
              subst eo36
              go_upto_region 12 with (first | ((with_reducible refine gate_callee (f := 11) rfl ?_); refine goesL_ (some 55) rfl rfl Try.func11 (by kernel_rfl) rfl #[.agg #[.slice Ao36 x336000_2.length co36], .int .i64 a1, .int .i64 a2] rfl (by (try simp only [List.map_toArray, List.map_cons, List.map_nil]); first | done | rfl | (simp only [List.length_drop, List.length_take]; rfl)) ?_; (with_reducible refine (tokens_Fence.calls k2 (fun k_ => k_ ≠ gb335) _ _ x336000_2 a1 a2 t342 t345 t346 _ ?side1 A33.out).mono ?_); (case side1 => exact HO_336000.out); rintro e w37 ⟨v343, rfl, ho0, hb⟩; refine ⟨_, rfl, ?_⟩; have n0_ := Aside0.mk (Kd.V_below (by (with_reducible repeat (first | apply Kd.V_alloc | apply Kd.V_drewN | apply Kd.V_drew)); exact HO_336000.out) hb); have n1_ := Aside0.mk (Kd.V_lower (Kd.V_mono (ok' := fun k_ => k_ ≠ gb335) ho0 (fun k_ hk_ => Or.elim hk_ (fun hs_ => hs_) (fun hn_ => (Kd.freshB (g := gb335) (o := .cells #[.slice Ao36 x336000_2.length co36] 26 (0, 0)) (by (with_reducible repeat (first | refine blk_drewN ?_ _ | refine blk_drew ?_ | refine blk_alloc ?_ _)); exact BK335.out) k_ hn_)))) (below_size (by repeat (first | (with_reducible first | exact HB.out | apply below_alloc | apply pw_below_drewN | apply below_drew1 | refine below_set ?_ GE335.out) | exact HB.out)))); have n2_ := Aside0.mk (blk_below (g := gb335) (o := .cells #[.slice Ao36 x336000_2.length co36] 26 (0, 0)) (by (with_reducible repeat (first | refine blk_drewN ?_ _ | refine blk_drew ?_ | refine blk_alloc ?_ _)); exact BK335.out) hb); have n3_ := Aside0.mk (below_step (by repeat (first | (with_reducible first | exact HB.out | apply below_alloc | apply pw_below_drewN | apply below_drew1 | refine below_set ?_ GE335.out) | exact HB.out)) hb); clear HO_336000; clear BK335; clear HB; have HO_336000 := n0_; have HO344 := n1_; have BK335 := n2_; have HB := n3_; clear n0_ n1_ n2_ n3_; (try clear hb); (try clear hb2); (try clear hk); (try clear hi); (try clear ho0)) | ((with_reducible refine gate_dst (N := 14) rfl ?_); (try (refine gate_guard (by rfl) ?_; dsimp only)); refine box_event ?hg (N := 14) ?hd (cs := #[.slice none 0 0]) (t := 26) ?hr ?_; (case hd => rfl); (case hg => rfl); (case hr => first | (go_simp; done) | (go_simp; rfl)); intro gb347 hg w38 hbox hb; have n0_ := Aside0.mk (Kd.V_below (Kd.V_elderB (by (with_reducible repeat (first | apply Kd.V_alloc | apply Kd.V_drewN | apply Kd.V_drew)); exact HO_336000.out) gb347 (Nat.le_of_eq hg.symm)) hb); have n1_ := Aside0.mk (Kd.V_below (Kd.V_elderB (by (with_reducible repeat (first | apply Kd.V_alloc | apply Kd.V_drewN | apply Kd.V_drew)); exact HO344.out) gb347 (Nat.le_of_eq hg.symm)) hb); have n2_ := Aside0.mk (blk_below (g := gb335) (o := .cells #[.slice Ao36 x336000_2.length co36] 26 (0, 0)) (by (with_reducible repeat (first | refine blk_drewN ?_ _ | refine blk_drew ?_ | refine blk_alloc ?_ _)); exact BK335.out) hb); have n3_ := Aside0.mk (below_step (by repeat (first | (with_reducible first | exact HB.out | apply below_alloc | apply pw_below_drewN | apply below_drew1 | refine below_set ?_ GE335.out) | exact HB.out)) hb); have n4_ := Aside0.mk (hbox); have n5_ := Aside0.mk ((by rw [hg]; exact (below_size (by repeat (first | (with_reducible first | exact HB.out | apply below_alloc | apply pw_below_drewN | apply below_drew1 | refine below_set ?_ GE335.out) | exact HB.out))) : w.heap.size ≤ gb347)); have n6_ := Aside0.mk ((by rw [hg]; exact (below_size (by repeat (first | (with_reducible first | exact HB.out | apply below_alloc | apply pw_below_drewN | apply below_drew1 | refine below_set ?_ GE335.out) | exact HB.out))) : w.heap.size ≤ gb347)); have n7_ := Aside0.mk ((by rw [hg]; exact Nat.ne_of_lt (blk_lt (g := gb335) (o := .cells #[.slice Ao36 x336000_2.length co36] 26 (0, 0)) (by (with_reducible repeat (first | refine blk_drewN ?_ _ | refine blk_drew ?_ | refine blk_alloc ?_ _)); exact BK335.out)) : gb335 ≠ gb347)); have n8_ := Aside0.mk ((by rw [hg]; exact Nat.ne_of_gt (blk_lt (g := gb335) (o := .cells #[.slice Ao36 x336000_2.length co36] 26 (0, 0)) (by (with_reducible repeat (first | refine blk_drewN ?_ _ | refine blk_drew ?_ | refine blk_alloc ?_ _)); exact BK335.out)) : gb347 ≠ gb335)); clear HO_336000; clear HO344; clear BK335; clear HB; have HO_336000 := n0_; have HO344 := n1_; have BK335 := n2_; have HB := n3_; have BK347 := n4_; have GW347 := n5_; have GE347 := n6_; have NB335_347 := n7_; have NB347_335 := n8_; clear n0_ n1_ n2_ n3_ n4_ n5_ n6_ n7_ n8_; clear hb hbox hg; obtain ⟨Ao39, co39, eo39⟩ := Kd.V_slice HO344.out; subst eo39; have hnb40 := NB347_335.out; have hnc40 := NB335_347.out; have hcz41_0 : w38.cell? ⟨gb347, 0, none⟩ = some (.slice none 0 0) := (blk_cell BK347.out 0).trans rfl; have hfz41_0 := blk_frozen BK347.out 0))
              (try simp only [Act.put, List.setIfInBounds_toArray, List.set_cons_zero, List.set_cons_succ])
              go_cut [64] (fun v64 wc => ∃ (kq : Nat) (x64_33 : Bool), v64 = .bool x64_33 ∧ Aside0 (godwitlaw12_TokensFence.j2 kq a1 a2 l3 t334 x64_33 t342 = some r) ∧ Aside0 (kq ≤ k2) ∧ Aside0 (Kd.V k33 33 wc w.heap.size (fun k_ => k_ ≠ gb335 ∧ k_ ≠ gb347) (.slice Ao36 x336000_2.length co36) x336000_2) ∧ Aside0 (Kd.V k33 33 wc w.heap.size (fun k_ => k_ ≠ gb335 ∧ k_ ≠ gb347) (.slice Ao39 t342.length co39) t342) ∧ Aside0 (wc.heap[gb335]? = some (.cells #[(.slice Ao36 x336000_2.length co36)] 26 (0, 0))) ∧ Aside0 (wc.heap[gb347]? = some (.cells #[(.slice Ao39 t342.length co39)] 26 (0, 0))) ∧ Aside0 (Below w.heap.size w wc))
              case first =>
                have H := HC34.out
                clear HC34
                by_cases c42 : t346 = 0
                · rw [if_pos c42] at H
                  have c42b0 : (t346 == 0) = true := beq_iff_eq.mpr c42
                  have c42b1 : (t346 != 0) = false := bne_eq_false_iff_eq.mpr c42
                  clear c42
                  (first | rw [c42b0] | (simp only [i64_w, i32_w]; rw [c42b0]) | skip)
                  have H' := Aside0.mk H
                  clear H
                  go_wp2
                  go_meet
                  case rel => exact ⟨_, (decide (t345 > 0)), (by first | rfl | (simp; done) | (simp [*]; done)), H', ⟨by have := HJ5.out; have := HK2.out; first | omega | exact Nat.le_refl _⟩, ⟨by (with_reducible repeat (first | apply Kd.V_alloc | apply Kd.V_drewN | apply Kd.V_drew)); exact Kd.V_mono (Kd.V_far (p := ⟨gb347, 0, none⟩) (Kd.V_mono HO_336000.out (fun k_ hk => (⟨hk, hk.2⟩ : _ ∧ k_ ≠ gb347))) (fun _ hk => hk.2) (.slice Ao39 t342.length co39)) (fun _ hk => ⟨hk.1.1, hk.1.2⟩)⟩, ⟨by (with_reducible repeat (first | apply Kd.V_alloc | apply Kd.V_drewN | apply Kd.V_drew)); exact Kd.V_mono (Kd.V_far (p := ⟨gb347, 0, none⟩) (Kd.V_mono HO344.out (fun k_ hk => (⟨hk, hk.2⟩ : _ ∧ k_ ≠ gb347))) (fun _ hk => hk.2) (.slice Ao39 t342.length co39)) (fun _ hk => ⟨hk.1.1, hk.1.2⟩)⟩, ⟨by (with_reducible repeat (first | refine blk_drewN ?_ _ | refine blk_drew ?_ | refine blk_alloc ?_ _)); refine blk_far ?_ NB335_347.out _; (with_reducible repeat (first | refine blk_drewN ?_ _ | refine blk_drew ?_ | refine blk_alloc ?_ _)); exact BK335.out⟩, ⟨by (with_reducible repeat (first | refine blk_drewN ?_ _ | refine blk_drew ?_ | refine blk_alloc ?_ _)); refine blk_put (cs := #[.slice none 0 0]) ?_ 0 _ rfl; (with_reducible repeat (first | refine blk_drewN ?_ _ | refine blk_drew ?_ | refine blk_alloc ?_ _)); exact BK347.out⟩, ⟨by repeat (first | (with_reducible first | exact HB.out | apply below_alloc | apply pw_below_drewN | apply below_drew1 | refine below_set ?_ GE335.out | refine below_set ?_ GE347.out) | exact HB.out)⟩⟩
                · rw [if_neg c42] at H
                  have c42b0 : (t346 == 0) = false := beq_eq_false_iff_ne.mpr c42
                  have c42b1 : (t346 != 0) = true := bne_iff_ne.mpr c42
                  (first | rw [c42b0] | (simp only [i64_w, i32_w]; rw [c42b0]) | skip)
                  have H' := Aside0.mk H
                  clear H
                  go_wp2
                  go_meet
                  case rel => exact ⟨_, (true), (by first | rfl | (simp; done) | (simp [*]; done)), H', ⟨by have := HJ5.out; have := HK2.out; first | omega | exact Nat.le_refl _⟩, ⟨by (with_reducible repeat (first | apply Kd.V_alloc | apply Kd.V_drewN | apply Kd.V_drew)); exact Kd.V_mono (Kd.V_far (p := ⟨gb347, 0, none⟩) (Kd.V_mono HO_336000.out (fun k_ hk => (⟨hk, hk.2⟩ : _ ∧ k_ ≠ gb347))) (fun _ hk => hk.2) (.slice Ao39 t342.length co39)) (fun _ hk => ⟨hk.1.1, hk.1.2⟩)⟩, ⟨by (with_reducible repeat (first | apply Kd.V_alloc | apply Kd.V_drewN | apply Kd.V_drew)); exact Kd.V_mono (Kd.V_far (p := ⟨gb347, 0, none⟩) (Kd.V_mono HO344.out (fun k_ hk => (⟨hk, hk.2⟩ : _ ∧ k_ ≠ gb347))) (fun _ hk => hk.2) (.slice Ao39 t342.length co39)) (fun _ hk => ⟨hk.1.1, hk.1.2⟩)⟩, ⟨by (with_reducible repeat (first | refine blk_drewN ?_ _ | refine blk_drew ?_ | refine blk_alloc ?_ _)); refine blk_far ?_ NB335_347.out _; (with_reducible repeat (first | refine blk_drewN ?_ _ | refine blk_drew ?_ | refine blk_alloc ?_ _)); exact BK335.out⟩, ⟨by (with_reducible repeat (first | refine blk_drewN ?_ _ | refine blk_drew ?_ | refine blk_alloc ?_ _)); refine blk_put (cs := #[.slice none 0 0]) ?_ 0 _ rfl; (with_reducible repeat (first | refine blk_drewN ?_ _ | refine blk_drew ?_ | refine blk_alloc ?_ _)); exact BK347.out⟩, ⟨by repeat (first | (with_reducible first | exact HB.out | apply below_alloc | apply pw_below_drewN | apply below_drew1 | refine below_set ?_ GE335.out | refine below_set ?_ GE347.out) | exact HB.out)⟩⟩
              case rest =>
                clear HC34
                try clear c1
                try clear c2
                try clear p2
                try clear p3
                try clear q3
                try clear hx3
                try clear c4
                try clear p6
                try clear c8
                try clear c11
                try clear c12
                try clear c12b0
                try clear c13
                try clear c15
                try clear c15b0
                try clear c15b1
                try clear c23
                try clear p33
                try clear q33
                try clear hx33
                try clear c40
                try clear c42
                try clear c42b0
                try clear c42b1
                try clear hcz24_0
                try clear hcz25_0
                try clear hcz35_0
                try clear hcz41_0
                try clear hfz24_0
                try clear hfz25_0
                try clear hfz35_0
                try clear hfz41_0
                try clear hx336_0
                try clear hx336_1
                try clear hx336_2
                try clear p336
                try clear q336
                obtain ⟨kq, x64_33, rfl, HA, HJ33, HO_336000, HO_348000, BK335, BK347, HB⟩ := hcut
                cases kq with
                | zero => exact absurd HA.out (by simp [godwitlaw12_TokensFence.j2])
                | succ kj33 =>
                  have H := HA.out
                  clear HA
                  simp only [godwitlaw12_TokensFence.j2] at H
                  by_cases c43 : x64_33 = true
                  · subst c43
                    have H1 : (some t334) = some r := by rw [if_pos rfl] at H; exact H
                    clear H
                    have H := H1
                    clear H1
                    obtain rfl := Option.some.inj H
                    go_wp2
                    go_ret
                    first | (with_reducible exact (clash2 A33 A5).elim) | (with_reducible exact (clash2 A5 A33).elim) | exact ⟨by first | rfl | (simp [errW_none, errW_some] <;> rfl) | (simp [*, errW_none, errW_some] <;> rfl), by repeat (first | (with_reducible first | exact HB.out | apply below_alloc | apply pw_below_drewN | apply below_drew1 | refine below_set ?_ GE335.out | refine below_set ?_ GE347.out) | exact HB.out)⟩
                  · replace c43 := Bool.eq_false_iff.mpr c43
                    subst c43
                    have H1 : (godwitlaw12_TokensFence.l1 kj33 a1 a2 l3 t334 0 t342) = some r := by rw [if_neg (show ¬ (false = true) by decide)] at H; exact H
                    clear H
                    have H := H1
                    clear H1
                    have H' := Aside0.mk H
                    clear H
                    have hnb44 := NB347_335.out
                    have hnc44 := NB335_347.out
                    have hcz45_0 : wc.cell? ⟨gb347, 0, none⟩ = some (.slice Ao39 t342.length co39) := (blk_cell BK347.out 0).trans rfl
                    have hfz45_0 := blk_frozen BK347.out 0
                    have hcz46_0 : wc.cell? ⟨gb335, 0, none⟩ = some (.slice Ao36 x336000_2.length co36) := (blk_cell BK335.out 0).trans rfl
                    have hfz46_0 := blk_frozen BK335.out 0
                    go_wp2
                    go_loopg [17] kj33 (fun kq v17 w' => ∃ (x17_4 : Int) (x336000_4 : List (S33)) (u336000 : Value), v17 = .int .i64 x17_4 ∧ Aside0 (godwitlaw12_TokensFence.l1 kq a1 a2 l3 t334 x17_4 x336000_4 = some r) ∧ Aside0 (kq ≤ kj33) ∧ Aside0 (Kd.V k33 33 w' w.heap.size (fun k_ => k_ ≠ gb335 ∧ k_ ≠ gb347) u336000 x336000_4) ∧ Aside0 (Kd.V k33 33 w' w.heap.size (fun k_ => k_ ≠ gb335 ∧ k_ ≠ gb347) (.slice Ao39 t342.length co39) t342) ∧ Aside0 (w'.heap[gb335]? = some (.cells #[u336000] 26 (0, 0))) ∧ Aside0 (w'.heap[gb347]? = some (.cells #[(.slice Ao39 t342.length co39)] 26 (0, 0))) ∧ Aside0 (Below w.heap.size w w'))
                    case atStart => exact ⟨(0), (t342), (.slice Ao39 t342.length co39), (by first | rfl | (simp; done) | (simp [*]; done)), H', ⟨Nat.le_refl _⟩, ⟨by (with_reducible repeat (first | apply Kd.V_alloc | apply Kd.V_drewN | apply Kd.V_drew)); exact Kd.V_mono (Kd.V_far (p := ⟨gb335, 0, none⟩) (Kd.V_mono HO_348000.out (fun k_ hk => (⟨hk, hk.1⟩ : _ ∧ k_ ≠ gb335))) (fun _ hk => hk.2) (.slice Ao39 t342.length co39)) (fun _ hk => ⟨hk.1.1, hk.1.2⟩)⟩, ⟨by (with_reducible repeat (first | apply Kd.V_alloc | apply Kd.V_drewN | apply Kd.V_drew)); exact Kd.V_mono (Kd.V_far (p := ⟨gb335, 0, none⟩) (Kd.V_mono HO_348000.out (fun k_ hk => (⟨hk, hk.1⟩ : _ ∧ k_ ≠ gb335))) (fun _ hk => hk.2) (.slice Ao39 t342.length co39)) (fun _ hk => ⟨hk.1.1, hk.1.2⟩)⟩, ⟨by (with_reducible repeat (first | refine blk_drewN ?_ _ | refine blk_drew ?_ | refine blk_alloc ?_ _)); refine blk_put (cs := #[.slice Ao36 x336000_2.length co36]) ?_ 0 _ rfl; (with_reducible repeat (first | refine blk_drewN ?_ _ | refine blk_drew ?_ | refine blk_alloc ?_ _)); exact BK335.out⟩, ⟨by (with_reducible repeat (first | refine blk_drewN ?_ _ | refine blk_drew ?_ | refine blk_alloc ?_ _)); refine blk_far ?_ NB347_335.out _; (with_reducible repeat (first | refine blk_drewN ?_ _ | refine blk_drew ?_ | refine blk_alloc ?_ _)); exact BK347.out⟩, ⟨by repeat (first | (with_reducible first | exact HB.out | apply below_alloc | apply pw_below_drewN | apply below_drew1 | refine below_set ?_ GE335.out | refine below_set ?_ GE347.out) | exact HB.out)⟩⟩
                    case round =>
                      clear H'
                      try clear c1
                      try clear c2
                      try clear p2
                      try clear p3
                      try clear q3
                      try clear hx3
                      try clear c4
                      try clear p6
                      try clear c8
                      try clear c11
                      try clear c12
                      try clear c12b0
                      try clear c13
                      try clear c15
                      try clear c15b0
                      try clear c15b1
                      try clear c23
                      try clear p33
                      try clear q33
                      try clear hx33
                      try clear c40
                      try clear c42
                      try clear c42b0
                      try clear c42b1
                      try clear c43
                      try clear c44
                      try clear hcz24_0
                      try clear hcz25_0
                      try clear hcz35_0
                      try clear hcz41_0
                      try clear hcz45_0
                      try clear hcz46_0
                      try clear hfz24_0
                      try clear hfz25_0
                      try clear hfz35_0
                      try clear hfz41_0
                      try clear hfz45_0
                      try clear hfz46_0
                      try clear hx336_0
                      try clear hx336_1
                      try clear hx336_2
                      try clear p2
                      try clear p3
                      try clear p33
                      try clear p336
                      try clear p6
                      try clear q3
                      try clear q33
                      try clear q336
                      obtain ⟨x17_4, x336000_4, u336000, rfl, HA, HK4, HO_336000, HO_348000, BK335, BK347, HB⟩ := hrel
                      cases gk with
                      | zero => exact absurd HA.out (by simp [godwitlaw12_TokensFence.l1])
                      | succ k4 =>
                        have H := HA.out
                        clear HA
                        simp only [godwitlaw12_TokensFence.l1] at H
                        by_cases c47 : x17_4 < (l3.length : Int)
                        · rw [if_pos c47] at H
                          have c47b0 : decide (x17_4 < (l3.length : Int)) = true := decide_eq_true c47
                          clear c47
                          have HC48 := Aside0.mk H
                          clear H
                          go_upto_region 18 with (fail)
                          go_cut [94] (fun v94 wc => ∃ (kq : Nat) (x94_47 : Bool), v94 = .bool x94_47 ∧ Aside0 (godwitlaw12_TokensFence.j4 kq a1 a2 l3 t334 x17_4 x94_47 x336000_4 = some r) ∧ Aside0 (kq ≤ k4) ∧ Aside0 (Kd.V k33 33 wc w.heap.size (fun k_ => k_ ≠ gb335 ∧ k_ ≠ gb347) u336000 x336000_4) ∧ Aside0 (Kd.V k33 33 wc w.heap.size (fun k_ => k_ ≠ gb335 ∧ k_ ≠ gb347) (.slice Ao39 t342.length co39) t342) ∧ Aside0 (wc.heap[gb335]? = some (.cells #[u336000] 26 (0, 0))) ∧ Aside0 (wc.heap[gb347]? = some (.cells #[(.slice Ao39 t342.length co39)] 26 (0, 0))) ∧ Aside0 (Below w.heap.size w wc))
                          case first =>
                            have H := HC48.out
                            clear HC48
                            by_cases c49 : 0 ≤ x17_4
                            · rw [if_pos c49] at H
                              have c49b0 : decide (0 ≤ x17_4) = true := decide_eq_true c49
                              clear c49
                              (first | rw [c49b0] | (simp only [i64_w, i32_w]; rw [c49b0]) | skip)
                              by_cases c50 : ((rd_T28 l3 x17_4).f0) = 5
                              · rw [if_pos c50] at H
                                have c50b0 : (((rd_T28 l3 x17_4).f0) == 5) = true := beq_iff_eq.mpr c50
                                have c50b1 : (((rd_T28 l3 x17_4).f0) != 5) = false := bne_eq_false_iff_eq.mpr c50
                                clear c50
                                have H' := Aside0.mk H
                                clear H
                                have p348 : 0 ≤ (x17_4 : Int) := of_decide_eq_true (by first | (with_reducible assumption) | assumption)
                                have q348 : x17_4 < (l3.length : Int) := of_decide_eq_true (by first | (with_reducible assumption) | assumption)
                                obtain ⟨ad348, e348, hx348_0, hx348_1, hx348_2⟩ := at_T28 HR3.out x17_4 p348 q348
                                cases e348
                                replace hx348_0 := (HB.out.cell (World.block_lt_of_cell? w _ hx348_0)).trans hx348_0
                                replace hx348_1 := (HB.out.cell (World.block_lt_of_cell? w _ hx348_1)).trans hx348_1
                                replace hx348_2 := (HB.out.cell (World.block_lt_of_cell? w _ hx348_2)).trans hx348_2
                                replace p348 := eq_true p348
                                replace q348 := eq_true q348
                                go_wp2
                                go_meet
                                case rel => exact ⟨_, (true), (by first | rfl | (simp; done) | (simp [*]; done)), H', ⟨by have := HJ5.out; have := HK2.out; have := HJ33.out; have := HK4.out; first | omega | exact Nat.le_refl _⟩, ⟨by (with_reducible repeat (first | apply Kd.V_alloc | apply Kd.V_drewN | apply Kd.V_drew)); exact HO_336000.out⟩, ⟨by (with_reducible repeat (first | apply Kd.V_alloc | apply Kd.V_drewN | apply Kd.V_drew)); exact HO_348000.out⟩, ⟨by (with_reducible repeat (first | refine blk_drewN ?_ _ | refine blk_drew ?_ | refine blk_alloc ?_ _)); exact BK335.out⟩, ⟨by (with_reducible repeat (first | refine blk_drewN ?_ _ | refine blk_drew ?_ | refine blk_alloc ?_ _)); exact BK347.out⟩, ⟨by repeat (first | (with_reducible first | exact HB.out | apply below_alloc | apply pw_below_drewN | apply below_drew1 | refine below_set ?_ GE335.out | refine below_set ?_ GE347.out) | exact HB.out)⟩⟩
                              · rw [if_neg c50] at H
                                have c50b0 : (((rd_T28 l3 x17_4).f0) == 5) = false := beq_eq_false_iff_ne.mpr c50
                                have c50b1 : (((rd_T28 l3 x17_4).f0) != 5) = true := bne_iff_ne.mpr c50
                                by_cases c51 : ((rd_T28 l3 x17_4).f0) < 0
                                · rw [if_pos c51] at H
                                  have c51b0 : decide (((rd_T28 l3 x17_4).f0) < 0) = true := decide_eq_true c51
                                  clear c51
                                  have H' := Aside0.mk H
                                  clear H
                                  have p348 : 0 ≤ (x17_4 : Int) := of_decide_eq_true (by first | (with_reducible assumption) | assumption)
                                  have q348 : x17_4 < (l3.length : Int) := of_decide_eq_true (by first | (with_reducible assumption) | assumption)
                                  obtain ⟨ad348, e348, hx348_0, hx348_1, hx348_2⟩ := at_T28 HR3.out x17_4 p348 q348
                                  cases e348
                                  replace hx348_0 := (HB.out.cell (World.block_lt_of_cell? w _ hx348_0)).trans hx348_0
                                  replace hx348_1 := (HB.out.cell (World.block_lt_of_cell? w _ hx348_1)).trans hx348_1
                                  replace hx348_2 := (HB.out.cell (World.block_lt_of_cell? w _ hx348_2)).trans hx348_2
                                  replace p348 := eq_true p348
                                  replace q348 := eq_true q348
                                  have p349 : 0 ≤ (x17_4 : Int) := of_decide_eq_true (by first | (with_reducible assumption) | assumption)
                                  have q349 : x17_4 < (l3.length : Int) := of_decide_eq_true (by first | (with_reducible assumption) | assumption)
                                  obtain ⟨ad349, e349, hx349_0, hx349_1, hx349_2⟩ := at_T28 HR3.out x17_4 p349 q349
                                  obtain rfl : ad348 = ad349 := (by injection e349)
                                  replace hx349_0 := (HB.out.cell (World.block_lt_of_cell? w _ hx349_0)).trans hx349_0
                                  replace hx349_1 := (HB.out.cell (World.block_lt_of_cell? w _ hx349_1)).trans hx349_1
                                  replace hx349_2 := (HB.out.cell (World.block_lt_of_cell? w _ hx349_2)).trans hx349_2
                                  replace p349 := eq_true p349
                                  replace q349 := eq_true q349
                                  go_wp2
                                  go_meet
                                  case rel => exact ⟨_, (true), (by first | rfl | (simp; done) | (simp [*]; done)), H', ⟨by have := HJ5.out; have := HK2.out; have := HJ33.out; have := HK4.out; first | omega | exact Nat.le_refl _⟩, ⟨by (with_reducible repeat (first | apply Kd.V_alloc | apply Kd.V_drewN | apply Kd.V_drew)); exact HO_336000.out⟩, ⟨by (with_reducible repeat (first | apply Kd.V_alloc | apply Kd.V_drewN | apply Kd.V_drew)); exact HO_348000.out⟩, ⟨by (with_reducible repeat (first | refine blk_drewN ?_ _ | refine blk_drew ?_ | refine blk_alloc ?_ _)); exact BK335.out⟩, ⟨by (with_reducible repeat (first | refine blk_drewN ?_ _ | refine blk_drew ?_ | refine blk_alloc ?_ _)); exact BK347.out⟩, ⟨by repeat (first | (with_reducible first | exact HB.out | apply below_alloc | apply pw_below_drewN | apply below_drew1 | refine below_set ?_ GE335.out | refine below_set ?_ GE347.out) | exact HB.out)⟩⟩
                                · rw [if_neg c51] at H
                                  have c51b0 : decide (((rd_T28 l3 x17_4).f0) < 0) = false := decide_eq_false c51
                                  clear c51
                                  have H' := Aside0.mk H
                                  clear H
                                  have p348 : 0 ≤ (x17_4 : Int) := of_decide_eq_true (by first | (with_reducible assumption) | assumption)
                                  have q348 : x17_4 < (l3.length : Int) := of_decide_eq_true (by first | (with_reducible assumption) | assumption)
                                  obtain ⟨ad348, e348, hx348_0, hx348_1, hx348_2⟩ := at_T28 HR3.out x17_4 p348 q348
                                  cases e348
                                  replace hx348_0 := (HB.out.cell (World.block_lt_of_cell? w _ hx348_0)).trans hx348_0
                                  replace hx348_1 := (HB.out.cell (World.block_lt_of_cell? w _ hx348_1)).trans hx348_1
                                  replace hx348_2 := (HB.out.cell (World.block_lt_of_cell? w _ hx348_2)).trans hx348_2
                                  replace p348 := eq_true p348
                                  replace q348 := eq_true q348
                                  have p349 : 0 ≤ (x17_4 : Int) := of_decide_eq_true (by first | (with_reducible assumption) | assumption)
                                  have q349 : x17_4 < (l3.length : Int) := of_decide_eq_true (by first | (with_reducible assumption) | assumption)
                                  obtain ⟨ad349, e349, hx349_0, hx349_1, hx349_2⟩ := at_T28 HR3.out x17_4 p349 q349
                                  obtain rfl : ad348 = ad349 := (by injection e349)
                                  replace hx349_0 := (HB.out.cell (World.block_lt_of_cell? w _ hx349_0)).trans hx349_0
                                  replace hx349_1 := (HB.out.cell (World.block_lt_of_cell? w _ hx349_1)).trans hx349_1
                                  replace hx349_2 := (HB.out.cell (World.block_lt_of_cell? w _ hx349_2)).trans hx349_2
                                  replace p349 := eq_true p349
                                  replace q349 := eq_true q349
                                  have p350 : 0 ≤ (x17_4 : Int) := of_decide_eq_true (by first | (with_reducible assumption) | assumption)
                                  have q350 : x17_4 < (l3.length : Int) := of_decide_eq_true (by first | (with_reducible assumption) | assumption)
                                  obtain ⟨ad350, e350, hx350_0, hx350_1, hx350_2⟩ := at_T28 HR3.out x17_4 p350 q350
                                  obtain rfl : ad348 = ad350 := (by injection e350)
                                  replace hx350_0 := (HB.out.cell (World.block_lt_of_cell? w _ hx350_0)).trans hx350_0
                                  replace hx350_1 := (HB.out.cell (World.block_lt_of_cell? w _ hx350_1)).trans hx350_1
                                  replace hx350_2 := (HB.out.cell (World.block_lt_of_cell? w _ hx350_2)).trans hx350_2
                                  replace p350 := eq_true p350
                                  replace q350 := eq_true q350
                                  go_wp2
                                  go_meet
                                  case rel => exact ⟨_, (decide (((rd_T28 l3 x17_4).f0) > 5)), (by first | rfl | (simp; done) | (simp [*]; done)), H', ⟨by have := HJ5.out; have := HK2.out; have := HJ33.out; have := HK4.out; first | omega | exact Nat.le_refl _⟩, ⟨by (with_reducible repeat (first | apply Kd.V_alloc | apply Kd.V_drewN | apply Kd.V_drew)); exact HO_336000.out⟩, ⟨by (with_reducible repeat (first | apply Kd.V_alloc | apply Kd.V_drewN | apply Kd.V_drew)); exact HO_348000.out⟩, ⟨by (with_reducible repeat (first | refine blk_drewN ?_ _ | refine blk_drew ?_ | refine blk_alloc ?_ _)); exact BK335.out⟩, ⟨by (with_reducible repeat (first | refine blk_drewN ?_ _ | refine blk_drew ?_ | refine blk_alloc ?_ _)); exact BK347.out⟩, ⟨by repeat (first | (with_reducible first | exact HB.out | apply below_alloc | apply pw_below_drewN | apply below_drew1 | refine below_set ?_ GE335.out | refine below_set ?_ GE347.out) | exact HB.out)⟩⟩
                            · rw [if_neg c49] at H
                              exact absurd H (by simp)
                          case rest =>
                            clear HC48
                            try clear c1
                            try clear c2
                            try clear p2
                            try clear p3
                            try clear q3
                            try clear hx3
                            try clear c4
                            try clear c5
                            try clear p6
                            try clear c8
                            try clear c11
                            try clear c12
                            try clear c12b0
                            try clear c13
                            try clear c15
                            try clear c15b0
                            try clear c15b1
                            try clear c23
                            try clear p33
                            try clear q33
                            try clear hx33
                            try clear p34
                            try clear q34
                            try clear hx34
                            try clear p35
                            try clear q35
                            try clear hx35
                            try clear c40
                            try clear c42
                            try clear c42b0
                            try clear c42b1
                            try clear c43
                            try clear c44
                            try clear c47
                            try clear c47b0
                            try clear c49
                            try clear c49b0
                            try clear c50
                            try clear c50b0
                            try clear c50b1
                            try clear c51
                            try clear c51b0
                            try clear hcz24_0
                            try clear hcz25_0
                            try clear hcz35_0
                            try clear hcz41_0
                            try clear hcz45_0
                            try clear hcz46_0
                            try clear hfz24_0
                            try clear hfz25_0
                            try clear hfz35_0
                            try clear hfz41_0
                            try clear hfz45_0
                            try clear hfz46_0
                            try clear hx336_0
                            try clear hx336_1
                            try clear hx336_2
                            try clear hx348_0
                            try clear hx348_1
                            try clear hx348_2
                            try clear hx349_0
                            try clear hx349_1
                            try clear hx349_2
                            try clear hx350_0
                            try clear hx350_1
                            try clear hx350_2
                            try clear p2
                            try clear p3
                            try clear p33
                            try clear p336
                            try clear p348
                            try clear p349
                            try clear p350
                            try clear p6
                            try clear q3
                            try clear q33
                            try clear q336
                            try clear q348
                            try clear q349
                            try clear q350
                            obtain ⟨kq, x94_47, rfl, HA, HJ47, HO_336000, HO_348000, BK335, BK347, HB⟩ := hcut
                            cases kq with
                            | zero => exact absurd HA.out (by simp [godwitlaw12_TokensFence.j4])
                            | succ kj47 =>
                              have H := HA.out
                              clear HA
                              simp only [godwitlaw12_TokensFence.j4] at H
                              by_cases c52 : x94_47 = true
                              · subst c52
                                have H1 : (godwitlaw12_TokensFence.l1 kj47 a1 a2 l3 t334 (wrap64 (x17_4 + 1)) x336000_4) = some r := by rw [if_pos rfl] at H; exact H
                                clear H
                                have H := H1
                                clear H1
                                have H' := Aside0.mk H
                                clear H
                                go_wp2
                                go_roundg kj47
                                case measure => have := HJ5.out; have := HK2.out; have := HJ33.out; have := HK4.out; have := HJ47.out; omega
                                case rel => exact ⟨(wrap64 (x17_4 + 1)), (x336000_4), (u336000), (by first | rfl | (simp; done) | (simp [*]; done)), H', ⟨by have := HJ5.out; have := HK2.out; have := HJ33.out; have := HK4.out; have := HJ47.out; omega⟩, ⟨by (with_reducible repeat (first | apply Kd.V_alloc | apply Kd.V_drewN | apply Kd.V_drew)); exact HO_336000.out⟩, ⟨by (with_reducible repeat (first | apply Kd.V_alloc | apply Kd.V_drewN | apply Kd.V_drew)); exact HO_348000.out⟩, ⟨by (with_reducible repeat (first | refine blk_drewN ?_ _ | refine blk_drew ?_ | refine blk_alloc ?_ _)); exact BK335.out⟩, ⟨by (with_reducible repeat (first | refine blk_drewN ?_ _ | refine blk_drew ?_ | refine blk_alloc ?_ _)); exact BK347.out⟩, ⟨by repeat (first | (with_reducible first | exact HB.out | apply below_alloc | apply pw_below_drewN | apply below_drew1 | refine below_set ?_ GE335.out | refine below_set ?_ GE347.out) | exact HB.out)⟩⟩
                              · replace c52 := Bool.eq_false_iff.mpr c52
                                subst c52
                                have H1 : (if 0 ≤ x17_4 then (if x17_4 < (l3.length : Int) then ((godwitlaw12_did.f kj47 x336000_4 ((rd_T28 l3 x17_4).f0) ((rd_T28 l3 x17_4).f1) ((rd_T28 l3 x17_4).f2) (wrap64 (100 + x17_4))).bind fun bt352 => (if bt352.2 = 0 then (if ((rd_T28 l3 x17_4).f1) = a1 then (if ((rd_T28 l3 x17_4).f0) ≤ 3 then (godwitlaw12_TokensFence.j5 kj47 a1 a2 l3 t334 x17_4 (decide (((rd_T28 l3 x17_4).f2) ≤ a2)) bt352.1) else (godwitlaw12_TokensFence.j5 kj47 a1 a2 l3 t334 x17_4 false bt352.1)) else (godwitlaw12_TokensFence.j5 kj47 a1 a2 l3 t334 x17_4 false bt352.1)) else (godwitlaw12_TokensFence.l1 kj47 a1 a2 l3 t334 (wrap64 (x17_4 + 1)) x336000_4))) else (none)) else (none)) = some r := by rw [if_neg (show ¬ (false = true) by decide)] at H; exact H
                                clear H
                                have H := H1
                                clear H1
                                by_cases c53 : 0 ≤ x17_4
                                · rw [if_pos c53] at H
                                  have c53b0 : decide (0 ≤ x17_4) = true := decide_eq_true c53
                                  clear c53
                                  by_cases c54 : x17_4 < (l3.length : Int)
                                  · rw [if_pos c54] at H
                                    have c54b0 : decide (x17_4 < (l3.length : Int)) = true := decide_eq_true c54
                                    clear c54
                                    replace H := Option.bind_eq_some_iff.mp H
                                    obtain ⟨⟨t352, t355⟩, A550, H⟩ := H
                                    replace H : (if t355 = 0 then (if ((rd_T28 l3 x17_4).f1) = a1 then (if ((rd_T28 l3 x17_4).f0) ≤ 3 then (godwitlaw12_TokensFence.j5 kj47 a1 a2 l3 t334 x17_4 (decide (((rd_T28 l3 x17_4).f2) ≤ a2)) t352) else (godwitlaw12_TokensFence.j5 kj47 a1 a2 l3 t334 x17_4 false t352)) else (godwitlaw12_TokensFence.j5 kj47 a1 a2 l3 t334 x17_4 false t352)) else (godwitlaw12_TokensFence.l1 kj47 a1 a2 l3 t334 (wrap64 (x17_4 + 1)) x336000_4)) = some r := H
                                    have A55 := Aside0.mk A550
                                    clear A550
                                    by_cases c56 : t355 = 0
                                    · rw [if_pos c56] at H
                                      have c56b0 : (t355 == 0) = true := beq_iff_eq.mpr c56
                                      have c56b1 : (t355 != 0) = false := bne_eq_false_iff_eq.mpr c56
                                      clear c56
                                      have HC57 := Aside0.mk H
                                      clear H
                                      obtain ⟨Ao58, co58, eo58⟩ := Kd.V_slice HO_336000.out
                                      subst eo58
                                      try go_wp2
                                      have n0_ := Aside0.mk (Kd.V_drew HO_336000.out)
                                      have n1_ := Aside0.mk (Kd.V_drew HO_348000.out)
                                      have n2_ := Aside0.mk (blk_drew BK335.out)
                                      have n3_ := Aside0.mk (blk_drew BK347.out)
                                      have n4_ := Aside0.mk (below_drew1 HB.out)
                                      clear HO_336000
                                      clear HO_348000
                                      clear BK335
                                      clear BK347
                                      clear HB
                                      have HO_336000 := n0_
                                      have HO_348000 := n1_
                                      have BK335 := n2_
                                      have BK347 := n3_
                                      have HB := n4_
                                      clear n0_ n1_ n2_ n3_ n4_
                                      have p351 : 0 ≤ (x17_4 : Int) := of_decide_eq_true (by first | (with_reducible assumption) | assumption)
                                      have q351 : x17_4 < (l3.length : Int) := of_decide_eq_true (by first | (with_reducible assumption) | assumption)
                                      obtain ⟨ad351, e351, hx351_0, hx351_1, hx351_2⟩ := at_T28 HR3.out x17_4 p351 q351
                                      have hw351_2 := hx351_2
                                      have hw351_1 := hx351_1
                                      have hw351_0 := hx351_0
                                      cases e351
                                      replace hx351_0 := (HB.out.cell (World.block_lt_of_cell? w _ hx351_0)).trans hx351_0
                                      replace hx351_1 := (HB.out.cell (World.block_lt_of_cell? w _ hx351_1)).trans hx351_1
                                      replace hx351_2 := (HB.out.cell (World.block_lt_of_cell? w _ hx351_2)).trans hx351_2
                                      replace p351 := eq_true p351
                                      replace q351 := eq_true q351
                                      refine start_ (n := 14) (S := fun w' => w'.cell? ⟨gb335, 0, none⟩ = some (.slice Ao58 x336000_4.length co58) ∧ w'.cell? (ad351.add ((x17_4).toNat * 3)) = some (.int .i64 ((rd_T28 l3 x17_4).f0)) ∧ w'.cell? ⟨(ad351.add ((x17_4).toNat * 3)).block, (ad351.add ((x17_4).toNat * 3)).off + 1, none⟩ = some (.int .i64 ((rd_T28 l3 x17_4).f1)) ∧ w'.cell? ⟨(ad351.add ((x17_4).toNat * 3)).block, (ad351.add ((x17_4).toNat * 3)).off + 2, none⟩ = some (.int .i64 ((rd_T28 l3 x17_4).f2))) (ds := []) #[false, false, false, false, false, false, false, false, false, false, false, false, false, false] (by kernel_rfl) rfl rfl ⟨(blk_cell BK335.out 0).trans rfl, ((HB.out.cell (World.block_lt_of_cell? w _ hw351_0)).trans hw351_0), ((HB.out.cell (World.block_lt_of_cell? w _ hw351_1)).trans hw351_1), ((HB.out.cell (World.block_lt_of_cell? w _ hw351_2)).trans hw351_2)⟩ (fun hHeld => ?_); refine with_tabW godwitlaw12_TokensFence.tab19 godwitlaw12_TokensFence.bits19 (fun HT_ HW_ => ?_)
                                      generalize wc.drew = w59 at HO_336000 HO_348000 BK335 BK347 HB hx351_0 hx351_1 hx351_2 hHeld ⊢
                                      refine pure_ (i := 1) (N := some 97) (v := ?_) (a' := ?_) #[false, true, false, false, false, false, false, false, false, false, false, false, false, false] rfl rfl (any_of HT_.out (by kernel_rfl)) (fun _ _ _ h => h) (Or.inl ⟨by rfl, ?_⟩) ?_ ?_
                                      rotate_left
                                      · intro w'
                                        go_simp
                                        with_reducible rfl
                                      rotate_left
                                      · simp only [Act.put, List.setIfInBounds_toArray, List.set_cons_zero, List.set_cons_succ, i64_w, i32_w]
                                        rfl
                                      refine pure_ (i := 2) (N := some 98) (v := ?_) (a' := ?_) #[false, true, true, false, false, false, false, false, false, false, false, false, false, false] rfl rfl (any_of HT_.out (by kernel_rfl)) (fun _ _ _ h => h) (Or.inl ⟨by rfl, ?_⟩) ?_ ?_
                                      rotate_left
                                      · intro w'
                                        go_simp
                                        with_reducible rfl
                                      rotate_left
                                      · simp only [Act.put, List.setIfInBounds_toArray, List.set_cons_zero, List.set_cons_succ, i64_w, i32_w]
                                        rfl
                                      refine pure_ (i := 3) (N := some 99) (v := ?_) (a' := ?_) #[false, true, true, true, false, false, false, false, false, false, false, false, false, false] rfl rfl (any_of HT_.out (by kernel_rfl)) (fun _ _ _ h => h) (Or.inl ⟨by rfl, ?_⟩) ?_ ?_
                                      rotate_left
                                      · intro w'
                                        go_simp
                                        with_reducible rfl
                                      rotate_left
                                      · simp only [Act.put, List.setIfInBounds_toArray, List.set_cons_zero, List.set_cons_succ, i64_w, i32_w]
                                        rfl
                                      refine pure_ (i := 5) (N := some 101) (v := ?_) (a' := ?_) #[false, true, true, true, false, true, false, false, false, false, false, false, false, false] rfl rfl (any_of HT_.out (by kernel_rfl)) (fun _ _ _ h => h) (Or.inl ⟨by rfl, ?_⟩) ?_ ?_
                                      rotate_left
                                      · intro w'
                                        go_simp
                                        with_reducible rfl
                                      rotate_left
                                      · simp only [Act.put, List.setIfInBounds_toArray, List.set_cons_zero, List.set_cons_succ, i64_w, i32_w]
                                        rfl
                                      refine pure_ (i := 6) (N := some 102) (v := ?_) (a' := ?_) #[false, true, true, true, false, true, true, false, false, false, false, false, false, false] rfl rfl (any_of HT_.out (by kernel_rfl)) (fun _ _ _ h => h) (Or.inl ⟨by rfl, ?_⟩) ?_ ?_
                                      rotate_left
                                      · intro w'
                                        go_simp
                                        with_reducible rfl
                                      rotate_left
                                      · simp only [Act.put, List.setIfInBounds_toArray, List.set_cons_zero, List.set_cons_succ, i64_w, i32_w]
                                        rfl
                                      refine take_ (i := 0) (N := some 96) (v := ?_) (a' := ?_) #[true, true, true, true, false, true, true, false, false, false, false, false, false, false] rfl rfl (take_ofW HT_.out HW_.out (by kernel_rfl)) (fun _ _ _ h => h) (Or.inl ⟨by rfl, ?_⟩) hHeld ?_ ?_
                                      rotate_left
                                      · rintro w' ⟨s0, s1, s2, s3⟩
                                        go_simp
                                        with_reducible rfl
                                      rotate_left
                                      · simp only [Act.put, List.setIfInBounds_toArray, List.set_cons_zero, List.set_cons_succ, i64_w, i32_w]
                                        rfl
                                      refine take_ (i := 4) (N := some 100) (v := ?_) (a' := ?_) #[true, true, true, true, true, true, true, false, false, false, false, false, false, false] rfl rfl (take_ofW HT_.out HW_.out (by kernel_rfl)) (fun _ _ _ h => h) (Or.inl ⟨by rfl, ?_⟩) hHeld ?_ ?_
                                      rotate_left
                                      · rintro w' ⟨s0, s1, s2, s3⟩
                                        go_simp
                                        with_reducible rfl
                                      rotate_left
                                      · simp only [Act.put, List.setIfInBounds_toArray, List.set_cons_zero, List.set_cons_succ, i64_w, i32_w]
                                        rfl
                                      refine join_ (σ := Value × Nat) 2 #[true, true, true, true, true, true, true, true, true, true, true, true, false, false] (fun s_ => [(103, .tuple #[.agg #[s_.1], .int .i64 t355]), (18, .pointer (some ⟨s_.2, 0, none⟩)), (95, .tuple #[.agg #[s_.1], .int .i64 t355]), (104, .agg #[s_.1]), (105, .int .i64 t355)]) (fun s_ w' => (w'.cell? ⟨gb335, 0, none⟩ = some (.slice Ao58 x336000_4.length co58) ∧ w'.cell? (ad351.add ((x17_4).toNat * 3)) = some (.int .i64 ((rd_T28 l3 x17_4).f0)) ∧ w'.cell? ⟨(ad351.add ((x17_4).toNat * 3)).block, (ad351.add ((x17_4).toNat * 3)).off + 1, none⟩ = some (.int .i64 ((rd_T28 l3 x17_4).f1)) ∧ w'.cell? ⟨(ad351.add ((x17_4).toNat * 3)).block, (ad351.add ((x17_4).toNat * 3)).off + 2, none⟩ = some (.int .i64 ((rd_T28 l3 x17_4).f2))) ∧ (Kd.V k33 33 w' w.heap.size (fun k_ => k_ ≠ gb335 ∧ k_ ≠ gb347 ∧ k_ ≠ s_.2) s_.1 t352) ∧ (Kd.V k33 33 w' w.heap.size (fun k_ => k_ ≠ gb335 ∧ k_ ≠ gb347 ∧ k_ ≠ s_.2) (.slice Ao58 x336000_4.length co58) x336000_4) ∧ (Kd.V k33 33 w' w.heap.size (fun k_ => k_ ≠ gb335 ∧ k_ ≠ gb347 ∧ k_ ≠ s_.2) (.slice Ao39 t342.length co39) t342) ∧ (w'.heap[gb335]? = some (.cells #[.slice Ao58 x336000_4.length co58] 26 (0, 0))) ∧ (w'.heap[gb347]? = some (.cells #[.slice Ao39 t342.length co39] 26 (0, 0))) ∧ (w'.heap[s_.2]? = some (.cells #[.slice none 0 0] 26 (0, 0))) ∧ (w.heap.size ≤ s_.2) ∧ (w.heap.size ≤ s_.2) ∧ (gb335 ≠ s_.2) ∧ (s_.2 ≠ gb335) ∧ (gb347 ≠ s_.2) ∧ (s_.2 ≠ gb347) ∧ (Below w.heap.size w w')) ?_ ?_
                                      rotate_left
                                      · intro hCont
                                        refine two_ (i := 7) (j := 11) (Ni := some 103) (Nj := some 18) #[true, true, true, true, true, true, true, true, false, false, false, false, false, false] #[true, true, true, true, true, true, true, false, false, false, false, true, false, false] rfl rfl rfl rfl (two_of HT_.out (by kernel_rfl)) (by decide) (by decide) (fun K hK => ?_) (fun K hK => ?_)
                                        · skip
                                          refine goes_ Try.func8 (by kernel_rfl) rfl #[.agg #[.slice Ao58 x336000_4.length co58], .agg #[.int .i64 ((rd_T28 l3 x17_4).f0), .int .i64 ((rd_T28 l3 x17_4).f1), .int .i64 ((rd_T28 l3 x17_4).f2)], .int .i64 (wrap64 (100 + x17_4))] (by rfl) rfl rfl (by (try simp only [List.map_toArray, List.map_cons, List.map_nil]); first | done | rfl | (simp only [List.length_drop, List.length_take]; rfl)) ?_
                                          with_reducible refine (godwitlaw12_did.calls kj47 (fun k_ => (k_ ≠ gb335 ∧ k_ ≠ gb347)) _ _ x336000_4 ((rd_T28 l3 x17_4).f0) ((rd_T28 l3 x17_4).f1) ((rd_T28 l3 x17_4).f2) (wrap64 (100 + x17_4)) t352 t355 _ ?side1 A55.out).mono ?_
                                          (case side1 => exact HO_336000.out)
                                          rintro e w60 ⟨v353, rfl, ho0, hb⟩
                                          refine ⟨_, rfl, ?_⟩
                                          have n0_ := Aside0.mk (Kd.V_below (by (with_reducible repeat (first | apply Kd.V_alloc | apply Kd.V_drewN | apply Kd.V_drew)); exact HO_336000.out) hb)
                                          have n1_ := Aside0.mk (Kd.V_below (by (with_reducible repeat (first | apply Kd.V_alloc | apply Kd.V_drewN | apply Kd.V_drew)); exact HO_348000.out) hb)
                                          have n2_ := Aside0.mk (Kd.V_lower (Kd.V_mono (ok' := fun k_ => k_ ≠ gb335 ∧ k_ ≠ gb347) ho0 (fun k_ hk_ => ⟨Or.elim hk_ (fun hs_ => hs_.1) (fun hn_ => (Kd.freshB (g := gb335) (o := .cells #[.slice Ao58 x336000_4.length co58] 26 (0, 0)) (by (with_reducible repeat (first | refine blk_drewN ?_ _ | refine blk_drew ?_ | refine blk_alloc ?_ _)); exact BK335.out) k_ hn_)), Or.elim hk_ (fun hs_ => hs_.2) (fun hn_ => (Kd.freshB (g := gb347) (o := .cells #[.slice Ao39 t342.length co39] 26 (0, 0)) (by (with_reducible repeat (first | refine blk_drewN ?_ _ | refine blk_drew ?_ | refine blk_alloc ?_ _)); exact BK347.out) k_ hn_))⟩)) (below_size (by repeat (first | (with_reducible first | exact HB.out | apply below_alloc | apply pw_below_drewN | apply below_drew1 | refine below_set ?_ GE335.out | refine below_set ?_ GE347.out) | exact HB.out))))
                                          have n3_ := Aside0.mk (blk_below (g := gb335) (o := .cells #[.slice Ao58 x336000_4.length co58] 26 (0, 0)) (by (with_reducible repeat (first | refine blk_drewN ?_ _ | refine blk_drew ?_ | refine blk_alloc ?_ _)); exact BK335.out) hb)
                                          have n4_ := Aside0.mk (blk_below (g := gb347) (o := .cells #[.slice Ao39 t342.length co39] 26 (0, 0)) (by (with_reducible repeat (first | refine blk_drewN ?_ _ | refine blk_drew ?_ | refine blk_alloc ?_ _)); exact BK347.out) hb)
                                          have n5_ := Aside0.mk (below_step (by repeat (first | (with_reducible first | exact HB.out | apply below_alloc | apply pw_below_drewN | apply below_drew1 | refine below_set ?_ GE335.out | refine below_set ?_ GE347.out) | exact HB.out)) hb)
                                          clear HO_336000
                                          clear HO_348000
                                          clear BK335
                                          clear BK347
                                          clear HB
                                          have HO_336000 := n0_
                                          have HO_348000 := n1_
                                          have HO354 := n2_
                                          have BK335 := n3_
                                          have BK347 := n4_
                                          have HB := n5_
                                          clear n0_ n1_ n2_ n3_ n4_ n5_
                                          (try clear hb)
                                          (try clear hb2)
                                          (try clear hk)
                                          (try clear hi)
                                          (try clear ho0)
                                          refine hK.out _ _ ⟨(blk_cell BK335.out 0).trans rfl, ((HB.out.cell (World.block_lt_of_cell? w _ hw351_0)).trans hw351_0), ((HB.out.cell (World.block_lt_of_cell? w _ hw351_1)).trans hw351_1), ((HB.out.cell (World.block_lt_of_cell? w _ hw351_2)).trans hw351_2)⟩ (fun hHeld => ?_)
                                          clear hK K
                                          refine norm_ (a' := ?_) ?_ ?_
                                          rotate_left
                                          · show Act.put _ (some 103) _ = _
                                            simp only [Act.put, List.setIfInBounds_toArray, List.set_cons_zero, List.set_cons_succ, i64_w, i32_w]
                                            rfl
                                          refine pure_ (i := 8) (N := some 95) (v := ?_) (a' := ?_) #[true, true, true, true, true, true, true, true, true, false, false, false, false, false] rfl rfl (any_of HT_.out (by kernel_rfl)) (fun _ _ _ h => h) (Or.inl ⟨by rfl, ?_⟩) ?_ ?_
                                          rotate_left
                                          · intro w'
                                            go_simp
                                            with_reducible rfl
                                          rotate_left
                                          · simp only [Act.put, List.setIfInBounds_toArray, List.set_cons_zero, List.set_cons_succ, i64_w, i32_w]
                                            rfl
                                          refine pure_ (i := 9) (N := some 104) (v := ?_) (a' := ?_) #[true, true, true, true, true, true, true, true, true, true, false, false, false, false] rfl rfl (any_of HT_.out (by kernel_rfl)) (fun _ _ _ h => h) (Or.inl ⟨by rfl, ?_⟩) ?_ ?_
                                          rotate_left
                                          · intro w'
                                            go_simp
                                            with_reducible rfl
                                          rotate_left
                                          · simp only [Act.put, List.setIfInBounds_toArray, List.set_cons_zero, List.set_cons_succ, i64_w, i32_w]
                                            rfl
                                          refine pure_ (i := 10) (N := some 105) (v := ?_) (a' := ?_) #[true, true, true, true, true, true, true, true, true, true, true, false, false, false] rfl rfl (any_of HT_.out (by kernel_rfl)) (fun _ _ _ h => h) (Or.inl ⟨by rfl, ?_⟩) ?_ ?_
                                          rotate_left
                                          · intro w'
                                            go_simp
                                            with_reducible rfl
                                          rotate_left
                                          · simp only [Act.put, List.setIfInBounds_toArray, List.set_cons_zero, List.set_cons_succ, i64_w, i32_w]
                                            rfl
                                          refine one_ (i := 11) (N := some 18) #[true, true, true, true, true, true, true, true, true, true, true, true, false, false] rfl rfl (one_of HT_.out (by kernel_rfl)) (by decide) (fun K hK => ?_)
                                          refine box_step ?hg (N := 18) ?hd (cs := #[.slice none 0 0]) (t := 26) ?hr ?_; (case hd => rfl); (case hg => rfl); (case hr => first | (go_simp; done) | (go_simp; rfl))
                                          intro gb356 hg w61 hbox hb
                                          have n0_ := Aside0.mk (Kd.V_below (Kd.V_elderB (by (with_reducible repeat (first | apply Kd.V_alloc | apply Kd.V_drewN | apply Kd.V_drew)); exact HO_336000.out) gb356 (Nat.le_of_eq hg.symm)) hb)
                                          have n1_ := Aside0.mk (Kd.V_below (Kd.V_elderB (by (with_reducible repeat (first | apply Kd.V_alloc | apply Kd.V_drewN | apply Kd.V_drew)); exact HO_348000.out) gb356 (Nat.le_of_eq hg.symm)) hb)
                                          have n2_ := Aside0.mk (Kd.V_below (Kd.V_elderB (by (with_reducible repeat (first | apply Kd.V_alloc | apply Kd.V_drewN | apply Kd.V_drew)); exact HO354.out) gb356 (Nat.le_of_eq hg.symm)) hb)
                                          have n3_ := Aside0.mk (blk_below (g := gb335) (o := .cells #[.slice Ao58 x336000_4.length co58] 26 (0, 0)) (by (with_reducible repeat (first | refine blk_drewN ?_ _ | refine blk_drew ?_ | refine blk_alloc ?_ _)); exact BK335.out) hb)
                                          have n4_ := Aside0.mk (blk_below (g := gb347) (o := .cells #[.slice Ao39 t342.length co39] 26 (0, 0)) (by (with_reducible repeat (first | refine blk_drewN ?_ _ | refine blk_drew ?_ | refine blk_alloc ?_ _)); exact BK347.out) hb)
                                          have n5_ := Aside0.mk (below_step (by repeat (first | (with_reducible first | exact HB.out | apply below_alloc | apply pw_below_drewN | apply below_drew1 | refine below_set ?_ GE335.out | refine below_set ?_ GE347.out) | exact HB.out)) hb)
                                          have n6_ := Aside0.mk (hbox)
                                          have n7_ := Aside0.mk ((by rw [hg]; exact (below_size (by repeat (first | (with_reducible first | exact HB.out | apply below_alloc | apply pw_below_drewN | apply below_drew1 | refine below_set ?_ GE335.out | refine below_set ?_ GE347.out) | exact HB.out))) : w.heap.size ≤ gb356))
                                          have n8_ := Aside0.mk ((by rw [hg]; exact (below_size (by repeat (first | (with_reducible first | exact HB.out | apply below_alloc | apply pw_below_drewN | apply below_drew1 | refine below_set ?_ GE335.out | refine below_set ?_ GE347.out) | exact HB.out))) : w.heap.size ≤ gb356))
                                          have n9_ := Aside0.mk ((by rw [hg]; exact Nat.ne_of_lt (blk_lt (g := gb335) (o := .cells #[.slice Ao58 x336000_4.length co58] 26 (0, 0)) (by (with_reducible repeat (first | refine blk_drewN ?_ _ | refine blk_drew ?_ | refine blk_alloc ?_ _)); exact BK335.out)) : gb335 ≠ gb356))
                                          have n10_ := Aside0.mk ((by rw [hg]; exact Nat.ne_of_gt (blk_lt (g := gb335) (o := .cells #[.slice Ao58 x336000_4.length co58] 26 (0, 0)) (by (with_reducible repeat (first | refine blk_drewN ?_ _ | refine blk_drew ?_ | refine blk_alloc ?_ _)); exact BK335.out)) : gb356 ≠ gb335))
                                          have n11_ := Aside0.mk ((by rw [hg]; exact Nat.ne_of_lt (blk_lt (g := gb347) (o := .cells #[.slice Ao39 t342.length co39] 26 (0, 0)) (by (with_reducible repeat (first | refine blk_drewN ?_ _ | refine blk_drew ?_ | refine blk_alloc ?_ _)); exact BK347.out)) : gb347 ≠ gb356))
                                          have n12_ := Aside0.mk ((by rw [hg]; exact Nat.ne_of_gt (blk_lt (g := gb347) (o := .cells #[.slice Ao39 t342.length co39] 26 (0, 0)) (by (with_reducible repeat (first | refine blk_drewN ?_ _ | refine blk_drew ?_ | refine blk_alloc ?_ _)); exact BK347.out)) : gb356 ≠ gb347))
                                          clear HO_336000
                                          clear HO_348000
                                          clear HO354
                                          clear BK335
                                          clear BK347
                                          clear HB
                                          have HO_336000 := n0_
                                          have HO_348000 := n1_
                                          have HO354 := n2_
                                          have BK335 := n3_
                                          have BK347 := n4_
                                          have HB := n5_
                                          have BK356 := n6_
                                          have GW356 := n7_
                                          have GE356 := n8_
                                          have NB335_356 := n9_
                                          have NB356_335 := n10_
                                          have NB347_356 := n11_
                                          have NB356_347 := n12_
                                          clear n0_ n1_ n2_ n3_ n4_ n5_ n6_ n7_ n8_ n9_ n10_ n11_ n12_
                                          clear hb hbox hg
                                          refine hK.out _ _ ⟨(blk_cell BK335.out 0).trans rfl, ((HB.out.cell (World.block_lt_of_cell? w _ hw351_0)).trans hw351_0), ((HB.out.cell (World.block_lt_of_cell? w _ hw351_1)).trans hw351_1), ((HB.out.cell (World.block_lt_of_cell? w _ hw351_2)).trans hw351_2)⟩ (fun hHeld => ?_)
                                          clear hK K
                                          refine norm_ (a' := ?_) ?_ ?_
                                          rotate_left
                                          · show Act.put _ (some 18) _ = _
                                            simp only [Act.put, List.setIfInBounds_toArray, List.set_cons_zero, List.set_cons_succ, i64_w, i32_w]
                                            rfl
                                          exact norm_ (by simp only [putAll, Act.put, List.setIfInBounds_toArray, List.set_cons_zero, List.set_cons_succ]) (hCont (v353, gb356) _ ⟨hHeld, (by (with_reducible repeat (first | apply Kd.V_alloc | apply Kd.V_drewN | apply Kd.V_drew)); exact Kd.V_mono HO354.out (fun _ hk => ⟨hk.1.1, ⟨hk.1.2, hk.2⟩⟩)), (by (with_reducible repeat (first | apply Kd.V_alloc | apply Kd.V_drewN | apply Kd.V_drew)); exact Kd.V_mono HO_336000.out (fun _ hk => ⟨hk.1.1, ⟨hk.1.2, hk.2⟩⟩)), (by (with_reducible repeat (first | apply Kd.V_alloc | apply Kd.V_drewN | apply Kd.V_drew)); exact Kd.V_mono HO_348000.out (fun _ hk => ⟨hk.1.1, ⟨hk.1.2, hk.2⟩⟩)), (by (with_reducible repeat (first | refine blk_drewN ?_ _ | refine blk_drew ?_ | refine blk_alloc ?_ _)); exact BK335.out), (by (with_reducible repeat (first | refine blk_drewN ?_ _ | refine blk_drew ?_ | refine blk_alloc ?_ _)); exact BK347.out), (by (with_reducible repeat (first | refine blk_drewN ?_ _ | refine blk_drew ?_ | refine blk_alloc ?_ _)); exact BK356.out), GW356.out, GE356.out, NB335_356.out, NB356_335.out, NB347_356.out, NB356_347.out, (by repeat (first | (with_reducible first | exact HB.out | apply below_alloc | apply pw_below_drewN | apply below_drew1 | refine below_set ?_ GE335.out | refine below_set ?_ GE347.out | refine below_set ?_ GE356.out) | exact HB.out))⟩)
                                        · skip
                                          refine box_step ?hg (N := 18) ?hd (cs := #[.slice none 0 0]) (t := 26) ?hr ?_; (case hd => rfl); (case hg => rfl); (case hr => first | (go_simp; done) | (go_simp; rfl))
                                          intro gb356 hg w60 hbox hb
                                          have n0_ := Aside0.mk (Kd.V_below (Kd.V_elderB (by (with_reducible repeat (first | apply Kd.V_alloc | apply Kd.V_drewN | apply Kd.V_drew)); exact HO_336000.out) gb356 (Nat.le_of_eq hg.symm)) hb)
                                          have n1_ := Aside0.mk (Kd.V_below (Kd.V_elderB (by (with_reducible repeat (first | apply Kd.V_alloc | apply Kd.V_drewN | apply Kd.V_drew)); exact HO_348000.out) gb356 (Nat.le_of_eq hg.symm)) hb)
                                          have n2_ := Aside0.mk (blk_below (g := gb335) (o := .cells #[.slice Ao58 x336000_4.length co58] 26 (0, 0)) (by (with_reducible repeat (first | refine blk_drewN ?_ _ | refine blk_drew ?_ | refine blk_alloc ?_ _)); exact BK335.out) hb)
                                          have n3_ := Aside0.mk (blk_below (g := gb347) (o := .cells #[.slice Ao39 t342.length co39] 26 (0, 0)) (by (with_reducible repeat (first | refine blk_drewN ?_ _ | refine blk_drew ?_ | refine blk_alloc ?_ _)); exact BK347.out) hb)
                                          have n4_ := Aside0.mk (below_step (by repeat (first | (with_reducible first | exact HB.out | apply below_alloc | apply pw_below_drewN | apply below_drew1 | refine below_set ?_ GE335.out | refine below_set ?_ GE347.out) | exact HB.out)) hb)
                                          have n5_ := Aside0.mk (hbox)
                                          have n6_ := Aside0.mk ((by rw [hg]; exact (below_size (by repeat (first | (with_reducible first | exact HB.out | apply below_alloc | apply pw_below_drewN | apply below_drew1 | refine below_set ?_ GE335.out | refine below_set ?_ GE347.out) | exact HB.out))) : w.heap.size ≤ gb356))
                                          have n7_ := Aside0.mk ((by rw [hg]; exact (below_size (by repeat (first | (with_reducible first | exact HB.out | apply below_alloc | apply pw_below_drewN | apply below_drew1 | refine below_set ?_ GE335.out | refine below_set ?_ GE347.out) | exact HB.out))) : w.heap.size ≤ gb356))
                                          have n8_ := Aside0.mk ((by rw [hg]; exact Nat.ne_of_lt (blk_lt (g := gb335) (o := .cells #[.slice Ao58 x336000_4.length co58] 26 (0, 0)) (by (with_reducible repeat (first | refine blk_drewN ?_ _ | refine blk_drew ?_ | refine blk_alloc ?_ _)); exact BK335.out)) : gb335 ≠ gb356))
                                          have n9_ := Aside0.mk ((by rw [hg]; exact Nat.ne_of_gt (blk_lt (g := gb335) (o := .cells #[.slice Ao58 x336000_4.length co58] 26 (0, 0)) (by (with_reducible repeat (first | refine blk_drewN ?_ _ | refine blk_drew ?_ | refine blk_alloc ?_ _)); exact BK335.out)) : gb356 ≠ gb335))
                                          have n10_ := Aside0.mk ((by rw [hg]; exact Nat.ne_of_lt (blk_lt (g := gb347) (o := .cells #[.slice Ao39 t342.length co39] 26 (0, 0)) (by (with_reducible repeat (first | refine blk_drewN ?_ _ | refine blk_drew ?_ | refine blk_alloc ?_ _)); exact BK347.out)) : gb347 ≠ gb356))
                                          have n11_ := Aside0.mk ((by rw [hg]; exact Nat.ne_of_gt (blk_lt (g := gb347) (o := .cells #[.slice Ao39 t342.length co39] 26 (0, 0)) (by (with_reducible repeat (first | refine blk_drewN ?_ _ | refine blk_drew ?_ | refine blk_alloc ?_ _)); exact BK347.out)) : gb356 ≠ gb347))
                                          clear HO_336000
                                          clear HO_348000
                                          clear BK335
                                          clear BK347
                                          clear HB
                                          have HO_336000 := n0_
                                          have HO_348000 := n1_
                                          have BK335 := n2_
                                          have BK347 := n3_
                                          have HB := n4_
                                          have BK356 := n5_
                                          have GW356 := n6_
                                          have GE356 := n7_
                                          have NB335_356 := n8_
                                          have NB356_335 := n9_
                                          have NB347_356 := n10_
                                          have NB356_347 := n11_
                                          clear n0_ n1_ n2_ n3_ n4_ n5_ n6_ n7_ n8_ n9_ n10_ n11_
                                          clear hb hbox hg
                                          refine hK.out _ _ ⟨(blk_cell BK335.out 0).trans rfl, ((HB.out.cell (World.block_lt_of_cell? w _ hw351_0)).trans hw351_0), ((HB.out.cell (World.block_lt_of_cell? w _ hw351_1)).trans hw351_1), ((HB.out.cell (World.block_lt_of_cell? w _ hw351_2)).trans hw351_2)⟩ (fun hHeld => ?_)
                                          clear hK K
                                          refine norm_ (a' := ?_) ?_ ?_
                                          rotate_left
                                          · show Act.put _ (some 18) _ = _
                                            simp only [Act.put, List.setIfInBounds_toArray, List.set_cons_zero, List.set_cons_succ, i64_w, i32_w]
                                            rfl
                                          refine one_ (i := 7) (N := some 103) #[true, true, true, true, true, true, true, true, false, false, false, true, false, false] rfl rfl (one_of HT_.out (by kernel_rfl)) (by decide) (fun K hK => ?_)
                                          refine goes_ Try.func8 (by kernel_rfl) rfl #[.agg #[.slice Ao58 x336000_4.length co58], .agg #[.int .i64 ((rd_T28 l3 x17_4).f0), .int .i64 ((rd_T28 l3 x17_4).f1), .int .i64 ((rd_T28 l3 x17_4).f2)], .int .i64 (wrap64 (100 + x17_4))] (by rfl) rfl rfl (by (try simp only [List.map_toArray, List.map_cons, List.map_nil]); first | done | rfl | (simp only [List.length_drop, List.length_take]; rfl)) ?_
                                          with_reducible refine (godwitlaw12_did.calls kj47 (fun k_ => ((k_ ≠ gb335 ∧ k_ ≠ gb347) ∧ k_ ≠ gb356)) _ _ x336000_4 ((rd_T28 l3 x17_4).f0) ((rd_T28 l3 x17_4).f1) ((rd_T28 l3 x17_4).f2) (wrap64 (100 + x17_4)) t352 t355 _ ?side1 A55.out).mono ?_
                                          (case side1 => exact HO_336000.out)
                                          rintro e w61 ⟨v353, rfl, ho0, hb⟩
                                          refine ⟨_, rfl, ?_⟩
                                          have n0_ := Aside0.mk (Kd.V_below (by (with_reducible repeat (first | apply Kd.V_alloc | apply Kd.V_drewN | apply Kd.V_drew)); exact HO_336000.out) hb)
                                          have n1_ := Aside0.mk (Kd.V_below (by (with_reducible repeat (first | apply Kd.V_alloc | apply Kd.V_drewN | apply Kd.V_drew)); exact HO_348000.out) hb)
                                          have n2_ := Aside0.mk (Kd.V_lower (Kd.V_mono (ok' := fun k_ => k_ ≠ gb335 ∧ k_ ≠ gb347 ∧ k_ ≠ gb356) ho0 (fun k_ hk_ => ⟨Or.elim hk_ (fun hs_ => hs_.1.1) (fun hn_ => (Kd.freshB (g := gb335) (o := .cells #[.slice Ao58 x336000_4.length co58] 26 (0, 0)) (by (with_reducible repeat (first | refine blk_drewN ?_ _ | refine blk_drew ?_ | refine blk_alloc ?_ _)); exact BK335.out) k_ hn_)), Or.elim hk_ (fun hs_ => hs_.1.2) (fun hn_ => (Kd.freshB (g := gb347) (o := .cells #[.slice Ao39 t342.length co39] 26 (0, 0)) (by (with_reducible repeat (first | refine blk_drewN ?_ _ | refine blk_drew ?_ | refine blk_alloc ?_ _)); exact BK347.out) k_ hn_)), Or.elim hk_ (fun hs_ => hs_.2) (fun hn_ => (Kd.freshB (g := gb356) (o := .cells #[.slice none 0 0] 26 (0, 0)) (by (with_reducible repeat (first | refine blk_drewN ?_ _ | refine blk_drew ?_ | refine blk_alloc ?_ _)); exact BK356.out) k_ hn_))⟩)) (below_size (by repeat (first | (with_reducible first | exact HB.out | apply below_alloc | apply pw_below_drewN | apply below_drew1 | refine below_set ?_ GE335.out | refine below_set ?_ GE347.out | refine below_set ?_ GE356.out) | exact HB.out))))
                                          have n3_ := Aside0.mk (blk_below (g := gb335) (o := .cells #[.slice Ao58 x336000_4.length co58] 26 (0, 0)) (by (with_reducible repeat (first | refine blk_drewN ?_ _ | refine blk_drew ?_ | refine blk_alloc ?_ _)); exact BK335.out) hb)
                                          have n4_ := Aside0.mk (blk_below (g := gb347) (o := .cells #[.slice Ao39 t342.length co39] 26 (0, 0)) (by (with_reducible repeat (first | refine blk_drewN ?_ _ | refine blk_drew ?_ | refine blk_alloc ?_ _)); exact BK347.out) hb)
                                          have n5_ := Aside0.mk (blk_below (g := gb356) (o := .cells #[.slice none 0 0] 26 (0, 0)) (by (with_reducible repeat (first | refine blk_drewN ?_ _ | refine blk_drew ?_ | refine blk_alloc ?_ _)); exact BK356.out) hb)
                                          have n6_ := Aside0.mk (below_step (by repeat (first | (with_reducible first | exact HB.out | apply below_alloc | apply pw_below_drewN | apply below_drew1 | refine below_set ?_ GE335.out | refine below_set ?_ GE347.out | refine below_set ?_ GE356.out) | exact HB.out)) hb)
                                          clear HO_336000
                                          clear HO_348000
                                          clear BK335
                                          clear BK347
                                          clear BK356
                                          clear HB
                                          have HO_336000 := n0_
                                          have HO_348000 := n1_
                                          have HO354 := n2_
                                          have BK335 := n3_
                                          have BK347 := n4_
                                          have BK356 := n5_
                                          have HB := n6_
                                          clear n0_ n1_ n2_ n3_ n4_ n5_ n6_
                                          (try clear hb)
                                          (try clear hb2)
                                          (try clear hk)
                                          (try clear hi)
                                          (try clear ho0)
                                          refine hK.out _ _ ⟨(blk_cell BK335.out 0).trans rfl, ((HB.out.cell (World.block_lt_of_cell? w _ hw351_0)).trans hw351_0), ((HB.out.cell (World.block_lt_of_cell? w _ hw351_1)).trans hw351_1), ((HB.out.cell (World.block_lt_of_cell? w _ hw351_2)).trans hw351_2)⟩ (fun hHeld => ?_)
                                          clear hK K
                                          refine norm_ (a' := ?_) ?_ ?_
                                          rotate_left
                                          · show Act.put _ (some 103) _ = _
                                            simp only [Act.put, List.setIfInBounds_toArray, List.set_cons_zero, List.set_cons_succ, i64_w, i32_w]
                                            rfl
                                          refine pure_ (i := 8) (N := some 95) (v := ?_) (a' := ?_) #[true, true, true, true, true, true, true, true, true, false, false, true, false, false] rfl rfl (any_of HT_.out (by kernel_rfl)) (fun _ _ _ h => h) (Or.inl ⟨by rfl, ?_⟩) ?_ ?_
                                          rotate_left
                                          · intro w'
                                            go_simp
                                            with_reducible rfl
                                          rotate_left
                                          · simp only [Act.put, List.setIfInBounds_toArray, List.set_cons_zero, List.set_cons_succ, i64_w, i32_w]
                                            rfl
                                          refine pure_ (i := 9) (N := some 104) (v := ?_) (a' := ?_) #[true, true, true, true, true, true, true, true, true, true, false, true, false, false] rfl rfl (any_of HT_.out (by kernel_rfl)) (fun _ _ _ h => h) (Or.inl ⟨by rfl, ?_⟩) ?_ ?_
                                          rotate_left
                                          · intro w'
                                            go_simp
                                            with_reducible rfl
                                          rotate_left
                                          · simp only [Act.put, List.setIfInBounds_toArray, List.set_cons_zero, List.set_cons_succ, i64_w, i32_w]
                                            rfl
                                          refine pure_ (i := 10) (N := some 105) (v := ?_) (a' := ?_) #[true, true, true, true, true, true, true, true, true, true, true, true, false, false] rfl rfl (any_of HT_.out (by kernel_rfl)) (fun _ _ _ h => h) (Or.inl ⟨by rfl, ?_⟩) ?_ ?_
                                          rotate_left
                                          · intro w'
                                            go_simp
                                            with_reducible rfl
                                          rotate_left
                                          · simp only [Act.put, List.setIfInBounds_toArray, List.set_cons_zero, List.set_cons_succ, i64_w, i32_w]
                                            rfl
                                          exact norm_ (by simp only [putAll, Act.put, List.setIfInBounds_toArray, List.set_cons_zero, List.set_cons_succ]) (hCont (v353, gb356) _ ⟨hHeld, (by (with_reducible repeat (first | apply Kd.V_alloc | apply Kd.V_drewN | apply Kd.V_drew)); exact HO354.out), (by (with_reducible repeat (first | apply Kd.V_alloc | apply Kd.V_drewN | apply Kd.V_drew)); exact Kd.V_mono HO_336000.out (fun _ hk => ⟨hk.1.1, ⟨hk.1.2, hk.2⟩⟩)), (by (with_reducible repeat (first | apply Kd.V_alloc | apply Kd.V_drewN | apply Kd.V_drew)); exact Kd.V_mono HO_348000.out (fun _ hk => ⟨hk.1.1, ⟨hk.1.2, hk.2⟩⟩)), (by (with_reducible repeat (first | refine blk_drewN ?_ _ | refine blk_drew ?_ | refine blk_alloc ?_ _)); exact BK335.out), (by (with_reducible repeat (first | refine blk_drewN ?_ _ | refine blk_drew ?_ | refine blk_alloc ?_ _)); exact BK347.out), (by (with_reducible repeat (first | refine blk_drewN ?_ _ | refine blk_drew ?_ | refine blk_alloc ?_ _)); exact BK356.out), GW356.out, GE356.out, NB335_356.out, NB356_335.out, NB347_356.out, NB356_347.out, (by repeat (first | (with_reducible first | exact HB.out | apply below_alloc | apply pw_below_drewN | apply below_drew1 | refine below_set ?_ GE335.out | refine below_set ?_ GE347.out | refine below_set ?_ GE356.out) | exact HB.out))⟩)
                                      rintro ⟨v353, gb356⟩ w62 ⟨hS_, h0_, h1_, h2_, h3_, h4_, h5_, h6_, h7_, h8_, h9_, h10_, h11_, h12_⟩
                                      have n0_ : Aside0 (Kd.V k33 33 w62 w.heap.size (fun k_ => k_ ≠ gb335 ∧ k_ ≠ gb347 ∧ k_ ≠ gb356) v353 t352) := ⟨h0_⟩
                                      have n1_ : Aside0 (Kd.V k33 33 w62 w.heap.size (fun k_ => k_ ≠ gb335 ∧ k_ ≠ gb347 ∧ k_ ≠ gb356) (.slice Ao58 x336000_4.length co58) x336000_4) := ⟨h1_⟩
                                      have n2_ : Aside0 (Kd.V k33 33 w62 w.heap.size (fun k_ => k_ ≠ gb335 ∧ k_ ≠ gb347 ∧ k_ ≠ gb356) (.slice Ao39 t342.length co39) t342) := ⟨h2_⟩
                                      have n3_ : Aside0 (w62.heap[gb335]? = some (.cells #[.slice Ao58 x336000_4.length co58] 26 (0, 0))) := ⟨h3_⟩
                                      have n4_ : Aside0 (w62.heap[gb347]? = some (.cells #[.slice Ao39 t342.length co39] 26 (0, 0))) := ⟨h4_⟩
                                      have n5_ : Aside0 (w62.heap[gb356]? = some (.cells #[.slice none 0 0] 26 (0, 0))) := ⟨h5_⟩
                                      have n6_ : Aside0 (w.heap.size ≤ gb356) := ⟨h6_⟩
                                      have n7_ : Aside0 (w.heap.size ≤ gb356) := ⟨h7_⟩
                                      have n8_ : Aside0 (gb335 ≠ gb356) := ⟨h8_⟩
                                      have n9_ : Aside0 (gb356 ≠ gb335) := ⟨h9_⟩
                                      have n10_ : Aside0 (gb347 ≠ gb356) := ⟨h10_⟩
                                      have n11_ : Aside0 (gb356 ≠ gb347) := ⟨h11_⟩
                                      have n12_ : Aside0 (Below w.heap.size w w62) := ⟨h12_⟩
                                      clear HO_336000
                                      clear HO_348000
                                      clear BK335
                                      clear BK347
                                      clear HB
                                      clear h0_ h1_ h2_ h3_ h4_ h5_ h6_ h7_ h8_ h9_ h10_ h11_ h12_
                                      have HO354 := n0_
                                      have HO_336000 := n1_
                                      have HO_348000 := n2_
                                      have BK335 := n3_
                                      have BK347 := n4_
                                      have BK356 := n5_
                                      have GW356 := n6_
                                      have GE356 := n7_
                                      have NB335_356 := n8_
                                      have NB356_335 := n9_
                                      have NB347_356 := n10_
                                      have NB356_347 := n11_
                                      have HB := n12_
                                      clear n0_ n1_ n2_ n3_ n4_ n5_ n6_ n7_ n8_ n9_ n10_ n11_ n12_
                                      have hHeld : w62.cell? ⟨gb335, 0, none⟩ = some (.slice Ao58 x336000_4.length co58) ∧ w62.cell? (ad351.add ((x17_4).toNat * 3)) = some (.int .i64 ((rd_T28 l3 x17_4).f0)) ∧ w62.cell? ⟨(ad351.add ((x17_4).toNat * 3)).block, (ad351.add ((x17_4).toNat * 3)).off + 1, none⟩ = some (.int .i64 ((rd_T28 l3 x17_4).f1)) ∧ w62.cell? ⟨(ad351.add ((x17_4).toNat * 3)).block, (ad351.add ((x17_4).toNat * 3)).off + 2, none⟩ = some (.int .i64 ((rd_T28 l3 x17_4).f2)) := hS_
                                      obtain ⟨Ao63, co63, eo63⟩ := Kd.V_slice HO354.out
                                      (first | subst eo63 | (injection eo63 with f1_ f2_ f3_; have f4_ := f1_.symm; have f5_ := f3_.symm; clear f1_ f2_ f3_; subst f4_; subst f5_))
                                      refine norm_ (a' := ?_) ?_ ?_
                                      rotate_left
                                      · simp only [putAll, Act.put, List.setIfInBounds_toArray, List.set_cons_zero, List.set_cons_succ]
                                        rfl
                                      refine one_ (i := 12) (N := none) #[true, true, true, true, true, true, true, true, true, true, true, true, true, false] rfl rfl (one_of HT_.out (by kernel_rfl)) (by decide) (fun K hK => ?_)
                                      have hs64 : w62.cell? ⟨gb356, 0, none⟩ = some (.slice none 0 0) := (blk_cell BK356.out 0).trans rfl
                                      have hfs64 := blk_frozen BK356.out 0
                                      have hns64_0 := NB335_356.out
                                      have hns64_1 := NB347_356.out
                                      have hms64_0 := NB356_335.out
                                      have hms64_1 := NB356_347.out
                                      refine skip_ (w1 := ?_) (by rfl) rfl ?_ ?_
                                      rotate_left
                                      · go_simp
                                        rfl
                                      refine hK.out _ _ ⟨((cell_far (p := ⟨gb356, _, none⟩) NB335_356.out _).trans (hHeld.1)), ((cell_far (p := ⟨gb356, _, none⟩) (by first | exact Nat.ne_of_lt (Nat.lt_of_lt_of_le (by have := World.block_lt_of_cell? _ _ hw351_0; first | rwa [add_block] at this | exact this) GW356.out) | (rw [add_block]; exact Nat.ne_of_lt (Nat.lt_of_lt_of_le (by have := World.block_lt_of_cell? _ _ hw351_0; first | rwa [add_block] at this | exact this) GW356.out)) | (show (Addr.add _ _).block ≠ _; rw [add_block]; exact Nat.ne_of_lt (Nat.lt_of_lt_of_le (by have := World.block_lt_of_cell? _ _ hw351_0; first | rwa [add_block] at this | exact this) GW356.out)) | (dsimp only; exact Nat.ne_of_lt (Nat.lt_of_lt_of_le (by have := World.block_lt_of_cell? _ _ hw351_0; first | rwa [add_block] at this | exact this) GW356.out))) _).trans (hHeld.2.1)), ((cell_far (p := ⟨gb356, _, none⟩) (by first | exact Nat.ne_of_lt (Nat.lt_of_lt_of_le (by have := World.block_lt_of_cell? _ _ hw351_1; first | rwa [add_block] at this | exact this) GW356.out) | (rw [add_block]; exact Nat.ne_of_lt (Nat.lt_of_lt_of_le (by have := World.block_lt_of_cell? _ _ hw351_1; first | rwa [add_block] at this | exact this) GW356.out)) | (show (Addr.add _ _).block ≠ _; rw [add_block]; exact Nat.ne_of_lt (Nat.lt_of_lt_of_le (by have := World.block_lt_of_cell? _ _ hw351_1; first | rwa [add_block] at this | exact this) GW356.out)) | (dsimp only; exact Nat.ne_of_lt (Nat.lt_of_lt_of_le (by have := World.block_lt_of_cell? _ _ hw351_1; first | rwa [add_block] at this | exact this) GW356.out))) _).trans (hHeld.2.2.1)), ((cell_far (p := ⟨gb356, _, none⟩) (by first | exact Nat.ne_of_lt (Nat.lt_of_lt_of_le (by have := World.block_lt_of_cell? _ _ hw351_2; first | rwa [add_block] at this | exact this) GW356.out) | (rw [add_block]; exact Nat.ne_of_lt (Nat.lt_of_lt_of_le (by have := World.block_lt_of_cell? _ _ hw351_2; first | rwa [add_block] at this | exact this) GW356.out)) | (show (Addr.add _ _).block ≠ _; rw [add_block]; exact Nat.ne_of_lt (Nat.lt_of_lt_of_le (by have := World.block_lt_of_cell? _ _ hw351_2; first | rwa [add_block] at this | exact this) GW356.out)) | (dsimp only; exact Nat.ne_of_lt (Nat.lt_of_lt_of_le (by have := World.block_lt_of_cell? _ _ hw351_2; first | rwa [add_block] at this | exact this) GW356.out))) _).trans (hHeld.2.2.2))⟩ (fun hHeld => ?_)
                                      clear hK K
                                      refine pure_ (i := 13) (N := some 19) (v := ?_) (a' := ?_) #[true, true, true, true, true, true, true, true, true, true, true, true, true, true] rfl rfl (any_of HT_.out (by kernel_rfl)) (fun _ _ _ h => h) (Or.inl ⟨by rfl, ?_⟩) ?_ ?_
                                      rotate_left
                                      · intro w'
                                        go_simp
                                        with_reducible rfl
                                      rotate_left
                                      · simp only [Act.put, List.setIfInBounds_toArray, List.set_cons_zero, List.set_cons_succ, i64_w, i32_w]
                                        rfl
                                      refine done_ (done_of HT_.out (by kernel_rfl)) ?_
                                      go_upto_region 21 with (fail)
                                      go_cut [131] (fun v131 wc => ∃ (kq : Nat) (x131_56 : Bool), v131 = .bool x131_56 ∧ Aside0 (godwitlaw12_TokensFence.j5 kq a1 a2 l3 t334 x17_4 x131_56 t352 = some r) ∧ Aside0 (kq ≤ kj47) ∧ Aside0 (Kd.V k33 33 wc w.heap.size (fun k_ => k_ ≠ gb335 ∧ k_ ≠ gb347 ∧ k_ ≠ gb356) (.slice Ao58 x336000_4.length co58) x336000_4) ∧ Aside0 (Kd.V k33 33 wc w.heap.size (fun k_ => k_ ≠ gb335 ∧ k_ ≠ gb347 ∧ k_ ≠ gb356) (.slice Ao39 t342.length co39) t342) ∧ Aside0 (Kd.V k33 33 wc w.heap.size (fun k_ => k_ ≠ gb335 ∧ k_ ≠ gb347 ∧ k_ ≠ gb356) (.slice Ao63 t352.length co63) t352) ∧ Aside0 (wc.heap[gb335]? = some (.cells #[(.slice Ao58 x336000_4.length co58)] 26 (0, 0))) ∧ Aside0 (wc.heap[gb347]? = some (.cells #[(.slice Ao39 t342.length co39)] 26 (0, 0))) ∧ Aside0 (wc.heap[gb356]? = some (.cells #[(.slice Ao63 t352.length co63)] 26 (0, 0))) ∧ Aside0 (Below w.heap.size w wc))
                                      case first =>
                                        have H := HC57.out
                                        clear HC57
                                        by_cases c65 : ((rd_T28 l3 x17_4).f1) = a1
                                        · rw [if_pos c65] at H
                                          have c65b0 : (((rd_T28 l3 x17_4).f1) == a1) = true := beq_iff_eq.mpr c65
                                          have c65b1 : (((rd_T28 l3 x17_4).f1) != a1) = false := bne_eq_false_iff_eq.mpr c65
                                          clear c65
                                          (first | rw [c65b0] | (simp only [i64_w, i32_w]; rw [c65b0]) | skip)
                                          by_cases c66 : ((rd_T28 l3 x17_4).f0) ≤ 3
                                          · rw [if_pos c66] at H
                                            have c66b0 : decide (((rd_T28 l3 x17_4).f0) ≤ 3) = true := decide_eq_true c66
                                            clear c66
                                            have H' := Aside0.mk H
                                            clear H
                                            have p357 : 0 ≤ (x17_4 : Int) := of_decide_eq_true (by first | (with_reducible assumption) | assumption)
                                            have q357 : x17_4 < (l3.length : Int) := of_decide_eq_true (by first | (with_reducible assumption) | assumption)
                                            obtain ⟨ad357, e357, hx357_0, hx357_1, hx357_2⟩ := at_T28 HR3.out x17_4 p357 q357
                                            obtain rfl : ad351 = ad357 := (by injection e357)
                                            have hn357_0 : ad351.block ≠ gb356 := Nat.ne_of_lt (Nat.lt_of_lt_of_le (by have := World.block_lt_of_cell? _ _ hx357_0; first | rwa [add_block] at this | exact this) GW356.out)
                                            replace hx357_0 := (HB.out.cell (World.block_lt_of_cell? w _ hx357_0)).trans hx357_0
                                            replace hx357_1 := (HB.out.cell (World.block_lt_of_cell? w _ hx357_1)).trans hx357_1
                                            replace hx357_2 := (HB.out.cell (World.block_lt_of_cell? w _ hx357_2)).trans hx357_2
                                            replace hx357_0 := (cell_far (p := ⟨gb356, 0, none⟩) (by first | (rw [add_block]; exact hn357_0) | (show (Addr.add _ _).block ≠ _; rw [add_block]; exact hn357_0) | exact hn357_0) (.slice Ao63 t352.length co63)).trans hx357_0
                                            replace hx357_1 := (cell_far (p := ⟨gb356, 0, none⟩) (by first | (rw [add_block]; exact hn357_0) | (show (Addr.add _ _).block ≠ _; rw [add_block]; exact hn357_0) | exact hn357_0) (.slice Ao63 t352.length co63)).trans hx357_1
                                            replace hx357_2 := (cell_far (p := ⟨gb356, 0, none⟩) (by first | (rw [add_block]; exact hn357_0) | (show (Addr.add _ _).block ≠ _; rw [add_block]; exact hn357_0) | exact hn357_0) (.slice Ao63 t352.length co63)).trans hx357_2
                                            clear hn357_0
                                            replace p357 := eq_true p357
                                            replace q357 := eq_true q357
                                            have p358 : 0 ≤ (x17_4 : Int) := of_decide_eq_true (by first | (with_reducible assumption) | assumption)
                                            have q358 : x17_4 < (l3.length : Int) := of_decide_eq_true (by first | (with_reducible assumption) | assumption)
                                            obtain ⟨ad358, e358, hx358_0, hx358_1, hx358_2⟩ := at_T28 HR3.out x17_4 p358 q358
                                            obtain rfl : ad351 = ad358 := (by injection e358)
                                            have hn358_0 : ad351.block ≠ gb356 := Nat.ne_of_lt (Nat.lt_of_lt_of_le (by have := World.block_lt_of_cell? _ _ hx358_0; first | rwa [add_block] at this | exact this) GW356.out)
                                            replace hx358_0 := (HB.out.cell (World.block_lt_of_cell? w _ hx358_0)).trans hx358_0
                                            replace hx358_1 := (HB.out.cell (World.block_lt_of_cell? w _ hx358_1)).trans hx358_1
                                            replace hx358_2 := (HB.out.cell (World.block_lt_of_cell? w _ hx358_2)).trans hx358_2
                                            replace hx358_0 := (cell_far (p := ⟨gb356, 0, none⟩) (by first | (rw [add_block]; exact hn358_0) | (show (Addr.add _ _).block ≠ _; rw [add_block]; exact hn358_0) | exact hn358_0) (.slice Ao63 t352.length co63)).trans hx358_0
                                            replace hx358_1 := (cell_far (p := ⟨gb356, 0, none⟩) (by first | (rw [add_block]; exact hn358_0) | (show (Addr.add _ _).block ≠ _; rw [add_block]; exact hn358_0) | exact hn358_0) (.slice Ao63 t352.length co63)).trans hx358_1
                                            replace hx358_2 := (cell_far (p := ⟨gb356, 0, none⟩) (by first | (rw [add_block]; exact hn358_0) | (show (Addr.add _ _).block ≠ _; rw [add_block]; exact hn358_0) | exact hn358_0) (.slice Ao63 t352.length co63)).trans hx358_2
                                            clear hn358_0
                                            replace p358 := eq_true p358
                                            replace q358 := eq_true q358
                                            have p359 : 0 ≤ (x17_4 : Int) := of_decide_eq_true (by first | (with_reducible assumption) | assumption)
                                            have q359 : x17_4 < (l3.length : Int) := of_decide_eq_true (by first | (with_reducible assumption) | assumption)
                                            obtain ⟨ad359, e359, hx359_0, hx359_1, hx359_2⟩ := at_T28 HR3.out x17_4 p359 q359
                                            obtain rfl : ad351 = ad359 := (by injection e359)
                                            have hn359_0 : ad351.block ≠ gb356 := Nat.ne_of_lt (Nat.lt_of_lt_of_le (by have := World.block_lt_of_cell? _ _ hx359_0; first | rwa [add_block] at this | exact this) GW356.out)
                                            replace hx359_0 := (HB.out.cell (World.block_lt_of_cell? w _ hx359_0)).trans hx359_0
                                            replace hx359_1 := (HB.out.cell (World.block_lt_of_cell? w _ hx359_1)).trans hx359_1
                                            replace hx359_2 := (HB.out.cell (World.block_lt_of_cell? w _ hx359_2)).trans hx359_2
                                            replace hx359_0 := (cell_far (p := ⟨gb356, 0, none⟩) (by first | (rw [add_block]; exact hn359_0) | (show (Addr.add _ _).block ≠ _; rw [add_block]; exact hn359_0) | exact hn359_0) (.slice Ao63 t352.length co63)).trans hx359_0
                                            replace hx359_1 := (cell_far (p := ⟨gb356, 0, none⟩) (by first | (rw [add_block]; exact hn359_0) | (show (Addr.add _ _).block ≠ _; rw [add_block]; exact hn359_0) | exact hn359_0) (.slice Ao63 t352.length co63)).trans hx359_1
                                            replace hx359_2 := (cell_far (p := ⟨gb356, 0, none⟩) (by first | (rw [add_block]; exact hn359_0) | (show (Addr.add _ _).block ≠ _; rw [add_block]; exact hn359_0) | exact hn359_0) (.slice Ao63 t352.length co63)).trans hx359_2
                                            clear hn359_0
                                            replace p359 := eq_true p359
                                            replace q359 := eq_true q359
                                            go_wp2
                                            go_meet
                                            case rel => exact ⟨_, (decide (((rd_T28 l3 x17_4).f2) ≤ a2)), (by first | rfl | (simp; done) | (simp [*]; done)), H', ⟨by have := HJ5.out; have := HK2.out; have := HJ33.out; have := HK4.out; have := HJ47.out; first | omega | exact Nat.le_refl _⟩, ⟨by (with_reducible repeat (first | apply Kd.V_alloc | apply Kd.V_drewN | apply Kd.V_drew)); exact Kd.V_mono (Kd.V_far (p := ⟨gb356, 0, none⟩) (Kd.V_mono HO_336000.out (fun k_ hk => (⟨hk, hk.2.2⟩ : _ ∧ k_ ≠ gb356))) (fun _ hk => hk.2) (.slice Ao63 t352.length co63)) (fun _ hk => ⟨hk.1.1, ⟨hk.1.2.1, hk.1.2.2⟩⟩)⟩, ⟨by (with_reducible repeat (first | apply Kd.V_alloc | apply Kd.V_drewN | apply Kd.V_drew)); exact Kd.V_mono (Kd.V_far (p := ⟨gb356, 0, none⟩) (Kd.V_mono HO_348000.out (fun k_ hk => (⟨hk, hk.2.2⟩ : _ ∧ k_ ≠ gb356))) (fun _ hk => hk.2) (.slice Ao63 t352.length co63)) (fun _ hk => ⟨hk.1.1, ⟨hk.1.2.1, hk.1.2.2⟩⟩)⟩, ⟨by (with_reducible repeat (first | apply Kd.V_alloc | apply Kd.V_drewN | apply Kd.V_drew)); exact Kd.V_mono (Kd.V_far (p := ⟨gb356, 0, none⟩) (Kd.V_mono HO354.out (fun k_ hk => (⟨hk, hk.2.2⟩ : _ ∧ k_ ≠ gb356))) (fun _ hk => hk.2) (.slice Ao63 t352.length co63)) (fun _ hk => ⟨hk.1.1, ⟨hk.1.2.1, hk.1.2.2⟩⟩)⟩, ⟨by (with_reducible repeat (first | refine blk_drewN ?_ _ | refine blk_drew ?_ | refine blk_alloc ?_ _)); refine blk_far ?_ NB335_356.out _; (with_reducible repeat (first | refine blk_drewN ?_ _ | refine blk_drew ?_ | refine blk_alloc ?_ _)); exact BK335.out⟩, ⟨by (with_reducible repeat (first | refine blk_drewN ?_ _ | refine blk_drew ?_ | refine blk_alloc ?_ _)); refine blk_far ?_ NB347_356.out _; (with_reducible repeat (first | refine blk_drewN ?_ _ | refine blk_drew ?_ | refine blk_alloc ?_ _)); exact BK347.out⟩, ⟨by (with_reducible repeat (first | refine blk_drewN ?_ _ | refine blk_drew ?_ | refine blk_alloc ?_ _)); refine blk_put (cs := #[.slice none 0 0]) ?_ 0 _ rfl; (with_reducible repeat (first | refine blk_drewN ?_ _ | refine blk_drew ?_ | refine blk_alloc ?_ _)); exact BK356.out⟩, ⟨by repeat (first | (with_reducible first | exact HB.out | apply below_alloc | apply pw_below_drewN | apply below_drew1 | refine below_set ?_ GE335.out | refine below_set ?_ GE347.out | refine below_set ?_ GE356.out) | exact HB.out)⟩⟩
                                          · rw [if_neg c66] at H
                                            have c66b0 : decide (((rd_T28 l3 x17_4).f0) ≤ 3) = false := decide_eq_false c66
                                            clear c66
                                            have H' := Aside0.mk H
                                            clear H
                                            have p357 : 0 ≤ (x17_4 : Int) := of_decide_eq_true (by first | (with_reducible assumption) | assumption)
                                            have q357 : x17_4 < (l3.length : Int) := of_decide_eq_true (by first | (with_reducible assumption) | assumption)
                                            obtain ⟨ad357, e357, hx357_0, hx357_1, hx357_2⟩ := at_T28 HR3.out x17_4 p357 q357
                                            obtain rfl : ad351 = ad357 := (by injection e357)
                                            have hn357_0 : ad351.block ≠ gb356 := Nat.ne_of_lt (Nat.lt_of_lt_of_le (by have := World.block_lt_of_cell? _ _ hx357_0; first | rwa [add_block] at this | exact this) GW356.out)
                                            replace hx357_0 := (HB.out.cell (World.block_lt_of_cell? w _ hx357_0)).trans hx357_0
                                            replace hx357_1 := (HB.out.cell (World.block_lt_of_cell? w _ hx357_1)).trans hx357_1
                                            replace hx357_2 := (HB.out.cell (World.block_lt_of_cell? w _ hx357_2)).trans hx357_2
                                            replace hx357_0 := (cell_far (p := ⟨gb356, 0, none⟩) (by first | (rw [add_block]; exact hn357_0) | (show (Addr.add _ _).block ≠ _; rw [add_block]; exact hn357_0) | exact hn357_0) (.slice Ao63 t352.length co63)).trans hx357_0
                                            replace hx357_1 := (cell_far (p := ⟨gb356, 0, none⟩) (by first | (rw [add_block]; exact hn357_0) | (show (Addr.add _ _).block ≠ _; rw [add_block]; exact hn357_0) | exact hn357_0) (.slice Ao63 t352.length co63)).trans hx357_1
                                            replace hx357_2 := (cell_far (p := ⟨gb356, 0, none⟩) (by first | (rw [add_block]; exact hn357_0) | (show (Addr.add _ _).block ≠ _; rw [add_block]; exact hn357_0) | exact hn357_0) (.slice Ao63 t352.length co63)).trans hx357_2
                                            clear hn357_0
                                            replace p357 := eq_true p357
                                            replace q357 := eq_true q357
                                            have p358 : 0 ≤ (x17_4 : Int) := of_decide_eq_true (by first | (with_reducible assumption) | assumption)
                                            have q358 : x17_4 < (l3.length : Int) := of_decide_eq_true (by first | (with_reducible assumption) | assumption)
                                            obtain ⟨ad358, e358, hx358_0, hx358_1, hx358_2⟩ := at_T28 HR3.out x17_4 p358 q358
                                            obtain rfl : ad351 = ad358 := (by injection e358)
                                            have hn358_0 : ad351.block ≠ gb356 := Nat.ne_of_lt (Nat.lt_of_lt_of_le (by have := World.block_lt_of_cell? _ _ hx358_0; first | rwa [add_block] at this | exact this) GW356.out)
                                            replace hx358_0 := (HB.out.cell (World.block_lt_of_cell? w _ hx358_0)).trans hx358_0
                                            replace hx358_1 := (HB.out.cell (World.block_lt_of_cell? w _ hx358_1)).trans hx358_1
                                            replace hx358_2 := (HB.out.cell (World.block_lt_of_cell? w _ hx358_2)).trans hx358_2
                                            replace hx358_0 := (cell_far (p := ⟨gb356, 0, none⟩) (by first | (rw [add_block]; exact hn358_0) | (show (Addr.add _ _).block ≠ _; rw [add_block]; exact hn358_0) | exact hn358_0) (.slice Ao63 t352.length co63)).trans hx358_0
                                            replace hx358_1 := (cell_far (p := ⟨gb356, 0, none⟩) (by first | (rw [add_block]; exact hn358_0) | (show (Addr.add _ _).block ≠ _; rw [add_block]; exact hn358_0) | exact hn358_0) (.slice Ao63 t352.length co63)).trans hx358_1
                                            replace hx358_2 := (cell_far (p := ⟨gb356, 0, none⟩) (by first | (rw [add_block]; exact hn358_0) | (show (Addr.add _ _).block ≠ _; rw [add_block]; exact hn358_0) | exact hn358_0) (.slice Ao63 t352.length co63)).trans hx358_2
                                            clear hn358_0
                                            replace p358 := eq_true p358
                                            replace q358 := eq_true q358
                                            go_wp2
                                            go_meet
                                            case rel => exact ⟨_, (false), (by first | rfl | (simp; done) | (simp [*]; done)), H', ⟨by have := HJ5.out; have := HK2.out; have := HJ33.out; have := HK4.out; have := HJ47.out; first | omega | exact Nat.le_refl _⟩, ⟨by (with_reducible repeat (first | apply Kd.V_alloc | apply Kd.V_drewN | apply Kd.V_drew)); exact Kd.V_mono (Kd.V_far (p := ⟨gb356, 0, none⟩) (Kd.V_mono HO_336000.out (fun k_ hk => (⟨hk, hk.2.2⟩ : _ ∧ k_ ≠ gb356))) (fun _ hk => hk.2) (.slice Ao63 t352.length co63)) (fun _ hk => ⟨hk.1.1, ⟨hk.1.2.1, hk.1.2.2⟩⟩)⟩, ⟨by (with_reducible repeat (first | apply Kd.V_alloc | apply Kd.V_drewN | apply Kd.V_drew)); exact Kd.V_mono (Kd.V_far (p := ⟨gb356, 0, none⟩) (Kd.V_mono HO_348000.out (fun k_ hk => (⟨hk, hk.2.2⟩ : _ ∧ k_ ≠ gb356))) (fun _ hk => hk.2) (.slice Ao63 t352.length co63)) (fun _ hk => ⟨hk.1.1, ⟨hk.1.2.1, hk.1.2.2⟩⟩)⟩, ⟨by (with_reducible repeat (first | apply Kd.V_alloc | apply Kd.V_drewN | apply Kd.V_drew)); exact Kd.V_mono (Kd.V_far (p := ⟨gb356, 0, none⟩) (Kd.V_mono HO354.out (fun k_ hk => (⟨hk, hk.2.2⟩ : _ ∧ k_ ≠ gb356))) (fun _ hk => hk.2) (.slice Ao63 t352.length co63)) (fun _ hk => ⟨hk.1.1, ⟨hk.1.2.1, hk.1.2.2⟩⟩)⟩, ⟨by (with_reducible repeat (first | refine blk_drewN ?_ _ | refine blk_drew ?_ | refine blk_alloc ?_ _)); refine blk_far ?_ NB335_356.out _; (with_reducible repeat (first | refine blk_drewN ?_ _ | refine blk_drew ?_ | refine blk_alloc ?_ _)); exact BK335.out⟩, ⟨by (with_reducible repeat (first | refine blk_drewN ?_ _ | refine blk_drew ?_ | refine blk_alloc ?_ _)); refine blk_far ?_ NB347_356.out _; (with_reducible repeat (first | refine blk_drewN ?_ _ | refine blk_drew ?_ | refine blk_alloc ?_ _)); exact BK347.out⟩, ⟨by (with_reducible repeat (first | refine blk_drewN ?_ _ | refine blk_drew ?_ | refine blk_alloc ?_ _)); refine blk_put (cs := #[.slice none 0 0]) ?_ 0 _ rfl; (with_reducible repeat (first | refine blk_drewN ?_ _ | refine blk_drew ?_ | refine blk_alloc ?_ _)); exact BK356.out⟩, ⟨by repeat (first | (with_reducible first | exact HB.out | apply below_alloc | apply pw_below_drewN | apply below_drew1 | refine below_set ?_ GE335.out | refine below_set ?_ GE347.out | refine below_set ?_ GE356.out) | exact HB.out)⟩⟩
                                        · rw [if_neg c65] at H
                                          have c65b0 : (((rd_T28 l3 x17_4).f1) == a1) = false := beq_eq_false_iff_ne.mpr c65
                                          have c65b1 : (((rd_T28 l3 x17_4).f1) != a1) = true := bne_iff_ne.mpr c65
                                          (first | rw [c65b0] | (simp only [i64_w, i32_w]; rw [c65b0]) | skip)
                                          have H' := Aside0.mk H
                                          clear H
                                          have p357 : 0 ≤ (x17_4 : Int) := of_decide_eq_true (by first | (with_reducible assumption) | assumption)
                                          have q357 : x17_4 < (l3.length : Int) := of_decide_eq_true (by first | (with_reducible assumption) | assumption)
                                          obtain ⟨ad357, e357, hx357_0, hx357_1, hx357_2⟩ := at_T28 HR3.out x17_4 p357 q357
                                          obtain rfl : ad351 = ad357 := (by injection e357)
                                          have hn357_0 : ad351.block ≠ gb356 := Nat.ne_of_lt (Nat.lt_of_lt_of_le (by have := World.block_lt_of_cell? _ _ hx357_0; first | rwa [add_block] at this | exact this) GW356.out)
                                          replace hx357_0 := (HB.out.cell (World.block_lt_of_cell? w _ hx357_0)).trans hx357_0
                                          replace hx357_1 := (HB.out.cell (World.block_lt_of_cell? w _ hx357_1)).trans hx357_1
                                          replace hx357_2 := (HB.out.cell (World.block_lt_of_cell? w _ hx357_2)).trans hx357_2
                                          replace hx357_0 := (cell_far (p := ⟨gb356, 0, none⟩) (by first | (rw [add_block]; exact hn357_0) | (show (Addr.add _ _).block ≠ _; rw [add_block]; exact hn357_0) | exact hn357_0) (.slice Ao63 t352.length co63)).trans hx357_0
                                          replace hx357_1 := (cell_far (p := ⟨gb356, 0, none⟩) (by first | (rw [add_block]; exact hn357_0) | (show (Addr.add _ _).block ≠ _; rw [add_block]; exact hn357_0) | exact hn357_0) (.slice Ao63 t352.length co63)).trans hx357_1
                                          replace hx357_2 := (cell_far (p := ⟨gb356, 0, none⟩) (by first | (rw [add_block]; exact hn357_0) | (show (Addr.add _ _).block ≠ _; rw [add_block]; exact hn357_0) | exact hn357_0) (.slice Ao63 t352.length co63)).trans hx357_2
                                          clear hn357_0
                                          replace p357 := eq_true p357
                                          replace q357 := eq_true q357
                                          go_wp2
                                          go_meet
                                          case rel => exact ⟨_, (false), (by first | rfl | (simp; done) | (simp [*]; done)), H', ⟨by have := HJ5.out; have := HK2.out; have := HJ33.out; have := HK4.out; have := HJ47.out; first | omega | exact Nat.le_refl _⟩, ⟨by (with_reducible repeat (first | apply Kd.V_alloc | apply Kd.V_drewN | apply Kd.V_drew)); exact Kd.V_mono (Kd.V_far (p := ⟨gb356, 0, none⟩) (Kd.V_mono HO_336000.out (fun k_ hk => (⟨hk, hk.2.2⟩ : _ ∧ k_ ≠ gb356))) (fun _ hk => hk.2) (.slice Ao63 t352.length co63)) (fun _ hk => ⟨hk.1.1, ⟨hk.1.2.1, hk.1.2.2⟩⟩)⟩, ⟨by (with_reducible repeat (first | apply Kd.V_alloc | apply Kd.V_drewN | apply Kd.V_drew)); exact Kd.V_mono (Kd.V_far (p := ⟨gb356, 0, none⟩) (Kd.V_mono HO_348000.out (fun k_ hk => (⟨hk, hk.2.2⟩ : _ ∧ k_ ≠ gb356))) (fun _ hk => hk.2) (.slice Ao63 t352.length co63)) (fun _ hk => ⟨hk.1.1, ⟨hk.1.2.1, hk.1.2.2⟩⟩)⟩, ⟨by (with_reducible repeat (first | apply Kd.V_alloc | apply Kd.V_drewN | apply Kd.V_drew)); exact Kd.V_mono (Kd.V_far (p := ⟨gb356, 0, none⟩) (Kd.V_mono HO354.out (fun k_ hk => (⟨hk, hk.2.2⟩ : _ ∧ k_ ≠ gb356))) (fun _ hk => hk.2) (.slice Ao63 t352.length co63)) (fun _ hk => ⟨hk.1.1, ⟨hk.1.2.1, hk.1.2.2⟩⟩)⟩, ⟨by (with_reducible repeat (first | refine blk_drewN ?_ _ | refine blk_drew ?_ | refine blk_alloc ?_ _)); refine blk_far ?_ NB335_356.out _; (with_reducible repeat (first | refine blk_drewN ?_ _ | refine blk_drew ?_ | refine blk_alloc ?_ _)); exact BK335.out⟩, ⟨by (with_reducible repeat (first | refine blk_drewN ?_ _ | refine blk_drew ?_ | refine blk_alloc ?_ _)); refine blk_far ?_ NB347_356.out _; (with_reducible repeat (first | refine blk_drewN ?_ _ | refine blk_drew ?_ | refine blk_alloc ?_ _)); exact BK347.out⟩, ⟨by (with_reducible repeat (first | refine blk_drewN ?_ _ | refine blk_drew ?_ | refine blk_alloc ?_ _)); refine blk_put (cs := #[.slice none 0 0]) ?_ 0 _ rfl; (with_reducible repeat (first | refine blk_drewN ?_ _ | refine blk_drew ?_ | refine blk_alloc ?_ _)); exact BK356.out⟩, ⟨by repeat (first | (with_reducible first | exact HB.out | apply below_alloc | apply pw_below_drewN | apply below_drew1 | refine below_set ?_ GE335.out | refine below_set ?_ GE347.out | refine below_set ?_ GE356.out) | exact HB.out)⟩⟩
                                      case rest =>
                                        clear HC57
                                        try clear c1
                                        try clear c2
                                        try clear p2
                                        try clear p3
                                        try clear q3
                                        try clear hx3
                                        try clear c4
                                        try clear c5
                                        try clear c6
                                        try clear p6
                                        try clear c8
                                        try clear c15
                                        try clear c15b0
                                        try clear c15b1
                                        try clear c23
                                        try clear p33
                                        try clear q33
                                        try clear hx33
                                        try clear p34
                                        try clear q34
                                        try clear hx34
                                        try clear p35
                                        try clear q35
                                        try clear hx35
                                        try clear c40
                                        try clear c42
                                        try clear c42b0
                                        try clear c42b1
                                        try clear c43
                                        try clear c44
                                        try clear c47
                                        try clear c47b0
                                        try clear c49
                                        try clear c49b0
                                        try clear c50
                                        try clear c50b0
                                        try clear c50b1
                                        try clear c51
                                        try clear c51b0
                                        try clear c52
                                        try clear c53
                                        try clear c53b0
                                        try clear c54
                                        try clear c54b0
                                        try clear c56
                                        try clear c56b0
                                        try clear c56b1
                                        try clear p64
                                        try clear c65
                                        try clear c65b0
                                        try clear c65b1
                                        try clear c66
                                        try clear c66b0
                                        try clear hcz24_0
                                        try clear hcz25_0
                                        try clear hcz35_0
                                        try clear hcz41_0
                                        try clear hcz45_0
                                        try clear hcz46_0
                                        try clear hfz24_0
                                        try clear hfz25_0
                                        try clear hfz35_0
                                        try clear hfz41_0
                                        try clear hfz45_0
                                        try clear hfz46_0
                                        try clear hx336_0
                                        try clear hx336_1
                                        try clear hx336_2
                                        try clear hx348_0
                                        try clear hx348_1
                                        try clear hx348_2
                                        try clear hx349_0
                                        try clear hx349_1
                                        try clear hx349_2
                                        try clear hx350_0
                                        try clear hx350_1
                                        try clear hx350_2
                                        try clear hx351_0
                                        try clear hx351_1
                                        try clear hx351_2
                                        try clear hx357_0
                                        try clear hx357_1
                                        try clear hx357_2
                                        try clear hx358_0
                                        try clear hx358_1
                                        try clear hx358_2
                                        try clear hx359_0
                                        try clear hx359_1
                                        try clear hx359_2
                                        try clear p2
                                        try clear p3
                                        try clear p33
                                        try clear p336
                                        try clear p34
                                        try clear p348
                                        try clear p349
                                        try clear p35
                                        try clear p350
                                        try clear p351
                                        try clear p357
                                        try clear p358
                                        try clear p359
                                        try clear p6
                                        try clear q3
                                        try clear q33
                                        try clear q336
                                        try clear q34
                                        try clear q348
                                        try clear q349
                                        try clear q35
                                        try clear q350
                                        try clear q351
                                        try clear q357
                                        try clear q358
                                        try clear q359
                                        obtain ⟨kq, x131_56, rfl, HA, HJ56, HO_336000, HO_348000, HO_357000, BK335, BK347, BK356, HB⟩ := hcut
                                        cases kq with
                                        | zero => exact absurd HA.out (by simp [godwitlaw12_TokensFence.j5])
                                        | succ kj56 =>
                                          have H := HA.out
                                          clear HA
                                          simp only [godwitlaw12_TokensFence.j5] at H
                                          by_cases c67 : x131_56 = true
                                          · subst c67
                                            have H1 : (none) = some r := by rw [if_pos rfl] at H; exact H
                                            clear H
                                            have H := H1
                                            clear H1
                                            exact absurd H (by simp)
                                          · replace c67 := Bool.eq_false_iff.mpr c67
                                            subst c67
                                            have H1 : (godwitlaw12_TokensFence.l1 kj56 a1 a2 l3 t334 (wrap64 (x17_4 + 1)) t352) = some r := by rw [if_neg (show ¬ (false = true) by decide)] at H; exact H
                                            clear H
                                            have H := H1
                                            clear H1
                                            have H' := Aside0.mk H
                                            clear H
                                            have hnb68 := NB356_335.out
                                            have hnc68 := NB335_356.out
                                            have hnb69 := NB356_347.out
                                            have hnc69 := NB347_356.out
                                            have hcz70_0 : wc.cell? ⟨gb356, 0, none⟩ = some (.slice Ao63 t352.length co63) := (blk_cell BK356.out 0).trans rfl
                                            have hfz70_0 := blk_frozen BK356.out 0
                                            have hnb71 := NB335_347.out
                                            have hnc71 := NB347_335.out
                                            have hcz72_0 : wc.cell? ⟨gb335, 0, none⟩ = some (.slice Ao58 x336000_4.length co58) := (blk_cell BK335.out 0).trans rfl
                                            have hfz72_0 := blk_frozen BK335.out 0
                                            go_wp2
                                            go_roundg kj56
                                            case measure => have := HJ5.out; have := HK2.out; have := HJ33.out; have := HK4.out; have := HJ47.out; have := HJ56.out; omega
                                            case rel => exact ⟨(wrap64 (x17_4 + 1)), (t352), (.slice Ao63 t352.length co63), (by first | rfl | (simp; done) | (simp [*]; done)), H', ⟨by have := HJ5.out; have := HK2.out; have := HJ33.out; have := HK4.out; have := HJ47.out; have := HJ56.out; omega⟩, ⟨by (with_reducible repeat (first | apply Kd.V_alloc | apply Kd.V_drewN | apply Kd.V_drew)); exact Kd.V_mono (Kd.V_far (p := ⟨gb335, 0, none⟩) (Kd.V_mono HO_357000.out (fun k_ hk => (⟨hk, hk.1⟩ : _ ∧ k_ ≠ gb335))) (fun _ hk => hk.2) (.slice Ao63 t352.length co63)) (fun _ hk => ⟨hk.1.1, hk.1.2.1⟩)⟩, ⟨by (with_reducible repeat (first | apply Kd.V_alloc | apply Kd.V_drewN | apply Kd.V_drew)); exact Kd.V_mono (Kd.V_far (p := ⟨gb335, 0, none⟩) (Kd.V_mono HO_348000.out (fun k_ hk => (⟨hk, hk.1⟩ : _ ∧ k_ ≠ gb335))) (fun _ hk => hk.2) (.slice Ao63 t352.length co63)) (fun _ hk => ⟨hk.1.1, hk.1.2.1⟩)⟩, ⟨by (with_reducible repeat (first | refine blk_drewN ?_ _ | refine blk_drew ?_ | refine blk_alloc ?_ _)); refine blk_put (cs := #[.slice Ao58 x336000_4.length co58]) ?_ 0 _ rfl; (with_reducible repeat (first | refine blk_drewN ?_ _ | refine blk_drew ?_ | refine blk_alloc ?_ _)); exact BK335.out⟩, ⟨by (with_reducible repeat (first | refine blk_drewN ?_ _ | refine blk_drew ?_ | refine blk_alloc ?_ _)); refine blk_far ?_ NB347_335.out _; (with_reducible repeat (first | refine blk_drewN ?_ _ | refine blk_drew ?_ | refine blk_alloc ?_ _)); exact BK347.out⟩, ⟨by repeat (first | (with_reducible first | exact HB.out | apply below_alloc | apply pw_below_drewN | apply below_drew1 | refine below_set ?_ GE335.out | refine below_set ?_ GE347.out | refine below_set ?_ GE356.out) | exact HB.out)⟩⟩
                                    · rw [if_neg c56] at H
                                      have c56b0 : (t355 == 0) = false := beq_eq_false_iff_ne.mpr c56
                                      have c56b1 : (t355 != 0) = true := bne_iff_ne.mpr c56
                                      have H' := Aside0.mk H
                                      clear H
                                      obtain ⟨Ao73, co73, eo73⟩ := Kd.V_slice HO_336000.out
                                      subst eo73
                                      try go_wp2
                                      have n0_ := Aside0.mk (Kd.V_drew HO_336000.out)
                                      have n1_ := Aside0.mk (Kd.V_drew HO_348000.out)
                                      have n2_ := Aside0.mk (blk_drew BK335.out)
                                      have n3_ := Aside0.mk (blk_drew BK347.out)
                                      have n4_ := Aside0.mk (below_drew1 HB.out)
                                      clear HO_336000
                                      clear HO_348000
                                      clear BK335
                                      clear BK347
                                      clear HB
                                      have HO_336000 := n0_
                                      have HO_348000 := n1_
                                      have BK335 := n2_
                                      have BK347 := n3_
                                      have HB := n4_
                                      clear n0_ n1_ n2_ n3_ n4_
                                      have p351 : 0 ≤ (x17_4 : Int) := of_decide_eq_true (by first | (with_reducible assumption) | assumption)
                                      have q351 : x17_4 < (l3.length : Int) := of_decide_eq_true (by first | (with_reducible assumption) | assumption)
                                      obtain ⟨ad351, e351, hx351_0, hx351_1, hx351_2⟩ := at_T28 HR3.out x17_4 p351 q351
                                      have hw351_2 := hx351_2
                                      have hw351_1 := hx351_1
                                      have hw351_0 := hx351_0
                                      cases e351
                                      replace hx351_0 := (HB.out.cell (World.block_lt_of_cell? w _ hx351_0)).trans hx351_0
                                      replace hx351_1 := (HB.out.cell (World.block_lt_of_cell? w _ hx351_1)).trans hx351_1
                                      replace hx351_2 := (HB.out.cell (World.block_lt_of_cell? w _ hx351_2)).trans hx351_2
                                      replace p351 := eq_true p351
                                      replace q351 := eq_true q351
                                      refine start_ (n := 14) (S := fun w' => w'.cell? ⟨gb335, 0, none⟩ = some (.slice Ao73 x336000_4.length co73) ∧ w'.cell? (ad351.add ((x17_4).toNat * 3)) = some (.int .i64 ((rd_T28 l3 x17_4).f0)) ∧ w'.cell? ⟨(ad351.add ((x17_4).toNat * 3)).block, (ad351.add ((x17_4).toNat * 3)).off + 1, none⟩ = some (.int .i64 ((rd_T28 l3 x17_4).f1)) ∧ w'.cell? ⟨(ad351.add ((x17_4).toNat * 3)).block, (ad351.add ((x17_4).toNat * 3)).off + 2, none⟩ = some (.int .i64 ((rd_T28 l3 x17_4).f2))) (ds := []) #[false, false, false, false, false, false, false, false, false, false, false, false, false, false] (by kernel_rfl) rfl rfl ⟨(blk_cell BK335.out 0).trans rfl, ((HB.out.cell (World.block_lt_of_cell? w _ hw351_0)).trans hw351_0), ((HB.out.cell (World.block_lt_of_cell? w _ hw351_1)).trans hw351_1), ((HB.out.cell (World.block_lt_of_cell? w _ hw351_2)).trans hw351_2)⟩ (fun hHeld => ?_); refine with_tabW godwitlaw12_TokensFence.tab19 godwitlaw12_TokensFence.bits19 (fun HT_ HW_ => ?_)
                                      generalize wc.drew = w74 at HO_336000 HO_348000 BK335 BK347 HB hx351_0 hx351_1 hx351_2 hHeld ⊢
                                      refine pure_ (i := 1) (N := some 97) (v := ?_) (a' := ?_) #[false, true, false, false, false, false, false, false, false, false, false, false, false, false] rfl rfl (any_of HT_.out (by kernel_rfl)) (fun _ _ _ h => h) (Or.inl ⟨by rfl, ?_⟩) ?_ ?_
                                      rotate_left
                                      · intro w'
                                        go_simp
                                        with_reducible rfl
                                      rotate_left
                                      · simp only [Act.put, List.setIfInBounds_toArray, List.set_cons_zero, List.set_cons_succ, i64_w, i32_w]
                                        rfl
                                      refine pure_ (i := 2) (N := some 98) (v := ?_) (a' := ?_) #[false, true, true, false, false, false, false, false, false, false, false, false, false, false] rfl rfl (any_of HT_.out (by kernel_rfl)) (fun _ _ _ h => h) (Or.inl ⟨by rfl, ?_⟩) ?_ ?_
                                      rotate_left
                                      · intro w'
                                        go_simp
                                        with_reducible rfl
                                      rotate_left
                                      · simp only [Act.put, List.setIfInBounds_toArray, List.set_cons_zero, List.set_cons_succ, i64_w, i32_w]
                                        rfl
                                      refine pure_ (i := 3) (N := some 99) (v := ?_) (a' := ?_) #[false, true, true, true, false, false, false, false, false, false, false, false, false, false] rfl rfl (any_of HT_.out (by kernel_rfl)) (fun _ _ _ h => h) (Or.inl ⟨by rfl, ?_⟩) ?_ ?_
                                      rotate_left
                                      · intro w'
                                        go_simp
                                        with_reducible rfl
                                      rotate_left
                                      · simp only [Act.put, List.setIfInBounds_toArray, List.set_cons_zero, List.set_cons_succ, i64_w, i32_w]
                                        rfl
                                      refine pure_ (i := 5) (N := some 101) (v := ?_) (a' := ?_) #[false, true, true, true, false, true, false, false, false, false, false, false, false, false] rfl rfl (any_of HT_.out (by kernel_rfl)) (fun _ _ _ h => h) (Or.inl ⟨by rfl, ?_⟩) ?_ ?_
                                      rotate_left
                                      · intro w'
                                        go_simp
                                        with_reducible rfl
                                      rotate_left
                                      · simp only [Act.put, List.setIfInBounds_toArray, List.set_cons_zero, List.set_cons_succ, i64_w, i32_w]
                                        rfl
                                      refine pure_ (i := 6) (N := some 102) (v := ?_) (a' := ?_) #[false, true, true, true, false, true, true, false, false, false, false, false, false, false] rfl rfl (any_of HT_.out (by kernel_rfl)) (fun _ _ _ h => h) (Or.inl ⟨by rfl, ?_⟩) ?_ ?_
                                      rotate_left
                                      · intro w'
                                        go_simp
                                        with_reducible rfl
                                      rotate_left
                                      · simp only [Act.put, List.setIfInBounds_toArray, List.set_cons_zero, List.set_cons_succ, i64_w, i32_w]
                                        rfl
                                      refine take_ (i := 0) (N := some 96) (v := ?_) (a' := ?_) #[true, true, true, true, false, true, true, false, false, false, false, false, false, false] rfl rfl (take_ofW HT_.out HW_.out (by kernel_rfl)) (fun _ _ _ h => h) (Or.inl ⟨by rfl, ?_⟩) hHeld ?_ ?_
                                      rotate_left
                                      · rintro w' ⟨s0, s1, s2, s3⟩
                                        go_simp
                                        with_reducible rfl
                                      rotate_left
                                      · simp only [Act.put, List.setIfInBounds_toArray, List.set_cons_zero, List.set_cons_succ, i64_w, i32_w]
                                        rfl
                                      refine take_ (i := 4) (N := some 100) (v := ?_) (a' := ?_) #[true, true, true, true, true, true, true, false, false, false, false, false, false, false] rfl rfl (take_ofW HT_.out HW_.out (by kernel_rfl)) (fun _ _ _ h => h) (Or.inl ⟨by rfl, ?_⟩) hHeld ?_ ?_
                                      rotate_left
                                      · rintro w' ⟨s0, s1, s2, s3⟩
                                        go_simp
                                        with_reducible rfl
                                      rotate_left
                                      · simp only [Act.put, List.setIfInBounds_toArray, List.set_cons_zero, List.set_cons_succ, i64_w, i32_w]
                                        rfl
                                      refine join_ (σ := Value × Nat) 2 #[true, true, true, true, true, true, true, true, true, true, true, true, false, false] (fun s_ => [(103, .tuple #[.agg #[s_.1], .int .i64 t355]), (18, .pointer (some ⟨s_.2, 0, none⟩)), (95, .tuple #[.agg #[s_.1], .int .i64 t355]), (104, .agg #[s_.1]), (105, .int .i64 t355)]) (fun s_ w' => (w'.cell? ⟨gb335, 0, none⟩ = some (.slice Ao73 x336000_4.length co73) ∧ w'.cell? (ad351.add ((x17_4).toNat * 3)) = some (.int .i64 ((rd_T28 l3 x17_4).f0)) ∧ w'.cell? ⟨(ad351.add ((x17_4).toNat * 3)).block, (ad351.add ((x17_4).toNat * 3)).off + 1, none⟩ = some (.int .i64 ((rd_T28 l3 x17_4).f1)) ∧ w'.cell? ⟨(ad351.add ((x17_4).toNat * 3)).block, (ad351.add ((x17_4).toNat * 3)).off + 2, none⟩ = some (.int .i64 ((rd_T28 l3 x17_4).f2))) ∧ (Kd.V k33 33 w' w.heap.size (fun k_ => k_ ≠ gb335 ∧ k_ ≠ gb347 ∧ k_ ≠ s_.2) s_.1 t352) ∧ (Kd.V k33 33 w' w.heap.size (fun k_ => k_ ≠ gb335 ∧ k_ ≠ gb347 ∧ k_ ≠ s_.2) (.slice Ao73 x336000_4.length co73) x336000_4) ∧ (Kd.V k33 33 w' w.heap.size (fun k_ => k_ ≠ gb335 ∧ k_ ≠ gb347 ∧ k_ ≠ s_.2) (.slice Ao39 t342.length co39) t342) ∧ (w'.heap[gb335]? = some (.cells #[.slice Ao73 x336000_4.length co73] 26 (0, 0))) ∧ (w'.heap[gb347]? = some (.cells #[.slice Ao39 t342.length co39] 26 (0, 0))) ∧ (w'.heap[s_.2]? = some (.cells #[.slice none 0 0] 26 (0, 0))) ∧ (w.heap.size ≤ s_.2) ∧ (w.heap.size ≤ s_.2) ∧ (gb335 ≠ s_.2) ∧ (s_.2 ≠ gb335) ∧ (gb347 ≠ s_.2) ∧ (s_.2 ≠ gb347) ∧ (Below w.heap.size w w')) ?_ ?_
                                      rotate_left
                                      · intro hCont
                                        refine two_ (i := 7) (j := 11) (Ni := some 103) (Nj := some 18) #[true, true, true, true, true, true, true, true, false, false, false, false, false, false] #[true, true, true, true, true, true, true, false, false, false, false, true, false, false] rfl rfl rfl rfl (two_of HT_.out (by kernel_rfl)) (by decide) (by decide) (fun K hK => ?_) (fun K hK => ?_)
                                        · skip
                                          refine goes_ Try.func8 (by kernel_rfl) rfl #[.agg #[.slice Ao73 x336000_4.length co73], .agg #[.int .i64 ((rd_T28 l3 x17_4).f0), .int .i64 ((rd_T28 l3 x17_4).f1), .int .i64 ((rd_T28 l3 x17_4).f2)], .int .i64 (wrap64 (100 + x17_4))] (by rfl) rfl rfl (by (try simp only [List.map_toArray, List.map_cons, List.map_nil]); first | done | rfl | (simp only [List.length_drop, List.length_take]; rfl)) ?_
                                          with_reducible refine (godwitlaw12_did.calls kj47 (fun k_ => (k_ ≠ gb335 ∧ k_ ≠ gb347)) _ _ x336000_4 ((rd_T28 l3 x17_4).f0) ((rd_T28 l3 x17_4).f1) ((rd_T28 l3 x17_4).f2) (wrap64 (100 + x17_4)) t352 t355 _ ?side1 A55.out).mono ?_
                                          (case side1 => exact HO_336000.out)
                                          rintro e w75 ⟨v353, rfl, ho0, hb⟩
                                          refine ⟨_, rfl, ?_⟩
                                          have n0_ := Aside0.mk (Kd.V_below (by (with_reducible repeat (first | apply Kd.V_alloc | apply Kd.V_drewN | apply Kd.V_drew)); exact HO_336000.out) hb)
                                          have n1_ := Aside0.mk (Kd.V_below (by (with_reducible repeat (first | apply Kd.V_alloc | apply Kd.V_drewN | apply Kd.V_drew)); exact HO_348000.out) hb)
                                          have n2_ := Aside0.mk (Kd.V_lower (Kd.V_mono (ok' := fun k_ => k_ ≠ gb335 ∧ k_ ≠ gb347) ho0 (fun k_ hk_ => ⟨Or.elim hk_ (fun hs_ => hs_.1) (fun hn_ => (Kd.freshB (g := gb335) (o := .cells #[.slice Ao73 x336000_4.length co73] 26 (0, 0)) (by (with_reducible repeat (first | refine blk_drewN ?_ _ | refine blk_drew ?_ | refine blk_alloc ?_ _)); exact BK335.out) k_ hn_)), Or.elim hk_ (fun hs_ => hs_.2) (fun hn_ => (Kd.freshB (g := gb347) (o := .cells #[.slice Ao39 t342.length co39] 26 (0, 0)) (by (with_reducible repeat (first | refine blk_drewN ?_ _ | refine blk_drew ?_ | refine blk_alloc ?_ _)); exact BK347.out) k_ hn_))⟩)) (below_size (by repeat (first | (with_reducible first | exact HB.out | apply below_alloc | apply pw_below_drewN | apply below_drew1 | refine below_set ?_ GE335.out | refine below_set ?_ GE347.out) | exact HB.out))))
                                          have n3_ := Aside0.mk (blk_below (g := gb335) (o := .cells #[.slice Ao73 x336000_4.length co73] 26 (0, 0)) (by (with_reducible repeat (first | refine blk_drewN ?_ _ | refine blk_drew ?_ | refine blk_alloc ?_ _)); exact BK335.out) hb)
                                          have n4_ := Aside0.mk (blk_below (g := gb347) (o := .cells #[.slice Ao39 t342.length co39] 26 (0, 0)) (by (with_reducible repeat (first | refine blk_drewN ?_ _ | refine blk_drew ?_ | refine blk_alloc ?_ _)); exact BK347.out) hb)
                                          have n5_ := Aside0.mk (below_step (by repeat (first | (with_reducible first | exact HB.out | apply below_alloc | apply pw_below_drewN | apply below_drew1 | refine below_set ?_ GE335.out | refine below_set ?_ GE347.out) | exact HB.out)) hb)
                                          clear HO_336000
                                          clear HO_348000
                                          clear BK335
                                          clear BK347
                                          clear HB
                                          have HO_336000 := n0_
                                          have HO_348000 := n1_
                                          have HO354 := n2_
                                          have BK335 := n3_
                                          have BK347 := n4_
                                          have HB := n5_
                                          clear n0_ n1_ n2_ n3_ n4_ n5_
                                          (try clear hb)
                                          (try clear hb2)
                                          (try clear hk)
                                          (try clear hi)
                                          (try clear ho0)
                                          refine hK.out _ _ ⟨(blk_cell BK335.out 0).trans rfl, ((HB.out.cell (World.block_lt_of_cell? w _ hw351_0)).trans hw351_0), ((HB.out.cell (World.block_lt_of_cell? w _ hw351_1)).trans hw351_1), ((HB.out.cell (World.block_lt_of_cell? w _ hw351_2)).trans hw351_2)⟩ (fun hHeld => ?_)
                                          clear hK K
                                          refine norm_ (a' := ?_) ?_ ?_
                                          rotate_left
                                          · show Act.put _ (some 103) _ = _
                                            simp only [Act.put, List.setIfInBounds_toArray, List.set_cons_zero, List.set_cons_succ, i64_w, i32_w]
                                            rfl
                                          refine pure_ (i := 8) (N := some 95) (v := ?_) (a' := ?_) #[true, true, true, true, true, true, true, true, true, false, false, false, false, false] rfl rfl (any_of HT_.out (by kernel_rfl)) (fun _ _ _ h => h) (Or.inl ⟨by rfl, ?_⟩) ?_ ?_
                                          rotate_left
                                          · intro w'
                                            go_simp
                                            with_reducible rfl
                                          rotate_left
                                          · simp only [Act.put, List.setIfInBounds_toArray, List.set_cons_zero, List.set_cons_succ, i64_w, i32_w]
                                            rfl
                                          refine pure_ (i := 9) (N := some 104) (v := ?_) (a' := ?_) #[true, true, true, true, true, true, true, true, true, true, false, false, false, false] rfl rfl (any_of HT_.out (by kernel_rfl)) (fun _ _ _ h => h) (Or.inl ⟨by rfl, ?_⟩) ?_ ?_
                                          rotate_left
                                          · intro w'
                                            go_simp
                                            with_reducible rfl
                                          rotate_left
                                          · simp only [Act.put, List.setIfInBounds_toArray, List.set_cons_zero, List.set_cons_succ, i64_w, i32_w]
                                            rfl
                                          refine pure_ (i := 10) (N := some 105) (v := ?_) (a' := ?_) #[true, true, true, true, true, true, true, true, true, true, true, false, false, false] rfl rfl (any_of HT_.out (by kernel_rfl)) (fun _ _ _ h => h) (Or.inl ⟨by rfl, ?_⟩) ?_ ?_
                                          rotate_left
                                          · intro w'
                                            go_simp
                                            with_reducible rfl
                                          rotate_left
                                          · simp only [Act.put, List.setIfInBounds_toArray, List.set_cons_zero, List.set_cons_succ, i64_w, i32_w]
                                            rfl
                                          refine one_ (i := 11) (N := some 18) #[true, true, true, true, true, true, true, true, true, true, true, true, false, false] rfl rfl (one_of HT_.out (by kernel_rfl)) (by decide) (fun K hK => ?_)
                                          refine box_step ?hg (N := 18) ?hd (cs := #[.slice none 0 0]) (t := 26) ?hr ?_; (case hd => rfl); (case hg => rfl); (case hr => first | (go_simp; done) | (go_simp; rfl))
                                          intro gb356 hg w76 hbox hb
                                          have n0_ := Aside0.mk (Kd.V_below (Kd.V_elderB (by (with_reducible repeat (first | apply Kd.V_alloc | apply Kd.V_drewN | apply Kd.V_drew)); exact HO_336000.out) gb356 (Nat.le_of_eq hg.symm)) hb)
                                          have n1_ := Aside0.mk (Kd.V_below (Kd.V_elderB (by (with_reducible repeat (first | apply Kd.V_alloc | apply Kd.V_drewN | apply Kd.V_drew)); exact HO_348000.out) gb356 (Nat.le_of_eq hg.symm)) hb)
                                          have n2_ := Aside0.mk (Kd.V_below (Kd.V_elderB (by (with_reducible repeat (first | apply Kd.V_alloc | apply Kd.V_drewN | apply Kd.V_drew)); exact HO354.out) gb356 (Nat.le_of_eq hg.symm)) hb)
                                          have n3_ := Aside0.mk (blk_below (g := gb335) (o := .cells #[.slice Ao73 x336000_4.length co73] 26 (0, 0)) (by (with_reducible repeat (first | refine blk_drewN ?_ _ | refine blk_drew ?_ | refine blk_alloc ?_ _)); exact BK335.out) hb)
                                          have n4_ := Aside0.mk (blk_below (g := gb347) (o := .cells #[.slice Ao39 t342.length co39] 26 (0, 0)) (by (with_reducible repeat (first | refine blk_drewN ?_ _ | refine blk_drew ?_ | refine blk_alloc ?_ _)); exact BK347.out) hb)
                                          have n5_ := Aside0.mk (below_step (by repeat (first | (with_reducible first | exact HB.out | apply below_alloc | apply pw_below_drewN | apply below_drew1 | refine below_set ?_ GE335.out | refine below_set ?_ GE347.out) | exact HB.out)) hb)
                                          have n6_ := Aside0.mk (hbox)
                                          have n7_ := Aside0.mk ((by rw [hg]; exact (below_size (by repeat (first | (with_reducible first | exact HB.out | apply below_alloc | apply pw_below_drewN | apply below_drew1 | refine below_set ?_ GE335.out | refine below_set ?_ GE347.out) | exact HB.out))) : w.heap.size ≤ gb356))
                                          have n8_ := Aside0.mk ((by rw [hg]; exact (below_size (by repeat (first | (with_reducible first | exact HB.out | apply below_alloc | apply pw_below_drewN | apply below_drew1 | refine below_set ?_ GE335.out | refine below_set ?_ GE347.out) | exact HB.out))) : w.heap.size ≤ gb356))
                                          have n9_ := Aside0.mk ((by rw [hg]; exact Nat.ne_of_lt (blk_lt (g := gb335) (o := .cells #[.slice Ao73 x336000_4.length co73] 26 (0, 0)) (by (with_reducible repeat (first | refine blk_drewN ?_ _ | refine blk_drew ?_ | refine blk_alloc ?_ _)); exact BK335.out)) : gb335 ≠ gb356))
                                          have n10_ := Aside0.mk ((by rw [hg]; exact Nat.ne_of_gt (blk_lt (g := gb335) (o := .cells #[.slice Ao73 x336000_4.length co73] 26 (0, 0)) (by (with_reducible repeat (first | refine blk_drewN ?_ _ | refine blk_drew ?_ | refine blk_alloc ?_ _)); exact BK335.out)) : gb356 ≠ gb335))
                                          have n11_ := Aside0.mk ((by rw [hg]; exact Nat.ne_of_lt (blk_lt (g := gb347) (o := .cells #[.slice Ao39 t342.length co39] 26 (0, 0)) (by (with_reducible repeat (first | refine blk_drewN ?_ _ | refine blk_drew ?_ | refine blk_alloc ?_ _)); exact BK347.out)) : gb347 ≠ gb356))
                                          have n12_ := Aside0.mk ((by rw [hg]; exact Nat.ne_of_gt (blk_lt (g := gb347) (o := .cells #[.slice Ao39 t342.length co39] 26 (0, 0)) (by (with_reducible repeat (first | refine blk_drewN ?_ _ | refine blk_drew ?_ | refine blk_alloc ?_ _)); exact BK347.out)) : gb356 ≠ gb347))
                                          clear HO_336000
                                          clear HO_348000
                                          clear HO354
                                          clear BK335
                                          clear BK347
                                          clear HB
                                          have HO_336000 := n0_
                                          have HO_348000 := n1_
                                          have HO354 := n2_
                                          have BK335 := n3_
                                          have BK347 := n4_
                                          have HB := n5_
                                          have BK356 := n6_
                                          have GW356 := n7_
                                          have GE356 := n8_
                                          have NB335_356 := n9_
                                          have NB356_335 := n10_
                                          have NB347_356 := n11_
                                          have NB356_347 := n12_
                                          clear n0_ n1_ n2_ n3_ n4_ n5_ n6_ n7_ n8_ n9_ n10_ n11_ n12_
                                          clear hb hbox hg
                                          refine hK.out _ _ ⟨(blk_cell BK335.out 0).trans rfl, ((HB.out.cell (World.block_lt_of_cell? w _ hw351_0)).trans hw351_0), ((HB.out.cell (World.block_lt_of_cell? w _ hw351_1)).trans hw351_1), ((HB.out.cell (World.block_lt_of_cell? w _ hw351_2)).trans hw351_2)⟩ (fun hHeld => ?_)
                                          clear hK K
                                          refine norm_ (a' := ?_) ?_ ?_
                                          rotate_left
                                          · show Act.put _ (some 18) _ = _
                                            simp only [Act.put, List.setIfInBounds_toArray, List.set_cons_zero, List.set_cons_succ, i64_w, i32_w]
                                            rfl
                                          exact norm_ (by simp only [putAll, Act.put, List.setIfInBounds_toArray, List.set_cons_zero, List.set_cons_succ]) (hCont (v353, gb356) _ ⟨hHeld, (by (with_reducible repeat (first | apply Kd.V_alloc | apply Kd.V_drewN | apply Kd.V_drew)); exact Kd.V_mono HO354.out (fun _ hk => ⟨hk.1.1, ⟨hk.1.2, hk.2⟩⟩)), (by (with_reducible repeat (first | apply Kd.V_alloc | apply Kd.V_drewN | apply Kd.V_drew)); exact Kd.V_mono HO_336000.out (fun _ hk => ⟨hk.1.1, ⟨hk.1.2, hk.2⟩⟩)), (by (with_reducible repeat (first | apply Kd.V_alloc | apply Kd.V_drewN | apply Kd.V_drew)); exact Kd.V_mono HO_348000.out (fun _ hk => ⟨hk.1.1, ⟨hk.1.2, hk.2⟩⟩)), (by (with_reducible repeat (first | refine blk_drewN ?_ _ | refine blk_drew ?_ | refine blk_alloc ?_ _)); exact BK335.out), (by (with_reducible repeat (first | refine blk_drewN ?_ _ | refine blk_drew ?_ | refine blk_alloc ?_ _)); exact BK347.out), (by (with_reducible repeat (first | refine blk_drewN ?_ _ | refine blk_drew ?_ | refine blk_alloc ?_ _)); exact BK356.out), GW356.out, GE356.out, NB335_356.out, NB356_335.out, NB347_356.out, NB356_347.out, (by repeat (first | (with_reducible first | exact HB.out | apply below_alloc | apply pw_below_drewN | apply below_drew1 | refine below_set ?_ GE335.out | refine below_set ?_ GE347.out | refine below_set ?_ GE356.out) | exact HB.out))⟩)
                                        · skip
                                          refine box_step ?hg (N := 18) ?hd (cs := #[.slice none 0 0]) (t := 26) ?hr ?_; (case hd => rfl); (case hg => rfl); (case hr => first | (go_simp; done) | (go_simp; rfl))
                                          intro gb356 hg w75 hbox hb
                                          have n0_ := Aside0.mk (Kd.V_below (Kd.V_elderB (by (with_reducible repeat (first | apply Kd.V_alloc | apply Kd.V_drewN | apply Kd.V_drew)); exact HO_336000.out) gb356 (Nat.le_of_eq hg.symm)) hb)
                                          have n1_ := Aside0.mk (Kd.V_below (Kd.V_elderB (by (with_reducible repeat (first | apply Kd.V_alloc | apply Kd.V_drewN | apply Kd.V_drew)); exact HO_348000.out) gb356 (Nat.le_of_eq hg.symm)) hb)
                                          have n2_ := Aside0.mk (blk_below (g := gb335) (o := .cells #[.slice Ao73 x336000_4.length co73] 26 (0, 0)) (by (with_reducible repeat (first | refine blk_drewN ?_ _ | refine blk_drew ?_ | refine blk_alloc ?_ _)); exact BK335.out) hb)
                                          have n3_ := Aside0.mk (blk_below (g := gb347) (o := .cells #[.slice Ao39 t342.length co39] 26 (0, 0)) (by (with_reducible repeat (first | refine blk_drewN ?_ _ | refine blk_drew ?_ | refine blk_alloc ?_ _)); exact BK347.out) hb)
                                          have n4_ := Aside0.mk (below_step (by repeat (first | (with_reducible first | exact HB.out | apply below_alloc | apply pw_below_drewN | apply below_drew1 | refine below_set ?_ GE335.out | refine below_set ?_ GE347.out) | exact HB.out)) hb)
                                          have n5_ := Aside0.mk (hbox)
                                          have n6_ := Aside0.mk ((by rw [hg]; exact (below_size (by repeat (first | (with_reducible first | exact HB.out | apply below_alloc | apply pw_below_drewN | apply below_drew1 | refine below_set ?_ GE335.out | refine below_set ?_ GE347.out) | exact HB.out))) : w.heap.size ≤ gb356))
                                          have n7_ := Aside0.mk ((by rw [hg]; exact (below_size (by repeat (first | (with_reducible first | exact HB.out | apply below_alloc | apply pw_below_drewN | apply below_drew1 | refine below_set ?_ GE335.out | refine below_set ?_ GE347.out) | exact HB.out))) : w.heap.size ≤ gb356))
                                          have n8_ := Aside0.mk ((by rw [hg]; exact Nat.ne_of_lt (blk_lt (g := gb335) (o := .cells #[.slice Ao73 x336000_4.length co73] 26 (0, 0)) (by (with_reducible repeat (first | refine blk_drewN ?_ _ | refine blk_drew ?_ | refine blk_alloc ?_ _)); exact BK335.out)) : gb335 ≠ gb356))
                                          have n9_ := Aside0.mk ((by rw [hg]; exact Nat.ne_of_gt (blk_lt (g := gb335) (o := .cells #[.slice Ao73 x336000_4.length co73] 26 (0, 0)) (by (with_reducible repeat (first | refine blk_drewN ?_ _ | refine blk_drew ?_ | refine blk_alloc ?_ _)); exact BK335.out)) : gb356 ≠ gb335))
                                          have n10_ := Aside0.mk ((by rw [hg]; exact Nat.ne_of_lt (blk_lt (g := gb347) (o := .cells #[.slice Ao39 t342.length co39] 26 (0, 0)) (by (with_reducible repeat (first | refine blk_drewN ?_ _ | refine blk_drew ?_ | refine blk_alloc ?_ _)); exact BK347.out)) : gb347 ≠ gb356))
                                          have n11_ := Aside0.mk ((by rw [hg]; exact Nat.ne_of_gt (blk_lt (g := gb347) (o := .cells #[.slice Ao39 t342.length co39] 26 (0, 0)) (by (with_reducible repeat (first | refine blk_drewN ?_ _ | refine blk_drew ?_ | refine blk_alloc ?_ _)); exact BK347.out)) : gb356 ≠ gb347))
                                          clear HO_336000
                                          clear HO_348000
                                          clear BK335
                                          clear BK347
                                          clear HB
                                          have HO_336000 := n0_
                                          have HO_348000 := n1_
                                          have BK335 := n2_
                                          have BK347 := n3_
                                          have HB := n4_
                                          have BK356 := n5_
                                          have GW356 := n6_
                                          have GE356 := n7_
                                          have NB335_356 := n8_
                                          have NB356_335 := n9_
                                          have NB347_356 := n10_
                                          have NB356_347 := n11_
                                          clear n0_ n1_ n2_ n3_ n4_ n5_ n6_ n7_ n8_ n9_ n10_ n11_
                                          clear hb hbox hg
                                          refine hK.out _ _ ⟨(blk_cell BK335.out 0).trans rfl, ((HB.out.cell (World.block_lt_of_cell? w _ hw351_0)).trans hw351_0), ((HB.out.cell (World.block_lt_of_cell? w _ hw351_1)).trans hw351_1), ((HB.out.cell (World.block_lt_of_cell? w _ hw351_2)).trans hw351_2)⟩ (fun hHeld => ?_)
                                          clear hK K
                                          refine norm_ (a' := ?_) ?_ ?_
                                          rotate_left
                                          · show Act.put _ (some 18) _ = _
                                            simp only [Act.put, List.setIfInBounds_toArray, List.set_cons_zero, List.set_cons_succ, i64_w, i32_w]
                                            rfl
                                          refine one_ (i := 7) (N := some 103) #[true, true, true, true, true, true, true, true, false, false, false, true, false, false] rfl rfl (one_of HT_.out (by kernel_rfl)) (by decide) (fun K hK => ?_)
                                          refine goes_ Try.func8 (by kernel_rfl) rfl #[.agg #[.slice Ao73 x336000_4.length co73], .agg #[.int .i64 ((rd_T28 l3 x17_4).f0), .int .i64 ((rd_T28 l3 x17_4).f1), .int .i64 ((rd_T28 l3 x17_4).f2)], .int .i64 (wrap64 (100 + x17_4))] (by rfl) rfl rfl (by (try simp only [List.map_toArray, List.map_cons, List.map_nil]); first | done | rfl | (simp only [List.length_drop, List.length_take]; rfl)) ?_
                                          with_reducible refine (godwitlaw12_did.calls kj47 (fun k_ => ((k_ ≠ gb335 ∧ k_ ≠ gb347) ∧ k_ ≠ gb356)) _ _ x336000_4 ((rd_T28 l3 x17_4).f0) ((rd_T28 l3 x17_4).f1) ((rd_T28 l3 x17_4).f2) (wrap64 (100 + x17_4)) t352 t355 _ ?side1 A55.out).mono ?_
                                          (case side1 => exact HO_336000.out)
                                          rintro e w76 ⟨v353, rfl, ho0, hb⟩
                                          refine ⟨_, rfl, ?_⟩
                                          have n0_ := Aside0.mk (Kd.V_below (by (with_reducible repeat (first | apply Kd.V_alloc | apply Kd.V_drewN | apply Kd.V_drew)); exact HO_336000.out) hb)
                                          have n1_ := Aside0.mk (Kd.V_below (by (with_reducible repeat (first | apply Kd.V_alloc | apply Kd.V_drewN | apply Kd.V_drew)); exact HO_348000.out) hb)
                                          have n2_ := Aside0.mk (Kd.V_lower (Kd.V_mono (ok' := fun k_ => k_ ≠ gb335 ∧ k_ ≠ gb347 ∧ k_ ≠ gb356) ho0 (fun k_ hk_ => ⟨Or.elim hk_ (fun hs_ => hs_.1.1) (fun hn_ => (Kd.freshB (g := gb335) (o := .cells #[.slice Ao73 x336000_4.length co73] 26 (0, 0)) (by (with_reducible repeat (first | refine blk_drewN ?_ _ | refine blk_drew ?_ | refine blk_alloc ?_ _)); exact BK335.out) k_ hn_)), Or.elim hk_ (fun hs_ => hs_.1.2) (fun hn_ => (Kd.freshB (g := gb347) (o := .cells #[.slice Ao39 t342.length co39] 26 (0, 0)) (by (with_reducible repeat (first | refine blk_drewN ?_ _ | refine blk_drew ?_ | refine blk_alloc ?_ _)); exact BK347.out) k_ hn_)), Or.elim hk_ (fun hs_ => hs_.2) (fun hn_ => (Kd.freshB (g := gb356) (o := .cells #[.slice none 0 0] 26 (0, 0)) (by (with_reducible repeat (first | refine blk_drewN ?_ _ | refine blk_drew ?_ | refine blk_alloc ?_ _)); exact BK356.out) k_ hn_))⟩)) (below_size (by repeat (first | (with_reducible first | exact HB.out | apply below_alloc | apply pw_below_drewN | apply below_drew1 | refine below_set ?_ GE335.out | refine below_set ?_ GE347.out | refine below_set ?_ GE356.out) | exact HB.out))))
                                          have n3_ := Aside0.mk (blk_below (g := gb335) (o := .cells #[.slice Ao73 x336000_4.length co73] 26 (0, 0)) (by (with_reducible repeat (first | refine blk_drewN ?_ _ | refine blk_drew ?_ | refine blk_alloc ?_ _)); exact BK335.out) hb)
                                          have n4_ := Aside0.mk (blk_below (g := gb347) (o := .cells #[.slice Ao39 t342.length co39] 26 (0, 0)) (by (with_reducible repeat (first | refine blk_drewN ?_ _ | refine blk_drew ?_ | refine blk_alloc ?_ _)); exact BK347.out) hb)
                                          have n5_ := Aside0.mk (blk_below (g := gb356) (o := .cells #[.slice none 0 0] 26 (0, 0)) (by (with_reducible repeat (first | refine blk_drewN ?_ _ | refine blk_drew ?_ | refine blk_alloc ?_ _)); exact BK356.out) hb)
                                          have n6_ := Aside0.mk (below_step (by repeat (first | (with_reducible first | exact HB.out | apply below_alloc | apply pw_below_drewN | apply below_drew1 | refine below_set ?_ GE335.out | refine below_set ?_ GE347.out | refine below_set ?_ GE356.out) | exact HB.out)) hb)
                                          clear HO_336000
                                          clear HO_348000
                                          clear BK335
                                          clear BK347
                                          clear BK356
                                          clear HB
                                          have HO_336000 := n0_
                                          have HO_348000 := n1_
                                          have HO354 := n2_
                                          have BK335 := n3_
                                          have BK347 := n4_
                                          have BK356 := n5_
                                          have HB := n6_
                                          clear n0_ n1_ n2_ n3_ n4_ n5_ n6_
                                          (try clear hb)
                                          (try clear hb2)
                                          (try clear hk)
                                          (try clear hi)
                                          (try clear ho0)
                                          refine hK.out _ _ ⟨(blk_cell BK335.out 0).trans rfl, ((HB.out.cell (World.block_lt_of_cell? w _ hw351_0)).trans hw351_0), ((HB.out.cell (World.block_lt_of_cell? w _ hw351_1)).trans hw351_1), ((HB.out.cell (World.block_lt_of_cell? w _ hw351_2)).trans hw351_2)⟩ (fun hHeld => ?_)
                                          clear hK K
                                          refine norm_ (a' := ?_) ?_ ?_
                                          rotate_left
                                          · show Act.put _ (some 103) _ = _
                                            simp only [Act.put, List.setIfInBounds_toArray, List.set_cons_zero, List.set_cons_succ, i64_w, i32_w]
                                            rfl
                                          refine pure_ (i := 8) (N := some 95) (v := ?_) (a' := ?_) #[true, true, true, true, true, true, true, true, true, false, false, true, false, false] rfl rfl (any_of HT_.out (by kernel_rfl)) (fun _ _ _ h => h) (Or.inl ⟨by rfl, ?_⟩) ?_ ?_
                                          rotate_left
                                          · intro w'
                                            go_simp
                                            with_reducible rfl
                                          rotate_left
                                          · simp only [Act.put, List.setIfInBounds_toArray, List.set_cons_zero, List.set_cons_succ, i64_w, i32_w]
                                            rfl
                                          refine pure_ (i := 9) (N := some 104) (v := ?_) (a' := ?_) #[true, true, true, true, true, true, true, true, true, true, false, true, false, false] rfl rfl (any_of HT_.out (by kernel_rfl)) (fun _ _ _ h => h) (Or.inl ⟨by rfl, ?_⟩) ?_ ?_
                                          rotate_left
                                          · intro w'
                                            go_simp
                                            with_reducible rfl
                                          rotate_left
                                          · simp only [Act.put, List.setIfInBounds_toArray, List.set_cons_zero, List.set_cons_succ, i64_w, i32_w]
                                            rfl
                                          refine pure_ (i := 10) (N := some 105) (v := ?_) (a' := ?_) #[true, true, true, true, true, true, true, true, true, true, true, true, false, false] rfl rfl (any_of HT_.out (by kernel_rfl)) (fun _ _ _ h => h) (Or.inl ⟨by rfl, ?_⟩) ?_ ?_
                                          rotate_left
                                          · intro w'
                                            go_simp
                                            with_reducible rfl
                                          rotate_left
                                          · simp only [Act.put, List.setIfInBounds_toArray, List.set_cons_zero, List.set_cons_succ, i64_w, i32_w]
                                            rfl
                                          exact norm_ (by simp only [putAll, Act.put, List.setIfInBounds_toArray, List.set_cons_zero, List.set_cons_succ]) (hCont (v353, gb356) _ ⟨hHeld, (by (with_reducible repeat (first | apply Kd.V_alloc | apply Kd.V_drewN | apply Kd.V_drew)); exact HO354.out), (by (with_reducible repeat (first | apply Kd.V_alloc | apply Kd.V_drewN | apply Kd.V_drew)); exact Kd.V_mono HO_336000.out (fun _ hk => ⟨hk.1.1, ⟨hk.1.2, hk.2⟩⟩)), (by (with_reducible repeat (first | apply Kd.V_alloc | apply Kd.V_drewN | apply Kd.V_drew)); exact Kd.V_mono HO_348000.out (fun _ hk => ⟨hk.1.1, ⟨hk.1.2, hk.2⟩⟩)), (by (with_reducible repeat (first | refine blk_drewN ?_ _ | refine blk_drew ?_ | refine blk_alloc ?_ _)); exact BK335.out), (by (with_reducible repeat (first | refine blk_drewN ?_ _ | refine blk_drew ?_ | refine blk_alloc ?_ _)); exact BK347.out), (by (with_reducible repeat (first | refine blk_drewN ?_ _ | refine blk_drew ?_ | refine blk_alloc ?_ _)); exact BK356.out), GW356.out, GE356.out, NB335_356.out, NB356_335.out, NB347_356.out, NB356_347.out, (by repeat (first | (with_reducible first | exact HB.out | apply below_alloc | apply pw_below_drewN | apply below_drew1 | refine below_set ?_ GE335.out | refine below_set ?_ GE347.out | refine below_set ?_ GE356.out) | exact HB.out))⟩)
                                      rintro ⟨v353, gb356⟩ w77 ⟨hS_, h0_, h1_, h2_, h3_, h4_, h5_, h6_, h7_, h8_, h9_, h10_, h11_, h12_⟩
                                      have n0_ : Aside0 (Kd.V k33 33 w77 w.heap.size (fun k_ => k_ ≠ gb335 ∧ k_ ≠ gb347 ∧ k_ ≠ gb356) v353 t352) := ⟨h0_⟩
                                      have n1_ : Aside0 (Kd.V k33 33 w77 w.heap.size (fun k_ => k_ ≠ gb335 ∧ k_ ≠ gb347 ∧ k_ ≠ gb356) (.slice Ao73 x336000_4.length co73) x336000_4) := ⟨h1_⟩
                                      have n2_ : Aside0 (Kd.V k33 33 w77 w.heap.size (fun k_ => k_ ≠ gb335 ∧ k_ ≠ gb347 ∧ k_ ≠ gb356) (.slice Ao39 t342.length co39) t342) := ⟨h2_⟩
                                      have n3_ : Aside0 (w77.heap[gb335]? = some (.cells #[.slice Ao73 x336000_4.length co73] 26 (0, 0))) := ⟨h3_⟩
                                      have n4_ : Aside0 (w77.heap[gb347]? = some (.cells #[.slice Ao39 t342.length co39] 26 (0, 0))) := ⟨h4_⟩
                                      have n5_ : Aside0 (w77.heap[gb356]? = some (.cells #[.slice none 0 0] 26 (0, 0))) := ⟨h5_⟩
                                      have n6_ : Aside0 (w.heap.size ≤ gb356) := ⟨h6_⟩
                                      have n7_ : Aside0 (w.heap.size ≤ gb356) := ⟨h7_⟩
                                      have n8_ : Aside0 (gb335 ≠ gb356) := ⟨h8_⟩
                                      have n9_ : Aside0 (gb356 ≠ gb335) := ⟨h9_⟩
                                      have n10_ : Aside0 (gb347 ≠ gb356) := ⟨h10_⟩
                                      have n11_ : Aside0 (gb356 ≠ gb347) := ⟨h11_⟩
                                      have n12_ : Aside0 (Below w.heap.size w w77) := ⟨h12_⟩
                                      clear HO_336000
                                      clear HO_348000
                                      clear BK335
                                      clear BK347
                                      clear HB
                                      clear h0_ h1_ h2_ h3_ h4_ h5_ h6_ h7_ h8_ h9_ h10_ h11_ h12_
                                      have HO354 := n0_
                                      have HO_336000 := n1_
                                      have HO_348000 := n2_
                                      have BK335 := n3_
                                      have BK347 := n4_
                                      have BK356 := n5_
                                      have GW356 := n6_
                                      have GE356 := n7_
                                      have NB335_356 := n8_
                                      have NB356_335 := n9_
                                      have NB347_356 := n10_
                                      have NB356_347 := n11_
                                      have HB := n12_
                                      clear n0_ n1_ n2_ n3_ n4_ n5_ n6_ n7_ n8_ n9_ n10_ n11_ n12_
                                      have hHeld : w77.cell? ⟨gb335, 0, none⟩ = some (.slice Ao73 x336000_4.length co73) ∧ w77.cell? (ad351.add ((x17_4).toNat * 3)) = some (.int .i64 ((rd_T28 l3 x17_4).f0)) ∧ w77.cell? ⟨(ad351.add ((x17_4).toNat * 3)).block, (ad351.add ((x17_4).toNat * 3)).off + 1, none⟩ = some (.int .i64 ((rd_T28 l3 x17_4).f1)) ∧ w77.cell? ⟨(ad351.add ((x17_4).toNat * 3)).block, (ad351.add ((x17_4).toNat * 3)).off + 2, none⟩ = some (.int .i64 ((rd_T28 l3 x17_4).f2)) := hS_
                                      obtain ⟨Ao78, co78, eo78⟩ := Kd.V_slice HO354.out
                                      (first | subst eo78 | (injection eo78 with f1_ f2_ f3_; have f4_ := f1_.symm; have f5_ := f3_.symm; clear f1_ f2_ f3_; subst f4_; subst f5_))
                                      refine norm_ (a' := ?_) ?_ ?_
                                      rotate_left
                                      · simp only [putAll, Act.put, List.setIfInBounds_toArray, List.set_cons_zero, List.set_cons_succ]
                                        rfl
                                      refine one_ (i := 12) (N := none) #[true, true, true, true, true, true, true, true, true, true, true, true, true, false] rfl rfl (one_of HT_.out (by kernel_rfl)) (by decide) (fun K hK => ?_)
                                      have hs79 : w77.cell? ⟨gb356, 0, none⟩ = some (.slice none 0 0) := (blk_cell BK356.out 0).trans rfl
                                      have hfs79 := blk_frozen BK356.out 0
                                      have hns79_0 := NB335_356.out
                                      have hns79_1 := NB347_356.out
                                      have hms79_0 := NB356_335.out
                                      have hms79_1 := NB356_347.out
                                      refine skip_ (w1 := ?_) (by rfl) rfl ?_ ?_
                                      rotate_left
                                      · go_simp
                                        rfl
                                      refine hK.out _ _ ⟨((cell_far (p := ⟨gb356, _, none⟩) NB335_356.out _).trans (hHeld.1)), ((cell_far (p := ⟨gb356, _, none⟩) (by first | exact Nat.ne_of_lt (Nat.lt_of_lt_of_le (by have := World.block_lt_of_cell? _ _ hw351_0; first | rwa [add_block] at this | exact this) GW356.out) | (rw [add_block]; exact Nat.ne_of_lt (Nat.lt_of_lt_of_le (by have := World.block_lt_of_cell? _ _ hw351_0; first | rwa [add_block] at this | exact this) GW356.out)) | (show (Addr.add _ _).block ≠ _; rw [add_block]; exact Nat.ne_of_lt (Nat.lt_of_lt_of_le (by have := World.block_lt_of_cell? _ _ hw351_0; first | rwa [add_block] at this | exact this) GW356.out)) | (dsimp only; exact Nat.ne_of_lt (Nat.lt_of_lt_of_le (by have := World.block_lt_of_cell? _ _ hw351_0; first | rwa [add_block] at this | exact this) GW356.out))) _).trans (hHeld.2.1)), ((cell_far (p := ⟨gb356, _, none⟩) (by first | exact Nat.ne_of_lt (Nat.lt_of_lt_of_le (by have := World.block_lt_of_cell? _ _ hw351_1; first | rwa [add_block] at this | exact this) GW356.out) | (rw [add_block]; exact Nat.ne_of_lt (Nat.lt_of_lt_of_le (by have := World.block_lt_of_cell? _ _ hw351_1; first | rwa [add_block] at this | exact this) GW356.out)) | (show (Addr.add _ _).block ≠ _; rw [add_block]; exact Nat.ne_of_lt (Nat.lt_of_lt_of_le (by have := World.block_lt_of_cell? _ _ hw351_1; first | rwa [add_block] at this | exact this) GW356.out)) | (dsimp only; exact Nat.ne_of_lt (Nat.lt_of_lt_of_le (by have := World.block_lt_of_cell? _ _ hw351_1; first | rwa [add_block] at this | exact this) GW356.out))) _).trans (hHeld.2.2.1)), ((cell_far (p := ⟨gb356, _, none⟩) (by first | exact Nat.ne_of_lt (Nat.lt_of_lt_of_le (by have := World.block_lt_of_cell? _ _ hw351_2; first | rwa [add_block] at this | exact this) GW356.out) | (rw [add_block]; exact Nat.ne_of_lt (Nat.lt_of_lt_of_le (by have := World.block_lt_of_cell? _ _ hw351_2; first | rwa [add_block] at this | exact this) GW356.out)) | (show (Addr.add _ _).block ≠ _; rw [add_block]; exact Nat.ne_of_lt (Nat.lt_of_lt_of_le (by have := World.block_lt_of_cell? _ _ hw351_2; first | rwa [add_block] at this | exact this) GW356.out)) | (dsimp only; exact Nat.ne_of_lt (Nat.lt_of_lt_of_le (by have := World.block_lt_of_cell? _ _ hw351_2; first | rwa [add_block] at this | exact this) GW356.out))) _).trans (hHeld.2.2.2))⟩ (fun hHeld => ?_)
                                      clear hK K
                                      refine pure_ (i := 13) (N := some 19) (v := ?_) (a' := ?_) #[true, true, true, true, true, true, true, true, true, true, true, true, true, true] rfl rfl (any_of HT_.out (by kernel_rfl)) (fun _ _ _ h => h) (Or.inl ⟨by rfl, ?_⟩) ?_ ?_
                                      rotate_left
                                      · intro w'
                                        go_simp
                                        with_reducible rfl
                                      rotate_left
                                      · simp only [Act.put, List.setIfInBounds_toArray, List.set_cons_zero, List.set_cons_succ, i64_w, i32_w]
                                        rfl
                                      refine done_ (done_of HT_.out (by kernel_rfl)) ?_
                                      try go_wp2
                                      go_roundg kj47
                                      case measure => have := HJ5.out; have := HK2.out; have := HJ33.out; have := HK4.out; have := HJ47.out; omega
                                      case rel => exact ⟨(wrap64 (x17_4 + 1)), (x336000_4), (.slice Ao73 x336000_4.length co73), (by first | rfl | (simp; done) | (simp [*]; done)), H', ⟨by have := HJ5.out; have := HK2.out; have := HJ33.out; have := HK4.out; have := HJ47.out; omega⟩, ⟨by (with_reducible repeat (first | apply Kd.V_alloc | apply Kd.V_drewN | apply Kd.V_drew)); exact Kd.V_mono (Kd.V_far (p := ⟨gb356, 0, none⟩) (Kd.V_mono HO_336000.out (fun k_ hk => (⟨hk, hk.2.2⟩ : _ ∧ k_ ≠ gb356))) (fun _ hk => hk.2) (.slice Ao78 t352.length co78)) (fun _ hk => ⟨hk.1.1, hk.1.2.1⟩)⟩, ⟨by (with_reducible repeat (first | apply Kd.V_alloc | apply Kd.V_drewN | apply Kd.V_drew)); exact Kd.V_mono (Kd.V_far (p := ⟨gb356, 0, none⟩) (Kd.V_mono HO_348000.out (fun k_ hk => (⟨hk, hk.2.2⟩ : _ ∧ k_ ≠ gb356))) (fun _ hk => hk.2) (.slice Ao78 t352.length co78)) (fun _ hk => ⟨hk.1.1, hk.1.2.1⟩)⟩, ⟨by (with_reducible repeat (first | refine blk_drewN ?_ _ | refine blk_drew ?_ | refine blk_alloc ?_ _)); refine blk_far ?_ NB335_356.out _; (with_reducible repeat (first | refine blk_drewN ?_ _ | refine blk_drew ?_ | refine blk_alloc ?_ _)); exact BK335.out⟩, ⟨by (with_reducible repeat (first | refine blk_drewN ?_ _ | refine blk_drew ?_ | refine blk_alloc ?_ _)); refine blk_far ?_ NB347_356.out _; (with_reducible repeat (first | refine blk_drewN ?_ _ | refine blk_drew ?_ | refine blk_alloc ?_ _)); exact BK347.out⟩, ⟨by repeat (first | (with_reducible first | exact HB.out | apply below_alloc | apply pw_below_drewN | apply below_drew1 | refine below_set ?_ GE335.out | refine below_set ?_ GE347.out | refine below_set ?_ GE356.out) | exact HB.out)⟩⟩
                                  · rw [if_neg c54] at H
                                    exact absurd H (by simp)
                                · rw [if_neg c53] at H
                                  exact absurd H (by simp)
                        · rw [if_neg c47] at H
                          have c47b0 : decide (x17_4 < (l3.length : Int)) = false := decide_eq_false c47
                          clear c47
                          obtain rfl := Option.some.inj H
                          go_wp2
                          go_ret
                          first | (with_reducible exact (clash2 A33 A5).elim) | (with_reducible exact (clash2 A5 A33).elim) | exact ⟨by first | rfl | (simp [errW_none, errW_some] <;> rfl) | (simp [*, errW_none, errW_some] <;> rfl), by repeat (first | (with_reducible first | exact HB.out | apply below_alloc | apply pw_below_drewN | apply below_drew1 | refine below_set ?_ GE335.out | refine below_set ?_ GE347.out) | exact HB.out)⟩

/-- THE ONE PURE STATEMENT of godwitlaw12_TokensFence. -/
def godwitlaw12_TokensFence.Pure : Prop := ∀ (l0 : List (S28)) (a1 : Int) (a2 : Int) (l3 : List (S28)), (l0.length * 24 ≤ 140737488351232 ∧ ∀ y0_ ∈ l0, ((Lit.int .i64 y0_.f0).wf = true) ∧ ((Lit.int .i64 y0_.f1).wf = true) ∧ ((Lit.int .i64 y0_.f2).wf = true)) → ((Lit.int .i64 a1).wf = true) → ((Lit.int .i64 a2).wf = true) → (l3.length * 24 ≤ 140737488351232 ∧ ∀ y0_ ∈ l3, ((Lit.int .i64 y0_.f0).wf = true) ∧ ((Lit.int .i64 y0_.f1).wf = true) ∧ ((Lit.int .i64 y0_.f2).wf = true)) → ∃ k, godwitlaw12_TokensFence.f k l0 a1 a2 l3 = some true

end Go.Proofs.Ytaolmpchenpaeaa.Q
