-- written by a turned copy of the kit's printer (wip/tools/patch_print.py over print.py); contracts of given functions are this session's own
import Derived.Test.YtcinlddejdkjeaaQx0
import Derived.Test.YtcinlddejdkjeaaQx5
import Derived.Test.YtcinlddejdkjeaaQx8
import Derived.Test.YtcinlddejdkjeaaQx9
import Derived.Test.YtcinlddejdkjeaaQx11
import Derived.Test.YtcinlddejdkjeaaQx12
import Derived.Test.YtcinlddejdkjeaaQx14
import Derived.Test.YtcinlddejdkjeaaQx15
import Derived.Test.YtcinlddejdkjeaaQx17
import Derived.Test.YtcinlddejdkjeaaQx23
namespace Go.Proofs.Ytcinlddejdkjeaa.Q
open Go.RowKit Go.Proofs.YtcinlddejdkjeaaW.PrintWords Go.Proofs.YtcinlddejdkjeaaW.PrintLast Go.Proofs.YtcinlddejdkjeaaW.PrintMore Go.Proofs.Ytcinlddejdkjeaa.G
attribute [local go_sem] max2_int min2_int max_two min_two max_three min_three max_four min_four   -- for this text's walks alone
set_option linter.unusedVariables false
set_option linter.unusedSimpArgs false

/-! ### godwitlaw07_ChainVacuum: function 7 -/
mutual
def godwitlaw07_ChainVacuum.l0 : Nat → Int → Bool → List Int → Bool → List Int → Bool → Int → Int → List (S37) → List (S37) → Option (Bool)
  | 0, _, _, _, _, _, _, _, _, _, _ => none
  | k + 1, x1, x7, x11, x12, x13, x14, x15, x16, x475000, x479000 => if x16 < (x479000.length : Int) then (if 0 ≤ x16 then (if ((rd_T37 x479000 x16).f0) ≤ x1 then (godwitlaw07_ChainVacuum.l0 k x1 x7 x11 x12 x13 x14 (wrap64 (x15 + 1)) (wrap64 (x16 + 1)) x475000 x479000) else (godwitlaw07_ChainVacuum.l0 k x1 x7 x11 x12 x13 x14 x15 (wrap64 (x16 + 1)) x475000 x479000)) else (none)) else (if (x479000.length : Int) = 0 then (godwitlaw07_ChainVacuum.j1 k x1 x7 x11 x12 x13 x14 x15 true x475000 x479000) else (if 0 < (x479000.length : Int) then (if ((rd_T37 x479000 0).f0) > x1 then (godwitlaw07_ChainVacuum.j1 k x1 x7 x11 x12 x13 x14 x15 true x475000 x479000) else (godwitlaw07_ChainVacuum.j1 k x1 x7 x11 x12 x13 x14 x15 (!((rd_T37 x479000 0).f2)) x475000 x479000)) else (none)))
def godwitlaw07_ChainVacuum.j1 : Nat → Int → Bool → List Int → Bool → List Int → Bool → Int → Bool → List (S37) → List (S37) → Option (Bool)
  | 0, _, _, _, _, _, _, _, _, _, _ => none
  | k + 1, x1, x7, x11, x12, x13, x14, x15, x17, x475000, x479000 => if x7 = true then ((chain_Sane.f k x479000).bind fun t490 => (if t490 = true then (if (strOfNums x11).toList = (strOfNums x13).toList then (if (x12 == x14) = true then (if x15 ≤ 1 then (if x17 = true then ((chain_Since.f x475000 x1).bind fun t491 => ((godwitlaw07_theirs.f k t491).bind fun t494 => ((chain_Since.f x479000 x1).bind fun t497 => ((godwitlaw07_theirs.f k t497).bind fun t500 => ((godwitref07_Same.f k t494 t500).bind fun t503 => (if t503 = true then (some (decide ((x479000.length : Int) ≤ (x475000.length : Int)))) else (none))))))) else (none)) else (none)) else (none)) else (none)) else (none))) else (none)
end
def godwitlaw07_ChainVacuum.f (k : Nat) (l0 : List (S46)) (a1 : Int) (a2 : Int) : Option (Bool) := (godwitlaw07_awake.f k).bind fun t469 => ((godwitref07_Few.f k l0).bind fun t470 => (if t470 = true then ((godwitlaw07_grown.f k l0).bind fun t471 => ((chain_Vacuum.f k t471 a1).bind fun t475 => ((chain_Value.f k t471 (mx a2 a1)).bind fun bt479 => ((chain_Value.f k t475 (mx a2 a1)).bind fun bt483 => (godwitlaw07_ChainVacuum.l0 k a1 t469 bt479.1 bt479.2 bt483.1 bt483.2 0 0 t471 t475))))) else (some t469)))
theorem godwitlaw07_ChainVacuum.mono_l : ∀ k, (∀ y0 y1 y2 y3 y4 y5 y6 y7 y8 y9, LeO (godwitlaw07_ChainVacuum.l0 k y0 y1 y2 y3 y4 y5 y6 y7 y8 y9) (godwitlaw07_ChainVacuum.l0 (k + 1) y0 y1 y2 y3 y4 y5 y6 y7 y8 y9)) ∧ (∀ y0 y1 y2 y3 y4 y5 y6 y7 y8 y9, LeO (godwitlaw07_ChainVacuum.j1 k y0 y1 y2 y3 y4 y5 y6 y7 y8 y9) (godwitlaw07_ChainVacuum.j1 (k + 1) y0 y1 y2 y3 y4 y5 y6 y7 y8 y9))
  | 0 => ⟨fun _ _ _ _ _ _ _ _ _ _ r h => by simp [godwitlaw07_ChainVacuum.l0] at h, fun _ _ _ _ _ _ _ _ _ _ r h => by simp [godwitlaw07_ChainVacuum.j1] at h⟩
  | k + 1 => by
    obtain ⟨ih0, ih1⟩ := godwitlaw07_ChainVacuum.mono_l k
    refine ⟨?_, ?_⟩
    · intro y0 y1 y2 y3 y4 y5 y6 y7 y8 y9
      unfold godwitlaw07_ChainVacuum.l0
      repeat' first
      | (with_reducible exact ih0 _ _ _ _ _ _ _ _ _ _)
      | (with_reducible exact ih1 _ _ _ _ _ _ _ _ _ _)
      | (with_reducible exact chain_Sane.mono _ _)
      | (with_reducible exact chain_Vacuum.mono _ _ _)
      | (with_reducible exact chain_Value.mono _ _ _)
      | (with_reducible exact godwitlaw07_awake.mono _)
      | (with_reducible exact godwitlaw07_grown.mono _ _)
      | (with_reducible exact godwitlaw07_theirs.mono _ _)
      | (with_reducible exact godwitref07_Few.mono _ _)
      | (with_reducible exact godwitref07_Same.mono _ _ _)
      | (with_reducible exact LeO.refl _)
      | (with_reducible exact LeO.none _)
      | (with_reducible refine LeO.ite ?_ ?_)
      | (with_reducible refine LeO.bind ?_ (fun _ => ?_))
      | exact ih0 _ _ _ _ _ _ _ _ _ _
      | exact ih1 _ _ _ _ _ _ _ _ _ _
      | exact chain_Sane.mono _ _
      | exact chain_Vacuum.mono _ _ _
      | exact chain_Value.mono _ _ _
      | exact godwitlaw07_awake.mono _
      | exact godwitlaw07_grown.mono _ _
      | exact godwitlaw07_theirs.mono _ _
      | exact godwitref07_Few.mono _ _
      | exact godwitref07_Same.mono _ _ _
      | exact LeO.none _
      | refine LeO.ite ?_ ?_
      | refine LeO.bind ?_ (fun _ => ?_)
    · intro y0 y1 y2 y3 y4 y5 y6 y7 y8 y9
      unfold godwitlaw07_ChainVacuum.j1
      repeat' first
      | (with_reducible exact ih0 _ _ _ _ _ _ _ _ _ _)
      | (with_reducible exact ih1 _ _ _ _ _ _ _ _ _ _)
      | (with_reducible exact chain_Sane.mono _ _)
      | (with_reducible exact chain_Vacuum.mono _ _ _)
      | (with_reducible exact chain_Value.mono _ _ _)
      | (with_reducible exact godwitlaw07_awake.mono _)
      | (with_reducible exact godwitlaw07_grown.mono _ _)
      | (with_reducible exact godwitlaw07_theirs.mono _ _)
      | (with_reducible exact godwitref07_Few.mono _ _)
      | (with_reducible exact godwitref07_Same.mono _ _ _)
      | (with_reducible exact LeO.refl _)
      | (with_reducible exact LeO.none _)
      | (with_reducible refine LeO.ite ?_ ?_)
      | (with_reducible refine LeO.bind ?_ (fun _ => ?_))
      | exact ih0 _ _ _ _ _ _ _ _ _ _
      | exact ih1 _ _ _ _ _ _ _ _ _ _
      | exact chain_Sane.mono _ _
      | exact chain_Vacuum.mono _ _ _
      | exact chain_Value.mono _ _ _
      | exact godwitlaw07_awake.mono _
      | exact godwitlaw07_grown.mono _ _
      | exact godwitlaw07_theirs.mono _ _
      | exact godwitref07_Few.mono _ _
      | exact godwitref07_Same.mono _ _ _
      | exact LeO.none _
      | refine LeO.ite ?_ ?_
      | refine LeO.bind ?_ (fun _ => ?_)
theorem godwitlaw07_ChainVacuum.mono : ∀ a0 a1 a2 k, LeO (godwitlaw07_ChainVacuum.f k a0 a1 a2) (godwitlaw07_ChainVacuum.f (k + 1) a0 a1 a2) := by
  intro a0 a1 a2 k
  obtain ⟨ih0, ih1⟩ := godwitlaw07_ChainVacuum.mono_l k
  unfold godwitlaw07_ChainVacuum.f
  repeat' first
      | (with_reducible exact ih0 _ _ _ _ _ _ _ _ _ _)
      | (with_reducible exact ih1 _ _ _ _ _ _ _ _ _ _)
      | (with_reducible exact chain_Sane.mono _ _)
      | (with_reducible exact chain_Vacuum.mono _ _ _)
      | (with_reducible exact chain_Value.mono _ _ _)
      | (with_reducible exact godwitlaw07_awake.mono _)
      | (with_reducible exact godwitlaw07_grown.mono _ _)
      | (with_reducible exact godwitlaw07_theirs.mono _ _)
      | (with_reducible exact godwitref07_Few.mono _ _)
      | (with_reducible exact godwitref07_Same.mono _ _ _)
      | (with_reducible exact LeO.refl _)
      | (with_reducible exact LeO.none _)
      | (with_reducible refine LeO.ite ?_ ?_)
      | (with_reducible refine LeO.bind ?_ (fun _ => ?_))
      | exact ih0 _ _ _ _ _ _ _ _ _ _
      | exact ih1 _ _ _ _ _ _ _ _ _ _
      | exact chain_Sane.mono _ _
      | exact chain_Vacuum.mono _ _ _
      | exact chain_Value.mono _ _ _
      | exact godwitlaw07_awake.mono _
      | exact godwitlaw07_grown.mono _ _
      | exact godwitlaw07_theirs.mono _ _
      | exact godwitref07_Few.mono _ _
      | exact godwitref07_Same.mono _ _ _
      | exact LeO.none _
      | refine LeO.ite ?_ ?_
      | refine LeO.bind ?_ (fun _ => ?_)
def godwitlaw07_ChainVacuum.T16 : Bool × List (List Nat × List Nat) := (true, [([], []), ([0], [0]), ([1], [1]), ([2, 1, 1], [1, 2]), ([1, 3], [1, 3]), ([4, 3], [4]), ([5], [5]), ([6, 5], [5, 6]), ([5], [5]), ([8, 5], [5, 8]), ([7, 9, 5], [5, 7, 9]), ([5, 10], [5, 10]), ([11, 5], [11]), ([12], [12]), ([12], [12]), ([13, 14, 12], [12, 13, 14]), ([12, 15], [12, 15]), ([16, 12], [16]), ([17], [17]), ([18, 17], [17, 18]), ([17, 19], [17, 19]), ([20, 17], [20]), ([21], [21]), ([21, 22], [21, 22]), ([23, 21], [23]), ([24], [24]), ([24], [24]), ([25, 26, 24, 24], [24, 25, 26]), ([27, 27, 24], [24, 27]), ([24], [24]), ([24], [24]), ([29, 30, 28, 24], [24, 29, 30]), ([31, 31, 24], [24, 31]), ([28, 32, 32, 24], [24, 28, 32]), ([24, 33], [24, 33]), ([34, 33], [34]), ([35], [35]), ([36, 35], [35, 36]), ([37, 35], [35, 37]), ([35], [35]), ([39, 35], [35, 39]), ([40, 35], [35, 40]), ([38, 41, 35], [35, 38, 41]), ([35, 42], [35, 42]), ([43, 35, 0, 1, 2, 3, 4, 5, 6, 7, 8, 9, 10, 11, 12, 13, 14, 15, 16, 17, 18, 19, 20, 21, 22, 23, 24, 25, 26, 27, 28, 29, 30, 31, 32, 33, 34, 35, 36, 37, 38, 39, 40, 41, 42, 43], [43])])
def godwitlaw07_ChainVacuum.B16 : List Nat := [0, 1, 3, 7, 15, 31, 63, 127, 63, 319, 1023, 2047, 4095, 8191, 8191, 32767, 65535, 131071, 262143, 524287, 1048575, 2097151, 4194303, 8388607, 16777215, 33554431, 33554431, 134217727, 268435455, 33554431, 33554431, 2147483647, 4294967295, 8589934591, 17179869183, 34359738367, 68719476735, 137438953471, 274877906943, 68719476735, 618475290623, 1717986918399, 4398046511103, 8796093022207, 17592186044415]
theorem godwitlaw07_ChainVacuum.tab16 : rtab .any (opsOf Try.f7 16) = godwitlaw07_ChainVacuum.T16 := by kernel_rfl
theorem godwitlaw07_ChainVacuum.bits16 : waitsOk godwitlaw07_ChainVacuum.T16.2 godwitlaw07_ChainVacuum.B16 = true := by kernel_rfl
set_option maxHeartbeats 8000000 in
set_option maxRecDepth 100000 in
theorem godwitlaw07_ChainVacuum.calls (k : Nat) (A0 : Option Addr) (c0 : Nat) (l0 : List (S46)) (a1 : Int) (a2 : Int) (r : Bool) (w : World) (hr0 : Kd.C k46 w A0 l0.length l0) (hc0 : l0.length ≤ c0) (h : godwitlaw07_ChainVacuum.f k l0 a1 a2 = some r) :
    Calls Try.prog 7 #[.slice A0 l0.length c0, .int .i64 a1, .int .i64 a2] w fun e w' => e = .returned (.bool r) ∧ Below w.heap.size w w' := by
  have hu26 := Try.underlying26
  have hu29 := Try.underlying29
  have HR0 := Aside0.mk hr0
  have HC0 := Aside0.mk hc0
  clear hr0 hc0
  have HB := Aside0.mk (Below.refl w.heap.size w)
  have H : ((godwitlaw07_awake.f k).bind fun t469 => ((godwitref07_Few.f k l0).bind fun t470 => (if t470 = true then ((godwitlaw07_grown.f k l0).bind fun t471 => ((chain_Vacuum.f k t471 a1).bind fun t475 => ((chain_Value.f k t471 (mx a2 a1)).bind fun bt479 => ((chain_Value.f k t475 (mx a2 a1)).bind fun bt483 => (godwitlaw07_ChainVacuum.l0 k a1 t469 bt479.1 bt479.2 bt483.1 bt483.2 0 0 t471 t475))))) else (some t469)))) = some r := h
  clear h
  replace H := Option.bind_eq_some_iff.mp H
  obtain ⟨t469, A40, H⟩ := H
  replace H : ((godwitref07_Few.f k l0).bind fun t470 => (if t470 = true then ((godwitlaw07_grown.f k l0).bind fun t471 => ((chain_Vacuum.f k t471 a1).bind fun t475 => ((chain_Value.f k t471 (mx a2 a1)).bind fun bt479 => ((chain_Value.f k t475 (mx a2 a1)).bind fun bt483 => (godwitlaw07_ChainVacuum.l0 k a1 t469 bt479.1 bt479.2 bt483.1 bt483.2 0 0 t471 t475))))) else (some t469))) = some r := H
  have A4 := Aside0.mk A40
  clear A40
  replace H := Option.bind_eq_some_iff.mp H
  obtain ⟨t470, A50, H⟩ := H
  replace H : (if t470 = true then ((godwitlaw07_grown.f k l0).bind fun t471 => ((chain_Vacuum.f k t471 a1).bind fun t475 => ((chain_Value.f k t471 (mx a2 a1)).bind fun bt479 => ((chain_Value.f k t475 (mx a2 a1)).bind fun bt483 => (godwitlaw07_ChainVacuum.l0 k a1 t469 bt479.1 bt479.2 bt483.1 bt483.2 0 0 t471 t475))))) else (some t469)) = some r := H
  have A5 := Aside0.mk A50
  clear A50
  by_cases c6 : t470 = true
  · subst c6
    have H1 : ((godwitlaw07_grown.f k l0).bind fun t471 => ((chain_Vacuum.f k t471 a1).bind fun t475 => ((chain_Value.f k t471 (mx a2 a1)).bind fun bt479 => ((chain_Value.f k t475 (mx a2 a1)).bind fun bt483 => (godwitlaw07_ChainVacuum.l0 k a1 t469 bt479.1 bt479.2 bt483.1 bt483.2 0 0 t471 t475))))) = some r := by rw [if_pos rfl] at H; exact H
    clear H
    have H := H1
    clear H1
    replace H := Option.bind_eq_some_iff.mp H
    obtain ⟨t471, A70, H⟩ := H
    replace H : ((chain_Vacuum.f k t471 a1).bind fun t475 => ((chain_Value.f k t471 (mx a2 a1)).bind fun bt479 => ((chain_Value.f k t475 (mx a2 a1)).bind fun bt483 => (godwitlaw07_ChainVacuum.l0 k a1 t469 bt479.1 bt479.2 bt483.1 bt483.2 0 0 t471 t475)))) = some r := H
    have A7 := Aside0.mk A70
    clear A70
    replace H := Option.bind_eq_some_iff.mp H
    obtain ⟨t475, A80, H⟩ := H
    replace H : ((chain_Value.f k t471 (mx a2 a1)).bind fun bt479 => ((chain_Value.f k t475 (mx a2 a1)).bind fun bt483 => (godwitlaw07_ChainVacuum.l0 k a1 t469 bt479.1 bt479.2 bt483.1 bt483.2 0 0 t471 t475))) = some r := H
    have A8 := Aside0.mk A80
    clear A80
    obtain ⟨ji9, hji9⟩ : ∃ j_ : Int, (mx a2 a1) = j_ := ⟨_, rfl⟩
    replace H : ((chain_Value.f k t471 (ji9)).bind fun bt479 => ((chain_Value.f k t475 (ji9)).bind fun bt483 => (godwitlaw07_ChainVacuum.l0 k a1 t469 bt479.1 bt479.2 bt483.1 bt483.2 0 0 t471 t475))) = some r := by first | (rw [hji9] at H; exact H) | (simp only [hji9] at H ⊢; exact H)
    (try rw [hji9] at A4)
    (try rw [hji9] at A5)
    (try rw [hji9] at A7)
    (try rw [hji9] at A8)
    have hji9_ : (if a2 < a1 then a1 else a2) = ji9 := hji9
    replace H := Option.bind_eq_some_iff.mp H
    obtain ⟨⟨t479, t482⟩, A100, H⟩ := H
    replace H : ((chain_Value.f k t475 (ji9)).bind fun bt483 => (godwitlaw07_ChainVacuum.l0 k a1 t469 t479 t482 bt483.1 bt483.2 0 0 t471 t475)) = some r := H
    have A10 := Aside0.mk A100
    clear A100
    replace H := Option.bind_eq_some_iff.mp H
    obtain ⟨⟨t483, t486⟩, A110, H⟩ := H
    replace H : (godwitlaw07_ChainVacuum.l0 k a1 t469 t479 t482 t483 t486 0 0 t471 t475) = some r := H
    have A11 := Aside0.mk A110
    clear A110
    have H' := Aside0.mk H
    clear H
    go_enter Try.func7, Try.ntmps7
    go_wp2_with (first | ((with_reducible refine gate_callee (f := 8) rfl ?_); refine goesL_ (some 18) rfl rfl Try.func8 (by kernel_rfl) rfl #[] rfl (by (try simp only [List.map_toArray, List.map_cons, List.map_nil]); first | done | rfl | (simp only [List.length_drop, List.length_take]; rfl)) ?_; (with_reducible refine (godwitlaw07_awake.calls k  t469 _ A4.out).mono ?_); rintro e w12 ⟨rfl, hb⟩; refine ⟨_, rfl, ?_⟩; have n0_ := Aside0.mk (below_step (by repeat (first | (with_reducible first | exact HB.out | apply below_alloc | apply pw_below_drewN | apply below_drew1) | exact HB.out)) hb); clear HB; have HB := n0_; clear n0_; (try clear hb); (try clear hb2); (try clear hk); (try clear hi)) | ((with_reducible refine gate_callee (f := 9) rfl ?_); refine goesL_ (some 21) rfl rfl Try.func9 (by kernel_rfl) rfl #[.agg #[.slice A0 l0.length c0]] rfl (by (try simp only [List.map_toArray, List.map_cons, List.map_nil]); first | done | rfl | (simp only [List.length_drop, List.length_take]; rfl)) ?_; (with_reducible refine (godwitref07_Few.calls k _ _ l0 true _ ?side1 ?side2 A5.out).mono ?_); (case side1 => repeat (first | exact (Kd.C_below HR0.out HB.out) | (with_reducible refine Kd.C_alloc ?_ _) | (with_reducible refine Kd.C_drewN ?_ _) | (with_reducible refine Kd.C_drew ?_))); (case side2 => exact HC0.out); rintro e w13 ⟨rfl, hb⟩; refine ⟨_, rfl, ?_⟩; have n0_ := Aside0.mk (below_step (by repeat (first | (with_reducible first | exact HB.out | apply below_alloc | apply pw_below_drewN | apply below_drew1) | exact HB.out)) hb); clear HB; have HB := n0_; clear n0_; (try clear hb); (try clear hb2); (try clear hk); (try clear hi)) | ((with_reducible refine gate_callee (f := 10) rfl ?_); refine goesL_ (some 25) rfl rfl Try.func10 (by kernel_rfl) rfl #[.slice A0 l0.length c0] rfl (by (try simp only [List.map_toArray, List.map_cons, List.map_nil]); first | done | rfl | (simp only [List.length_drop, List.length_take]; rfl)) ?_; (with_reducible refine (godwitlaw07_grown.calls k (fun k_ => k_ < w.heap.size) _ _ l0 t471 _ ?side1 A7.out).mono ?_); (case side1 => exact Kd.V_mk HC0.out (Kd.F_below (Kd.C_F k46_heap HR0.out) (by repeat (first | (with_reducible first | exact HB.out | apply below_alloc | apply pw_below_drewN | apply below_drew1) | exact HB.out)))); rintro e w14 ⟨v472, rfl, ho0, hb⟩; refine ⟨_, rfl, ?_⟩; have n0_ := Aside0.mk (Kd.N_lower (Kd.N_mono (ok' := fun k_ => True) ho0 (fun k_ hk_ => trivial)) (below_size (by repeat (first | (with_reducible first | exact HB.out | apply below_alloc | apply pw_below_drewN | apply below_drew1) | exact HB.out)))); have n1_ := Aside0.mk (below_step (by repeat (first | (with_reducible first | exact HB.out | apply below_alloc | apply pw_below_drewN | apply below_drew1) | exact HB.out)) hb); clear HB; have HO473 := n0_; have HB := n1_; clear n0_ n1_; (try clear hb); (try clear hb2); (try clear hk); (try clear hi); (try clear ho0)) | ((with_reducible refine gate_dst (N := 8) rfl ?_); (try (refine gate_guard (by rfl) ?_; dsimp only)); refine box_event ?hg (N := 8) ?hd (cs := #[.slice none 0 0]) (t := 29) ?hr ?_; (case hd => rfl); (case hg => rfl); (case hr => first | (go_simp; done) | (go_simp; rfl)); intro gb474 hg w15 hbox hb; have n0_ := Aside0.mk (Kd.N_below (Kd.N_elderB (by (with_reducible repeat (first | apply Kd.N_alloc | apply Kd.N_drewN | apply Kd.N_drew)); exact HO473.out) gb474 (Nat.le_of_eq hg.symm)) hb); have n1_ := Aside0.mk (below_step (by repeat (first | (with_reducible first | exact HB.out | apply below_alloc | apply pw_below_drewN | apply below_drew1) | exact HB.out)) hb); have n2_ := Aside0.mk (hbox); have n3_ := Aside0.mk ((by rw [hg]; exact (below_size (by repeat (first | (with_reducible first | exact HB.out | apply below_alloc | apply pw_below_drewN | apply below_drew1) | exact HB.out))) : w.heap.size ≤ gb474)); have n4_ := Aside0.mk ((by rw [hg]; exact (below_size (by repeat (first | (with_reducible first | exact HB.out | apply below_alloc | apply pw_below_drewN | apply below_drew1) | exact HB.out))) : w.heap.size ≤ gb474)); clear HO473; clear HB; have HO473 := n0_; have HB := n1_; have BK474 := n2_; have GW474 := n3_; have GE474 := n4_; clear n0_ n1_ n2_ n3_ n4_; clear hb hbox hg; obtain ⟨Ao16, co16, eo16⟩ := Kd.N_slice HO473.out; subst eo16; have hcz17_0 : w15.cell? ⟨gb474, 0, none⟩ = some (.slice none 0 0) := (blk_cell BK474.out 0).trans rfl; have hfz17_0 := blk_frozen BK474.out 0) | ((with_reducible refine gate_store (t := 29) (p := 8) rfl ?_); refine store_event (t := 29) (p := 8) (v := ?vo_w18) (w1 := (w15.setCell ⟨gb474, 0, none⟩ (.slice Ao16 t471.length co16))) ?hg ?ho ?hn ?hr ?_; (case ho => rfl); (case hg => rfl); (case hn => rfl); (case hr => first | (go_simp; done) | (go_simp; rfl)); intro w18 hw; have n0_ : Aside0 (Kd.N k37 37 w18 w.heap.size (fun k_ => k_ ≠ gb474) (.slice Ao16 t471.length co16) t471) := ⟨(by rw [hw]; exact (by (with_reducible repeat (first | apply Kd.N_alloc | apply Kd.N_drewN | apply Kd.N_drew)); exact Kd.N_mono (Kd.N_far (p := ⟨gb474, 0, none⟩) (Kd.N_mono HO473.out (fun k_ hk => (⟨hk, hk.2⟩ : _ ∧ k_ ≠ gb474))) (fun _ hk => hk.2) (.slice Ao16 t471.length co16)) (fun _ hk => hk.1.2)))⟩; have n1_ : Aside0 (w18.heap[gb474]? = some (.cells #[.slice Ao16 t471.length co16] 29 (0, 0))) := ⟨(by rw [hw]; exact (by (with_reducible repeat (first | refine blk_drewN ?_ _ | refine blk_drew ?_ | refine blk_alloc ?_ _)); refine blk_put (cs := #[.slice none 0 0]) ?_ 0 _ rfl; (with_reducible repeat (first | refine blk_drewN ?_ _ | refine blk_drew ?_ | refine blk_alloc ?_ _)); exact BK474.out))⟩; have n2_ : Aside0 (Below w.heap.size w w18) := ⟨(by rw [hw]; exact (by repeat (first | (with_reducible first | exact HB.out | apply below_alloc | apply pw_below_drewN | apply below_drew1 | refine below_set ?_ GE474.out) | exact HB.out)))⟩; clear hw; clear HO473; clear BK474; clear HB; have HO473 := n0_; have BK474 := n1_; have HB := n2_; clear n0_ n1_ n2_; have hcz19_0 : w18.cell? ⟨gb474, 0, none⟩ = some (.slice Ao16 t471.length co16) := (blk_cell BK474.out 0).trans rfl; have hfz19_0 := blk_frozen BK474.out 0) | ((with_reducible refine gate_callee (f := 11) rfl ?_); refine goesL_ (some 28) rfl rfl Try.func11 (by kernel_rfl) rfl #[.agg #[.slice Ao16 t471.length co16], .int .i64 a1] rfl (by (try simp only [List.map_toArray, List.map_cons, List.map_nil]); first | done | rfl | (simp only [List.length_drop, List.length_take]; rfl)) ?_; (with_reducible refine (chain_Vacuum.calls k (fun k_ => k_ ≠ gb474) _ _ t471 a1 t475 _ ?side1 A8.out).mono ?_); (case side1 => exact Kd.N_V (HO473.out)); rintro e w20 ⟨v476, rfl, ho0, hb⟩; refine ⟨_, rfl, ?_⟩; have n0_ := Aside0.mk (Kd.N_below (by (with_reducible repeat (first | apply Kd.N_alloc | apply Kd.N_drewN | apply Kd.N_drew)); exact HO473.out) hb); have n1_ := Aside0.mk (Kd.V_lower (Kd.V_mono (ok' := fun k_ => k_ ≠ gb474) ho0 (fun k_ hk_ => Or.elim hk_ (fun hs_ => hs_) (fun hn_ => (Kd.freshB (g := gb474) (o := .cells #[.slice Ao16 t471.length co16] 29 (0, 0)) (by (with_reducible repeat (first | refine blk_drewN ?_ _ | refine blk_drew ?_ | refine blk_alloc ?_ _)); exact BK474.out) k_ hn_)))) (below_size (by repeat (first | (with_reducible first | exact HB.out | apply below_alloc | apply pw_below_drewN | apply below_drew1 | refine below_set ?_ GE474.out) | exact HB.out)))); have n2_ := Aside0.mk (blk_below (g := gb474) (o := .cells #[.slice Ao16 t471.length co16] 29 (0, 0)) (by (with_reducible repeat (first | refine blk_drewN ?_ _ | refine blk_drew ?_ | refine blk_alloc ?_ _)); exact BK474.out) hb); have n3_ := Aside0.mk (below_step (by repeat (first | (with_reducible first | exact HB.out | apply below_alloc | apply pw_below_drewN | apply below_drew1 | refine below_set ?_ GE474.out) | exact HB.out)) hb); clear HO473; clear BK474; clear HB; have HO473 := n0_; have HO477 := n1_; have BK474 := n2_; have HB := n3_; clear n0_ n1_ n2_ n3_; (try clear hb); (try clear hb2); (try clear hk); (try clear hi); (try clear ho0)) | ((with_reducible refine gate_dst (N := 9) rfl ?_); (try (refine gate_guard (by rfl) ?_; dsimp only)); refine box_event ?hg (N := 9) ?hd (cs := #[.slice none 0 0]) (t := 29) ?hr ?_; (case hd => rfl); (case hg => rfl); (case hr => first | (go_simp; done) | (go_simp; rfl)); intro gb478 hg w21 hbox hb; have n0_ := Aside0.mk (Kd.N_below (Kd.N_elderB (by (with_reducible repeat (first | apply Kd.N_alloc | apply Kd.N_drewN | apply Kd.N_drew)); exact HO473.out) gb478 (Nat.le_of_eq hg.symm)) hb); have n1_ := Aside0.mk (Kd.V_below (Kd.V_elderB (by (with_reducible repeat (first | apply Kd.V_alloc | apply Kd.V_drewN | apply Kd.V_drew)); exact HO477.out) gb478 (Nat.le_of_eq hg.symm)) hb); have n2_ := Aside0.mk (blk_below (g := gb474) (o := .cells #[.slice Ao16 t471.length co16] 29 (0, 0)) (by (with_reducible repeat (first | refine blk_drewN ?_ _ | refine blk_drew ?_ | refine blk_alloc ?_ _)); exact BK474.out) hb); have n3_ := Aside0.mk (below_step (by repeat (first | (with_reducible first | exact HB.out | apply below_alloc | apply pw_below_drewN | apply below_drew1 | refine below_set ?_ GE474.out) | exact HB.out)) hb); have n4_ := Aside0.mk (hbox); have n5_ := Aside0.mk ((by rw [hg]; exact (below_size (by repeat (first | (with_reducible first | exact HB.out | apply below_alloc | apply pw_below_drewN | apply below_drew1 | refine below_set ?_ GE474.out) | exact HB.out))) : w.heap.size ≤ gb478)); have n6_ := Aside0.mk ((by rw [hg]; exact (below_size (by repeat (first | (with_reducible first | exact HB.out | apply below_alloc | apply pw_below_drewN | apply below_drew1 | refine below_set ?_ GE474.out) | exact HB.out))) : w.heap.size ≤ gb478)); have n7_ := Aside0.mk ((by rw [hg]; exact Nat.ne_of_lt (blk_lt (g := gb474) (o := .cells #[.slice Ao16 t471.length co16] 29 (0, 0)) (by (with_reducible repeat (first | refine blk_drewN ?_ _ | refine blk_drew ?_ | refine blk_alloc ?_ _)); exact BK474.out)) : gb474 ≠ gb478)); have n8_ := Aside0.mk ((by rw [hg]; exact Nat.ne_of_gt (blk_lt (g := gb474) (o := .cells #[.slice Ao16 t471.length co16] 29 (0, 0)) (by (with_reducible repeat (first | refine blk_drewN ?_ _ | refine blk_drew ?_ | refine blk_alloc ?_ _)); exact BK474.out)) : gb478 ≠ gb474)); clear HO473; clear HO477; clear BK474; clear HB; have HO473 := n0_; have HO477 := n1_; have BK474 := n2_; have HB := n3_; have BK478 := n4_; have GW478 := n5_; have GE478 := n6_; have NB474_478 := n7_; have NB478_474 := n8_; clear n0_ n1_ n2_ n3_ n4_ n5_ n6_ n7_ n8_; clear hb hbox hg; obtain ⟨Ao22, co22, eo22⟩ := Kd.V_slice HO477.out; subst eo22; have hnb23 := NB478_474.out; have hnc23 := NB474_478.out; have hcz24_0 : w21.cell? ⟨gb478, 0, none⟩ = some (.slice none 0 0) := (blk_cell BK478.out 0).trans rfl; have hfz24_0 := blk_frozen BK478.out 0) | ((with_reducible refine gate_store (t := 29) (p := 9) rfl ?_); refine store_event (t := 29) (p := 9) (v := ?vo_w25) (w1 := (w21.setCell ⟨gb478, 0, none⟩ (.slice Ao22 t475.length co22))) ?hg ?ho ?hn ?hr ?_; (case ho => rfl); (case hg => rfl); (case hn => rfl); (case hr => first | (go_simp; done) | (go_simp; rfl)); intro w25 hw; have n0_ : Aside0 (Kd.N k37 37 w25 w.heap.size (fun k_ => k_ ≠ gb474 ∧ k_ ≠ gb478) (.slice Ao16 t471.length co16) t471) := ⟨(by rw [hw]; exact (by (with_reducible repeat (first | apply Kd.N_alloc | apply Kd.N_drewN | apply Kd.N_drew)); exact Kd.N_mono (Kd.N_far (p := ⟨gb478, 0, none⟩) (Kd.N_mono HO473.out (fun k_ hk => (⟨hk, hk.2⟩ : _ ∧ k_ ≠ gb478))) (fun _ hk => hk.2) (.slice Ao22 t475.length co22)) (fun _ hk => ⟨hk.1.1, hk.1.2⟩)))⟩; have n1_ : Aside0 (Kd.V k37 37 w25 w.heap.size (fun k_ => k_ ≠ gb474 ∧ k_ ≠ gb478) (.slice Ao22 t475.length co22) t475) := ⟨(by rw [hw]; exact (by (with_reducible repeat (first | apply Kd.V_alloc | apply Kd.V_drewN | apply Kd.V_drew)); exact Kd.V_mono (Kd.V_far (p := ⟨gb478, 0, none⟩) (Kd.V_mono HO477.out (fun k_ hk => (⟨hk, hk.2⟩ : _ ∧ k_ ≠ gb478))) (fun _ hk => hk.2) (.slice Ao22 t475.length co22)) (fun _ hk => ⟨hk.1.1, hk.1.2⟩)))⟩; have n2_ : Aside0 (w25.heap[gb474]? = some (.cells #[.slice Ao16 t471.length co16] 29 (0, 0))) := ⟨(by rw [hw]; exact (by (with_reducible repeat (first | refine blk_drewN ?_ _ | refine blk_drew ?_ | refine blk_alloc ?_ _)); refine blk_far ?_ NB474_478.out _; (with_reducible repeat (first | refine blk_drewN ?_ _ | refine blk_drew ?_ | refine blk_alloc ?_ _)); exact BK474.out))⟩; have n3_ : Aside0 (w25.heap[gb478]? = some (.cells #[.slice Ao22 t475.length co22] 29 (0, 0))) := ⟨(by rw [hw]; exact (by (with_reducible repeat (first | refine blk_drewN ?_ _ | refine blk_drew ?_ | refine blk_alloc ?_ _)); refine blk_put (cs := #[.slice none 0 0]) ?_ 0 _ rfl; (with_reducible repeat (first | refine blk_drewN ?_ _ | refine blk_drew ?_ | refine blk_alloc ?_ _)); exact BK478.out))⟩; have n4_ : Aside0 (Below w.heap.size w w25) := ⟨(by rw [hw]; exact (by repeat (first | (with_reducible first | exact HB.out | apply below_alloc | apply pw_below_drewN | apply below_drew1 | refine below_set ?_ GE474.out | refine below_set ?_ GE478.out) | exact HB.out)))⟩; clear hw; clear HO473; clear HO477; clear BK474; clear BK478; clear HB; have HO473 := n0_; have HO477 := n1_; have BK474 := n2_; have BK478 := n3_; have HB := n4_; clear n0_ n1_ n2_ n3_ n4_; have hcz26_0 : w25.cell? ⟨gb474, 0, none⟩ = some (.slice Ao16 t471.length co16) := (blk_cell BK474.out 0).trans rfl; have hfz26_0 := blk_frozen BK474.out 0) | ((with_reducible refine gate_callee (f := 20) rfl ?_); refine goesL_ (some 35) rfl rfl Try.func20 (by kernel_rfl) rfl #[.agg #[.slice Ao16 t471.length co16], .int .i64 ji9] rfl (by (try simp only [List.map_toArray, List.map_cons, List.map_nil]); first | done | (simp only [hji9]; rfl) | rfl | (simp only [List.length_drop, List.length_take]; rfl)) ?_; (with_reducible refine (chain_Value.calls k (fun k_ => (k_ ≠ gb474 ∧ k_ ≠ gb478)) _ _ t471 ji9 t479 t482 _ ?side1 A10.out).mono ?_); (case side1 => exact Kd.N_V (HO473.out)); rintro e w27 ⟨v480, rfl, ho0, hb⟩; refine ⟨_, rfl, ?_⟩; have n0_ := Aside0.mk (Kd.N_below (by (with_reducible repeat (first | apply Kd.N_alloc | apply Kd.N_drewN | apply Kd.N_drew)); exact HO473.out) hb); have n1_ := Aside0.mk (Kd.V_below (by (with_reducible repeat (first | apply Kd.V_alloc | apply Kd.V_drewN | apply Kd.V_drew)); exact HO477.out) hb); have n2_ := Aside0.mk (Kd.V_lower (Kd.V_mono (ok' := fun k_ => k_ ≠ gb474 ∧ k_ ≠ gb478) ho0 (fun k_ hk_ => ⟨Or.elim hk_ (fun hs_ => hs_.1) (fun hn_ => (Kd.freshB (g := gb474) (o := .cells #[.slice Ao16 t471.length co16] 29 (0, 0)) (by (with_reducible repeat (first | refine blk_drewN ?_ _ | refine blk_drew ?_ | refine blk_alloc ?_ _)); exact BK474.out) k_ hn_)), Or.elim hk_ (fun hs_ => hs_.2) (fun hn_ => (Kd.freshB (g := gb478) (o := .cells #[.slice Ao22 t475.length co22] 29 (0, 0)) (by (with_reducible repeat (first | refine blk_drewN ?_ _ | refine blk_drew ?_ | refine blk_alloc ?_ _)); exact BK478.out) k_ hn_))⟩)) (below_size (by repeat (first | (with_reducible first | exact HB.out | apply below_alloc | apply pw_below_drewN | apply below_drew1 | refine below_set ?_ GE474.out | refine below_set ?_ GE478.out) | exact HB.out)))); have n3_ := Aside0.mk (blk_below (g := gb474) (o := .cells #[.slice Ao16 t471.length co16] 29 (0, 0)) (by (with_reducible repeat (first | refine blk_drewN ?_ _ | refine blk_drew ?_ | refine blk_alloc ?_ _)); exact BK474.out) hb); have n4_ := Aside0.mk (blk_below (g := gb478) (o := .cells #[.slice Ao22 t475.length co22] 29 (0, 0)) (by (with_reducible repeat (first | refine blk_drewN ?_ _ | refine blk_drew ?_ | refine blk_alloc ?_ _)); exact BK478.out) hb); have n5_ := Aside0.mk (below_step (by repeat (first | (with_reducible first | exact HB.out | apply below_alloc | apply pw_below_drewN | apply below_drew1 | refine below_set ?_ GE474.out | refine below_set ?_ GE478.out) | exact HB.out)) hb); clear HO473; clear HO477; clear BK474; clear BK478; clear HB; have HO473 := n0_; have HO477 := n1_; have HO481 := n2_; have BK474 := n3_; have BK478 := n4_; have HB := n5_; clear n0_ n1_ n2_ n3_ n4_ n5_; (try clear hb); (try clear hb2); (try clear hk); (try clear hi); (try clear ho0); have hcz28_0 : w27.cell? ⟨gb478, 0, none⟩ = some (.slice Ao22 t475.length co22) := (blk_cell BK478.out 0).trans rfl; have hfz28_0 := blk_frozen BK478.out 0) | ((with_reducible refine gate_callee (f := 20) rfl ?_); refine goesL_ (some 41) rfl rfl Try.func20 (by kernel_rfl) rfl #[.agg #[.slice Ao22 t475.length co22], .int .i64 ji9] rfl (by (try simp only [List.map_toArray, List.map_cons, List.map_nil]); first | done | (simp only [hji9]; rfl) | rfl | (simp only [List.length_drop, List.length_take]; rfl)) ?_; (with_reducible refine (chain_Value.calls k (fun k_ => (k_ ≠ gb474 ∧ k_ ≠ gb478)) _ _ t475 ji9 t483 t486 _ ?side1 A11.out).mono ?_); (case side1 => exact HO477.out); rintro e w29 ⟨v484, rfl, ho0, hb⟩; refine ⟨_, rfl, ?_⟩; have n0_ := Aside0.mk (Kd.N_below (by (with_reducible repeat (first | apply Kd.N_alloc | apply Kd.N_drewN | apply Kd.N_drew)); exact HO473.out) hb); have n1_ := Aside0.mk (Kd.V_below (by (with_reducible repeat (first | apply Kd.V_alloc | apply Kd.V_drewN | apply Kd.V_drew)); exact HO477.out) hb); have n2_ := Aside0.mk (Kd.V_below (by (with_reducible repeat (first | apply Kd.V_alloc | apply Kd.V_drewN | apply Kd.V_drew)); exact HO481.out) hb); have n3_ := Aside0.mk (Kd.V_lower (Kd.V_mono (ok' := fun k_ => k_ ≠ gb474 ∧ k_ ≠ gb478) ho0 (fun k_ hk_ => ⟨Or.elim hk_ (fun hs_ => hs_.1) (fun hn_ => (Kd.freshB (g := gb474) (o := .cells #[.slice Ao16 t471.length co16] 29 (0, 0)) (by (with_reducible repeat (first | refine blk_drewN ?_ _ | refine blk_drew ?_ | refine blk_alloc ?_ _)); exact BK474.out) k_ hn_)), Or.elim hk_ (fun hs_ => hs_.2) (fun hn_ => (Kd.freshB (g := gb478) (o := .cells #[.slice Ao22 t475.length co22] 29 (0, 0)) (by (with_reducible repeat (first | refine blk_drewN ?_ _ | refine blk_drew ?_ | refine blk_alloc ?_ _)); exact BK478.out) k_ hn_))⟩)) (below_size (by repeat (first | (with_reducible first | exact HB.out | apply below_alloc | apply pw_below_drewN | apply below_drew1 | refine below_set ?_ GE474.out | refine below_set ?_ GE478.out) | exact HB.out)))); have n4_ := Aside0.mk (blk_below (g := gb474) (o := .cells #[.slice Ao16 t471.length co16] 29 (0, 0)) (by (with_reducible repeat (first | refine blk_drewN ?_ _ | refine blk_drew ?_ | refine blk_alloc ?_ _)); exact BK474.out) hb); have n5_ := Aside0.mk (blk_below (g := gb478) (o := .cells #[.slice Ao22 t475.length co22] 29 (0, 0)) (by (with_reducible repeat (first | refine blk_drewN ?_ _ | refine blk_drew ?_ | refine blk_alloc ?_ _)); exact BK478.out) hb); have n6_ := Aside0.mk (below_step (by repeat (first | (with_reducible first | exact HB.out | apply below_alloc | apply pw_below_drewN | apply below_drew1 | refine below_set ?_ GE474.out | refine below_set ?_ GE478.out) | exact HB.out)) hb); clear HO473; clear HO477; clear HO481; clear BK474; clear BK478; clear HB; have HO473 := n0_; have HO477 := n1_; have HO481 := n2_; have HO485 := n3_; have BK474 := n4_; have BK478 := n5_; have HB := n6_; clear n0_ n1_ n2_ n3_ n4_ n5_ n6_; (try clear hb); (try clear hb2); (try clear hk); (try clear hi); (try clear ho0)))
    go_loopg [15, 16] k (fun kq v15 v16 w' => ∃ (x15_1 : Int) (x16_1 : Int), v15 = .int .i64 x15_1 ∧ v16 = .int .i64 x16_1 ∧ Aside0 (godwitlaw07_ChainVacuum.l0 kq a1 t469 t479 t482 t483 t486 x15_1 x16_1 t471 t475 = some r) ∧ Aside0 (kq ≤ k) ∧ Aside0 (Kd.V (Kd.int .u8) 5 w' w.heap.size (fun k_ => k_ ≠ gb474 ∧ k_ ≠ gb478) v480 t479) ∧ Aside0 (Kd.V (Kd.int .u8) 5 w' w.heap.size (fun k_ => k_ ≠ gb474 ∧ k_ ≠ gb478) v484 t483) ∧ Aside0 (Kd.N k37 37 w' w.heap.size (fun k_ => k_ ≠ gb474 ∧ k_ ≠ gb478) (.slice Ao16 t471.length co16) t471) ∧ Aside0 (Kd.V k37 37 w' w.heap.size (fun k_ => k_ ≠ gb474 ∧ k_ ≠ gb478) (.slice Ao22 t475.length co22) t475) ∧ Aside0 (w'.heap[gb474]? = some (.cells #[(.slice Ao16 t471.length co16)] 29 (0, 0))) ∧ Aside0 (w'.heap[gb478]? = some (.cells #[(.slice Ao22 t475.length co22)] 29 (0, 0))) ∧ Aside0 (Below w.heap.size w w'))
    case atStart => exact ⟨(0), (0), (by first | rfl | (simp; done) | (simp [*]; done)), (by first | rfl | (simp; done) | (simp [*]; done)), H', ⟨Nat.le_refl _⟩, ⟨by (with_reducible repeat (first | apply Kd.V_alloc | apply Kd.V_drewN | apply Kd.V_drew)); exact HO481.out⟩, ⟨by (with_reducible repeat (first | apply Kd.V_alloc | apply Kd.V_drewN | apply Kd.V_drew)); exact HO485.out⟩, ⟨by (with_reducible repeat (first | apply Kd.N_alloc | apply Kd.N_drewN | apply Kd.N_drew)); exact HO473.out⟩, ⟨by (with_reducible repeat (first | apply Kd.V_alloc | apply Kd.V_drewN | apply Kd.V_drew)); exact HO477.out⟩, ⟨by (with_reducible repeat (first | refine blk_drewN ?_ _ | refine blk_drew ?_ | refine blk_alloc ?_ _)); exact BK474.out⟩, ⟨by (with_reducible repeat (first | refine blk_drewN ?_ _ | refine blk_drew ?_ | refine blk_alloc ?_ _)); exact BK478.out⟩, ⟨by repeat (first | (with_reducible first | exact HB.out | apply below_alloc | apply pw_below_drewN | apply below_drew1 | refine below_set ?_ GE474.out | refine below_set ?_ GE478.out) | exact HB.out)⟩⟩
    case round =>
      clear H'
      try clear c1
      try clear c2
      try clear p2
      try clear c6
      try clear c7
      try clear c8
      try clear c9
      try clear c10
      try clear c11
      try clear c20
      try clear c23
      try clear hcz17_0
      try clear hcz19_0
      try clear hcz24_0
      try clear hcz26_0
      try clear hcz28_0
      try clear hfz17_0
      try clear hfz19_0
      try clear hfz24_0
      try clear hfz26_0
      try clear hfz28_0
      obtain ⟨x15_1, x16_1, rfl, rfl, HA, HK1, HO_11, HO_13, HO_475000, HO_479000, BK474, BK478, HB⟩ := hrel
      cases gk with
      | zero => exact absurd HA.out (by simp [godwitlaw07_ChainVacuum.l0])
      | succ k1 =>
        have H := HA.out
        clear HA
        simp only [godwitlaw07_ChainVacuum.l0] at H
        by_cases c30 : x16_1 < (t475.length : Int)
        · rw [if_pos c30] at H
          have c30b0 : decide (x16_1 < (t475.length : Int)) = true := decide_eq_true c30
          clear c30
          by_cases c31 : 0 ≤ x16_1
          · rw [if_pos c31] at H
            have c31b0 : decide (0 ≤ x16_1) = true := decide_eq_true c31
            clear c31
            by_cases c32 : ((rd_T37 t475 x16_1).f0) ≤ a1
            · rw [if_pos c32] at H
              have c32b0 : decide (((rd_T37 t475 x16_1).f0) ≤ a1) = true := decide_eq_true c32
              clear c32
              have H' := Aside0.mk H
              clear H
              have hnb33 := NB478_474.out
              have hnc33 := NB474_478.out
              have hcz34_0 : wr.cell? ⟨gb478, 0, none⟩ = some (.slice Ao22 t475.length co22) := (blk_cell BK478.out 0).trans rfl
              have hfz34_0 := blk_frozen BK478.out 0
              have p487 : 0 ≤ (x16_1 : Int) := of_decide_eq_true (by first | (with_reducible assumption) | assumption)
              have q487 : x16_1 < (t475.length : Int) := of_decide_eq_true (by first | (with_reducible assumption) | assumption)
              obtain ⟨ad487, A487_1, c487_1, e487, hx487_0, hx487_1, hx487_2, hl487_1, hi487_1⟩ := at_T37 (Kd.V_reads' HO_479000.out).2.2 x16_1 p487 q487
              cases e487
              obtain ⟨ce487, hce487, hMe487, hcc487⟩ := Kd.V_get HO_479000.out z37 x16_1 p487 (by first | exact q487 | exact of_decide_eq_true (by first | (with_reducible assumption) | assumption) | (have e_ := (Kd.V_reads' HO_479000.out).1; omega))
              obtain ⟨ua487_1, uc487_1, rfl, ul487_1, ge487_1⟩ := k37_openF hMe487
              have hv487_1 := hcc487 1 _ rfl
              rw [add_field _ _ 1 (by omega)] at hv487_1
              replace hv487_1 := Option.some.inj (hv487_1.symm.trans hx487_1)
              injection hv487_1 with hva_ hvn_ hvc_
              rw [hva_] at ge487_1
              rw [hvc_] at ul487_1
              have HL487_1 := Aside0.mk (show Kd.V (Kd.int .u8) 5 _ w.heap.size _ _ ((rd_T37 t475 x16_1).f1) from Kd.V_mk ul487_1 ge487_1)
              clear hva_ hvn_ hvc_ ge487_1 ul487_1
              clear hcc487 hce487
              have HR487_1 := Aside0.mk hi487_1
              have HC487_1 := Aside0.mk hl487_1
              clear hi487_1 hl487_1
              replace p487 := eq_true p487
              replace q487 := eq_true q487
              go_wp2
              go_roundg k1
              case measure => have := HK1.out; omega
              case rel => exact ⟨(wrap64 (x15_1 + 1)), (wrap64 (x16_1 + 1)), (by first | rfl | (simp; done) | (simp [*]; done)), (by first | rfl | (simp; done) | (simp [*]; done)), H', ⟨by have := HK1.out; omega⟩, ⟨by (with_reducible repeat (first | apply Kd.V_alloc | apply Kd.V_drewN | apply Kd.V_drew)); exact HO_11.out⟩, ⟨by (with_reducible repeat (first | apply Kd.V_alloc | apply Kd.V_drewN | apply Kd.V_drew)); exact HO_13.out⟩, ⟨by (with_reducible repeat (first | apply Kd.N_alloc | apply Kd.N_drewN | apply Kd.N_drew)); exact HO_475000.out⟩, ⟨by (with_reducible repeat (first | apply Kd.V_alloc | apply Kd.V_drewN | apply Kd.V_drew)); exact HO_479000.out⟩, ⟨by (with_reducible repeat (first | refine blk_drewN ?_ _ | refine blk_drew ?_ | refine blk_alloc ?_ _)); exact BK474.out⟩, ⟨by (with_reducible repeat (first | refine blk_drewN ?_ _ | refine blk_drew ?_ | refine blk_alloc ?_ _)); exact BK478.out⟩, ⟨by repeat (first | (with_reducible first | exact HB.out | apply below_alloc | apply pw_below_drewN | apply below_drew1 | refine below_set ?_ GE474.out | refine below_set ?_ GE478.out) | exact HB.out)⟩⟩
            · rw [if_neg c32] at H
              have c32b0 : decide (((rd_T37 t475 x16_1).f0) ≤ a1) = false := decide_eq_false c32
              clear c32
              have H' := Aside0.mk H
              clear H
              have hnb35 := NB478_474.out
              have hnc35 := NB474_478.out
              have hcz36_0 : wr.cell? ⟨gb478, 0, none⟩ = some (.slice Ao22 t475.length co22) := (blk_cell BK478.out 0).trans rfl
              have hfz36_0 := blk_frozen BK478.out 0
              have p487 : 0 ≤ (x16_1 : Int) := of_decide_eq_true (by first | (with_reducible assumption) | assumption)
              have q487 : x16_1 < (t475.length : Int) := of_decide_eq_true (by first | (with_reducible assumption) | assumption)
              obtain ⟨ad487, A487_1, c487_1, e487, hx487_0, hx487_1, hx487_2, hl487_1, hi487_1⟩ := at_T37 (Kd.V_reads' HO_479000.out).2.2 x16_1 p487 q487
              cases e487
              obtain ⟨ce487, hce487, hMe487, hcc487⟩ := Kd.V_get HO_479000.out z37 x16_1 p487 (by first | exact q487 | exact of_decide_eq_true (by first | (with_reducible assumption) | assumption) | (have e_ := (Kd.V_reads' HO_479000.out).1; omega))
              obtain ⟨ua487_1, uc487_1, rfl, ul487_1, ge487_1⟩ := k37_openF hMe487
              have hv487_1 := hcc487 1 _ rfl
              rw [add_field _ _ 1 (by omega)] at hv487_1
              replace hv487_1 := Option.some.inj (hv487_1.symm.trans hx487_1)
              injection hv487_1 with hva_ hvn_ hvc_
              rw [hva_] at ge487_1
              rw [hvc_] at ul487_1
              have HL487_1 := Aside0.mk (show Kd.V (Kd.int .u8) 5 _ w.heap.size _ _ ((rd_T37 t475 x16_1).f1) from Kd.V_mk ul487_1 ge487_1)
              clear hva_ hvn_ hvc_ ge487_1 ul487_1
              clear hcc487 hce487
              have HR487_1 := Aside0.mk hi487_1
              have HC487_1 := Aside0.mk hl487_1
              clear hi487_1 hl487_1
              replace p487 := eq_true p487
              replace q487 := eq_true q487
              go_wp2
              go_roundg k1
              case measure => have := HK1.out; omega
              case rel => exact ⟨(x15_1), (wrap64 (x16_1 + 1)), (by first | rfl | (simp; done) | (simp [*]; done)), (by first | rfl | (simp; done) | (simp [*]; done)), H', ⟨by have := HK1.out; omega⟩, ⟨by (with_reducible repeat (first | apply Kd.V_alloc | apply Kd.V_drewN | apply Kd.V_drew)); exact HO_11.out⟩, ⟨by (with_reducible repeat (first | apply Kd.V_alloc | apply Kd.V_drewN | apply Kd.V_drew)); exact HO_13.out⟩, ⟨by (with_reducible repeat (first | apply Kd.N_alloc | apply Kd.N_drewN | apply Kd.N_drew)); exact HO_475000.out⟩, ⟨by (with_reducible repeat (first | apply Kd.V_alloc | apply Kd.V_drewN | apply Kd.V_drew)); exact HO_479000.out⟩, ⟨by (with_reducible repeat (first | refine blk_drewN ?_ _ | refine blk_drew ?_ | refine blk_alloc ?_ _)); exact BK474.out⟩, ⟨by (with_reducible repeat (first | refine blk_drewN ?_ _ | refine blk_drew ?_ | refine blk_alloc ?_ _)); exact BK478.out⟩, ⟨by repeat (first | (with_reducible first | exact HB.out | apply below_alloc | apply pw_below_drewN | apply below_drew1 | refine below_set ?_ GE474.out | refine below_set ?_ GE478.out) | exact HB.out)⟩⟩
          · rw [if_neg c31] at H
            exact absurd H (by simp)
        · rw [if_neg c30] at H
          have c30b0 : decide (x16_1 < (t475.length : Int)) = false := decide_eq_false c30
          clear c30
          have HC37 := Aside0.mk H
          clear H
          have hnb38 := NB478_474.out
          have hnc38 := NB474_478.out
          have hcz39_0 : wr.cell? ⟨gb478, 0, none⟩ = some (.slice Ao22 t475.length co22) := (blk_cell BK478.out 0).trans rfl
          have hfz39_0 := blk_frozen BK478.out 0
          go_upto_region 15 with (fail)
          go_cut [17] (fun v17 wc => ∃ (kq : Nat) (x17_36 : Bool), v17 = .bool x17_36 ∧ Aside0 (godwitlaw07_ChainVacuum.j1 kq a1 t469 t479 t482 t483 t486 x15_1 x17_36 t471 t475 = some r) ∧ Aside0 (kq ≤ k1) ∧ Aside0 (Kd.V (Kd.int .u8) 5 wc w.heap.size (fun k_ => k_ ≠ gb474 ∧ k_ ≠ gb478) v480 t479) ∧ Aside0 (Kd.V (Kd.int .u8) 5 wc w.heap.size (fun k_ => k_ ≠ gb474 ∧ k_ ≠ gb478) v484 t483) ∧ Aside0 (Kd.N k37 37 wc w.heap.size (fun k_ => k_ ≠ gb474 ∧ k_ ≠ gb478) (.slice Ao16 t471.length co16) t471) ∧ Aside0 (Kd.V k37 37 wc w.heap.size (fun k_ => k_ ≠ gb474 ∧ k_ ≠ gb478) (.slice Ao22 t475.length co22) t475) ∧ Aside0 (wc.heap[gb474]? = some (.cells #[(.slice Ao16 t471.length co16)] 29 (0, 0))) ∧ Aside0 (wc.heap[gb478]? = some (.cells #[(.slice Ao22 t475.length co22)] 29 (0, 0))) ∧ Aside0 (Below w.heap.size w wc))
          case first =>
            have H := HC37.out
            clear HC37
            by_cases c40 : (t475.length : Int) = 0
            · rw [if_pos c40] at H
              have c40b0 : ((t475.length : Int) == 0) = true := beq_iff_eq.mpr c40
              have c40b1 : ((t475.length : Int) != 0) = false := bne_eq_false_iff_eq.mpr c40
              clear c40
              (first | rw [c40b0] | (simp only [i64_w, i32_w]; rw [c40b0]) | skip)
              have H' := Aside0.mk H
              clear H
              have hnb41 := NB478_474.out
              have hnc41 := NB474_478.out
              have hcz42_0 : wr.cell? ⟨gb478, 0, none⟩ = some (.slice Ao22 t475.length co22) := (blk_cell BK478.out 0).trans rfl
              have hfz42_0 := blk_frozen BK478.out 0
              go_wp2
              go_meet
              case rel => exact ⟨_, (true), (by first | rfl | (simp; done) | (simp [*]; done)), H', ⟨by have := HK1.out; first | omega | exact Nat.le_refl _⟩, ⟨by (with_reducible repeat (first | apply Kd.V_alloc | apply Kd.V_drewN | apply Kd.V_drew)); exact HO_11.out⟩, ⟨by (with_reducible repeat (first | apply Kd.V_alloc | apply Kd.V_drewN | apply Kd.V_drew)); exact HO_13.out⟩, ⟨by (with_reducible repeat (first | apply Kd.N_alloc | apply Kd.N_drewN | apply Kd.N_drew)); exact HO_475000.out⟩, ⟨by (with_reducible repeat (first | apply Kd.V_alloc | apply Kd.V_drewN | apply Kd.V_drew)); exact HO_479000.out⟩, ⟨by (with_reducible repeat (first | refine blk_drewN ?_ _ | refine blk_drew ?_ | refine blk_alloc ?_ _)); exact BK474.out⟩, ⟨by (with_reducible repeat (first | refine blk_drewN ?_ _ | refine blk_drew ?_ | refine blk_alloc ?_ _)); exact BK478.out⟩, ⟨by repeat (first | (with_reducible first | exact HB.out | apply below_alloc | apply pw_below_drewN | apply below_drew1 | refine below_set ?_ GE474.out | refine below_set ?_ GE478.out) | exact HB.out)⟩⟩
            · rw [if_neg c40] at H
              have c40b0 : ((t475.length : Int) == 0) = false := beq_eq_false_iff_ne.mpr c40
              have c40b1 : ((t475.length : Int) != 0) = true := bne_iff_ne.mpr c40
              have c40b2 : ¬ (t475 = []) := fun h_ => c40 (by rw [h_]; rfl)
              (first | rw [c40b0] | (simp only [i64_w, i32_w]; rw [c40b0]) | skip)
              by_cases c43 : 0 < (t475.length : Int)
              · rw [if_pos c43] at H
                have c43b0 : decide (0 < (t475.length : Int)) = true := decide_eq_true c43
                have c43b1 : decide (0 < t475.length) = true := decide_eq_true (by omega)
                clear c43
                by_cases c44 : ((rd_T37 t475 0).f0) > a1
                · rw [if_pos c44] at H
                  have c44b0 : decide (a1 < ((rd_T37 t475 0).f0)) = true := decide_eq_true c44
                  clear c44
                  have H' := Aside0.mk H
                  clear H
                  have hnb45 := NB478_474.out
                  have hnc45 := NB474_478.out
                  have hcz46_0 : wr.cell? ⟨gb478, 0, none⟩ = some (.slice Ao22 t475.length co22) := (blk_cell BK478.out 0).trans rfl
                  have hfz46_0 := blk_frozen BK478.out 0
                  have p488 : 0 ≤ (0 : Int) := (by omega)
                  have q488 : 0 < (t475.length : Int) := of_decide_eq_true (by first | (with_reducible assumption) | assumption)
                  obtain ⟨ad488, A488_1, c488_1, e488, hx488_0, hx488_1, hx488_2, hl488_1, hi488_1⟩ := at_T37 (Kd.V_reads' HO_479000.out).2.2 0 p488 q488
                  cases e488
                  obtain ⟨ce488, hce488, hMe488, hcc488⟩ := Kd.V_get HO_479000.out z37 0 p488 (by first | exact q488 | exact of_decide_eq_true (by first | (with_reducible assumption) | assumption) | (have e_ := (Kd.V_reads' HO_479000.out).1; omega))
                  obtain ⟨ua488_1, uc488_1, rfl, ul488_1, ge488_1⟩ := k37_openF hMe488
                  have hv488_1 := hcc488 1 _ rfl
                  rw [add_field _ _ 1 (by omega)] at hv488_1
                  replace hv488_1 := Option.some.inj (hv488_1.symm.trans hx488_1)
                  injection hv488_1 with hva_ hvn_ hvc_
                  rw [hva_] at ge488_1
                  rw [hvc_] at ul488_1
                  have HL488_1 := Aside0.mk (show Kd.V (Kd.int .u8) 5 _ w.heap.size _ _ ((rd_T37 t475 0).f1) from Kd.V_mk ul488_1 ge488_1)
                  clear hva_ hvn_ hvc_ ge488_1 ul488_1
                  clear hcc488 hce488
                  have qi488 : (0 < t475.length) = True := eq_true (by omega)
                  (try rw [show ((0 : Int)).toNat = 0 from rfl] at hx488_0)
                  (try rw [show 0 * 3 = 0 from rfl] at hx488_0)
                  (try rw [Addr.add_zero'] at hx488_0)
                  (try rw [show ((0 : Int)).toNat = 0 from rfl] at hx488_1)
                  (try rw [show 0 * 3 = 0 from rfl] at hx488_1)
                  (try rw [Addr.add_zero'] at hx488_1)
                  (try rw [show ((0 : Int)).toNat = 0 from rfl] at hx488_2)
                  (try rw [show 0 * 3 = 0 from rfl] at hx488_2)
                  (try rw [Addr.add_zero'] at hx488_2)
                  have HR488_1 := Aside0.mk hi488_1
                  have HC488_1 := Aside0.mk hl488_1
                  clear hi488_1 hl488_1
                  replace p488 := eq_true p488
                  replace q488 := eq_true q488
                  go_wp2
                  go_meet
                  case rel => exact ⟨_, (true), (by first | rfl | (simp; done) | (simp [*]; done)), H', ⟨by have := HK1.out; first | omega | exact Nat.le_refl _⟩, ⟨by (with_reducible repeat (first | apply Kd.V_alloc | apply Kd.V_drewN | apply Kd.V_drew)); exact HO_11.out⟩, ⟨by (with_reducible repeat (first | apply Kd.V_alloc | apply Kd.V_drewN | apply Kd.V_drew)); exact HO_13.out⟩, ⟨by (with_reducible repeat (first | apply Kd.N_alloc | apply Kd.N_drewN | apply Kd.N_drew)); exact HO_475000.out⟩, ⟨by (with_reducible repeat (first | apply Kd.V_alloc | apply Kd.V_drewN | apply Kd.V_drew)); exact HO_479000.out⟩, ⟨by (with_reducible repeat (first | refine blk_drewN ?_ _ | refine blk_drew ?_ | refine blk_alloc ?_ _)); exact BK474.out⟩, ⟨by (with_reducible repeat (first | refine blk_drewN ?_ _ | refine blk_drew ?_ | refine blk_alloc ?_ _)); exact BK478.out⟩, ⟨by repeat (first | (with_reducible first | exact HB.out | apply below_alloc | apply pw_below_drewN | apply below_drew1 | refine below_set ?_ GE474.out | refine below_set ?_ GE478.out) | exact HB.out)⟩⟩
                · rw [if_neg c44] at H
                  have c44b0 : decide (a1 < ((rd_T37 t475 0).f0)) = false := decide_eq_false c44
                  clear c44
                  have H' := Aside0.mk H
                  clear H
                  have hnb47 := NB478_474.out
                  have hnc47 := NB474_478.out
                  have hcz48_0 : wr.cell? ⟨gb478, 0, none⟩ = some (.slice Ao22 t475.length co22) := (blk_cell BK478.out 0).trans rfl
                  have hfz48_0 := blk_frozen BK478.out 0
                  have p488 : 0 ≤ (0 : Int) := (by omega)
                  have q488 : 0 < (t475.length : Int) := of_decide_eq_true (by first | (with_reducible assumption) | assumption)
                  obtain ⟨ad488, A488_1, c488_1, e488, hx488_0, hx488_1, hx488_2, hl488_1, hi488_1⟩ := at_T37 (Kd.V_reads' HO_479000.out).2.2 0 p488 q488
                  cases e488
                  obtain ⟨ce488, hce488, hMe488, hcc488⟩ := Kd.V_get HO_479000.out z37 0 p488 (by first | exact q488 | exact of_decide_eq_true (by first | (with_reducible assumption) | assumption) | (have e_ := (Kd.V_reads' HO_479000.out).1; omega))
                  obtain ⟨ua488_1, uc488_1, rfl, ul488_1, ge488_1⟩ := k37_openF hMe488
                  have hv488_1 := hcc488 1 _ rfl
                  rw [add_field _ _ 1 (by omega)] at hv488_1
                  replace hv488_1 := Option.some.inj (hv488_1.symm.trans hx488_1)
                  injection hv488_1 with hva_ hvn_ hvc_
                  rw [hva_] at ge488_1
                  rw [hvc_] at ul488_1
                  have HL488_1 := Aside0.mk (show Kd.V (Kd.int .u8) 5 _ w.heap.size _ _ ((rd_T37 t475 0).f1) from Kd.V_mk ul488_1 ge488_1)
                  clear hva_ hvn_ hvc_ ge488_1 ul488_1
                  clear hcc488 hce488
                  have qi488 : (0 < t475.length) = True := eq_true (by omega)
                  (try rw [show ((0 : Int)).toNat = 0 from rfl] at hx488_0)
                  (try rw [show 0 * 3 = 0 from rfl] at hx488_0)
                  (try rw [Addr.add_zero'] at hx488_0)
                  (try rw [show ((0 : Int)).toNat = 0 from rfl] at hx488_1)
                  (try rw [show 0 * 3 = 0 from rfl] at hx488_1)
                  (try rw [Addr.add_zero'] at hx488_1)
                  (try rw [show ((0 : Int)).toNat = 0 from rfl] at hx488_2)
                  (try rw [show 0 * 3 = 0 from rfl] at hx488_2)
                  (try rw [Addr.add_zero'] at hx488_2)
                  have HR488_1 := Aside0.mk hi488_1
                  have HC488_1 := Aside0.mk hl488_1
                  clear hi488_1 hl488_1
                  replace p488 := eq_true p488
                  replace q488 := eq_true q488
                  have p489 : 0 ≤ (0 : Int) := (by omega)
                  have q489 : 0 < (t475.length : Int) := of_decide_eq_true (by first | (with_reducible assumption) | assumption)
                  obtain ⟨ad489, A489_1, c489_1, e489, hx489_0, hx489_1, hx489_2, hl489_1, hi489_1⟩ := at_T37 (Kd.V_reads' HO_479000.out).2.2 0 p489 q489
                  obtain rfl : ad488 = ad489 := (by injection e489)
                  obtain ⟨ce489, hce489, hMe489, hcc489⟩ := Kd.V_get HO_479000.out z37 0 p489 (by first | exact q489 | exact of_decide_eq_true (by first | (with_reducible assumption) | assumption) | (have e_ := (Kd.V_reads' HO_479000.out).1; omega))
                  obtain ⟨ua489_1, uc489_1, rfl, ul489_1, ge489_1⟩ := k37_openF hMe489
                  have hv489_1 := hcc489 1 _ rfl
                  rw [add_field _ _ 1 (by omega)] at hv489_1
                  replace hv489_1 := Option.some.inj (hv489_1.symm.trans hx489_1)
                  injection hv489_1 with hva_ hvn_ hvc_
                  rw [hva_] at ge489_1
                  rw [hvc_] at ul489_1
                  have HL489_1 := Aside0.mk (show Kd.V (Kd.int .u8) 5 _ w.heap.size _ _ ((rd_T37 t475 0).f1) from Kd.V_mk ul489_1 ge489_1)
                  clear hva_ hvn_ hvc_ ge489_1 ul489_1
                  clear hcc489 hce489
                  have qi489 : (0 < t475.length) = True := eq_true (by omega)
                  (try rw [show ((0 : Int)).toNat = 0 from rfl] at hx489_0)
                  (try rw [show 0 * 3 = 0 from rfl] at hx489_0)
                  (try rw [Addr.add_zero'] at hx489_0)
                  (try rw [show ((0 : Int)).toNat = 0 from rfl] at hx489_1)
                  (try rw [show 0 * 3 = 0 from rfl] at hx489_1)
                  (try rw [Addr.add_zero'] at hx489_1)
                  (try rw [show ((0 : Int)).toNat = 0 from rfl] at hx489_2)
                  (try rw [show 0 * 3 = 0 from rfl] at hx489_2)
                  (try rw [Addr.add_zero'] at hx489_2)
                  have HR489_1 := Aside0.mk hi489_1
                  have HC489_1 := Aside0.mk hl489_1
                  clear hi489_1 hl489_1
                  replace p489 := eq_true p489
                  replace q489 := eq_true q489
                  have ea_ := Option.some.inj (hx488_1.symm.trans hx489_1)
                  injection ea_ with ea_ en_ ec_
                  subst ea_
                  subst ec_
                  clear en_
                  go_wp2
                  go_meet
                  case rel => exact ⟨_, (!((rd_T37 t475 0).f2)), (by first | rfl | (simp; done) | (simp [*]; done)), H', ⟨by have := HK1.out; first | omega | exact Nat.le_refl _⟩, ⟨by (with_reducible repeat (first | apply Kd.V_alloc | apply Kd.V_drewN | apply Kd.V_drew)); exact HO_11.out⟩, ⟨by (with_reducible repeat (first | apply Kd.V_alloc | apply Kd.V_drewN | apply Kd.V_drew)); exact HO_13.out⟩, ⟨by (with_reducible repeat (first | apply Kd.N_alloc | apply Kd.N_drewN | apply Kd.N_drew)); exact HO_475000.out⟩, ⟨by (with_reducible repeat (first | apply Kd.V_alloc | apply Kd.V_drewN | apply Kd.V_drew)); exact HO_479000.out⟩, ⟨by (with_reducible repeat (first | refine blk_drewN ?_ _ | refine blk_drew ?_ | refine blk_alloc ?_ _)); exact BK474.out⟩, ⟨by (with_reducible repeat (first | refine blk_drewN ?_ _ | refine blk_drew ?_ | refine blk_alloc ?_ _)); exact BK478.out⟩, ⟨by repeat (first | (with_reducible first | exact HB.out | apply below_alloc | apply pw_below_drewN | apply below_drew1 | refine below_set ?_ GE474.out | refine below_set ?_ GE478.out) | exact HB.out)⟩⟩
              · rw [if_neg c43] at H
                exact absurd H (by simp)
          case rest =>
            clear HC37
            try clear c1
            try clear c2
            try clear p2
            try clear c3
            try clear c4
            try clear p4
            try clear q4
            try clear hx4
            try clear qi4
            try clear c6
            try clear p6
            try clear c7
            try clear c8
            try clear c9
            try clear c10
            try clear c11
            try clear c20
            try clear c23
            try clear c30
            try clear c30b0
            try clear c31
            try clear c31b0
            try clear c32
            try clear c32b0
            try clear c33
            try clear c35
            try clear c38
            try clear c40
            try clear c40b0
            try clear c40b1
            try clear c40b2
            try clear c41
            try clear c43
            try clear c43b0
            try clear c43b1
            try clear c44
            try clear c44b0
            try clear c45
            try clear c47
            try clear c48
            try clear p48
            try clear q48
            try clear hx48
            try clear qi48
            try clear hcz17_0
            try clear hcz19_0
            try clear hcz24_0
            try clear hcz26_0
            try clear hcz28_0
            try clear hcz34_0
            try clear hcz36_0
            try clear hcz39_0
            try clear hcz42_0
            try clear hcz46_0
            try clear hcz48_0
            try clear hfz17_0
            try clear hfz19_0
            try clear hfz24_0
            try clear hfz26_0
            try clear hfz28_0
            try clear hfz34_0
            try clear hfz36_0
            try clear hfz39_0
            try clear hfz42_0
            try clear hfz46_0
            try clear hfz48_0
            try clear hx487_0
            try clear hx487_1
            try clear hx487_2
            try clear hx488_0
            try clear hx488_1
            try clear hx488_2
            try clear hx489_0
            try clear hx489_1
            try clear hx489_2
            try clear p2
            try clear p487
            try clear p488
            try clear p489
            try clear q487
            try clear q488
            try clear q489
            obtain ⟨kq, x17_36, rfl, HA, HJ36, HO_11, HO_13, HO_475000, HO_479000, BK474, BK478, HB⟩ := hcut
            cases kq with
            | zero => exact absurd HA.out (by simp [godwitlaw07_ChainVacuum.j1])
            | succ kj36 =>
              have H := HA.out
              clear HA
              simp only [godwitlaw07_ChainVacuum.j1] at H
              by_cases c49 : t469 = true
              · subst c49
                have H1 : ((chain_Sane.f kj36 t475).bind fun t490 => (if t490 = true then (if (strOfNums t479).toList = (strOfNums t483).toList then (if (t482 == t486) = true then (if x15_1 ≤ 1 then (if x17_36 = true then ((chain_Since.f t471 a1).bind fun t491 => ((godwitlaw07_theirs.f kj36 t491).bind fun t494 => ((chain_Since.f t475 a1).bind fun t497 => ((godwitlaw07_theirs.f kj36 t497).bind fun t500 => ((godwitref07_Same.f kj36 t494 t500).bind fun t503 => (if t503 = true then (some (decide ((t475.length : Int) ≤ (t471.length : Int)))) else (none))))))) else (none)) else (none)) else (none)) else (none)) else (none))) = some r := by rw [if_pos rfl] at H; exact H
                clear H
                have H := H1
                clear H1
                replace H := Option.bind_eq_some_iff.mp H
                obtain ⟨t490, A500, H⟩ := H
                replace H : (if t490 = true then (if (strOfNums t479).toList = (strOfNums t483).toList then (if (t482 == t486) = true then (if x15_1 ≤ 1 then (if x17_36 = true then ((chain_Since.f t471 a1).bind fun t491 => ((godwitlaw07_theirs.f kj36 t491).bind fun t494 => ((chain_Since.f t475 a1).bind fun t497 => ((godwitlaw07_theirs.f kj36 t497).bind fun t500 => ((godwitref07_Same.f kj36 t494 t500).bind fun t503 => (if t503 = true then (some (decide ((t475.length : Int) ≤ (t471.length : Int)))) else (none))))))) else (none)) else (none)) else (none)) else (none)) else (none)) = some r := H
                have A50 := Aside0.mk A500
                clear A500
                by_cases c51 : t490 = true
                · subst c51
                  have H1 : (if (strOfNums t479).toList = (strOfNums t483).toList then (if (t482 == t486) = true then (if x15_1 ≤ 1 then (if x17_36 = true then ((chain_Since.f t471 a1).bind fun t491 => ((godwitlaw07_theirs.f kj36 t491).bind fun t494 => ((chain_Since.f t475 a1).bind fun t497 => ((godwitlaw07_theirs.f kj36 t497).bind fun t500 => ((godwitref07_Same.f kj36 t494 t500).bind fun t503 => (if t503 = true then (some (decide ((t475.length : Int) ≤ (t471.length : Int)))) else (none))))))) else (none)) else (none)) else (none)) else (none)) = some r := by rw [if_pos rfl] at H; exact H
                  clear H
                  have H := H1
                  clear H1
                  by_cases c52 : (strOfNums t479).toList = (strOfNums t483).toList
                  · rw [if_pos c52] at H
                    have c52b0 : ((strOfNums t479).toList == (strOfNums t483).toList) = true := beq_iff_eq.mpr c52
                    have c52b1 : ((strOfNums t479).toList != (strOfNums t483).toList) = false := bne_eq_false_iff_eq.mpr c52
                    clear c52
                    by_cases c53 : (t482 == t486) = true
                    · rw [if_pos c53] at H
                      have c53b0 : (t482 == t486) = true := c53
                      (try (have c53b1 : decide (t482 = t486) = true := by simpa using c53))
                      (try (have c53b2 : (t482 == t486) = true := by simpa using c53))
                      clear c53
                      by_cases c54 : x15_1 ≤ 1
                      · rw [if_pos c54] at H
                        have c54b0 : decide (x15_1 ≤ 1) = true := decide_eq_true c54
                        clear c54
                        by_cases c55 : x17_36 = true
                        · subst c55
                          have H1 : ((chain_Since.f t471 a1).bind fun t491 => ((godwitlaw07_theirs.f kj36 t491).bind fun t494 => ((chain_Since.f t475 a1).bind fun t497 => ((godwitlaw07_theirs.f kj36 t497).bind fun t500 => ((godwitref07_Same.f kj36 t494 t500).bind fun t503 => (if t503 = true then (some (decide ((t475.length : Int) ≤ (t471.length : Int)))) else (none))))))) = some r := by rw [if_pos rfl] at H; exact H
                          clear H
                          have H := H1
                          clear H1
                          replace H := Option.bind_eq_some_iff.mp H
                          obtain ⟨t491, A560, H⟩ := H
                          replace H : ((godwitlaw07_theirs.f kj36 t491).bind fun t494 => ((chain_Since.f t475 a1).bind fun t497 => ((godwitlaw07_theirs.f kj36 t497).bind fun t500 => ((godwitref07_Same.f kj36 t494 t500).bind fun t503 => (if t503 = true then (some (decide ((t475.length : Int) ≤ (t471.length : Int)))) else (none)))))) = some r := H
                          have A56 := Aside0.mk A560
                          clear A560
                          replace H := Option.bind_eq_some_iff.mp H
                          obtain ⟨t494, A570, H⟩ := H
                          replace H : ((chain_Since.f t475 a1).bind fun t497 => ((godwitlaw07_theirs.f kj36 t497).bind fun t500 => ((godwitref07_Same.f kj36 t494 t500).bind fun t503 => (if t503 = true then (some (decide ((t475.length : Int) ≤ (t471.length : Int)))) else (none))))) = some r := H
                          have A57 := Aside0.mk A570
                          clear A570
                          replace H := Option.bind_eq_some_iff.mp H
                          obtain ⟨t497, A580, H⟩ := H
                          replace H : ((godwitlaw07_theirs.f kj36 t497).bind fun t500 => ((godwitref07_Same.f kj36 t494 t500).bind fun t503 => (if t503 = true then (some (decide ((t475.length : Int) ≤ (t471.length : Int)))) else (none)))) = some r := H
                          have A58 := Aside0.mk A580
                          clear A580
                          replace H := Option.bind_eq_some_iff.mp H
                          obtain ⟨t500, A590, H⟩ := H
                          replace H : ((godwitref07_Same.f kj36 t494 t500).bind fun t503 => (if t503 = true then (some (decide ((t475.length : Int) ≤ (t471.length : Int)))) else (none))) = some r := H
                          have A59 := Aside0.mk A590
                          clear A590
                          replace H := Option.bind_eq_some_iff.mp H
                          obtain ⟨t503, A600, H⟩ := H
                          replace H : (if t503 = true then (some (decide ((t475.length : Int) ≤ (t471.length : Int)))) else (none)) = some r := H
                          have A60 := Aside0.mk A600
                          clear A600
                          by_cases c61 : t503 = true
                          · subst c61
                            have H1 : (some (decide ((t475.length : Int) ≤ (t471.length : Int)))) = some r := by rw [if_pos rfl] at H; exact H
                            clear H
                            have H := H1
                            clear H1
                            obtain rfl := Option.some.inj H
                            try go_wp2
                            have n0_ := Aside0.mk (Kd.V_drew HO_11.out)
                            have n1_ := Aside0.mk (Kd.V_drew HO_13.out)
                            have n2_ := Aside0.mk (Kd.N_drew HO_475000.out)
                            have n3_ := Aside0.mk (Kd.V_drew HO_479000.out)
                            have n4_ := Aside0.mk (blk_drew BK474.out)
                            have n5_ := Aside0.mk (blk_drew BK478.out)
                            have n6_ := Aside0.mk (below_drew1 HB.out)
                            clear HO_11
                            clear HO_13
                            clear HO_475000
                            clear HO_479000
                            clear BK474
                            clear BK478
                            clear HB
                            have HO_11 := n0_
                            have HO_13 := n1_
                            have HO_475000 := n2_
                            have HO_479000 := n3_
                            have BK474 := n4_
                            have BK478 := n5_
                            have HB := n6_
                            clear n0_ n1_ n2_ n3_ n4_ n5_ n6_
                            refine start_ (n := 45) (S := fun w' => w'.cell? ⟨gb478, 0, none⟩ = some (.slice Ao22 t475.length co22) ∧ w'.cell? ⟨gb474, 0, none⟩ = some (.slice Ao16 t471.length co16) ∧ (convert 35 9 v480).run Try.prog w' = .ok (.string (strOfNums t479)) w' ∧ (convert 35 9 v484).run Try.prog w' = .ok (.string (strOfNums t483)) w') (ds := []) #[false, false, false, false, false, false, false, false, false, false, false, false, false, false, false, false, false, false, false, false, false, false, false, false, false, false, false, false, false, false, false, false, false, false, false, false, false, false, false, false, false, false, false, false, false] (by kernel_rfl) rfl rfl ⟨(blk_cell BK478.out 0).trans rfl, (blk_cell BK474.out 0).trans rfl, V_string (P := Try.prog) Try.underlying35 Try.underlying5 Try.underlying9 HO_11.out, V_string (P := Try.prog) Try.underlying35 Try.underlying5 Try.underlying9 HO_13.out⟩ (fun hHeld => ?_); refine with_tabW godwitlaw07_ChainVacuum.tab16 godwitlaw07_ChainVacuum.bits16 (fun HT_ HW_ => ?_)
                            generalize wc.drew = w62 at HO_11 HO_13 HO_475000 HO_479000 BK474 BK478 HB hHeld ⊢
                            refine pure_ (i := 0) (N := some 82) (v := ?_) (a' := ?_) #[true, false, false, false, false, false, false, false, false, false, false, false, false, false, false, false, false, false, false, false, false, false, false, false, false, false, false, false, false, false, false, false, false, false, false, false, false, false, false, false, false, false, false, false, false] rfl rfl (any_of HT_.out (by kernel_rfl)) (fun _ _ _ h => h) (Or.inl ⟨by rfl, ?_⟩) ?_ ?_
                            rotate_left
                            · intro w'
                              go_simp
                              with_reducible rfl
                            rotate_left
                            · simp only [Act.put, List.setIfInBounds_toArray, List.set_cons_zero, List.set_cons_succ, i64_w, i32_w]
                              rfl
                            refine pure_ (i := 1) (N := some 83) (v := ?_) (a' := ?_) #[true, true, false, false, false, false, false, false, false, false, false, false, false, false, false, false, false, false, false, false, false, false, false, false, false, false, false, false, false, false, false, false, false, false, false, false, false, false, false, false, false, false, false, false, false] rfl rfl (any_of HT_.out (by kernel_rfl)) (fun _ _ _ h => h) (Or.inl ⟨by rfl, ?_⟩) ?_ ?_
                            rotate_left
                            · intro w'
                              go_simp
                              with_reducible rfl
                            rotate_left
                            · simp only [Act.put, List.setIfInBounds_toArray, List.set_cons_zero, List.set_cons_succ, i64_w, i32_w]
                              rfl
                            refine take_ (i := 2) (N := some 84) (v := ?_) (a' := ?_) #[true, true, true, false, false, false, false, false, false, false, false, false, false, false, false, false, false, false, false, false, false, false, false, false, false, false, false, false, false, false, false, false, false, false, false, false, false, false, false, false, false, false, false, false, false] rfl rfl (take_ofW HT_.out HW_.out (by kernel_rfl)) (fun _ _ _ h => h) (Or.inl ⟨by rfl, ?_⟩) hHeld ?_ ?_
                            rotate_left
                            · rintro w' ⟨s0, s1, s2, s3⟩
                              go_simp
                              with_reducible rfl
                            rotate_left
                            · simp only [Act.put, List.setIfInBounds_toArray, List.set_cons_zero, List.set_cons_succ, i64_w, i32_w]
                              rfl
                            refine one_ (i := 3) (N := some 85) #[true, true, true, true, false, false, false, false, false, false, false, false, false, false, false, false, false, false, false, false, false, false, false, false, false, false, false, false, false, false, false, false, false, false, false, false, false, false, false, false, false, false, false, false, false] rfl rfl (one_of HT_.out (by kernel_rfl)) (by decide) (fun K hK => ?_)
                            refine goes_ Try.func24 (by kernel_rfl) rfl #[.agg #[.slice Ao22 t475.length co22]] (by rfl) rfl rfl (by (try simp only [List.map_toArray, List.map_cons, List.map_nil]); first | done | rfl | (simp only [List.length_drop, List.length_take]; rfl)) ?_
                            with_reducible refine (chain_Sane.calls kj36 _ _ t475 true _ ?side1 ?side2 A50.out).mono ?_
                            (case side1 => repeat (first | exact (Kd.V_reads' HO_479000.out).2.2 | (with_reducible refine Kd.C_alloc ?_ _) | (with_reducible refine Kd.C_drewN ?_ _) | (with_reducible refine Kd.C_drew ?_)))
                            (case side2 => exact (Kd.V_reads' HO_479000.out).2.1)
                            rintro e w63 ⟨rfl, hb⟩
                            refine ⟨_, rfl, ?_⟩
                            have n0_ := Aside0.mk (Kd.V_below (by (with_reducible repeat (first | apply Kd.V_alloc | apply Kd.V_drewN | apply Kd.V_drew)); exact HO_11.out) hb)
                            have n1_ := Aside0.mk (Kd.V_below (by (with_reducible repeat (first | apply Kd.V_alloc | apply Kd.V_drewN | apply Kd.V_drew)); exact HO_13.out) hb)
                            have n2_ := Aside0.mk (Kd.N_below (by (with_reducible repeat (first | apply Kd.N_alloc | apply Kd.N_drewN | apply Kd.N_drew)); exact HO_475000.out) hb)
                            have n3_ := Aside0.mk (Kd.V_below (by (with_reducible repeat (first | apply Kd.V_alloc | apply Kd.V_drewN | apply Kd.V_drew)); exact HO_479000.out) hb)
                            have n4_ := Aside0.mk (blk_below (g := gb474) (o := .cells #[.slice Ao16 t471.length co16] 29 (0, 0)) (by (with_reducible repeat (first | refine blk_drewN ?_ _ | refine blk_drew ?_ | refine blk_alloc ?_ _)); exact BK474.out) hb)
                            have n5_ := Aside0.mk (blk_below (g := gb478) (o := .cells #[.slice Ao22 t475.length co22] 29 (0, 0)) (by (with_reducible repeat (first | refine blk_drewN ?_ _ | refine blk_drew ?_ | refine blk_alloc ?_ _)); exact BK478.out) hb)
                            have n6_ := Aside0.mk (below_step (by repeat (first | (with_reducible first | exact HB.out | apply below_alloc | apply pw_below_drewN | apply below_drew1 | refine below_set ?_ GE474.out | refine below_set ?_ GE478.out) | exact HB.out)) hb)
                            clear HO_11
                            clear HO_13
                            clear HO_475000
                            clear HO_479000
                            clear BK474
                            clear BK478
                            clear HB
                            have HO_11 := n0_
                            have HO_13 := n1_
                            have HO_475000 := n2_
                            have HO_479000 := n3_
                            have BK474 := n4_
                            have BK478 := n5_
                            have HB := n6_
                            clear n0_ n1_ n2_ n3_ n4_ n5_ n6_
                            (try clear hb)
                            (try clear hb2)
                            (try clear hk)
                            (try clear hi)
                            refine hK.out _ _ ⟨(blk_cell BK478.out 0).trans rfl, (blk_cell BK474.out 0).trans rfl, V_string (P := Try.prog) Try.underlying35 Try.underlying5 Try.underlying9 HO_11.out, V_string (P := Try.prog) Try.underlying35 Try.underlying5 Try.underlying9 HO_13.out⟩ (fun hHeld => ?_)
                            clear hK K
                            refine norm_ (a' := ?_) ?_ ?_
                            rotate_left
                            · show Act.put _ (some 85) _ = _
                              simp only [Act.put, List.setIfInBounds_toArray, List.set_cons_zero, List.set_cons_succ, i64_w, i32_w]
                              rfl
                            refine pure_ (i := 4) (N := some 86) (v := ?_) (a' := ?_) #[true, true, true, true, true, false, false, false, false, false, false, false, false, false, false, false, false, false, false, false, false, false, false, false, false, false, false, false, false, false, false, false, false, false, false, false, false, false, false, false, false, false, false, false, false] rfl rfl (any_of HT_.out (by kernel_rfl)) (fun _ _ _ h => h) (Or.inl ⟨by rfl, ?_⟩) ?_ ?_
                            rotate_left
                            · intro w'
                              go_simp
                              with_reducible rfl
                            rotate_left
                            · simp only [Act.put, List.setIfInBounds_toArray, List.set_cons_zero, List.set_cons_succ, i64_w, i32_w]
                              rfl
                            refine pure_ (i := 5) (N := some 87) (v := ?_) (a' := ?_) #[true, true, true, true, true, true, false, false, false, false, false, false, false, false, false, false, false, false, false, false, false, false, false, false, false, false, false, false, false, false, false, false, false, false, false, false, false, false, false, false, false, false, false, false, false] rfl rfl (any_of HT_.out (by kernel_rfl)) (fun _ _ _ h => h) (Or.inl ⟨by rfl, ?_⟩) ?_ ?_
                            rotate_left
                            · intro w'
                              go_simp
                              with_reducible rfl
                            rotate_left
                            · simp only [Act.put, List.setIfInBounds_toArray, List.set_cons_zero, List.set_cons_succ, i64_w, i32_w]
                              rfl
                            refine pure_ (i := 6) (N := some 88) (v := ?_) (a' := ?_) #[true, true, true, true, true, true, true, false, false, false, false, false, false, false, false, false, false, false, false, false, false, false, false, false, false, false, false, false, false, false, false, false, false, false, false, false, false, false, false, false, false, false, false, false, false] rfl rfl (any_of HT_.out (by kernel_rfl)) (fun _ _ _ h => h) (Or.inl ⟨by rfl, ?_⟩) ?_ ?_
                            rotate_left
                            · intro w'
                              go_simp
                              with_reducible rfl
                            rotate_left
                            · simp only [Act.put, List.setIfInBounds_toArray, List.set_cons_zero, List.set_cons_succ, i64_w, i32_w]
                              rfl
                            refine pure_ (i := 8) (N := some 90) (v := ?_) (a' := ?_) #[true, true, true, true, true, true, true, false, true, false, false, false, false, false, false, false, false, false, false, false, false, false, false, false, false, false, false, false, false, false, false, false, false, false, false, false, false, false, false, false, false, false, false, false, false] rfl rfl (any_of HT_.out (by kernel_rfl)) (fun _ _ _ h => h) (Or.inl ⟨by rfl, ?_⟩) ?_ ?_
                            rotate_left
                            · intro w'
                              go_simp
                              with_reducible rfl
                            rotate_left
                            · simp only [Act.put, List.setIfInBounds_toArray, List.set_cons_zero, List.set_cons_succ, i64_w, i32_w]
                              rfl
                            refine take_ (i := 7) (N := some 89) (v := ?_) (a' := ?_) #[true, true, true, true, true, true, true, true, true, false, false, false, false, false, false, false, false, false, false, false, false, false, false, false, false, false, false, false, false, false, false, false, false, false, false, false, false, false, false, false, false, false, false, false, false] rfl rfl (take_ofW HT_.out HW_.out (by kernel_rfl)) (fun _ _ _ h => h) (Or.inl ⟨by rfl, ?_⟩) hHeld ?_ ?_
                            rotate_left
                            · rintro w' ⟨s0, s1, s2, s3⟩
                              go_simp
                              with_reducible rfl
                            rotate_left
                            · simp only [Act.put, List.setIfInBounds_toArray, List.set_cons_zero, List.set_cons_succ, i64_w, i32_w]
                              rfl
                            refine take_ (i := 9) (N := some 91) (v := ?_) (a' := ?_) #[true, true, true, true, true, true, true, true, true, true, false, false, false, false, false, false, false, false, false, false, false, false, false, false, false, false, false, false, false, false, false, false, false, false, false, false, false, false, false, false, false, false, false, false, false] rfl rfl (take_ofW HT_.out HW_.out (by kernel_rfl)) (fun _ _ _ h => h) (Or.inl ⟨by rfl, ?_⟩) hHeld ?_ ?_
                            rotate_left
                            · rintro w' ⟨s0, s1, s2, s3⟩
                              go_simp
                              with_reducible rfl
                            rotate_left
                            · simp only [Act.put, List.setIfInBounds_toArray, List.set_cons_zero, List.set_cons_succ, i64_w, i32_w]
                              rfl
                            refine pure_ (i := 10) (N := some 92) (v := ?_) (a' := ?_) #[true, true, true, true, true, true, true, true, true, true, true, false, false, false, false, false, false, false, false, false, false, false, false, false, false, false, false, false, false, false, false, false, false, false, false, false, false, false, false, false, false, false, false, false, false] rfl rfl (any_of HT_.out (by kernel_rfl)) (fun _ _ _ h => h) (Or.inl ⟨by rfl, ?_⟩) ?_ ?_
                            rotate_left
                            · intro w'
                              go_simp
                              with_reducible rfl
                            rotate_left
                            · simp only [Act.put, List.setIfInBounds_toArray, List.set_cons_zero, List.set_cons_succ, i64_w, i32_w]
                              rfl
                            refine pure_ (i := 11) (N := some 93) (v := ?_) (a' := ?_) #[true, true, true, true, true, true, true, true, true, true, true, true, false, false, false, false, false, false, false, false, false, false, false, false, false, false, false, false, false, false, false, false, false, false, false, false, false, false, false, false, false, false, false, false, false] rfl rfl (any_of HT_.out (by kernel_rfl)) (fun _ _ _ h => h) (Or.inl ⟨by rfl, ?_⟩) ?_ ?_
                            rotate_left
                            · intro w'
                              go_simp
                              with_reducible rfl
                            rotate_left
                            · simp only [Act.put, List.setIfInBounds_toArray, List.set_cons_zero, List.set_cons_succ, i64_w, i32_w]
                              rfl
                            refine pure_ (i := 12) (N := some 94) (v := ?_) (a' := ?_) #[true, true, true, true, true, true, true, true, true, true, true, true, true, false, false, false, false, false, false, false, false, false, false, false, false, false, false, false, false, false, false, false, false, false, false, false, false, false, false, false, false, false, false, false, false] rfl rfl (any_of HT_.out (by kernel_rfl)) (fun _ _ _ h => h) (Or.inl ⟨by rfl, ?_⟩) ?_ ?_
                            rotate_left
                            · intro w'
                              go_simp
                              with_reducible rfl
                            rotate_left
                            · simp only [Act.put, List.setIfInBounds_toArray, List.set_cons_zero, List.set_cons_succ, i64_w, i32_w]
                              rfl
                            refine pure_ (i := 13) (N := some 95) (v := ?_) (a' := ?_) #[true, true, true, true, true, true, true, true, true, true, true, true, true, true, false, false, false, false, false, false, false, false, false, false, false, false, false, false, false, false, false, false, false, false, false, false, false, false, false, false, false, false, false, false, false] rfl rfl (any_of HT_.out (by kernel_rfl)) (fun _ _ _ h => h) (Or.inl ⟨by rfl, ?_⟩) ?_ ?_
                            rotate_left
                            · intro w'
                              go_simp
                              with_reducible rfl
                            rotate_left
                            · simp only [Act.put, List.setIfInBounds_toArray, List.set_cons_zero, List.set_cons_succ, i64_w, i32_w]
                              rfl
                            refine pure_ (i := 14) (N := some 96) (v := ?_) (a' := ?_) #[true, true, true, true, true, true, true, true, true, true, true, true, true, true, true, false, false, false, false, false, false, false, false, false, false, false, false, false, false, false, false, false, false, false, false, false, false, false, false, false, false, false, false, false, false] rfl rfl (any_of HT_.out (by kernel_rfl)) (fun _ _ _ h => h) (Or.inl ⟨by rfl, ?_⟩) ?_ ?_
                            rotate_left
                            · intro w'
                              go_simp
                              with_reducible rfl
                            rotate_left
                            · simp only [Act.put, List.setIfInBounds_toArray, List.set_cons_zero, List.set_cons_succ, i64_w, i32_w]
                              rfl
                            refine pure_ (i := 15) (N := some 97) (v := ?_) (a' := ?_) #[true, true, true, true, true, true, true, true, true, true, true, true, true, true, true, true, false, false, false, false, false, false, false, false, false, false, false, false, false, false, false, false, false, false, false, false, false, false, false, false, false, false, false, false, false] rfl rfl (any_of HT_.out (by kernel_rfl)) (fun _ _ _ h => h) (Or.inl ⟨by rfl, ?_⟩) ?_ ?_
                            rotate_left
                            · intro w'
                              go_simp
                              with_reducible rfl
                            rotate_left
                            · simp only [Act.put, List.setIfInBounds_toArray, List.set_cons_zero, List.set_cons_succ, i64_w, i32_w]
                              rfl
                            refine pure_ (i := 16) (N := some 98) (v := ?_) (a' := ?_) #[true, true, true, true, true, true, true, true, true, true, true, true, true, true, true, true, true, false, false, false, false, false, false, false, false, false, false, false, false, false, false, false, false, false, false, false, false, false, false, false, false, false, false, false, false] rfl rfl (any_of HT_.out (by kernel_rfl)) (fun _ _ _ h => h) (Or.inl ⟨by rfl, ?_⟩) ?_ ?_
                            rotate_left
                            · intro w'
                              go_simp
                              with_reducible rfl
                            rotate_left
                            · simp only [Act.put, List.setIfInBounds_toArray, List.set_cons_zero, List.set_cons_succ, i64_w, i32_w]
                              rfl
                            refine pure_ (i := 17) (N := some 99) (v := ?_) (a' := ?_) #[true, true, true, true, true, true, true, true, true, true, true, true, true, true, true, true, true, true, false, false, false, false, false, false, false, false, false, false, false, false, false, false, false, false, false, false, false, false, false, false, false, false, false, false, false] rfl rfl (any_of HT_.out (by kernel_rfl)) (fun _ _ _ h => h) (Or.inl ⟨by rfl, ?_⟩) ?_ ?_
                            rotate_left
                            · intro w'
                              go_simp
                              with_reducible rfl
                            rotate_left
                            · simp only [Act.put, List.setIfInBounds_toArray, List.set_cons_zero, List.set_cons_succ, i64_w, i32_w]
                              rfl
                            refine pure_ (i := 18) (N := some 100) (v := ?_) (a' := ?_) #[true, true, true, true, true, true, true, true, true, true, true, true, true, true, true, true, true, true, true, false, false, false, false, false, false, false, false, false, false, false, false, false, false, false, false, false, false, false, false, false, false, false, false, false, false] rfl rfl (any_of HT_.out (by kernel_rfl)) (fun _ _ _ h => h) (Or.inl ⟨by rfl, ?_⟩) ?_ ?_
                            rotate_left
                            · intro w'
                              go_simp
                              with_reducible rfl
                            rotate_left
                            · simp only [Act.put, List.setIfInBounds_toArray, List.set_cons_zero, List.set_cons_succ, i64_w, i32_w]
                              rfl
                            refine pure_ (i := 19) (N := some 101) (v := ?_) (a' := ?_) #[true, true, true, true, true, true, true, true, true, true, true, true, true, true, true, true, true, true, true, true, false, false, false, false, false, false, false, false, false, false, false, false, false, false, false, false, false, false, false, false, false, false, false, false, false] rfl rfl (any_of HT_.out (by kernel_rfl)) (fun _ _ _ h => h) (Or.inl ⟨by rfl, ?_⟩) ?_ ?_
                            rotate_left
                            · intro w'
                              go_simp
                              with_reducible rfl
                            rotate_left
                            · simp only [Act.put, List.setIfInBounds_toArray, List.set_cons_zero, List.set_cons_succ, i64_w, i32_w]
                              rfl
                            refine pure_ (i := 20) (N := some 102) (v := ?_) (a' := ?_) #[true, true, true, true, true, true, true, true, true, true, true, true, true, true, true, true, true, true, true, true, true, false, false, false, false, false, false, false, false, false, false, false, false, false, false, false, false, false, false, false, false, false, false, false, false] rfl rfl (any_of HT_.out (by kernel_rfl)) (fun _ _ _ h => h) (Or.inl ⟨by rfl, ?_⟩) ?_ ?_
                            rotate_left
                            · intro w'
                              go_simp
                              with_reducible rfl
                            rotate_left
                            · simp only [Act.put, List.setIfInBounds_toArray, List.set_cons_zero, List.set_cons_succ, i64_w, i32_w]
                              rfl
                            refine pure_ (i := 21) (N := some 103) (v := ?_) (a' := ?_) #[true, true, true, true, true, true, true, true, true, true, true, true, true, true, true, true, true, true, true, true, true, true, false, false, false, false, false, false, false, false, false, false, false, false, false, false, false, false, false, false, false, false, false, false, false] rfl rfl (any_of HT_.out (by kernel_rfl)) (fun _ _ _ h => h) (Or.inl ⟨by rfl, ?_⟩) ?_ ?_
                            rotate_left
                            · intro w'
                              go_simp
                              with_reducible rfl
                            rotate_left
                            · simp only [Act.put, List.setIfInBounds_toArray, List.set_cons_zero, List.set_cons_succ, i64_w, i32_w]
                              rfl
                            refine pure_ (i := 22) (N := some 104) (v := ?_) (a' := ?_) #[true, true, true, true, true, true, true, true, true, true, true, true, true, true, true, true, true, true, true, true, true, true, true, false, false, false, false, false, false, false, false, false, false, false, false, false, false, false, false, false, false, false, false, false, false] rfl rfl (any_of HT_.out (by kernel_rfl)) (fun _ _ _ h => h) (Or.inl ⟨by rfl, ?_⟩) ?_ ?_
                            rotate_left
                            · intro w'
                              go_simp
                              with_reducible rfl
                            rotate_left
                            · simp only [Act.put, List.setIfInBounds_toArray, List.set_cons_zero, List.set_cons_succ, i64_w, i32_w]
                              rfl
                            refine pure_ (i := 23) (N := some 105) (v := ?_) (a' := ?_) #[true, true, true, true, true, true, true, true, true, true, true, true, true, true, true, true, true, true, true, true, true, true, true, true, false, false, false, false, false, false, false, false, false, false, false, false, false, false, false, false, false, false, false, false, false] rfl rfl (any_of HT_.out (by kernel_rfl)) (fun _ _ _ h => h) (Or.inl ⟨by rfl, ?_⟩) ?_ ?_
                            rotate_left
                            · intro w'
                              go_simp
                              with_reducible rfl
                            rotate_left
                            · simp only [Act.put, List.setIfInBounds_toArray, List.set_cons_zero, List.set_cons_succ, i64_w, i32_w]
                              rfl
                            refine pure_ (i := 24) (N := some 106) (v := ?_) (a' := ?_) #[true, true, true, true, true, true, true, true, true, true, true, true, true, true, true, true, true, true, true, true, true, true, true, true, true, false, false, false, false, false, false, false, false, false, false, false, false, false, false, false, false, false, false, false, false] rfl rfl (any_of HT_.out (by kernel_rfl)) (fun _ _ _ h => h) (Or.inl ⟨by rfl, ?_⟩) ?_ ?_
                            rotate_left
                            · intro w'
                              go_simp
                              with_reducible rfl
                            rotate_left
                            · simp only [Act.put, List.setIfInBounds_toArray, List.set_cons_zero, List.set_cons_succ, i64_w, i32_w]
                              rfl
                            refine pure_ (i := 26) (N := some 108) (v := ?_) (a' := ?_) #[true, true, true, true, true, true, true, true, true, true, true, true, true, true, true, true, true, true, true, true, true, true, true, true, true, false, true, false, false, false, false, false, false, false, false, false, false, false, false, false, false, false, false, false, false] rfl rfl (any_of HT_.out (by kernel_rfl)) (fun _ _ _ h => h) (Or.inl ⟨by rfl, ?_⟩) ?_ ?_
                            rotate_left
                            · intro w'
                              go_simp
                              with_reducible rfl
                            rotate_left
                            · simp only [Act.put, List.setIfInBounds_toArray, List.set_cons_zero, List.set_cons_succ, i64_w, i32_w]
                              rfl
                            refine pure_ (i := 30) (N := some 112) (v := ?_) (a' := ?_) #[true, true, true, true, true, true, true, true, true, true, true, true, true, true, true, true, true, true, true, true, true, true, true, true, true, false, true, false, false, false, true, false, false, false, false, false, false, false, false, false, false, false, false, false, false] rfl rfl (any_of HT_.out (by kernel_rfl)) (fun _ _ _ h => h) (Or.inl ⟨by rfl, ?_⟩) ?_ ?_
                            rotate_left
                            · intro w'
                              go_simp
                              with_reducible rfl
                            rotate_left
                            · simp only [Act.put, List.setIfInBounds_toArray, List.set_cons_zero, List.set_cons_succ, i64_w, i32_w]
                              rfl
                            refine take_ (i := 25) (N := some 107) (v := ?_) (a' := ?_) #[true, true, true, true, true, true, true, true, true, true, true, true, true, true, true, true, true, true, true, true, true, true, true, true, true, true, true, false, false, false, true, false, false, false, false, false, false, false, false, false, false, false, false, false, false] rfl rfl (take_ofW HT_.out HW_.out (by kernel_rfl)) (fun _ _ _ h => h) (Or.inl ⟨by rfl, ?_⟩) hHeld ?_ ?_
                            rotate_left
                            · rintro w' ⟨s0, s1, s2, s3⟩
                              go_simp
                              with_reducible rfl
                            rotate_left
                            · simp only [Act.put, List.setIfInBounds_toArray, List.set_cons_zero, List.set_cons_succ, i64_w, i32_w]
                              rfl
                            refine take_ (i := 29) (N := some 111) (v := ?_) (a' := ?_) #[true, true, true, true, true, true, true, true, true, true, true, true, true, true, true, true, true, true, true, true, true, true, true, true, true, true, true, false, false, true, true, false, false, false, false, false, false, false, false, false, false, false, false, false, false] rfl rfl (take_ofW HT_.out HW_.out (by kernel_rfl)) (fun _ _ _ h => h) (Or.inl ⟨by rfl, ?_⟩) hHeld ?_ ?_
                            rotate_left
                            · rintro w' ⟨s0, s1, s2, s3⟩
                              go_simp
                              with_reducible rfl
                            rotate_left
                            · simp only [Act.put, List.setIfInBounds_toArray, List.set_cons_zero, List.set_cons_succ, i64_w, i32_w]
                              rfl
                            refine one_ (i := 27) (N := some 109) #[true, true, true, true, true, true, true, true, true, true, true, true, true, true, true, true, true, true, true, true, true, true, true, true, true, true, true, true, false, true, true, false, false, false, false, false, false, false, false, false, false, false, false, false, false] rfl rfl (one_of HT_.out (by kernel_rfl)) (by decide) (fun K hK => ?_)
                            refine goes_ Try.func15 (by kernel_rfl) rfl #[.agg #[.slice Ao16 t471.length co16], .int .i64 a1] (by rfl) rfl rfl (by (try simp only [List.map_toArray, List.map_cons, List.map_nil]); first | done | rfl | (simp only [List.length_drop, List.length_take]; rfl)) ?_
                            with_reducible refine (chain_Since.calls (fun k_ => (k_ ≠ gb474 ∧ k_ ≠ gb478)) _ _ t471 a1 t491 _ ?side1 A56.out).mono ?_
                            (case side1 => exact Kd.N_V (HO_475000.out))
                            rintro e w65 ⟨v492, rfl, ho0, hb⟩
                            refine ⟨_, rfl, ?_⟩
                            have n0_ := Aside0.mk (Kd.V_below (by (with_reducible repeat (first | apply Kd.V_alloc | apply Kd.V_drewN | apply Kd.V_drew)); exact HO_11.out) hb)
                            have n1_ := Aside0.mk (Kd.V_below (by (with_reducible repeat (first | apply Kd.V_alloc | apply Kd.V_drewN | apply Kd.V_drew)); exact HO_13.out) hb)
                            have n2_ := Aside0.mk (Kd.N_below (by (with_reducible repeat (first | apply Kd.N_alloc | apply Kd.N_drewN | apply Kd.N_drew)); exact HO_475000.out) hb)
                            have n3_ := Aside0.mk (Kd.V_below (by (with_reducible repeat (first | apply Kd.V_alloc | apply Kd.V_drewN | apply Kd.V_drew)); exact HO_479000.out) hb)
                            have n4_ := Aside0.mk (Kd.V_lower (Kd.V_mono (ok' := fun k_ => k_ ≠ gb474 ∧ k_ ≠ gb478) ho0 (fun k_ hk_ => ⟨Or.elim hk_ (fun hs_ => hs_.1) (fun hn_ => (Kd.freshB (g := gb474) (o := .cells #[.slice Ao16 t471.length co16] 29 (0, 0)) (by (with_reducible repeat (first | refine blk_drewN ?_ _ | refine blk_drew ?_ | refine blk_alloc ?_ _)); exact BK474.out) k_ hn_)), Or.elim hk_ (fun hs_ => hs_.2) (fun hn_ => (Kd.freshB (g := gb478) (o := .cells #[.slice Ao22 t475.length co22] 29 (0, 0)) (by (with_reducible repeat (first | refine blk_drewN ?_ _ | refine blk_drew ?_ | refine blk_alloc ?_ _)); exact BK478.out) k_ hn_))⟩)) (below_size (by repeat (first | (with_reducible first | exact HB.out | apply below_alloc | apply pw_below_drewN | apply below_drew1 | refine below_set ?_ GE474.out | refine below_set ?_ GE478.out) | exact HB.out))))
                            have n5_ := Aside0.mk (blk_below (g := gb474) (o := .cells #[.slice Ao16 t471.length co16] 29 (0, 0)) (by (with_reducible repeat (first | refine blk_drewN ?_ _ | refine blk_drew ?_ | refine blk_alloc ?_ _)); exact BK474.out) hb)
                            have n6_ := Aside0.mk (blk_below (g := gb478) (o := .cells #[.slice Ao22 t475.length co22] 29 (0, 0)) (by (with_reducible repeat (first | refine blk_drewN ?_ _ | refine blk_drew ?_ | refine blk_alloc ?_ _)); exact BK478.out) hb)
                            have n7_ := Aside0.mk (below_step (by repeat (first | (with_reducible first | exact HB.out | apply below_alloc | apply pw_below_drewN | apply below_drew1 | refine below_set ?_ GE474.out | refine below_set ?_ GE478.out) | exact HB.out)) hb)
                            clear HO_11
                            clear HO_13
                            clear HO_475000
                            clear HO_479000
                            clear BK474
                            clear BK478
                            clear HB
                            have HO_11 := n0_
                            have HO_13 := n1_
                            have HO_475000 := n2_
                            have HO_479000 := n3_
                            have HO493 := n4_
                            have BK474 := n5_
                            have BK478 := n6_
                            have HB := n7_
                            clear n0_ n1_ n2_ n3_ n4_ n5_ n6_ n7_
                            (try clear hb)
                            (try clear hb2)
                            (try clear hk)
                            (try clear hi)
                            (try clear ho0)
                            obtain ⟨Ao66, co66, eo66⟩ := Kd.V_slice HO493.out
                            (first | subst eo66 | (injection eo66 with f1_ f2_ f3_; have f4_ := f1_.symm; have f5_ := f3_.symm; clear f1_ f2_ f3_; subst f4_; subst f5_))
                            refine hK.out _ _ ⟨(blk_cell BK478.out 0).trans rfl, (blk_cell BK474.out 0).trans rfl, V_string (P := Try.prog) Try.underlying35 Try.underlying5 Try.underlying9 HO_11.out, V_string (P := Try.prog) Try.underlying35 Try.underlying5 Try.underlying9 HO_13.out⟩ (fun hHeld => ?_)
                            clear hK K
                            refine norm_ (a' := ?_) ?_ ?_
                            rotate_left
                            · show Act.put _ (some 109) _ = _
                              simp only [Act.put, List.setIfInBounds_toArray, List.set_cons_zero, List.set_cons_succ, i64_w, i32_w]
                              rfl
                            refine one_ (i := 28) (N := some 110) #[true, true, true, true, true, true, true, true, true, true, true, true, true, true, true, true, true, true, true, true, true, true, true, true, true, true, true, true, true, true, true, false, false, false, false, false, false, false, false, false, false, false, false, false, false] rfl rfl (one_of HT_.out (by kernel_rfl)) (by decide) (fun K hK => ?_)
                            refine goes_ Try.func13 (by kernel_rfl) rfl #[.slice Ao66 t491.length co66] (by rfl) rfl rfl (by (try simp only [List.map_toArray, List.map_cons, List.map_nil]); first | done | rfl | (simp only [List.length_drop, List.length_take]; rfl)) ?_
                            with_reducible refine (godwitlaw07_theirs.calls kj36 (fun k_ => (k_ ≠ gb474 ∧ k_ ≠ gb478)) _ _ t491 t494 _ ?side1 A57.out).mono ?_
                            (case side1 => exact HO493.out)
                            rintro e w67 ⟨v495, rfl, ho0, hb⟩
                            refine ⟨_, rfl, ?_⟩
                            have n0_ := Aside0.mk (Kd.V_elder' (by (with_reducible repeat (first | apply Kd.V_alloc | apply Kd.V_drewN | apply Kd.V_drew)); exact HO_11.out) (Kd.N_base ho0) hb)
                            have n1_ := Aside0.mk (Kd.V_elder' (by (with_reducible repeat (first | apply Kd.V_alloc | apply Kd.V_drewN | apply Kd.V_drew)); exact HO_13.out) (Kd.N_base ho0) hb)
                            have n2_ := Aside0.mk (Kd.N_elder' (by (with_reducible repeat (first | apply Kd.N_alloc | apply Kd.N_drewN | apply Kd.N_drew)); exact HO_475000.out) (Kd.N_base ho0) hb)
                            have n3_ := Aside0.mk (Kd.V_elder' (by (with_reducible repeat (first | apply Kd.V_alloc | apply Kd.V_drewN | apply Kd.V_drew)); exact HO_479000.out) (Kd.N_base ho0) hb)
                            have n4_ := Aside0.mk (Kd.V_elder' (by (with_reducible repeat (first | apply Kd.V_alloc | apply Kd.V_drewN | apply Kd.V_drew)); exact HO493.out) (Kd.N_base ho0) hb)
                            have n5_ := Aside0.mk (Kd.N_lower (Kd.N_mono (ok' := fun k_ => k_ ≠ gb474 ∧ k_ ≠ gb478) ho0 (fun k_ hk_ => ⟨Or.elim hk_ (fun hs_ => hs_.1) (fun hn_ => (Kd.freshB (g := gb474) (o := .cells #[.slice Ao16 t471.length co16] 29 (0, 0)) (by (with_reducible repeat (first | refine blk_drewN ?_ _ | refine blk_drew ?_ | refine blk_alloc ?_ _)); exact BK474.out) k_ hn_)), Or.elim hk_ (fun hs_ => hs_.2) (fun hn_ => (Kd.freshB (g := gb478) (o := .cells #[.slice Ao22 t475.length co22] 29 (0, 0)) (by (with_reducible repeat (first | refine blk_drewN ?_ _ | refine blk_drew ?_ | refine blk_alloc ?_ _)); exact BK478.out) k_ hn_))⟩)) (below_size (by repeat (first | (with_reducible first | exact HB.out | apply below_alloc | apply pw_below_drewN | apply below_drew1 | refine below_set ?_ GE474.out | refine below_set ?_ GE478.out) | exact HB.out))))
                            have n6_ := Aside0.mk (blk_below (g := gb474) (o := .cells #[.slice Ao16 t471.length co16] 29 (0, 0)) (by (with_reducible repeat (first | refine blk_drewN ?_ _ | refine blk_drew ?_ | refine blk_alloc ?_ _)); exact BK474.out) hb)
                            have n7_ := Aside0.mk (blk_below (g := gb478) (o := .cells #[.slice Ao22 t475.length co22] 29 (0, 0)) (by (with_reducible repeat (first | refine blk_drewN ?_ _ | refine blk_drew ?_ | refine blk_alloc ?_ _)); exact BK478.out) hb)
                            have n8_ := Aside0.mk (below_step (by repeat (first | (with_reducible first | exact HB.out | apply below_alloc | apply pw_below_drewN | apply below_drew1 | refine below_set ?_ GE474.out | refine below_set ?_ GE478.out) | exact HB.out)) hb)
                            clear HO_11
                            clear HO_13
                            clear HO_475000
                            clear HO_479000
                            clear HO493
                            clear BK474
                            clear BK478
                            clear HB
                            have HO_11 := n0_
                            have HO_13 := n1_
                            have HO_475000 := n2_
                            have HO_479000 := n3_
                            have HO493 := n4_
                            have HO496 := n5_
                            have BK474 := n6_
                            have BK478 := n7_
                            have HB := n8_
                            clear n0_ n1_ n2_ n3_ n4_ n5_ n6_ n7_ n8_
                            (try clear hb)
                            (try clear hb2)
                            (try clear hk)
                            (try clear hi)
                            (try clear ho0)
                            refine hK.out _ _ ⟨(blk_cell BK478.out 0).trans rfl, (blk_cell BK474.out 0).trans rfl, V_string (P := Try.prog) Try.underlying35 Try.underlying5 Try.underlying9 HO_11.out, V_string (P := Try.prog) Try.underlying35 Try.underlying5 Try.underlying9 HO_13.out⟩ (fun hHeld => ?_)
                            clear hK K
                            refine norm_ (a' := ?_) ?_ ?_
                            rotate_left
                            · show Act.put _ (some 110) _ = _
                              simp only [Act.put, List.setIfInBounds_toArray, List.set_cons_zero, List.set_cons_succ, i64_w, i32_w]
                              rfl
                            refine one_ (i := 31) (N := some 113) #[true, true, true, true, true, true, true, true, true, true, true, true, true, true, true, true, true, true, true, true, true, true, true, true, true, true, true, true, true, true, true, true, false, false, false, false, false, false, false, false, false, false, false, false, false] rfl rfl (one_of HT_.out (by kernel_rfl)) (by decide) (fun K hK => ?_)
                            refine goes_ Try.func15 (by kernel_rfl) rfl #[.agg #[.slice Ao22 t475.length co22], .int .i64 a1] (by rfl) rfl rfl (by (try simp only [List.map_toArray, List.map_cons, List.map_nil]); first | done | rfl | (simp only [List.length_drop, List.length_take]; rfl)) ?_
                            with_reducible refine (chain_Since.calls (fun k_ => ((k_ ≠ gb474 ∧ k_ ≠ gb478) ∧ some k_ ≠ (v495 : Value).ownBlock)) _ _ t475 a1 t497 _ ?side1 A58.out).mono ?_
                            (case side1 => exact HO_479000.out)
                            rintro e w68 ⟨v498, rfl, ho0, hb⟩
                            refine ⟨_, rfl, ?_⟩
                            have n0_ := Aside0.mk (Kd.V_below (by (with_reducible repeat (first | apply Kd.V_alloc | apply Kd.V_drewN | apply Kd.V_drew)); exact HO_11.out) hb)
                            have n1_ := Aside0.mk (Kd.V_below (by (with_reducible repeat (first | apply Kd.V_alloc | apply Kd.V_drewN | apply Kd.V_drew)); exact HO_13.out) hb)
                            have n2_ := Aside0.mk (Kd.N_below (by (with_reducible repeat (first | apply Kd.N_alloc | apply Kd.N_drewN | apply Kd.N_drew)); exact HO_475000.out) hb)
                            have n3_ := Aside0.mk (Kd.V_below (by (with_reducible repeat (first | apply Kd.V_alloc | apply Kd.V_drewN | apply Kd.V_drew)); exact HO_479000.out) hb)
                            have n4_ := Aside0.mk (Kd.V_below (by (with_reducible repeat (first | apply Kd.V_alloc | apply Kd.V_drewN | apply Kd.V_drew)); exact HO493.out) hb)
                            have n5_ := Aside0.mk (Kd.N_below (by (with_reducible repeat (first | apply Kd.N_alloc | apply Kd.N_drewN | apply Kd.N_drew)); exact HO496.out) hb)
                            have n6_ := Aside0.mk (Kd.V_lower (Kd.V_mono (ok' := fun k_ => some k_ ≠ (v495 : Value).ownBlock ∧ k_ ≠ gb474 ∧ k_ ≠ gb478) ho0 (fun k_ hk_ => ⟨Or.elim hk_ (fun hs_ => hs_.2) (fun hn_ => (Kd.fresh' (Kd.N_lt (by (with_reducible repeat (first | apply Kd.N_alloc | apply Kd.N_drewN | apply Kd.N_drew)); exact HO496.out)) k_ hn_)), Or.elim hk_ (fun hs_ => hs_.1.1) (fun hn_ => (Kd.freshB (g := gb474) (o := .cells #[.slice Ao16 t471.length co16] 29 (0, 0)) (by (with_reducible repeat (first | refine blk_drewN ?_ _ | refine blk_drew ?_ | refine blk_alloc ?_ _)); exact BK474.out) k_ hn_)), Or.elim hk_ (fun hs_ => hs_.1.2) (fun hn_ => (Kd.freshB (g := gb478) (o := .cells #[.slice Ao22 t475.length co22] 29 (0, 0)) (by (with_reducible repeat (first | refine blk_drewN ?_ _ | refine blk_drew ?_ | refine blk_alloc ?_ _)); exact BK478.out) k_ hn_))⟩)) (below_size (by repeat (first | (with_reducible first | exact HB.out | apply below_alloc | apply pw_below_drewN | apply below_drew1 | refine below_set ?_ GE474.out | refine below_set ?_ GE478.out) | exact HB.out))))
                            have n7_ := Aside0.mk (blk_below (g := gb474) (o := .cells #[.slice Ao16 t471.length co16] 29 (0, 0)) (by (with_reducible repeat (first | refine blk_drewN ?_ _ | refine blk_drew ?_ | refine blk_alloc ?_ _)); exact BK474.out) hb)
                            have n8_ := Aside0.mk (blk_below (g := gb478) (o := .cells #[.slice Ao22 t475.length co22] 29 (0, 0)) (by (with_reducible repeat (first | refine blk_drewN ?_ _ | refine blk_drew ?_ | refine blk_alloc ?_ _)); exact BK478.out) hb)
                            have n9_ := Aside0.mk (below_step (by repeat (first | (with_reducible first | exact HB.out | apply below_alloc | apply pw_below_drewN | apply below_drew1 | refine below_set ?_ GE474.out | refine below_set ?_ GE478.out) | exact HB.out)) hb)
                            clear HO_11
                            clear HO_13
                            clear HO_475000
                            clear HO_479000
                            clear HO493
                            clear HO496
                            clear BK474
                            clear BK478
                            clear HB
                            have HO_11 := n0_
                            have HO_13 := n1_
                            have HO_475000 := n2_
                            have HO_479000 := n3_
                            have HO493 := n4_
                            have HO496 := n5_
                            have HO499 := n6_
                            have BK474 := n7_
                            have BK478 := n8_
                            have HB := n9_
                            clear n0_ n1_ n2_ n3_ n4_ n5_ n6_ n7_ n8_ n9_
                            (try clear hb)
                            (try clear hb2)
                            (try clear hk)
                            (try clear hi)
                            (try clear ho0)
                            obtain ⟨Ao69, co69, eo69⟩ := Kd.V_slice HO499.out
                            (first | subst eo69 | (injection eo69 with f1_ f2_ f3_; have f4_ := f1_.symm; have f5_ := f3_.symm; clear f1_ f2_ f3_; subst f4_; subst f5_))
                            refine hK.out _ _ ⟨(blk_cell BK478.out 0).trans rfl, (blk_cell BK474.out 0).trans rfl, V_string (P := Try.prog) Try.underlying35 Try.underlying5 Try.underlying9 HO_11.out, V_string (P := Try.prog) Try.underlying35 Try.underlying5 Try.underlying9 HO_13.out⟩ (fun hHeld => ?_)
                            clear hK K
                            refine norm_ (a' := ?_) ?_ ?_
                            rotate_left
                            · show Act.put _ (some 113) _ = _
                              simp only [Act.put, List.setIfInBounds_toArray, List.set_cons_zero, List.set_cons_succ, i64_w, i32_w]
                              rfl
                            refine one_ (i := 32) (N := some 114) #[true, true, true, true, true, true, true, true, true, true, true, true, true, true, true, true, true, true, true, true, true, true, true, true, true, true, true, true, true, true, true, true, true, false, false, false, false, false, false, false, false, false, false, false, false] rfl rfl (one_of HT_.out (by kernel_rfl)) (by decide) (fun K hK => ?_)
                            refine goes_ Try.func13 (by kernel_rfl) rfl #[.slice Ao69 t497.length co69] (by rfl) rfl rfl (by (try simp only [List.map_toArray, List.map_cons, List.map_nil]); first | done | rfl | (simp only [List.length_drop, List.length_take]; rfl)) ?_
                            with_reducible refine (godwitlaw07_theirs.calls kj36 (fun k_ => (some k_ ≠ (v495 : Value).ownBlock ∧ (k_ ≠ gb474 ∧ k_ ≠ gb478))) _ _ t497 t500 _ ?side1 A59.out).mono ?_
                            (case side1 => exact HO499.out)
                            rintro e w70 ⟨v501, rfl, ho0, hb⟩
                            refine ⟨_, rfl, ?_⟩
                            have n0_ := Aside0.mk (Kd.V_elder' (by (with_reducible repeat (first | apply Kd.V_alloc | apply Kd.V_drewN | apply Kd.V_drew)); exact HO_11.out) (Kd.N_base ho0) hb)
                            have n1_ := Aside0.mk (Kd.V_elder' (by (with_reducible repeat (first | apply Kd.V_alloc | apply Kd.V_drewN | apply Kd.V_drew)); exact HO_13.out) (Kd.N_base ho0) hb)
                            have n2_ := Aside0.mk (Kd.N_elder' (by (with_reducible repeat (first | apply Kd.N_alloc | apply Kd.N_drewN | apply Kd.N_drew)); exact HO_475000.out) (Kd.N_base ho0) hb)
                            have n3_ := Aside0.mk (Kd.V_elder' (by (with_reducible repeat (first | apply Kd.V_alloc | apply Kd.V_drewN | apply Kd.V_drew)); exact HO_479000.out) (Kd.N_base ho0) hb)
                            have n4_ := Aside0.mk (Kd.V_elder' (by (with_reducible repeat (first | apply Kd.V_alloc | apply Kd.V_drewN | apply Kd.V_drew)); exact HO493.out) (Kd.N_base ho0) hb)
                            have n5_ := Aside0.mk (Kd.N_elder' (by (with_reducible repeat (first | apply Kd.N_alloc | apply Kd.N_drewN | apply Kd.N_drew)); exact HO496.out) (Kd.N_base ho0) hb)
                            have n6_ := Aside0.mk (Kd.V_elder' (by (with_reducible repeat (first | apply Kd.V_alloc | apply Kd.V_drewN | apply Kd.V_drew)); exact HO499.out) (Kd.N_base ho0) hb)
                            have n7_ := Aside0.mk (Kd.N_lower (Kd.N_mono (ok' := fun k_ => some k_ ≠ (v495 : Value).ownBlock ∧ k_ ≠ gb474 ∧ k_ ≠ gb478) ho0 (fun k_ hk_ => ⟨Or.elim hk_ (fun hs_ => hs_.1) (fun hn_ => (Kd.fresh' (Kd.N_lt (by (with_reducible repeat (first | apply Kd.N_alloc | apply Kd.N_drewN | apply Kd.N_drew)); exact HO496.out)) k_ hn_)), Or.elim hk_ (fun hs_ => hs_.2.1) (fun hn_ => (Kd.freshB (g := gb474) (o := .cells #[.slice Ao16 t471.length co16] 29 (0, 0)) (by (with_reducible repeat (first | refine blk_drewN ?_ _ | refine blk_drew ?_ | refine blk_alloc ?_ _)); exact BK474.out) k_ hn_)), Or.elim hk_ (fun hs_ => hs_.2.2) (fun hn_ => (Kd.freshB (g := gb478) (o := .cells #[.slice Ao22 t475.length co22] 29 (0, 0)) (by (with_reducible repeat (first | refine blk_drewN ?_ _ | refine blk_drew ?_ | refine blk_alloc ?_ _)); exact BK478.out) k_ hn_))⟩)) (below_size (by repeat (first | (with_reducible first | exact HB.out | apply below_alloc | apply pw_below_drewN | apply below_drew1 | refine below_set ?_ GE474.out | refine below_set ?_ GE478.out) | exact HB.out))))
                            have n8_ := Aside0.mk (blk_below (g := gb474) (o := .cells #[.slice Ao16 t471.length co16] 29 (0, 0)) (by (with_reducible repeat (first | refine blk_drewN ?_ _ | refine blk_drew ?_ | refine blk_alloc ?_ _)); exact BK474.out) hb)
                            have n9_ := Aside0.mk (blk_below (g := gb478) (o := .cells #[.slice Ao22 t475.length co22] 29 (0, 0)) (by (with_reducible repeat (first | refine blk_drewN ?_ _ | refine blk_drew ?_ | refine blk_alloc ?_ _)); exact BK478.out) hb)
                            have n10_ := Aside0.mk (below_step (by repeat (first | (with_reducible first | exact HB.out | apply below_alloc | apply pw_below_drewN | apply below_drew1 | refine below_set ?_ GE474.out | refine below_set ?_ GE478.out) | exact HB.out)) hb)
                            clear HO_11
                            clear HO_13
                            clear HO_475000
                            clear HO_479000
                            clear HO493
                            clear HO496
                            clear HO499
                            clear BK474
                            clear BK478
                            clear HB
                            have HO_11 := n0_
                            have HO_13 := n1_
                            have HO_475000 := n2_
                            have HO_479000 := n3_
                            have HO493 := n4_
                            have HO496 := n5_
                            have HO499 := n6_
                            have HO502 := n7_
                            have BK474 := n8_
                            have BK478 := n9_
                            have HB := n10_
                            clear n0_ n1_ n2_ n3_ n4_ n5_ n6_ n7_ n8_ n9_ n10_
                            (try clear hb)
                            (try clear hb2)
                            (try clear hk)
                            (try clear hi)
                            (try clear ho0)
                            obtain ⟨Ao71, co71, eo71⟩ := Kd.N_slice HO496.out
                            (first | subst eo71 | (injection eo71 with f1_ f2_ f3_; have f4_ := f1_.symm; have f5_ := f3_.symm; clear f1_ f2_ f3_; subst f4_; subst f5_))
                            obtain ⟨Ao72, co72, eo72⟩ := Kd.N_slice HO502.out
                            (first | subst eo72 | (injection eo72 with f1_ f2_ f3_; have f4_ := f1_.symm; have f5_ := f3_.symm; clear f1_ f2_ f3_; subst f4_; subst f5_))
                            refine hK.out _ _ ⟨(blk_cell BK478.out 0).trans rfl, (blk_cell BK474.out 0).trans rfl, V_string (P := Try.prog) Try.underlying35 Try.underlying5 Try.underlying9 HO_11.out, V_string (P := Try.prog) Try.underlying35 Try.underlying5 Try.underlying9 HO_13.out⟩ (fun hHeld => ?_)
                            clear hK K
                            refine norm_ (a' := ?_) ?_ ?_
                            rotate_left
                            · show Act.put _ (some 114) _ = _
                              simp only [Act.put, List.setIfInBounds_toArray, List.set_cons_zero, List.set_cons_succ, i64_w, i32_w]
                              rfl
                            refine one_ (i := 33) (N := some 115) #[true, true, true, true, true, true, true, true, true, true, true, true, true, true, true, true, true, true, true, true, true, true, true, true, true, true, true, true, true, true, true, true, true, true, false, false, false, false, false, false, false, false, false, false, false] rfl rfl (one_of HT_.out (by kernel_rfl)) (by decide) (fun K hK => ?_)
                            refine goes_ Try.func12 (by kernel_rfl) rfl #[.slice Ao71 t494.length co71, .slice Ao72 t500.length co72] (by rfl) rfl rfl (by (try simp only [List.map_toArray, List.map_cons, List.map_nil]); first | done | rfl | (simp only [List.length_drop, List.length_take]; rfl)) ?_
                            with_reducible refine (godwitref07_Same.calls kj36 _ _ t494 _ _ t500 true _ ?side1 ?side2 ?side3 ?side4 A60.out).mono ?_
                            (case side1 => repeat (first | exact (Kd.N_reads' HO496.out).2.2 | (with_reducible refine Kd.C_alloc ?_ _) | (with_reducible refine Kd.C_drewN ?_ _) | (with_reducible refine Kd.C_drew ?_)))
                            (case side2 => exact (Kd.N_reads' HO496.out).2.1)
                            (case side3 => repeat (first | exact (Kd.N_reads' HO502.out).2.2 | (with_reducible refine Kd.C_alloc ?_ _) | (with_reducible refine Kd.C_drewN ?_ _) | (with_reducible refine Kd.C_drew ?_)))
                            (case side4 => exact (Kd.N_reads' HO502.out).2.1)
                            rintro e w73 ⟨rfl, hb⟩
                            refine ⟨_, rfl, ?_⟩
                            have n0_ := Aside0.mk (Kd.V_below (by (with_reducible repeat (first | apply Kd.V_alloc | apply Kd.V_drewN | apply Kd.V_drew)); exact HO_11.out) hb)
                            have n1_ := Aside0.mk (Kd.V_below (by (with_reducible repeat (first | apply Kd.V_alloc | apply Kd.V_drewN | apply Kd.V_drew)); exact HO_13.out) hb)
                            have n2_ := Aside0.mk (Kd.N_below (by (with_reducible repeat (first | apply Kd.N_alloc | apply Kd.N_drewN | apply Kd.N_drew)); exact HO_475000.out) hb)
                            have n3_ := Aside0.mk (Kd.V_below (by (with_reducible repeat (first | apply Kd.V_alloc | apply Kd.V_drewN | apply Kd.V_drew)); exact HO_479000.out) hb)
                            have n4_ := Aside0.mk (Kd.V_below (by (with_reducible repeat (first | apply Kd.V_alloc | apply Kd.V_drewN | apply Kd.V_drew)); exact HO493.out) hb)
                            have n5_ := Aside0.mk (Kd.N_below (by (with_reducible repeat (first | apply Kd.N_alloc | apply Kd.N_drewN | apply Kd.N_drew)); exact HO496.out) hb)
                            have n6_ := Aside0.mk (Kd.V_below (by (with_reducible repeat (first | apply Kd.V_alloc | apply Kd.V_drewN | apply Kd.V_drew)); exact HO499.out) hb)
                            have n7_ := Aside0.mk (Kd.N_below (by (with_reducible repeat (first | apply Kd.N_alloc | apply Kd.N_drewN | apply Kd.N_drew)); exact HO502.out) hb)
                            have n8_ := Aside0.mk (blk_below (g := gb474) (o := .cells #[.slice Ao16 t471.length co16] 29 (0, 0)) (by (with_reducible repeat (first | refine blk_drewN ?_ _ | refine blk_drew ?_ | refine blk_alloc ?_ _)); exact BK474.out) hb)
                            have n9_ := Aside0.mk (blk_below (g := gb478) (o := .cells #[.slice Ao22 t475.length co22] 29 (0, 0)) (by (with_reducible repeat (first | refine blk_drewN ?_ _ | refine blk_drew ?_ | refine blk_alloc ?_ _)); exact BK478.out) hb)
                            have n10_ := Aside0.mk (below_step (by repeat (first | (with_reducible first | exact HB.out | apply below_alloc | apply pw_below_drewN | apply below_drew1 | refine below_set ?_ GE474.out | refine below_set ?_ GE478.out) | exact HB.out)) hb)
                            clear HO_11
                            clear HO_13
                            clear HO_475000
                            clear HO_479000
                            clear HO493
                            clear HO496
                            clear HO499
                            clear HO502
                            clear BK474
                            clear BK478
                            clear HB
                            have HO_11 := n0_
                            have HO_13 := n1_
                            have HO_475000 := n2_
                            have HO_479000 := n3_
                            have HO493 := n4_
                            have HO496 := n5_
                            have HO499 := n6_
                            have HO502 := n7_
                            have BK474 := n8_
                            have BK478 := n9_
                            have HB := n10_
                            clear n0_ n1_ n2_ n3_ n4_ n5_ n6_ n7_ n8_ n9_ n10_
                            (try clear hb)
                            (try clear hb2)
                            (try clear hk)
                            (try clear hi)
                            refine hK.out _ _ ⟨(blk_cell BK478.out 0).trans rfl, (blk_cell BK474.out 0).trans rfl, V_string (P := Try.prog) Try.underlying35 Try.underlying5 Try.underlying9 HO_11.out, V_string (P := Try.prog) Try.underlying35 Try.underlying5 Try.underlying9 HO_13.out⟩ (fun hHeld => ?_)
                            clear hK K
                            refine norm_ (a' := ?_) ?_ ?_
                            rotate_left
                            · show Act.put _ (some 115) _ = _
                              simp only [Act.put, List.setIfInBounds_toArray, List.set_cons_zero, List.set_cons_succ, i64_w, i32_w]
                              rfl
                            refine pure_ (i := 34) (N := some 116) (v := ?_) (a' := ?_) #[true, true, true, true, true, true, true, true, true, true, true, true, true, true, true, true, true, true, true, true, true, true, true, true, true, true, true, true, true, true, true, true, true, true, true, false, false, false, false, false, false, false, false, false, false] rfl rfl (any_of HT_.out (by kernel_rfl)) (fun _ _ _ h => h) (Or.inl ⟨by rfl, ?_⟩) ?_ ?_
                            rotate_left
                            · intro w'
                              go_simp
                              with_reducible rfl
                            rotate_left
                            · simp only [Act.put, List.setIfInBounds_toArray, List.set_cons_zero, List.set_cons_succ, i64_w, i32_w]
                              rfl
                            refine pure_ (i := 35) (N := some 117) (v := ?_) (a' := ?_) #[true, true, true, true, true, true, true, true, true, true, true, true, true, true, true, true, true, true, true, true, true, true, true, true, true, true, true, true, true, true, true, true, true, true, true, true, false, false, false, false, false, false, false, false, false] rfl rfl (any_of HT_.out (by kernel_rfl)) (fun _ _ _ h => h) (Or.inl ⟨by rfl, ?_⟩) ?_ ?_
                            rotate_left
                            · intro w'
                              go_simp
                              with_reducible rfl
                            rotate_left
                            · simp only [Act.put, List.setIfInBounds_toArray, List.set_cons_zero, List.set_cons_succ, i64_w, i32_w]
                              rfl
                            refine pure_ (i := 36) (N := some 118) (v := ?_) (a' := ?_) #[true, true, true, true, true, true, true, true, true, true, true, true, true, true, true, true, true, true, true, true, true, true, true, true, true, true, true, true, true, true, true, true, true, true, true, true, true, false, false, false, false, false, false, false, false] rfl rfl (any_of HT_.out (by kernel_rfl)) (fun _ _ _ h => h) (Or.inl ⟨by rfl, ?_⟩) ?_ ?_
                            rotate_left
                            · intro w'
                              go_simp
                              with_reducible rfl
                            rotate_left
                            · simp only [Act.put, List.setIfInBounds_toArray, List.set_cons_zero, List.set_cons_succ, i64_w, i32_w]
                              rfl
                            refine pure_ (i := 39) (N := some 121) (v := ?_) (a' := ?_) #[true, true, true, true, true, true, true, true, true, true, true, true, true, true, true, true, true, true, true, true, true, true, true, true, true, true, true, true, true, true, true, true, true, true, true, true, true, false, false, true, false, false, false, false, false] rfl rfl (any_of HT_.out (by kernel_rfl)) (fun _ _ _ h => h) (Or.inl ⟨by rfl, ?_⟩) ?_ ?_
                            rotate_left
                            · intro w'
                              go_simp
                              with_reducible rfl
                            rotate_left
                            · simp only [Act.put, List.setIfInBounds_toArray, List.set_cons_zero, List.set_cons_succ, i64_w, i32_w]
                              rfl
                            refine take_ (i := 37) (N := some 119) (v := ?_) (a' := ?_) #[true, true, true, true, true, true, true, true, true, true, true, true, true, true, true, true, true, true, true, true, true, true, true, true, true, true, true, true, true, true, true, true, true, true, true, true, true, true, false, true, false, false, false, false, false] rfl rfl (take_ofW HT_.out HW_.out (by kernel_rfl)) (fun _ _ _ h => h) (Or.inl ⟨by rfl, ?_⟩) hHeld ?_ ?_
                            rotate_left
                            · rintro w' ⟨s0, s1, s2, s3⟩
                              go_simp
                              with_reducible rfl
                            rotate_left
                            · simp only [Act.put, List.setIfInBounds_toArray, List.set_cons_zero, List.set_cons_succ, i64_w, i32_w]
                              rfl
                            refine pure_ (i := 38) (N := some 120) (v := ?_) (a' := ?_) #[true, true, true, true, true, true, true, true, true, true, true, true, true, true, true, true, true, true, true, true, true, true, true, true, true, true, true, true, true, true, true, true, true, true, true, true, true, true, true, true, false, false, false, false, false] rfl rfl (any_of HT_.out (by kernel_rfl)) (fun _ _ _ h => h) (Or.inl ⟨by rfl, ?_⟩) ?_ ?_
                            rotate_left
                            · intro w'
                              go_simp
                              with_reducible rfl
                            rotate_left
                            · simp only [Act.put, List.setIfInBounds_toArray, List.set_cons_zero, List.set_cons_succ, i64_w, i32_w]
                              rfl
                            refine take_ (i := 40) (N := some 122) (v := ?_) (a' := ?_) #[true, true, true, true, true, true, true, true, true, true, true, true, true, true, true, true, true, true, true, true, true, true, true, true, true, true, true, true, true, true, true, true, true, true, true, true, true, true, true, true, true, false, false, false, false] rfl rfl (take_ofW HT_.out HW_.out (by kernel_rfl)) (fun _ _ _ h => h) (Or.inl ⟨by rfl, ?_⟩) hHeld ?_ ?_
                            rotate_left
                            · rintro w' ⟨s0, s1, s2, s3⟩
                              go_simp
                              with_reducible rfl
                            rotate_left
                            · simp only [Act.put, List.setIfInBounds_toArray, List.set_cons_zero, List.set_cons_succ, i64_w, i32_w]
                              rfl
                            refine pure_ (i := 41) (N := some 123) (v := ?_) (a' := ?_) #[true, true, true, true, true, true, true, true, true, true, true, true, true, true, true, true, true, true, true, true, true, true, true, true, true, true, true, true, true, true, true, true, true, true, true, true, true, true, true, true, true, true, false, false, false] rfl rfl (any_of HT_.out (by kernel_rfl)) (fun _ _ _ h => h) (Or.inl ⟨by rfl, ?_⟩) ?_ ?_
                            rotate_left
                            · intro w'
                              go_simp
                              with_reducible rfl
                            rotate_left
                            · simp only [Act.put, List.setIfInBounds_toArray, List.set_cons_zero, List.set_cons_succ, i64_w, i32_w]
                              rfl
                            refine pure_ (i := 42) (N := some 124) (v := ?_) (a' := ?_) #[true, true, true, true, true, true, true, true, true, true, true, true, true, true, true, true, true, true, true, true, true, true, true, true, true, true, true, true, true, true, true, true, true, true, true, true, true, true, true, true, true, true, true, false, false] rfl rfl (any_of HT_.out (by kernel_rfl)) (fun _ _ _ h => h) (Or.inl ⟨by rfl, ?_⟩) ?_ ?_
                            rotate_left
                            · intro w'
                              go_simp
                              with_reducible rfl
                            rotate_left
                            · simp only [Act.put, List.setIfInBounds_toArray, List.set_cons_zero, List.set_cons_succ, i64_w, i32_w]
                              rfl
                            refine pure_ (i := 43) (N := some 125) (v := ?_) (a' := ?_) #[true, true, true, true, true, true, true, true, true, true, true, true, true, true, true, true, true, true, true, true, true, true, true, true, true, true, true, true, true, true, true, true, true, true, true, true, true, true, true, true, true, true, true, true, false] rfl rfl (any_of HT_.out (by kernel_rfl)) (fun _ _ _ h => h) (Or.inl ⟨by rfl, ?_⟩) ?_ ?_
                            rotate_left
                            · intro w'
                              go_simp
                              with_reducible rfl
                            rotate_left
                            · simp only [Act.put, List.setIfInBounds_toArray, List.set_cons_zero, List.set_cons_succ, i64_w, i32_w]
                              rfl
                            refine pure_ (i := 44) (N := some 6) (v := ?_) (a' := ?_) #[true, true, true, true, true, true, true, true, true, true, true, true, true, true, true, true, true, true, true, true, true, true, true, true, true, true, true, true, true, true, true, true, true, true, true, true, true, true, true, true, true, true, true, true, true] rfl rfl (any_of HT_.out (by kernel_rfl)) (fun _ _ _ h => h) (Or.inl ⟨by rfl, ?_⟩) ?_ ?_
                            rotate_left
                            · intro w'
                              go_simp
                              with_reducible rfl
                            rotate_left
                            · simp only [Act.put, List.setIfInBounds_toArray, List.set_cons_zero, List.set_cons_succ, i64_w, i32_w]
                              rfl
                            refine done_ (done_of HT_.out (by kernel_rfl)) ?_
                            try go_wp2
                            go_ret
                            first | (with_reducible exact (clash2 A60 A59).elim) | (with_reducible exact (clash2 A59 A60).elim) | (with_reducible exact (clash2 A60 A58).elim) | (with_reducible exact (clash2 A58 A60).elim) | (with_reducible exact (clash2 A60 A57).elim) | (with_reducible exact (clash2 A57 A60).elim) | (with_reducible exact (clash2 A60 A56).elim) | (with_reducible exact (clash2 A56 A60).elim) | (with_reducible exact (clash2 A60 A50).elim) | (with_reducible exact (clash2 A50 A60).elim) | (with_reducible exact (clash2 A60 A11).elim) | (with_reducible exact (clash2 A11 A60).elim) | (with_reducible exact (clash2 A60 A10).elim) | (with_reducible exact (clash2 A10 A60).elim) | (with_reducible exact (clash2 A60 A8).elim) | (with_reducible exact (clash2 A8 A60).elim) | (with_reducible exact (clash2 A60 A7).elim) | (with_reducible exact (clash2 A7 A60).elim) | (with_reducible exact (clash2 A60 A5).elim) | (with_reducible exact (clash2 A5 A60).elim) | (with_reducible exact (clash2 A60 A4).elim) | (with_reducible exact (clash2 A4 A60).elim) | (with_reducible exact (clash2 A59 A58).elim) | (with_reducible exact (clash2 A58 A59).elim) | (with_reducible exact (clash2 A59 A57).elim) | (with_reducible exact (clash2 A57 A59).elim) | (with_reducible exact (clash2 A59 A56).elim) | (with_reducible exact (clash2 A56 A59).elim) | (with_reducible exact (clash2 A59 A50).elim) | (with_reducible exact (clash2 A50 A59).elim) | (with_reducible exact (clash2 A59 A11).elim) | (with_reducible exact (clash2 A11 A59).elim) | (with_reducible exact (clash2 A59 A10).elim) | (with_reducible exact (clash2 A10 A59).elim) | (with_reducible exact (clash2 A59 A8).elim) | (with_reducible exact (clash2 A8 A59).elim) | (with_reducible exact (clash2 A59 A7).elim) | (with_reducible exact (clash2 A7 A59).elim) | (with_reducible exact (clash2 A59 A5).elim) | (with_reducible exact (clash2 A5 A59).elim) | (with_reducible exact (clash2 A59 A4).elim) | (with_reducible exact (clash2 A4 A59).elim) | (with_reducible exact (clash2 A58 A57).elim) | (with_reducible exact (clash2 A57 A58).elim) | (with_reducible exact (clash2 A58 A56).elim) | (with_reducible exact (clash2 A56 A58).elim) | (with_reducible exact (clash2 A58 A50).elim) | (with_reducible exact (clash2 A50 A58).elim) | (with_reducible exact (clash2 A58 A11).elim) | (with_reducible exact (clash2 A11 A58).elim) | (with_reducible exact (clash2 A58 A10).elim) | (with_reducible exact (clash2 A10 A58).elim) | (with_reducible exact (clash2 A58 A8).elim) | (with_reducible exact (clash2 A8 A58).elim) | (with_reducible exact (clash2 A58 A7).elim) | (with_reducible exact (clash2 A7 A58).elim) | (with_reducible exact (clash2 A58 A5).elim) | (with_reducible exact (clash2 A5 A58).elim) | (with_reducible exact (clash2 A58 A4).elim) | (with_reducible exact (clash2 A4 A58).elim) | (with_reducible exact (clash2 A57 A56).elim) | (with_reducible exact (clash2 A56 A57).elim) | (with_reducible exact (clash2 A57 A50).elim) | (with_reducible exact (clash2 A50 A57).elim) | (with_reducible exact (clash2 A57 A11).elim) | (with_reducible exact (clash2 A11 A57).elim) | (with_reducible exact (clash2 A57 A10).elim) | (with_reducible exact (clash2 A10 A57).elim) | (with_reducible exact (clash2 A57 A8).elim) | (with_reducible exact (clash2 A8 A57).elim) | (with_reducible exact (clash2 A57 A7).elim) | (with_reducible exact (clash2 A7 A57).elim) | (with_reducible exact (clash2 A57 A5).elim) | (with_reducible exact (clash2 A5 A57).elim) | (with_reducible exact (clash2 A57 A4).elim) | (with_reducible exact (clash2 A4 A57).elim) | (with_reducible exact (clash2 A56 A50).elim) | (with_reducible exact (clash2 A50 A56).elim) | (with_reducible exact (clash2 A56 A11).elim) | (with_reducible exact (clash2 A11 A56).elim) | (with_reducible exact (clash2 A56 A10).elim) | (with_reducible exact (clash2 A10 A56).elim) | (with_reducible exact (clash2 A56 A8).elim) | (with_reducible exact (clash2 A8 A56).elim) | (with_reducible exact (clash2 A56 A7).elim) | (with_reducible exact (clash2 A7 A56).elim) | (with_reducible exact (clash2 A56 A5).elim) | (with_reducible exact (clash2 A5 A56).elim) | (with_reducible exact (clash2 A56 A4).elim) | (with_reducible exact (clash2 A4 A56).elim) | (with_reducible exact (clash2 A50 A11).elim) | (with_reducible exact (clash2 A11 A50).elim) | (with_reducible exact (clash2 A50 A10).elim) | (with_reducible exact (clash2 A10 A50).elim) | (with_reducible exact (clash2 A50 A8).elim) | (with_reducible exact (clash2 A8 A50).elim) | (with_reducible exact (clash2 A50 A7).elim) | (with_reducible exact (clash2 A7 A50).elim) | (with_reducible exact (clash2 A50 A5).elim) | (with_reducible exact (clash2 A5 A50).elim) | (with_reducible exact (clash2 A50 A4).elim) | (with_reducible exact (clash2 A4 A50).elim) | (with_reducible exact (clash2 A11 A10).elim) | (with_reducible exact (clash2 A10 A11).elim) | (with_reducible exact (clash2 A11 A8).elim) | (with_reducible exact (clash2 A8 A11).elim) | (with_reducible exact (clash2 A11 A7).elim) | (with_reducible exact (clash2 A7 A11).elim) | (with_reducible exact (clash2 A11 A5).elim) | (with_reducible exact (clash2 A5 A11).elim) | (with_reducible exact (clash2 A11 A4).elim) | (with_reducible exact (clash2 A4 A11).elim) | (with_reducible exact (clash2 A10 A8).elim) | (with_reducible exact (clash2 A8 A10).elim) | (with_reducible exact (clash2 A10 A7).elim) | (with_reducible exact (clash2 A7 A10).elim) | (with_reducible exact (clash2 A10 A5).elim) | (with_reducible exact (clash2 A5 A10).elim) | (with_reducible exact (clash2 A10 A4).elim) | (with_reducible exact (clash2 A4 A10).elim) | exact ⟨by first | rfl | (simp [errW_none, errW_some] <;> rfl) | (simp only [← hji9]; first | rfl | (simp [errW_none, errW_some] <;> rfl)) | (simp [*, errW_none, errW_some] <;> rfl), by repeat (first | (with_reducible first | exact HB.out | apply below_alloc | apply pw_below_drewN | apply below_drew1 | refine below_set ?_ GE474.out | refine below_set ?_ GE478.out) | exact HB.out)⟩
                          · replace c61 := Bool.eq_false_iff.mpr c61
                            subst c61
                            have H1 : (none) = some r := by rw [if_neg (show ¬ (false = true) by decide)] at H; exact H
                            clear H
                            have H := H1
                            clear H1
                            exact absurd H (by simp)
                        · replace c55 := Bool.eq_false_iff.mpr c55
                          subst c55
                          have H1 : (none) = some r := by rw [if_neg (show ¬ (false = true) by decide)] at H; exact H
                          clear H
                          have H := H1
                          clear H1
                          exact absurd H (by simp)
                      · rw [if_neg c54] at H
                        exact absurd H (by simp)
                    · rw [if_neg c53] at H
                      exact absurd H (by simp)
                  · rw [if_neg c52] at H
                    exact absurd H (by simp)
                · replace c51 := Bool.eq_false_iff.mpr c51
                  subst c51
                  have H1 : (none) = some r := by rw [if_neg (show ¬ (false = true) by decide)] at H; exact H
                  clear H
                  have H := H1
                  clear H1
                  exact absurd H (by simp)
              · replace c49 := Bool.eq_false_iff.mpr c49
                subst c49
                have H1 : (none) = some r := by rw [if_neg (show ¬ (false = true) by decide)] at H; exact H
                clear H
                have H := H1
                clear H1
                exact absurd H (by simp)
  · replace c6 := Bool.eq_false_iff.mpr c6
    subst c6
    have H1 : (some t469) = some r := by rw [if_neg (show ¬ (false = true) by decide)] at H; exact H
    clear H
    have H := H1
    clear H1
    obtain rfl := Option.some.inj H
    go_enter Try.func7, Try.ntmps7
    go_wp2_with (first | ((with_reducible refine gate_callee (f := 8) rfl ?_); refine goesL_ (some 18) rfl rfl Try.func8 (by kernel_rfl) rfl #[] rfl (by (try simp only [List.map_toArray, List.map_cons, List.map_nil]); first | done | rfl | (simp only [List.length_drop, List.length_take]; rfl)) ?_; (with_reducible refine (godwitlaw07_awake.calls k  t469 _ A4.out).mono ?_); rintro e w74 ⟨rfl, hb⟩; refine ⟨_, rfl, ?_⟩; have n0_ := Aside0.mk (below_step (by repeat (first | (with_reducible first | exact HB.out | apply below_alloc | apply pw_below_drewN | apply below_drew1) | exact HB.out)) hb); clear HB; have HB := n0_; clear n0_; (try clear hb); (try clear hb2); (try clear hk); (try clear hi)) | ((with_reducible refine gate_callee (f := 9) rfl ?_); refine goesL_ (some 21) rfl rfl Try.func9 (by kernel_rfl) rfl #[.agg #[.slice A0 l0.length c0]] rfl (by (try simp only [List.map_toArray, List.map_cons, List.map_nil]); first | done | rfl | (simp only [List.length_drop, List.length_take]; rfl)) ?_; (with_reducible refine (godwitref07_Few.calls k _ _ l0 false _ ?side1 ?side2 A5.out).mono ?_); (case side1 => repeat (first | exact (Kd.C_below HR0.out HB.out) | (with_reducible refine Kd.C_alloc ?_ _) | (with_reducible refine Kd.C_drewN ?_ _) | (with_reducible refine Kd.C_drew ?_))); (case side2 => exact HC0.out); rintro e w75 ⟨rfl, hb⟩; refine ⟨_, rfl, ?_⟩; have n0_ := Aside0.mk (below_step (by repeat (first | (with_reducible first | exact HB.out | apply below_alloc | apply pw_below_drewN | apply below_drew1) | exact HB.out)) hb); clear HB; have HB := n0_; clear n0_; (try clear hb); (try clear hb2); (try clear hk); (try clear hi)))
    go_ret
    first | (with_reducible exact (clash2 A5 A4).elim) | (with_reducible exact (clash2 A4 A5).elim) | exact ⟨by first | rfl | (simp [errW_none, errW_some] <;> rfl) | (simp [*, errW_none, errW_some] <;> rfl), by repeat (first | (with_reducible first | exact HB.out | apply below_alloc | apply pw_below_drewN | apply below_drew1) | exact HB.out)⟩

/-- THE ONE PURE STATEMENT of godwitlaw07_ChainVacuum. -/
def godwitlaw07_ChainVacuum.Pure : Prop := ∀ (l0 : List (S46)) (a1 : Int) (a2 : Int), (l0.length * 40 ≤ 140737488351232 ∧ ∀ y0_ ∈ l0, ((Lit.int .i64 y0_.f0).wf = true) ∧ (y0_.f1.length * 1 ≤ 140737488351232 ∧ ∀ y1_ ∈ y0_.f1, (Lit.int .u8 y1_).wf = true) ∧ (True)) → ((Lit.int .i64 a1).wf = true) → ((Lit.int .i64 a2).wf = true) → ∃ k, godwitlaw07_ChainVacuum.f k l0 a1 a2 = some true

end Go.Proofs.Ytcinlddejdkjeaa.Q
