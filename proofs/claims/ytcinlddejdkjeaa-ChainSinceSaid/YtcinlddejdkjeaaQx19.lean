-- written by a turned copy of the kit's printer (wip/tools/patch_print.py over print.py); contracts of given functions are this session's own
import Derived.Test.YtcinlddejdkjeaaQx0
import Derived.Test.YtcinlddejdkjeaaQx2
import Derived.Test.YtcinlddejdkjeaaQx7
import Derived.Test.YtcinlddejdkjeaaQx8
import Derived.Test.YtcinlddejdkjeaaQx9
import Derived.Test.YtcinlddejdkjeaaQx11
import Derived.Test.YtcinlddejdkjeaaQx14
import Derived.Test.YtcinlddejdkjeaaQx15
import Derived.Test.YtcinlddejdkjeaaQx17
namespace Go.Proofs.Ytcinlddejdkjeaa.Q
open Go.RowKit Go.Proofs.YtcinlddejdkjeaaW.PrintWords Go.Proofs.YtcinlddejdkjeaaW.PrintLast Go.Proofs.YtcinlddejdkjeaaW.PrintMore Go.Proofs.Ytcinlddejdkjeaa.G
attribute [local go_sem] max2_int min2_int max_two min_two max_three min_three max_four min_four   -- for this text's walks alone
set_option linter.unusedVariables false
set_option linter.unusedSimpArgs false

/-! ### godwitlaw07_ChainSince: function 5 -/
def godwitlaw07_ChainSince.l0 : Nat → Int → Bool → List (S37) → Int → Int → List (S37) → List (S37) → Option (Bool)
  | 0, _, _, _, _, _, _, _ => none
  | k + 1, x1, x5, x7, x8, x10, x273000, x282000 => if x10 < (x7.length : Int) then (if 0 ≤ x10 then (if ((rd_T37 x7 x10).f0) ≤ x1 then (none) else ((chain_Push.f k x282000 ((rd_T37 x7 x10).f0) ((rd_T37 x7 x10).f1) ((rd_T37 x7 x10).f2)).bind fun bt284 => (godwitlaw07_ChainSince.l0 k x1 x5 x7 x8 (wrap64 (x10 + 1)) x273000 bt284.1))) else (none)) else ((chain_At.f x273000 x1).bind fun bt289 => (if x5 = true then ((godwitlaw07_theirs.f k x282000).bind fun t296 => ((godwitlaw07_theirs.f k x273000).bind fun t299 => ((godwitref07_Same.f k t296 t299).bind fun t302 => (if t302 = true then (some (bt289.2.2.2 == (decide (x8 > 0)))) else (none))))) else (none)))
def godwitlaw07_ChainSince.f (k : Nat) (l0 : List (S46)) (a1 : Int) : Option (Bool) := (godwitlaw07_awake.f k).bind fun t267 => ((godwitref07_Few.f k l0).bind fun t268 => (if t268 = true then ((godwitlaw07_grown.f k l0).bind fun t269 => ((chain_Since.f t269 a1).bind fun t273 => (if (wrap64 ((t269.length : Int) - (t273.length : Int))) < 0 then (none) else (if 0 ≤ (wrap64 ((t269.length : Int) - (t273.length : Int))) then (if (wrap64 ((t269.length : Int) - (t273.length : Int))) ≤ (t269.length : Int) then (godwitlaw07_ChainSince.l0 k a1 t267 t273 (wrap64 ((t269.length : Int) - (t273.length : Int))) 0 t269 (t269.take ((wrap64 ((t269.length : Int) - (t273.length : Int))) : Int).toNat)) else (none)) else (none))))) else (some t267)))
theorem godwitlaw07_ChainSince.mono_l : ∀ k, (∀ y0 y1 y2 y3 y4 y5 y6, LeO (godwitlaw07_ChainSince.l0 k y0 y1 y2 y3 y4 y5 y6) (godwitlaw07_ChainSince.l0 (k + 1) y0 y1 y2 y3 y4 y5 y6))
  | 0 => fun _ _ _ _ _ _ _ r h => by simp [godwitlaw07_ChainSince.l0] at h
  | k + 1 => by
    have ih0 := godwitlaw07_ChainSince.mono_l k
    · intro y0 y1 y2 y3 y4 y5 y6
      unfold godwitlaw07_ChainSince.l0
      repeat' first
      | (with_reducible exact ih0 _ _ _ _ _ _ _)
      | (with_reducible exact chain_Push.mono _ _ _ _ _)
      | (with_reducible exact godwitlaw07_awake.mono _)
      | (with_reducible exact godwitlaw07_grown.mono _ _)
      | (with_reducible exact godwitlaw07_theirs.mono _ _)
      | (with_reducible exact godwitref07_Few.mono _ _)
      | (with_reducible exact godwitref07_Same.mono _ _ _)
      | (with_reducible exact LeO.refl _)
      | (with_reducible exact LeO.none _)
      | (with_reducible refine LeO.ite ?_ ?_)
      | (with_reducible refine LeO.bind ?_ (fun _ => ?_))
      | exact ih0 _ _ _ _ _ _ _
      | exact chain_Push.mono _ _ _ _ _
      | exact godwitlaw07_awake.mono _
      | exact godwitlaw07_grown.mono _ _
      | exact godwitlaw07_theirs.mono _ _
      | exact godwitref07_Few.mono _ _
      | exact godwitref07_Same.mono _ _ _
      | exact LeO.none _
      | refine LeO.ite ?_ ?_
      | refine LeO.bind ?_ (fun _ => ?_)
theorem godwitlaw07_ChainSince.mono : ∀ a0 a1 k, LeO (godwitlaw07_ChainSince.f k a0 a1) (godwitlaw07_ChainSince.f (k + 1) a0 a1) := by
  intro a0 a1 k
  have ih0 := godwitlaw07_ChainSince.mono_l k
  unfold godwitlaw07_ChainSince.f
  repeat' first
      | (with_reducible exact ih0 _ _ _ _ _ _ _)
      | (with_reducible exact chain_Push.mono _ _ _ _ _)
      | (with_reducible exact godwitlaw07_awake.mono _)
      | (with_reducible exact godwitlaw07_grown.mono _ _)
      | (with_reducible exact godwitlaw07_theirs.mono _ _)
      | (with_reducible exact godwitref07_Few.mono _ _)
      | (with_reducible exact godwitref07_Same.mono _ _ _)
      | (with_reducible exact LeO.refl _)
      | (with_reducible exact LeO.none _)
      | (with_reducible refine LeO.ite ?_ ?_)
      | (with_reducible refine LeO.bind ?_ (fun _ => ?_))
      | exact ih0 _ _ _ _ _ _ _
      | exact chain_Push.mono _ _ _ _ _
      | exact godwitlaw07_awake.mono _
      | exact godwitlaw07_grown.mono _ _
      | exact godwitlaw07_theirs.mono _ _
      | exact godwitref07_Few.mono _ _
      | exact godwitref07_Same.mono _ _ _
      | exact LeO.none _
      | refine LeO.ite ?_ ?_
      | refine LeO.bind ?_ (fun _ => ?_)
def godwitlaw07_ChainSince.T15 : Bool × List (List Nat × List Nat) := (true, [([], []), ([], []), ([], []), ([1, 2], [1, 2]), ([3], [3]), ([0, 4], [0, 4]), ([5], [5]), ([6], [6]), ([6], [6]), ([], []), ([9, 7, 5, 0, 1, 2, 3, 4, 5, 6, 7, 9], [7, 9]), ([8, 10, 0, 1, 2, 3, 4, 5, 6, 7, 8, 9, 10], [8])])
def godwitlaw07_ChainSince.B15 : List Nat := [0, 0, 0, 6, 14, 31, 63, 127, 127, 0, 767, 2047]
theorem godwitlaw07_ChainSince.tab15 : rtab .any (opsOf Try.f5 15) = godwitlaw07_ChainSince.T15 := by kernel_rfl
theorem godwitlaw07_ChainSince.bits15 : waitsOk godwitlaw07_ChainSince.T15.2 godwitlaw07_ChainSince.B15 = true := by kernel_rfl
def godwitlaw07_ChainSince.T18 : Bool × List (List Nat × List Nat) := (true, [([], []), ([0], [0]), ([1], [1]), ([2, 1], [1, 2]), ([3, 1, 1], [1, 3]), ([1], [1]), ([5, 1], [1, 5]), ([6, 4, 1], [1, 6]), ([4, 7, 7, 1], [1, 4, 7]), ([1, 8], [1, 8]), ([9, 8], [9]), ([10], [10]), ([10], [10]), ([12, 10], [10, 12]), ([11, 13, 10], [10, 11, 13]), ([10, 14], [10, 14]), ([15, 10, 0, 1, 2, 3, 4, 5, 6, 7, 8, 9, 10, 11, 12, 13, 14, 15], [15])])
def godwitlaw07_ChainSince.B18 : List Nat := [0, 1, 3, 7, 15, 3, 35, 127, 255, 511, 1023, 2047, 2047, 6143, 16383, 32767, 65535]
theorem godwitlaw07_ChainSince.tab18 : rtab .any (opsOf Try.f5 18) = godwitlaw07_ChainSince.T18 := by kernel_rfl
theorem godwitlaw07_ChainSince.bits18 : waitsOk godwitlaw07_ChainSince.T18.2 godwitlaw07_ChainSince.B18 = true := by kernel_rfl
set_option maxHeartbeats 8000000 in
set_option maxRecDepth 100000 in
theorem godwitlaw07_ChainSince.calls (k : Nat) (A0 : Option Addr) (c0 : Nat) (l0 : List (S46)) (a1 : Int) (r : Bool) (w : World) (hr0 : Kd.C k46 w A0 l0.length l0) (hc0 : l0.length ≤ c0) (h : godwitlaw07_ChainSince.f k l0 a1 = some r) :
    Calls Try.prog 5 #[.slice A0 l0.length c0, .int .i64 a1] w fun e w' => e = .returned (.bool r) ∧ Below w.heap.size w w' := by
  have hu26 := Try.underlying26
  have hu29 := Try.underlying29
  have hu37 := Try.underlying37
  have HR0 := Aside0.mk hr0
  have HC0 := Aside0.mk hc0
  clear hr0 hc0
  have HB := Aside0.mk (Below.refl w.heap.size w)
  have H : ((godwitlaw07_awake.f k).bind fun t267 => ((godwitref07_Few.f k l0).bind fun t268 => (if t268 = true then ((godwitlaw07_grown.f k l0).bind fun t269 => ((chain_Since.f t269 a1).bind fun t273 => (if (wrap64 ((t269.length : Int) - (t273.length : Int))) < 0 then (none) else (if 0 ≤ (wrap64 ((t269.length : Int) - (t273.length : Int))) then (if (wrap64 ((t269.length : Int) - (t273.length : Int))) ≤ (t269.length : Int) then (godwitlaw07_ChainSince.l0 k a1 t267 t273 (wrap64 ((t269.length : Int) - (t273.length : Int))) 0 t269 (t269.take ((wrap64 ((t269.length : Int) - (t273.length : Int))) : Int).toNat)) else (none)) else (none))))) else (some t267)))) = some r := h
  clear h
  replace H := Option.bind_eq_some_iff.mp H
  obtain ⟨t267, A30, H⟩ := H
  replace H : ((godwitref07_Few.f k l0).bind fun t268 => (if t268 = true then ((godwitlaw07_grown.f k l0).bind fun t269 => ((chain_Since.f t269 a1).bind fun t273 => (if (wrap64 ((t269.length : Int) - (t273.length : Int))) < 0 then (none) else (if 0 ≤ (wrap64 ((t269.length : Int) - (t273.length : Int))) then (if (wrap64 ((t269.length : Int) - (t273.length : Int))) ≤ (t269.length : Int) then (godwitlaw07_ChainSince.l0 k a1 t267 t273 (wrap64 ((t269.length : Int) - (t273.length : Int))) 0 t269 (t269.take ((wrap64 ((t269.length : Int) - (t273.length : Int))) : Int).toNat)) else (none)) else (none))))) else (some t267))) = some r := H
  have A3 := Aside0.mk A30
  clear A30
  replace H := Option.bind_eq_some_iff.mp H
  obtain ⟨t268, A40, H⟩ := H
  replace H : (if t268 = true then ((godwitlaw07_grown.f k l0).bind fun t269 => ((chain_Since.f t269 a1).bind fun t273 => (if (wrap64 ((t269.length : Int) - (t273.length : Int))) < 0 then (none) else (if 0 ≤ (wrap64 ((t269.length : Int) - (t273.length : Int))) then (if (wrap64 ((t269.length : Int) - (t273.length : Int))) ≤ (t269.length : Int) then (godwitlaw07_ChainSince.l0 k a1 t267 t273 (wrap64 ((t269.length : Int) - (t273.length : Int))) 0 t269 (t269.take ((wrap64 ((t269.length : Int) - (t273.length : Int))) : Int).toNat)) else (none)) else (none))))) else (some t267)) = some r := H
  have A4 := Aside0.mk A40
  clear A40
  by_cases c5 : t268 = true
  · subst c5
    have H1 : ((godwitlaw07_grown.f k l0).bind fun t269 => ((chain_Since.f t269 a1).bind fun t273 => (if (wrap64 ((t269.length : Int) - (t273.length : Int))) < 0 then (none) else (if 0 ≤ (wrap64 ((t269.length : Int) - (t273.length : Int))) then (if (wrap64 ((t269.length : Int) - (t273.length : Int))) ≤ (t269.length : Int) then (godwitlaw07_ChainSince.l0 k a1 t267 t273 (wrap64 ((t269.length : Int) - (t273.length : Int))) 0 t269 (t269.take ((wrap64 ((t269.length : Int) - (t273.length : Int))) : Int).toNat)) else (none)) else (none))))) = some r := by rw [if_pos rfl] at H; exact H
    clear H
    have H := H1
    clear H1
    replace H := Option.bind_eq_some_iff.mp H
    obtain ⟨t269, A60, H⟩ := H
    replace H : ((chain_Since.f t269 a1).bind fun t273 => (if (wrap64 ((t269.length : Int) - (t273.length : Int))) < 0 then (none) else (if 0 ≤ (wrap64 ((t269.length : Int) - (t273.length : Int))) then (if (wrap64 ((t269.length : Int) - (t273.length : Int))) ≤ (t269.length : Int) then (godwitlaw07_ChainSince.l0 k a1 t267 t273 (wrap64 ((t269.length : Int) - (t273.length : Int))) 0 t269 (t269.take ((wrap64 ((t269.length : Int) - (t273.length : Int))) : Int).toNat)) else (none)) else (none)))) = some r := H
    have A6 := Aside0.mk A60
    clear A60
    replace H := Option.bind_eq_some_iff.mp H
    obtain ⟨t273, A70, H⟩ := H
    replace H : (if (wrap64 ((t269.length : Int) - (t273.length : Int))) < 0 then (none) else (if 0 ≤ (wrap64 ((t269.length : Int) - (t273.length : Int))) then (if (wrap64 ((t269.length : Int) - (t273.length : Int))) ≤ (t269.length : Int) then (godwitlaw07_ChainSince.l0 k a1 t267 t273 (wrap64 ((t269.length : Int) - (t273.length : Int))) 0 t269 (t269.take ((wrap64 ((t269.length : Int) - (t273.length : Int))) : Int).toNat)) else (none)) else (none))) = some r := H
    have A7 := Aside0.mk A70
    clear A70
    by_cases c8 : (wrap64 ((t269.length : Int) - (t273.length : Int))) < 0
    · rw [if_pos c8] at H
      exact absurd H (by simp)
    · rw [if_neg c8] at H
      have c8b0 : decide ((wrap64 ((t269.length : Int) - (t273.length : Int))) < 0) = false := decide_eq_false c8
      clear c8
      obtain ⟨ji9, hji9⟩ : ∃ j_ : Int, (wrap64 ((t269.length : Int) - (t273.length : Int))) = j_ := ⟨_, rfl⟩
      replace H : (if 0 ≤ (ji9) then (if (ji9) ≤ (t269.length : Int) then (godwitlaw07_ChainSince.l0 k a1 t267 t273 ji9 0 t269 (t269.take ((ji9) : Int).toNat)) else (none)) else (none)) = some r := by first | (rw [hji9] at H; exact H) | (simp only [hji9] at H ⊢; exact H)
      (try rw [hji9] at c8b0)
      (try rw [hji9] at A3)
      (try rw [hji9] at A4)
      (try rw [hji9] at A6)
      (try rw [hji9] at A7)
      have hji9w : (IntKind.i64.wrap ((t269.length : Int) - (t273.length : Int))) = ji9 := (i64_w _).trans hji9
      by_cases c10 : 0 ≤ (ji9)
      · rw [if_pos c10] at H
        have c10b0 := eq_true c10
        have c10b1 : decide (0 ≤ (ji9)) = true := decide_eq_true c10
        clear c10
        by_cases c11 : (ji9) ≤ (t269.length : Int)
        · rw [if_pos c11] at H
          have c11b0 := eq_true c11
          have c11b1 : decide ((ji9) ≤ (t269.length : Int)) = true := decide_eq_true c11
          clear c11
          obtain ⟨y276, hy276⟩ : ∃ y_ : List (S37), y_ = (t269.take ((ji9) : Int).toNat) := ⟨_, rfl⟩
          replace H : (godwitlaw07_ChainSince.l0 k a1 t267 t273 ji9 0 t269 y276) = some r := by first | (rw [hy276]; with_reducible exact H) | (have H2_ := (Option.bind_some _ _).symm.trans H; rw [hy276]; with_reducible exact H2_) | (have H2_ := (Option.bind_some _ _).symm.trans H; with_reducible exact H2_) | with_reducible exact H | (rw [hy276]; exact H) | exact H
          have Ny276 := Aside0.mk hy276
          clear hy276
          have H' := Aside0.mk H
          clear H
          go_enter Try.func5, Try.ntmps5
          go_wp2_with (first | ((with_reducible refine gate_callee (f := 8) rfl ?_); refine goesL_ (some 15) rfl rfl Try.func8 (by kernel_rfl) rfl #[] rfl (by (try simp only [List.map_toArray, List.map_cons, List.map_nil]); first | done | rfl | (simp only [List.length_drop, List.length_take]; rfl)) ?_; (with_reducible refine (godwitlaw07_awake.calls k  t267 _ A3.out).mono ?_); rintro e w12 ⟨rfl, hb⟩; refine ⟨_, rfl, ?_⟩; have n0_ := Aside0.mk (below_step (by repeat (first | (with_reducible first | exact HB.out | apply below_alloc | apply pw_below_drewN | apply below_drew1) | exact HB.out)) hb); clear HB; have HB := n0_; clear n0_; (try clear hb); (try clear hb2); (try clear hk); (try clear hi)) | ((with_reducible refine gate_callee (f := 9) rfl ?_); refine goesL_ (some 18) rfl rfl Try.func9 (by kernel_rfl) rfl #[.agg #[.slice A0 l0.length c0]] rfl (by (try simp only [List.map_toArray, List.map_cons, List.map_nil]); first | done | rfl | (simp only [List.length_drop, List.length_take]; rfl)) ?_; (with_reducible refine (godwitref07_Few.calls k _ _ l0 true _ ?side1 ?side2 A4.out).mono ?_); (case side1 => repeat (first | exact (Kd.C_below HR0.out HB.out) | (with_reducible refine Kd.C_alloc ?_ _) | (with_reducible refine Kd.C_drewN ?_ _) | (with_reducible refine Kd.C_drew ?_))); (case side2 => exact HC0.out); rintro e w13 ⟨rfl, hb⟩; refine ⟨_, rfl, ?_⟩; have n0_ := Aside0.mk (below_step (by repeat (first | (with_reducible first | exact HB.out | apply below_alloc | apply pw_below_drewN | apply below_drew1) | exact HB.out)) hb); clear HB; have HB := n0_; clear n0_; (try clear hb); (try clear hb2); (try clear hk); (try clear hi)) | ((with_reducible refine gate_callee (f := 10) rfl ?_); refine goesL_ (some 22) rfl rfl Try.func10 (by kernel_rfl) rfl #[.slice A0 l0.length c0] rfl (by (try simp only [List.map_toArray, List.map_cons, List.map_nil]); first | done | rfl | (simp only [List.length_drop, List.length_take]; rfl)) ?_; (with_reducible refine (godwitlaw07_grown.calls k (fun k_ => k_ < w.heap.size) _ _ l0 t269 _ ?side1 A6.out).mono ?_); (case side1 => exact Kd.V_mk HC0.out (Kd.F_below (Kd.C_F k46_heap HR0.out) (by repeat (first | (with_reducible first | exact HB.out | apply below_alloc | apply pw_below_drewN | apply below_drew1) | exact HB.out)))); rintro e w14 ⟨v270, rfl, ho0, hb⟩; refine ⟨_, rfl, ?_⟩; have n0_ := Aside0.mk (Kd.N_lower (Kd.N_mono (ok' := fun k_ => True) ho0 (fun k_ hk_ => trivial)) (below_size (by repeat (first | (with_reducible first | exact HB.out | apply below_alloc | apply pw_below_drewN | apply below_drew1) | exact HB.out)))); have n1_ := Aside0.mk (below_step (by repeat (first | (with_reducible first | exact HB.out | apply below_alloc | apply pw_below_drewN | apply below_drew1) | exact HB.out)) hb); clear HB; have HO271 := n0_; have HB := n1_; clear n0_ n1_; (try clear hb); (try clear hb2); (try clear hk); (try clear hi); (try clear ho0)) | ((with_reducible refine gate_dst (N := 6) rfl ?_); refine box_event ?hg (N := 6) ?hd (cs := #[.slice none 0 0]) (t := 29) ?hr ?_; (case hd => rfl); (case hg => rfl); (case hr => first | (go_simp; done) | (go_simp; rfl)); intro gb272 hg w15 hbox hb; have n0_ := Aside0.mk (Kd.N_below (Kd.N_elderB (by (with_reducible repeat (first | apply Kd.N_alloc | apply Kd.N_drewN | apply Kd.N_drew)); exact HO271.out) gb272 (Nat.le_of_eq hg.symm)) hb); have n1_ := Aside0.mk (below_step (by repeat (first | (with_reducible first | exact HB.out | apply below_alloc | apply pw_below_drewN | apply below_drew1) | exact HB.out)) hb); have n2_ := Aside0.mk (hbox); have n3_ := Aside0.mk ((by rw [hg]; exact (below_size (by repeat (first | (with_reducible first | exact HB.out | apply below_alloc | apply pw_below_drewN | apply below_drew1) | exact HB.out))) : w.heap.size ≤ gb272)); have n4_ := Aside0.mk ((by rw [hg]; exact (below_size (by repeat (first | (with_reducible first | exact HB.out | apply below_alloc | apply pw_below_drewN | apply below_drew1) | exact HB.out))) : w.heap.size ≤ gb272)); clear HO271; clear HB; have HO271 := n0_; have HB := n1_; have BK272 := n2_; have GW272 := n3_; have GE272 := n4_; clear n0_ n1_ n2_ n3_ n4_; clear hb hbox hg; obtain ⟨Ao16, co16, eo16⟩ := Kd.N_slice HO271.out; subst eo16; have hcz17_0 : w15.cell? ⟨gb272, 0, none⟩ = some (.slice none 0 0) := (blk_cell BK272.out 0).trans rfl; have hfz17_0 := blk_frozen BK272.out 0) | ((with_reducible refine gate_store (t := 29) (p := 6) rfl ?_); refine store_event (t := 29) (p := 6) (v := ?vo_w18) (w1 := (w15.setCell ⟨gb272, 0, none⟩ (.slice Ao16 t269.length co16))) ?hg ?ho ?hn ?hr ?_; (case ho => rfl); (case hg => rfl); (case hn => rfl); (case hr => first | (go_simp; done) | (go_simp; rfl)); intro w18 hw; have n0_ : Aside0 (Kd.N k37 37 w18 w.heap.size (fun k_ => k_ ≠ gb272) (.slice Ao16 t269.length co16) t269) := ⟨(by rw [hw]; exact (by (with_reducible repeat (first | apply Kd.N_alloc | apply Kd.N_drewN | apply Kd.N_drew)); exact Kd.N_mono (Kd.N_far (p := ⟨gb272, 0, none⟩) (Kd.N_mono HO271.out (fun k_ hk => (⟨hk, hk.2⟩ : _ ∧ k_ ≠ gb272))) (fun _ hk => hk.2) (.slice Ao16 t269.length co16)) (fun _ hk => hk.1.2)))⟩; have n1_ : Aside0 (w18.heap[gb272]? = some (.cells #[.slice Ao16 t269.length co16] 29 (0, 0))) := ⟨(by rw [hw]; exact (by (with_reducible repeat (first | refine blk_drewN ?_ _ | refine blk_drew ?_ | refine blk_alloc ?_ _)); refine blk_put (cs := #[.slice none 0 0]) ?_ 0 _ rfl; (with_reducible repeat (first | refine blk_drewN ?_ _ | refine blk_drew ?_ | refine blk_alloc ?_ _)); exact BK272.out))⟩; have n2_ : Aside0 (Below w.heap.size w w18) := ⟨(by rw [hw]; exact (by repeat (first | (with_reducible first | exact HB.out | apply below_alloc | apply pw_below_drewN | apply below_drew1 | refine below_set ?_ GE272.out) | exact HB.out)))⟩; clear hw; clear HO271; clear BK272; clear HB; have HO271 := n0_; have BK272 := n1_; have HB := n2_; clear n0_ n1_ n2_; have hcz19_0 : w18.cell? ⟨gb272, 0, none⟩ = some (.slice Ao16 t269.length co16) := (blk_cell BK272.out 0).trans rfl; have hfz19_0 := blk_frozen BK272.out 0) | ((with_reducible refine gate_callee (f := 15) rfl ?_); refine goesL_ (some 25) rfl rfl Try.func15 (by kernel_rfl) rfl #[.agg #[.slice Ao16 t269.length co16], .int .i64 a1] rfl (by (try simp only [List.map_toArray, List.map_cons, List.map_nil]); first | done | rfl | (simp only [List.length_drop, List.length_take]; rfl)) ?_; (with_reducible refine (chain_Since.calls (fun k_ => k_ ≠ gb272) _ _ t269 a1 t273 _ ?side1 A7.out).mono ?_); (case side1 => exact Kd.N_V (HO271.out)); rintro e w20 ⟨v274, rfl, ho0, hb⟩; refine ⟨_, rfl, ?_⟩; have n0_ := Aside0.mk (Kd.N_below (by (with_reducible repeat (first | apply Kd.N_alloc | apply Kd.N_drewN | apply Kd.N_drew)); exact HO271.out) hb); have n1_ := Aside0.mk (Kd.V_lower (Kd.V_mono (ok' := fun k_ => k_ ≠ gb272) ho0 (fun k_ hk_ => Or.elim hk_ (fun hs_ => hs_) (fun hn_ => (Kd.freshB (g := gb272) (o := .cells #[.slice Ao16 t269.length co16] 29 (0, 0)) (by (with_reducible repeat (first | refine blk_drewN ?_ _ | refine blk_drew ?_ | refine blk_alloc ?_ _)); exact BK272.out) k_ hn_)))) (below_size (by repeat (first | (with_reducible first | exact HB.out | apply below_alloc | apply pw_below_drewN | apply below_drew1 | refine below_set ?_ GE272.out) | exact HB.out)))); have n2_ := Aside0.mk (blk_below (g := gb272) (o := .cells #[.slice Ao16 t269.length co16] 29 (0, 0)) (by (with_reducible repeat (first | refine blk_drewN ?_ _ | refine blk_drew ?_ | refine blk_alloc ?_ _)); exact BK272.out) hb); have n3_ := Aside0.mk (below_step (by repeat (first | (with_reducible first | exact HB.out | apply below_alloc | apply pw_below_drewN | apply below_drew1 | refine below_set ?_ GE272.out) | exact HB.out)) hb); clear HO271; clear BK272; clear HB; have HO271 := n0_; have HO275 := n1_; have BK272 := n2_; have HB := n3_; clear n0_ n1_ n2_ n3_; (try clear hb); (try clear hb2); (try clear hk); (try clear hi); (try clear ho0); have hcz21_0 : w20.cell? ⟨gb272, 0, none⟩ = some (.slice Ao16 t269.length co16) := (blk_cell BK272.out 0).trans rfl; have hfz21_0 := blk_frozen BK272.out 0; obtain ⟨Ao22, co22, eo22⟩ := Kd.V_slice HO275.out; subst eo22; have q23 : ((ji9) : Int) ≤ ((t269.length : Int) : Int) := of_decide_eq_true (by first | (with_reducible assumption) | assumption); obtain ⟨i023, hi023, _, hsz23, _⟩ := info_parts info37; have hroom23 : t269.length ≤ co16 := (Kd.N_reads' HO271.out).2.1; have hC23 : Kd.F k37 _ _ Ao16 t269.length t269 := (Kd.V_at (base := w.heap.size) (Kd.N_V HO271.out)).2.2; have hcut23 := cut_to (P := Try.prog) 27 37 .i64 Try.underlying27 hi023 Ao16 t269.length co16 (ji9) (of_decide_eq_true (by first | (with_reducible assumption) | assumption)) q23 hroom23; have hr23 := Kd.F_take (m := ((ji9) : Int).toNat) hC23 (by omega); have hy23 : y276.length = ((ji9) : Int).toNat := (by rw [Ny276.out, List.length_take]; omega); rw [← Ny276.out] at hr23; rw [← hy23] at hcut23; have HO280 := Aside0.mk (show Kd.V k37 37 _ w.heap.size _ (.slice Ao16 y276.length co16) y276 from Kd.V_mk (by omega) hr23); have HC280 := Aside0.mk (show y276.length ≤ co16 from by omega); clear hr23 hC23 hroom23 hi023 hsz23; have KY23 := Aside0.mk hy23; clear hy23; replace q23 := eq_true q23) | ((with_reducible refine gate_dst (N := 9) rfl ?_); refine box_event ?hg (N := 9) ?hd (cs := #[.slice none 0 0]) (t := 29) ?hr ?_; (case hd => rfl); (case hg => rfl); (case hr => first | (go_simp; done) | (go_simp; rfl)); intro gb281 hg w24 hbox hb; have n0_ := Aside0.mk (Kd.N_below (Kd.N_elderB (by (with_reducible repeat (first | apply Kd.N_alloc | apply Kd.N_drewN | apply Kd.N_drew)); exact HO271.out) gb281 (Nat.le_of_eq hg.symm)) hb); have n1_ := Aside0.mk (Kd.V_below (Kd.V_elderB (by (with_reducible repeat (first | apply Kd.V_alloc | apply Kd.V_drewN | apply Kd.V_drew)); exact HO275.out) gb281 (Nat.le_of_eq hg.symm)) hb); have n2_ := Aside0.mk (Kd.V_below (Kd.V_elderB (by (with_reducible repeat (first | apply Kd.V_alloc | apply Kd.V_drewN | apply Kd.V_drew)); exact HO280.out) gb281 (Nat.le_of_eq hg.symm)) hb); have n3_ := Aside0.mk (blk_below (g := gb272) (o := .cells #[.slice Ao16 t269.length co16] 29 (0, 0)) (by (with_reducible repeat (first | refine blk_drewN ?_ _ | refine blk_drew ?_ | refine blk_alloc ?_ _)); exact BK272.out) hb); have n4_ := Aside0.mk (below_step (by repeat (first | (with_reducible first | exact HB.out | apply below_alloc | apply pw_below_drewN | apply below_drew1 | refine below_set ?_ GE272.out) | exact HB.out)) hb); have n5_ := Aside0.mk (hbox); have n6_ := Aside0.mk ((by rw [hg]; exact (below_size (by repeat (first | (with_reducible first | exact HB.out | apply below_alloc | apply pw_below_drewN | apply below_drew1 | refine below_set ?_ GE272.out) | exact HB.out))) : w.heap.size ≤ gb281)); have n7_ := Aside0.mk ((by rw [hg]; exact (below_size (by repeat (first | (with_reducible first | exact HB.out | apply below_alloc | apply pw_below_drewN | apply below_drew1 | refine below_set ?_ GE272.out) | exact HB.out))) : w.heap.size ≤ gb281)); have n8_ := Aside0.mk ((by rw [hg]; exact Nat.ne_of_lt (blk_lt (g := gb272) (o := .cells #[.slice Ao16 t269.length co16] 29 (0, 0)) (by (with_reducible repeat (first | refine blk_drewN ?_ _ | refine blk_drew ?_ | refine blk_alloc ?_ _)); exact BK272.out)) : gb272 ≠ gb281)); have n9_ := Aside0.mk ((by rw [hg]; exact Nat.ne_of_gt (blk_lt (g := gb272) (o := .cells #[.slice Ao16 t269.length co16] 29 (0, 0)) (by (with_reducible repeat (first | refine blk_drewN ?_ _ | refine blk_drew ?_ | refine blk_alloc ?_ _)); exact BK272.out)) : gb281 ≠ gb272)); clear HO271; clear HO275; clear HO280; clear BK272; clear HB; have HO271 := n0_; have HO275 := n1_; have HO280 := n2_; have BK272 := n3_; have HB := n4_; have BK281 := n5_; have GW281 := n6_; have GE281 := n7_; have NB272_281 := n8_; have NB281_272 := n9_; clear n0_ n1_ n2_ n3_ n4_ n5_ n6_ n7_ n8_ n9_; clear hb hbox hg; have hnb25 := NB281_272.out; have hnc25 := NB272_281.out; have hcz26_0 : w24.cell? ⟨gb281, 0, none⟩ = some (.slice none 0 0) := (blk_cell BK281.out 0).trans rfl; have hfz26_0 := blk_frozen BK281.out 0))
          go_loopg [10] k (fun kq v10 w' => ∃ (x10_1 : Int) (x282000_1 : List (S37)) (u282000 : Value), v10 = .int .i64 x10_1 ∧ Aside0 (godwitlaw07_ChainSince.l0 kq a1 t267 t273 ji9 x10_1 t269 x282000_1 = some r) ∧ Aside0 (kq ≤ k) ∧ Aside0 (Kd.V k37 37 w' w.heap.size (fun k_ => k_ ≠ gb272 ∧ k_ ≠ gb281) (.slice Ao22 t273.length co22) t273) ∧ Aside0 (Kd.N k37 37 w' w.heap.size (fun k_ => k_ ≠ gb272 ∧ k_ ≠ gb281) (.slice Ao16 t269.length co16) t269) ∧ Aside0 (Kd.V k37 37 w' w.heap.size (fun k_ => k_ ≠ gb272 ∧ k_ ≠ gb281) u282000 x282000_1) ∧ Aside0 (w'.heap[gb272]? = some (.cells #[(.slice Ao16 t269.length co16)] 29 (0, 0))) ∧ Aside0 (w'.heap[gb281]? = some (.cells #[u282000] 29 (0, 0))) ∧ Aside0 (Below w.heap.size w w'))
          case atStart => exact ⟨(0), (y276), (.slice Ao16 y276.length co16), (by first | rfl | (simp; done) | (simp [*]; done)), H', ⟨Nat.le_refl _⟩, ⟨by (with_reducible repeat (first | apply Kd.V_alloc | apply Kd.V_drewN | apply Kd.V_drew)); exact Kd.V_mono (Kd.V_far (p := ⟨gb281, 0, none⟩) (Kd.V_mono HO275.out (fun k_ hk => (⟨hk, hk.2⟩ : _ ∧ k_ ≠ gb281))) (fun _ hk => hk.2) (.slice Ao16 y276.length co16)) (fun _ hk => ⟨hk.1.1, hk.1.2⟩)⟩, ⟨by (with_reducible repeat (first | apply Kd.N_alloc | apply Kd.N_drewN | apply Kd.N_drew)); exact Kd.N_mono (Kd.N_far (p := ⟨gb281, 0, none⟩) (Kd.N_mono HO271.out (fun k_ hk => (⟨hk, hk.2⟩ : _ ∧ k_ ≠ gb281))) (fun _ hk => hk.2) (.slice Ao16 y276.length co16)) (fun _ hk => ⟨hk.1.1, hk.1.2⟩)⟩, ⟨by (with_reducible repeat (first | apply Kd.V_alloc | apply Kd.V_drewN | apply Kd.V_drew)); exact Kd.V_mono (Kd.V_far (p := ⟨gb281, 0, none⟩) (Kd.V_mono HO280.out (fun k_ hk => (⟨hk, hk.2⟩ : _ ∧ k_ ≠ gb281))) (fun _ hk => hk.2) (.slice Ao16 y276.length co16)) (fun _ hk => ⟨hk.1.1, hk.1.2⟩)⟩, ⟨by (with_reducible repeat (first | refine blk_drewN ?_ _ | refine blk_drew ?_ | refine blk_alloc ?_ _)); refine blk_far ?_ NB272_281.out _; (with_reducible repeat (first | refine blk_drewN ?_ _ | refine blk_drew ?_ | refine blk_alloc ?_ _)); exact BK272.out⟩, ⟨by (with_reducible repeat (first | refine blk_drewN ?_ _ | refine blk_drew ?_ | refine blk_alloc ?_ _)); refine blk_put (cs := #[.slice none 0 0]) ?_ 0 _ rfl; (with_reducible repeat (first | refine blk_drewN ?_ _ | refine blk_drew ?_ | refine blk_alloc ?_ _)); exact BK281.out⟩, ⟨by repeat (first | (with_reducible first | exact HB.out | apply below_alloc | apply pw_below_drewN | apply below_drew1 | refine below_set ?_ GE272.out | refine below_set ?_ GE281.out) | exact HB.out)⟩⟩
          case round =>
            clear H'
            try clear c1
            try clear c2
            try clear p2
            try clear q2
            try clear c5
            try clear p6
            try clear c8
            try clear c8b0
            try clear c9
            try clear c10
            try clear c10b0
            try clear c10b1
            try clear c11
            try clear c11b0
            try clear c11b1
            try clear c15
            try clear q23
            try clear c25
            try clear hcz17_0
            try clear hcz19_0
            try clear hcz21_0
            try clear hcz26_0
            try clear hfz17_0
            try clear hfz19_0
            try clear hfz21_0
            try clear hfz26_0
            try clear q23
            obtain ⟨x10_1, x282000_1, u282000, rfl, HA, HK1, HO_7, HO_273000, HO_282000, BK272, BK281, HB⟩ := hrel
            cases gk with
            | zero => exact absurd HA.out (by simp [godwitlaw07_ChainSince.l0])
            | succ k1 =>
              have H := HA.out
              clear HA
              simp only [godwitlaw07_ChainSince.l0] at H
              by_cases c27 : x10_1 < (t273.length : Int)
              · rw [if_pos c27] at H
                have c27b0 : decide (x10_1 < (t273.length : Int)) = true := decide_eq_true c27
                clear c27
                by_cases c28 : 0 ≤ x10_1
                · rw [if_pos c28] at H
                  have c28b0 : decide (0 ≤ x10_1) = true := decide_eq_true c28
                  clear c28
                  by_cases c29 : ((rd_T37 t273 x10_1).f0) ≤ a1
                  · rw [if_pos c29] at H
                    exact absurd H (by simp)
                  · rw [if_neg c29] at H
                    have c29b0 : decide (((rd_T37 t273 x10_1).f0) ≤ a1) = false := decide_eq_false c29
                    clear c29
                    replace H := Option.bind_eq_some_iff.mp H
                    obtain ⟨⟨t284, t287⟩, A300, H⟩ := H
                    replace H : (godwitlaw07_ChainSince.l0 k1 a1 t267 t273 ji9 (wrap64 (x10_1 + 1)) t269 t284) = some r := H
                    have A30 := Aside0.mk A300
                    clear A300
                    have H' := Aside0.mk H
                    clear H
                    have p282 : 0 ≤ (x10_1 : Int) := of_decide_eq_true (by first | (with_reducible assumption) | assumption)
                    have q282 : x10_1 < (t273.length : Int) := of_decide_eq_true (by first | (with_reducible assumption) | assumption)
                    obtain ⟨ad282, A282_1, c282_1, e282, hx282_0, hx282_1, hx282_2, hl282_1, hi282_1⟩ := at_T37 (Kd.V_reads' HO_7.out).2.2 x10_1 p282 q282
                    cases e282
                    obtain ⟨ce282, hce282, hMe282, hcc282⟩ := Kd.V_get HO_7.out z37 x10_1 p282 (by first | exact q282 | exact of_decide_eq_true (by first | (with_reducible assumption) | assumption) | (have e_ := (Kd.V_reads' HO_7.out).1; omega))
                    obtain ⟨ua282_1, uc282_1, rfl, ul282_1, ge282_1⟩ := k37_openF hMe282
                    have hv282_1 := hcc282 1 _ rfl
                    rw [add_field _ _ 1 (by omega)] at hv282_1
                    replace hv282_1 := Option.some.inj (hv282_1.symm.trans hx282_1)
                    injection hv282_1 with hva_ hvn_ hvc_
                    rw [hva_] at ge282_1
                    rw [hvc_] at ul282_1
                    have HL282_1 := Aside0.mk (show Kd.V (Kd.int .u8) 5 _ w.heap.size _ _ ((rd_T37 t273 x10_1).f1) from Kd.V_mk ul282_1 ge282_1)
                    clear hva_ hvn_ hvc_ ge282_1 ul282_1
                    clear hcc282 hce282
                    have HR282_1 := Aside0.mk hi282_1
                    have HC282_1 := Aside0.mk hl282_1
                    clear hi282_1 hl282_1
                    replace p282 := eq_true p282
                    replace q282 := eq_true q282
                    obtain ⟨Ao31, co31, eo31⟩ := Kd.V_slice HO_282000.out
                    subst eo31
                    try go_wp2
                    have n0_ := Aside0.mk (Kd.V_drew HO_7.out)
                    have n1_ := Aside0.mk (Kd.N_drew HO_273000.out)
                    have n2_ := Aside0.mk (Kd.V_drew HO_282000.out)
                    have n3_ := Aside0.mk (Kd.V_drew HL282_1.out)
                    have n4_ := Aside0.mk (blk_drew BK272.out)
                    have n5_ := Aside0.mk (blk_drew BK281.out)
                    have n6_ := Aside0.mk (Kd.C_drew HR282_1.out)
                    have n7_ := Aside0.mk (below_drew1 HB.out)
                    clear HO_7
                    clear HO_273000
                    clear HO_282000
                    clear HL282_1
                    clear BK272
                    clear BK281
                    clear HR282_1
                    clear HB
                    have HO_7 := n0_
                    have HO_273000 := n1_
                    have HO_282000 := n2_
                    have HL282_1 := n3_
                    have BK272 := n4_
                    have BK281 := n5_
                    have HR282_1 := n6_
                    have HB := n7_
                    clear n0_ n1_ n2_ n3_ n4_ n5_ n6_ n7_
                    have p283 : 0 ≤ (x10_1 : Int) := of_decide_eq_true (by first | (with_reducible assumption) | assumption)
                    have q283 : x10_1 < (t273.length : Int) := of_decide_eq_true (by first | (with_reducible assumption) | assumption)
                    obtain ⟨ad283, A283_1, c283_1, e283, hx283_0, hx283_1, hx283_2, hl283_1, hi283_1⟩ := at_T37 (Kd.V_reads' HO_7.out).2.2 x10_1 p283 q283
                    obtain rfl : ad282 = ad283 := (by injection e283)
                    obtain ⟨ce283, hce283, hMe283, hcc283⟩ := Kd.V_get HO_7.out z37 x10_1 p283 (by first | exact q283 | exact of_decide_eq_true (by first | (with_reducible assumption) | assumption) | (have e_ := (Kd.V_reads' HO_7.out).1; omega))
                    obtain ⟨ua283_1, uc283_1, rfl, ul283_1, ge283_1⟩ := k37_openF hMe283
                    have hv283_1 := hcc283 1 _ rfl
                    rw [add_field _ _ 1 (by omega)] at hv283_1
                    replace hv283_1 := Option.some.inj (hv283_1.symm.trans hx283_1)
                    injection hv283_1 with hva_ hvn_ hvc_
                    rw [hva_] at ge283_1
                    rw [hvc_] at ul283_1
                    have HL283_1 := Aside0.mk (show Kd.V (Kd.int .u8) 5 _ w.heap.size _ _ ((rd_T37 t273 x10_1).f1) from Kd.V_mk ul283_1 ge283_1)
                    clear hva_ hvn_ hvc_ ge283_1 ul283_1
                    clear hcc283 hce283
                    have HR283_1 := Aside0.mk hi283_1
                    have HC283_1 := Aside0.mk hl283_1
                    clear hi283_1 hl283_1
                    replace p283 := eq_true p283
                    replace q283 := eq_true q283
                    refine start_ (n := 12) (S := fun w' => w'.cell? ⟨gb281, 0, none⟩ = some (.slice Ao31 x282000_1.length co31) ∧ w'.cell? (ad282.add ((x10_1).toNat * 3)) = some (.int .i64 ((rd_T37 t273 x10_1).f0)) ∧ w'.cell? ⟨(ad282.add ((x10_1).toNat * 3)).block, (ad282.add ((x10_1).toNat * 3)).off + 1, none⟩ = some (.slice A283_1 ((rd_T37 t273 x10_1).f1).length c283_1) ∧ w'.cell? ⟨(ad282.add ((x10_1).toNat * 3)).block, (ad282.add ((x10_1).toNat * 3)).off + 2, none⟩ = some (.bool ((rd_T37 t273 x10_1).f2))) (ds := []) #[false, false, false, false, false, false, false, false, false, false, false, false] (by kernel_rfl) rfl rfl ⟨(blk_cell BK281.out 0).trans rfl, hx283_0, hx283_1, hx283_2⟩ (fun hHeld => ?_); refine with_tabW godwitlaw07_ChainSince.tab15 godwitlaw07_ChainSince.bits15 (fun HT_ HW_ => ?_)
                    generalize wr.drew = w32 at HO_7 HO_273000 HO_282000 HL282_1 BK272 BK281 HR282_1 HB HL283_1 HR283_1 hx283_0 hx283_1 hx283_2 hHeld ⊢
                    refine pure_ (i := 1) (N := some 54) (v := ?_) (a' := ?_) #[false, true, false, false, false, false, false, false, false, false, false, false] rfl rfl (any_of HT_.out (by kernel_rfl)) (fun _ _ _ h => h) (Or.inl ⟨by rfl, ?_⟩) ?_ ?_
                    rotate_left
                    · intro w'
                      go_simp
                      with_reducible rfl
                    rotate_left
                    · simp only [Act.put, List.setIfInBounds_toArray, List.set_cons_zero, List.set_cons_succ, i64_w, i32_w]
                      rfl
                    refine pure_ (i := 2) (N := some 55) (v := ?_) (a' := ?_) #[false, true, true, false, false, false, false, false, false, false, false, false] rfl rfl (any_of HT_.out (by kernel_rfl)) (fun _ _ _ h => h) (Or.inl ⟨by rfl, ?_⟩) ?_ ?_
                    rotate_left
                    · intro w'
                      go_simp
                      with_reducible rfl
                    rotate_left
                    · simp only [Act.put, List.setIfInBounds_toArray, List.set_cons_zero, List.set_cons_succ, i64_w, i32_w]
                      rfl
                    refine pure_ (i := 3) (N := some 56) (v := ?_) (a' := ?_) #[false, true, true, true, false, false, false, false, false, false, false, false] rfl rfl (any_of HT_.out (by kernel_rfl)) (fun _ _ _ h => h) (Or.inl ⟨by rfl, ?_⟩) ?_ ?_
                    rotate_left
                    · intro w'
                      go_simp
                      with_reducible rfl
                    rotate_left
                    · simp only [Act.put, List.setIfInBounds_toArray, List.set_cons_zero, List.set_cons_succ, i64_w, i32_w]
                      rfl
                    refine take_ (i := 0) (N := some 53) (v := ?_) (a' := ?_) #[true, true, true, true, false, false, false, false, false, false, false, false] rfl rfl (take_ofW HT_.out HW_.out (by kernel_rfl)) (fun _ _ _ h => h) (Or.inl ⟨by rfl, ?_⟩) hHeld ?_ ?_
                    rotate_left
                    · rintro w' ⟨s0, s1, s2, s3⟩
                      go_simp
                      with_reducible rfl
                    rotate_left
                    · simp only [Act.put, List.setIfInBounds_toArray, List.set_cons_zero, List.set_cons_succ, i64_w, i32_w]
                      rfl
                    refine take_ (i := 4) (N := some 57) (v := ?_) (a' := ?_) #[true, true, true, true, true, false, false, false, false, false, false, false] rfl rfl (take_ofW HT_.out HW_.out (by kernel_rfl)) (fun _ _ _ h => h) (Or.inl ⟨by rfl, ?_⟩) hHeld ?_ ?_
                    rotate_left
                    · rintro w' ⟨s0, s1, s2, s3⟩
                      go_simp
                      with_reducible rfl
                    rotate_left
                    · simp only [Act.put, List.setIfInBounds_toArray, List.set_cons_zero, List.set_cons_succ, i64_w, i32_w]
                      rfl
                    refine join_ (σ := Value × Nat) 2 #[true, true, true, true, true, true, true, true, true, true, false, false] (fun s_ => [(58, .tuple #[.agg #[s_.1], .int .i64 t287]), (11, .pointer (some ⟨s_.2, 0, none⟩)), (52, .tuple #[.agg #[s_.1], .int .i64 t287]), (59, .agg #[s_.1]), (60, .int .i64 t287)]) (fun s_ w' => (w'.cell? ⟨gb281, 0, none⟩ = some (.slice Ao31 x282000_1.length co31) ∧ w'.cell? (ad282.add ((x10_1).toNat * 3)) = some (.int .i64 ((rd_T37 t273 x10_1).f0)) ∧ w'.cell? ⟨(ad282.add ((x10_1).toNat * 3)).block, (ad282.add ((x10_1).toNat * 3)).off + 1, none⟩ = some (.slice A283_1 ((rd_T37 t273 x10_1).f1).length c283_1) ∧ w'.cell? ⟨(ad282.add ((x10_1).toNat * 3)).block, (ad282.add ((x10_1).toNat * 3)).off + 2, none⟩ = some (.bool ((rd_T37 t273 x10_1).f2))) ∧ (Kd.V (Kd.int .u8) 5 w' w.heap.size (fun k_ => some k_ ≠ (s_.1 : Value).ownBlock ∧ k_ ≠ gb272 ∧ k_ ≠ gb281 ∧ k_ ≠ s_.2) (.slice A282_1 ((rd_T37 t273 x10_1).f1).length c282_1) ((rd_T37 t273 x10_1).f1)) ∧ (Kd.V (Kd.int .u8) 5 w' w.heap.size (fun k_ => some k_ ≠ (s_.1 : Value).ownBlock ∧ k_ ≠ gb272 ∧ k_ ≠ gb281 ∧ k_ ≠ s_.2) (.slice A283_1 ((rd_T37 t273 x10_1).f1).length c283_1) ((rd_T37 t273 x10_1).f1)) ∧ (Kd.N k37 37 w' w.heap.size (fun k_ => k_ ≠ gb272 ∧ k_ ≠ gb281 ∧ k_ ≠ s_.2) s_.1 t284) ∧ (Kd.N k37 37 w' w.heap.size (fun k_ => some k_ ≠ (s_.1 : Value).ownBlock ∧ k_ ≠ gb272 ∧ k_ ≠ gb281 ∧ k_ ≠ s_.2) (.slice Ao16 t269.length co16) t269) ∧ (Kd.V k37 37 w' w.heap.size (fun k_ => some k_ ≠ (s_.1 : Value).ownBlock ∧ k_ ≠ gb272 ∧ k_ ≠ gb281 ∧ k_ ≠ s_.2) (.slice Ao31 x282000_1.length co31) x282000_1) ∧ (Kd.V k37 37 w' w.heap.size (fun k_ => some k_ ≠ (s_.1 : Value).ownBlock ∧ k_ ≠ gb272 ∧ k_ ≠ gb281 ∧ k_ ≠ s_.2) (.slice (some ad282) t273.length co22) t273) ∧ (w'.heap[gb272]? = some (.cells #[.slice Ao16 t269.length co16] 29 (0, 0))) ∧ (w'.heap[gb281]? = some (.cells #[.slice Ao31 x282000_1.length co31] 29 (0, 0))) ∧ (w'.heap[s_.2]? = some (.cells #[.slice none 0 0] 29 (0, 0))) ∧ (w.heap.size ≤ s_.2) ∧ (w.heap.size ≤ s_.2) ∧ (gb272 ≠ s_.2) ∧ (s_.2 ≠ gb272) ∧ (gb281 ≠ s_.2) ∧ (s_.2 ≠ gb281) ∧ (Below w.heap.size w w')) ?_ ?_
                    rotate_left
                    · intro hCont
                      refine two_ (i := 5) (j := 9) (Ni := some 58) (Nj := some 11) #[true, true, true, true, true, true, false, false, false, false, false, false] #[true, true, true, true, true, false, false, false, false, true, false, false] rfl rfl rfl rfl (two_of HT_.out (by kernel_rfl)) (by decide) (by decide) (fun K hK => ?_) (fun K hK => ?_)
                      · skip
                        refine goes_ Try.func17 (by kernel_rfl) rfl #[.agg #[.slice Ao31 x282000_1.length co31], .agg #[.int .i64 ((rd_T37 t273 x10_1).f0), .slice A283_1 ((rd_T37 t273 x10_1).f1).length c283_1, .bool ((rd_T37 t273 x10_1).f2)]] (by rfl) rfl rfl (by (try simp only [List.map_toArray, List.map_cons, List.map_nil]); first | done | rfl | (simp only [List.length_drop, List.length_take]; rfl)) ?_
                        with_reducible refine (chain_Push.calls k1 (fun k_ => (k_ ≠ gb272 ∧ k_ ≠ gb281)) _ _ x282000_1 ((rd_T37 t273 x10_1).f0) (fun k_ => (k_ ≠ gb272 ∧ k_ ≠ gb281)) _ _ ((rd_T37 t273 x10_1).f1) ((rd_T37 t273 x10_1).f2) t284 t287 _ ?side1 ?side2 A30.out).mono ?_
                        (case side1 => exact HO_282000.out)
                        (case side2 => exact HL283_1.out)
                        rintro e w33 ⟨v285, rfl, ho0, hb⟩
                        have HS1_ := (hb.cell (World.block_lt_of_cell? _ _ (hHeld.2.1))).trans (hHeld.2.1)
                        have HS2_ := (hb.cell (World.block_lt_of_cell? _ _ (hHeld.2.2.1))).trans (hHeld.2.2.1)
                        have HS3_ := (hb.cell (World.block_lt_of_cell? _ _ (hHeld.2.2.2))).trans (hHeld.2.2.2)
                        refine ⟨_, rfl, ?_⟩
                        have n0_ := Aside0.mk (Kd.V_elder' (by (with_reducible repeat (first | apply Kd.V_alloc | apply Kd.V_drewN | apply Kd.V_drew)); exact HO_7.out) (Kd.N_base ho0) hb)
                        have n1_ := Aside0.mk (Kd.N_elder' (by (with_reducible repeat (first | apply Kd.N_alloc | apply Kd.N_drewN | apply Kd.N_drew)); exact HO_273000.out) (Kd.N_base ho0) hb)
                        have n2_ := Aside0.mk (Kd.V_elder' (by (with_reducible repeat (first | apply Kd.V_alloc | apply Kd.V_drewN | apply Kd.V_drew)); exact HO_282000.out) (Kd.N_base ho0) hb)
                        have n3_ := Aside0.mk (Kd.V_elder' (by (with_reducible repeat (first | apply Kd.V_alloc | apply Kd.V_drewN | apply Kd.V_drew)); exact HL282_1.out) (Kd.N_base ho0) hb)
                        have n4_ := Aside0.mk (Kd.V_elder' (by (with_reducible repeat (first | apply Kd.V_alloc | apply Kd.V_drewN | apply Kd.V_drew)); exact HL283_1.out) (Kd.N_base ho0) hb)
                        have n5_ := Aside0.mk (Kd.N_lower (Kd.N_mono (ok' := fun k_ => k_ ≠ gb272 ∧ k_ ≠ gb281) ho0 (fun k_ hk_ => ⟨Or.elim hk_ (fun hs_ => Or.elim hs_ (fun hs_ => hs_.1) (fun hs_ => hs_.1)) (fun hn_ => (Kd.freshB (g := gb272) (o := .cells #[.slice Ao16 t269.length co16] 29 (0, 0)) (by (with_reducible repeat (first | refine blk_drewN ?_ _ | refine blk_drew ?_ | refine blk_alloc ?_ _)); exact BK272.out) k_ hn_)), Or.elim hk_ (fun hs_ => Or.elim hs_ (fun hs_ => hs_.2) (fun hs_ => hs_.2)) (fun hn_ => (Kd.freshB (g := gb281) (o := .cells #[.slice Ao31 x282000_1.length co31] 29 (0, 0)) (by (with_reducible repeat (first | refine blk_drewN ?_ _ | refine blk_drew ?_ | refine blk_alloc ?_ _)); exact BK281.out) k_ hn_))⟩)) (below_size (by repeat (first | (with_reducible first | exact HB.out | apply below_alloc | apply pw_below_drewN | apply below_drew1 | refine below_set ?_ GE272.out | refine below_set ?_ GE281.out) | exact HB.out))))
                        have n6_ := Aside0.mk (blk_below (g := gb272) (o := .cells #[.slice Ao16 t269.length co16] 29 (0, 0)) (by (with_reducible repeat (first | refine blk_drewN ?_ _ | refine blk_drew ?_ | refine blk_alloc ?_ _)); exact BK272.out) hb)
                        have n7_ := Aside0.mk (blk_below (g := gb281) (o := .cells #[.slice Ao31 x282000_1.length co31] 29 (0, 0)) (by (with_reducible repeat (first | refine blk_drewN ?_ _ | refine blk_drew ?_ | refine blk_alloc ?_ _)); exact BK281.out) hb)
                        have n8_ := Aside0.mk (Kd.C_below (by repeat (first | (with_reducible exact HR282_1.out) | (with_reducible refine Kd.C_alloc ?_ _) | (with_reducible refine Kd.C_drewN ?_ _) | (with_reducible refine Kd.C_drew ?_) | exact HR282_1.out)) hb)
                        have n9_ := Aside0.mk (Kd.C_below (by repeat (first | (with_reducible exact HR283_1.out) | (with_reducible refine Kd.C_alloc ?_ _) | (with_reducible refine Kd.C_drewN ?_ _) | (with_reducible refine Kd.C_drew ?_) | exact HR283_1.out)) hb)
                        have n10_ := Aside0.mk (below_step (by repeat (first | (with_reducible first | exact HB.out | apply below_alloc | apply pw_below_drewN | apply below_drew1 | refine below_set ?_ GE272.out | refine below_set ?_ GE281.out) | exact HB.out)) hb)
                        clear HO_7
                        clear HO_273000
                        clear HO_282000
                        clear HL282_1
                        clear HL283_1
                        clear BK272
                        clear BK281
                        clear HR282_1
                        clear HR283_1
                        clear HB
                        have HO_7 := n0_
                        have HO_273000 := n1_
                        have HO_282000 := n2_
                        have HL282_1 := n3_
                        have HL283_1 := n4_
                        have HO286 := n5_
                        have BK272 := n6_
                        have BK281 := n7_
                        have HR282_1 := n8_
                        have HR283_1 := n9_
                        have HB := n10_
                        clear n0_ n1_ n2_ n3_ n4_ n5_ n6_ n7_ n8_ n9_ n10_
                        (try clear hb)
                        (try clear hb2)
                        (try clear hk)
                        (try clear hi)
                        (try clear ho0)
                        refine hK.out _ _ ⟨(blk_cell BK281.out 0).trans rfl, HS1_, HS2_, HS3_⟩ (fun hHeld => ?_)
                        clear hK K
                        refine norm_ (a' := ?_) ?_ ?_
                        rotate_left
                        · show Act.put _ (some 58) _ = _
                          simp only [Act.put, List.setIfInBounds_toArray, List.set_cons_zero, List.set_cons_succ, i64_w, i32_w]
                          rfl
                        refine pure_ (i := 6) (N := some 52) (v := ?_) (a' := ?_) #[true, true, true, true, true, true, true, false, false, false, false, false] rfl rfl (any_of HT_.out (by kernel_rfl)) (fun _ _ _ h => h) (Or.inl ⟨by rfl, ?_⟩) ?_ ?_
                        rotate_left
                        · intro w'
                          go_simp
                          with_reducible rfl
                        rotate_left
                        · simp only [Act.put, List.setIfInBounds_toArray, List.set_cons_zero, List.set_cons_succ, i64_w, i32_w]
                          rfl
                        refine pure_ (i := 7) (N := some 59) (v := ?_) (a' := ?_) #[true, true, true, true, true, true, true, true, false, false, false, false] rfl rfl (any_of HT_.out (by kernel_rfl)) (fun _ _ _ h => h) (Or.inl ⟨by rfl, ?_⟩) ?_ ?_
                        rotate_left
                        · intro w'
                          go_simp
                          with_reducible rfl
                        rotate_left
                        · simp only [Act.put, List.setIfInBounds_toArray, List.set_cons_zero, List.set_cons_succ, i64_w, i32_w]
                          rfl
                        refine pure_ (i := 8) (N := some 60) (v := ?_) (a' := ?_) #[true, true, true, true, true, true, true, true, true, false, false, false] rfl rfl (any_of HT_.out (by kernel_rfl)) (fun _ _ _ h => h) (Or.inl ⟨by rfl, ?_⟩) ?_ ?_
                        rotate_left
                        · intro w'
                          go_simp
                          with_reducible rfl
                        rotate_left
                        · simp only [Act.put, List.setIfInBounds_toArray, List.set_cons_zero, List.set_cons_succ, i64_w, i32_w]
                          rfl
                        refine one_ (i := 9) (N := some 11) #[true, true, true, true, true, true, true, true, true, true, false, false] rfl rfl (one_of HT_.out (by kernel_rfl)) (by decide) (fun K hK => ?_)
                        refine box_step ?hg (N := 11) ?hd (cs := #[.slice none 0 0]) (t := 29) ?hr ?_; (case hd => rfl); (case hg => rfl); (case hr => first | (go_simp; done) | (go_simp; rfl))
                        intro gb288 hg w34 hbox hb
                        have HS1_ := (hb.cell (World.block_lt_of_cell? _ _ (hHeld.2.1))).trans (hHeld.2.1)
                        have HS2_ := (hb.cell (World.block_lt_of_cell? _ _ (hHeld.2.2.1))).trans (hHeld.2.2.1)
                        have HS3_ := (hb.cell (World.block_lt_of_cell? _ _ (hHeld.2.2.2))).trans (hHeld.2.2.2)
                        have n0_ := Aside0.mk (Kd.V_below (Kd.V_elderB (by (with_reducible repeat (first | apply Kd.V_alloc | apply Kd.V_drewN | apply Kd.V_drew)); exact HO_7.out) gb288 (Nat.le_of_eq hg.symm)) hb)
                        have n1_ := Aside0.mk (Kd.N_below (Kd.N_elderB (by (with_reducible repeat (first | apply Kd.N_alloc | apply Kd.N_drewN | apply Kd.N_drew)); exact HO_273000.out) gb288 (Nat.le_of_eq hg.symm)) hb)
                        have n2_ := Aside0.mk (Kd.V_below (Kd.V_elderB (by (with_reducible repeat (first | apply Kd.V_alloc | apply Kd.V_drewN | apply Kd.V_drew)); exact HO_282000.out) gb288 (Nat.le_of_eq hg.symm)) hb)
                        have n3_ := Aside0.mk (Kd.V_below (Kd.V_elderB (by (with_reducible repeat (first | apply Kd.V_alloc | apply Kd.V_drewN | apply Kd.V_drew)); exact HL282_1.out) gb288 (Nat.le_of_eq hg.symm)) hb)
                        have n4_ := Aside0.mk (Kd.V_below (Kd.V_elderB (by (with_reducible repeat (first | apply Kd.V_alloc | apply Kd.V_drewN | apply Kd.V_drew)); exact HL283_1.out) gb288 (Nat.le_of_eq hg.symm)) hb)
                        have n5_ := Aside0.mk (Kd.N_below (Kd.N_elderB (by (with_reducible repeat (first | apply Kd.N_alloc | apply Kd.N_drewN | apply Kd.N_drew)); exact HO286.out) gb288 (Nat.le_of_eq hg.symm)) hb)
                        have n6_ := Aside0.mk (blk_below (g := gb272) (o := .cells #[.slice Ao16 t269.length co16] 29 (0, 0)) (by (with_reducible repeat (first | refine blk_drewN ?_ _ | refine blk_drew ?_ | refine blk_alloc ?_ _)); exact BK272.out) hb)
                        have n7_ := Aside0.mk (blk_below (g := gb281) (o := .cells #[.slice Ao31 x282000_1.length co31] 29 (0, 0)) (by (with_reducible repeat (first | refine blk_drewN ?_ _ | refine blk_drew ?_ | refine blk_alloc ?_ _)); exact BK281.out) hb)
                        have n8_ := Aside0.mk (Kd.C_below (by repeat (first | (with_reducible exact HR282_1.out) | (with_reducible refine Kd.C_alloc ?_ _) | (with_reducible refine Kd.C_drewN ?_ _) | (with_reducible refine Kd.C_drew ?_) | exact HR282_1.out)) hb)
                        have n9_ := Aside0.mk (Kd.C_below (by repeat (first | (with_reducible exact HR283_1.out) | (with_reducible refine Kd.C_alloc ?_ _) | (with_reducible refine Kd.C_drewN ?_ _) | (with_reducible refine Kd.C_drew ?_) | exact HR283_1.out)) hb)
                        have n10_ := Aside0.mk (below_step (by repeat (first | (with_reducible first | exact HB.out | apply below_alloc | apply pw_below_drewN | apply below_drew1 | refine below_set ?_ GE272.out | refine below_set ?_ GE281.out) | exact HB.out)) hb)
                        have n11_ := Aside0.mk (hbox)
                        have n12_ := Aside0.mk ((by rw [hg]; exact (below_size (by repeat (first | (with_reducible first | exact HB.out | apply below_alloc | apply pw_below_drewN | apply below_drew1 | refine below_set ?_ GE272.out | refine below_set ?_ GE281.out) | exact HB.out))) : w.heap.size ≤ gb288))
                        have n13_ := Aside0.mk ((by rw [hg]; exact (below_size (by repeat (first | (with_reducible first | exact HB.out | apply below_alloc | apply pw_below_drewN | apply below_drew1 | refine below_set ?_ GE272.out | refine below_set ?_ GE281.out) | exact HB.out))) : w.heap.size ≤ gb288))
                        have n14_ := Aside0.mk ((by rw [hg]; exact Nat.ne_of_lt (blk_lt (g := gb272) (o := .cells #[.slice Ao16 t269.length co16] 29 (0, 0)) (by (with_reducible repeat (first | refine blk_drewN ?_ _ | refine blk_drew ?_ | refine blk_alloc ?_ _)); exact BK272.out)) : gb272 ≠ gb288))
                        have n15_ := Aside0.mk ((by rw [hg]; exact Nat.ne_of_gt (blk_lt (g := gb272) (o := .cells #[.slice Ao16 t269.length co16] 29 (0, 0)) (by (with_reducible repeat (first | refine blk_drewN ?_ _ | refine blk_drew ?_ | refine blk_alloc ?_ _)); exact BK272.out)) : gb288 ≠ gb272))
                        have n16_ := Aside0.mk ((by rw [hg]; exact Nat.ne_of_lt (blk_lt (g := gb281) (o := .cells #[.slice Ao31 x282000_1.length co31] 29 (0, 0)) (by (with_reducible repeat (first | refine blk_drewN ?_ _ | refine blk_drew ?_ | refine blk_alloc ?_ _)); exact BK281.out)) : gb281 ≠ gb288))
                        have n17_ := Aside0.mk ((by rw [hg]; exact Nat.ne_of_gt (blk_lt (g := gb281) (o := .cells #[.slice Ao31 x282000_1.length co31] 29 (0, 0)) (by (with_reducible repeat (first | refine blk_drewN ?_ _ | refine blk_drew ?_ | refine blk_alloc ?_ _)); exact BK281.out)) : gb288 ≠ gb281))
                        clear HO_7
                        clear HO_273000
                        clear HO_282000
                        clear HL282_1
                        clear HL283_1
                        clear HO286
                        clear BK272
                        clear BK281
                        clear HR282_1
                        clear HR283_1
                        clear HB
                        have HO_7 := n0_
                        have HO_273000 := n1_
                        have HO_282000 := n2_
                        have HL282_1 := n3_
                        have HL283_1 := n4_
                        have HO286 := n5_
                        have BK272 := n6_
                        have BK281 := n7_
                        have HR282_1 := n8_
                        have HR283_1 := n9_
                        have HB := n10_
                        have BK288 := n11_
                        have GW288 := n12_
                        have GE288 := n13_
                        have NB272_288 := n14_
                        have NB288_272 := n15_
                        have NB281_288 := n16_
                        have NB288_281 := n17_
                        clear n0_ n1_ n2_ n3_ n4_ n5_ n6_ n7_ n8_ n9_ n10_ n11_ n12_ n13_ n14_ n15_ n16_ n17_
                        clear hb hbox hg
                        refine hK.out _ _ ⟨(blk_cell BK281.out 0).trans rfl, HS1_, HS2_, HS3_⟩ (fun hHeld => ?_)
                        clear hK K
                        refine norm_ (a' := ?_) ?_ ?_
                        rotate_left
                        · show Act.put _ (some 11) _ = _
                          simp only [Act.put, List.setIfInBounds_toArray, List.set_cons_zero, List.set_cons_succ, i64_w, i32_w]
                          rfl
                        exact norm_ (by simp only [putAll, Act.put, List.setIfInBounds_toArray, List.set_cons_zero, List.set_cons_succ]) (hCont (v285, gb288) _ ⟨hHeld, (by (with_reducible repeat (first | apply Kd.V_alloc | apply Kd.V_drewN | apply Kd.V_drew)); exact Kd.V_mono HL282_1.out (fun _ hk => ⟨hk.1.2, ⟨hk.1.1.1, ⟨hk.1.1.2, hk.2⟩⟩⟩)), (by (with_reducible repeat (first | apply Kd.V_alloc | apply Kd.V_drewN | apply Kd.V_drew)); exact Kd.V_mono HL283_1.out (fun _ hk => ⟨hk.1.2, ⟨hk.1.1.1, ⟨hk.1.1.2, hk.2⟩⟩⟩)), (by (with_reducible repeat (first | apply Kd.N_alloc | apply Kd.N_drewN | apply Kd.N_drew)); exact Kd.N_mono HO286.out (fun _ hk => ⟨hk.1.1, ⟨hk.1.2, hk.2⟩⟩)), (by (with_reducible repeat (first | apply Kd.N_alloc | apply Kd.N_drewN | apply Kd.N_drew)); exact Kd.N_mono HO_273000.out (fun _ hk => ⟨hk.1.2, ⟨hk.1.1.1, ⟨hk.1.1.2, hk.2⟩⟩⟩)), (by (with_reducible repeat (first | apply Kd.V_alloc | apply Kd.V_drewN | apply Kd.V_drew)); exact Kd.V_mono HO_282000.out (fun _ hk => ⟨hk.1.2, ⟨hk.1.1.1, ⟨hk.1.1.2, hk.2⟩⟩⟩)), (by (with_reducible repeat (first | apply Kd.V_alloc | apply Kd.V_drewN | apply Kd.V_drew)); exact Kd.V_mono HO_7.out (fun _ hk => ⟨hk.1.2, ⟨hk.1.1.1, ⟨hk.1.1.2, hk.2⟩⟩⟩)), (by (with_reducible repeat (first | refine blk_drewN ?_ _ | refine blk_drew ?_ | refine blk_alloc ?_ _)); exact BK272.out), (by (with_reducible repeat (first | refine blk_drewN ?_ _ | refine blk_drew ?_ | refine blk_alloc ?_ _)); exact BK281.out), (by (with_reducible repeat (first | refine blk_drewN ?_ _ | refine blk_drew ?_ | refine blk_alloc ?_ _)); exact BK288.out), GW288.out, GE288.out, NB272_288.out, NB288_272.out, NB281_288.out, NB288_281.out, (by repeat (first | (with_reducible first | exact HB.out | apply below_alloc | apply pw_below_drewN | apply below_drew1 | refine below_set ?_ GE272.out | refine below_set ?_ GE281.out | refine below_set ?_ GE288.out) | exact HB.out))⟩)
                      · skip
                        refine box_step ?hg (N := 11) ?hd (cs := #[.slice none 0 0]) (t := 29) ?hr ?_; (case hd => rfl); (case hg => rfl); (case hr => first | (go_simp; done) | (go_simp; rfl))
                        intro gb288 hg w33 hbox hb
                        have HS1_ := (hb.cell (World.block_lt_of_cell? _ _ (hHeld.2.1))).trans (hHeld.2.1)
                        have HS2_ := (hb.cell (World.block_lt_of_cell? _ _ (hHeld.2.2.1))).trans (hHeld.2.2.1)
                        have HS3_ := (hb.cell (World.block_lt_of_cell? _ _ (hHeld.2.2.2))).trans (hHeld.2.2.2)
                        have n0_ := Aside0.mk (Kd.V_below (Kd.V_elderB (by (with_reducible repeat (first | apply Kd.V_alloc | apply Kd.V_drewN | apply Kd.V_drew)); exact HO_7.out) gb288 (Nat.le_of_eq hg.symm)) hb)
                        have n1_ := Aside0.mk (Kd.N_below (Kd.N_elderB (by (with_reducible repeat (first | apply Kd.N_alloc | apply Kd.N_drewN | apply Kd.N_drew)); exact HO_273000.out) gb288 (Nat.le_of_eq hg.symm)) hb)
                        have n2_ := Aside0.mk (Kd.V_below (Kd.V_elderB (by (with_reducible repeat (first | apply Kd.V_alloc | apply Kd.V_drewN | apply Kd.V_drew)); exact HO_282000.out) gb288 (Nat.le_of_eq hg.symm)) hb)
                        have n3_ := Aside0.mk (Kd.V_below (Kd.V_elderB (by (with_reducible repeat (first | apply Kd.V_alloc | apply Kd.V_drewN | apply Kd.V_drew)); exact HL282_1.out) gb288 (Nat.le_of_eq hg.symm)) hb)
                        have n4_ := Aside0.mk (Kd.V_below (Kd.V_elderB (by (with_reducible repeat (first | apply Kd.V_alloc | apply Kd.V_drewN | apply Kd.V_drew)); exact HL283_1.out) gb288 (Nat.le_of_eq hg.symm)) hb)
                        have n5_ := Aside0.mk (blk_below (g := gb272) (o := .cells #[.slice Ao16 t269.length co16] 29 (0, 0)) (by (with_reducible repeat (first | refine blk_drewN ?_ _ | refine blk_drew ?_ | refine blk_alloc ?_ _)); exact BK272.out) hb)
                        have n6_ := Aside0.mk (blk_below (g := gb281) (o := .cells #[.slice Ao31 x282000_1.length co31] 29 (0, 0)) (by (with_reducible repeat (first | refine blk_drewN ?_ _ | refine blk_drew ?_ | refine blk_alloc ?_ _)); exact BK281.out) hb)
                        have n7_ := Aside0.mk (Kd.C_below (by repeat (first | (with_reducible exact HR282_1.out) | (with_reducible refine Kd.C_alloc ?_ _) | (with_reducible refine Kd.C_drewN ?_ _) | (with_reducible refine Kd.C_drew ?_) | exact HR282_1.out)) hb)
                        have n8_ := Aside0.mk (Kd.C_below (by repeat (first | (with_reducible exact HR283_1.out) | (with_reducible refine Kd.C_alloc ?_ _) | (with_reducible refine Kd.C_drewN ?_ _) | (with_reducible refine Kd.C_drew ?_) | exact HR283_1.out)) hb)
                        have n9_ := Aside0.mk (below_step (by repeat (first | (with_reducible first | exact HB.out | apply below_alloc | apply pw_below_drewN | apply below_drew1 | refine below_set ?_ GE272.out | refine below_set ?_ GE281.out) | exact HB.out)) hb)
                        have n10_ := Aside0.mk (hbox)
                        have n11_ := Aside0.mk ((by rw [hg]; exact (below_size (by repeat (first | (with_reducible first | exact HB.out | apply below_alloc | apply pw_below_drewN | apply below_drew1 | refine below_set ?_ GE272.out | refine below_set ?_ GE281.out) | exact HB.out))) : w.heap.size ≤ gb288))
                        have n12_ := Aside0.mk ((by rw [hg]; exact (below_size (by repeat (first | (with_reducible first | exact HB.out | apply below_alloc | apply pw_below_drewN | apply below_drew1 | refine below_set ?_ GE272.out | refine below_set ?_ GE281.out) | exact HB.out))) : w.heap.size ≤ gb288))
                        have n13_ := Aside0.mk ((by rw [hg]; exact Nat.ne_of_lt (blk_lt (g := gb272) (o := .cells #[.slice Ao16 t269.length co16] 29 (0, 0)) (by (with_reducible repeat (first | refine blk_drewN ?_ _ | refine blk_drew ?_ | refine blk_alloc ?_ _)); exact BK272.out)) : gb272 ≠ gb288))
                        have n14_ := Aside0.mk ((by rw [hg]; exact Nat.ne_of_gt (blk_lt (g := gb272) (o := .cells #[.slice Ao16 t269.length co16] 29 (0, 0)) (by (with_reducible repeat (first | refine blk_drewN ?_ _ | refine blk_drew ?_ | refine blk_alloc ?_ _)); exact BK272.out)) : gb288 ≠ gb272))
                        have n15_ := Aside0.mk ((by rw [hg]; exact Nat.ne_of_lt (blk_lt (g := gb281) (o := .cells #[.slice Ao31 x282000_1.length co31] 29 (0, 0)) (by (with_reducible repeat (first | refine blk_drewN ?_ _ | refine blk_drew ?_ | refine blk_alloc ?_ _)); exact BK281.out)) : gb281 ≠ gb288))
                        have n16_ := Aside0.mk ((by rw [hg]; exact Nat.ne_of_gt (blk_lt (g := gb281) (o := .cells #[.slice Ao31 x282000_1.length co31] 29 (0, 0)) (by (with_reducible repeat (first | refine blk_drewN ?_ _ | refine blk_drew ?_ | refine blk_alloc ?_ _)); exact BK281.out)) : gb288 ≠ gb281))
                        clear HO_7
                        clear HO_273000
                        clear HO_282000
                        clear HL282_1
                        clear HL283_1
                        clear BK272
                        clear BK281
                        clear HR282_1
                        clear HR283_1
                        clear HB
                        have HO_7 := n0_
                        have HO_273000 := n1_
                        have HO_282000 := n2_
                        have HL282_1 := n3_
                        have HL283_1 := n4_
                        have BK272 := n5_
                        have BK281 := n6_
                        have HR282_1 := n7_
                        have HR283_1 := n8_
                        have HB := n9_
                        have BK288 := n10_
                        have GW288 := n11_
                        have GE288 := n12_
                        have NB272_288 := n13_
                        have NB288_272 := n14_
                        have NB281_288 := n15_
                        have NB288_281 := n16_
                        clear n0_ n1_ n2_ n3_ n4_ n5_ n6_ n7_ n8_ n9_ n10_ n11_ n12_ n13_ n14_ n15_ n16_
                        clear hb hbox hg
                        refine hK.out _ _ ⟨(blk_cell BK281.out 0).trans rfl, HS1_, HS2_, HS3_⟩ (fun hHeld => ?_)
                        clear hK K
                        refine norm_ (a' := ?_) ?_ ?_
                        rotate_left
                        · show Act.put _ (some 11) _ = _
                          simp only [Act.put, List.setIfInBounds_toArray, List.set_cons_zero, List.set_cons_succ, i64_w, i32_w]
                          rfl
                        refine one_ (i := 5) (N := some 58) #[true, true, true, true, true, true, false, false, false, true, false, false] rfl rfl (one_of HT_.out (by kernel_rfl)) (by decide) (fun K hK => ?_)
                        refine goes_ Try.func17 (by kernel_rfl) rfl #[.agg #[.slice Ao31 x282000_1.length co31], .agg #[.int .i64 ((rd_T37 t273 x10_1).f0), .slice A283_1 ((rd_T37 t273 x10_1).f1).length c283_1, .bool ((rd_T37 t273 x10_1).f2)]] (by rfl) rfl rfl (by (try simp only [List.map_toArray, List.map_cons, List.map_nil]); first | done | rfl | (simp only [List.length_drop, List.length_take]; rfl)) ?_
                        with_reducible refine (chain_Push.calls k1 (fun k_ => ((k_ ≠ gb272 ∧ k_ ≠ gb281) ∧ k_ ≠ gb288)) _ _ x282000_1 ((rd_T37 t273 x10_1).f0) (fun k_ => ((k_ ≠ gb272 ∧ k_ ≠ gb281) ∧ k_ ≠ gb288)) _ _ ((rd_T37 t273 x10_1).f1) ((rd_T37 t273 x10_1).f2) t284 t287 _ ?side1 ?side2 A30.out).mono ?_
                        (case side1 => exact HO_282000.out)
                        (case side2 => exact HL283_1.out)
                        rintro e w34 ⟨v285, rfl, ho0, hb⟩
                        have HS1_ := (hb.cell (World.block_lt_of_cell? _ _ (hHeld.2.1))).trans (hHeld.2.1)
                        have HS2_ := (hb.cell (World.block_lt_of_cell? _ _ (hHeld.2.2.1))).trans (hHeld.2.2.1)
                        have HS3_ := (hb.cell (World.block_lt_of_cell? _ _ (hHeld.2.2.2))).trans (hHeld.2.2.2)
                        refine ⟨_, rfl, ?_⟩
                        have n0_ := Aside0.mk (Kd.V_elder' (by (with_reducible repeat (first | apply Kd.V_alloc | apply Kd.V_drewN | apply Kd.V_drew)); exact HO_7.out) (Kd.N_base ho0) hb)
                        have n1_ := Aside0.mk (Kd.N_elder' (by (with_reducible repeat (first | apply Kd.N_alloc | apply Kd.N_drewN | apply Kd.N_drew)); exact HO_273000.out) (Kd.N_base ho0) hb)
                        have n2_ := Aside0.mk (Kd.V_elder' (by (with_reducible repeat (first | apply Kd.V_alloc | apply Kd.V_drewN | apply Kd.V_drew)); exact HO_282000.out) (Kd.N_base ho0) hb)
                        have n3_ := Aside0.mk (Kd.V_elder' (by (with_reducible repeat (first | apply Kd.V_alloc | apply Kd.V_drewN | apply Kd.V_drew)); exact HL282_1.out) (Kd.N_base ho0) hb)
                        have n4_ := Aside0.mk (Kd.V_elder' (by (with_reducible repeat (first | apply Kd.V_alloc | apply Kd.V_drewN | apply Kd.V_drew)); exact HL283_1.out) (Kd.N_base ho0) hb)
                        have n5_ := Aside0.mk (Kd.N_lower (Kd.N_mono (ok' := fun k_ => k_ ≠ gb272 ∧ k_ ≠ gb281 ∧ k_ ≠ gb288) ho0 (fun k_ hk_ => ⟨Or.elim hk_ (fun hs_ => Or.elim hs_ (fun hs_ => hs_.1.1) (fun hs_ => hs_.1.1)) (fun hn_ => (Kd.freshB (g := gb272) (o := .cells #[.slice Ao16 t269.length co16] 29 (0, 0)) (by (with_reducible repeat (first | refine blk_drewN ?_ _ | refine blk_drew ?_ | refine blk_alloc ?_ _)); exact BK272.out) k_ hn_)), Or.elim hk_ (fun hs_ => Or.elim hs_ (fun hs_ => hs_.1.2) (fun hs_ => hs_.1.2)) (fun hn_ => (Kd.freshB (g := gb281) (o := .cells #[.slice Ao31 x282000_1.length co31] 29 (0, 0)) (by (with_reducible repeat (first | refine blk_drewN ?_ _ | refine blk_drew ?_ | refine blk_alloc ?_ _)); exact BK281.out) k_ hn_)), Or.elim hk_ (fun hs_ => Or.elim hs_ (fun hs_ => hs_.2) (fun hs_ => hs_.2)) (fun hn_ => (Kd.freshB (g := gb288) (o := .cells #[.slice none 0 0] 29 (0, 0)) (by (with_reducible repeat (first | refine blk_drewN ?_ _ | refine blk_drew ?_ | refine blk_alloc ?_ _)); exact BK288.out) k_ hn_))⟩)) (below_size (by repeat (first | (with_reducible first | exact HB.out | apply below_alloc | apply pw_below_drewN | apply below_drew1 | refine below_set ?_ GE272.out | refine below_set ?_ GE281.out | refine below_set ?_ GE288.out) | exact HB.out))))
                        have n6_ := Aside0.mk (blk_below (g := gb272) (o := .cells #[.slice Ao16 t269.length co16] 29 (0, 0)) (by (with_reducible repeat (first | refine blk_drewN ?_ _ | refine blk_drew ?_ | refine blk_alloc ?_ _)); exact BK272.out) hb)
                        have n7_ := Aside0.mk (blk_below (g := gb281) (o := .cells #[.slice Ao31 x282000_1.length co31] 29 (0, 0)) (by (with_reducible repeat (first | refine blk_drewN ?_ _ | refine blk_drew ?_ | refine blk_alloc ?_ _)); exact BK281.out) hb)
                        have n8_ := Aside0.mk (Kd.C_below (by repeat (first | (with_reducible exact HR282_1.out) | (with_reducible refine Kd.C_alloc ?_ _) | (with_reducible refine Kd.C_drewN ?_ _) | (with_reducible refine Kd.C_drew ?_) | exact HR282_1.out)) hb)
                        have n9_ := Aside0.mk (Kd.C_below (by repeat (first | (with_reducible exact HR283_1.out) | (with_reducible refine Kd.C_alloc ?_ _) | (with_reducible refine Kd.C_drewN ?_ _) | (with_reducible refine Kd.C_drew ?_) | exact HR283_1.out)) hb)
                        have n10_ := Aside0.mk (blk_below (g := gb288) (o := .cells #[.slice none 0 0] 29 (0, 0)) (by (with_reducible repeat (first | refine blk_drewN ?_ _ | refine blk_drew ?_ | refine blk_alloc ?_ _)); exact BK288.out) hb)
                        have n11_ := Aside0.mk (below_step (by repeat (first | (with_reducible first | exact HB.out | apply below_alloc | apply pw_below_drewN | apply below_drew1 | refine below_set ?_ GE272.out | refine below_set ?_ GE281.out | refine below_set ?_ GE288.out) | exact HB.out)) hb)
                        clear HO_7
                        clear HO_273000
                        clear HO_282000
                        clear HL282_1
                        clear HL283_1
                        clear BK272
                        clear BK281
                        clear HR282_1
                        clear HR283_1
                        clear BK288
                        clear HB
                        have HO_7 := n0_
                        have HO_273000 := n1_
                        have HO_282000 := n2_
                        have HL282_1 := n3_
                        have HL283_1 := n4_
                        have HO286 := n5_
                        have BK272 := n6_
                        have BK281 := n7_
                        have HR282_1 := n8_
                        have HR283_1 := n9_
                        have BK288 := n10_
                        have HB := n11_
                        clear n0_ n1_ n2_ n3_ n4_ n5_ n6_ n7_ n8_ n9_ n10_ n11_
                        (try clear hb)
                        (try clear hb2)
                        (try clear hk)
                        (try clear hi)
                        (try clear ho0)
                        refine hK.out _ _ ⟨(blk_cell BK281.out 0).trans rfl, HS1_, HS2_, HS3_⟩ (fun hHeld => ?_)
                        clear hK K
                        refine norm_ (a' := ?_) ?_ ?_
                        rotate_left
                        · show Act.put _ (some 58) _ = _
                          simp only [Act.put, List.setIfInBounds_toArray, List.set_cons_zero, List.set_cons_succ, i64_w, i32_w]
                          rfl
                        refine pure_ (i := 6) (N := some 52) (v := ?_) (a' := ?_) #[true, true, true, true, true, true, true, false, false, true, false, false] rfl rfl (any_of HT_.out (by kernel_rfl)) (fun _ _ _ h => h) (Or.inl ⟨by rfl, ?_⟩) ?_ ?_
                        rotate_left
                        · intro w'
                          go_simp
                          with_reducible rfl
                        rotate_left
                        · simp only [Act.put, List.setIfInBounds_toArray, List.set_cons_zero, List.set_cons_succ, i64_w, i32_w]
                          rfl
                        refine pure_ (i := 7) (N := some 59) (v := ?_) (a' := ?_) #[true, true, true, true, true, true, true, true, false, true, false, false] rfl rfl (any_of HT_.out (by kernel_rfl)) (fun _ _ _ h => h) (Or.inl ⟨by rfl, ?_⟩) ?_ ?_
                        rotate_left
                        · intro w'
                          go_simp
                          with_reducible rfl
                        rotate_left
                        · simp only [Act.put, List.setIfInBounds_toArray, List.set_cons_zero, List.set_cons_succ, i64_w, i32_w]
                          rfl
                        refine pure_ (i := 8) (N := some 60) (v := ?_) (a' := ?_) #[true, true, true, true, true, true, true, true, true, true, false, false] rfl rfl (any_of HT_.out (by kernel_rfl)) (fun _ _ _ h => h) (Or.inl ⟨by rfl, ?_⟩) ?_ ?_
                        rotate_left
                        · intro w'
                          go_simp
                          with_reducible rfl
                        rotate_left
                        · simp only [Act.put, List.setIfInBounds_toArray, List.set_cons_zero, List.set_cons_succ, i64_w, i32_w]
                          rfl
                        exact norm_ (by simp only [putAll, Act.put, List.setIfInBounds_toArray, List.set_cons_zero, List.set_cons_succ]) (hCont (v285, gb288) _ ⟨hHeld, (by (with_reducible repeat (first | apply Kd.V_alloc | apply Kd.V_drewN | apply Kd.V_drew)); exact Kd.V_mono HL282_1.out (fun _ hk => ⟨hk.2, ⟨hk.1.1.1, ⟨hk.1.1.2, hk.1.2⟩⟩⟩)), (by (with_reducible repeat (first | apply Kd.V_alloc | apply Kd.V_drewN | apply Kd.V_drew)); exact Kd.V_mono HL283_1.out (fun _ hk => ⟨hk.2, ⟨hk.1.1.1, ⟨hk.1.1.2, hk.1.2⟩⟩⟩)), (by (with_reducible repeat (first | apply Kd.N_alloc | apply Kd.N_drewN | apply Kd.N_drew)); exact HO286.out), (by (with_reducible repeat (first | apply Kd.N_alloc | apply Kd.N_drewN | apply Kd.N_drew)); exact Kd.N_mono HO_273000.out (fun _ hk => ⟨hk.2, ⟨hk.1.1.1, ⟨hk.1.1.2, hk.1.2⟩⟩⟩)), (by (with_reducible repeat (first | apply Kd.V_alloc | apply Kd.V_drewN | apply Kd.V_drew)); exact Kd.V_mono HO_282000.out (fun _ hk => ⟨hk.2, ⟨hk.1.1.1, ⟨hk.1.1.2, hk.1.2⟩⟩⟩)), (by (with_reducible repeat (first | apply Kd.V_alloc | apply Kd.V_drewN | apply Kd.V_drew)); exact Kd.V_mono HO_7.out (fun _ hk => ⟨hk.2, ⟨hk.1.1.1, ⟨hk.1.1.2, hk.1.2⟩⟩⟩)), (by (with_reducible repeat (first | refine blk_drewN ?_ _ | refine blk_drew ?_ | refine blk_alloc ?_ _)); exact BK272.out), (by (with_reducible repeat (first | refine blk_drewN ?_ _ | refine blk_drew ?_ | refine blk_alloc ?_ _)); exact BK281.out), (by (with_reducible repeat (first | refine blk_drewN ?_ _ | refine blk_drew ?_ | refine blk_alloc ?_ _)); exact BK288.out), GW288.out, GE288.out, NB272_288.out, NB288_272.out, NB281_288.out, NB288_281.out, (by repeat (first | (with_reducible first | exact HB.out | apply below_alloc | apply pw_below_drewN | apply below_drew1 | refine below_set ?_ GE272.out | refine below_set ?_ GE281.out | refine below_set ?_ GE288.out) | exact HB.out))⟩)
                    rintro ⟨v285, gb288⟩ w35 ⟨hS_, h0_, h1_, h2_, h3_, h4_, h5_, h6_, h7_, h8_, h9_, h10_, h11_, h12_, h13_, h14_, h15_⟩
                    have n0_ : Aside0 (Kd.V (Kd.int .u8) 5 w35 w.heap.size (fun k_ => some k_ ≠ (v285 : Value).ownBlock ∧ k_ ≠ gb272 ∧ k_ ≠ gb281 ∧ k_ ≠ gb288) (.slice A282_1 ((rd_T37 t273 x10_1).f1).length c282_1) ((rd_T37 t273 x10_1).f1)) := ⟨h0_⟩
                    have n1_ : Aside0 (Kd.V (Kd.int .u8) 5 w35 w.heap.size (fun k_ => some k_ ≠ (v285 : Value).ownBlock ∧ k_ ≠ gb272 ∧ k_ ≠ gb281 ∧ k_ ≠ gb288) (.slice A283_1 ((rd_T37 t273 x10_1).f1).length c283_1) ((rd_T37 t273 x10_1).f1)) := ⟨h1_⟩
                    have n2_ : Aside0 (Kd.N k37 37 w35 w.heap.size (fun k_ => k_ ≠ gb272 ∧ k_ ≠ gb281 ∧ k_ ≠ gb288) v285 t284) := ⟨h2_⟩
                    have n3_ : Aside0 (Kd.N k37 37 w35 w.heap.size (fun k_ => some k_ ≠ (v285 : Value).ownBlock ∧ k_ ≠ gb272 ∧ k_ ≠ gb281 ∧ k_ ≠ gb288) (.slice Ao16 t269.length co16) t269) := ⟨h3_⟩
                    have n4_ : Aside0 (Kd.V k37 37 w35 w.heap.size (fun k_ => some k_ ≠ (v285 : Value).ownBlock ∧ k_ ≠ gb272 ∧ k_ ≠ gb281 ∧ k_ ≠ gb288) (.slice Ao31 x282000_1.length co31) x282000_1) := ⟨h4_⟩
                    have n5_ : Aside0 (Kd.V k37 37 w35 w.heap.size (fun k_ => some k_ ≠ (v285 : Value).ownBlock ∧ k_ ≠ gb272 ∧ k_ ≠ gb281 ∧ k_ ≠ gb288) (.slice (some ad282) t273.length co22) t273) := ⟨h5_⟩
                    have n6_ : Aside0 (w35.heap[gb272]? = some (.cells #[.slice Ao16 t269.length co16] 29 (0, 0))) := ⟨h6_⟩
                    have n7_ : Aside0 (w35.heap[gb281]? = some (.cells #[.slice Ao31 x282000_1.length co31] 29 (0, 0))) := ⟨h7_⟩
                    have n8_ : Aside0 (w35.heap[gb288]? = some (.cells #[.slice none 0 0] 29 (0, 0))) := ⟨h8_⟩
                    have n9_ : Aside0 (w.heap.size ≤ gb288) := ⟨h9_⟩
                    have n10_ : Aside0 (w.heap.size ≤ gb288) := ⟨h10_⟩
                    have n11_ : Aside0 (gb272 ≠ gb288) := ⟨h11_⟩
                    have n12_ : Aside0 (gb288 ≠ gb272) := ⟨h12_⟩
                    have n13_ : Aside0 (gb281 ≠ gb288) := ⟨h13_⟩
                    have n14_ : Aside0 (gb288 ≠ gb281) := ⟨h14_⟩
                    have n15_ : Aside0 (Below w.heap.size w w35) := ⟨h15_⟩
                    clear HO_7
                    clear HO_273000
                    clear HO_282000
                    clear HL282_1
                    clear BK272
                    clear BK281
                    clear HR282_1
                    clear HB
                    clear h0_ h1_ h2_ h3_ h4_ h5_ h6_ h7_ h8_ h9_ h10_ h11_ h12_ h13_ h14_ h15_
                    have HL282_1 := n0_
                    have HL283_1 := n1_
                    have HO286 := n2_
                    have HO_273000 := n3_
                    have HO_282000 := n4_
                    have HO_7 := n5_
                    have BK272 := n6_
                    have BK281 := n7_
                    have BK288 := n8_
                    have GW288 := n9_
                    have GE288 := n10_
                    have NB272_288 := n11_
                    have NB288_272 := n12_
                    have NB281_288 := n13_
                    have NB288_281 := n14_
                    have HB := n15_
                    clear n0_ n1_ n2_ n3_ n4_ n5_ n6_ n7_ n8_ n9_ n10_ n11_ n12_ n13_ n14_ n15_
                    have hHeld : w35.cell? ⟨gb281, 0, none⟩ = some (.slice Ao31 x282000_1.length co31) ∧ w35.cell? (ad282.add ((x10_1).toNat * 3)) = some (.int .i64 ((rd_T37 t273 x10_1).f0)) ∧ w35.cell? ⟨(ad282.add ((x10_1).toNat * 3)).block, (ad282.add ((x10_1).toNat * 3)).off + 1, none⟩ = some (.slice A283_1 ((rd_T37 t273 x10_1).f1).length c283_1) ∧ w35.cell? ⟨(ad282.add ((x10_1).toNat * 3)).block, (ad282.add ((x10_1).toNat * 3)).off + 2, none⟩ = some (.bool ((rd_T37 t273 x10_1).f2)) := hS_
                    obtain ⟨Ao36, co36, eo36⟩ := Kd.N_slice HO286.out
                    (first | subst eo36 | (injection eo36 with f1_ f2_ f3_; have f4_ := f1_.symm; have f5_ := f3_.symm; clear f1_ f2_ f3_; subst f4_; subst f5_))
                    refine norm_ (a' := ?_) ?_ ?_
                    rotate_left
                    · simp only [putAll, Act.put, List.setIfInBounds_toArray, List.set_cons_zero, List.set_cons_succ]
                      rfl
                    refine one_ (i := 10) (N := none) #[true, true, true, true, true, true, true, true, true, true, true, false] rfl rfl (one_of HT_.out (by kernel_rfl)) (by decide) (fun K hK => ?_)
                    have hs37 : w35.cell? ⟨gb288, 0, none⟩ = some (.slice none 0 0) := (blk_cell BK288.out 0).trans rfl
                    have hfs37 := blk_frozen BK288.out 0
                    have hns37_0 := NB272_288.out
                    have hns37_1 := NB281_288.out
                    have hms37_0 := NB288_272.out
                    have hms37_1 := NB288_281.out
                    refine skip_ (w1 := ?_) (by rfl) rfl ?_ ?_
                    rotate_left
                    · go_simp
                      rfl
                    refine hK.out _ _ ⟨((cell_far (p := ⟨gb288, _, none⟩) NB281_288.out _).trans (hHeld.1)), ((cell_far (p := ⟨gb288, _, none⟩) (by first | exact Kd.own_blk (Kd.V_away HO_7.out (fun _ hk => hk.2.2.2)) | (rw [add_block]; exact Kd.own_blk (Kd.V_away HO_7.out (fun _ hk => hk.2.2.2))) | (show (Addr.add _ _).block ≠ _; rw [add_block]; exact Kd.own_blk (Kd.V_away HO_7.out (fun _ hk => hk.2.2.2))) | (dsimp only; exact Kd.own_blk (Kd.V_away HO_7.out (fun _ hk => hk.2.2.2)))) _).trans (hHeld.2.1)), ((cell_far (p := ⟨gb288, _, none⟩) (by first | exact Kd.own_blk (Kd.V_away HO_7.out (fun _ hk => hk.2.2.2)) | (rw [add_block]; exact Kd.own_blk (Kd.V_away HO_7.out (fun _ hk => hk.2.2.2))) | (show (Addr.add _ _).block ≠ _; rw [add_block]; exact Kd.own_blk (Kd.V_away HO_7.out (fun _ hk => hk.2.2.2))) | (dsimp only; exact Kd.own_blk (Kd.V_away HO_7.out (fun _ hk => hk.2.2.2)))) _).trans (hHeld.2.2.1)), ((cell_far (p := ⟨gb288, _, none⟩) (by first | exact Kd.own_blk (Kd.V_away HO_7.out (fun _ hk => hk.2.2.2)) | (rw [add_block]; exact Kd.own_blk (Kd.V_away HO_7.out (fun _ hk => hk.2.2.2))) | (show (Addr.add _ _).block ≠ _; rw [add_block]; exact Kd.own_blk (Kd.V_away HO_7.out (fun _ hk => hk.2.2.2))) | (dsimp only; exact Kd.own_blk (Kd.V_away HO_7.out (fun _ hk => hk.2.2.2)))) _).trans (hHeld.2.2.2))⟩ (fun hHeld => ?_)
                    clear hK K
                    refine pure_ (i := 11) (N := some 12) (v := ?_) (a' := ?_) #[true, true, true, true, true, true, true, true, true, true, true, true] rfl rfl (any_of HT_.out (by kernel_rfl)) (fun _ _ _ h => h) (Or.inl ⟨by rfl, ?_⟩) ?_ ?_
                    rotate_left
                    · intro w'
                      go_simp
                      with_reducible rfl
                    rotate_left
                    · simp only [Act.put, List.setIfInBounds_toArray, List.set_cons_zero, List.set_cons_succ, i64_w, i32_w]
                      rfl
                    refine done_ (done_of HT_.out (by kernel_rfl)) ?_
                    have hnb38 := NB288_272.out
                    have hnc38 := NB272_288.out
                    have hnb39 := NB288_281.out
                    have hnc39 := NB281_288.out
                    have hcz40_0 : w35.cell? ⟨gb288, 0, none⟩ = some (.slice none 0 0) := (blk_cell BK288.out 0).trans rfl
                    have hfz40_0 := blk_frozen BK288.out 0
                    have hnb41 := NB281_272.out
                    have hnc41 := NB272_281.out
                    have hcz42_0 : w35.cell? ⟨gb281, 0, none⟩ = some (.slice Ao31 x282000_1.length co31) := (blk_cell BK281.out 0).trans rfl
                    have hfz42_0 := blk_frozen BK281.out 0
                    try go_wp2
                    go_roundg k1
                    case measure => have := HK1.out; omega
                    case rel => exact ⟨(wrap64 (x10_1 + 1)), (t284), (.slice Ao36 t284.length co36), (by first | rfl | (simp; done) | (simp [*]; done)), H', ⟨by have := HK1.out; omega⟩, ⟨by (with_reducible repeat (first | apply Kd.V_alloc | apply Kd.V_drewN | apply Kd.V_drew)); exact Kd.V_mono (Kd.V_far (p := ⟨gb281, 0, none⟩) (Kd.V_far (p := ⟨gb288, 0, none⟩) (Kd.V_mono (Kd.V_mono HO_7.out (fun k_ hk => (⟨hk, hk.2.2.2⟩ : _ ∧ k_ ≠ gb288))) (fun k_ hk => (⟨hk, hk.1.2.2.1⟩ : _ ∧ k_ ≠ gb281))) (fun _ hk => hk.1.2) (.slice Ao36 t284.length co36)) (fun _ hk => hk.2) (.slice Ao36 t284.length co36)) (fun _ hk => ⟨hk.1.1.2.1, hk.1.1.2.2.1⟩)⟩, ⟨by (with_reducible repeat (first | apply Kd.N_alloc | apply Kd.N_drewN | apply Kd.N_drew)); exact Kd.N_mono (Kd.N_far (p := ⟨gb281, 0, none⟩) (Kd.N_far (p := ⟨gb288, 0, none⟩) (Kd.N_mono (Kd.N_mono HO_273000.out (fun k_ hk => (⟨hk, hk.2.2.2⟩ : _ ∧ k_ ≠ gb288))) (fun k_ hk => (⟨hk, hk.1.2.2.1⟩ : _ ∧ k_ ≠ gb281))) (fun _ hk => hk.1.2) (.slice Ao36 t284.length co36)) (fun _ hk => hk.2) (.slice Ao36 t284.length co36)) (fun _ hk => ⟨hk.1.1.2.1, hk.1.1.2.2.1⟩)⟩, ⟨Kd.N_V (by (with_reducible repeat (first | apply Kd.N_alloc | apply Kd.N_drewN | apply Kd.N_drew)); exact Kd.N_mono (Kd.N_far (p := ⟨gb281, 0, none⟩) (Kd.N_far (p := ⟨gb288, 0, none⟩) (Kd.N_mono (Kd.N_mono HO286.out (fun k_ hk => (⟨hk, hk.2.2⟩ : _ ∧ k_ ≠ gb288))) (fun k_ hk => (⟨hk, hk.1.2.1⟩ : _ ∧ k_ ≠ gb281))) (fun _ hk => hk.1.2) (.slice Ao36 t284.length co36)) (fun _ hk => hk.2) (.slice Ao36 t284.length co36)) (fun _ hk => ⟨hk.1.1.1, hk.1.1.2.1⟩))⟩, ⟨by (with_reducible repeat (first | refine blk_drewN ?_ _ | refine blk_drew ?_ | refine blk_alloc ?_ _)); refine blk_far ?_ NB272_281.out _; (with_reducible repeat (first | refine blk_drewN ?_ _ | refine blk_drew ?_ | refine blk_alloc ?_ _)); refine blk_far ?_ NB272_288.out _; (with_reducible repeat (first | refine blk_drewN ?_ _ | refine blk_drew ?_ | refine blk_alloc ?_ _)); exact BK272.out⟩, ⟨by (with_reducible repeat (first | refine blk_drewN ?_ _ | refine blk_drew ?_ | refine blk_alloc ?_ _)); refine blk_put (cs := #[.slice Ao31 x282000_1.length co31]) ?_ 0 _ rfl; (with_reducible repeat (first | refine blk_drewN ?_ _ | refine blk_drew ?_ | refine blk_alloc ?_ _)); refine blk_far ?_ NB281_288.out _; (with_reducible repeat (first | refine blk_drewN ?_ _ | refine blk_drew ?_ | refine blk_alloc ?_ _)); exact BK281.out⟩, ⟨by repeat (first | (with_reducible first | exact HB.out | apply below_alloc | apply pw_below_drewN | apply below_drew1 | refine below_set ?_ GE272.out | refine below_set ?_ GE281.out | refine below_set ?_ GE288.out) | exact HB.out)⟩⟩
                · rw [if_neg c28] at H
                  exact absurd H (by simp)
              · rw [if_neg c27] at H
                have c27b0 : decide (x10_1 < (t273.length : Int)) = false := decide_eq_false c27
                clear c27
                replace H := Option.bind_eq_some_iff.mp H
                obtain ⟨⟨t289, t290, t293, t294⟩, A430, H⟩ := H
                replace H : (if t267 = true then ((godwitlaw07_theirs.f k1 x282000_1).bind fun t296 => ((godwitlaw07_theirs.f k1 t269).bind fun t299 => ((godwitref07_Same.f k1 t296 t299).bind fun t302 => (if t302 = true then (some (t294 == (decide (ji9 > 0)))) else (none))))) else (none)) = some r := H
                have A43 := Aside0.mk A430
                clear A430
                by_cases c44 : t267 = true
                · subst c44
                  have H1 : ((godwitlaw07_theirs.f k1 x282000_1).bind fun t296 => ((godwitlaw07_theirs.f k1 t269).bind fun t299 => ((godwitref07_Same.f k1 t296 t299).bind fun t302 => (if t302 = true then (some (t294 == (decide (ji9 > 0)))) else (none))))) = some r := by rw [if_pos rfl] at H; exact H
                  clear H
                  have H := H1
                  clear H1
                  replace H := Option.bind_eq_some_iff.mp H
                  obtain ⟨t296, A450, H⟩ := H
                  replace H : ((godwitlaw07_theirs.f k1 t269).bind fun t299 => ((godwitref07_Same.f k1 t296 t299).bind fun t302 => (if t302 = true then (some (t294 == (decide (ji9 > 0)))) else (none)))) = some r := H
                  have A45 := Aside0.mk A450
                  clear A450
                  replace H := Option.bind_eq_some_iff.mp H
                  obtain ⟨t299, A460, H⟩ := H
                  replace H : ((godwitref07_Same.f k1 t296 t299).bind fun t302 => (if t302 = true then (some (t294 == (decide (ji9 > 0)))) else (none))) = some r := H
                  have A46 := Aside0.mk A460
                  clear A460
                  replace H := Option.bind_eq_some_iff.mp H
                  obtain ⟨t302, A470, H⟩ := H
                  replace H : (if t302 = true then (some (t294 == (decide (ji9 > 0)))) else (none)) = some r := H
                  have A47 := Aside0.mk A470
                  clear A470
                  by_cases c48 : t302 = true
                  · subst c48
                    have H1 : (some (t294 == (decide (ji9 > 0)))) = some r := by rw [if_pos rfl] at H; exact H
                    clear H
                    have H := H1
                    clear H1
                    obtain rfl := Option.some.inj H
                    have hnb49 := NB272_281.out
                    have hnc49 := NB281_272.out
                    have hcz50_0 : wr.cell? ⟨gb272, 0, none⟩ = some (.slice Ao16 t269.length co16) := (blk_cell BK272.out 0).trans rfl
                    have hfz50_0 := blk_frozen BK272.out 0
                    try go_wp2_with (first | ((with_reducible refine gate_callee (f := 14) rfl ?_); refine goesL_ (some 65) rfl rfl Try.func14 (by kernel_rfl) rfl #[.agg #[.slice Ao16 t269.length co16], .int .i64 a1] rfl (by (try simp only [List.map_toArray, List.map_cons, List.map_nil]); first | done | rfl | (simp only [List.length_drop, List.length_take]; rfl)) ?_; (with_reducible refine (chain_At.calls (fun k_ => (k_ ≠ gb272 ∧ k_ ≠ gb281)) _ _ t269 a1 t289 t290 t293 t294 _ ?side1 A43.out).mono ?_); (case side1 => exact Kd.N_V (HO_273000.out)); rintro e w51 ⟨v291, rfl, ho0, hb⟩; refine ⟨_, rfl, ?_⟩; have n0_ := Aside0.mk (Kd.V_below (by (with_reducible repeat (first | apply Kd.V_alloc | apply Kd.V_drewN | apply Kd.V_drew)); exact HO_7.out) hb); have n1_ := Aside0.mk (Kd.N_below (by (with_reducible repeat (first | apply Kd.N_alloc | apply Kd.N_drewN | apply Kd.N_drew)); exact HO_273000.out) hb); have n2_ := Aside0.mk (Kd.V_below (by (with_reducible repeat (first | apply Kd.V_alloc | apply Kd.V_drewN | apply Kd.V_drew)); exact HO_282000.out) hb); have n3_ := Aside0.mk (Kd.V_lower (Kd.V_mono (ok' := fun k_ => k_ ≠ gb272 ∧ k_ ≠ gb281) ho0 (fun k_ hk_ => ⟨Or.elim hk_ (fun hs_ => hs_.1) (fun hn_ => (Kd.freshB (g := gb272) (o := .cells #[.slice Ao16 t269.length co16] 29 (0, 0)) (by (with_reducible repeat (first | refine blk_drewN ?_ _ | refine blk_drew ?_ | refine blk_alloc ?_ _)); exact BK272.out) k_ hn_)), Or.elim hk_ (fun hs_ => hs_.2) (fun hn_ => (Kd.freshB (g := gb281) (o := .cells #[u282000] 29 (0, 0)) (by (with_reducible repeat (first | refine blk_drewN ?_ _ | refine blk_drew ?_ | refine blk_alloc ?_ _)); exact BK281.out) k_ hn_))⟩)) (below_size (by repeat (first | (with_reducible first | exact HB.out | apply below_alloc | apply pw_below_drewN | apply below_drew1 | refine below_set ?_ GE272.out | refine below_set ?_ GE281.out) | exact HB.out)))); have n4_ := Aside0.mk (blk_below (g := gb272) (o := .cells #[.slice Ao16 t269.length co16] 29 (0, 0)) (by (with_reducible repeat (first | refine blk_drewN ?_ _ | refine blk_drew ?_ | refine blk_alloc ?_ _)); exact BK272.out) hb); have n5_ := Aside0.mk (blk_below (g := gb281) (o := .cells #[u282000] 29 (0, 0)) (by (with_reducible repeat (first | refine blk_drewN ?_ _ | refine blk_drew ?_ | refine blk_alloc ?_ _)); exact BK281.out) hb); have n6_ := Aside0.mk (below_step (by repeat (first | (with_reducible first | exact HB.out | apply below_alloc | apply pw_below_drewN | apply below_drew1 | refine below_set ?_ GE272.out | refine below_set ?_ GE281.out) | exact HB.out)) hb); clear HO_7; clear HO_273000; clear HO_282000; clear BK272; clear BK281; clear HB; have HO_7 := n0_; have HO_273000 := n1_; have HO_282000 := n2_; have HO292 := n3_; have BK272 := n4_; have BK281 := n5_; have HB := n6_; clear n0_ n1_ n2_ n3_ n4_ n5_ n6_; (try clear hb); (try clear hb2); (try clear hk); (try clear hi); (try clear ho0)) | ((with_reducible refine gate_dst (N := 13) rfl ?_); refine box_event ?hg (N := 13) ?hd (cs := #[.int .i64 0, .slice none 0 0, .bool false]) (t := 37) ?hr ?_; (case hd => rfl); (case hg => rfl); (case hr => first | (go_simp; done) | (go_simp; rfl)); intro gb295 hg w52 hbox hb; have n0_ := Aside0.mk (Kd.V_below (Kd.V_elderB (by (with_reducible repeat (first | apply Kd.V_alloc | apply Kd.V_drewN | apply Kd.V_drew)); exact HO_7.out) gb295 (Nat.le_of_eq hg.symm)) hb); have n1_ := Aside0.mk (Kd.N_below (Kd.N_elderB (by (with_reducible repeat (first | apply Kd.N_alloc | apply Kd.N_drewN | apply Kd.N_drew)); exact HO_273000.out) gb295 (Nat.le_of_eq hg.symm)) hb); have n2_ := Aside0.mk (Kd.V_below (Kd.V_elderB (by (with_reducible repeat (first | apply Kd.V_alloc | apply Kd.V_drewN | apply Kd.V_drew)); exact HO_282000.out) gb295 (Nat.le_of_eq hg.symm)) hb); have n3_ := Aside0.mk (Kd.V_below (Kd.V_elderB (by (with_reducible repeat (first | apply Kd.V_alloc | apply Kd.V_drewN | apply Kd.V_drew)); exact HO292.out) gb295 (Nat.le_of_eq hg.symm)) hb); have n4_ := Aside0.mk (blk_below (g := gb272) (o := .cells #[.slice Ao16 t269.length co16] 29 (0, 0)) (by (with_reducible repeat (first | refine blk_drewN ?_ _ | refine blk_drew ?_ | refine blk_alloc ?_ _)); exact BK272.out) hb); have n5_ := Aside0.mk (blk_below (g := gb281) (o := .cells #[u282000] 29 (0, 0)) (by (with_reducible repeat (first | refine blk_drewN ?_ _ | refine blk_drew ?_ | refine blk_alloc ?_ _)); exact BK281.out) hb); have n6_ := Aside0.mk (below_step (by repeat (first | (with_reducible first | exact HB.out | apply below_alloc | apply pw_below_drewN | apply below_drew1 | refine below_set ?_ GE272.out | refine below_set ?_ GE281.out) | exact HB.out)) hb); have n7_ := Aside0.mk (hbox); have n8_ := Aside0.mk ((by rw [hg]; exact (below_size (by repeat (first | (with_reducible first | exact HB.out | apply below_alloc | apply pw_below_drewN | apply below_drew1 | refine below_set ?_ GE272.out | refine below_set ?_ GE281.out) | exact HB.out))) : w.heap.size ≤ gb295)); have n9_ := Aside0.mk ((by rw [hg]; exact (below_size (by repeat (first | (with_reducible first | exact HB.out | apply below_alloc | apply pw_below_drewN | apply below_drew1 | refine below_set ?_ GE272.out | refine below_set ?_ GE281.out) | exact HB.out))) : w.heap.size ≤ gb295)); have n10_ := Aside0.mk ((by rw [hg]; exact Nat.ne_of_lt (blk_lt (g := gb272) (o := .cells #[.slice Ao16 t269.length co16] 29 (0, 0)) (by (with_reducible repeat (first | refine blk_drewN ?_ _ | refine blk_drew ?_ | refine blk_alloc ?_ _)); exact BK272.out)) : gb272 ≠ gb295)); have n11_ := Aside0.mk ((by rw [hg]; exact Nat.ne_of_gt (blk_lt (g := gb272) (o := .cells #[.slice Ao16 t269.length co16] 29 (0, 0)) (by (with_reducible repeat (first | refine blk_drewN ?_ _ | refine blk_drew ?_ | refine blk_alloc ?_ _)); exact BK272.out)) : gb295 ≠ gb272)); have n12_ := Aside0.mk ((by rw [hg]; exact Nat.ne_of_lt (blk_lt (g := gb281) (o := .cells #[u282000] 29 (0, 0)) (by (with_reducible repeat (first | refine blk_drewN ?_ _ | refine blk_drew ?_ | refine blk_alloc ?_ _)); exact BK281.out)) : gb281 ≠ gb295)); have n13_ := Aside0.mk ((by rw [hg]; exact Nat.ne_of_gt (blk_lt (g := gb281) (o := .cells #[u282000] 29 (0, 0)) (by (with_reducible repeat (first | refine blk_drewN ?_ _ | refine blk_drew ?_ | refine blk_alloc ?_ _)); exact BK281.out)) : gb295 ≠ gb281)); clear HO_7; clear HO_273000; clear HO_282000; clear HO292; clear BK272; clear BK281; clear HB; have HO_7 := n0_; have HO_273000 := n1_; have HO_282000 := n2_; have HO292 := n3_; have BK272 := n4_; have BK281 := n5_; have HB := n6_; have BK295 := n7_; have GW295 := n8_; have GE295 := n9_; have NB272_295 := n10_; have NB295_272 := n11_; have NB281_295 := n12_; have NB295_281 := n13_; clear n0_ n1_ n2_ n3_ n4_ n5_ n6_ n7_ n8_ n9_ n10_ n11_ n12_ n13_; clear hb hbox hg; have hnb53 := NB295_272.out; have hnc53 := NB272_295.out; have hnb54 := NB295_281.out; have hnc54 := NB281_295.out; have hcz55_0 : w52.cell? ⟨gb295, 0, none⟩ = some (.int .i64 0) := (blk_cell BK295.out 0).trans rfl; have hcz55_1 : w52.cell? ⟨gb295, 1, none⟩ = some (.slice none 0 0) := (blk_cell BK295.out 1).trans rfl; have hcz55_2 : w52.cell? ⟨gb295, 2, none⟩ = some (.bool false) := (blk_cell BK295.out 2).trans rfl; have hfz55_0 := blk_frozen BK295.out 0; have hfz55_1 := blk_frozen BK295.out 1; have hfz55_2 := blk_frozen BK295.out 2; obtain ⟨Ao56, co56, eo56⟩ := Kd.V_slice HO292.out; subst eo56))
                    have n0_ : Aside0 (Kd.V k37 37 (((w52.setCell ⟨gb295, 0, none⟩ (.int .i64 t289)).setCell ⟨gb295, 1, none⟩ (.slice Ao56 t290.length co56)).setCell ⟨gb295, 2, none⟩ (.bool t293)) w.heap.size (fun k_ => k_ ≠ gb272 ∧ k_ ≠ gb281 ∧ k_ ≠ gb295) (.slice Ao22 t273.length co22) t273) := ⟨by (with_reducible repeat (first | apply Kd.V_alloc | apply Kd.V_drewN | apply Kd.V_drew)); exact Kd.V_mono (Kd.V_far (p := ⟨gb295, 2, none⟩) (Kd.V_far (p := ⟨gb295, 1, none⟩) (Kd.V_far (p := ⟨gb295, 0, none⟩) (Kd.V_mono HO_7.out (fun k_ hk => (⟨hk, hk.2⟩ : _ ∧ k_ ≠ gb295))) (fun _ hk => hk.2) (.int .i64 t289)) (fun _ hk => hk.2) (.slice Ao56 t290.length co56)) (fun _ hk => hk.2) (.bool t293)) (fun _ hk => ⟨hk.1.1.1, ⟨hk.1.1.2, hk.1.2⟩⟩)⟩
                    have n1_ : Aside0 (Kd.N k37 37 (((w52.setCell ⟨gb295, 0, none⟩ (.int .i64 t289)).setCell ⟨gb295, 1, none⟩ (.slice Ao56 t290.length co56)).setCell ⟨gb295, 2, none⟩ (.bool t293)) w.heap.size (fun k_ => k_ ≠ gb272 ∧ k_ ≠ gb281 ∧ k_ ≠ gb295) (.slice Ao16 t269.length co16) t269) := ⟨by (with_reducible repeat (first | apply Kd.N_alloc | apply Kd.N_drewN | apply Kd.N_drew)); exact Kd.N_mono (Kd.N_far (p := ⟨gb295, 2, none⟩) (Kd.N_far (p := ⟨gb295, 1, none⟩) (Kd.N_far (p := ⟨gb295, 0, none⟩) (Kd.N_mono HO_273000.out (fun k_ hk => (⟨hk, hk.2⟩ : _ ∧ k_ ≠ gb295))) (fun _ hk => hk.2) (.int .i64 t289)) (fun _ hk => hk.2) (.slice Ao56 t290.length co56)) (fun _ hk => hk.2) (.bool t293)) (fun _ hk => ⟨hk.1.1.1, ⟨hk.1.1.2, hk.1.2⟩⟩)⟩
                    have n2_ : Aside0 (Kd.V k37 37 (((w52.setCell ⟨gb295, 0, none⟩ (.int .i64 t289)).setCell ⟨gb295, 1, none⟩ (.slice Ao56 t290.length co56)).setCell ⟨gb295, 2, none⟩ (.bool t293)) w.heap.size (fun k_ => k_ ≠ gb272 ∧ k_ ≠ gb281 ∧ k_ ≠ gb295) u282000 x282000_1) := ⟨by (with_reducible repeat (first | apply Kd.V_alloc | apply Kd.V_drewN | apply Kd.V_drew)); exact Kd.V_mono (Kd.V_far (p := ⟨gb295, 2, none⟩) (Kd.V_far (p := ⟨gb295, 1, none⟩) (Kd.V_far (p := ⟨gb295, 0, none⟩) (Kd.V_mono HO_282000.out (fun k_ hk => (⟨hk, hk.2⟩ : _ ∧ k_ ≠ gb295))) (fun _ hk => hk.2) (.int .i64 t289)) (fun _ hk => hk.2) (.slice Ao56 t290.length co56)) (fun _ hk => hk.2) (.bool t293)) (fun _ hk => ⟨hk.1.1.1, ⟨hk.1.1.2, hk.1.2⟩⟩)⟩
                    have n3_ : Aside0 (Kd.V (Kd.int .u8) 5 (((w52.setCell ⟨gb295, 0, none⟩ (.int .i64 t289)).setCell ⟨gb295, 1, none⟩ (.slice Ao56 t290.length co56)).setCell ⟨gb295, 2, none⟩ (.bool t293)) w.heap.size (fun k_ => k_ ≠ gb272 ∧ k_ ≠ gb281 ∧ k_ ≠ gb295) (.slice Ao56 t290.length co56) t290) := ⟨by (with_reducible repeat (first | apply Kd.V_alloc | apply Kd.V_drewN | apply Kd.V_drew)); exact Kd.V_mono (Kd.V_far (p := ⟨gb295, 2, none⟩) (Kd.V_far (p := ⟨gb295, 1, none⟩) (Kd.V_far (p := ⟨gb295, 0, none⟩) (Kd.V_mono HO292.out (fun k_ hk => (⟨hk, hk.2⟩ : _ ∧ k_ ≠ gb295))) (fun _ hk => hk.2) (.int .i64 t289)) (fun _ hk => hk.2) (.slice Ao56 t290.length co56)) (fun _ hk => hk.2) (.bool t293)) (fun _ hk => ⟨hk.1.1.1, ⟨hk.1.1.2, hk.1.2⟩⟩)⟩
                    have n4_ : Aside0 ((((w52.setCell ⟨gb295, 0, none⟩ (.int .i64 t289)).setCell ⟨gb295, 1, none⟩ (.slice Ao56 t290.length co56)).setCell ⟨gb295, 2, none⟩ (.bool t293)).heap[gb272]? = some (.cells #[.slice Ao16 t269.length co16] 29 (0, 0))) := ⟨by (with_reducible repeat (first | refine blk_drewN ?_ _ | refine blk_drew ?_ | refine blk_alloc ?_ _)); refine blk_far ?_ NB272_295.out _; (with_reducible repeat (first | refine blk_drewN ?_ _ | refine blk_drew ?_ | refine blk_alloc ?_ _)); refine blk_far ?_ NB272_295.out _; (with_reducible repeat (first | refine blk_drewN ?_ _ | refine blk_drew ?_ | refine blk_alloc ?_ _)); refine blk_far ?_ NB272_295.out _; (with_reducible repeat (first | refine blk_drewN ?_ _ | refine blk_drew ?_ | refine blk_alloc ?_ _)); exact BK272.out⟩
                    have n5_ : Aside0 ((((w52.setCell ⟨gb295, 0, none⟩ (.int .i64 t289)).setCell ⟨gb295, 1, none⟩ (.slice Ao56 t290.length co56)).setCell ⟨gb295, 2, none⟩ (.bool t293)).heap[gb281]? = some (.cells #[u282000] 29 (0, 0))) := ⟨by (with_reducible repeat (first | refine blk_drewN ?_ _ | refine blk_drew ?_ | refine blk_alloc ?_ _)); refine blk_far ?_ NB281_295.out _; (with_reducible repeat (first | refine blk_drewN ?_ _ | refine blk_drew ?_ | refine blk_alloc ?_ _)); refine blk_far ?_ NB281_295.out _; (with_reducible repeat (first | refine blk_drewN ?_ _ | refine blk_drew ?_ | refine blk_alloc ?_ _)); refine blk_far ?_ NB281_295.out _; (with_reducible repeat (first | refine blk_drewN ?_ _ | refine blk_drew ?_ | refine blk_alloc ?_ _)); exact BK281.out⟩
                    have n6_ : Aside0 ((((w52.setCell ⟨gb295, 0, none⟩ (.int .i64 t289)).setCell ⟨gb295, 1, none⟩ (.slice Ao56 t290.length co56)).setCell ⟨gb295, 2, none⟩ (.bool t293)).heap[gb295]? = some (.cells #[.int .i64 t289, .slice Ao56 t290.length co56, .bool t293] 37 (0, 0))) := ⟨by (with_reducible repeat (first | refine blk_drewN ?_ _ | refine blk_drew ?_ | refine blk_alloc ?_ _)); refine blk_put (cs := #[.int .i64 t289, .slice Ao56 t290.length co56, .bool false]) ?_ 2 _ rfl; (with_reducible repeat (first | refine blk_drewN ?_ _ | refine blk_drew ?_ | refine blk_alloc ?_ _)); refine blk_put (cs := #[.int .i64 t289, .slice none 0 0, .bool false]) ?_ 1 _ rfl; (with_reducible repeat (first | refine blk_drewN ?_ _ | refine blk_drew ?_ | refine blk_alloc ?_ _)); refine blk_put (cs := #[.int .i64 0, .slice none 0 0, .bool false]) ?_ 0 _ rfl; (with_reducible repeat (first | refine blk_drewN ?_ _ | refine blk_drew ?_ | refine blk_alloc ?_ _)); exact BK295.out⟩
                    have n7_ : Aside0 (Below w.heap.size w (((w52.setCell ⟨gb295, 0, none⟩ (.int .i64 t289)).setCell ⟨gb295, 1, none⟩ (.slice Ao56 t290.length co56)).setCell ⟨gb295, 2, none⟩ (.bool t293))) := ⟨by repeat (first | (with_reducible first | exact HB.out | apply below_alloc | apply pw_below_drewN | apply below_drew1 | refine below_set ?_ GE272.out | refine below_set ?_ GE281.out | refine below_set ?_ GE295.out) | exact HB.out)⟩
                    (try clear HO_7)
                    (try clear HO_273000)
                    (try clear HO_282000)
                    (try clear HO292)
                    (try clear BK272)
                    (try clear BK281)
                    (try clear BK295)
                    (try clear HB)
                    generalize (((w52.setCell ⟨gb295, 0, none⟩ (.int .i64 t289)).setCell ⟨gb295, 1, none⟩ (.slice Ao56 t290.length co56)).setCell ⟨gb295, 2, none⟩ (.bool t293)) = w57 at n0_ n1_ n2_ n3_ n4_ n5_ n6_ n7_ ⊢
                    have HO_7 := n0_
                    have HO_273000 := n1_
                    have HO_282000 := n2_
                    have HO292 := n3_
                    have BK272 := n4_
                    have BK281 := n5_
                    have BK295 := n6_
                    have HB := n7_
                    clear n0_ n1_ n2_ n3_ n4_ n5_ n6_ n7_
                    have n0_ := Aside0.mk (Kd.V_drew HO_7.out)
                    have n1_ := Aside0.mk (Kd.N_drew HO_273000.out)
                    have n2_ := Aside0.mk (Kd.V_drew HO_282000.out)
                    have n3_ := Aside0.mk (Kd.V_drew HO292.out)
                    have n4_ := Aside0.mk (blk_drew BK272.out)
                    have n5_ := Aside0.mk (blk_drew BK281.out)
                    have n6_ := Aside0.mk (blk_drew BK295.out)
                    have n7_ := Aside0.mk (below_drew1 HB.out)
                    clear HO_7
                    clear HO_273000
                    clear HO_282000
                    clear HO292
                    clear BK272
                    clear BK281
                    clear BK295
                    clear HB
                    have HO_7 := n0_
                    have HO_273000 := n1_
                    have HO_282000 := n2_
                    have HO292 := n3_
                    have BK272 := n4_
                    have BK281 := n5_
                    have BK295 := n6_
                    have HB := n7_
                    clear n0_ n1_ n2_ n3_ n4_ n5_ n6_ n7_
                    obtain ⟨Ao59, co59, eo59⟩ := Kd.V_slice HO_282000.out
                    (first | subst eo59 | (injection eo59 with f1_ f2_ f3_; have f4_ := f1_.symm; have f5_ := f3_.symm; clear f1_ f2_ f3_; subst f4_; subst f5_))
                    refine start_ (n := 17) (S := fun w' => w'.cell? ⟨gb281, 0, none⟩ = some (.slice Ao59 x282000_1.length co59) ∧ w'.cell? ⟨gb272, 0, none⟩ = some (.slice Ao16 t269.length co16)) (ds := []) #[false, false, false, false, false, false, false, false, false, false, false, false, false, false, false, false, false] (by kernel_rfl) rfl rfl ⟨(blk_cell BK281.out 0).trans rfl, (blk_cell BK272.out 0).trans rfl⟩ (fun hHeld => ?_); refine with_tabW godwitlaw07_ChainSince.tab18 godwitlaw07_ChainSince.bits18 (fun HT_ HW_ => ?_)
                    generalize w57.drew = w58 at HO_7 HO_273000 HO_282000 HO292 BK272 BK281 BK295 HB hHeld ⊢
                    refine pure_ (i := 0) (N := some 68) (v := ?_) (a' := ?_) #[true, false, false, false, false, false, false, false, false, false, false, false, false, false, false, false, false] rfl rfl (any_of HT_.out (by kernel_rfl)) (fun _ _ _ h => h) (Or.inl ⟨by rfl, ?_⟩) ?_ ?_
                    rotate_left
                    · intro w'
                      go_simp
                      with_reducible rfl
                    rotate_left
                    · simp only [Act.put, List.setIfInBounds_toArray, List.set_cons_zero, List.set_cons_succ, i64_w, i32_w]
                      rfl
                    refine pure_ (i := 1) (N := some 69) (v := ?_) (a' := ?_) #[true, true, false, false, false, false, false, false, false, false, false, false, false, false, false, false, false] rfl rfl (any_of HT_.out (by kernel_rfl)) (fun _ _ _ h => h) (Or.inl ⟨by rfl, ?_⟩) ?_ ?_
                    rotate_left
                    · intro w'
                      go_simp
                      with_reducible rfl
                    rotate_left
                    · simp only [Act.put, List.setIfInBounds_toArray, List.set_cons_zero, List.set_cons_succ, i64_w, i32_w]
                      rfl
                    refine pure_ (i := 2) (N := some 70) (v := ?_) (a' := ?_) #[true, true, true, false, false, false, false, false, false, false, false, false, false, false, false, false, false] rfl rfl (any_of HT_.out (by kernel_rfl)) (fun _ _ _ h => h) (Or.inl ⟨by rfl, ?_⟩) ?_ ?_
                    rotate_left
                    · intro w'
                      go_simp
                      with_reducible rfl
                    rotate_left
                    · simp only [Act.put, List.setIfInBounds_toArray, List.set_cons_zero, List.set_cons_succ, i64_w, i32_w]
                      rfl
                    refine pure_ (i := 5) (N := some 73) (v := ?_) (a' := ?_) #[true, true, true, false, false, true, false, false, false, false, false, false, false, false, false, false, false] rfl rfl (any_of HT_.out (by kernel_rfl)) (fun _ _ _ h => h) (Or.inl ⟨by rfl, ?_⟩) ?_ ?_
                    rotate_left
                    · intro w'
                      go_simp
                      with_reducible rfl
                    rotate_left
                    · simp only [Act.put, List.setIfInBounds_toArray, List.set_cons_zero, List.set_cons_succ, i64_w, i32_w]
                      rfl
                    refine take_ (i := 3) (N := some 71) (v := ?_) (a' := ?_) #[true, true, true, true, false, true, false, false, false, false, false, false, false, false, false, false, false] rfl rfl (take_ofW HT_.out HW_.out (by kernel_rfl)) (fun _ _ _ h => h) (Or.inl ⟨by rfl, ?_⟩) hHeld ?_ ?_
                    rotate_left
                    · rintro w' ⟨s0, s1⟩
                      go_simp
                      with_reducible rfl
                    rotate_left
                    · simp only [Act.put, List.setIfInBounds_toArray, List.set_cons_zero, List.set_cons_succ, i64_w, i32_w]
                      rfl
                    refine take_ (i := 6) (N := some 74) (v := ?_) (a' := ?_) #[true, true, true, true, false, true, true, false, false, false, false, false, false, false, false, false, false] rfl rfl (take_ofW HT_.out HW_.out (by kernel_rfl)) (fun _ _ _ h => h) (Or.inl ⟨by rfl, ?_⟩) hHeld ?_ ?_
                    rotate_left
                    · rintro w' ⟨s0, s1⟩
                      go_simp
                      with_reducible rfl
                    rotate_left
                    · simp only [Act.put, List.setIfInBounds_toArray, List.set_cons_zero, List.set_cons_succ, i64_w, i32_w]
                      rfl
                    refine one_ (i := 4) (N := some 72) #[true, true, true, true, true, true, true, false, false, false, false, false, false, false, false, false, false] rfl rfl (one_of HT_.out (by kernel_rfl)) (by decide) (fun K hK => ?_)
                    refine goes_ Try.func13 (by kernel_rfl) rfl #[.slice Ao59 x282000_1.length co59] (by rfl) rfl rfl (by (try simp only [List.map_toArray, List.map_cons, List.map_nil]); first | done | rfl | (simp only [List.length_drop, List.length_take]; rfl)) ?_
                    with_reducible refine (godwitlaw07_theirs.calls k1 (fun k_ => (k_ ≠ gb272 ∧ (k_ ≠ gb281 ∧ k_ ≠ gb295))) _ _ x282000_1 t296 _ ?side1 A45.out).mono ?_
                    (case side1 => exact HO_282000.out)
                    rintro e w60 ⟨v297, rfl, ho0, hb⟩
                    refine ⟨_, rfl, ?_⟩
                    have n0_ := Aside0.mk (Kd.V_elder' (by (with_reducible repeat (first | apply Kd.V_alloc | apply Kd.V_drewN | apply Kd.V_drew)); exact HO_7.out) (Kd.N_base ho0) hb)
                    have n1_ := Aside0.mk (Kd.N_elder' (by (with_reducible repeat (first | apply Kd.N_alloc | apply Kd.N_drewN | apply Kd.N_drew)); exact HO_273000.out) (Kd.N_base ho0) hb)
                    have n2_ := Aside0.mk (Kd.V_elder' (by (with_reducible repeat (first | apply Kd.V_alloc | apply Kd.V_drewN | apply Kd.V_drew)); exact HO_282000.out) (Kd.N_base ho0) hb)
                    have n3_ := Aside0.mk (Kd.V_elder' (by (with_reducible repeat (first | apply Kd.V_alloc | apply Kd.V_drewN | apply Kd.V_drew)); exact HO292.out) (Kd.N_base ho0) hb)
                    have n4_ := Aside0.mk (Kd.N_lower (Kd.N_mono (ok' := fun k_ => k_ ≠ gb272 ∧ k_ ≠ gb281 ∧ k_ ≠ gb295) ho0 (fun k_ hk_ => ⟨Or.elim hk_ (fun hs_ => hs_.1) (fun hn_ => (Kd.freshB (g := gb272) (o := .cells #[.slice Ao16 t269.length co16] 29 (0, 0)) (by (with_reducible repeat (first | refine blk_drewN ?_ _ | refine blk_drew ?_ | refine blk_alloc ?_ _)); exact BK272.out) k_ hn_)), Or.elim hk_ (fun hs_ => hs_.2.1) (fun hn_ => (Kd.freshB (g := gb281) (o := .cells #[.slice Ao59 x282000_1.length co59] 29 (0, 0)) (by (with_reducible repeat (first | refine blk_drewN ?_ _ | refine blk_drew ?_ | refine blk_alloc ?_ _)); exact BK281.out) k_ hn_)), Or.elim hk_ (fun hs_ => hs_.2.2) (fun hn_ => (Kd.freshB (g := gb295) (o := .cells #[.int .i64 t289, .slice Ao56 t290.length co56, .bool t293] 37 (0, 0)) (by (with_reducible repeat (first | refine blk_drewN ?_ _ | refine blk_drew ?_ | refine blk_alloc ?_ _)); exact BK295.out) k_ hn_))⟩)) (below_size (by repeat (first | (with_reducible first | exact HB.out | apply below_alloc | apply pw_below_drewN | apply below_drew1 | refine below_set ?_ GE272.out | refine below_set ?_ GE281.out | refine below_set ?_ GE295.out) | exact HB.out))))
                    have n5_ := Aside0.mk (blk_below (g := gb272) (o := .cells #[.slice Ao16 t269.length co16] 29 (0, 0)) (by (with_reducible repeat (first | refine blk_drewN ?_ _ | refine blk_drew ?_ | refine blk_alloc ?_ _)); exact BK272.out) hb)
                    have n6_ := Aside0.mk (blk_below (g := gb281) (o := .cells #[.slice Ao59 x282000_1.length co59] 29 (0, 0)) (by (with_reducible repeat (first | refine blk_drewN ?_ _ | refine blk_drew ?_ | refine blk_alloc ?_ _)); exact BK281.out) hb)
                    have n7_ := Aside0.mk (blk_below (g := gb295) (o := .cells #[.int .i64 t289, .slice Ao56 t290.length co56, .bool t293] 37 (0, 0)) (by (with_reducible repeat (first | refine blk_drewN ?_ _ | refine blk_drew ?_ | refine blk_alloc ?_ _)); exact BK295.out) hb)
                    have n8_ := Aside0.mk (below_step (by repeat (first | (with_reducible first | exact HB.out | apply below_alloc | apply pw_below_drewN | apply below_drew1 | refine below_set ?_ GE272.out | refine below_set ?_ GE281.out | refine below_set ?_ GE295.out) | exact HB.out)) hb)
                    clear HO_7
                    clear HO_273000
                    clear HO_282000
                    clear HO292
                    clear BK272
                    clear BK281
                    clear BK295
                    clear HB
                    have HO_7 := n0_
                    have HO_273000 := n1_
                    have HO_282000 := n2_
                    have HO292 := n3_
                    have HO298 := n4_
                    have BK272 := n5_
                    have BK281 := n6_
                    have BK295 := n7_
                    have HB := n8_
                    clear n0_ n1_ n2_ n3_ n4_ n5_ n6_ n7_ n8_
                    (try clear hb)
                    (try clear hb2)
                    (try clear hk)
                    (try clear hi)
                    (try clear ho0)
                    refine hK.out _ _ ⟨(blk_cell BK281.out 0).trans rfl, (blk_cell BK272.out 0).trans rfl⟩ (fun hHeld => ?_)
                    clear hK K
                    refine norm_ (a' := ?_) ?_ ?_
                    rotate_left
                    · show Act.put _ (some 72) _ = _
                      simp only [Act.put, List.setIfInBounds_toArray, List.set_cons_zero, List.set_cons_succ, i64_w, i32_w]
                      rfl
                    refine one_ (i := 7) (N := some 75) #[true, true, true, true, true, true, true, true, false, false, false, false, false, false, false, false, false] rfl rfl (one_of HT_.out (by kernel_rfl)) (by decide) (fun K hK => ?_)
                    refine goes_ Try.func13 (by kernel_rfl) rfl #[.slice Ao16 t269.length co16] (by rfl) rfl rfl (by (try simp only [List.map_toArray, List.map_cons, List.map_nil]); first | done | rfl | (simp only [List.length_drop, List.length_take]; rfl)) ?_
                    with_reducible refine (godwitlaw07_theirs.calls k1 (fun k_ => ((k_ ≠ gb272 ∧ (k_ ≠ gb281 ∧ k_ ≠ gb295)) ∧ some k_ ≠ (v297 : Value).ownBlock)) _ _ t269 t299 _ ?side1 A46.out).mono ?_
                    (case side1 => exact Kd.N_V (HO_273000.out))
                    rintro e w61 ⟨v300, rfl, ho0, hb⟩
                    refine ⟨_, rfl, ?_⟩
                    have n0_ := Aside0.mk (Kd.V_elder' (by (with_reducible repeat (first | apply Kd.V_alloc | apply Kd.V_drewN | apply Kd.V_drew)); exact HO_7.out) (Kd.N_base ho0) hb)
                    have n1_ := Aside0.mk (Kd.N_elder' (by (with_reducible repeat (first | apply Kd.N_alloc | apply Kd.N_drewN | apply Kd.N_drew)); exact HO_273000.out) (Kd.N_base ho0) hb)
                    have n2_ := Aside0.mk (Kd.V_elder' (by (with_reducible repeat (first | apply Kd.V_alloc | apply Kd.V_drewN | apply Kd.V_drew)); exact HO_282000.out) (Kd.N_base ho0) hb)
                    have n3_ := Aside0.mk (Kd.V_elder' (by (with_reducible repeat (first | apply Kd.V_alloc | apply Kd.V_drewN | apply Kd.V_drew)); exact HO292.out) (Kd.N_base ho0) hb)
                    have n4_ := Aside0.mk (Kd.N_elder' (by (with_reducible repeat (first | apply Kd.N_alloc | apply Kd.N_drewN | apply Kd.N_drew)); exact HO298.out) (Kd.N_base ho0) hb)
                    have n5_ := Aside0.mk (Kd.N_lower (Kd.N_mono (ok' := fun k_ => some k_ ≠ (v297 : Value).ownBlock ∧ k_ ≠ gb272 ∧ k_ ≠ gb281 ∧ k_ ≠ gb295) ho0 (fun k_ hk_ => ⟨Or.elim hk_ (fun hs_ => hs_.2) (fun hn_ => (Kd.fresh' (Kd.N_lt (by (with_reducible repeat (first | apply Kd.N_alloc | apply Kd.N_drewN | apply Kd.N_drew)); exact HO298.out)) k_ hn_)), Or.elim hk_ (fun hs_ => hs_.1.1) (fun hn_ => (Kd.freshB (g := gb272) (o := .cells #[.slice Ao16 t269.length co16] 29 (0, 0)) (by (with_reducible repeat (first | refine blk_drewN ?_ _ | refine blk_drew ?_ | refine blk_alloc ?_ _)); exact BK272.out) k_ hn_)), Or.elim hk_ (fun hs_ => hs_.1.2.1) (fun hn_ => (Kd.freshB (g := gb281) (o := .cells #[.slice Ao59 x282000_1.length co59] 29 (0, 0)) (by (with_reducible repeat (first | refine blk_drewN ?_ _ | refine blk_drew ?_ | refine blk_alloc ?_ _)); exact BK281.out) k_ hn_)), Or.elim hk_ (fun hs_ => hs_.1.2.2) (fun hn_ => (Kd.freshB (g := gb295) (o := .cells #[.int .i64 t289, .slice Ao56 t290.length co56, .bool t293] 37 (0, 0)) (by (with_reducible repeat (first | refine blk_drewN ?_ _ | refine blk_drew ?_ | refine blk_alloc ?_ _)); exact BK295.out) k_ hn_))⟩)) (below_size (by repeat (first | (with_reducible first | exact HB.out | apply below_alloc | apply pw_below_drewN | apply below_drew1 | refine below_set ?_ GE272.out | refine below_set ?_ GE281.out | refine below_set ?_ GE295.out) | exact HB.out))))
                    have n6_ := Aside0.mk (blk_below (g := gb272) (o := .cells #[.slice Ao16 t269.length co16] 29 (0, 0)) (by (with_reducible repeat (first | refine blk_drewN ?_ _ | refine blk_drew ?_ | refine blk_alloc ?_ _)); exact BK272.out) hb)
                    have n7_ := Aside0.mk (blk_below (g := gb281) (o := .cells #[.slice Ao59 x282000_1.length co59] 29 (0, 0)) (by (with_reducible repeat (first | refine blk_drewN ?_ _ | refine blk_drew ?_ | refine blk_alloc ?_ _)); exact BK281.out) hb)
                    have n8_ := Aside0.mk (blk_below (g := gb295) (o := .cells #[.int .i64 t289, .slice Ao56 t290.length co56, .bool t293] 37 (0, 0)) (by (with_reducible repeat (first | refine blk_drewN ?_ _ | refine blk_drew ?_ | refine blk_alloc ?_ _)); exact BK295.out) hb)
                    have n9_ := Aside0.mk (below_step (by repeat (first | (with_reducible first | exact HB.out | apply below_alloc | apply pw_below_drewN | apply below_drew1 | refine below_set ?_ GE272.out | refine below_set ?_ GE281.out | refine below_set ?_ GE295.out) | exact HB.out)) hb)
                    clear HO_7
                    clear HO_273000
                    clear HO_282000
                    clear HO292
                    clear HO298
                    clear BK272
                    clear BK281
                    clear BK295
                    clear HB
                    have HO_7 := n0_
                    have HO_273000 := n1_
                    have HO_282000 := n2_
                    have HO292 := n3_
                    have HO298 := n4_
                    have HO301 := n5_
                    have BK272 := n6_
                    have BK281 := n7_
                    have BK295 := n8_
                    have HB := n9_
                    clear n0_ n1_ n2_ n3_ n4_ n5_ n6_ n7_ n8_ n9_
                    (try clear hb)
                    (try clear hb2)
                    (try clear hk)
                    (try clear hi)
                    (try clear ho0)
                    obtain ⟨Ao62, co62, eo62⟩ := Kd.N_slice HO298.out
                    (first | subst eo62 | (injection eo62 with f1_ f2_ f3_; have f4_ := f1_.symm; have f5_ := f3_.symm; clear f1_ f2_ f3_; subst f4_; subst f5_))
                    obtain ⟨Ao63, co63, eo63⟩ := Kd.N_slice HO301.out
                    (first | subst eo63 | (injection eo63 with f1_ f2_ f3_; have f4_ := f1_.symm; have f5_ := f3_.symm; clear f1_ f2_ f3_; subst f4_; subst f5_))
                    refine hK.out _ _ ⟨(blk_cell BK281.out 0).trans rfl, (blk_cell BK272.out 0).trans rfl⟩ (fun hHeld => ?_)
                    clear hK K
                    refine norm_ (a' := ?_) ?_ ?_
                    rotate_left
                    · show Act.put _ (some 75) _ = _
                      simp only [Act.put, List.setIfInBounds_toArray, List.set_cons_zero, List.set_cons_succ, i64_w, i32_w]
                      rfl
                    refine one_ (i := 8) (N := some 76) #[true, true, true, true, true, true, true, true, true, false, false, false, false, false, false, false, false] rfl rfl (one_of HT_.out (by kernel_rfl)) (by decide) (fun K hK => ?_)
                    refine goes_ Try.func12 (by kernel_rfl) rfl #[.slice Ao62 t296.length co62, .slice Ao63 t299.length co63] (by rfl) rfl rfl (by (try simp only [List.map_toArray, List.map_cons, List.map_nil]); first | done | rfl | (simp only [List.length_drop, List.length_take]; rfl)) ?_
                    with_reducible refine (godwitref07_Same.calls k1 _ _ t296 _ _ t299 true _ ?side1 ?side2 ?side3 ?side4 A47.out).mono ?_
                    (case side1 => repeat (first | exact (Kd.N_reads' HO298.out).2.2 | (with_reducible refine Kd.C_alloc ?_ _) | (with_reducible refine Kd.C_drewN ?_ _) | (with_reducible refine Kd.C_drew ?_)))
                    (case side2 => exact (Kd.N_reads' HO298.out).2.1)
                    (case side3 => repeat (first | exact (Kd.N_reads' HO301.out).2.2 | (with_reducible refine Kd.C_alloc ?_ _) | (with_reducible refine Kd.C_drewN ?_ _) | (with_reducible refine Kd.C_drew ?_)))
                    (case side4 => exact (Kd.N_reads' HO301.out).2.1)
                    rintro e w64 ⟨rfl, hb⟩
                    refine ⟨_, rfl, ?_⟩
                    have n0_ := Aside0.mk (Kd.V_below (by (with_reducible repeat (first | apply Kd.V_alloc | apply Kd.V_drewN | apply Kd.V_drew)); exact HO_7.out) hb)
                    have n1_ := Aside0.mk (Kd.N_below (by (with_reducible repeat (first | apply Kd.N_alloc | apply Kd.N_drewN | apply Kd.N_drew)); exact HO_273000.out) hb)
                    have n2_ := Aside0.mk (Kd.V_below (by (with_reducible repeat (first | apply Kd.V_alloc | apply Kd.V_drewN | apply Kd.V_drew)); exact HO_282000.out) hb)
                    have n3_ := Aside0.mk (Kd.V_below (by (with_reducible repeat (first | apply Kd.V_alloc | apply Kd.V_drewN | apply Kd.V_drew)); exact HO292.out) hb)
                    have n4_ := Aside0.mk (Kd.N_below (by (with_reducible repeat (first | apply Kd.N_alloc | apply Kd.N_drewN | apply Kd.N_drew)); exact HO298.out) hb)
                    have n5_ := Aside0.mk (Kd.N_below (by (with_reducible repeat (first | apply Kd.N_alloc | apply Kd.N_drewN | apply Kd.N_drew)); exact HO301.out) hb)
                    have n6_ := Aside0.mk (blk_below (g := gb272) (o := .cells #[.slice Ao16 t269.length co16] 29 (0, 0)) (by (with_reducible repeat (first | refine blk_drewN ?_ _ | refine blk_drew ?_ | refine blk_alloc ?_ _)); exact BK272.out) hb)
                    have n7_ := Aside0.mk (blk_below (g := gb281) (o := .cells #[.slice Ao59 x282000_1.length co59] 29 (0, 0)) (by (with_reducible repeat (first | refine blk_drewN ?_ _ | refine blk_drew ?_ | refine blk_alloc ?_ _)); exact BK281.out) hb)
                    have n8_ := Aside0.mk (blk_below (g := gb295) (o := .cells #[.int .i64 t289, .slice Ao56 t290.length co56, .bool t293] 37 (0, 0)) (by (with_reducible repeat (first | refine blk_drewN ?_ _ | refine blk_drew ?_ | refine blk_alloc ?_ _)); exact BK295.out) hb)
                    have n9_ := Aside0.mk (below_step (by repeat (first | (with_reducible first | exact HB.out | apply below_alloc | apply pw_below_drewN | apply below_drew1 | refine below_set ?_ GE272.out | refine below_set ?_ GE281.out | refine below_set ?_ GE295.out) | exact HB.out)) hb)
                    clear HO_7
                    clear HO_273000
                    clear HO_282000
                    clear HO292
                    clear HO298
                    clear HO301
                    clear BK272
                    clear BK281
                    clear BK295
                    clear HB
                    have HO_7 := n0_
                    have HO_273000 := n1_
                    have HO_282000 := n2_
                    have HO292 := n3_
                    have HO298 := n4_
                    have HO301 := n5_
                    have BK272 := n6_
                    have BK281 := n7_
                    have BK295 := n8_
                    have HB := n9_
                    clear n0_ n1_ n2_ n3_ n4_ n5_ n6_ n7_ n8_ n9_
                    (try clear hb)
                    (try clear hb2)
                    (try clear hk)
                    (try clear hi)
                    refine hK.out _ _ ⟨(blk_cell BK281.out 0).trans rfl, (blk_cell BK272.out 0).trans rfl⟩ (fun hHeld => ?_)
                    clear hK K
                    refine norm_ (a' := ?_) ?_ ?_
                    rotate_left
                    · show Act.put _ (some 76) _ = _
                      simp only [Act.put, List.setIfInBounds_toArray, List.set_cons_zero, List.set_cons_succ, i64_w, i32_w]
                      rfl
                    refine pure_ (i := 9) (N := some 77) (v := ?_) (a' := ?_) #[true, true, true, true, true, true, true, true, true, true, false, false, false, false, false, false, false] rfl rfl (any_of HT_.out (by kernel_rfl)) (fun _ _ _ h => h) (Or.inl ⟨by rfl, ?_⟩) ?_ ?_
                    rotate_left
                    · intro w'
                      go_simp
                      with_reducible rfl
                    rotate_left
                    · simp only [Act.put, List.setIfInBounds_toArray, List.set_cons_zero, List.set_cons_succ, i64_w, i32_w]
                      rfl
                    refine pure_ (i := 10) (N := some 78) (v := ?_) (a' := ?_) #[true, true, true, true, true, true, true, true, true, true, true, false, false, false, false, false, false] rfl rfl (any_of HT_.out (by kernel_rfl)) (fun _ _ _ h => h) (Or.inl ⟨by rfl, ?_⟩) ?_ ?_
                    rotate_left
                    · intro w'
                      go_simp
                      with_reducible rfl
                    rotate_left
                    · simp only [Act.put, List.setIfInBounds_toArray, List.set_cons_zero, List.set_cons_succ, i64_w, i32_w]
                      rfl
                    refine pure_ (i := 11) (N := some 79) (v := ?_) (a' := ?_) #[true, true, true, true, true, true, true, true, true, true, true, true, false, false, false, false, false] rfl rfl (any_of HT_.out (by kernel_rfl)) (fun _ _ _ h => h) (Or.inl ⟨by rfl, ?_⟩) ?_ ?_
                    rotate_left
                    · intro w'
                      go_simp
                      with_reducible rfl
                    rotate_left
                    · simp only [Act.put, List.setIfInBounds_toArray, List.set_cons_zero, List.set_cons_succ, i64_w, i32_w]
                      rfl
                    refine pure_ (i := 12) (N := some 80) (v := ?_) (a' := ?_) #[true, true, true, true, true, true, true, true, true, true, true, true, true, false, false, false, false] rfl rfl (any_of HT_.out (by kernel_rfl)) (fun _ _ _ h => h) (Or.inl ⟨by rfl, ?_⟩) ?_ ?_
                    rotate_left
                    · intro w'
                      go_simp
                      with_reducible rfl
                    rotate_left
                    · simp only [Act.put, List.setIfInBounds_toArray, List.set_cons_zero, List.set_cons_succ, i64_w, i32_w]
                      rfl
                    refine pure_ (i := 13) (N := some 81) (v := ?_) (a' := ?_) #[true, true, true, true, true, true, true, true, true, true, true, true, true, true, false, false, false] rfl rfl (any_of HT_.out (by kernel_rfl)) (fun _ _ _ h => h) (Or.inl ⟨by rfl, ?_⟩) ?_ ?_
                    rotate_left
                    · intro w'
                      go_simp
                      with_reducible rfl
                    rotate_left
                    · simp only [Act.put, List.setIfInBounds_toArray, List.set_cons_zero, List.set_cons_succ, i64_w, i32_w]
                      rfl
                    refine pure_ (i := 14) (N := some 82) (v := ?_) (a' := ?_) #[true, true, true, true, true, true, true, true, true, true, true, true, true, true, true, false, false] rfl rfl (any_of HT_.out (by kernel_rfl)) (fun _ _ _ h => h) (Or.inl ⟨by rfl, ?_⟩) ?_ ?_
                    rotate_left
                    · intro w'
                      go_simp
                      with_reducible rfl
                    rotate_left
                    · simp only [Act.put, List.setIfInBounds_toArray, List.set_cons_zero, List.set_cons_succ, i64_w, i32_w]
                      rfl
                    refine pure_ (i := 15) (N := some 83) (v := ?_) (a' := ?_) #[true, true, true, true, true, true, true, true, true, true, true, true, true, true, true, true, false] rfl rfl (any_of HT_.out (by kernel_rfl)) (fun _ _ _ h => h) (Or.inl ⟨by rfl, ?_⟩) ?_ ?_
                    rotate_left
                    · intro w'
                      go_simp
                      with_reducible rfl
                    rotate_left
                    · simp only [Act.put, List.setIfInBounds_toArray, List.set_cons_zero, List.set_cons_succ, i64_w, i32_w]
                      rfl
                    refine pure_ (i := 16) (N := some 4) (v := ?_) (a' := ?_) #[true, true, true, true, true, true, true, true, true, true, true, true, true, true, true, true, true] rfl rfl (any_of HT_.out (by kernel_rfl)) (fun _ _ _ h => h) (Or.inl ⟨by rfl, ?_⟩) ?_ ?_
                    rotate_left
                    · intro w'
                      go_simp
                      with_reducible rfl
                    rotate_left
                    · simp only [Act.put, List.setIfInBounds_toArray, List.set_cons_zero, List.set_cons_succ, i64_w, i32_w]
                      rfl
                    refine done_ (done_of HT_.out (by kernel_rfl)) ?_
                    try go_wp2
                    go_ret
                    first | (with_reducible exact (clash2 A47 A46).elim) | (with_reducible exact (clash2 A46 A47).elim) | (with_reducible exact (clash2 A47 A45).elim) | (with_reducible exact (clash2 A45 A47).elim) | (with_reducible exact (clash2 A47 A43).elim) | (with_reducible exact (clash2 A43 A47).elim) | (with_reducible exact (clash2 A47 A7).elim) | (with_reducible exact (clash2 A7 A47).elim) | (with_reducible exact (clash2 A47 A6).elim) | (with_reducible exact (clash2 A6 A47).elim) | (with_reducible exact (clash2 A47 A4).elim) | (with_reducible exact (clash2 A4 A47).elim) | (with_reducible exact (clash2 A47 A3).elim) | (with_reducible exact (clash2 A3 A47).elim) | (with_reducible exact (clash2 A46 A45).elim) | (with_reducible exact (clash2 A45 A46).elim) | (with_reducible exact (clash2 A46 A43).elim) | (with_reducible exact (clash2 A43 A46).elim) | (with_reducible exact (clash2 A46 A7).elim) | (with_reducible exact (clash2 A7 A46).elim) | (with_reducible exact (clash2 A46 A6).elim) | (with_reducible exact (clash2 A6 A46).elim) | (with_reducible exact (clash2 A46 A4).elim) | (with_reducible exact (clash2 A4 A46).elim) | (with_reducible exact (clash2 A46 A3).elim) | (with_reducible exact (clash2 A3 A46).elim) | (with_reducible exact (clash2 A45 A43).elim) | (with_reducible exact (clash2 A43 A45).elim) | (with_reducible exact (clash2 A45 A7).elim) | (with_reducible exact (clash2 A7 A45).elim) | (with_reducible exact (clash2 A45 A6).elim) | (with_reducible exact (clash2 A6 A45).elim) | (with_reducible exact (clash2 A45 A4).elim) | (with_reducible exact (clash2 A4 A45).elim) | (with_reducible exact (clash2 A45 A3).elim) | (with_reducible exact (clash2 A3 A45).elim) | (with_reducible exact (clash2 A43 A7).elim) | (with_reducible exact (clash2 A7 A43).elim) | (with_reducible exact (clash2 A43 A6).elim) | (with_reducible exact (clash2 A6 A43).elim) | (with_reducible exact (clash2 A43 A4).elim) | (with_reducible exact (clash2 A4 A43).elim) | (with_reducible exact (clash2 A43 A3).elim) | (with_reducible exact (clash2 A3 A43).elim) | (with_reducible exact (clash2 A7 A6).elim) | (with_reducible exact (clash2 A6 A7).elim) | (with_reducible exact (clash2 A7 A4).elim) | (with_reducible exact (clash2 A4 A7).elim) | (with_reducible exact (clash2 A7 A3).elim) | (with_reducible exact (clash2 A3 A7).elim) | (with_reducible exact (clash2 A6 A4).elim) | (with_reducible exact (clash2 A4 A6).elim) | (with_reducible exact (clash2 A6 A3).elim) | (with_reducible exact (clash2 A3 A6).elim) | (with_reducible exact (clash2 A4 A3).elim) | (with_reducible exact (clash2 A3 A4).elim) | exact ⟨by first | rfl | (simp [errW_none, errW_some] <;> rfl) | (simp only [← hji9]; first | rfl | (simp [errW_none, errW_some] <;> rfl)) | (simp [*, errW_none, errW_some] <;> rfl), by repeat (first | (with_reducible first | exact HB.out | apply below_alloc | apply pw_below_drewN | apply below_drew1 | refine below_set ?_ GE272.out | refine below_set ?_ GE281.out | refine below_set ?_ GE295.out) | exact HB.out)⟩
                  · replace c48 := Bool.eq_false_iff.mpr c48
                    subst c48
                    have H1 : (none) = some r := by rw [if_neg (show ¬ (false = true) by decide)] at H; exact H
                    clear H
                    have H := H1
                    clear H1
                    exact absurd H (by simp)
                · replace c44 := Bool.eq_false_iff.mpr c44
                  subst c44
                  have H1 : (none) = some r := by rw [if_neg (show ¬ (false = true) by decide)] at H; exact H
                  clear H
                  have H := H1
                  clear H1
                  exact absurd H (by simp)
        · rw [if_neg c11] at H
          exact absurd H (by simp)
      · rw [if_neg c10] at H
        exact absurd H (by simp)
  · replace c5 := Bool.eq_false_iff.mpr c5
    subst c5
    have H1 : (some t267) = some r := by rw [if_neg (show ¬ (false = true) by decide)] at H; exact H
    clear H
    have H := H1
    clear H1
    obtain rfl := Option.some.inj H
    go_enter Try.func5, Try.ntmps5
    go_wp2_with (first | ((with_reducible refine gate_callee (f := 8) rfl ?_); refine goesL_ (some 15) rfl rfl Try.func8 (by kernel_rfl) rfl #[] rfl (by (try simp only [List.map_toArray, List.map_cons, List.map_nil]); first | done | rfl | (simp only [List.length_drop, List.length_take]; rfl)) ?_; (with_reducible refine (godwitlaw07_awake.calls k  t267 _ A3.out).mono ?_); rintro e w65 ⟨rfl, hb⟩; refine ⟨_, rfl, ?_⟩; have n0_ := Aside0.mk (below_step (by repeat (first | (with_reducible first | exact HB.out | apply below_alloc | apply pw_below_drewN | apply below_drew1) | exact HB.out)) hb); clear HB; have HB := n0_; clear n0_; (try clear hb); (try clear hb2); (try clear hk); (try clear hi)) | ((with_reducible refine gate_callee (f := 9) rfl ?_); refine goesL_ (some 18) rfl rfl Try.func9 (by kernel_rfl) rfl #[.agg #[.slice A0 l0.length c0]] rfl (by (try simp only [List.map_toArray, List.map_cons, List.map_nil]); first | done | rfl | (simp only [List.length_drop, List.length_take]; rfl)) ?_; (with_reducible refine (godwitref07_Few.calls k _ _ l0 false _ ?side1 ?side2 A4.out).mono ?_); (case side1 => repeat (first | exact (Kd.C_below HR0.out HB.out) | (with_reducible refine Kd.C_alloc ?_ _) | (with_reducible refine Kd.C_drewN ?_ _) | (with_reducible refine Kd.C_drew ?_))); (case side2 => exact HC0.out); rintro e w66 ⟨rfl, hb⟩; refine ⟨_, rfl, ?_⟩; have n0_ := Aside0.mk (below_step (by repeat (first | (with_reducible first | exact HB.out | apply below_alloc | apply pw_below_drewN | apply below_drew1) | exact HB.out)) hb); clear HB; have HB := n0_; clear n0_; (try clear hb); (try clear hb2); (try clear hk); (try clear hi)))
    go_ret
    first | (with_reducible exact (clash2 A4 A3).elim) | (with_reducible exact (clash2 A3 A4).elim) | exact ⟨by first | rfl | (simp [errW_none, errW_some] <;> rfl) | (simp [*, errW_none, errW_some] <;> rfl), by repeat (first | (with_reducible first | exact HB.out | apply below_alloc | apply pw_below_drewN | apply below_drew1) | exact HB.out)⟩

/-- THE ONE PURE STATEMENT of godwitlaw07_ChainSince. -/
def godwitlaw07_ChainSince.Pure : Prop := ∀ (l0 : List (S46)) (a1 : Int), (l0.length * 40 ≤ 140737488351232 ∧ ∀ y0_ ∈ l0, ((Lit.int .i64 y0_.f0).wf = true) ∧ (y0_.f1.length * 1 ≤ 140737488351232 ∧ ∀ y1_ ∈ y0_.f1, (Lit.int .u8 y1_).wf = true) ∧ (True)) → ((Lit.int .i64 a1).wf = true) → ∃ k, godwitlaw07_ChainSince.f k l0 a1 = some true

end Go.Proofs.Ytcinlddejdkjeaa.Q
