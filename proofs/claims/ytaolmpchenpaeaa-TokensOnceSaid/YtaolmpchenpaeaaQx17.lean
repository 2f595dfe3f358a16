-- written by a turned copy of the kit's printer (wip/tools/patch_print.py over print.py); contracts of given functions are this session's own
import Derived.Test.YtaolmpchenpaeaaQx0
import Derived.Test.YtaolmpchenpaeaaQx3
import Derived.Test.YtaolmpchenpaeaaQx6
import Derived.Test.YtaolmpchenpaeaaQx13
import Derived.Test.YtaolmpchenpaeaaQx16
namespace Go.Proofs.Ytaolmpchenpaeaa.Q
open Go.RowKit Go.Proofs.YtaolmpchenpaeaaW.PrintWords Go.Proofs.YtaolmpchenpaeaaW.PrintLast Go.Proofs.YtaolmpchenpaeaaW.PrintMore Go.Proofs.Ytaolmpchenpaeaa.G
attribute [local go_sem] max2_int min2_int max_two min_two max_three min_three max_four min_four   -- for this text's walks alone
set_option linter.unusedVariables false
set_option linter.unusedSimpArgs false

/-! ### godwitlaw12_TokensOnce: function 3 -/
mutual
def godwitlaw12_TokensOnce.l0 : Nat → List (S28) → Int → Bool → Int → Int → Int → List (S33) → Option (Bool)
  | 0, _, _, _, _, _, _, _ => none
  | k + 1, x0, x1, x5, x7, x8, x9, x244000 => if x9 < (x0.length : Int) then (if 0 ≤ x9 then (if ((rd_T28 x0 x9).f0) < 0 then (godwitlaw12_TokensOnce.j1 k x0 x1 x5 x7 x8 x9 true x244000) else (godwitlaw12_TokensOnce.j1 k x0 x1 x5 x7 x8 x9 (decide (((rd_T28 x0 x9).f0) > 4)) x244000)) else (none)) else ((tokens_Find.f x244000 x1).bind fun bt258 => (if x5 = true then (if x7 ≤ 1 then (if bt258.2.2.2.2 = true then (if ((x7 == 1) == (bt258.2.2.1 == 2)) = true then ((tokens_Sane.f k x244000).bind fun t264 => (some t264)) else (none)) else (if ((x7 == 1) == false) = true then ((tokens_Sane.f k x244000).bind fun t265 => (some t265)) else (none))) else (none)) else (none)))
def godwitlaw12_TokensOnce.j1 : Nat → List (S28) → Int → Bool → Int → Int → Int → Bool → List (S33) → Option (Bool)
  | 0, _, _, _, _, _, _, _, _ => none
  | k + 1, x0, x1, x5, x7, x8, x9, x39, x244000 => if x39 = true then (godwitlaw12_TokensOnce.l0 k x0 x1 x5 x7 x8 (wrap64 (x9 + 1)) x244000) else (if 0 ≤ x9 then (if x9 < (x0.length : Int) then ((godwitlaw12_did.f k x244000 ((rd_T28 x0 x9).f0) ((rd_T28 x0 x9).f1) ((rd_T28 x0 x9).f2) (wrap64 (x9 + 1))).bind fun bt247 => (if bt247.2 = 0 then (if ((rd_T28 x0 x9).f1) = x1 then (if ((rd_T28 x0 x9).f0) = 0 then (godwitlaw12_TokensOnce.j2 k x0 x1 x5 x7 x8 x9 ((rd_T28 x0 x9).f0) (((rd_T28 x0 x9).f0) == 0) bt247.1) else (godwitlaw12_TokensOnce.j2 k x0 x1 x5 x7 x8 x9 ((rd_T28 x0 x9).f0) (((rd_T28 x0 x9).f0) == 1) bt247.1)) else (godwitlaw12_TokensOnce.l0 k x0 x1 x5 x7 x8 (wrap64 (x9 + 1)) bt247.1)) else (godwitlaw12_TokensOnce.l0 k x0 x1 x5 x7 x8 (wrap64 (x9 + 1)) x244000))) else (none)) else (none))
def godwitlaw12_TokensOnce.j2 : Nat → List (S28) → Int → Bool → Int → Int → Int → Int → Bool → List (S33) → Option (Bool)
  | 0, _, _, _, _, _, _, _, _, _ => none
  | k + 1, x0, x1, x5, x7, x8, x9, x65, x66, x244000 => if x66 = true then (if 0 ≤ x9 then (if x9 < (x0.length : Int) then (if ((rd_T28 x0 x9).f2) ≤ x8 then (godwitlaw12_TokensOnce.j3 k x0 x1 x5 x7 x9 true x244000) else (godwitlaw12_TokensOnce.j3 k x0 x1 x5 x7 x9 (decide (x7 > 0)) x244000)) else (none)) else (none)) else (if x65 = 2 then (godwitlaw12_TokensOnce.j4 k x0 x1 x5 x7 x8 x9 x65 (x65 == 2) x244000) else (godwitlaw12_TokensOnce.j4 k x0 x1 x5 x7 x8 x9 x65 (x65 == 3) x244000))
def godwitlaw12_TokensOnce.j3 : Nat → List (S28) → Int → Bool → Int → Int → Bool → List (S33) → Option (Bool)
  | 0, _, _, _, _, _, _, _ => none
  | k + 1, x0, x1, x5, x7, x9, x79, x244000 => if x79 = true then (none) else (if 0 ≤ x9 then (if x9 < (x0.length : Int) then (godwitlaw12_TokensOnce.l0 k x0 x1 x5 x7 (wrap64 (((rd_T28 x0 x9).f2) - 1)) (wrap64 (x9 + 1)) x244000) else (none)) else (none))
def godwitlaw12_TokensOnce.j4 : Nat → List (S28) → Int → Bool → Int → Int → Int → Int → Bool → List (S33) → Option (Bool)
  | 0, _, _, _, _, _, _, _, _, _ => none
  | k + 1, x0, x1, x5, x7, x8, x9, x65, x86, x244000 => if x86 = true then (if 0 ≤ x9 then (if x9 < (x0.length : Int) then (if ((rd_T28 x0 x9).f2) ≤ x8 then (none) else (godwitlaw12_TokensOnce.l0 k x0 x1 x5 (wrap64 (x7 + 1)) x8 (wrap64 (x9 + 1)) x244000)) else (none)) else (none)) else (if x65 = 4 then (if 0 ≤ x9 then (if x9 < (x0.length : Int) then (godwitlaw12_TokensOnce.l0 k x0 x1 x5 x7 (mx x8 ((rd_T28 x0 x9).f2)) (wrap64 (x9 + 1)) x244000) else (none)) else (none)) else (godwitlaw12_TokensOnce.l0 k x0 x1 x5 x7 x8 (wrap64 (x9 + 1)) x244000))
end
def godwitlaw12_TokensOnce.f (k : Nat) (l0 : List (S28)) (a1 : Int) : Option (Bool) := (godwitlaw12_awake.f k).bind fun t242 => (if (l0.length : Int) > 100 then (some t242) else (godwitlaw12_TokensOnce.l0 k l0 a1 t242 0 (-1) 0 ([] : List (S33))))
theorem godwitlaw12_TokensOnce.mono_l : ∀ k, (∀ y0 y1 y2 y3 y4 y5 y6, LeO (godwitlaw12_TokensOnce.l0 k y0 y1 y2 y3 y4 y5 y6) (godwitlaw12_TokensOnce.l0 (k + 1) y0 y1 y2 y3 y4 y5 y6)) ∧ (∀ y0 y1 y2 y3 y4 y5 y6 y7, LeO (godwitlaw12_TokensOnce.j1 k y0 y1 y2 y3 y4 y5 y6 y7) (godwitlaw12_TokensOnce.j1 (k + 1) y0 y1 y2 y3 y4 y5 y6 y7)) ∧ (∀ y0 y1 y2 y3 y4 y5 y6 y7 y8, LeO (godwitlaw12_TokensOnce.j2 k y0 y1 y2 y3 y4 y5 y6 y7 y8) (godwitlaw12_TokensOnce.j2 (k + 1) y0 y1 y2 y3 y4 y5 y6 y7 y8)) ∧ (∀ y0 y1 y2 y3 y4 y5 y6, LeO (godwitlaw12_TokensOnce.j3 k y0 y1 y2 y3 y4 y5 y6) (godwitlaw12_TokensOnce.j3 (k + 1) y0 y1 y2 y3 y4 y5 y6)) ∧ (∀ y0 y1 y2 y3 y4 y5 y6 y7 y8, LeO (godwitlaw12_TokensOnce.j4 k y0 y1 y2 y3 y4 y5 y6 y7 y8) (godwitlaw12_TokensOnce.j4 (k + 1) y0 y1 y2 y3 y4 y5 y6 y7 y8))
  | 0 => ⟨fun _ _ _ _ _ _ _ r h => by simp [godwitlaw12_TokensOnce.l0] at h, fun _ _ _ _ _ _ _ _ r h => by simp [godwitlaw12_TokensOnce.j1] at h, fun _ _ _ _ _ _ _ _ _ r h => by simp [godwitlaw12_TokensOnce.j2] at h, fun _ _ _ _ _ _ _ r h => by simp [godwitlaw12_TokensOnce.j3] at h, fun _ _ _ _ _ _ _ _ _ r h => by simp [godwitlaw12_TokensOnce.j4] at h⟩
  | k + 1 => by
    obtain ⟨ih0, ih1, ih2, ih3, ih4⟩ := godwitlaw12_TokensOnce.mono_l k
    refine ⟨?_, ?_, ?_, ?_, ?_⟩
    · intro y0 y1 y2 y3 y4 y5 y6
      unfold godwitlaw12_TokensOnce.l0
      repeat' first
      | (with_reducible exact ih0 _ _ _ _ _ _ _)
      | (with_reducible exact ih1 _ _ _ _ _ _ _ _)
      | (with_reducible exact ih2 _ _ _ _ _ _ _ _ _)
      | (with_reducible exact ih3 _ _ _ _ _ _ _)
      | (with_reducible exact ih4 _ _ _ _ _ _ _ _ _)
      | (with_reducible exact godwitlaw12_awake.mono _)
      | (with_reducible exact godwitlaw12_did.mono _ _ _ _ _ _)
      | (with_reducible exact tokens_Sane.mono _ _)
      | (with_reducible exact LeO.refl _)
      | (with_reducible exact LeO.none _)
      | (with_reducible refine LeO.ite ?_ ?_)
      | (with_reducible refine LeO.bind ?_ (fun _ => ?_))
      | exact ih0 _ _ _ _ _ _ _
      | exact ih1 _ _ _ _ _ _ _ _
      | exact ih2 _ _ _ _ _ _ _ _ _
      | exact ih3 _ _ _ _ _ _ _
      | exact ih4 _ _ _ _ _ _ _ _ _
      | exact godwitlaw12_awake.mono _
      | exact godwitlaw12_did.mono _ _ _ _ _ _
      | exact tokens_Sane.mono _ _
      | exact LeO.none _
      | refine LeO.ite ?_ ?_
      | refine LeO.bind ?_ (fun _ => ?_)
    · intro y0 y1 y2 y3 y4 y5 y6 y7
      unfold godwitlaw12_TokensOnce.j1
      repeat' first
      | (with_reducible exact ih0 _ _ _ _ _ _ _)
      | (with_reducible exact ih1 _ _ _ _ _ _ _ _)
      | (with_reducible exact ih2 _ _ _ _ _ _ _ _ _)
      | (with_reducible exact ih3 _ _ _ _ _ _ _)
      | (with_reducible exact ih4 _ _ _ _ _ _ _ _ _)
      | (with_reducible exact godwitlaw12_awake.mono _)
      | (with_reducible exact godwitlaw12_did.mono _ _ _ _ _ _)
      | (with_reducible exact tokens_Sane.mono _ _)
      | (with_reducible exact LeO.refl _)
      | (with_reducible exact LeO.none _)
      | (with_reducible refine LeO.ite ?_ ?_)
      | (with_reducible refine LeO.bind ?_ (fun _ => ?_))
      | exact ih0 _ _ _ _ _ _ _
      | exact ih1 _ _ _ _ _ _ _ _
      | exact ih2 _ _ _ _ _ _ _ _ _
      | exact ih3 _ _ _ _ _ _ _
      | exact ih4 _ _ _ _ _ _ _ _ _
      | exact godwitlaw12_awake.mono _
      | exact godwitlaw12_did.mono _ _ _ _ _ _
      | exact tokens_Sane.mono _ _
      | exact LeO.none _
      | refine LeO.ite ?_ ?_
      | refine LeO.bind ?_ (fun _ => ?_)
    · intro y0 y1 y2 y3 y4 y5 y6 y7 y8
      unfold godwitlaw12_TokensOnce.j2
      repeat' first
      | (with_reducible exact ih0 _ _ _ _ _ _ _)
      | (with_reducible exact ih1 _ _ _ _ _ _ _ _)
      | (with_reducible exact ih2 _ _ _ _ _ _ _ _ _)
      | (with_reducible exact ih3 _ _ _ _ _ _ _)
      | (with_reducible exact ih4 _ _ _ _ _ _ _ _ _)
      | (with_reducible exact godwitlaw12_awake.mono _)
      | (with_reducible exact godwitlaw12_did.mono _ _ _ _ _ _)
      | (with_reducible exact tokens_Sane.mono _ _)
      | (with_reducible exact LeO.refl _)
      | (with_reducible exact LeO.none _)
      | (with_reducible refine LeO.ite ?_ ?_)
      | (with_reducible refine LeO.bind ?_ (fun _ => ?_))
      | exact ih0 _ _ _ _ _ _ _
      | exact ih1 _ _ _ _ _ _ _ _
      | exact ih2 _ _ _ _ _ _ _ _ _
      | exact ih3 _ _ _ _ _ _ _
      | exact ih4 _ _ _ _ _ _ _ _ _
      | exact godwitlaw12_awake.mono _
      | exact godwitlaw12_did.mono _ _ _ _ _ _
      | exact tokens_Sane.mono _ _
      | exact LeO.none _
      | refine LeO.ite ?_ ?_
      | refine LeO.bind ?_ (fun _ => ?_)
    · intro y0 y1 y2 y3 y4 y5 y6
      unfold godwitlaw12_TokensOnce.j3
      repeat' first
      | (with_reducible exact ih0 _ _ _ _ _ _ _)
      | (with_reducible exact ih1 _ _ _ _ _ _ _ _)
      | (with_reducible exact ih2 _ _ _ _ _ _ _ _ _)
      | (with_reducible exact ih3 _ _ _ _ _ _ _)
      | (with_reducible exact ih4 _ _ _ _ _ _ _ _ _)
      | (with_reducible exact godwitlaw12_awake.mono _)
      | (with_reducible exact godwitlaw12_did.mono _ _ _ _ _ _)
      | (with_reducible exact tokens_Sane.mono _ _)
      | (with_reducible exact LeO.refl _)
      | (with_reducible exact LeO.none _)
      | (with_reducible refine LeO.ite ?_ ?_)
      | (with_reducible refine LeO.bind ?_ (fun _ => ?_))
      | exact ih0 _ _ _ _ _ _ _
      | exact ih1 _ _ _ _ _ _ _ _
      | exact ih2 _ _ _ _ _ _ _ _ _
      | exact ih3 _ _ _ _ _ _ _
      | exact ih4 _ _ _ _ _ _ _ _ _
      | exact godwitlaw12_awake.mono _
      | exact godwitlaw12_did.mono _ _ _ _ _ _
      | exact tokens_Sane.mono _ _
      | exact LeO.none _
      | refine LeO.ite ?_ ?_
      | refine LeO.bind ?_ (fun _ => ?_)
    · intro y0 y1 y2 y3 y4 y5 y6 y7 y8
      unfold godwitlaw12_TokensOnce.j4
      repeat' first
      | (with_reducible exact ih0 _ _ _ _ _ _ _)
      | (with_reducible exact ih1 _ _ _ _ _ _ _ _)
      | (with_reducible exact ih2 _ _ _ _ _ _ _ _ _)
      | (with_reducible exact ih3 _ _ _ _ _ _ _)
      | (with_reducible exact ih4 _ _ _ _ _ _ _ _ _)
      | (with_reducible exact godwitlaw12_awake.mono _)
      | (with_reducible exact godwitlaw12_did.mono _ _ _ _ _ _)
      | (with_reducible exact tokens_Sane.mono _ _)
      | (with_reducible exact LeO.refl _)
      | (with_reducible exact LeO.none _)
      | (with_reducible refine LeO.ite ?_ ?_)
      | (with_reducible refine LeO.bind ?_ (fun _ => ?_))
      | exact ih0 _ _ _ _ _ _ _
      | exact ih1 _ _ _ _ _ _ _ _
      | exact ih2 _ _ _ _ _ _ _ _ _
      | exact ih3 _ _ _ _ _ _ _
      | exact ih4 _ _ _ _ _ _ _ _ _
      | exact godwitlaw12_awake.mono _
      | exact godwitlaw12_did.mono _ _ _ _ _ _
      | exact tokens_Sane.mono _ _
      | exact LeO.none _
      | refine LeO.ite ?_ ?_
      | refine LeO.bind ?_ (fun _ => ?_)
theorem godwitlaw12_TokensOnce.mono : ∀ a0 a1 k, LeO (godwitlaw12_TokensOnce.f k a0 a1) (godwitlaw12_TokensOnce.f (k + 1) a0 a1) := by
  intro a0 a1 k
  obtain ⟨ih0, ih1, ih2, ih3, ih4⟩ := godwitlaw12_TokensOnce.mono_l k
  unfold godwitlaw12_TokensOnce.f
  repeat' first
      | (with_reducible exact ih0 _ _ _ _ _ _ _)
      | (with_reducible exact ih1 _ _ _ _ _ _ _ _)
      | (with_reducible exact ih2 _ _ _ _ _ _ _ _ _)
      | (with_reducible exact ih3 _ _ _ _ _ _ _)
      | (with_reducible exact ih4 _ _ _ _ _ _ _ _ _)
      | (with_reducible exact godwitlaw12_awake.mono _)
      | (with_reducible exact godwitlaw12_did.mono _ _ _ _ _ _)
      | (with_reducible exact tokens_Sane.mono _ _)
      | (with_reducible exact LeO.refl _)
      | (with_reducible exact LeO.none _)
      | (with_reducible refine LeO.ite ?_ ?_)
      | (with_reducible refine LeO.bind ?_ (fun _ => ?_))
      | exact ih0 _ _ _ _ _ _ _
      | exact ih1 _ _ _ _ _ _ _ _
      | exact ih2 _ _ _ _ _ _ _ _ _
      | exact ih3 _ _ _ _ _ _ _
      | exact ih4 _ _ _ _ _ _ _ _ _
      | exact godwitlaw12_awake.mono _
      | exact godwitlaw12_did.mono _ _ _ _ _ _
      | exact tokens_Sane.mono _ _
      | exact LeO.none _
      | refine LeO.ite ?_ ?_
      | refine LeO.bind ?_ (fun _ => ?_)
def godwitlaw12_TokensOnce.T11 : Bool × List (List Nat × List Nat) := (true, [([], []), ([], []), ([], []), ([1, 2], [1, 2]), ([3], [3]), ([], []), ([5], [5]), ([0, 4, 6], [0, 4, 6]), ([7], [7]), ([8], [8]), ([8], [8]), ([], []), ([11, 9, 7, 0, 1, 2, 3, 4, 5, 6, 7, 8, 9, 11], [9, 11]), ([10, 12, 0, 1, 2, 3, 4, 5, 6, 7, 8, 9, 10, 11, 12], [10])])
def godwitlaw12_TokensOnce.B11 : List Nat := [0, 0, 0, 6, 14, 0, 32, 127, 255, 511, 511, 0, 3071, 8191]
theorem godwitlaw12_TokensOnce.tab11 : rtab .any (opsOf Try.f3 11) = godwitlaw12_TokensOnce.T11 := by kernel_rfl
theorem godwitlaw12_TokensOnce.bits11 : waitsOk godwitlaw12_TokensOnce.T11.2 godwitlaw12_TokensOnce.B11 = true := by kernel_rfl
set_option maxHeartbeats 8000000 in
set_option maxRecDepth 100000 in
theorem godwitlaw12_TokensOnce.calls (k : Nat) (A0 : Option Addr) (c0 : Nat) (l0 : List (S28)) (a1 : Int) (r : Bool) (w : World) (hr0 : Kd.C k28 w A0 l0.length l0) (hc0 : l0.length ≤ c0) (h : godwitlaw12_TokensOnce.f k l0 a1 = some r) :
    Calls Try.prog 3 #[.slice A0 l0.length c0, .int .i64 a1] w fun e w' => e = .returned (.bool r) ∧ Below w.heap.size w w' := by
  have hu26 := Try.underlying26
  have hu28 := Try.underlying28
  have hu33 := Try.underlying33
  have HR0 := Aside0.mk hr0
  have HC0 := Aside0.mk hc0
  clear hr0 hc0
  have HB := Aside0.mk (Below.refl w.heap.size w)
  have H : ((godwitlaw12_awake.f k).bind fun t242 => (if (l0.length : Int) > 100 then (some t242) else (godwitlaw12_TokensOnce.l0 k l0 a1 t242 0 (-1) 0 ([] : List (S33))))) = some r := h
  clear h
  replace H := Option.bind_eq_some_iff.mp H
  obtain ⟨t242, A30, H⟩ := H
  replace H : (if (l0.length : Int) > 100 then (some t242) else (godwitlaw12_TokensOnce.l0 k l0 a1 t242 0 (-1) 0 ([] : List (S33)))) = some r := H
  have A3 := Aside0.mk A30
  clear A30
  by_cases c4 : (l0.length : Int) > 100
  · rw [if_pos c4] at H
    have c4b0 : decide (100 < (l0.length : Int)) = true := decide_eq_true c4
    have c4b1 : decide (100 < l0.length) = true := decide_eq_true (by omega)
    clear c4
    obtain rfl := Option.some.inj H
    go_enter Try.func3, Try.ntmps3
    go_wp2_with (first | ((with_reducible refine gate_callee (f := 7) rfl ?_); refine goesL_ (some 14) rfl rfl Try.func7 (by kernel_rfl) rfl #[] rfl (by (try simp only [List.map_toArray, List.map_cons, List.map_nil]); first | done | rfl | (simp only [List.length_drop, List.length_take]; rfl)) ?_; (with_reducible refine (godwitlaw12_awake.calls k  t242 _ A3.out).mono ?_); rintro e w5 ⟨rfl, hb⟩; refine ⟨_, rfl, ?_⟩; have n0_ := Aside0.mk (below_step (by repeat (first | (with_reducible first | exact HB.out | apply below_alloc | apply pw_below_drewN | apply below_drew1) | exact HB.out)) hb); clear HB; have HB := n0_; clear n0_; (try clear hb); (try clear hb2); (try clear hk); (try clear hi)))
    go_ret
    exact ⟨by first | rfl | (simp [errW_none, errW_some] <;> rfl) | (simp [*, errW_none, errW_some] <;> rfl), by repeat (first | (with_reducible first | exact HB.out | apply below_alloc | apply pw_below_drewN | apply below_drew1) | exact HB.out)⟩
  · rw [if_neg c4] at H
    have c4b0 : decide (100 < (l0.length : Int)) = false := decide_eq_false c4
    have c4b1 : decide (100 < l0.length) = false := decide_eq_false (by omega)
    clear c4
    have H' := Aside0.mk H
    clear H
    go_enter Try.func3, Try.ntmps3
    go_wp2_with (first | ((with_reducible refine gate_callee (f := 7) rfl ?_); refine goesL_ (some 14) rfl rfl Try.func7 (by kernel_rfl) rfl #[] rfl (by (try simp only [List.map_toArray, List.map_cons, List.map_nil]); first | done | rfl | (simp only [List.length_drop, List.length_take]; rfl)) ?_; (with_reducible refine (godwitlaw12_awake.calls k  t242 _ A3.out).mono ?_); rintro e w6 ⟨rfl, hb⟩; refine ⟨_, rfl, ?_⟩; have n0_ := Aside0.mk (below_step (by repeat (first | (with_reducible first | exact HB.out | apply below_alloc | apply pw_below_drewN | apply below_drew1) | exact HB.out)) hb); clear HB; have HB := n0_; clear n0_; (try clear hb); (try clear hb2); (try clear hk); (try clear hi)) | ((with_reducible refine gate_dst (N := 6) rfl ?_); refine box_event ?hg (N := 6) ?hd (cs := #[.slice none 0 0]) (t := 26) ?hr ?_; (case hd => rfl); (case hg => rfl); (case hr => first | (go_simp; done) | (go_simp; rfl)); intro gb243 hg w7 hbox hb; have n0_ := Aside0.mk (below_step (by repeat (first | (with_reducible first | exact HB.out | apply below_alloc | apply pw_below_drewN | apply below_drew1) | exact HB.out)) hb); have n1_ := Aside0.mk (hbox); have n2_ := Aside0.mk ((by rw [hg]; exact (below_size (by repeat (first | (with_reducible first | exact HB.out | apply below_alloc | apply pw_below_drewN | apply below_drew1) | exact HB.out))) : w.heap.size ≤ gb243)); have n3_ := Aside0.mk ((by rw [hg]; exact (below_size (by repeat (first | (with_reducible first | exact HB.out | apply below_alloc | apply pw_below_drewN | apply below_drew1) | exact HB.out))) : w.heap.size ≤ gb243)); clear HB; have HB := n0_; have BK243 := n1_; have GW243 := n2_; have GE243 := n3_; clear n0_ n1_ n2_ n3_; clear hb hbox hg; have hcz8_0 : w7.cell? ⟨gb243, 0, none⟩ = some (.slice none 0 0) := (blk_cell BK243.out 0).trans rfl; have hfz8_0 := blk_frozen BK243.out 0))
    go_loopg [7, 8, 9] k (fun kq v7 v8 v9 w' => ∃ (x7_1 : Int) (x8_1 : Int) (x9_1 : Int) (x244000_1 : List (S33)) (u244000 : Value), v7 = .int .i64 x7_1 ∧ v8 = .int .i64 x8_1 ∧ v9 = .int .i64 x9_1 ∧ Aside0 (godwitlaw12_TokensOnce.l0 kq l0 a1 t242 x7_1 x8_1 x9_1 x244000_1 = some r) ∧ Aside0 (kq ≤ k) ∧ Aside0 (Kd.V k33 33 w' w.heap.size (fun k_ => k_ ≠ gb243) u244000 x244000_1) ∧ Aside0 (w'.heap[gb243]? = some (.cells #[u244000] 26 (0, 0))) ∧ Aside0 (Below w.heap.size w w'))
    case atStart => exact ⟨(0), ((-1)), (0), (([] : List (S33))), (.slice none 0 0), (by first | rfl | (simp; done) | (simp [*]; done)), (by first | rfl | (simp; done) | (simp [*]; done)), (by first | rfl | (simp; done) | (simp [*]; done)), H', ⟨Nat.le_refl _⟩, ⟨Kd.V_nil _ _ _ _ _⟩, ⟨by (with_reducible repeat (first | refine blk_drewN ?_ _ | refine blk_drew ?_ | refine blk_alloc ?_ _)); refine blk_put (cs := #[.slice none 0 0]) ?_ 0 _ rfl; (with_reducible repeat (first | refine blk_drewN ?_ _ | refine blk_drew ?_ | refine blk_alloc ?_ _)); exact BK243.out⟩, ⟨by repeat (first | (with_reducible first | exact HB.out | apply below_alloc | apply pw_below_drewN | apply below_drew1 | refine below_set ?_ GE243.out) | exact HB.out)⟩⟩
    case round =>
      clear H'
      try clear p2
      try clear c3
      try clear c4
      try clear c4b0
      try clear c4b1
      try clear c7
      try clear hcz8_0
      try clear hfz8_0
      obtain ⟨x7_1, x8_1, x9_1, x244000_1, u244000, rfl, rfl, rfl, HA, HK1, HO_244000, BK243, HB⟩ := hrel
      cases gk with
      | zero => exact absurd HA.out (by simp [godwitlaw12_TokensOnce.l0])
      | succ k1 =>
        have H := HA.out
        clear HA
        simp only [godwitlaw12_TokensOnce.l0] at H
        by_cases c9 : x9_1 < (l0.length : Int)
        · rw [if_pos c9] at H
          have c9b0 : decide (x9_1 < (l0.length : Int)) = true := decide_eq_true c9
          clear c9
          have HC10 := Aside0.mk H
          clear H
          go_upto_region 10 with (fail)
          go_cut [39] (fun v39 wc => ∃ (kq : Nat) (x39_9 : Bool), v39 = .bool x39_9 ∧ Aside0 (godwitlaw12_TokensOnce.j1 kq l0 a1 t242 x7_1 x8_1 x9_1 x39_9 x244000_1 = some r) ∧ Aside0 (kq ≤ k1) ∧ Aside0 (Kd.V k33 33 wc w.heap.size (fun k_ => k_ ≠ gb243) u244000 x244000_1) ∧ Aside0 (wc.heap[gb243]? = some (.cells #[u244000] 26 (0, 0))) ∧ Aside0 (Below w.heap.size w wc))
          case first =>
            have H := HC10.out
            clear HC10
            by_cases c11 : 0 ≤ x9_1
            · rw [if_pos c11] at H
              have c11b0 : decide (0 ≤ x9_1) = true := decide_eq_true c11
              clear c11
              (first | rw [c11b0] | (simp only [i64_w, i32_w]; rw [c11b0]) | skip)
              by_cases c12 : ((rd_T28 l0 x9_1).f0) < 0
              · rw [if_pos c12] at H
                have c12b0 : decide (((rd_T28 l0 x9_1).f0) < 0) = true := decide_eq_true c12
                clear c12
                have H' := Aside0.mk H
                clear H
                have p244 : 0 ≤ (x9_1 : Int) := of_decide_eq_true (by first | (with_reducible assumption) | assumption)
                have q244 : x9_1 < (l0.length : Int) := of_decide_eq_true (by first | (with_reducible assumption) | assumption)
                obtain ⟨ad244, e244, hx244_0, hx244_1, hx244_2⟩ := at_T28 HR0.out x9_1 p244 q244
                cases e244
                replace hx244_0 := (HB.out.cell (World.block_lt_of_cell? w _ hx244_0)).trans hx244_0
                replace hx244_1 := (HB.out.cell (World.block_lt_of_cell? w _ hx244_1)).trans hx244_1
                replace hx244_2 := (HB.out.cell (World.block_lt_of_cell? w _ hx244_2)).trans hx244_2
                replace p244 := eq_true p244
                replace q244 := eq_true q244
                go_wp2
                go_meet
                case rel => exact ⟨_, (true), (by first | rfl | (simp; done) | (simp [*]; done)), H', ⟨by have := HK1.out; first | omega | exact Nat.le_refl _⟩, ⟨by (with_reducible repeat (first | apply Kd.V_alloc | apply Kd.V_drewN | apply Kd.V_drew)); exact HO_244000.out⟩, ⟨by (with_reducible repeat (first | refine blk_drewN ?_ _ | refine blk_drew ?_ | refine blk_alloc ?_ _)); exact BK243.out⟩, ⟨by repeat (first | (with_reducible first | exact HB.out | apply below_alloc | apply pw_below_drewN | apply below_drew1 | refine below_set ?_ GE243.out) | exact HB.out)⟩⟩
              · rw [if_neg c12] at H
                have c12b0 : decide (((rd_T28 l0 x9_1).f0) < 0) = false := decide_eq_false c12
                clear c12
                have H' := Aside0.mk H
                clear H
                have p244 : 0 ≤ (x9_1 : Int) := of_decide_eq_true (by first | (with_reducible assumption) | assumption)
                have q244 : x9_1 < (l0.length : Int) := of_decide_eq_true (by first | (with_reducible assumption) | assumption)
                obtain ⟨ad244, e244, hx244_0, hx244_1, hx244_2⟩ := at_T28 HR0.out x9_1 p244 q244
                cases e244
                replace hx244_0 := (HB.out.cell (World.block_lt_of_cell? w _ hx244_0)).trans hx244_0
                replace hx244_1 := (HB.out.cell (World.block_lt_of_cell? w _ hx244_1)).trans hx244_1
                replace hx244_2 := (HB.out.cell (World.block_lt_of_cell? w _ hx244_2)).trans hx244_2
                replace p244 := eq_true p244
                replace q244 := eq_true q244
                have p245 : 0 ≤ (x9_1 : Int) := of_decide_eq_true (by first | (with_reducible assumption) | assumption)
                have q245 : x9_1 < (l0.length : Int) := of_decide_eq_true (by first | (with_reducible assumption) | assumption)
                obtain ⟨ad245, e245, hx245_0, hx245_1, hx245_2⟩ := at_T28 HR0.out x9_1 p245 q245
                obtain rfl : ad244 = ad245 := (by injection e245)
                replace hx245_0 := (HB.out.cell (World.block_lt_of_cell? w _ hx245_0)).trans hx245_0
                replace hx245_1 := (HB.out.cell (World.block_lt_of_cell? w _ hx245_1)).trans hx245_1
                replace hx245_2 := (HB.out.cell (World.block_lt_of_cell? w _ hx245_2)).trans hx245_2
                replace p245 := eq_true p245
                replace q245 := eq_true q245
                go_wp2
                go_meet
                case rel => exact ⟨_, (decide (((rd_T28 l0 x9_1).f0) > 4)), (by first | rfl | (simp; done) | (simp [*]; done)), H', ⟨by have := HK1.out; first | omega | exact Nat.le_refl _⟩, ⟨by (with_reducible repeat (first | apply Kd.V_alloc | apply Kd.V_drewN | apply Kd.V_drew)); exact HO_244000.out⟩, ⟨by (with_reducible repeat (first | refine blk_drewN ?_ _ | refine blk_drew ?_ | refine blk_alloc ?_ _)); exact BK243.out⟩, ⟨by repeat (first | (with_reducible first | exact HB.out | apply below_alloc | apply pw_below_drewN | apply below_drew1 | refine below_set ?_ GE243.out) | exact HB.out)⟩⟩
            · rw [if_neg c11] at H
              exact absurd H (by simp)
          case rest =>
            clear HC10
            try clear c1
            try clear p2
            try clear q2
            try clear hx2
            try clear c3
            try clear c4
            try clear c4b0
            try clear c4b1
            try clear c7
            try clear c9
            try clear c9b0
            try clear c11
            try clear c11b0
            try clear c12
            try clear c12b0
            try clear hcz8_0
            try clear hfz8_0
            try clear hx244_0
            try clear hx244_1
            try clear hx244_2
            try clear hx245_0
            try clear hx245_1
            try clear hx245_2
            try clear p2
            try clear p244
            try clear p245
            try clear q244
            try clear q245
            obtain ⟨kq, x39_9, rfl, HA, HJ9, HO_244000, BK243, HB⟩ := hcut
            cases kq with
            | zero => exact absurd HA.out (by simp [godwitlaw12_TokensOnce.j1])
            | succ kj9 =>
              have H := HA.out
              clear HA
              simp only [godwitlaw12_TokensOnce.j1] at H
              by_cases c13 : x39_9 = true
              · subst c13
                have H1 : (godwitlaw12_TokensOnce.l0 kj9 l0 a1 t242 x7_1 x8_1 (wrap64 (x9_1 + 1)) x244000_1) = some r := by rw [if_pos rfl] at H; exact H
                clear H
                have H := H1
                clear H1
                have H' := Aside0.mk H
                clear H
                go_wp2
                go_roundg kj9
                case measure => have := HK1.out; have := HJ9.out; omega
                case rel => exact ⟨(x7_1), (x8_1), (wrap64 (x9_1 + 1)), (x244000_1), (u244000), (by first | rfl | (simp; done) | (simp [*]; done)), (by first | rfl | (simp; done) | (simp [*]; done)), (by first | rfl | (simp; done) | (simp [*]; done)), H', ⟨by have := HK1.out; have := HJ9.out; omega⟩, ⟨by (with_reducible repeat (first | apply Kd.V_alloc | apply Kd.V_drewN | apply Kd.V_drew)); exact HO_244000.out⟩, ⟨by (with_reducible repeat (first | refine blk_drewN ?_ _ | refine blk_drew ?_ | refine blk_alloc ?_ _)); exact BK243.out⟩, ⟨by repeat (first | (with_reducible first | exact HB.out | apply below_alloc | apply pw_below_drewN | apply below_drew1 | refine below_set ?_ GE243.out) | exact HB.out)⟩⟩
              · replace c13 := Bool.eq_false_iff.mpr c13
                subst c13
                have H1 : (if 0 ≤ x9_1 then (if x9_1 < (l0.length : Int) then ((godwitlaw12_did.f kj9 x244000_1 ((rd_T28 l0 x9_1).f0) ((rd_T28 l0 x9_1).f1) ((rd_T28 l0 x9_1).f2) (wrap64 (x9_1 + 1))).bind fun bt247 => (if bt247.2 = 0 then (if ((rd_T28 l0 x9_1).f1) = a1 then (if ((rd_T28 l0 x9_1).f0) = 0 then (godwitlaw12_TokensOnce.j2 kj9 l0 a1 t242 x7_1 x8_1 x9_1 ((rd_T28 l0 x9_1).f0) (((rd_T28 l0 x9_1).f0) == 0) bt247.1) else (godwitlaw12_TokensOnce.j2 kj9 l0 a1 t242 x7_1 x8_1 x9_1 ((rd_T28 l0 x9_1).f0) (((rd_T28 l0 x9_1).f0) == 1) bt247.1)) else (godwitlaw12_TokensOnce.l0 kj9 l0 a1 t242 x7_1 x8_1 (wrap64 (x9_1 + 1)) bt247.1)) else (godwitlaw12_TokensOnce.l0 kj9 l0 a1 t242 x7_1 x8_1 (wrap64 (x9_1 + 1)) x244000_1))) else (none)) else (none)) = some r := by rw [if_neg (show ¬ (false = true) by decide)] at H; exact H
                clear H
                have H := H1
                clear H1
                by_cases c14 : 0 ≤ x9_1
                · rw [if_pos c14] at H
                  have c14b0 : decide (0 ≤ x9_1) = true := decide_eq_true c14
                  clear c14
                  by_cases c15 : x9_1 < (l0.length : Int)
                  · rw [if_pos c15] at H
                    have c15b0 : decide (x9_1 < (l0.length : Int)) = true := decide_eq_true c15
                    clear c15
                    replace H := Option.bind_eq_some_iff.mp H
                    obtain ⟨⟨t247, t250⟩, A160, H⟩ := H
                    replace H : (if t250 = 0 then (if ((rd_T28 l0 x9_1).f1) = a1 then (if ((rd_T28 l0 x9_1).f0) = 0 then (godwitlaw12_TokensOnce.j2 kj9 l0 a1 t242 x7_1 x8_1 x9_1 ((rd_T28 l0 x9_1).f0) (((rd_T28 l0 x9_1).f0) == 0) t247) else (godwitlaw12_TokensOnce.j2 kj9 l0 a1 t242 x7_1 x8_1 x9_1 ((rd_T28 l0 x9_1).f0) (((rd_T28 l0 x9_1).f0) == 1) t247)) else (godwitlaw12_TokensOnce.l0 kj9 l0 a1 t242 x7_1 x8_1 (wrap64 (x9_1 + 1)) t247)) else (godwitlaw12_TokensOnce.l0 kj9 l0 a1 t242 x7_1 x8_1 (wrap64 (x9_1 + 1)) x244000_1)) = some r := H
                    have A16 := Aside0.mk A160
                    clear A160
                    by_cases c17 : t250 = 0
                    · rw [if_pos c17] at H
                      have c17b0 : (t250 == 0) = true := beq_iff_eq.mpr c17
                      have c17b1 : (t250 != 0) = false := bne_eq_false_iff_eq.mpr c17
                      clear c17
                      by_cases c18 : ((rd_T28 l0 x9_1).f1) = a1
                      · rw [if_pos c18] at H
                        have c18b0 : (((rd_T28 l0 x9_1).f1) == a1) = true := beq_iff_eq.mpr c18
                        have c18b1 : (((rd_T28 l0 x9_1).f1) != a1) = false := bne_eq_false_iff_eq.mpr c18
                        clear c18
                        have HC19 := Aside0.mk H
                        clear H
                        obtain ⟨Ao20, co20, eo20⟩ := Kd.V_slice HO_244000.out
                        subst eo20
                        try go_wp2
                        have n0_ := Aside0.mk (Kd.V_drew HO_244000.out)
                        have n1_ := Aside0.mk (blk_drew BK243.out)
                        have n2_ := Aside0.mk (below_drew1 HB.out)
                        clear HO_244000
                        clear BK243
                        clear HB
                        have HO_244000 := n0_
                        have BK243 := n1_
                        have HB := n2_
                        clear n0_ n1_ n2_
                        have p246 : 0 ≤ (x9_1 : Int) := of_decide_eq_true (by first | (with_reducible assumption) | assumption)
                        have q246 : x9_1 < (l0.length : Int) := of_decide_eq_true (by first | (with_reducible assumption) | assumption)
                        obtain ⟨ad246, e246, hx246_0, hx246_1, hx246_2⟩ := at_T28 HR0.out x9_1 p246 q246
                        have hw246_2 := hx246_2
                        have hw246_1 := hx246_1
                        have hw246_0 := hx246_0
                        cases e246
                        replace hx246_0 := (HB.out.cell (World.block_lt_of_cell? w _ hx246_0)).trans hx246_0
                        replace hx246_1 := (HB.out.cell (World.block_lt_of_cell? w _ hx246_1)).trans hx246_1
                        replace hx246_2 := (HB.out.cell (World.block_lt_of_cell? w _ hx246_2)).trans hx246_2
                        replace p246 := eq_true p246
                        replace q246 := eq_true q246
                        refine start_ (n := 14) (S := fun w' => w'.cell? ⟨gb243, 0, none⟩ = some (.slice Ao20 x244000_1.length co20) ∧ w'.cell? (ad246.add ((x9_1).toNat * 3)) = some (.int .i64 ((rd_T28 l0 x9_1).f0)) ∧ w'.cell? ⟨(ad246.add ((x9_1).toNat * 3)).block, (ad246.add ((x9_1).toNat * 3)).off + 1, none⟩ = some (.int .i64 ((rd_T28 l0 x9_1).f1)) ∧ w'.cell? ⟨(ad246.add ((x9_1).toNat * 3)).block, (ad246.add ((x9_1).toNat * 3)).off + 2, none⟩ = some (.int .i64 ((rd_T28 l0 x9_1).f2))) (ds := []) #[false, false, false, false, false, false, false, false, false, false, false, false, false, false] (by kernel_rfl) rfl rfl ⟨(blk_cell BK243.out 0).trans rfl, ((HB.out.cell (World.block_lt_of_cell? w _ hw246_0)).trans hw246_0), ((HB.out.cell (World.block_lt_of_cell? w _ hw246_1)).trans hw246_1), ((HB.out.cell (World.block_lt_of_cell? w _ hw246_2)).trans hw246_2)⟩ (fun hHeld => ?_); refine with_tabW godwitlaw12_TokensOnce.tab11 godwitlaw12_TokensOnce.bits11 (fun HT_ HW_ => ?_)
                        generalize wc.drew = w21 at HO_244000 BK243 HB hx246_0 hx246_1 hx246_2 hHeld ⊢
                        refine pure_ (i := 1) (N := some 42) (v := ?_) (a' := ?_) #[false, true, false, false, false, false, false, false, false, false, false, false, false, false] rfl rfl (any_of HT_.out (by kernel_rfl)) (fun _ _ _ h => h) (Or.inl ⟨by rfl, ?_⟩) ?_ ?_
                        rotate_left
                        · intro w'
                          go_simp
                          with_reducible rfl
                        rotate_left
                        · simp only [Act.put, List.setIfInBounds_toArray, List.set_cons_zero, List.set_cons_succ, i64_w, i32_w]
                          rfl
                        refine pure_ (i := 2) (N := some 43) (v := ?_) (a' := ?_) #[false, true, true, false, false, false, false, false, false, false, false, false, false, false] rfl rfl (any_of HT_.out (by kernel_rfl)) (fun _ _ _ h => h) (Or.inl ⟨by rfl, ?_⟩) ?_ ?_
                        rotate_left
                        · intro w'
                          go_simp
                          with_reducible rfl
                        rotate_left
                        · simp only [Act.put, List.setIfInBounds_toArray, List.set_cons_zero, List.set_cons_succ, i64_w, i32_w]
                          rfl
                        refine pure_ (i := 3) (N := some 44) (v := ?_) (a' := ?_) #[false, true, true, true, false, false, false, false, false, false, false, false, false, false] rfl rfl (any_of HT_.out (by kernel_rfl)) (fun _ _ _ h => h) (Or.inl ⟨by rfl, ?_⟩) ?_ ?_
                        rotate_left
                        · intro w'
                          go_simp
                          with_reducible rfl
                        rotate_left
                        · simp only [Act.put, List.setIfInBounds_toArray, List.set_cons_zero, List.set_cons_succ, i64_w, i32_w]
                          rfl
                        refine pure_ (i := 5) (N := some 46) (v := ?_) (a' := ?_) #[false, true, true, true, false, true, false, false, false, false, false, false, false, false] rfl rfl (any_of HT_.out (by kernel_rfl)) (fun _ _ _ h => h) (Or.inl ⟨by rfl, ?_⟩) ?_ ?_
                        rotate_left
                        · intro w'
                          go_simp
                          with_reducible rfl
                        rotate_left
                        · simp only [Act.put, List.setIfInBounds_toArray, List.set_cons_zero, List.set_cons_succ, i64_w, i32_w]
                          rfl
                        refine pure_ (i := 6) (N := some 47) (v := ?_) (a' := ?_) #[false, true, true, true, false, true, true, false, false, false, false, false, false, false] rfl rfl (any_of HT_.out (by kernel_rfl)) (fun _ _ _ h => h) (Or.inl ⟨by rfl, ?_⟩) ?_ ?_
                        rotate_left
                        · intro w'
                          go_simp
                          with_reducible rfl
                        rotate_left
                        · simp only [Act.put, List.setIfInBounds_toArray, List.set_cons_zero, List.set_cons_succ, i64_w, i32_w]
                          rfl
                        refine take_ (i := 0) (N := some 41) (v := ?_) (a' := ?_) #[true, true, true, true, false, true, true, false, false, false, false, false, false, false] rfl rfl (take_ofW HT_.out HW_.out (by kernel_rfl)) (fun _ _ _ h => h) (Or.inl ⟨by rfl, ?_⟩) hHeld ?_ ?_
                        rotate_left
                        · rintro w' ⟨s0, s1, s2, s3⟩
                          go_simp
                          with_reducible rfl
                        rotate_left
                        · simp only [Act.put, List.setIfInBounds_toArray, List.set_cons_zero, List.set_cons_succ, i64_w, i32_w]
                          rfl
                        refine take_ (i := 4) (N := some 45) (v := ?_) (a' := ?_) #[true, true, true, true, true, true, true, false, false, false, false, false, false, false] rfl rfl (take_ofW HT_.out HW_.out (by kernel_rfl)) (fun _ _ _ h => h) (Or.inl ⟨by rfl, ?_⟩) hHeld ?_ ?_
                        rotate_left
                        · rintro w' ⟨s0, s1, s2, s3⟩
                          go_simp
                          with_reducible rfl
                        rotate_left
                        · simp only [Act.put, List.setIfInBounds_toArray, List.set_cons_zero, List.set_cons_succ, i64_w, i32_w]
                          rfl
                        refine join_ (σ := Value × Nat) 2 #[true, true, true, true, true, true, true, true, true, true, true, true, false, false] (fun s_ => [(48, .tuple #[.agg #[s_.1], .int .i64 t250]), (10, .pointer (some ⟨s_.2, 0, none⟩)), (40, .tuple #[.agg #[s_.1], .int .i64 t250]), (49, .agg #[s_.1]), (50, .int .i64 t250)]) (fun s_ w' => (w'.cell? ⟨gb243, 0, none⟩ = some (.slice Ao20 x244000_1.length co20) ∧ w'.cell? (ad246.add ((x9_1).toNat * 3)) = some (.int .i64 ((rd_T28 l0 x9_1).f0)) ∧ w'.cell? ⟨(ad246.add ((x9_1).toNat * 3)).block, (ad246.add ((x9_1).toNat * 3)).off + 1, none⟩ = some (.int .i64 ((rd_T28 l0 x9_1).f1)) ∧ w'.cell? ⟨(ad246.add ((x9_1).toNat * 3)).block, (ad246.add ((x9_1).toNat * 3)).off + 2, none⟩ = some (.int .i64 ((rd_T28 l0 x9_1).f2))) ∧ (Kd.V k33 33 w' w.heap.size (fun k_ => k_ ≠ gb243 ∧ k_ ≠ s_.2) s_.1 t247) ∧ (Kd.V k33 33 w' w.heap.size (fun k_ => k_ ≠ gb243 ∧ k_ ≠ s_.2) (.slice Ao20 x244000_1.length co20) x244000_1) ∧ (w'.heap[gb243]? = some (.cells #[.slice Ao20 x244000_1.length co20] 26 (0, 0))) ∧ (w'.heap[s_.2]? = some (.cells #[.slice none 0 0] 26 (0, 0))) ∧ (w.heap.size ≤ s_.2) ∧ (w.heap.size ≤ s_.2) ∧ (gb243 ≠ s_.2) ∧ (s_.2 ≠ gb243) ∧ (Below w.heap.size w w')) ?_ ?_
                        rotate_left
                        · intro hCont
                          refine two_ (i := 7) (j := 11) (Ni := some 48) (Nj := some 10) #[true, true, true, true, true, true, true, true, false, false, false, false, false, false] #[true, true, true, true, true, true, true, false, false, false, false, true, false, false] rfl rfl rfl rfl (two_of HT_.out (by kernel_rfl)) (by decide) (by decide) (fun K hK => ?_) (fun K hK => ?_)
                          · skip
                            refine goes_ Try.func8 (by kernel_rfl) rfl #[.agg #[.slice Ao20 x244000_1.length co20], .agg #[.int .i64 ((rd_T28 l0 x9_1).f0), .int .i64 ((rd_T28 l0 x9_1).f1), .int .i64 ((rd_T28 l0 x9_1).f2)], .int .i64 (wrap64 (x9_1 + 1))] (by rfl) rfl rfl (by (try simp only [List.map_toArray, List.map_cons, List.map_nil]); first | done | rfl | (simp only [List.length_drop, List.length_take]; rfl)) ?_
                            with_reducible refine (godwitlaw12_did.calls kj9 (fun k_ => k_ ≠ gb243) _ _ x244000_1 ((rd_T28 l0 x9_1).f0) ((rd_T28 l0 x9_1).f1) ((rd_T28 l0 x9_1).f2) (wrap64 (x9_1 + 1)) t247 t250 _ ?side1 A16.out).mono ?_
                            (case side1 => exact HO_244000.out)
                            rintro e w22 ⟨v248, rfl, ho0, hb⟩
                            refine ⟨_, rfl, ?_⟩
                            have n0_ := Aside0.mk (Kd.V_below (by (with_reducible repeat (first | apply Kd.V_alloc | apply Kd.V_drewN | apply Kd.V_drew)); exact HO_244000.out) hb)
                            have n1_ := Aside0.mk (Kd.V_lower (Kd.V_mono (ok' := fun k_ => k_ ≠ gb243) ho0 (fun k_ hk_ => Or.elim hk_ (fun hs_ => hs_) (fun hn_ => (Kd.freshB (g := gb243) (o := .cells #[.slice Ao20 x244000_1.length co20] 26 (0, 0)) (by (with_reducible repeat (first | refine blk_drewN ?_ _ | refine blk_drew ?_ | refine blk_alloc ?_ _)); exact BK243.out) k_ hn_)))) (below_size (by repeat (first | (with_reducible first | exact HB.out | apply below_alloc | apply pw_below_drewN | apply below_drew1 | refine below_set ?_ GE243.out) | exact HB.out))))
                            have n2_ := Aside0.mk (blk_below (g := gb243) (o := .cells #[.slice Ao20 x244000_1.length co20] 26 (0, 0)) (by (with_reducible repeat (first | refine blk_drewN ?_ _ | refine blk_drew ?_ | refine blk_alloc ?_ _)); exact BK243.out) hb)
                            have n3_ := Aside0.mk (below_step (by repeat (first | (with_reducible first | exact HB.out | apply below_alloc | apply pw_below_drewN | apply below_drew1 | refine below_set ?_ GE243.out) | exact HB.out)) hb)
                            clear HO_244000
                            clear BK243
                            clear HB
                            have HO_244000 := n0_
                            have HO249 := n1_
                            have BK243 := n2_
                            have HB := n3_
                            clear n0_ n1_ n2_ n3_
                            (try clear hb)
                            (try clear hb2)
                            (try clear hk)
                            (try clear hi)
                            (try clear ho0)
                            refine hK.out _ _ ⟨(blk_cell BK243.out 0).trans rfl, ((HB.out.cell (World.block_lt_of_cell? w _ hw246_0)).trans hw246_0), ((HB.out.cell (World.block_lt_of_cell? w _ hw246_1)).trans hw246_1), ((HB.out.cell (World.block_lt_of_cell? w _ hw246_2)).trans hw246_2)⟩ (fun hHeld => ?_)
                            clear hK K
                            refine norm_ (a' := ?_) ?_ ?_
                            rotate_left
                            · show Act.put _ (some 48) _ = _
                              simp only [Act.put, List.setIfInBounds_toArray, List.set_cons_zero, List.set_cons_succ, i64_w, i32_w]
                              rfl
                            refine pure_ (i := 8) (N := some 40) (v := ?_) (a' := ?_) #[true, true, true, true, true, true, true, true, true, false, false, false, false, false] rfl rfl (any_of HT_.out (by kernel_rfl)) (fun _ _ _ h => h) (Or.inl ⟨by rfl, ?_⟩) ?_ ?_
                            rotate_left
                            · intro w'
                              go_simp
                              with_reducible rfl
                            rotate_left
                            · simp only [Act.put, List.setIfInBounds_toArray, List.set_cons_zero, List.set_cons_succ, i64_w, i32_w]
                              rfl
                            refine pure_ (i := 9) (N := some 49) (v := ?_) (a' := ?_) #[true, true, true, true, true, true, true, true, true, true, false, false, false, false] rfl rfl (any_of HT_.out (by kernel_rfl)) (fun _ _ _ h => h) (Or.inl ⟨by rfl, ?_⟩) ?_ ?_
                            rotate_left
                            · intro w'
                              go_simp
                              with_reducible rfl
                            rotate_left
                            · simp only [Act.put, List.setIfInBounds_toArray, List.set_cons_zero, List.set_cons_succ, i64_w, i32_w]
                              rfl
                            refine pure_ (i := 10) (N := some 50) (v := ?_) (a' := ?_) #[true, true, true, true, true, true, true, true, true, true, true, false, false, false] rfl rfl (any_of HT_.out (by kernel_rfl)) (fun _ _ _ h => h) (Or.inl ⟨by rfl, ?_⟩) ?_ ?_
                            rotate_left
                            · intro w'
                              go_simp
                              with_reducible rfl
                            rotate_left
                            · simp only [Act.put, List.setIfInBounds_toArray, List.set_cons_zero, List.set_cons_succ, i64_w, i32_w]
                              rfl
                            refine one_ (i := 11) (N := some 10) #[true, true, true, true, true, true, true, true, true, true, true, true, false, false] rfl rfl (one_of HT_.out (by kernel_rfl)) (by decide) (fun K hK => ?_)
                            refine box_step ?hg (N := 10) ?hd (cs := #[.slice none 0 0]) (t := 26) ?hr ?_; (case hd => rfl); (case hg => rfl); (case hr => first | (go_simp; done) | (go_simp; rfl))
                            intro gb251 hg w23 hbox hb
                            have n0_ := Aside0.mk (Kd.V_below (Kd.V_elderB (by (with_reducible repeat (first | apply Kd.V_alloc | apply Kd.V_drewN | apply Kd.V_drew)); exact HO_244000.out) gb251 (Nat.le_of_eq hg.symm)) hb)
                            have n1_ := Aside0.mk (Kd.V_below (Kd.V_elderB (by (with_reducible repeat (first | apply Kd.V_alloc | apply Kd.V_drewN | apply Kd.V_drew)); exact HO249.out) gb251 (Nat.le_of_eq hg.symm)) hb)
                            have n2_ := Aside0.mk (blk_below (g := gb243) (o := .cells #[.slice Ao20 x244000_1.length co20] 26 (0, 0)) (by (with_reducible repeat (first | refine blk_drewN ?_ _ | refine blk_drew ?_ | refine blk_alloc ?_ _)); exact BK243.out) hb)
                            have n3_ := Aside0.mk (below_step (by repeat (first | (with_reducible first | exact HB.out | apply below_alloc | apply pw_below_drewN | apply below_drew1 | refine below_set ?_ GE243.out) | exact HB.out)) hb)
                            have n4_ := Aside0.mk (hbox)
                            have n5_ := Aside0.mk ((by rw [hg]; exact (below_size (by repeat (first | (with_reducible first | exact HB.out | apply below_alloc | apply pw_below_drewN | apply below_drew1 | refine below_set ?_ GE243.out) | exact HB.out))) : w.heap.size ≤ gb251))
                            have n6_ := Aside0.mk ((by rw [hg]; exact (below_size (by repeat (first | (with_reducible first | exact HB.out | apply below_alloc | apply pw_below_drewN | apply below_drew1 | refine below_set ?_ GE243.out) | exact HB.out))) : w.heap.size ≤ gb251))
                            have n7_ := Aside0.mk ((by rw [hg]; exact Nat.ne_of_lt (blk_lt (g := gb243) (o := .cells #[.slice Ao20 x244000_1.length co20] 26 (0, 0)) (by (with_reducible repeat (first | refine blk_drewN ?_ _ | refine blk_drew ?_ | refine blk_alloc ?_ _)); exact BK243.out)) : gb243 ≠ gb251))
                            have n8_ := Aside0.mk ((by rw [hg]; exact Nat.ne_of_gt (blk_lt (g := gb243) (o := .cells #[.slice Ao20 x244000_1.length co20] 26 (0, 0)) (by (with_reducible repeat (first | refine blk_drewN ?_ _ | refine blk_drew ?_ | refine blk_alloc ?_ _)); exact BK243.out)) : gb251 ≠ gb243))
                            clear HO_244000
                            clear HO249
                            clear BK243
                            clear HB
                            have HO_244000 := n0_
                            have HO249 := n1_
                            have BK243 := n2_
                            have HB := n3_
                            have BK251 := n4_
                            have GW251 := n5_
                            have GE251 := n6_
                            have NB243_251 := n7_
                            have NB251_243 := n8_
                            clear n0_ n1_ n2_ n3_ n4_ n5_ n6_ n7_ n8_
                            clear hb hbox hg
                            refine hK.out _ _ ⟨(blk_cell BK243.out 0).trans rfl, ((HB.out.cell (World.block_lt_of_cell? w _ hw246_0)).trans hw246_0), ((HB.out.cell (World.block_lt_of_cell? w _ hw246_1)).trans hw246_1), ((HB.out.cell (World.block_lt_of_cell? w _ hw246_2)).trans hw246_2)⟩ (fun hHeld => ?_)
                            clear hK K
                            refine norm_ (a' := ?_) ?_ ?_
                            rotate_left
                            · show Act.put _ (some 10) _ = _
                              simp only [Act.put, List.setIfInBounds_toArray, List.set_cons_zero, List.set_cons_succ, i64_w, i32_w]
                              rfl
                            exact norm_ (by simp only [putAll, Act.put, List.setIfInBounds_toArray, List.set_cons_zero, List.set_cons_succ]) (hCont (v248, gb251) _ ⟨hHeld, (by (with_reducible repeat (first | apply Kd.V_alloc | apply Kd.V_drewN | apply Kd.V_drew)); exact HO249.out), (by (with_reducible repeat (first | apply Kd.V_alloc | apply Kd.V_drewN | apply Kd.V_drew)); exact HO_244000.out), (by (with_reducible repeat (first | refine blk_drewN ?_ _ | refine blk_drew ?_ | refine blk_alloc ?_ _)); exact BK243.out), (by (with_reducible repeat (first | refine blk_drewN ?_ _ | refine blk_drew ?_ | refine blk_alloc ?_ _)); exact BK251.out), GW251.out, GE251.out, NB243_251.out, NB251_243.out, (by repeat (first | (with_reducible first | exact HB.out | apply below_alloc | apply pw_below_drewN | apply below_drew1 | refine below_set ?_ GE243.out | refine below_set ?_ GE251.out) | exact HB.out))⟩)
                          · skip
                            refine box_step ?hg (N := 10) ?hd (cs := #[.slice none 0 0]) (t := 26) ?hr ?_; (case hd => rfl); (case hg => rfl); (case hr => first | (go_simp; done) | (go_simp; rfl))
                            intro gb251 hg w22 hbox hb
                            have n0_ := Aside0.mk (Kd.V_below (Kd.V_elderB (by (with_reducible repeat (first | apply Kd.V_alloc | apply Kd.V_drewN | apply Kd.V_drew)); exact HO_244000.out) gb251 (Nat.le_of_eq hg.symm)) hb)
                            have n1_ := Aside0.mk (blk_below (g := gb243) (o := .cells #[.slice Ao20 x244000_1.length co20] 26 (0, 0)) (by (with_reducible repeat (first | refine blk_drewN ?_ _ | refine blk_drew ?_ | refine blk_alloc ?_ _)); exact BK243.out) hb)
                            have n2_ := Aside0.mk (below_step (by repeat (first | (with_reducible first | exact HB.out | apply below_alloc | apply pw_below_drewN | apply below_drew1 | refine below_set ?_ GE243.out) | exact HB.out)) hb)
                            have n3_ := Aside0.mk (hbox)
                            have n4_ := Aside0.mk ((by rw [hg]; exact (below_size (by repeat (first | (with_reducible first | exact HB.out | apply below_alloc | apply pw_below_drewN | apply below_drew1 | refine below_set ?_ GE243.out) | exact HB.out))) : w.heap.size ≤ gb251))
                            have n5_ := Aside0.mk ((by rw [hg]; exact (below_size (by repeat (first | (with_reducible first | exact HB.out | apply below_alloc | apply pw_below_drewN | apply below_drew1 | refine below_set ?_ GE243.out) | exact HB.out))) : w.heap.size ≤ gb251))
                            have n6_ := Aside0.mk ((by rw [hg]; exact Nat.ne_of_lt (blk_lt (g := gb243) (o := .cells #[.slice Ao20 x244000_1.length co20] 26 (0, 0)) (by (with_reducible repeat (first | refine blk_drewN ?_ _ | refine blk_drew ?_ | refine blk_alloc ?_ _)); exact BK243.out)) : gb243 ≠ gb251))
                            have n7_ := Aside0.mk ((by rw [hg]; exact Nat.ne_of_gt (blk_lt (g := gb243) (o := .cells #[.slice Ao20 x244000_1.length co20] 26 (0, 0)) (by (with_reducible repeat (first | refine blk_drewN ?_ _ | refine blk_drew ?_ | refine blk_alloc ?_ _)); exact BK243.out)) : gb251 ≠ gb243))
                            clear HO_244000
                            clear BK243
                            clear HB
                            have HO_244000 := n0_
                            have BK243 := n1_
                            have HB := n2_
                            have BK251 := n3_
                            have GW251 := n4_
                            have GE251 := n5_
                            have NB243_251 := n6_
                            have NB251_243 := n7_
                            clear n0_ n1_ n2_ n3_ n4_ n5_ n6_ n7_
                            clear hb hbox hg
                            refine hK.out _ _ ⟨(blk_cell BK243.out 0).trans rfl, ((HB.out.cell (World.block_lt_of_cell? w _ hw246_0)).trans hw246_0), ((HB.out.cell (World.block_lt_of_cell? w _ hw246_1)).trans hw246_1), ((HB.out.cell (World.block_lt_of_cell? w _ hw246_2)).trans hw246_2)⟩ (fun hHeld => ?_)
                            clear hK K
                            refine norm_ (a' := ?_) ?_ ?_
                            rotate_left
                            · show Act.put _ (some 10) _ = _
                              simp only [Act.put, List.setIfInBounds_toArray, List.set_cons_zero, List.set_cons_succ, i64_w, i32_w]
                              rfl
                            refine one_ (i := 7) (N := some 48) #[true, true, true, true, true, true, true, true, false, false, false, true, false, false] rfl rfl (one_of HT_.out (by kernel_rfl)) (by decide) (fun K hK => ?_)
                            refine goes_ Try.func8 (by kernel_rfl) rfl #[.agg #[.slice Ao20 x244000_1.length co20], .agg #[.int .i64 ((rd_T28 l0 x9_1).f0), .int .i64 ((rd_T28 l0 x9_1).f1), .int .i64 ((rd_T28 l0 x9_1).f2)], .int .i64 (wrap64 (x9_1 + 1))] (by rfl) rfl rfl (by (try simp only [List.map_toArray, List.map_cons, List.map_nil]); first | done | rfl | (simp only [List.length_drop, List.length_take]; rfl)) ?_
                            with_reducible refine (godwitlaw12_did.calls kj9 (fun k_ => (k_ ≠ gb243 ∧ k_ ≠ gb251)) _ _ x244000_1 ((rd_T28 l0 x9_1).f0) ((rd_T28 l0 x9_1).f1) ((rd_T28 l0 x9_1).f2) (wrap64 (x9_1 + 1)) t247 t250 _ ?side1 A16.out).mono ?_
                            (case side1 => exact HO_244000.out)
                            rintro e w23 ⟨v248, rfl, ho0, hb⟩
                            refine ⟨_, rfl, ?_⟩
                            have n0_ := Aside0.mk (Kd.V_below (by (with_reducible repeat (first | apply Kd.V_alloc | apply Kd.V_drewN | apply Kd.V_drew)); exact HO_244000.out) hb)
                            have n1_ := Aside0.mk (Kd.V_lower (Kd.V_mono (ok' := fun k_ => k_ ≠ gb243 ∧ k_ ≠ gb251) ho0 (fun k_ hk_ => ⟨Or.elim hk_ (fun hs_ => hs_.1) (fun hn_ => (Kd.freshB (g := gb243) (o := .cells #[.slice Ao20 x244000_1.length co20] 26 (0, 0)) (by (with_reducible repeat (first | refine blk_drewN ?_ _ | refine blk_drew ?_ | refine blk_alloc ?_ _)); exact BK243.out) k_ hn_)), Or.elim hk_ (fun hs_ => hs_.2) (fun hn_ => (Kd.freshB (g := gb251) (o := .cells #[.slice none 0 0] 26 (0, 0)) (by (with_reducible repeat (first | refine blk_drewN ?_ _ | refine blk_drew ?_ | refine blk_alloc ?_ _)); exact BK251.out) k_ hn_))⟩)) (below_size (by repeat (first | (with_reducible first | exact HB.out | apply below_alloc | apply pw_below_drewN | apply below_drew1 | refine below_set ?_ GE243.out | refine below_set ?_ GE251.out) | exact HB.out))))
                            have n2_ := Aside0.mk (blk_below (g := gb243) (o := .cells #[.slice Ao20 x244000_1.length co20] 26 (0, 0)) (by (with_reducible repeat (first | refine blk_drewN ?_ _ | refine blk_drew ?_ | refine blk_alloc ?_ _)); exact BK243.out) hb)
                            have n3_ := Aside0.mk (blk_below (g := gb251) (o := .cells #[.slice none 0 0] 26 (0, 0)) (by (with_reducible repeat (first | refine blk_drewN ?_ _ | refine blk_drew ?_ | refine blk_alloc ?_ _)); exact BK251.out) hb)
                            have n4_ := Aside0.mk (below_step (by repeat (first | (with_reducible first | exact HB.out | apply below_alloc | apply pw_below_drewN | apply below_drew1 | refine below_set ?_ GE243.out | refine below_set ?_ GE251.out) | exact HB.out)) hb)
                            clear HO_244000
                            clear BK243
                            clear BK251
                            clear HB
                            have HO_244000 := n0_
                            have HO249 := n1_
                            have BK243 := n2_
                            have BK251 := n3_
                            have HB := n4_
                            clear n0_ n1_ n2_ n3_ n4_
                            (try clear hb)
                            (try clear hb2)
                            (try clear hk)
                            (try clear hi)
                            (try clear ho0)
                            refine hK.out _ _ ⟨(blk_cell BK243.out 0).trans rfl, ((HB.out.cell (World.block_lt_of_cell? w _ hw246_0)).trans hw246_0), ((HB.out.cell (World.block_lt_of_cell? w _ hw246_1)).trans hw246_1), ((HB.out.cell (World.block_lt_of_cell? w _ hw246_2)).trans hw246_2)⟩ (fun hHeld => ?_)
                            clear hK K
                            refine norm_ (a' := ?_) ?_ ?_
                            rotate_left
                            · show Act.put _ (some 48) _ = _
                              simp only [Act.put, List.setIfInBounds_toArray, List.set_cons_zero, List.set_cons_succ, i64_w, i32_w]
                              rfl
                            refine pure_ (i := 8) (N := some 40) (v := ?_) (a' := ?_) #[true, true, true, true, true, true, true, true, true, false, false, true, false, false] rfl rfl (any_of HT_.out (by kernel_rfl)) (fun _ _ _ h => h) (Or.inl ⟨by rfl, ?_⟩) ?_ ?_
                            rotate_left
                            · intro w'
                              go_simp
                              with_reducible rfl
                            rotate_left
                            · simp only [Act.put, List.setIfInBounds_toArray, List.set_cons_zero, List.set_cons_succ, i64_w, i32_w]
                              rfl
                            refine pure_ (i := 9) (N := some 49) (v := ?_) (a' := ?_) #[true, true, true, true, true, true, true, true, true, true, false, true, false, false] rfl rfl (any_of HT_.out (by kernel_rfl)) (fun _ _ _ h => h) (Or.inl ⟨by rfl, ?_⟩) ?_ ?_
                            rotate_left
                            · intro w'
                              go_simp
                              with_reducible rfl
                            rotate_left
                            · simp only [Act.put, List.setIfInBounds_toArray, List.set_cons_zero, List.set_cons_succ, i64_w, i32_w]
                              rfl
                            refine pure_ (i := 10) (N := some 50) (v := ?_) (a' := ?_) #[true, true, true, true, true, true, true, true, true, true, true, true, false, false] rfl rfl (any_of HT_.out (by kernel_rfl)) (fun _ _ _ h => h) (Or.inl ⟨by rfl, ?_⟩) ?_ ?_
                            rotate_left
                            · intro w'
                              go_simp
                              with_reducible rfl
                            rotate_left
                            · simp only [Act.put, List.setIfInBounds_toArray, List.set_cons_zero, List.set_cons_succ, i64_w, i32_w]
                              rfl
                            exact norm_ (by simp only [putAll, Act.put, List.setIfInBounds_toArray, List.set_cons_zero, List.set_cons_succ]) (hCont (v248, gb251) _ ⟨hHeld, (by (with_reducible repeat (first | apply Kd.V_alloc | apply Kd.V_drewN | apply Kd.V_drew)); exact HO249.out), (by (with_reducible repeat (first | apply Kd.V_alloc | apply Kd.V_drewN | apply Kd.V_drew)); exact HO_244000.out), (by (with_reducible repeat (first | refine blk_drewN ?_ _ | refine blk_drew ?_ | refine blk_alloc ?_ _)); exact BK243.out), (by (with_reducible repeat (first | refine blk_drewN ?_ _ | refine blk_drew ?_ | refine blk_alloc ?_ _)); exact BK251.out), GW251.out, GE251.out, NB243_251.out, NB251_243.out, (by repeat (first | (with_reducible first | exact HB.out | apply below_alloc | apply pw_below_drewN | apply below_drew1 | refine below_set ?_ GE243.out | refine below_set ?_ GE251.out) | exact HB.out))⟩)
                        rintro ⟨v248, gb251⟩ w24 ⟨hS_, h0_, h1_, h2_, h3_, h4_, h5_, h6_, h7_, h8_⟩
                        have n0_ : Aside0 (Kd.V k33 33 w24 w.heap.size (fun k_ => k_ ≠ gb243 ∧ k_ ≠ gb251) v248 t247) := ⟨h0_⟩
                        have n1_ : Aside0 (Kd.V k33 33 w24 w.heap.size (fun k_ => k_ ≠ gb243 ∧ k_ ≠ gb251) (.slice Ao20 x244000_1.length co20) x244000_1) := ⟨h1_⟩
                        have n2_ : Aside0 (w24.heap[gb243]? = some (.cells #[.slice Ao20 x244000_1.length co20] 26 (0, 0))) := ⟨h2_⟩
                        have n3_ : Aside0 (w24.heap[gb251]? = some (.cells #[.slice none 0 0] 26 (0, 0))) := ⟨h3_⟩
                        have n4_ : Aside0 (w.heap.size ≤ gb251) := ⟨h4_⟩
                        have n5_ : Aside0 (w.heap.size ≤ gb251) := ⟨h5_⟩
                        have n6_ : Aside0 (gb243 ≠ gb251) := ⟨h6_⟩
                        have n7_ : Aside0 (gb251 ≠ gb243) := ⟨h7_⟩
                        have n8_ : Aside0 (Below w.heap.size w w24) := ⟨h8_⟩
                        clear HO_244000
                        clear BK243
                        clear HB
                        clear h0_ h1_ h2_ h3_ h4_ h5_ h6_ h7_ h8_
                        have HO249 := n0_
                        have HO_244000 := n1_
                        have BK243 := n2_
                        have BK251 := n3_
                        have GW251 := n4_
                        have GE251 := n5_
                        have NB243_251 := n6_
                        have NB251_243 := n7_
                        have HB := n8_
                        clear n0_ n1_ n2_ n3_ n4_ n5_ n6_ n7_ n8_
                        have hHeld : w24.cell? ⟨gb243, 0, none⟩ = some (.slice Ao20 x244000_1.length co20) ∧ w24.cell? (ad246.add ((x9_1).toNat * 3)) = some (.int .i64 ((rd_T28 l0 x9_1).f0)) ∧ w24.cell? ⟨(ad246.add ((x9_1).toNat * 3)).block, (ad246.add ((x9_1).toNat * 3)).off + 1, none⟩ = some (.int .i64 ((rd_T28 l0 x9_1).f1)) ∧ w24.cell? ⟨(ad246.add ((x9_1).toNat * 3)).block, (ad246.add ((x9_1).toNat * 3)).off + 2, none⟩ = some (.int .i64 ((rd_T28 l0 x9_1).f2)) := hS_
                        obtain ⟨Ao25, co25, eo25⟩ := Kd.V_slice HO249.out
                        (first | subst eo25 | (injection eo25 with f1_ f2_ f3_; have f4_ := f1_.symm; have f5_ := f3_.symm; clear f1_ f2_ f3_; subst f4_; subst f5_))
                        refine norm_ (a' := ?_) ?_ ?_
                        rotate_left
                        · simp only [putAll, Act.put, List.setIfInBounds_toArray, List.set_cons_zero, List.set_cons_succ]
                          rfl
                        refine one_ (i := 12) (N := none) #[true, true, true, true, true, true, true, true, true, true, true, true, true, false] rfl rfl (one_of HT_.out (by kernel_rfl)) (by decide) (fun K hK => ?_)
                        have hs26 : w24.cell? ⟨gb251, 0, none⟩ = some (.slice none 0 0) := (blk_cell BK251.out 0).trans rfl
                        have hfs26 := blk_frozen BK251.out 0
                        have hns26_0 := NB243_251.out
                        have hms26_0 := NB251_243.out
                        refine skip_ (w1 := ?_) (by rfl) rfl ?_ ?_
                        rotate_left
                        · go_simp
                          rfl
                        refine hK.out _ _ ⟨((cell_far (p := ⟨gb251, _, none⟩) NB243_251.out _).trans (hHeld.1)), ((cell_far (p := ⟨gb251, _, none⟩) (by first | exact Nat.ne_of_lt (Nat.lt_of_lt_of_le (by have := World.block_lt_of_cell? _ _ hw246_0; first | rwa [add_block] at this | exact this) GW251.out) | (rw [add_block]; exact Nat.ne_of_lt (Nat.lt_of_lt_of_le (by have := World.block_lt_of_cell? _ _ hw246_0; first | rwa [add_block] at this | exact this) GW251.out)) | (show (Addr.add _ _).block ≠ _; rw [add_block]; exact Nat.ne_of_lt (Nat.lt_of_lt_of_le (by have := World.block_lt_of_cell? _ _ hw246_0; first | rwa [add_block] at this | exact this) GW251.out)) | (dsimp only; exact Nat.ne_of_lt (Nat.lt_of_lt_of_le (by have := World.block_lt_of_cell? _ _ hw246_0; first | rwa [add_block] at this | exact this) GW251.out))) _).trans (hHeld.2.1)), ((cell_far (p := ⟨gb251, _, none⟩) (by first | exact Nat.ne_of_lt (Nat.lt_of_lt_of_le (by have := World.block_lt_of_cell? _ _ hw246_1; first | rwa [add_block] at this | exact this) GW251.out) | (rw [add_block]; exact Nat.ne_of_lt (Nat.lt_of_lt_of_le (by have := World.block_lt_of_cell? _ _ hw246_1; first | rwa [add_block] at this | exact this) GW251.out)) | (show (Addr.add _ _).block ≠ _; rw [add_block]; exact Nat.ne_of_lt (Nat.lt_of_lt_of_le (by have := World.block_lt_of_cell? _ _ hw246_1; first | rwa [add_block] at this | exact this) GW251.out)) | (dsimp only; exact Nat.ne_of_lt (Nat.lt_of_lt_of_le (by have := World.block_lt_of_cell? _ _ hw246_1; first | rwa [add_block] at this | exact this) GW251.out))) _).trans (hHeld.2.2.1)), ((cell_far (p := ⟨gb251, _, none⟩) (by first | exact Nat.ne_of_lt (Nat.lt_of_lt_of_le (by have := World.block_lt_of_cell? _ _ hw246_2; first | rwa [add_block] at this | exact this) GW251.out) | (rw [add_block]; exact Nat.ne_of_lt (Nat.lt_of_lt_of_le (by have := World.block_lt_of_cell? _ _ hw246_2; first | rwa [add_block] at this | exact this) GW251.out)) | (show (Addr.add _ _).block ≠ _; rw [add_block]; exact Nat.ne_of_lt (Nat.lt_of_lt_of_le (by have := World.block_lt_of_cell? _ _ hw246_2; first | rwa [add_block] at this | exact this) GW251.out)) | (dsimp only; exact Nat.ne_of_lt (Nat.lt_of_lt_of_le (by have := World.block_lt_of_cell? _ _ hw246_2; first | rwa [add_block] at this | exact this) GW251.out))) _).trans (hHeld.2.2.2))⟩ (fun hHeld => ?_)
                        clear hK K
                        refine pure_ (i := 13) (N := some 11) (v := ?_) (a' := ?_) #[true, true, true, true, true, true, true, true, true, true, true, true, true, true] rfl rfl (any_of HT_.out (by kernel_rfl)) (fun _ _ _ h => h) (Or.inl ⟨by rfl, ?_⟩) ?_ ?_
                        rotate_left
                        · intro w'
                          go_simp
                          with_reducible rfl
                        rotate_left
                        · simp only [Act.put, List.setIfInBounds_toArray, List.set_cons_zero, List.set_cons_succ, i64_w, i32_w]
                          rfl
                        refine done_ (done_of HT_.out (by kernel_rfl)) ?_
                        have hnb27 := NB251_243.out
                        have hnc27 := NB243_251.out
                        have hcz28_0 : w24.cell? ⟨gb251, 0, none⟩ = some (.slice none 0 0) := (blk_cell BK251.out 0).trans rfl
                        have hfz28_0 := blk_frozen BK251.out 0
                        have hcz29_0 : w24.cell? ⟨gb243, 0, none⟩ = some (.slice Ao20 x244000_1.length co20) := (blk_cell BK243.out 0).trans rfl
                        have hfz29_0 := blk_frozen BK243.out 0
                        have p252 : 0 ≤ (x9_1 : Int) := of_decide_eq_true (by first | (with_reducible assumption) | assumption)
                        have q252 : x9_1 < (l0.length : Int) := of_decide_eq_true (by first | (with_reducible assumption) | assumption)
                        obtain ⟨ad252, e252, hx252_0, hx252_1, hx252_2⟩ := at_T28 HR0.out x9_1 p252 q252
                        obtain rfl : ad246 = ad252 := (by injection e252)
                        have hn252_0 : ad246.block ≠ gb251 := Nat.ne_of_lt (Nat.lt_of_lt_of_le (by have := World.block_lt_of_cell? _ _ hx252_0; first | rwa [add_block] at this | exact this) GW251.out)
                        have hn252_1 : ad246.block ≠ gb243 := Nat.ne_of_lt (Nat.lt_of_lt_of_le (by have := World.block_lt_of_cell? _ _ hx252_0; first | rwa [add_block] at this | exact this) GW243.out)
                        replace hx252_0 := (HB.out.cell (World.block_lt_of_cell? w _ hx252_0)).trans hx252_0
                        replace hx252_1 := (HB.out.cell (World.block_lt_of_cell? w _ hx252_1)).trans hx252_1
                        replace hx252_2 := (HB.out.cell (World.block_lt_of_cell? w _ hx252_2)).trans hx252_2
                        replace hx252_0 := (cell_far (p := ⟨gb251, 0, none⟩) (by first | (rw [add_block]; exact hn252_0) | (show (Addr.add _ _).block ≠ _; rw [add_block]; exact hn252_0) | exact hn252_0) (.slice Ao25 t247.length co25)).trans hx252_0
                        replace hx252_1 := (cell_far (p := ⟨gb251, 0, none⟩) (by first | (rw [add_block]; exact hn252_0) | (show (Addr.add _ _).block ≠ _; rw [add_block]; exact hn252_0) | exact hn252_0) (.slice Ao25 t247.length co25)).trans hx252_1
                        replace hx252_2 := (cell_far (p := ⟨gb251, 0, none⟩) (by first | (rw [add_block]; exact hn252_0) | (show (Addr.add _ _).block ≠ _; rw [add_block]; exact hn252_0) | exact hn252_0) (.slice Ao25 t247.length co25)).trans hx252_2
                        replace hx252_0 := (cell_far (p := ⟨gb243, 0, none⟩) (by first | (rw [add_block]; exact hn252_1) | (show (Addr.add _ _).block ≠ _; rw [add_block]; exact hn252_1) | exact hn252_1) (.slice Ao25 t247.length co25)).trans hx252_0
                        replace hx252_1 := (cell_far (p := ⟨gb243, 0, none⟩) (by first | (rw [add_block]; exact hn252_1) | (show (Addr.add _ _).block ≠ _; rw [add_block]; exact hn252_1) | exact hn252_1) (.slice Ao25 t247.length co25)).trans hx252_1
                        replace hx252_2 := (cell_far (p := ⟨gb243, 0, none⟩) (by first | (rw [add_block]; exact hn252_1) | (show (Addr.add _ _).block ≠ _; rw [add_block]; exact hn252_1) | exact hn252_1) (.slice Ao25 t247.length co25)).trans hx252_2
                        clear hn252_0
                        clear hn252_1
                        replace p252 := eq_true p252
                        replace q252 := eq_true q252
                        have p253 : 0 ≤ (x9_1 : Int) := of_decide_eq_true (by first | (with_reducible assumption) | assumption)
                        have q253 : x9_1 < (l0.length : Int) := of_decide_eq_true (by first | (with_reducible assumption) | assumption)
                        obtain ⟨ad253, e253, hx253_0, hx253_1, hx253_2⟩ := at_T28 HR0.out x9_1 p253 q253
                        obtain rfl : ad246 = ad253 := (by injection e253)
                        have hn253_0 : ad246.block ≠ gb251 := Nat.ne_of_lt (Nat.lt_of_lt_of_le (by have := World.block_lt_of_cell? _ _ hx253_0; first | rwa [add_block] at this | exact this) GW251.out)
                        have hn253_1 : ad246.block ≠ gb243 := Nat.ne_of_lt (Nat.lt_of_lt_of_le (by have := World.block_lt_of_cell? _ _ hx253_0; first | rwa [add_block] at this | exact this) GW243.out)
                        replace hx253_0 := (HB.out.cell (World.block_lt_of_cell? w _ hx253_0)).trans hx253_0
                        replace hx253_1 := (HB.out.cell (World.block_lt_of_cell? w _ hx253_1)).trans hx253_1
                        replace hx253_2 := (HB.out.cell (World.block_lt_of_cell? w _ hx253_2)).trans hx253_2
                        replace hx253_0 := (cell_far (p := ⟨gb251, 0, none⟩) (by first | (rw [add_block]; exact hn253_0) | (show (Addr.add _ _).block ≠ _; rw [add_block]; exact hn253_0) | exact hn253_0) (.slice Ao25 t247.length co25)).trans hx253_0
                        replace hx253_1 := (cell_far (p := ⟨gb251, 0, none⟩) (by first | (rw [add_block]; exact hn253_0) | (show (Addr.add _ _).block ≠ _; rw [add_block]; exact hn253_0) | exact hn253_0) (.slice Ao25 t247.length co25)).trans hx253_1
                        replace hx253_2 := (cell_far (p := ⟨gb251, 0, none⟩) (by first | (rw [add_block]; exact hn253_0) | (show (Addr.add _ _).block ≠ _; rw [add_block]; exact hn253_0) | exact hn253_0) (.slice Ao25 t247.length co25)).trans hx253_2
                        replace hx253_0 := (cell_far (p := ⟨gb243, 0, none⟩) (by first | (rw [add_block]; exact hn253_1) | (show (Addr.add _ _).block ≠ _; rw [add_block]; exact hn253_1) | exact hn253_1) (.slice Ao25 t247.length co25)).trans hx253_0
                        replace hx253_1 := (cell_far (p := ⟨gb243, 0, none⟩) (by first | (rw [add_block]; exact hn253_1) | (show (Addr.add _ _).block ≠ _; rw [add_block]; exact hn253_1) | exact hn253_1) (.slice Ao25 t247.length co25)).trans hx253_1
                        replace hx253_2 := (cell_far (p := ⟨gb243, 0, none⟩) (by first | (rw [add_block]; exact hn253_1) | (show (Addr.add _ _).block ≠ _; rw [add_block]; exact hn253_1) | exact hn253_1) (.slice Ao25 t247.length co25)).trans hx253_2
                        clear hn253_0
                        clear hn253_1
                        replace p253 := eq_true p253
                        replace q253 := eq_true q253
                        go_upto_if 66 with (fail)
                        go_cut [66] (fun v66 wc => ∃ (kq : Nat) (x66_18 : Bool), v66 = .bool x66_18 ∧ Aside0 (godwitlaw12_TokensOnce.j2 kq l0 a1 t242 x7_1 x8_1 x9_1 ((rd_T28 l0 x9_1).f0) x66_18 t247 = some r) ∧ Aside0 (kq ≤ kj9) ∧ Aside0 (Kd.V k33 33 wc w.heap.size (fun k_ => k_ ≠ gb243 ∧ k_ ≠ gb251) (.slice Ao25 t247.length co25) t247) ∧ Aside0 (Kd.V k33 33 wc w.heap.size (fun k_ => k_ ≠ gb243 ∧ k_ ≠ gb251) (.slice Ao25 t247.length co25) t247) ∧ Aside0 (wc.heap[gb243]? = some (.cells #[(.slice Ao25 t247.length co25)] 26 (0, 0))) ∧ Aside0 (wc.heap[gb251]? = some (.cells #[(.slice Ao25 t247.length co25)] 26 (0, 0))) ∧ Aside0 (Below w.heap.size w wc))
                        case first =>
                          have H := HC19.out
                          clear HC19
                          by_cases c30 : ((rd_T28 l0 x9_1).f0) = 0
                          · rw [if_pos c30] at H
                            have c30b0 : (((rd_T28 l0 x9_1).f0) == 0) = true := beq_iff_eq.mpr c30
                            have c30b1 : (((rd_T28 l0 x9_1).f0) != 0) = false := bne_eq_false_iff_eq.mpr c30
                            clear c30
                            (first | rw [c30b0] | (simp only [i64_w, i32_w]; rw [c30b0]) | skip)
                            have H' := Aside0.mk H
                            clear H
                            go_wp2
                            go_meet
                            case rel => exact ⟨_, ((((rd_T28 l0 x9_1).f0) == 0)), (by first | rfl | (simp; done) | (simp [*]; done)), H', ⟨by have := HK1.out; have := HJ9.out; first | omega | exact Nat.le_refl _⟩, ⟨by (with_reducible repeat (first | apply Kd.V_alloc | apply Kd.V_drewN | apply Kd.V_drew)); exact Kd.V_mono (Kd.V_far (p := ⟨gb243, 0, none⟩) (Kd.V_far (p := ⟨gb251, 0, none⟩) (Kd.V_mono (Kd.V_mono HO249.out (fun k_ hk => (⟨hk, hk.2⟩ : _ ∧ k_ ≠ gb251))) (fun k_ hk => (⟨hk, hk.1.1⟩ : _ ∧ k_ ≠ gb243))) (fun _ hk => hk.1.2) (.slice Ao25 t247.length co25)) (fun _ hk => hk.2) (.slice Ao25 t247.length co25)) (fun _ hk => ⟨hk.1.1.1, hk.1.1.2⟩)⟩, ⟨by (with_reducible repeat (first | apply Kd.V_alloc | apply Kd.V_drewN | apply Kd.V_drew)); exact Kd.V_mono (Kd.V_far (p := ⟨gb243, 0, none⟩) (Kd.V_far (p := ⟨gb251, 0, none⟩) (Kd.V_mono (Kd.V_mono HO249.out (fun k_ hk => (⟨hk, hk.2⟩ : _ ∧ k_ ≠ gb251))) (fun k_ hk => (⟨hk, hk.1.1⟩ : _ ∧ k_ ≠ gb243))) (fun _ hk => hk.1.2) (.slice Ao25 t247.length co25)) (fun _ hk => hk.2) (.slice Ao25 t247.length co25)) (fun _ hk => ⟨hk.1.1.1, hk.1.1.2⟩)⟩, ⟨by (with_reducible repeat (first | refine blk_drewN ?_ _ | refine blk_drew ?_ | refine blk_alloc ?_ _)); refine blk_put (cs := #[.slice Ao20 x244000_1.length co20]) ?_ 0 _ rfl; (with_reducible repeat (first | refine blk_drewN ?_ _ | refine blk_drew ?_ | refine blk_alloc ?_ _)); refine blk_far ?_ NB243_251.out _; (with_reducible repeat (first | refine blk_drewN ?_ _ | refine blk_drew ?_ | refine blk_alloc ?_ _)); exact BK243.out⟩, ⟨by (with_reducible repeat (first | refine blk_drewN ?_ _ | refine blk_drew ?_ | refine blk_alloc ?_ _)); refine blk_far ?_ NB251_243.out _; (with_reducible repeat (first | refine blk_drewN ?_ _ | refine blk_drew ?_ | refine blk_alloc ?_ _)); refine blk_put (cs := #[.slice none 0 0]) ?_ 0 _ rfl; (with_reducible repeat (first | refine blk_drewN ?_ _ | refine blk_drew ?_ | refine blk_alloc ?_ _)); exact BK251.out⟩, ⟨by repeat (first | (with_reducible first | exact HB.out | apply below_alloc | apply pw_below_drewN | apply below_drew1 | refine below_set ?_ GE243.out | refine below_set ?_ GE251.out) | exact HB.out)⟩⟩
                          · rw [if_neg c30] at H
                            have c30b0 : (((rd_T28 l0 x9_1).f0) == 0) = false := beq_eq_false_iff_ne.mpr c30
                            have c30b1 : (((rd_T28 l0 x9_1).f0) != 0) = true := bne_iff_ne.mpr c30
                            (first | rw [c30b0] | (simp only [i64_w, i32_w]; rw [c30b0]) | skip)
                            have H' := Aside0.mk H
                            clear H
                            go_wp2
                            go_meet
                            case rel => exact ⟨_, ((((rd_T28 l0 x9_1).f0) == 1)), (by first | rfl | (simp; done) | (simp [*]; done)), H', ⟨by have := HK1.out; have := HJ9.out; first | omega | exact Nat.le_refl _⟩, ⟨by (with_reducible repeat (first | apply Kd.V_alloc | apply Kd.V_drewN | apply Kd.V_drew)); exact Kd.V_mono (Kd.V_far (p := ⟨gb243, 0, none⟩) (Kd.V_far (p := ⟨gb251, 0, none⟩) (Kd.V_mono (Kd.V_mono HO249.out (fun k_ hk => (⟨hk, hk.2⟩ : _ ∧ k_ ≠ gb251))) (fun k_ hk => (⟨hk, hk.1.1⟩ : _ ∧ k_ ≠ gb243))) (fun _ hk => hk.1.2) (.slice Ao25 t247.length co25)) (fun _ hk => hk.2) (.slice Ao25 t247.length co25)) (fun _ hk => ⟨hk.1.1.1, hk.1.1.2⟩)⟩, ⟨by (with_reducible repeat (first | apply Kd.V_alloc | apply Kd.V_drewN | apply Kd.V_drew)); exact Kd.V_mono (Kd.V_far (p := ⟨gb243, 0, none⟩) (Kd.V_far (p := ⟨gb251, 0, none⟩) (Kd.V_mono (Kd.V_mono HO249.out (fun k_ hk => (⟨hk, hk.2⟩ : _ ∧ k_ ≠ gb251))) (fun k_ hk => (⟨hk, hk.1.1⟩ : _ ∧ k_ ≠ gb243))) (fun _ hk => hk.1.2) (.slice Ao25 t247.length co25)) (fun _ hk => hk.2) (.slice Ao25 t247.length co25)) (fun _ hk => ⟨hk.1.1.1, hk.1.1.2⟩)⟩, ⟨by (with_reducible repeat (first | refine blk_drewN ?_ _ | refine blk_drew ?_ | refine blk_alloc ?_ _)); refine blk_put (cs := #[.slice Ao20 x244000_1.length co20]) ?_ 0 _ rfl; (with_reducible repeat (first | refine blk_drewN ?_ _ | refine blk_drew ?_ | refine blk_alloc ?_ _)); refine blk_far ?_ NB243_251.out _; (with_reducible repeat (first | refine blk_drewN ?_ _ | refine blk_drew ?_ | refine blk_alloc ?_ _)); exact BK243.out⟩, ⟨by (with_reducible repeat (first | refine blk_drewN ?_ _ | refine blk_drew ?_ | refine blk_alloc ?_ _)); refine blk_far ?_ NB251_243.out _; (with_reducible repeat (first | refine blk_drewN ?_ _ | refine blk_drew ?_ | refine blk_alloc ?_ _)); refine blk_put (cs := #[.slice none 0 0]) ?_ 0 _ rfl; (with_reducible repeat (first | refine blk_drewN ?_ _ | refine blk_drew ?_ | refine blk_alloc ?_ _)); exact BK251.out⟩, ⟨by repeat (first | (with_reducible first | exact HB.out | apply below_alloc | apply pw_below_drewN | apply below_drew1 | refine below_set ?_ GE243.out | refine below_set ?_ GE251.out) | exact HB.out)⟩⟩
                        case rest =>
                          clear HC19
                          try clear c1
                          try clear c2
                          try clear p2
                          try clear q2
                          try clear hx2
                          try clear c3
                          try clear c4
                          try clear c4b0
                          try clear c4b1
                          try clear p6
                          try clear c7
                          try clear c8
                          try clear c9
                          try clear c9b0
                          try clear c11
                          try clear c11b0
                          try clear c12
                          try clear c12b0
                          try clear c13
                          try clear c14
                          try clear c14b0
                          try clear c15
                          try clear c15b0
                          try clear c17
                          try clear c17b0
                          try clear c17b1
                          try clear c18
                          try clear c18b0
                          try clear c18b1
                          try clear p24
                          try clear q24
                          try clear hx24
                          try clear p25
                          try clear q25
                          try clear hx25
                          try clear c27
                          try clear c30
                          try clear c30b0
                          try clear c30b1
                          try clear hcz28_0
                          try clear hcz29_0
                          try clear hcz8_0
                          try clear hfz28_0
                          try clear hfz29_0
                          try clear hfz8_0
                          try clear hx244_0
                          try clear hx244_1
                          try clear hx244_2
                          try clear hx245_0
                          try clear hx245_1
                          try clear hx245_2
                          try clear hx246_0
                          try clear hx246_1
                          try clear hx246_2
                          try clear hx252_0
                          try clear hx252_1
                          try clear hx252_2
                          try clear hx253_0
                          try clear hx253_1
                          try clear hx253_2
                          try clear p2
                          try clear p244
                          try clear p245
                          try clear p246
                          try clear p252
                          try clear p253
                          try clear q2
                          try clear q244
                          try clear q245
                          try clear q246
                          try clear q252
                          try clear q253
                          obtain ⟨kq, x66_18, rfl, HA, HJ18, HO_244000, HO_252000, BK243, BK251, HB⟩ := hcut
                          cases kq with
                          | zero => exact absurd HA.out (by simp [godwitlaw12_TokensOnce.j2])
                          | succ kj18 =>
                            have H := HA.out
                            clear HA
                            simp only [godwitlaw12_TokensOnce.j2] at H
                            by_cases c31 : x66_18 = true
                            · subst c31
                              have H1 : (if 0 ≤ x9_1 then (if x9_1 < (l0.length : Int) then (if ((rd_T28 l0 x9_1).f2) ≤ x8_1 then (godwitlaw12_TokensOnce.j3 kj18 l0 a1 t242 x7_1 x9_1 true t247) else (godwitlaw12_TokensOnce.j3 kj18 l0 a1 t242 x7_1 x9_1 (decide (x7_1 > 0)) t247)) else (none)) else (none)) = some r := by rw [if_pos rfl] at H; exact H
                              clear H
                              have H := H1
                              clear H1
                              have HC32 := Aside0.mk H
                              clear H
                              go_upto_region 18 with (fail)
                              go_cut [79] (fun v79 wc => ∃ (kq : Nat) (x79_31 : Bool), v79 = .bool x79_31 ∧ Aside0 (godwitlaw12_TokensOnce.j3 kq l0 a1 t242 x7_1 x9_1 x79_31 t247 = some r) ∧ Aside0 (kq ≤ kj18) ∧ Aside0 (Kd.V k33 33 wc w.heap.size (fun k_ => k_ ≠ gb243 ∧ k_ ≠ gb251) (.slice Ao25 t247.length co25) t247) ∧ Aside0 (Kd.V k33 33 wc w.heap.size (fun k_ => k_ ≠ gb243 ∧ k_ ≠ gb251) (.slice Ao25 t247.length co25) t247) ∧ Aside0 (wc.heap[gb243]? = some (.cells #[(.slice Ao25 t247.length co25)] 26 (0, 0))) ∧ Aside0 (wc.heap[gb251]? = some (.cells #[(.slice Ao25 t247.length co25)] 26 (0, 0))) ∧ Aside0 (Below w.heap.size w wc))
                              case first =>
                                have H := HC32.out
                                clear HC32
                                by_cases c33 : 0 ≤ x9_1
                                · rw [if_pos c33] at H
                                  have c33b0 : decide (0 ≤ x9_1) = true := decide_eq_true c33
                                  clear c33
                                  (first | rw [c33b0] | (simp only [i64_w, i32_w]; rw [c33b0]) | skip)
                                  by_cases c34 : x9_1 < (l0.length : Int)
                                  · rw [if_pos c34] at H
                                    have c34b0 : decide (x9_1 < (l0.length : Int)) = true := decide_eq_true c34
                                    clear c34
                                    by_cases c35 : ((rd_T28 l0 x9_1).f2) ≤ x8_1
                                    · rw [if_pos c35] at H
                                      have c35b0 : decide (((rd_T28 l0 x9_1).f2) ≤ x8_1) = true := decide_eq_true c35
                                      clear c35
                                      have H' := Aside0.mk H
                                      clear H
                                      have p254 : 0 ≤ (x9_1 : Int) := of_decide_eq_true (by first | (with_reducible assumption) | assumption)
                                      have q254 : x9_1 < (l0.length : Int) := of_decide_eq_true (by first | (with_reducible assumption) | assumption)
                                      obtain ⟨ad254, e254, hx254_0, hx254_1, hx254_2⟩ := at_T28 HR0.out x9_1 p254 q254
                                      obtain rfl : ad246 = ad254 := (by injection e254)
                                      replace hx254_0 := (HB.out.cell (World.block_lt_of_cell? w _ hx254_0)).trans hx254_0
                                      replace hx254_1 := (HB.out.cell (World.block_lt_of_cell? w _ hx254_1)).trans hx254_1
                                      replace hx254_2 := (HB.out.cell (World.block_lt_of_cell? w _ hx254_2)).trans hx254_2
                                      replace p254 := eq_true p254
                                      replace q254 := eq_true q254
                                      go_wp2
                                      go_meet
                                      case rel => exact ⟨_, (true), (by first | rfl | (simp; done) | (simp [*]; done)), H', ⟨by have := HK1.out; have := HJ9.out; have := HJ18.out; first | omega | exact Nat.le_refl _⟩, ⟨by (with_reducible repeat (first | apply Kd.V_alloc | apply Kd.V_drewN | apply Kd.V_drew)); exact HO_244000.out⟩, ⟨by (with_reducible repeat (first | apply Kd.V_alloc | apply Kd.V_drewN | apply Kd.V_drew)); exact HO_252000.out⟩, ⟨by (with_reducible repeat (first | refine blk_drewN ?_ _ | refine blk_drew ?_ | refine blk_alloc ?_ _)); exact BK243.out⟩, ⟨by (with_reducible repeat (first | refine blk_drewN ?_ _ | refine blk_drew ?_ | refine blk_alloc ?_ _)); exact BK251.out⟩, ⟨by repeat (first | (with_reducible first | exact HB.out | apply below_alloc | apply pw_below_drewN | apply below_drew1 | refine below_set ?_ GE243.out | refine below_set ?_ GE251.out) | exact HB.out)⟩⟩
                                    · rw [if_neg c35] at H
                                      have c35b0 : decide (((rd_T28 l0 x9_1).f2) ≤ x8_1) = false := decide_eq_false c35
                                      clear c35
                                      have H' := Aside0.mk H
                                      clear H
                                      have p254 : 0 ≤ (x9_1 : Int) := of_decide_eq_true (by first | (with_reducible assumption) | assumption)
                                      have q254 : x9_1 < (l0.length : Int) := of_decide_eq_true (by first | (with_reducible assumption) | assumption)
                                      obtain ⟨ad254, e254, hx254_0, hx254_1, hx254_2⟩ := at_T28 HR0.out x9_1 p254 q254
                                      obtain rfl : ad246 = ad254 := (by injection e254)
                                      replace hx254_0 := (HB.out.cell (World.block_lt_of_cell? w _ hx254_0)).trans hx254_0
                                      replace hx254_1 := (HB.out.cell (World.block_lt_of_cell? w _ hx254_1)).trans hx254_1
                                      replace hx254_2 := (HB.out.cell (World.block_lt_of_cell? w _ hx254_2)).trans hx254_2
                                      replace p254 := eq_true p254
                                      replace q254 := eq_true q254
                                      go_wp2
                                      go_meet
                                      case rel => exact ⟨_, (decide (x7_1 > 0)), (by first | rfl | (simp; done) | (simp [*]; done)), H', ⟨by have := HK1.out; have := HJ9.out; have := HJ18.out; first | omega | exact Nat.le_refl _⟩, ⟨by (with_reducible repeat (first | apply Kd.V_alloc | apply Kd.V_drewN | apply Kd.V_drew)); exact HO_244000.out⟩, ⟨by (with_reducible repeat (first | apply Kd.V_alloc | apply Kd.V_drewN | apply Kd.V_drew)); exact HO_252000.out⟩, ⟨by (with_reducible repeat (first | refine blk_drewN ?_ _ | refine blk_drew ?_ | refine blk_alloc ?_ _)); exact BK243.out⟩, ⟨by (with_reducible repeat (first | refine blk_drewN ?_ _ | refine blk_drew ?_ | refine blk_alloc ?_ _)); exact BK251.out⟩, ⟨by repeat (first | (with_reducible first | exact HB.out | apply below_alloc | apply pw_below_drewN | apply below_drew1 | refine below_set ?_ GE243.out | refine below_set ?_ GE251.out) | exact HB.out)⟩⟩
                                  · rw [if_neg c34] at H
                                    exact absurd H (by simp)
                                · rw [if_neg c33] at H
                                  exact absurd H (by simp)
                              case rest =>
                                clear HC32
                                try clear c1
                                try clear c2
                                try clear p2
                                try clear q2
                                try clear hx2
                                try clear c3
                                try clear c4
                                try clear c4b0
                                try clear c4b1
                                try clear p6
                                try clear c7
                                try clear c8
                                try clear c9
                                try clear c9b0
                                try clear c11
                                try clear c11b0
                                try clear c12
                                try clear c12b0
                                try clear c13
                                try clear c14
                                try clear c14b0
                                try clear c15
                                try clear c15b0
                                try clear c17
                                try clear c17b0
                                try clear c17b1
                                try clear c18
                                try clear c18b0
                                try clear c18b1
                                try clear p24
                                try clear q24
                                try clear hx24
                                try clear p25
                                try clear q25
                                try clear hx25
                                try clear c27
                                try clear c30
                                try clear c30b0
                                try clear c30b1
                                try clear c31
                                try clear c33
                                try clear c33b0
                                try clear c34
                                try clear c34b0
                                try clear c35
                                try clear c35b0
                                try clear hcz28_0
                                try clear hcz29_0
                                try clear hcz8_0
                                try clear hfz28_0
                                try clear hfz29_0
                                try clear hfz8_0
                                try clear hx244_0
                                try clear hx244_1
                                try clear hx244_2
                                try clear hx245_0
                                try clear hx245_1
                                try clear hx245_2
                                try clear hx246_0
                                try clear hx246_1
                                try clear hx246_2
                                try clear hx252_0
                                try clear hx252_1
                                try clear hx252_2
                                try clear hx253_0
                                try clear hx253_1
                                try clear hx253_2
                                try clear hx254_0
                                try clear hx254_1
                                try clear hx254_2
                                try clear p2
                                try clear p24
                                try clear p244
                                try clear p245
                                try clear p246
                                try clear p25
                                try clear p252
                                try clear p253
                                try clear p254
                                try clear p6
                                try clear q2
                                try clear q24
                                try clear q244
                                try clear q245
                                try clear q246
                                try clear q25
                                try clear q252
                                try clear q253
                                try clear q254
                                obtain ⟨kq, x79_31, rfl, HA, HJ31, HO_244000, HO_252000, BK243, BK251, HB⟩ := hcut
                                cases kq with
                                | zero => exact absurd HA.out (by simp [godwitlaw12_TokensOnce.j3])
                                | succ kj31 =>
                                  have H := HA.out
                                  clear HA
                                  simp only [godwitlaw12_TokensOnce.j3] at H
                                  by_cases c36 : x79_31 = true
                                  · subst c36
                                    have H1 : (none) = some r := by rw [if_pos rfl] at H; exact H
                                    clear H
                                    have H := H1
                                    clear H1
                                    exact absurd H (by simp)
                                  · replace c36 := Bool.eq_false_iff.mpr c36
                                    subst c36
                                    have H1 : (if 0 ≤ x9_1 then (if x9_1 < (l0.length : Int) then (godwitlaw12_TokensOnce.l0 kj31 l0 a1 t242 x7_1 (wrap64 (((rd_T28 l0 x9_1).f2) - 1)) (wrap64 (x9_1 + 1)) t247) else (none)) else (none)) = some r := by rw [if_neg (show ¬ (false = true) by decide)] at H; exact H
                                    clear H
                                    have H := H1
                                    clear H1
                                    by_cases c37 : 0 ≤ x9_1
                                    · rw [if_pos c37] at H
                                      have c37b0 : decide (0 ≤ x9_1) = true := decide_eq_true c37
                                      clear c37
                                      by_cases c38 : x9_1 < (l0.length : Int)
                                      · rw [if_pos c38] at H
                                        have c38b0 : decide (x9_1 < (l0.length : Int)) = true := decide_eq_true c38
                                        clear c38
                                        have H' := Aside0.mk H
                                        clear H
                                        have p255 : 0 ≤ (x9_1 : Int) := of_decide_eq_true (by first | (with_reducible assumption) | assumption)
                                        have q255 : x9_1 < (l0.length : Int) := of_decide_eq_true (by first | (with_reducible assumption) | assumption)
                                        obtain ⟨ad255, e255, hx255_0, hx255_1, hx255_2⟩ := at_T28 HR0.out x9_1 p255 q255
                                        obtain rfl : ad246 = ad255 := (by injection e255)
                                        replace hx255_0 := (HB.out.cell (World.block_lt_of_cell? w _ hx255_0)).trans hx255_0
                                        replace hx255_1 := (HB.out.cell (World.block_lt_of_cell? w _ hx255_1)).trans hx255_1
                                        replace hx255_2 := (HB.out.cell (World.block_lt_of_cell? w _ hx255_2)).trans hx255_2
                                        replace p255 := eq_true p255
                                        replace q255 := eq_true q255
                                        go_wp2
                                        go_roundg kj31
                                        case measure => have := HK1.out; have := HJ9.out; have := HJ18.out; have := HJ31.out; omega
                                        case rel => exact ⟨(x7_1), (wrap64 (((rd_T28 l0 x9_1).f2) - 1)), (wrap64 (x9_1 + 1)), (t247), (.slice Ao25 t247.length co25), (by first | rfl | (simp; done) | (simp [*]; done)), (by first | rfl | (simp; done) | (simp [*]; done)), (by first | rfl | (simp; done) | (simp [*]; done)), H', ⟨by have := HK1.out; have := HJ9.out; have := HJ18.out; have := HJ31.out; omega⟩, ⟨by (with_reducible repeat (first | apply Kd.V_alloc | apply Kd.V_drewN | apply Kd.V_drew)); exact Kd.V_mono HO_244000.out (fun _ hk => hk.1)⟩, ⟨by (with_reducible repeat (first | refine blk_drewN ?_ _ | refine blk_drew ?_ | refine blk_alloc ?_ _)); exact BK243.out⟩, ⟨by repeat (first | (with_reducible first | exact HB.out | apply below_alloc | apply pw_below_drewN | apply below_drew1 | refine below_set ?_ GE243.out | refine below_set ?_ GE251.out) | exact HB.out)⟩⟩
                                      · rw [if_neg c38] at H
                                        exact absurd H (by simp)
                                    · rw [if_neg c37] at H
                                      exact absurd H (by simp)
                            · replace c31 := Bool.eq_false_iff.mpr c31
                              subst c31
                              have H1 : (if ((rd_T28 l0 x9_1).f0) = 2 then (godwitlaw12_TokensOnce.j4 kj18 l0 a1 t242 x7_1 x8_1 x9_1 ((rd_T28 l0 x9_1).f0) (((rd_T28 l0 x9_1).f0) == 2) t247) else (godwitlaw12_TokensOnce.j4 kj18 l0 a1 t242 x7_1 x8_1 x9_1 ((rd_T28 l0 x9_1).f0) (((rd_T28 l0 x9_1).f0) == 3) t247)) = some r := by rw [if_neg (show ¬ (false = true) by decide)] at H; exact H
                              clear H
                              have H := H1
                              clear H1
                              have HC39 := Aside0.mk H
                              clear H
                              go_upto_if 86 with (fail)
                              go_cut [86] (fun v86 wc => ∃ (kq : Nat) (x86_38 : Bool), v86 = .bool x86_38 ∧ Aside0 (godwitlaw12_TokensOnce.j4 kq l0 a1 t242 x7_1 x8_1 x9_1 ((rd_T28 l0 x9_1).f0) x86_38 t247 = some r) ∧ Aside0 (kq ≤ kj18) ∧ Aside0 (Kd.V k33 33 wc w.heap.size (fun k_ => k_ ≠ gb243 ∧ k_ ≠ gb251) (.slice Ao25 t247.length co25) t247) ∧ Aside0 (Kd.V k33 33 wc w.heap.size (fun k_ => k_ ≠ gb243 ∧ k_ ≠ gb251) (.slice Ao25 t247.length co25) t247) ∧ Aside0 (wc.heap[gb243]? = some (.cells #[(.slice Ao25 t247.length co25)] 26 (0, 0))) ∧ Aside0 (wc.heap[gb251]? = some (.cells #[(.slice Ao25 t247.length co25)] 26 (0, 0))) ∧ Aside0 (Below w.heap.size w wc))
                              case first =>
                                have H := HC39.out
                                clear HC39
                                by_cases c40 : ((rd_T28 l0 x9_1).f0) = 2
                                · rw [if_pos c40] at H
                                  have c40b0 : (((rd_T28 l0 x9_1).f0) == 2) = true := beq_iff_eq.mpr c40
                                  have c40b1 : (((rd_T28 l0 x9_1).f0) != 2) = false := bne_eq_false_iff_eq.mpr c40
                                  clear c40
                                  (first | rw [c40b0] | (simp only [i64_w, i32_w]; rw [c40b0]) | skip)
                                  have H' := Aside0.mk H
                                  clear H
                                  go_wp2
                                  go_meet
                                  case rel => exact ⟨_, ((((rd_T28 l0 x9_1).f0) == 2)), (by first | rfl | (simp; done) | (simp [*]; done)), H', ⟨by have := HK1.out; have := HJ9.out; have := HJ18.out; first | omega | exact Nat.le_refl _⟩, ⟨by (with_reducible repeat (first | apply Kd.V_alloc | apply Kd.V_drewN | apply Kd.V_drew)); exact HO_244000.out⟩, ⟨by (with_reducible repeat (first | apply Kd.V_alloc | apply Kd.V_drewN | apply Kd.V_drew)); exact HO_252000.out⟩, ⟨by (with_reducible repeat (first | refine blk_drewN ?_ _ | refine blk_drew ?_ | refine blk_alloc ?_ _)); exact BK243.out⟩, ⟨by (with_reducible repeat (first | refine blk_drewN ?_ _ | refine blk_drew ?_ | refine blk_alloc ?_ _)); exact BK251.out⟩, ⟨by repeat (first | (with_reducible first | exact HB.out | apply below_alloc | apply pw_below_drewN | apply below_drew1 | refine below_set ?_ GE243.out | refine below_set ?_ GE251.out) | exact HB.out)⟩⟩
                                · rw [if_neg c40] at H
                                  have c40b0 : (((rd_T28 l0 x9_1).f0) == 2) = false := beq_eq_false_iff_ne.mpr c40
                                  have c40b1 : (((rd_T28 l0 x9_1).f0) != 2) = true := bne_iff_ne.mpr c40
                                  (first | rw [c40b0] | (simp only [i64_w, i32_w]; rw [c40b0]) | skip)
                                  have H' := Aside0.mk H
                                  clear H
                                  go_wp2
                                  go_meet
                                  case rel => exact ⟨_, ((((rd_T28 l0 x9_1).f0) == 3)), (by first | rfl | (simp; done) | (simp [*]; done)), H', ⟨by have := HK1.out; have := HJ9.out; have := HJ18.out; first | omega | exact Nat.le_refl _⟩, ⟨by (with_reducible repeat (first | apply Kd.V_alloc | apply Kd.V_drewN | apply Kd.V_drew)); exact HO_244000.out⟩, ⟨by (with_reducible repeat (first | apply Kd.V_alloc | apply Kd.V_drewN | apply Kd.V_drew)); exact HO_252000.out⟩, ⟨by (with_reducible repeat (first | refine blk_drewN ?_ _ | refine blk_drew ?_ | refine blk_alloc ?_ _)); exact BK243.out⟩, ⟨by (with_reducible repeat (first | refine blk_drewN ?_ _ | refine blk_drew ?_ | refine blk_alloc ?_ _)); exact BK251.out⟩, ⟨by repeat (first | (with_reducible first | exact HB.out | apply below_alloc | apply pw_below_drewN | apply below_drew1 | refine below_set ?_ GE243.out | refine below_set ?_ GE251.out) | exact HB.out)⟩⟩
                              case rest =>
                                clear HC39
                                try clear c1
                                try clear c2
                                try clear p2
                                try clear q2
                                try clear hx2
                                try clear c3
                                try clear c4
                                try clear c4b0
                                try clear c4b1
                                try clear p6
                                try clear c7
                                try clear c8
                                try clear c9
                                try clear c9b0
                                try clear c11
                                try clear c11b0
                                try clear c12
                                try clear c12b0
                                try clear c13
                                try clear c14
                                try clear c14b0
                                try clear c15
                                try clear c15b0
                                try clear c17
                                try clear c17b0
                                try clear c17b1
                                try clear c18
                                try clear c18b0
                                try clear c18b1
                                try clear p24
                                try clear q24
                                try clear hx24
                                try clear p25
                                try clear q25
                                try clear hx25
                                try clear c27
                                try clear c30
                                try clear c30b0
                                try clear c30b1
                                try clear c31
                                try clear c33
                                try clear c33b0
                                try clear c34
                                try clear c34b0
                                try clear c35
                                try clear c35b0
                                try clear c36
                                try clear c37
                                try clear c37b0
                                try clear c38
                                try clear c38b0
                                try clear c40
                                try clear c40b0
                                try clear c40b1
                                try clear hcz28_0
                                try clear hcz29_0
                                try clear hcz8_0
                                try clear hfz28_0
                                try clear hfz29_0
                                try clear hfz8_0
                                try clear hx244_0
                                try clear hx244_1
                                try clear hx244_2
                                try clear hx245_0
                                try clear hx245_1
                                try clear hx245_2
                                try clear hx246_0
                                try clear hx246_1
                                try clear hx246_2
                                try clear hx252_0
                                try clear hx252_1
                                try clear hx252_2
                                try clear hx253_0
                                try clear hx253_1
                                try clear hx253_2
                                try clear hx254_0
                                try clear hx254_1
                                try clear hx254_2
                                try clear hx255_0
                                try clear hx255_1
                                try clear hx255_2
                                try clear p2
                                try clear p24
                                try clear p244
                                try clear p245
                                try clear p246
                                try clear p25
                                try clear p252
                                try clear p253
                                try clear p254
                                try clear p255
                                try clear p6
                                try clear q2
                                try clear q24
                                try clear q244
                                try clear q245
                                try clear q246
                                try clear q25
                                try clear q252
                                try clear q253
                                try clear q254
                                try clear q255
                                obtain ⟨kq, x86_38, rfl, HA, HJ38, HO_244000, HO_252000, BK243, BK251, HB⟩ := hcut
                                cases kq with
                                | zero => exact absurd HA.out (by simp [godwitlaw12_TokensOnce.j4])
                                | succ kj38 =>
                                  have H := HA.out
                                  clear HA
                                  simp only [godwitlaw12_TokensOnce.j4] at H
                                  by_cases c41 : x86_38 = true
                                  · subst c41
                                    have H1 : (if 0 ≤ x9_1 then (if x9_1 < (l0.length : Int) then (if ((rd_T28 l0 x9_1).f2) ≤ x8_1 then (none) else (godwitlaw12_TokensOnce.l0 kj38 l0 a1 t242 (wrap64 (x7_1 + 1)) x8_1 (wrap64 (x9_1 + 1)) t247)) else (none)) else (none)) = some r := by rw [if_pos rfl] at H; exact H
                                    clear H
                                    have H := H1
                                    clear H1
                                    by_cases c42 : 0 ≤ x9_1
                                    · rw [if_pos c42] at H
                                      have c42b0 : decide (0 ≤ x9_1) = true := decide_eq_true c42
                                      clear c42
                                      by_cases c43 : x9_1 < (l0.length : Int)
                                      · rw [if_pos c43] at H
                                        have c43b0 : decide (x9_1 < (l0.length : Int)) = true := decide_eq_true c43
                                        clear c43
                                        by_cases c44 : ((rd_T28 l0 x9_1).f2) ≤ x8_1
                                        · rw [if_pos c44] at H
                                          exact absurd H (by simp)
                                        · rw [if_neg c44] at H
                                          have c44b0 : decide (((rd_T28 l0 x9_1).f2) ≤ x8_1) = false := decide_eq_false c44
                                          clear c44
                                          have H' := Aside0.mk H
                                          clear H
                                          have p256 : 0 ≤ (x9_1 : Int) := of_decide_eq_true (by first | (with_reducible assumption) | assumption)
                                          have q256 : x9_1 < (l0.length : Int) := of_decide_eq_true (by first | (with_reducible assumption) | assumption)
                                          obtain ⟨ad256, e256, hx256_0, hx256_1, hx256_2⟩ := at_T28 HR0.out x9_1 p256 q256
                                          obtain rfl : ad246 = ad256 := (by injection e256)
                                          replace hx256_0 := (HB.out.cell (World.block_lt_of_cell? w _ hx256_0)).trans hx256_0
                                          replace hx256_1 := (HB.out.cell (World.block_lt_of_cell? w _ hx256_1)).trans hx256_1
                                          replace hx256_2 := (HB.out.cell (World.block_lt_of_cell? w _ hx256_2)).trans hx256_2
                                          replace p256 := eq_true p256
                                          replace q256 := eq_true q256
                                          go_wp2
                                          go_roundg kj38
                                          case measure => have := HK1.out; have := HJ9.out; have := HJ18.out; have := HJ38.out; omega
                                          case rel => exact ⟨(wrap64 (x7_1 + 1)), (x8_1), (wrap64 (x9_1 + 1)), (t247), (.slice Ao25 t247.length co25), (by first | rfl | (simp; done) | (simp [*]; done)), (by first | rfl | (simp; done) | (simp [*]; done)), (by first | rfl | (simp; done) | (simp [*]; done)), H', ⟨by have := HK1.out; have := HJ9.out; have := HJ18.out; have := HJ38.out; omega⟩, ⟨by (with_reducible repeat (first | apply Kd.V_alloc | apply Kd.V_drewN | apply Kd.V_drew)); exact Kd.V_mono HO_244000.out (fun _ hk => hk.1)⟩, ⟨by (with_reducible repeat (first | refine blk_drewN ?_ _ | refine blk_drew ?_ | refine blk_alloc ?_ _)); exact BK243.out⟩, ⟨by repeat (first | (with_reducible first | exact HB.out | apply below_alloc | apply pw_below_drewN | apply below_drew1 | refine below_set ?_ GE243.out | refine below_set ?_ GE251.out) | exact HB.out)⟩⟩
                                      · rw [if_neg c43] at H
                                        exact absurd H (by simp)
                                    · rw [if_neg c42] at H
                                      exact absurd H (by simp)
                                  · replace c41 := Bool.eq_false_iff.mpr c41
                                    subst c41
                                    have H1 : (if ((rd_T28 l0 x9_1).f0) = 4 then (if 0 ≤ x9_1 then (if x9_1 < (l0.length : Int) then (godwitlaw12_TokensOnce.l0 kj38 l0 a1 t242 x7_1 (mx x8_1 ((rd_T28 l0 x9_1).f2)) (wrap64 (x9_1 + 1)) t247) else (none)) else (none)) else (godwitlaw12_TokensOnce.l0 kj38 l0 a1 t242 x7_1 x8_1 (wrap64 (x9_1 + 1)) t247)) = some r := by rw [if_neg (show ¬ (false = true) by decide)] at H; exact H
                                    clear H
                                    have H := H1
                                    clear H1
                                    by_cases c45 : ((rd_T28 l0 x9_1).f0) = 4
                                    · rw [if_pos c45] at H
                                      have c45b0 : (((rd_T28 l0 x9_1).f0) == 4) = true := beq_iff_eq.mpr c45
                                      have c45b1 : (((rd_T28 l0 x9_1).f0) != 4) = false := bne_eq_false_iff_eq.mpr c45
                                      clear c45
                                      by_cases c46 : 0 ≤ x9_1
                                      · rw [if_pos c46] at H
                                        have c46b0 : decide (0 ≤ x9_1) = true := decide_eq_true c46
                                        clear c46
                                        by_cases c47 : x9_1 < (l0.length : Int)
                                        · rw [if_pos c47] at H
                                          have c47b0 : decide (x9_1 < (l0.length : Int)) = true := decide_eq_true c47
                                          clear c47
                                          obtain ⟨ji48, hji48⟩ : ∃ j_ : Int, (mx x8_1 ((rd_T28 l0 x9_1).f2)) = j_ := ⟨_, rfl⟩
                                          replace H : (godwitlaw12_TokensOnce.l0 kj38 l0 a1 t242 x7_1 ji48 (wrap64 (x9_1 + 1)) t247) = some r := by first | (rw [hji48] at H; exact H) | (simp only [hji48] at H ⊢; exact H)
                                          have hji48_ : (if x8_1 < ((rd_T28 l0 x9_1).f2) then ((rd_T28 l0 x9_1).f2) else x8_1) = ji48 := hji48
                                          have H' := Aside0.mk H
                                          clear H
                                          have p257 : 0 ≤ (x9_1 : Int) := of_decide_eq_true (by first | (with_reducible assumption) | assumption)
                                          have q257 : x9_1 < (l0.length : Int) := of_decide_eq_true (by first | (with_reducible assumption) | assumption)
                                          obtain ⟨ad257, e257, hx257_0, hx257_1, hx257_2⟩ := at_T28 HR0.out x9_1 p257 q257
                                          obtain rfl : ad246 = ad257 := (by injection e257)
                                          replace hx257_0 := (HB.out.cell (World.block_lt_of_cell? w _ hx257_0)).trans hx257_0
                                          replace hx257_1 := (HB.out.cell (World.block_lt_of_cell? w _ hx257_1)).trans hx257_1
                                          replace hx257_2 := (HB.out.cell (World.block_lt_of_cell? w _ hx257_2)).trans hx257_2
                                          replace p257 := eq_true p257
                                          replace q257 := eq_true q257
                                          go_wp2
                                          go_roundg kj38
                                          case measure => have := HK1.out; have := HJ9.out; have := HJ18.out; have := HJ38.out; omega
                                          case rel => exact ⟨(x7_1), (ji48), (wrap64 (x9_1 + 1)), (t247), (.slice Ao25 t247.length co25), (by first | rfl | (simp; done) | (simp [*]; done)), (by first | rfl | (simp; done) | (simp only [← hji48] <;> (first | rfl | simp)) | (simp [*]; done)), (by first | rfl | (simp; done) | (simp [*]; done)), H', ⟨by have := HK1.out; have := HJ9.out; have := HJ18.out; have := HJ38.out; omega⟩, ⟨by (with_reducible repeat (first | apply Kd.V_alloc | apply Kd.V_drewN | apply Kd.V_drew)); exact Kd.V_mono HO_244000.out (fun _ hk => hk.1)⟩, ⟨by (with_reducible repeat (first | refine blk_drewN ?_ _ | refine blk_drew ?_ | refine blk_alloc ?_ _)); exact BK243.out⟩, ⟨by repeat (first | (with_reducible first | exact HB.out | apply below_alloc | apply pw_below_drewN | apply below_drew1 | refine below_set ?_ GE243.out | refine below_set ?_ GE251.out) | exact HB.out)⟩⟩
                                        · rw [if_neg c47] at H
                                          exact absurd H (by simp)
                                      · rw [if_neg c46] at H
                                        exact absurd H (by simp)
                                    · rw [if_neg c45] at H
                                      have c45b0 : (((rd_T28 l0 x9_1).f0) == 4) = false := beq_eq_false_iff_ne.mpr c45
                                      have c45b1 : (((rd_T28 l0 x9_1).f0) != 4) = true := bne_iff_ne.mpr c45
                                      have H' := Aside0.mk H
                                      clear H
                                      go_wp2
                                      go_roundg kj38
                                      case measure => have := HK1.out; have := HJ9.out; have := HJ18.out; have := HJ38.out; omega
                                      case rel => exact ⟨(x7_1), (x8_1), (wrap64 (x9_1 + 1)), (t247), (.slice Ao25 t247.length co25), (by first | rfl | (simp; done) | (simp [*]; done)), (by first | rfl | (simp; done) | (simp [*]; done)), (by first | rfl | (simp; done) | (simp [*]; done)), H', ⟨by have := HK1.out; have := HJ9.out; have := HJ18.out; have := HJ38.out; omega⟩, ⟨by (with_reducible repeat (first | apply Kd.V_alloc | apply Kd.V_drewN | apply Kd.V_drew)); exact Kd.V_mono HO_244000.out (fun _ hk => hk.1)⟩, ⟨by (with_reducible repeat (first | refine blk_drewN ?_ _ | refine blk_drew ?_ | refine blk_alloc ?_ _)); exact BK243.out⟩, ⟨by repeat (first | (with_reducible first | exact HB.out | apply below_alloc | apply pw_below_drewN | apply below_drew1 | refine below_set ?_ GE243.out | refine below_set ?_ GE251.out) | exact HB.out)⟩⟩
                      · rw [if_neg c18] at H
                        have c18b0 : (((rd_T28 l0 x9_1).f1) == a1) = false := beq_eq_false_iff_ne.mpr c18
                        have c18b1 : (((rd_T28 l0 x9_1).f1) != a1) = true := bne_iff_ne.mpr c18
                        have H' := Aside0.mk H
                        clear H
                        obtain ⟨Ao49, co49, eo49⟩ := Kd.V_slice HO_244000.out
                        subst eo49
                        try go_wp2
                        have n0_ := Aside0.mk (Kd.V_drew HO_244000.out)
                        have n1_ := Aside0.mk (blk_drew BK243.out)
                        have n2_ := Aside0.mk (below_drew1 HB.out)
                        clear HO_244000
                        clear BK243
                        clear HB
                        have HO_244000 := n0_
                        have BK243 := n1_
                        have HB := n2_
                        clear n0_ n1_ n2_
                        have p246 : 0 ≤ (x9_1 : Int) := of_decide_eq_true (by first | (with_reducible assumption) | assumption)
                        have q246 : x9_1 < (l0.length : Int) := of_decide_eq_true (by first | (with_reducible assumption) | assumption)
                        obtain ⟨ad246, e246, hx246_0, hx246_1, hx246_2⟩ := at_T28 HR0.out x9_1 p246 q246
                        have hw246_2 := hx246_2
                        have hw246_1 := hx246_1
                        have hw246_0 := hx246_0
                        cases e246
                        replace hx246_0 := (HB.out.cell (World.block_lt_of_cell? w _ hx246_0)).trans hx246_0
                        replace hx246_1 := (HB.out.cell (World.block_lt_of_cell? w _ hx246_1)).trans hx246_1
                        replace hx246_2 := (HB.out.cell (World.block_lt_of_cell? w _ hx246_2)).trans hx246_2
                        replace p246 := eq_true p246
                        replace q246 := eq_true q246
                        refine start_ (n := 14) (S := fun w' => w'.cell? ⟨gb243, 0, none⟩ = some (.slice Ao49 x244000_1.length co49) ∧ w'.cell? (ad246.add ((x9_1).toNat * 3)) = some (.int .i64 ((rd_T28 l0 x9_1).f0)) ∧ w'.cell? ⟨(ad246.add ((x9_1).toNat * 3)).block, (ad246.add ((x9_1).toNat * 3)).off + 1, none⟩ = some (.int .i64 ((rd_T28 l0 x9_1).f1)) ∧ w'.cell? ⟨(ad246.add ((x9_1).toNat * 3)).block, (ad246.add ((x9_1).toNat * 3)).off + 2, none⟩ = some (.int .i64 ((rd_T28 l0 x9_1).f2))) (ds := []) #[false, false, false, false, false, false, false, false, false, false, false, false, false, false] (by kernel_rfl) rfl rfl ⟨(blk_cell BK243.out 0).trans rfl, ((HB.out.cell (World.block_lt_of_cell? w _ hw246_0)).trans hw246_0), ((HB.out.cell (World.block_lt_of_cell? w _ hw246_1)).trans hw246_1), ((HB.out.cell (World.block_lt_of_cell? w _ hw246_2)).trans hw246_2)⟩ (fun hHeld => ?_); refine with_tabW godwitlaw12_TokensOnce.tab11 godwitlaw12_TokensOnce.bits11 (fun HT_ HW_ => ?_)
                        generalize wc.drew = w50 at HO_244000 BK243 HB hx246_0 hx246_1 hx246_2 hHeld ⊢
                        refine pure_ (i := 1) (N := some 42) (v := ?_) (a' := ?_) #[false, true, false, false, false, false, false, false, false, false, false, false, false, false] rfl rfl (any_of HT_.out (by kernel_rfl)) (fun _ _ _ h => h) (Or.inl ⟨by rfl, ?_⟩) ?_ ?_
                        rotate_left
                        · intro w'
                          go_simp
                          with_reducible rfl
                        rotate_left
                        · simp only [Act.put, List.setIfInBounds_toArray, List.set_cons_zero, List.set_cons_succ, i64_w, i32_w]
                          rfl
                        refine pure_ (i := 2) (N := some 43) (v := ?_) (a' := ?_) #[false, true, true, false, false, false, false, false, false, false, false, false, false, false] rfl rfl (any_of HT_.out (by kernel_rfl)) (fun _ _ _ h => h) (Or.inl ⟨by rfl, ?_⟩) ?_ ?_
                        rotate_left
                        · intro w'
                          go_simp
                          with_reducible rfl
                        rotate_left
                        · simp only [Act.put, List.setIfInBounds_toArray, List.set_cons_zero, List.set_cons_succ, i64_w, i32_w]
                          rfl
                        refine pure_ (i := 3) (N := some 44) (v := ?_) (a' := ?_) #[false, true, true, true, false, false, false, false, false, false, false, false, false, false] rfl rfl (any_of HT_.out (by kernel_rfl)) (fun _ _ _ h => h) (Or.inl ⟨by rfl, ?_⟩) ?_ ?_
                        rotate_left
                        · intro w'
                          go_simp
                          with_reducible rfl
                        rotate_left
                        · simp only [Act.put, List.setIfInBounds_toArray, List.set_cons_zero, List.set_cons_succ, i64_w, i32_w]
                          rfl
                        refine pure_ (i := 5) (N := some 46) (v := ?_) (a' := ?_) #[false, true, true, true, false, true, false, false, false, false, false, false, false, false] rfl rfl (any_of HT_.out (by kernel_rfl)) (fun _ _ _ h => h) (Or.inl ⟨by rfl, ?_⟩) ?_ ?_
                        rotate_left
                        · intro w'
                          go_simp
                          with_reducible rfl
                        rotate_left
                        · simp only [Act.put, List.setIfInBounds_toArray, List.set_cons_zero, List.set_cons_succ, i64_w, i32_w]
                          rfl
                        refine pure_ (i := 6) (N := some 47) (v := ?_) (a' := ?_) #[false, true, true, true, false, true, true, false, false, false, false, false, false, false] rfl rfl (any_of HT_.out (by kernel_rfl)) (fun _ _ _ h => h) (Or.inl ⟨by rfl, ?_⟩) ?_ ?_
                        rotate_left
                        · intro w'
                          go_simp
                          with_reducible rfl
                        rotate_left
                        · simp only [Act.put, List.setIfInBounds_toArray, List.set_cons_zero, List.set_cons_succ, i64_w, i32_w]
                          rfl
                        refine take_ (i := 0) (N := some 41) (v := ?_) (a' := ?_) #[true, true, true, true, false, true, true, false, false, false, false, false, false, false] rfl rfl (take_ofW HT_.out HW_.out (by kernel_rfl)) (fun _ _ _ h => h) (Or.inl ⟨by rfl, ?_⟩) hHeld ?_ ?_
                        rotate_left
                        · rintro w' ⟨s0, s1, s2, s3⟩
                          go_simp
                          with_reducible rfl
                        rotate_left
                        · simp only [Act.put, List.setIfInBounds_toArray, List.set_cons_zero, List.set_cons_succ, i64_w, i32_w]
                          rfl
                        refine take_ (i := 4) (N := some 45) (v := ?_) (a' := ?_) #[true, true, true, true, true, true, true, false, false, false, false, false, false, false] rfl rfl (take_ofW HT_.out HW_.out (by kernel_rfl)) (fun _ _ _ h => h) (Or.inl ⟨by rfl, ?_⟩) hHeld ?_ ?_
                        rotate_left
                        · rintro w' ⟨s0, s1, s2, s3⟩
                          go_simp
                          with_reducible rfl
                        rotate_left
                        · simp only [Act.put, List.setIfInBounds_toArray, List.set_cons_zero, List.set_cons_succ, i64_w, i32_w]
                          rfl
                        refine join_ (σ := Value × Nat) 2 #[true, true, true, true, true, true, true, true, true, true, true, true, false, false] (fun s_ => [(48, .tuple #[.agg #[s_.1], .int .i64 t250]), (10, .pointer (some ⟨s_.2, 0, none⟩)), (40, .tuple #[.agg #[s_.1], .int .i64 t250]), (49, .agg #[s_.1]), (50, .int .i64 t250)]) (fun s_ w' => (w'.cell? ⟨gb243, 0, none⟩ = some (.slice Ao49 x244000_1.length co49) ∧ w'.cell? (ad246.add ((x9_1).toNat * 3)) = some (.int .i64 ((rd_T28 l0 x9_1).f0)) ∧ w'.cell? ⟨(ad246.add ((x9_1).toNat * 3)).block, (ad246.add ((x9_1).toNat * 3)).off + 1, none⟩ = some (.int .i64 ((rd_T28 l0 x9_1).f1)) ∧ w'.cell? ⟨(ad246.add ((x9_1).toNat * 3)).block, (ad246.add ((x9_1).toNat * 3)).off + 2, none⟩ = some (.int .i64 ((rd_T28 l0 x9_1).f2))) ∧ (Kd.V k33 33 w' w.heap.size (fun k_ => k_ ≠ gb243 ∧ k_ ≠ s_.2) s_.1 t247) ∧ (Kd.V k33 33 w' w.heap.size (fun k_ => k_ ≠ gb243 ∧ k_ ≠ s_.2) (.slice Ao49 x244000_1.length co49) x244000_1) ∧ (w'.heap[gb243]? = some (.cells #[.slice Ao49 x244000_1.length co49] 26 (0, 0))) ∧ (w'.heap[s_.2]? = some (.cells #[.slice none 0 0] 26 (0, 0))) ∧ (w.heap.size ≤ s_.2) ∧ (w.heap.size ≤ s_.2) ∧ (gb243 ≠ s_.2) ∧ (s_.2 ≠ gb243) ∧ (Below w.heap.size w w')) ?_ ?_
                        rotate_left
                        · intro hCont
                          refine two_ (i := 7) (j := 11) (Ni := some 48) (Nj := some 10) #[true, true, true, true, true, true, true, true, false, false, false, false, false, false] #[true, true, true, true, true, true, true, false, false, false, false, true, false, false] rfl rfl rfl rfl (two_of HT_.out (by kernel_rfl)) (by decide) (by decide) (fun K hK => ?_) (fun K hK => ?_)
                          · skip
                            refine goes_ Try.func8 (by kernel_rfl) rfl #[.agg #[.slice Ao49 x244000_1.length co49], .agg #[.int .i64 ((rd_T28 l0 x9_1).f0), .int .i64 ((rd_T28 l0 x9_1).f1), .int .i64 ((rd_T28 l0 x9_1).f2)], .int .i64 (wrap64 (x9_1 + 1))] (by rfl) rfl rfl (by (try simp only [List.map_toArray, List.map_cons, List.map_nil]); first | done | rfl | (simp only [List.length_drop, List.length_take]; rfl)) ?_
                            with_reducible refine (godwitlaw12_did.calls kj9 (fun k_ => k_ ≠ gb243) _ _ x244000_1 ((rd_T28 l0 x9_1).f0) ((rd_T28 l0 x9_1).f1) ((rd_T28 l0 x9_1).f2) (wrap64 (x9_1 + 1)) t247 t250 _ ?side1 A16.out).mono ?_
                            (case side1 => exact HO_244000.out)
                            rintro e w51 ⟨v248, rfl, ho0, hb⟩
                            refine ⟨_, rfl, ?_⟩
                            have n0_ := Aside0.mk (Kd.V_below (by (with_reducible repeat (first | apply Kd.V_alloc | apply Kd.V_drewN | apply Kd.V_drew)); exact HO_244000.out) hb)
                            have n1_ := Aside0.mk (Kd.V_lower (Kd.V_mono (ok' := fun k_ => k_ ≠ gb243) ho0 (fun k_ hk_ => Or.elim hk_ (fun hs_ => hs_) (fun hn_ => (Kd.freshB (g := gb243) (o := .cells #[.slice Ao49 x244000_1.length co49] 26 (0, 0)) (by (with_reducible repeat (first | refine blk_drewN ?_ _ | refine blk_drew ?_ | refine blk_alloc ?_ _)); exact BK243.out) k_ hn_)))) (below_size (by repeat (first | (with_reducible first | exact HB.out | apply below_alloc | apply pw_below_drewN | apply below_drew1 | refine below_set ?_ GE243.out) | exact HB.out))))
                            have n2_ := Aside0.mk (blk_below (g := gb243) (o := .cells #[.slice Ao49 x244000_1.length co49] 26 (0, 0)) (by (with_reducible repeat (first | refine blk_drewN ?_ _ | refine blk_drew ?_ | refine blk_alloc ?_ _)); exact BK243.out) hb)
                            have n3_ := Aside0.mk (below_step (by repeat (first | (with_reducible first | exact HB.out | apply below_alloc | apply pw_below_drewN | apply below_drew1 | refine below_set ?_ GE243.out) | exact HB.out)) hb)
                            clear HO_244000
                            clear BK243
                            clear HB
                            have HO_244000 := n0_
                            have HO249 := n1_
                            have BK243 := n2_
                            have HB := n3_
                            clear n0_ n1_ n2_ n3_
                            (try clear hb)
                            (try clear hb2)
                            (try clear hk)
                            (try clear hi)
                            (try clear ho0)
                            refine hK.out _ _ ⟨(blk_cell BK243.out 0).trans rfl, ((HB.out.cell (World.block_lt_of_cell? w _ hw246_0)).trans hw246_0), ((HB.out.cell (World.block_lt_of_cell? w _ hw246_1)).trans hw246_1), ((HB.out.cell (World.block_lt_of_cell? w _ hw246_2)).trans hw246_2)⟩ (fun hHeld => ?_)
                            clear hK K
                            refine norm_ (a' := ?_) ?_ ?_
                            rotate_left
                            · show Act.put _ (some 48) _ = _
                              simp only [Act.put, List.setIfInBounds_toArray, List.set_cons_zero, List.set_cons_succ, i64_w, i32_w]
                              rfl
                            refine pure_ (i := 8) (N := some 40) (v := ?_) (a' := ?_) #[true, true, true, true, true, true, true, true, true, false, false, false, false, false] rfl rfl (any_of HT_.out (by kernel_rfl)) (fun _ _ _ h => h) (Or.inl ⟨by rfl, ?_⟩) ?_ ?_
                            rotate_left
                            · intro w'
                              go_simp
                              with_reducible rfl
                            rotate_left
                            · simp only [Act.put, List.setIfInBounds_toArray, List.set_cons_zero, List.set_cons_succ, i64_w, i32_w]
                              rfl
                            refine pure_ (i := 9) (N := some 49) (v := ?_) (a' := ?_) #[true, true, true, true, true, true, true, true, true, true, false, false, false, false] rfl rfl (any_of HT_.out (by kernel_rfl)) (fun _ _ _ h => h) (Or.inl ⟨by rfl, ?_⟩) ?_ ?_
                            rotate_left
                            · intro w'
                              go_simp
                              with_reducible rfl
                            rotate_left
                            · simp only [Act.put, List.setIfInBounds_toArray, List.set_cons_zero, List.set_cons_succ, i64_w, i32_w]
                              rfl
                            refine pure_ (i := 10) (N := some 50) (v := ?_) (a' := ?_) #[true, true, true, true, true, true, true, true, true, true, true, false, false, false] rfl rfl (any_of HT_.out (by kernel_rfl)) (fun _ _ _ h => h) (Or.inl ⟨by rfl, ?_⟩) ?_ ?_
                            rotate_left
                            · intro w'
                              go_simp
                              with_reducible rfl
                            rotate_left
                            · simp only [Act.put, List.setIfInBounds_toArray, List.set_cons_zero, List.set_cons_succ, i64_w, i32_w]
                              rfl
                            refine one_ (i := 11) (N := some 10) #[true, true, true, true, true, true, true, true, true, true, true, true, false, false] rfl rfl (one_of HT_.out (by kernel_rfl)) (by decide) (fun K hK => ?_)
                            refine box_step ?hg (N := 10) ?hd (cs := #[.slice none 0 0]) (t := 26) ?hr ?_; (case hd => rfl); (case hg => rfl); (case hr => first | (go_simp; done) | (go_simp; rfl))
                            intro gb251 hg w52 hbox hb
                            have n0_ := Aside0.mk (Kd.V_below (Kd.V_elderB (by (with_reducible repeat (first | apply Kd.V_alloc | apply Kd.V_drewN | apply Kd.V_drew)); exact HO_244000.out) gb251 (Nat.le_of_eq hg.symm)) hb)
                            have n1_ := Aside0.mk (Kd.V_below (Kd.V_elderB (by (with_reducible repeat (first | apply Kd.V_alloc | apply Kd.V_drewN | apply Kd.V_drew)); exact HO249.out) gb251 (Nat.le_of_eq hg.symm)) hb)
                            have n2_ := Aside0.mk (blk_below (g := gb243) (o := .cells #[.slice Ao49 x244000_1.length co49] 26 (0, 0)) (by (with_reducible repeat (first | refine blk_drewN ?_ _ | refine blk_drew ?_ | refine blk_alloc ?_ _)); exact BK243.out) hb)
                            have n3_ := Aside0.mk (below_step (by repeat (first | (with_reducible first | exact HB.out | apply below_alloc | apply pw_below_drewN | apply below_drew1 | refine below_set ?_ GE243.out) | exact HB.out)) hb)
                            have n4_ := Aside0.mk (hbox)
                            have n5_ := Aside0.mk ((by rw [hg]; exact (below_size (by repeat (first | (with_reducible first | exact HB.out | apply below_alloc | apply pw_below_drewN | apply below_drew1 | refine below_set ?_ GE243.out) | exact HB.out))) : w.heap.size ≤ gb251))
                            have n6_ := Aside0.mk ((by rw [hg]; exact (below_size (by repeat (first | (with_reducible first | exact HB.out | apply below_alloc | apply pw_below_drewN | apply below_drew1 | refine below_set ?_ GE243.out) | exact HB.out))) : w.heap.size ≤ gb251))
                            have n7_ := Aside0.mk ((by rw [hg]; exact Nat.ne_of_lt (blk_lt (g := gb243) (o := .cells #[.slice Ao49 x244000_1.length co49] 26 (0, 0)) (by (with_reducible repeat (first | refine blk_drewN ?_ _ | refine blk_drew ?_ | refine blk_alloc ?_ _)); exact BK243.out)) : gb243 ≠ gb251))
                            have n8_ := Aside0.mk ((by rw [hg]; exact Nat.ne_of_gt (blk_lt (g := gb243) (o := .cells #[.slice Ao49 x244000_1.length co49] 26 (0, 0)) (by (with_reducible repeat (first | refine blk_drewN ?_ _ | refine blk_drew ?_ | refine blk_alloc ?_ _)); exact BK243.out)) : gb251 ≠ gb243))
                            clear HO_244000
                            clear HO249
                            clear BK243
                            clear HB
                            have HO_244000 := n0_
                            have HO249 := n1_
                            have BK243 := n2_
                            have HB := n3_
                            have BK251 := n4_
                            have GW251 := n5_
                            have GE251 := n6_
                            have NB243_251 := n7_
                            have NB251_243 := n8_
                            clear n0_ n1_ n2_ n3_ n4_ n5_ n6_ n7_ n8_
                            clear hb hbox hg
                            refine hK.out _ _ ⟨(blk_cell BK243.out 0).trans rfl, ((HB.out.cell (World.block_lt_of_cell? w _ hw246_0)).trans hw246_0), ((HB.out.cell (World.block_lt_of_cell? w _ hw246_1)).trans hw246_1), ((HB.out.cell (World.block_lt_of_cell? w _ hw246_2)).trans hw246_2)⟩ (fun hHeld => ?_)
                            clear hK K
                            refine norm_ (a' := ?_) ?_ ?_
                            rotate_left
                            · show Act.put _ (some 10) _ = _
                              simp only [Act.put, List.setIfInBounds_toArray, List.set_cons_zero, List.set_cons_succ, i64_w, i32_w]
                              rfl
                            exact norm_ (by simp only [putAll, Act.put, List.setIfInBounds_toArray, List.set_cons_zero, List.set_cons_succ]) (hCont (v248, gb251) _ ⟨hHeld, (by (with_reducible repeat (first | apply Kd.V_alloc | apply Kd.V_drewN | apply Kd.V_drew)); exact HO249.out), (by (with_reducible repeat (first | apply Kd.V_alloc | apply Kd.V_drewN | apply Kd.V_drew)); exact HO_244000.out), (by (with_reducible repeat (first | refine blk_drewN ?_ _ | refine blk_drew ?_ | refine blk_alloc ?_ _)); exact BK243.out), (by (with_reducible repeat (first | refine blk_drewN ?_ _ | refine blk_drew ?_ | refine blk_alloc ?_ _)); exact BK251.out), GW251.out, GE251.out, NB243_251.out, NB251_243.out, (by repeat (first | (with_reducible first | exact HB.out | apply below_alloc | apply pw_below_drewN | apply below_drew1 | refine below_set ?_ GE243.out | refine below_set ?_ GE251.out) | exact HB.out))⟩)
                          · skip
                            refine box_step ?hg (N := 10) ?hd (cs := #[.slice none 0 0]) (t := 26) ?hr ?_; (case hd => rfl); (case hg => rfl); (case hr => first | (go_simp; done) | (go_simp; rfl))
                            intro gb251 hg w51 hbox hb
                            have n0_ := Aside0.mk (Kd.V_below (Kd.V_elderB (by (with_reducible repeat (first | apply Kd.V_alloc | apply Kd.V_drewN | apply Kd.V_drew)); exact HO_244000.out) gb251 (Nat.le_of_eq hg.symm)) hb)
                            have n1_ := Aside0.mk (blk_below (g := gb243) (o := .cells #[.slice Ao49 x244000_1.length co49] 26 (0, 0)) (by (with_reducible repeat (first | refine blk_drewN ?_ _ | refine blk_drew ?_ | refine blk_alloc ?_ _)); exact BK243.out) hb)
                            have n2_ := Aside0.mk (below_step (by repeat (first | (with_reducible first | exact HB.out | apply below_alloc | apply pw_below_drewN | apply below_drew1 | refine below_set ?_ GE243.out) | exact HB.out)) hb)
                            have n3_ := Aside0.mk (hbox)
                            have n4_ := Aside0.mk ((by rw [hg]; exact (below_size (by repeat (first | (with_reducible first | exact HB.out | apply below_alloc | apply pw_below_drewN | apply below_drew1 | refine below_set ?_ GE243.out) | exact HB.out))) : w.heap.size ≤ gb251))
                            have n5_ := Aside0.mk ((by rw [hg]; exact (below_size (by repeat (first | (with_reducible first | exact HB.out | apply below_alloc | apply pw_below_drewN | apply below_drew1 | refine below_set ?_ GE243.out) | exact HB.out))) : w.heap.size ≤ gb251))
                            have n6_ := Aside0.mk ((by rw [hg]; exact Nat.ne_of_lt (blk_lt (g := gb243) (o := .cells #[.slice Ao49 x244000_1.length co49] 26 (0, 0)) (by (with_reducible repeat (first | refine blk_drewN ?_ _ | refine blk_drew ?_ | refine blk_alloc ?_ _)); exact BK243.out)) : gb243 ≠ gb251))
                            have n7_ := Aside0.mk ((by rw [hg]; exact Nat.ne_of_gt (blk_lt (g := gb243) (o := .cells #[.slice Ao49 x244000_1.length co49] 26 (0, 0)) (by (with_reducible repeat (first | refine blk_drewN ?_ _ | refine blk_drew ?_ | refine blk_alloc ?_ _)); exact BK243.out)) : gb251 ≠ gb243))
                            clear HO_244000
                            clear BK243
                            clear HB
                            have HO_244000 := n0_
                            have BK243 := n1_
                            have HB := n2_
                            have BK251 := n3_
                            have GW251 := n4_
                            have GE251 := n5_
                            have NB243_251 := n6_
                            have NB251_243 := n7_
                            clear n0_ n1_ n2_ n3_ n4_ n5_ n6_ n7_
                            clear hb hbox hg
                            refine hK.out _ _ ⟨(blk_cell BK243.out 0).trans rfl, ((HB.out.cell (World.block_lt_of_cell? w _ hw246_0)).trans hw246_0), ((HB.out.cell (World.block_lt_of_cell? w _ hw246_1)).trans hw246_1), ((HB.out.cell (World.block_lt_of_cell? w _ hw246_2)).trans hw246_2)⟩ (fun hHeld => ?_)
                            clear hK K
                            refine norm_ (a' := ?_) ?_ ?_
                            rotate_left
                            · show Act.put _ (some 10) _ = _
                              simp only [Act.put, List.setIfInBounds_toArray, List.set_cons_zero, List.set_cons_succ, i64_w, i32_w]
                              rfl
                            refine one_ (i := 7) (N := some 48) #[true, true, true, true, true, true, true, true, false, false, false, true, false, false] rfl rfl (one_of HT_.out (by kernel_rfl)) (by decide) (fun K hK => ?_)
                            refine goes_ Try.func8 (by kernel_rfl) rfl #[.agg #[.slice Ao49 x244000_1.length co49], .agg #[.int .i64 ((rd_T28 l0 x9_1).f0), .int .i64 ((rd_T28 l0 x9_1).f1), .int .i64 ((rd_T28 l0 x9_1).f2)], .int .i64 (wrap64 (x9_1 + 1))] (by rfl) rfl rfl (by (try simp only [List.map_toArray, List.map_cons, List.map_nil]); first | done | rfl | (simp only [List.length_drop, List.length_take]; rfl)) ?_
                            with_reducible refine (godwitlaw12_did.calls kj9 (fun k_ => (k_ ≠ gb243 ∧ k_ ≠ gb251)) _ _ x244000_1 ((rd_T28 l0 x9_1).f0) ((rd_T28 l0 x9_1).f1) ((rd_T28 l0 x9_1).f2) (wrap64 (x9_1 + 1)) t247 t250 _ ?side1 A16.out).mono ?_
                            (case side1 => exact HO_244000.out)
                            rintro e w52 ⟨v248, rfl, ho0, hb⟩
                            refine ⟨_, rfl, ?_⟩
                            have n0_ := Aside0.mk (Kd.V_below (by (with_reducible repeat (first | apply Kd.V_alloc | apply Kd.V_drewN | apply Kd.V_drew)); exact HO_244000.out) hb)
                            have n1_ := Aside0.mk (Kd.V_lower (Kd.V_mono (ok' := fun k_ => k_ ≠ gb243 ∧ k_ ≠ gb251) ho0 (fun k_ hk_ => ⟨Or.elim hk_ (fun hs_ => hs_.1) (fun hn_ => (Kd.freshB (g := gb243) (o := .cells #[.slice Ao49 x244000_1.length co49] 26 (0, 0)) (by (with_reducible repeat (first | refine blk_drewN ?_ _ | refine blk_drew ?_ | refine blk_alloc ?_ _)); exact BK243.out) k_ hn_)), Or.elim hk_ (fun hs_ => hs_.2) (fun hn_ => (Kd.freshB (g := gb251) (o := .cells #[.slice none 0 0] 26 (0, 0)) (by (with_reducible repeat (first | refine blk_drewN ?_ _ | refine blk_drew ?_ | refine blk_alloc ?_ _)); exact BK251.out) k_ hn_))⟩)) (below_size (by repeat (first | (with_reducible first | exact HB.out | apply below_alloc | apply pw_below_drewN | apply below_drew1 | refine below_set ?_ GE243.out | refine below_set ?_ GE251.out) | exact HB.out))))
                            have n2_ := Aside0.mk (blk_below (g := gb243) (o := .cells #[.slice Ao49 x244000_1.length co49] 26 (0, 0)) (by (with_reducible repeat (first | refine blk_drewN ?_ _ | refine blk_drew ?_ | refine blk_alloc ?_ _)); exact BK243.out) hb)
                            have n3_ := Aside0.mk (blk_below (g := gb251) (o := .cells #[.slice none 0 0] 26 (0, 0)) (by (with_reducible repeat (first | refine blk_drewN ?_ _ | refine blk_drew ?_ | refine blk_alloc ?_ _)); exact BK251.out) hb)
                            have n4_ := Aside0.mk (below_step (by repeat (first | (with_reducible first | exact HB.out | apply below_alloc | apply pw_below_drewN | apply below_drew1 | refine below_set ?_ GE243.out | refine below_set ?_ GE251.out) | exact HB.out)) hb)
                            clear HO_244000
                            clear BK243
                            clear BK251
                            clear HB
                            have HO_244000 := n0_
                            have HO249 := n1_
                            have BK243 := n2_
                            have BK251 := n3_
                            have HB := n4_
                            clear n0_ n1_ n2_ n3_ n4_
                            (try clear hb)
                            (try clear hb2)
                            (try clear hk)
                            (try clear hi)
                            (try clear ho0)
                            refine hK.out _ _ ⟨(blk_cell BK243.out 0).trans rfl, ((HB.out.cell (World.block_lt_of_cell? w _ hw246_0)).trans hw246_0), ((HB.out.cell (World.block_lt_of_cell? w _ hw246_1)).trans hw246_1), ((HB.out.cell (World.block_lt_of_cell? w _ hw246_2)).trans hw246_2)⟩ (fun hHeld => ?_)
                            clear hK K
                            refine norm_ (a' := ?_) ?_ ?_
                            rotate_left
                            · show Act.put _ (some 48) _ = _
                              simp only [Act.put, List.setIfInBounds_toArray, List.set_cons_zero, List.set_cons_succ, i64_w, i32_w]
                              rfl
                            refine pure_ (i := 8) (N := some 40) (v := ?_) (a' := ?_) #[true, true, true, true, true, true, true, true, true, false, false, true, false, false] rfl rfl (any_of HT_.out (by kernel_rfl)) (fun _ _ _ h => h) (Or.inl ⟨by rfl, ?_⟩) ?_ ?_
                            rotate_left
                            · intro w'
                              go_simp
                              with_reducible rfl
                            rotate_left
                            · simp only [Act.put, List.setIfInBounds_toArray, List.set_cons_zero, List.set_cons_succ, i64_w, i32_w]
                              rfl
                            refine pure_ (i := 9) (N := some 49) (v := ?_) (a' := ?_) #[true, true, true, true, true, true, true, true, true, true, false, true, false, false] rfl rfl (any_of HT_.out (by kernel_rfl)) (fun _ _ _ h => h) (Or.inl ⟨by rfl, ?_⟩) ?_ ?_
                            rotate_left
                            · intro w'
                              go_simp
                              with_reducible rfl
                            rotate_left
                            · simp only [Act.put, List.setIfInBounds_toArray, List.set_cons_zero, List.set_cons_succ, i64_w, i32_w]
                              rfl
                            refine pure_ (i := 10) (N := some 50) (v := ?_) (a' := ?_) #[true, true, true, true, true, true, true, true, true, true, true, true, false, false] rfl rfl (any_of HT_.out (by kernel_rfl)) (fun _ _ _ h => h) (Or.inl ⟨by rfl, ?_⟩) ?_ ?_
                            rotate_left
                            · intro w'
                              go_simp
                              with_reducible rfl
                            rotate_left
                            · simp only [Act.put, List.setIfInBounds_toArray, List.set_cons_zero, List.set_cons_succ, i64_w, i32_w]
                              rfl
                            exact norm_ (by simp only [putAll, Act.put, List.setIfInBounds_toArray, List.set_cons_zero, List.set_cons_succ]) (hCont (v248, gb251) _ ⟨hHeld, (by (with_reducible repeat (first | apply Kd.V_alloc | apply Kd.V_drewN | apply Kd.V_drew)); exact HO249.out), (by (with_reducible repeat (first | apply Kd.V_alloc | apply Kd.V_drewN | apply Kd.V_drew)); exact HO_244000.out), (by (with_reducible repeat (first | refine blk_drewN ?_ _ | refine blk_drew ?_ | refine blk_alloc ?_ _)); exact BK243.out), (by (with_reducible repeat (first | refine blk_drewN ?_ _ | refine blk_drew ?_ | refine blk_alloc ?_ _)); exact BK251.out), GW251.out, GE251.out, NB243_251.out, NB251_243.out, (by repeat (first | (with_reducible first | exact HB.out | apply below_alloc | apply pw_below_drewN | apply below_drew1 | refine below_set ?_ GE243.out | refine below_set ?_ GE251.out) | exact HB.out))⟩)
                        rintro ⟨v248, gb251⟩ w53 ⟨hS_, h0_, h1_, h2_, h3_, h4_, h5_, h6_, h7_, h8_⟩
                        have n0_ : Aside0 (Kd.V k33 33 w53 w.heap.size (fun k_ => k_ ≠ gb243 ∧ k_ ≠ gb251) v248 t247) := ⟨h0_⟩
                        have n1_ : Aside0 (Kd.V k33 33 w53 w.heap.size (fun k_ => k_ ≠ gb243 ∧ k_ ≠ gb251) (.slice Ao49 x244000_1.length co49) x244000_1) := ⟨h1_⟩
                        have n2_ : Aside0 (w53.heap[gb243]? = some (.cells #[.slice Ao49 x244000_1.length co49] 26 (0, 0))) := ⟨h2_⟩
                        have n3_ : Aside0 (w53.heap[gb251]? = some (.cells #[.slice none 0 0] 26 (0, 0))) := ⟨h3_⟩
                        have n4_ : Aside0 (w.heap.size ≤ gb251) := ⟨h4_⟩
                        have n5_ : Aside0 (w.heap.size ≤ gb251) := ⟨h5_⟩
                        have n6_ : Aside0 (gb243 ≠ gb251) := ⟨h6_⟩
                        have n7_ : Aside0 (gb251 ≠ gb243) := ⟨h7_⟩
                        have n8_ : Aside0 (Below w.heap.size w w53) := ⟨h8_⟩
                        clear HO_244000
                        clear BK243
                        clear HB
                        clear h0_ h1_ h2_ h3_ h4_ h5_ h6_ h7_ h8_
                        have HO249 := n0_
                        have HO_244000 := n1_
                        have BK243 := n2_
                        have BK251 := n3_
                        have GW251 := n4_
                        have GE251 := n5_
                        have NB243_251 := n6_
                        have NB251_243 := n7_
                        have HB := n8_
                        clear n0_ n1_ n2_ n3_ n4_ n5_ n6_ n7_ n8_
                        have hHeld : w53.cell? ⟨gb243, 0, none⟩ = some (.slice Ao49 x244000_1.length co49) ∧ w53.cell? (ad246.add ((x9_1).toNat * 3)) = some (.int .i64 ((rd_T28 l0 x9_1).f0)) ∧ w53.cell? ⟨(ad246.add ((x9_1).toNat * 3)).block, (ad246.add ((x9_1).toNat * 3)).off + 1, none⟩ = some (.int .i64 ((rd_T28 l0 x9_1).f1)) ∧ w53.cell? ⟨(ad246.add ((x9_1).toNat * 3)).block, (ad246.add ((x9_1).toNat * 3)).off + 2, none⟩ = some (.int .i64 ((rd_T28 l0 x9_1).f2)) := hS_
                        obtain ⟨Ao54, co54, eo54⟩ := Kd.V_slice HO249.out
                        (first | subst eo54 | (injection eo54 with f1_ f2_ f3_; have f4_ := f1_.symm; have f5_ := f3_.symm; clear f1_ f2_ f3_; subst f4_; subst f5_))
                        refine norm_ (a' := ?_) ?_ ?_
                        rotate_left
                        · simp only [putAll, Act.put, List.setIfInBounds_toArray, List.set_cons_zero, List.set_cons_succ]
                          rfl
                        refine one_ (i := 12) (N := none) #[true, true, true, true, true, true, true, true, true, true, true, true, true, false] rfl rfl (one_of HT_.out (by kernel_rfl)) (by decide) (fun K hK => ?_)
                        have hs55 : w53.cell? ⟨gb251, 0, none⟩ = some (.slice none 0 0) := (blk_cell BK251.out 0).trans rfl
                        have hfs55 := blk_frozen BK251.out 0
                        have hns55_0 := NB243_251.out
                        have hms55_0 := NB251_243.out
                        refine skip_ (w1 := ?_) (by rfl) rfl ?_ ?_
                        rotate_left
                        · go_simp
                          rfl
                        refine hK.out _ _ ⟨((cell_far (p := ⟨gb251, _, none⟩) NB243_251.out _).trans (hHeld.1)), ((cell_far (p := ⟨gb251, _, none⟩) (by first | exact Nat.ne_of_lt (Nat.lt_of_lt_of_le (by have := World.block_lt_of_cell? _ _ hw246_0; first | rwa [add_block] at this | exact this) GW251.out) | (rw [add_block]; exact Nat.ne_of_lt (Nat.lt_of_lt_of_le (by have := World.block_lt_of_cell? _ _ hw246_0; first | rwa [add_block] at this | exact this) GW251.out)) | (show (Addr.add _ _).block ≠ _; rw [add_block]; exact Nat.ne_of_lt (Nat.lt_of_lt_of_le (by have := World.block_lt_of_cell? _ _ hw246_0; first | rwa [add_block] at this | exact this) GW251.out)) | (dsimp only; exact Nat.ne_of_lt (Nat.lt_of_lt_of_le (by have := World.block_lt_of_cell? _ _ hw246_0; first | rwa [add_block] at this | exact this) GW251.out))) _).trans (hHeld.2.1)), ((cell_far (p := ⟨gb251, _, none⟩) (by first | exact Nat.ne_of_lt (Nat.lt_of_lt_of_le (by have := World.block_lt_of_cell? _ _ hw246_1; first | rwa [add_block] at this | exact this) GW251.out) | (rw [add_block]; exact Nat.ne_of_lt (Nat.lt_of_lt_of_le (by have := World.block_lt_of_cell? _ _ hw246_1; first | rwa [add_block] at this | exact this) GW251.out)) | (show (Addr.add _ _).block ≠ _; rw [add_block]; exact Nat.ne_of_lt (Nat.lt_of_lt_of_le (by have := World.block_lt_of_cell? _ _ hw246_1; first | rwa [add_block] at this | exact this) GW251.out)) | (dsimp only; exact Nat.ne_of_lt (Nat.lt_of_lt_of_le (by have := World.block_lt_of_cell? _ _ hw246_1; first | rwa [add_block] at this | exact this) GW251.out))) _).trans (hHeld.2.2.1)), ((cell_far (p := ⟨gb251, _, none⟩) (by first | exact Nat.ne_of_lt (Nat.lt_of_lt_of_le (by have := World.block_lt_of_cell? _ _ hw246_2; first | rwa [add_block] at this | exact this) GW251.out) | (rw [add_block]; exact Nat.ne_of_lt (Nat.lt_of_lt_of_le (by have := World.block_lt_of_cell? _ _ hw246_2; first | rwa [add_block] at this | exact this) GW251.out)) | (show (Addr.add _ _).block ≠ _; rw [add_block]; exact Nat.ne_of_lt (Nat.lt_of_lt_of_le (by have := World.block_lt_of_cell? _ _ hw246_2; first | rwa [add_block] at this | exact this) GW251.out)) | (dsimp only; exact Nat.ne_of_lt (Nat.lt_of_lt_of_le (by have := World.block_lt_of_cell? _ _ hw246_2; first | rwa [add_block] at this | exact this) GW251.out))) _).trans (hHeld.2.2.2))⟩ (fun hHeld => ?_)
                        clear hK K
                        refine pure_ (i := 13) (N := some 11) (v := ?_) (a' := ?_) #[true, true, true, true, true, true, true, true, true, true, true, true, true, true] rfl rfl (any_of HT_.out (by kernel_rfl)) (fun _ _ _ h => h) (Or.inl ⟨by rfl, ?_⟩) ?_ ?_
                        rotate_left
                        · intro w'
                          go_simp
                          with_reducible rfl
                        rotate_left
                        · simp only [Act.put, List.setIfInBounds_toArray, List.set_cons_zero, List.set_cons_succ, i64_w, i32_w]
                          rfl
                        refine done_ (done_of HT_.out (by kernel_rfl)) ?_
                        have hnb56 := NB251_243.out
                        have hnc56 := NB243_251.out
                        have hcz57_0 : w53.cell? ⟨gb251, 0, none⟩ = some (.slice none 0 0) := (blk_cell BK251.out 0).trans rfl
                        have hfz57_0 := blk_frozen BK251.out 0
                        have hcz58_0 : w53.cell? ⟨gb243, 0, none⟩ = some (.slice Ao49 x244000_1.length co49) := (blk_cell BK243.out 0).trans rfl
                        have hfz58_0 := blk_frozen BK243.out 0
                        have p252 : 0 ≤ (x9_1 : Int) := of_decide_eq_true (by first | (with_reducible assumption) | assumption)
                        have q252 : x9_1 < (l0.length : Int) := of_decide_eq_true (by first | (with_reducible assumption) | assumption)
                        obtain ⟨ad252, e252, hx252_0, hx252_1, hx252_2⟩ := at_T28 HR0.out x9_1 p252 q252
                        obtain rfl : ad246 = ad252 := (by injection e252)
                        have hn252_0 : ad246.block ≠ gb251 := Nat.ne_of_lt (Nat.lt_of_lt_of_le (by have := World.block_lt_of_cell? _ _ hx252_0; first | rwa [add_block] at this | exact this) GW251.out)
                        have hn252_1 : ad246.block ≠ gb243 := Nat.ne_of_lt (Nat.lt_of_lt_of_le (by have := World.block_lt_of_cell? _ _ hx252_0; first | rwa [add_block] at this | exact this) GW243.out)
                        replace hx252_0 := (HB.out.cell (World.block_lt_of_cell? w _ hx252_0)).trans hx252_0
                        replace hx252_1 := (HB.out.cell (World.block_lt_of_cell? w _ hx252_1)).trans hx252_1
                        replace hx252_2 := (HB.out.cell (World.block_lt_of_cell? w _ hx252_2)).trans hx252_2
                        replace hx252_0 := (cell_far (p := ⟨gb251, 0, none⟩) (by first | (rw [add_block]; exact hn252_0) | (show (Addr.add _ _).block ≠ _; rw [add_block]; exact hn252_0) | exact hn252_0) (.slice Ao54 t247.length co54)).trans hx252_0
                        replace hx252_1 := (cell_far (p := ⟨gb251, 0, none⟩) (by first | (rw [add_block]; exact hn252_0) | (show (Addr.add _ _).block ≠ _; rw [add_block]; exact hn252_0) | exact hn252_0) (.slice Ao54 t247.length co54)).trans hx252_1
                        replace hx252_2 := (cell_far (p := ⟨gb251, 0, none⟩) (by first | (rw [add_block]; exact hn252_0) | (show (Addr.add _ _).block ≠ _; rw [add_block]; exact hn252_0) | exact hn252_0) (.slice Ao54 t247.length co54)).trans hx252_2
                        replace hx252_0 := (cell_far (p := ⟨gb243, 0, none⟩) (by first | (rw [add_block]; exact hn252_1) | (show (Addr.add _ _).block ≠ _; rw [add_block]; exact hn252_1) | exact hn252_1) (.slice Ao54 t247.length co54)).trans hx252_0
                        replace hx252_1 := (cell_far (p := ⟨gb243, 0, none⟩) (by first | (rw [add_block]; exact hn252_1) | (show (Addr.add _ _).block ≠ _; rw [add_block]; exact hn252_1) | exact hn252_1) (.slice Ao54 t247.length co54)).trans hx252_1
                        replace hx252_2 := (cell_far (p := ⟨gb243, 0, none⟩) (by first | (rw [add_block]; exact hn252_1) | (show (Addr.add _ _).block ≠ _; rw [add_block]; exact hn252_1) | exact hn252_1) (.slice Ao54 t247.length co54)).trans hx252_2
                        clear hn252_0
                        clear hn252_1
                        replace p252 := eq_true p252
                        replace q252 := eq_true q252
                        try go_wp2
                        go_roundg kj9
                        case measure => have := HK1.out; have := HJ9.out; omega
                        case rel => exact ⟨(x7_1), (x8_1), (wrap64 (x9_1 + 1)), (t247), (.slice Ao54 t247.length co54), (by first | rfl | (simp; done) | (simp [*]; done)), (by first | rfl | (simp; done) | (simp [*]; done)), (by first | rfl | (simp; done) | (simp [*]; done)), H', ⟨by have := HK1.out; have := HJ9.out; omega⟩, ⟨by (with_reducible repeat (first | apply Kd.V_alloc | apply Kd.V_drewN | apply Kd.V_drew)); exact Kd.V_mono (Kd.V_far (p := ⟨gb243, 0, none⟩) (Kd.V_far (p := ⟨gb251, 0, none⟩) (Kd.V_mono (Kd.V_mono HO249.out (fun k_ hk => (⟨hk, hk.2⟩ : _ ∧ k_ ≠ gb251))) (fun k_ hk => (⟨hk, hk.1.1⟩ : _ ∧ k_ ≠ gb243))) (fun _ hk => hk.1.2) (.slice Ao54 t247.length co54)) (fun _ hk => hk.2) (.slice Ao54 t247.length co54)) (fun _ hk => hk.1.1.1)⟩, ⟨by (with_reducible repeat (first | refine blk_drewN ?_ _ | refine blk_drew ?_ | refine blk_alloc ?_ _)); refine blk_put (cs := #[.slice Ao49 x244000_1.length co49]) ?_ 0 _ rfl; (with_reducible repeat (first | refine blk_drewN ?_ _ | refine blk_drew ?_ | refine blk_alloc ?_ _)); refine blk_far ?_ NB243_251.out _; (with_reducible repeat (first | refine blk_drewN ?_ _ | refine blk_drew ?_ | refine blk_alloc ?_ _)); exact BK243.out⟩, ⟨by repeat (first | (with_reducible first | exact HB.out | apply below_alloc | apply pw_below_drewN | apply below_drew1 | refine below_set ?_ GE243.out | refine below_set ?_ GE251.out) | exact HB.out)⟩⟩
                    · rw [if_neg c17] at H
                      have c17b0 : (t250 == 0) = false := beq_eq_false_iff_ne.mpr c17
                      have c17b1 : (t250 != 0) = true := bne_iff_ne.mpr c17
                      have H' := Aside0.mk H
                      clear H
                      obtain ⟨Ao59, co59, eo59⟩ := Kd.V_slice HO_244000.out
                      subst eo59
                      try go_wp2
                      have n0_ := Aside0.mk (Kd.V_drew HO_244000.out)
                      have n1_ := Aside0.mk (blk_drew BK243.out)
                      have n2_ := Aside0.mk (below_drew1 HB.out)
                      clear HO_244000
                      clear BK243
                      clear HB
                      have HO_244000 := n0_
                      have BK243 := n1_
                      have HB := n2_
                      clear n0_ n1_ n2_
                      have p246 : 0 ≤ (x9_1 : Int) := of_decide_eq_true (by first | (with_reducible assumption) | assumption)
                      have q246 : x9_1 < (l0.length : Int) := of_decide_eq_true (by first | (with_reducible assumption) | assumption)
                      obtain ⟨ad246, e246, hx246_0, hx246_1, hx246_2⟩ := at_T28 HR0.out x9_1 p246 q246
                      have hw246_2 := hx246_2
                      have hw246_1 := hx246_1
                      have hw246_0 := hx246_0
                      cases e246
                      replace hx246_0 := (HB.out.cell (World.block_lt_of_cell? w _ hx246_0)).trans hx246_0
                      replace hx246_1 := (HB.out.cell (World.block_lt_of_cell? w _ hx246_1)).trans hx246_1
                      replace hx246_2 := (HB.out.cell (World.block_lt_of_cell? w _ hx246_2)).trans hx246_2
                      replace p246 := eq_true p246
                      replace q246 := eq_true q246
                      refine start_ (n := 14) (S := fun w' => w'.cell? ⟨gb243, 0, none⟩ = some (.slice Ao59 x244000_1.length co59) ∧ w'.cell? (ad246.add ((x9_1).toNat * 3)) = some (.int .i64 ((rd_T28 l0 x9_1).f0)) ∧ w'.cell? ⟨(ad246.add ((x9_1).toNat * 3)).block, (ad246.add ((x9_1).toNat * 3)).off + 1, none⟩ = some (.int .i64 ((rd_T28 l0 x9_1).f1)) ∧ w'.cell? ⟨(ad246.add ((x9_1).toNat * 3)).block, (ad246.add ((x9_1).toNat * 3)).off + 2, none⟩ = some (.int .i64 ((rd_T28 l0 x9_1).f2))) (ds := []) #[false, false, false, false, false, false, false, false, false, false, false, false, false, false] (by kernel_rfl) rfl rfl ⟨(blk_cell BK243.out 0).trans rfl, ((HB.out.cell (World.block_lt_of_cell? w _ hw246_0)).trans hw246_0), ((HB.out.cell (World.block_lt_of_cell? w _ hw246_1)).trans hw246_1), ((HB.out.cell (World.block_lt_of_cell? w _ hw246_2)).trans hw246_2)⟩ (fun hHeld => ?_); refine with_tabW godwitlaw12_TokensOnce.tab11 godwitlaw12_TokensOnce.bits11 (fun HT_ HW_ => ?_)
                      generalize wc.drew = w60 at HO_244000 BK243 HB hx246_0 hx246_1 hx246_2 hHeld ⊢
                      refine pure_ (i := 1) (N := some 42) (v := ?_) (a' := ?_) #[false, true, false, false, false, false, false, false, false, false, false, false, false, false] rfl rfl (any_of HT_.out (by kernel_rfl)) (fun _ _ _ h => h) (Or.inl ⟨by rfl, ?_⟩) ?_ ?_
                      rotate_left
                      · intro w'
                        go_simp
                        with_reducible rfl
                      rotate_left
                      · simp only [Act.put, List.setIfInBounds_toArray, List.set_cons_zero, List.set_cons_succ, i64_w, i32_w]
                        rfl
                      refine pure_ (i := 2) (N := some 43) (v := ?_) (a' := ?_) #[false, true, true, false, false, false, false, false, false, false, false, false, false, false] rfl rfl (any_of HT_.out (by kernel_rfl)) (fun _ _ _ h => h) (Or.inl ⟨by rfl, ?_⟩) ?_ ?_
                      rotate_left
                      · intro w'
                        go_simp
                        with_reducible rfl
                      rotate_left
                      · simp only [Act.put, List.setIfInBounds_toArray, List.set_cons_zero, List.set_cons_succ, i64_w, i32_w]
                        rfl
                      refine pure_ (i := 3) (N := some 44) (v := ?_) (a' := ?_) #[false, true, true, true, false, false, false, false, false, false, false, false, false, false] rfl rfl (any_of HT_.out (by kernel_rfl)) (fun _ _ _ h => h) (Or.inl ⟨by rfl, ?_⟩) ?_ ?_
                      rotate_left
                      · intro w'
                        go_simp
                        with_reducible rfl
                      rotate_left
                      · simp only [Act.put, List.setIfInBounds_toArray, List.set_cons_zero, List.set_cons_succ, i64_w, i32_w]
                        rfl
                      refine pure_ (i := 5) (N := some 46) (v := ?_) (a' := ?_) #[false, true, true, true, false, true, false, false, false, false, false, false, false, false] rfl rfl (any_of HT_.out (by kernel_rfl)) (fun _ _ _ h => h) (Or.inl ⟨by rfl, ?_⟩) ?_ ?_
                      rotate_left
                      · intro w'
                        go_simp
                        with_reducible rfl
                      rotate_left
                      · simp only [Act.put, List.setIfInBounds_toArray, List.set_cons_zero, List.set_cons_succ, i64_w, i32_w]
                        rfl
                      refine pure_ (i := 6) (N := some 47) (v := ?_) (a' := ?_) #[false, true, true, true, false, true, true, false, false, false, false, false, false, false] rfl rfl (any_of HT_.out (by kernel_rfl)) (fun _ _ _ h => h) (Or.inl ⟨by rfl, ?_⟩) ?_ ?_
                      rotate_left
                      · intro w'
                        go_simp
                        with_reducible rfl
                      rotate_left
                      · simp only [Act.put, List.setIfInBounds_toArray, List.set_cons_zero, List.set_cons_succ, i64_w, i32_w]
                        rfl
                      refine take_ (i := 0) (N := some 41) (v := ?_) (a' := ?_) #[true, true, true, true, false, true, true, false, false, false, false, false, false, false] rfl rfl (take_ofW HT_.out HW_.out (by kernel_rfl)) (fun _ _ _ h => h) (Or.inl ⟨by rfl, ?_⟩) hHeld ?_ ?_
                      rotate_left
                      · rintro w' ⟨s0, s1, s2, s3⟩
                        go_simp
                        with_reducible rfl
                      rotate_left
                      · simp only [Act.put, List.setIfInBounds_toArray, List.set_cons_zero, List.set_cons_succ, i64_w, i32_w]
                        rfl
                      refine take_ (i := 4) (N := some 45) (v := ?_) (a' := ?_) #[true, true, true, true, true, true, true, false, false, false, false, false, false, false] rfl rfl (take_ofW HT_.out HW_.out (by kernel_rfl)) (fun _ _ _ h => h) (Or.inl ⟨by rfl, ?_⟩) hHeld ?_ ?_
                      rotate_left
                      · rintro w' ⟨s0, s1, s2, s3⟩
                        go_simp
                        with_reducible rfl
                      rotate_left
                      · simp only [Act.put, List.setIfInBounds_toArray, List.set_cons_zero, List.set_cons_succ, i64_w, i32_w]
                        rfl
                      refine join_ (σ := Value × Nat) 2 #[true, true, true, true, true, true, true, true, true, true, true, true, false, false] (fun s_ => [(48, .tuple #[.agg #[s_.1], .int .i64 t250]), (10, .pointer (some ⟨s_.2, 0, none⟩)), (40, .tuple #[.agg #[s_.1], .int .i64 t250]), (49, .agg #[s_.1]), (50, .int .i64 t250)]) (fun s_ w' => (w'.cell? ⟨gb243, 0, none⟩ = some (.slice Ao59 x244000_1.length co59) ∧ w'.cell? (ad246.add ((x9_1).toNat * 3)) = some (.int .i64 ((rd_T28 l0 x9_1).f0)) ∧ w'.cell? ⟨(ad246.add ((x9_1).toNat * 3)).block, (ad246.add ((x9_1).toNat * 3)).off + 1, none⟩ = some (.int .i64 ((rd_T28 l0 x9_1).f1)) ∧ w'.cell? ⟨(ad246.add ((x9_1).toNat * 3)).block, (ad246.add ((x9_1).toNat * 3)).off + 2, none⟩ = some (.int .i64 ((rd_T28 l0 x9_1).f2))) ∧ (Kd.V k33 33 w' w.heap.size (fun k_ => k_ ≠ gb243 ∧ k_ ≠ s_.2) s_.1 t247) ∧ (Kd.V k33 33 w' w.heap.size (fun k_ => k_ ≠ gb243 ∧ k_ ≠ s_.2) (.slice Ao59 x244000_1.length co59) x244000_1) ∧ (w'.heap[gb243]? = some (.cells #[.slice Ao59 x244000_1.length co59] 26 (0, 0))) ∧ (w'.heap[s_.2]? = some (.cells #[.slice none 0 0] 26 (0, 0))) ∧ (w.heap.size ≤ s_.2) ∧ (w.heap.size ≤ s_.2) ∧ (gb243 ≠ s_.2) ∧ (s_.2 ≠ gb243) ∧ (Below w.heap.size w w')) ?_ ?_
                      rotate_left
                      · intro hCont
                        refine two_ (i := 7) (j := 11) (Ni := some 48) (Nj := some 10) #[true, true, true, true, true, true, true, true, false, false, false, false, false, false] #[true, true, true, true, true, true, true, false, false, false, false, true, false, false] rfl rfl rfl rfl (two_of HT_.out (by kernel_rfl)) (by decide) (by decide) (fun K hK => ?_) (fun K hK => ?_)
                        · skip
                          refine goes_ Try.func8 (by kernel_rfl) rfl #[.agg #[.slice Ao59 x244000_1.length co59], .agg #[.int .i64 ((rd_T28 l0 x9_1).f0), .int .i64 ((rd_T28 l0 x9_1).f1), .int .i64 ((rd_T28 l0 x9_1).f2)], .int .i64 (wrap64 (x9_1 + 1))] (by rfl) rfl rfl (by (try simp only [List.map_toArray, List.map_cons, List.map_nil]); first | done | rfl | (simp only [List.length_drop, List.length_take]; rfl)) ?_
                          with_reducible refine (godwitlaw12_did.calls kj9 (fun k_ => k_ ≠ gb243) _ _ x244000_1 ((rd_T28 l0 x9_1).f0) ((rd_T28 l0 x9_1).f1) ((rd_T28 l0 x9_1).f2) (wrap64 (x9_1 + 1)) t247 t250 _ ?side1 A16.out).mono ?_
                          (case side1 => exact HO_244000.out)
                          rintro e w61 ⟨v248, rfl, ho0, hb⟩
                          refine ⟨_, rfl, ?_⟩
                          have n0_ := Aside0.mk (Kd.V_below (by (with_reducible repeat (first | apply Kd.V_alloc | apply Kd.V_drewN | apply Kd.V_drew)); exact HO_244000.out) hb)
                          have n1_ := Aside0.mk (Kd.V_lower (Kd.V_mono (ok' := fun k_ => k_ ≠ gb243) ho0 (fun k_ hk_ => Or.elim hk_ (fun hs_ => hs_) (fun hn_ => (Kd.freshB (g := gb243) (o := .cells #[.slice Ao59 x244000_1.length co59] 26 (0, 0)) (by (with_reducible repeat (first | refine blk_drewN ?_ _ | refine blk_drew ?_ | refine blk_alloc ?_ _)); exact BK243.out) k_ hn_)))) (below_size (by repeat (first | (with_reducible first | exact HB.out | apply below_alloc | apply pw_below_drewN | apply below_drew1 | refine below_set ?_ GE243.out) | exact HB.out))))
                          have n2_ := Aside0.mk (blk_below (g := gb243) (o := .cells #[.slice Ao59 x244000_1.length co59] 26 (0, 0)) (by (with_reducible repeat (first | refine blk_drewN ?_ _ | refine blk_drew ?_ | refine blk_alloc ?_ _)); exact BK243.out) hb)
                          have n3_ := Aside0.mk (below_step (by repeat (first | (with_reducible first | exact HB.out | apply below_alloc | apply pw_below_drewN | apply below_drew1 | refine below_set ?_ GE243.out) | exact HB.out)) hb)
                          clear HO_244000
                          clear BK243
                          clear HB
                          have HO_244000 := n0_
                          have HO249 := n1_
                          have BK243 := n2_
                          have HB := n3_
                          clear n0_ n1_ n2_ n3_
                          (try clear hb)
                          (try clear hb2)
                          (try clear hk)
                          (try clear hi)
                          (try clear ho0)
                          refine hK.out _ _ ⟨(blk_cell BK243.out 0).trans rfl, ((HB.out.cell (World.block_lt_of_cell? w _ hw246_0)).trans hw246_0), ((HB.out.cell (World.block_lt_of_cell? w _ hw246_1)).trans hw246_1), ((HB.out.cell (World.block_lt_of_cell? w _ hw246_2)).trans hw246_2)⟩ (fun hHeld => ?_)
                          clear hK K
                          refine norm_ (a' := ?_) ?_ ?_
                          rotate_left
                          · show Act.put _ (some 48) _ = _
                            simp only [Act.put, List.setIfInBounds_toArray, List.set_cons_zero, List.set_cons_succ, i64_w, i32_w]
                            rfl
                          refine pure_ (i := 8) (N := some 40) (v := ?_) (a' := ?_) #[true, true, true, true, true, true, true, true, true, false, false, false, false, false] rfl rfl (any_of HT_.out (by kernel_rfl)) (fun _ _ _ h => h) (Or.inl ⟨by rfl, ?_⟩) ?_ ?_
                          rotate_left
                          · intro w'
                            go_simp
                            with_reducible rfl
                          rotate_left
                          · simp only [Act.put, List.setIfInBounds_toArray, List.set_cons_zero, List.set_cons_succ, i64_w, i32_w]
                            rfl
                          refine pure_ (i := 9) (N := some 49) (v := ?_) (a' := ?_) #[true, true, true, true, true, true, true, true, true, true, false, false, false, false] rfl rfl (any_of HT_.out (by kernel_rfl)) (fun _ _ _ h => h) (Or.inl ⟨by rfl, ?_⟩) ?_ ?_
                          rotate_left
                          · intro w'
                            go_simp
                            with_reducible rfl
                          rotate_left
                          · simp only [Act.put, List.setIfInBounds_toArray, List.set_cons_zero, List.set_cons_succ, i64_w, i32_w]
                            rfl
                          refine pure_ (i := 10) (N := some 50) (v := ?_) (a' := ?_) #[true, true, true, true, true, true, true, true, true, true, true, false, false, false] rfl rfl (any_of HT_.out (by kernel_rfl)) (fun _ _ _ h => h) (Or.inl ⟨by rfl, ?_⟩) ?_ ?_
                          rotate_left
                          · intro w'
                            go_simp
                            with_reducible rfl
                          rotate_left
                          · simp only [Act.put, List.setIfInBounds_toArray, List.set_cons_zero, List.set_cons_succ, i64_w, i32_w]
                            rfl
                          refine one_ (i := 11) (N := some 10) #[true, true, true, true, true, true, true, true, true, true, true, true, false, false] rfl rfl (one_of HT_.out (by kernel_rfl)) (by decide) (fun K hK => ?_)
                          refine box_step ?hg (N := 10) ?hd (cs := #[.slice none 0 0]) (t := 26) ?hr ?_; (case hd => rfl); (case hg => rfl); (case hr => first | (go_simp; done) | (go_simp; rfl))
                          intro gb251 hg w62 hbox hb
                          have n0_ := Aside0.mk (Kd.V_below (Kd.V_elderB (by (with_reducible repeat (first | apply Kd.V_alloc | apply Kd.V_drewN | apply Kd.V_drew)); exact HO_244000.out) gb251 (Nat.le_of_eq hg.symm)) hb)
                          have n1_ := Aside0.mk (Kd.V_below (Kd.V_elderB (by (with_reducible repeat (first | apply Kd.V_alloc | apply Kd.V_drewN | apply Kd.V_drew)); exact HO249.out) gb251 (Nat.le_of_eq hg.symm)) hb)
                          have n2_ := Aside0.mk (blk_below (g := gb243) (o := .cells #[.slice Ao59 x244000_1.length co59] 26 (0, 0)) (by (with_reducible repeat (first | refine blk_drewN ?_ _ | refine blk_drew ?_ | refine blk_alloc ?_ _)); exact BK243.out) hb)
                          have n3_ := Aside0.mk (below_step (by repeat (first | (with_reducible first | exact HB.out | apply below_alloc | apply pw_below_drewN | apply below_drew1 | refine below_set ?_ GE243.out) | exact HB.out)) hb)
                          have n4_ := Aside0.mk (hbox)
                          have n5_ := Aside0.mk ((by rw [hg]; exact (below_size (by repeat (first | (with_reducible first | exact HB.out | apply below_alloc | apply pw_below_drewN | apply below_drew1 | refine below_set ?_ GE243.out) | exact HB.out))) : w.heap.size ≤ gb251))
                          have n6_ := Aside0.mk ((by rw [hg]; exact (below_size (by repeat (first | (with_reducible first | exact HB.out | apply below_alloc | apply pw_below_drewN | apply below_drew1 | refine below_set ?_ GE243.out) | exact HB.out))) : w.heap.size ≤ gb251))
                          have n7_ := Aside0.mk ((by rw [hg]; exact Nat.ne_of_lt (blk_lt (g := gb243) (o := .cells #[.slice Ao59 x244000_1.length co59] 26 (0, 0)) (by (with_reducible repeat (first | refine blk_drewN ?_ _ | refine blk_drew ?_ | refine blk_alloc ?_ _)); exact BK243.out)) : gb243 ≠ gb251))
                          have n8_ := Aside0.mk ((by rw [hg]; exact Nat.ne_of_gt (blk_lt (g := gb243) (o := .cells #[.slice Ao59 x244000_1.length co59] 26 (0, 0)) (by (with_reducible repeat (first | refine blk_drewN ?_ _ | refine blk_drew ?_ | refine blk_alloc ?_ _)); exact BK243.out)) : gb251 ≠ gb243))
                          clear HO_244000
                          clear HO249
                          clear BK243
                          clear HB
                          have HO_244000 := n0_
                          have HO249 := n1_
                          have BK243 := n2_
                          have HB := n3_
                          have BK251 := n4_
                          have GW251 := n5_
                          have GE251 := n6_
                          have NB243_251 := n7_
                          have NB251_243 := n8_
                          clear n0_ n1_ n2_ n3_ n4_ n5_ n6_ n7_ n8_
                          clear hb hbox hg
                          refine hK.out _ _ ⟨(blk_cell BK243.out 0).trans rfl, ((HB.out.cell (World.block_lt_of_cell? w _ hw246_0)).trans hw246_0), ((HB.out.cell (World.block_lt_of_cell? w _ hw246_1)).trans hw246_1), ((HB.out.cell (World.block_lt_of_cell? w _ hw246_2)).trans hw246_2)⟩ (fun hHeld => ?_)
                          clear hK K
                          refine norm_ (a' := ?_) ?_ ?_
                          rotate_left
                          · show Act.put _ (some 10) _ = _
                            simp only [Act.put, List.setIfInBounds_toArray, List.set_cons_zero, List.set_cons_succ, i64_w, i32_w]
                            rfl
                          exact norm_ (by simp only [putAll, Act.put, List.setIfInBounds_toArray, List.set_cons_zero, List.set_cons_succ]) (hCont (v248, gb251) _ ⟨hHeld, (by (with_reducible repeat (first | apply Kd.V_alloc | apply Kd.V_drewN | apply Kd.V_drew)); exact HO249.out), (by (with_reducible repeat (first | apply Kd.V_alloc | apply Kd.V_drewN | apply Kd.V_drew)); exact HO_244000.out), (by (with_reducible repeat (first | refine blk_drewN ?_ _ | refine blk_drew ?_ | refine blk_alloc ?_ _)); exact BK243.out), (by (with_reducible repeat (first | refine blk_drewN ?_ _ | refine blk_drew ?_ | refine blk_alloc ?_ _)); exact BK251.out), GW251.out, GE251.out, NB243_251.out, NB251_243.out, (by repeat (first | (with_reducible first | exact HB.out | apply below_alloc | apply pw_below_drewN | apply below_drew1 | refine below_set ?_ GE243.out | refine below_set ?_ GE251.out) | exact HB.out))⟩)
                        · skip
                          refine box_step ?hg (N := 10) ?hd (cs := #[.slice none 0 0]) (t := 26) ?hr ?_; (case hd => rfl); (case hg => rfl); (case hr => first | (go_simp; done) | (go_simp; rfl))
                          intro gb251 hg w61 hbox hb
                          have n0_ := Aside0.mk (Kd.V_below (Kd.V_elderB (by (with_reducible repeat (first | apply Kd.V_alloc | apply Kd.V_drewN | apply Kd.V_drew)); exact HO_244000.out) gb251 (Nat.le_of_eq hg.symm)) hb)
                          have n1_ := Aside0.mk (blk_below (g := gb243) (o := .cells #[.slice Ao59 x244000_1.length co59] 26 (0, 0)) (by (with_reducible repeat (first | refine blk_drewN ?_ _ | refine blk_drew ?_ | refine blk_alloc ?_ _)); exact BK243.out) hb)
                          have n2_ := Aside0.mk (below_step (by repeat (first | (with_reducible first | exact HB.out | apply below_alloc | apply pw_below_drewN | apply below_drew1 | refine below_set ?_ GE243.out) | exact HB.out)) hb)
                          have n3_ := Aside0.mk (hbox)
                          have n4_ := Aside0.mk ((by rw [hg]; exact (below_size (by repeat (first | (with_reducible first | exact HB.out | apply below_alloc | apply pw_below_drewN | apply below_drew1 | refine below_set ?_ GE243.out) | exact HB.out))) : w.heap.size ≤ gb251))
                          have n5_ := Aside0.mk ((by rw [hg]; exact (below_size (by repeat (first | (with_reducible first | exact HB.out | apply below_alloc | apply pw_below_drewN | apply below_drew1 | refine below_set ?_ GE243.out) | exact HB.out))) : w.heap.size ≤ gb251))
                          have n6_ := Aside0.mk ((by rw [hg]; exact Nat.ne_of_lt (blk_lt (g := gb243) (o := .cells #[.slice Ao59 x244000_1.length co59] 26 (0, 0)) (by (with_reducible repeat (first | refine blk_drewN ?_ _ | refine blk_drew ?_ | refine blk_alloc ?_ _)); exact BK243.out)) : gb243 ≠ gb251))
                          have n7_ := Aside0.mk ((by rw [hg]; exact Nat.ne_of_gt (blk_lt (g := gb243) (o := .cells #[.slice Ao59 x244000_1.length co59] 26 (0, 0)) (by (with_reducible repeat (first | refine blk_drewN ?_ _ | refine blk_drew ?_ | refine blk_alloc ?_ _)); exact BK243.out)) : gb251 ≠ gb243))
                          clear HO_244000
                          clear BK243
                          clear HB
                          have HO_244000 := n0_
                          have BK243 := n1_
                          have HB := n2_
                          have BK251 := n3_
                          have GW251 := n4_
                          have GE251 := n5_
                          have NB243_251 := n6_
                          have NB251_243 := n7_
                          clear n0_ n1_ n2_ n3_ n4_ n5_ n6_ n7_
                          clear hb hbox hg
                          refine hK.out _ _ ⟨(blk_cell BK243.out 0).trans rfl, ((HB.out.cell (World.block_lt_of_cell? w _ hw246_0)).trans hw246_0), ((HB.out.cell (World.block_lt_of_cell? w _ hw246_1)).trans hw246_1), ((HB.out.cell (World.block_lt_of_cell? w _ hw246_2)).trans hw246_2)⟩ (fun hHeld => ?_)
                          clear hK K
                          refine norm_ (a' := ?_) ?_ ?_
                          rotate_left
                          · show Act.put _ (some 10) _ = _
                            simp only [Act.put, List.setIfInBounds_toArray, List.set_cons_zero, List.set_cons_succ, i64_w, i32_w]
                            rfl
                          refine one_ (i := 7) (N := some 48) #[true, true, true, true, true, true, true, true, false, false, false, true, false, false] rfl rfl (one_of HT_.out (by kernel_rfl)) (by decide) (fun K hK => ?_)
                          refine goes_ Try.func8 (by kernel_rfl) rfl #[.agg #[.slice Ao59 x244000_1.length co59], .agg #[.int .i64 ((rd_T28 l0 x9_1).f0), .int .i64 ((rd_T28 l0 x9_1).f1), .int .i64 ((rd_T28 l0 x9_1).f2)], .int .i64 (wrap64 (x9_1 + 1))] (by rfl) rfl rfl (by (try simp only [List.map_toArray, List.map_cons, List.map_nil]); first | done | rfl | (simp only [List.length_drop, List.length_take]; rfl)) ?_
                          with_reducible refine (godwitlaw12_did.calls kj9 (fun k_ => (k_ ≠ gb243 ∧ k_ ≠ gb251)) _ _ x244000_1 ((rd_T28 l0 x9_1).f0) ((rd_T28 l0 x9_1).f1) ((rd_T28 l0 x9_1).f2) (wrap64 (x9_1 + 1)) t247 t250 _ ?side1 A16.out).mono ?_
                          (case side1 => exact HO_244000.out)
                          rintro e w62 ⟨v248, rfl, ho0, hb⟩
                          refine ⟨_, rfl, ?_⟩
                          have n0_ := Aside0.mk (Kd.V_below (by (with_reducible repeat (first | apply Kd.V_alloc | apply Kd.V_drewN | apply Kd.V_drew)); exact HO_244000.out) hb)
                          have n1_ := Aside0.mk (Kd.V_lower (Kd.V_mono (ok' := fun k_ => k_ ≠ gb243 ∧ k_ ≠ gb251) ho0 (fun k_ hk_ => ⟨Or.elim hk_ (fun hs_ => hs_.1) (fun hn_ => (Kd.freshB (g := gb243) (o := .cells #[.slice Ao59 x244000_1.length co59] 26 (0, 0)) (by (with_reducible repeat (first | refine blk_drewN ?_ _ | refine blk_drew ?_ | refine blk_alloc ?_ _)); exact BK243.out) k_ hn_)), Or.elim hk_ (fun hs_ => hs_.2) (fun hn_ => (Kd.freshB (g := gb251) (o := .cells #[.slice none 0 0] 26 (0, 0)) (by (with_reducible repeat (first | refine blk_drewN ?_ _ | refine blk_drew ?_ | refine blk_alloc ?_ _)); exact BK251.out) k_ hn_))⟩)) (below_size (by repeat (first | (with_reducible first | exact HB.out | apply below_alloc | apply pw_below_drewN | apply below_drew1 | refine below_set ?_ GE243.out | refine below_set ?_ GE251.out) | exact HB.out))))
                          have n2_ := Aside0.mk (blk_below (g := gb243) (o := .cells #[.slice Ao59 x244000_1.length co59] 26 (0, 0)) (by (with_reducible repeat (first | refine blk_drewN ?_ _ | refine blk_drew ?_ | refine blk_alloc ?_ _)); exact BK243.out) hb)
                          have n3_ := Aside0.mk (blk_below (g := gb251) (o := .cells #[.slice none 0 0] 26 (0, 0)) (by (with_reducible repeat (first | refine blk_drewN ?_ _ | refine blk_drew ?_ | refine blk_alloc ?_ _)); exact BK251.out) hb)
                          have n4_ := Aside0.mk (below_step (by repeat (first | (with_reducible first | exact HB.out | apply below_alloc | apply pw_below_drewN | apply below_drew1 | refine below_set ?_ GE243.out | refine below_set ?_ GE251.out) | exact HB.out)) hb)
                          clear HO_244000
                          clear BK243
                          clear BK251
                          clear HB
                          have HO_244000 := n0_
                          have HO249 := n1_
                          have BK243 := n2_
                          have BK251 := n3_
                          have HB := n4_
                          clear n0_ n1_ n2_ n3_ n4_
                          (try clear hb)
                          (try clear hb2)
                          (try clear hk)
                          (try clear hi)
                          (try clear ho0)
                          refine hK.out _ _ ⟨(blk_cell BK243.out 0).trans rfl, ((HB.out.cell (World.block_lt_of_cell? w _ hw246_0)).trans hw246_0), ((HB.out.cell (World.block_lt_of_cell? w _ hw246_1)).trans hw246_1), ((HB.out.cell (World.block_lt_of_cell? w _ hw246_2)).trans hw246_2)⟩ (fun hHeld => ?_)
                          clear hK K
                          refine norm_ (a' := ?_) ?_ ?_
                          rotate_left
                          · show Act.put _ (some 48) _ = _
                            simp only [Act.put, List.setIfInBounds_toArray, List.set_cons_zero, List.set_cons_succ, i64_w, i32_w]
                            rfl
                          refine pure_ (i := 8) (N := some 40) (v := ?_) (a' := ?_) #[true, true, true, true, true, true, true, true, true, false, false, true, false, false] rfl rfl (any_of HT_.out (by kernel_rfl)) (fun _ _ _ h => h) (Or.inl ⟨by rfl, ?_⟩) ?_ ?_
                          rotate_left
                          · intro w'
                            go_simp
                            with_reducible rfl
                          rotate_left
                          · simp only [Act.put, List.setIfInBounds_toArray, List.set_cons_zero, List.set_cons_succ, i64_w, i32_w]
                            rfl
                          refine pure_ (i := 9) (N := some 49) (v := ?_) (a' := ?_) #[true, true, true, true, true, true, true, true, true, true, false, true, false, false] rfl rfl (any_of HT_.out (by kernel_rfl)) (fun _ _ _ h => h) (Or.inl ⟨by rfl, ?_⟩) ?_ ?_
                          rotate_left
                          · intro w'
                            go_simp
                            with_reducible rfl
                          rotate_left
                          · simp only [Act.put, List.setIfInBounds_toArray, List.set_cons_zero, List.set_cons_succ, i64_w, i32_w]
                            rfl
                          refine pure_ (i := 10) (N := some 50) (v := ?_) (a' := ?_) #[true, true, true, true, true, true, true, true, true, true, true, true, false, false] rfl rfl (any_of HT_.out (by kernel_rfl)) (fun _ _ _ h => h) (Or.inl ⟨by rfl, ?_⟩) ?_ ?_
                          rotate_left
                          · intro w'
                            go_simp
                            with_reducible rfl
                          rotate_left
                          · simp only [Act.put, List.setIfInBounds_toArray, List.set_cons_zero, List.set_cons_succ, i64_w, i32_w]
                            rfl
                          exact norm_ (by simp only [putAll, Act.put, List.setIfInBounds_toArray, List.set_cons_zero, List.set_cons_succ]) (hCont (v248, gb251) _ ⟨hHeld, (by (with_reducible repeat (first | apply Kd.V_alloc | apply Kd.V_drewN | apply Kd.V_drew)); exact HO249.out), (by (with_reducible repeat (first | apply Kd.V_alloc | apply Kd.V_drewN | apply Kd.V_drew)); exact HO_244000.out), (by (with_reducible repeat (first | refine blk_drewN ?_ _ | refine blk_drew ?_ | refine blk_alloc ?_ _)); exact BK243.out), (by (with_reducible repeat (first | refine blk_drewN ?_ _ | refine blk_drew ?_ | refine blk_alloc ?_ _)); exact BK251.out), GW251.out, GE251.out, NB243_251.out, NB251_243.out, (by repeat (first | (with_reducible first | exact HB.out | apply below_alloc | apply pw_below_drewN | apply below_drew1 | refine below_set ?_ GE243.out | refine below_set ?_ GE251.out) | exact HB.out))⟩)
                      rintro ⟨v248, gb251⟩ w63 ⟨hS_, h0_, h1_, h2_, h3_, h4_, h5_, h6_, h7_, h8_⟩
                      have n0_ : Aside0 (Kd.V k33 33 w63 w.heap.size (fun k_ => k_ ≠ gb243 ∧ k_ ≠ gb251) v248 t247) := ⟨h0_⟩
                      have n1_ : Aside0 (Kd.V k33 33 w63 w.heap.size (fun k_ => k_ ≠ gb243 ∧ k_ ≠ gb251) (.slice Ao59 x244000_1.length co59) x244000_1) := ⟨h1_⟩
                      have n2_ : Aside0 (w63.heap[gb243]? = some (.cells #[.slice Ao59 x244000_1.length co59] 26 (0, 0))) := ⟨h2_⟩
                      have n3_ : Aside0 (w63.heap[gb251]? = some (.cells #[.slice none 0 0] 26 (0, 0))) := ⟨h3_⟩
                      have n4_ : Aside0 (w.heap.size ≤ gb251) := ⟨h4_⟩
                      have n5_ : Aside0 (w.heap.size ≤ gb251) := ⟨h5_⟩
                      have n6_ : Aside0 (gb243 ≠ gb251) := ⟨h6_⟩
                      have n7_ : Aside0 (gb251 ≠ gb243) := ⟨h7_⟩
                      have n8_ : Aside0 (Below w.heap.size w w63) := ⟨h8_⟩
                      clear HO_244000
                      clear BK243
                      clear HB
                      clear h0_ h1_ h2_ h3_ h4_ h5_ h6_ h7_ h8_
                      have HO249 := n0_
                      have HO_244000 := n1_
                      have BK243 := n2_
                      have BK251 := n3_
                      have GW251 := n4_
                      have GE251 := n5_
                      have NB243_251 := n6_
                      have NB251_243 := n7_
                      have HB := n8_
                      clear n0_ n1_ n2_ n3_ n4_ n5_ n6_ n7_ n8_
                      have hHeld : w63.cell? ⟨gb243, 0, none⟩ = some (.slice Ao59 x244000_1.length co59) ∧ w63.cell? (ad246.add ((x9_1).toNat * 3)) = some (.int .i64 ((rd_T28 l0 x9_1).f0)) ∧ w63.cell? ⟨(ad246.add ((x9_1).toNat * 3)).block, (ad246.add ((x9_1).toNat * 3)).off + 1, none⟩ = some (.int .i64 ((rd_T28 l0 x9_1).f1)) ∧ w63.cell? ⟨(ad246.add ((x9_1).toNat * 3)).block, (ad246.add ((x9_1).toNat * 3)).off + 2, none⟩ = some (.int .i64 ((rd_T28 l0 x9_1).f2)) := hS_
                      obtain ⟨Ao64, co64, eo64⟩ := Kd.V_slice HO249.out
                      (first | subst eo64 | (injection eo64 with f1_ f2_ f3_; have f4_ := f1_.symm; have f5_ := f3_.symm; clear f1_ f2_ f3_; subst f4_; subst f5_))
                      refine norm_ (a' := ?_) ?_ ?_
                      rotate_left
                      · simp only [putAll, Act.put, List.setIfInBounds_toArray, List.set_cons_zero, List.set_cons_succ]
                        rfl
                      refine one_ (i := 12) (N := none) #[true, true, true, true, true, true, true, true, true, true, true, true, true, false] rfl rfl (one_of HT_.out (by kernel_rfl)) (by decide) (fun K hK => ?_)
                      have hs65 : w63.cell? ⟨gb251, 0, none⟩ = some (.slice none 0 0) := (blk_cell BK251.out 0).trans rfl
                      have hfs65 := blk_frozen BK251.out 0
                      have hns65_0 := NB243_251.out
                      have hms65_0 := NB251_243.out
                      refine skip_ (w1 := ?_) (by rfl) rfl ?_ ?_
                      rotate_left
                      · go_simp
                        rfl
                      refine hK.out _ _ ⟨((cell_far (p := ⟨gb251, _, none⟩) NB243_251.out _).trans (hHeld.1)), ((cell_far (p := ⟨gb251, _, none⟩) (by first | exact Nat.ne_of_lt (Nat.lt_of_lt_of_le (by have := World.block_lt_of_cell? _ _ hw246_0; first | rwa [add_block] at this | exact this) GW251.out) | (rw [add_block]; exact Nat.ne_of_lt (Nat.lt_of_lt_of_le (by have := World.block_lt_of_cell? _ _ hw246_0; first | rwa [add_block] at this | exact this) GW251.out)) | (show (Addr.add _ _).block ≠ _; rw [add_block]; exact Nat.ne_of_lt (Nat.lt_of_lt_of_le (by have := World.block_lt_of_cell? _ _ hw246_0; first | rwa [add_block] at this | exact this) GW251.out)) | (dsimp only; exact Nat.ne_of_lt (Nat.lt_of_lt_of_le (by have := World.block_lt_of_cell? _ _ hw246_0; first | rwa [add_block] at this | exact this) GW251.out))) _).trans (hHeld.2.1)), ((cell_far (p := ⟨gb251, _, none⟩) (by first | exact Nat.ne_of_lt (Nat.lt_of_lt_of_le (by have := World.block_lt_of_cell? _ _ hw246_1; first | rwa [add_block] at this | exact this) GW251.out) | (rw [add_block]; exact Nat.ne_of_lt (Nat.lt_of_lt_of_le (by have := World.block_lt_of_cell? _ _ hw246_1; first | rwa [add_block] at this | exact this) GW251.out)) | (show (Addr.add _ _).block ≠ _; rw [add_block]; exact Nat.ne_of_lt (Nat.lt_of_lt_of_le (by have := World.block_lt_of_cell? _ _ hw246_1; first | rwa [add_block] at this | exact this) GW251.out)) | (dsimp only; exact Nat.ne_of_lt (Nat.lt_of_lt_of_le (by have := World.block_lt_of_cell? _ _ hw246_1; first | rwa [add_block] at this | exact this) GW251.out))) _).trans (hHeld.2.2.1)), ((cell_far (p := ⟨gb251, _, none⟩) (by first | exact Nat.ne_of_lt (Nat.lt_of_lt_of_le (by have := World.block_lt_of_cell? _ _ hw246_2; first | rwa [add_block] at this | exact this) GW251.out) | (rw [add_block]; exact Nat.ne_of_lt (Nat.lt_of_lt_of_le (by have := World.block_lt_of_cell? _ _ hw246_2; first | rwa [add_block] at this | exact this) GW251.out)) | (show (Addr.add _ _).block ≠ _; rw [add_block]; exact Nat.ne_of_lt (Nat.lt_of_lt_of_le (by have := World.block_lt_of_cell? _ _ hw246_2; first | rwa [add_block] at this | exact this) GW251.out)) | (dsimp only; exact Nat.ne_of_lt (Nat.lt_of_lt_of_le (by have := World.block_lt_of_cell? _ _ hw246_2; first | rwa [add_block] at this | exact this) GW251.out))) _).trans (hHeld.2.2.2))⟩ (fun hHeld => ?_)
                      clear hK K
                      refine pure_ (i := 13) (N := some 11) (v := ?_) (a' := ?_) #[true, true, true, true, true, true, true, true, true, true, true, true, true, true] rfl rfl (any_of HT_.out (by kernel_rfl)) (fun _ _ _ h => h) (Or.inl ⟨by rfl, ?_⟩) ?_ ?_
                      rotate_left
                      · intro w'
                        go_simp
                        with_reducible rfl
                      rotate_left
                      · simp only [Act.put, List.setIfInBounds_toArray, List.set_cons_zero, List.set_cons_succ, i64_w, i32_w]
                        rfl
                      refine done_ (done_of HT_.out (by kernel_rfl)) ?_
                      try go_wp2
                      go_roundg kj9
                      case measure => have := HK1.out; have := HJ9.out; omega
                      case rel => exact ⟨(x7_1), (x8_1), (wrap64 (x9_1 + 1)), (x244000_1), (.slice Ao59 x244000_1.length co59), (by first | rfl | (simp; done) | (simp [*]; done)), (by first | rfl | (simp; done) | (simp [*]; done)), (by first | rfl | (simp; done) | (simp [*]; done)), H', ⟨by have := HK1.out; have := HJ9.out; omega⟩, ⟨by (with_reducible repeat (first | apply Kd.V_alloc | apply Kd.V_drewN | apply Kd.V_drew)); exact Kd.V_mono (Kd.V_far (p := ⟨gb251, 0, none⟩) (Kd.V_mono HO_244000.out (fun k_ hk => (⟨hk, hk.2⟩ : _ ∧ k_ ≠ gb251))) (fun _ hk => hk.2) (.slice Ao64 t247.length co64)) (fun _ hk => hk.1.1)⟩, ⟨by (with_reducible repeat (first | refine blk_drewN ?_ _ | refine blk_drew ?_ | refine blk_alloc ?_ _)); refine blk_far ?_ NB243_251.out _; (with_reducible repeat (first | refine blk_drewN ?_ _ | refine blk_drew ?_ | refine blk_alloc ?_ _)); exact BK243.out⟩, ⟨by repeat (first | (with_reducible first | exact HB.out | apply below_alloc | apply pw_below_drewN | apply below_drew1 | refine below_set ?_ GE243.out | refine below_set ?_ GE251.out) | exact HB.out)⟩⟩
                  · rw [if_neg c15] at H
                    exact absurd H (by simp)
                · rw [if_neg c14] at H
                  exact absurd H (by simp)
        · rw [if_neg c9] at H
          have c9b0 : decide (x9_1 < (l0.length : Int)) = false := decide_eq_false c9
          clear c9
          replace H := Option.bind_eq_some_iff.mp H
          obtain ⟨⟨t258, t259, t260, t261, t262⟩, A660, H⟩ := H
          replace H : (if t242 = true then (if x7_1 ≤ 1 then (if t262 = true then (if ((x7_1 == 1) == (t260 == 2)) = true then ((tokens_Sane.f k1 x244000_1).bind fun t264 => (some t264)) else (none)) else (if ((x7_1 == 1) == false) = true then ((tokens_Sane.f k1 x244000_1).bind fun t265 => (some t265)) else (none))) else (none)) else (none)) = some r := H
          have A66 := Aside0.mk A660
          clear A660
          by_cases c67 : t242 = true
          · subst c67
            have H1 : (if x7_1 ≤ 1 then (if t262 = true then (if ((x7_1 == 1) == (t260 == 2)) = true then ((tokens_Sane.f k1 x244000_1).bind fun t264 => (some t264)) else (none)) else (if ((x7_1 == 1) == false) = true then ((tokens_Sane.f k1 x244000_1).bind fun t265 => (some t265)) else (none))) else (none)) = some r := by rw [if_pos rfl] at H; exact H
            clear H
            have H := H1
            clear H1
            by_cases c68 : x7_1 ≤ 1
            · rw [if_pos c68] at H
              have c68b0 : decide (x7_1 ≤ 1) = true := decide_eq_true c68
              clear c68
              by_cases c69 : t262 = true
              · subst c69
                have H1 : (if ((x7_1 == 1) == (t260 == 2)) = true then ((tokens_Sane.f k1 x244000_1).bind fun t264 => (some t264)) else (none)) = some r := by rw [if_pos rfl] at H; exact H
                clear H
                have H := H1
                clear H1
                by_cases c70 : ((x7_1 == 1) == (t260 == 2)) = true
                · rw [if_pos c70] at H
                  have c70b0 : ((x7_1 == 1) == (t260 == 2)) = true := c70
                  (try (have c70b1 : decide ((x7_1 == 1) = (t260 == 2)) = true := by simpa using c70))
                  (try (have c70b2 : ((x7_1 == 1) == (t260 == 2)) = true := by simpa using c70))
                  clear c70
                  replace H := Option.bind_eq_some_iff.mp H
                  obtain ⟨t264, A710, H⟩ := H
                  replace H : (some t264) = some r := H
                  have A71 := Aside0.mk A710
                  clear A710
                  obtain rfl := Option.some.inj H
                  have hcz72_0 : wr.cell? ⟨gb243, 0, none⟩ = some (u244000) := (blk_cell BK243.out 0).trans rfl
                  have hfz72_0 := blk_frozen BK243.out 0
                  obtain ⟨Ao73, co73, eo73⟩ := Kd.V_slice HO_244000.out
                  subst eo73
                  go_wp2_with (first | ((with_reducible refine gate_callee (f := 9) rfl ?_); refine goesL_ (some 110) rfl rfl Try.func9 (by kernel_rfl) rfl #[.agg #[.slice Ao73 x244000_1.length co73], .int .i64 a1] rfl (by (try simp only [List.map_toArray, List.map_cons, List.map_nil]); first | done | rfl | (simp only [List.length_drop, List.length_take]; rfl)) ?_; (with_reducible refine (tokens_Find.calls _ _ x244000_1 a1 t258 t259 t260 t261 true _ ?side1 ?side2 A66.out).mono ?_); (case side1 => repeat (first | exact (Kd.V_reads' HO_244000.out).2.2 | (with_reducible refine Kd.C_alloc ?_ _) | (with_reducible refine Kd.C_drewN ?_ _) | (with_reducible refine Kd.C_drew ?_))); (case side2 => exact (Kd.V_reads' HO_244000.out).2.1); rintro e w74 ⟨rfl, hb⟩; refine ⟨_, rfl, ?_⟩; have n0_ := Aside0.mk (Kd.V_below (by (with_reducible repeat (first | apply Kd.V_alloc | apply Kd.V_drewN | apply Kd.V_drew)); exact HO_244000.out) hb); have n1_ := Aside0.mk (blk_below (g := gb243) (o := .cells #[.slice Ao73 x244000_1.length co73] 26 (0, 0)) (by (with_reducible repeat (first | refine blk_drewN ?_ _ | refine blk_drew ?_ | refine blk_alloc ?_ _)); exact BK243.out) hb); have n2_ := Aside0.mk (below_step (by repeat (first | (with_reducible first | exact HB.out | apply below_alloc | apply pw_below_drewN | apply below_drew1 | refine below_set ?_ GE243.out) | exact HB.out)) hb); clear HO_244000; clear BK243; clear HB; have HO_244000 := n0_; have BK243 := n1_; have HB := n2_; clear n0_ n1_ n2_; (try clear hb); (try clear hb2); (try clear hk); (try clear hi)) | ((with_reducible refine gate_dst (N := 12) rfl ?_); refine box_event ?hg (N := 12) ?hd (cs := #[.int .i64 0, .int .i64 0, .int .i64 0, .int .i64 0]) (t := 33) ?hr ?_; (case hd => rfl); (case hg => rfl); (case hr => first | (go_simp; done) | (go_simp; rfl)); intro gb263 hg w75 hbox hb; have n0_ := Aside0.mk (Kd.V_below (Kd.V_elderB (by (with_reducible repeat (first | apply Kd.V_alloc | apply Kd.V_drewN | apply Kd.V_drew)); exact HO_244000.out) gb263 (Nat.le_of_eq hg.symm)) hb); have n1_ := Aside0.mk (blk_below (g := gb243) (o := .cells #[.slice Ao73 x244000_1.length co73] 26 (0, 0)) (by (with_reducible repeat (first | refine blk_drewN ?_ _ | refine blk_drew ?_ | refine blk_alloc ?_ _)); exact BK243.out) hb); have n2_ := Aside0.mk (below_step (by repeat (first | (with_reducible first | exact HB.out | apply below_alloc | apply pw_below_drewN | apply below_drew1 | refine below_set ?_ GE243.out) | exact HB.out)) hb); have n3_ := Aside0.mk (hbox); have n4_ := Aside0.mk ((by rw [hg]; exact (below_size (by repeat (first | (with_reducible first | exact HB.out | apply below_alloc | apply pw_below_drewN | apply below_drew1 | refine below_set ?_ GE243.out) | exact HB.out))) : w.heap.size ≤ gb263)); have n5_ := Aside0.mk ((by rw [hg]; exact (below_size (by repeat (first | (with_reducible first | exact HB.out | apply below_alloc | apply pw_below_drewN | apply below_drew1 | refine below_set ?_ GE243.out) | exact HB.out))) : w.heap.size ≤ gb263)); have n6_ := Aside0.mk ((by rw [hg]; exact Nat.ne_of_lt (blk_lt (g := gb243) (o := .cells #[.slice Ao73 x244000_1.length co73] 26 (0, 0)) (by (with_reducible repeat (first | refine blk_drewN ?_ _ | refine blk_drew ?_ | refine blk_alloc ?_ _)); exact BK243.out)) : gb243 ≠ gb263)); have n7_ := Aside0.mk ((by rw [hg]; exact Nat.ne_of_gt (blk_lt (g := gb243) (o := .cells #[.slice Ao73 x244000_1.length co73] 26 (0, 0)) (by (with_reducible repeat (first | refine blk_drewN ?_ _ | refine blk_drew ?_ | refine blk_alloc ?_ _)); exact BK243.out)) : gb263 ≠ gb243)); clear HO_244000; clear BK243; clear HB; have HO_244000 := n0_; have BK243 := n1_; have HB := n2_; have BK263 := n3_; have GW263 := n4_; have GE263 := n5_; have NB243_263 := n6_; have NB263_243 := n7_; clear n0_ n1_ n2_ n3_ n4_ n5_ n6_ n7_; clear hb hbox hg; have hnb76 := NB263_243.out; have hnc76 := NB243_263.out; have hcz77_0 : w75.cell? ⟨gb263, 0, none⟩ = some (.int .i64 0) := (blk_cell BK263.out 0).trans rfl; have hcz77_1 : w75.cell? ⟨gb263, 1, none⟩ = some (.int .i64 0) := (blk_cell BK263.out 1).trans rfl; have hcz77_2 : w75.cell? ⟨gb263, 2, none⟩ = some (.int .i64 0) := (blk_cell BK263.out 2).trans rfl; have hcz77_3 : w75.cell? ⟨gb263, 3, none⟩ = some (.int .i64 0) := (blk_cell BK263.out 3).trans rfl; have hfz77_0 := blk_frozen BK263.out 0; have hfz77_1 := blk_frozen BK263.out 1; have hfz77_2 := blk_frozen BK263.out 2; have hfz77_3 := blk_frozen BK263.out 3; have hcz78_0 : w75.cell? ⟨gb243, 0, none⟩ = some (.slice Ao73 x244000_1.length co73) := (blk_cell BK243.out 0).trans rfl; have hfz78_0 := blk_frozen BK243.out 0) | (go_at_call 10; (with_reducible refine (tokens_Sane.calls k1 _ _ x244000_1 t264 _ ?side1 ?side2 A71.out).mono ?_); (case side1 => refine (Kd.V_reads' (e := 33) (base := w.heap.size) (ok := fun k_ => (k_ ≠ gb243 ∧ k_ ≠ gb263)) (n := x244000_1.length) (c := co73) ?_).2.2; exact (by (with_reducible repeat (first | apply Kd.V_alloc | apply Kd.V_drewN | apply Kd.V_drew)); exact (Kd.V_mono (Kd.V_far (p := ⟨gb263, 3, none⟩) (Kd.V_far (p := ⟨gb263, 2, none⟩) (Kd.V_far (p := ⟨gb263, 1, none⟩) (Kd.V_far (p := ⟨gb263, 0, none⟩) (Kd.V_mono HO_244000.out (fun k_ hk => (⟨hk, hk.2⟩ : _ ∧ k_ ≠ gb263))) (fun _ hk => hk.2) (.int .i64 t258)) (fun _ hk => hk.2) (.int .i64 t259)) (fun _ hk => hk.2) (.int .i64 t260)) (fun _ hk => hk.2) (.int .i64 t261)) (fun _ h_ => h_.1)))); (case side2 => exact (Kd.V_reads' HO_244000.out).2.1); rintro e w79 ⟨rfl, hb⟩; have n0_ := Aside0.mk (Kd.V_below (by (with_reducible repeat (first | apply Kd.V_alloc | apply Kd.V_drewN | apply Kd.V_drew)); exact (Kd.V_mono (Kd.V_far (p := ⟨gb263, 3, none⟩) (Kd.V_far (p := ⟨gb263, 2, none⟩) (Kd.V_far (p := ⟨gb263, 1, none⟩) (Kd.V_far (p := ⟨gb263, 0, none⟩) (Kd.V_mono HO_244000.out (fun k_ hk => (⟨hk, hk.2⟩ : _ ∧ k_ ≠ gb263))) (fun _ hk => hk.2) (.int .i64 t258)) (fun _ hk => hk.2) (.int .i64 t259)) (fun _ hk => hk.2) (.int .i64 t260)) (fun _ hk => hk.2) (.int .i64 t261)) (fun _ h_ => h_.1))) hb); have n1_ := Aside0.mk (blk_below (g := gb243) (o := .cells #[.slice Ao73 x244000_1.length co73] 26 (0, 0)) (by (with_reducible repeat (first | refine blk_drewN ?_ _ | refine blk_drew ?_ | refine blk_alloc ?_ _)); refine blk_far ?_ NB243_263.out _; (with_reducible repeat (first | refine blk_drewN ?_ _ | refine blk_drew ?_ | refine blk_alloc ?_ _)); refine blk_far ?_ NB243_263.out _; (with_reducible repeat (first | refine blk_drewN ?_ _ | refine blk_drew ?_ | refine blk_alloc ?_ _)); refine blk_far ?_ NB243_263.out _; (with_reducible repeat (first | refine blk_drewN ?_ _ | refine blk_drew ?_ | refine blk_alloc ?_ _)); refine blk_far ?_ NB243_263.out _; (with_reducible repeat (first | refine blk_drewN ?_ _ | refine blk_drew ?_ | refine blk_alloc ?_ _)); exact BK243.out) hb); have n2_ := Aside0.mk (blk_below (g := gb263) (o := .cells #[.int .i64 t258, .int .i64 t259, .int .i64 t260, .int .i64 t261] 33 (0, 0)) (by (with_reducible repeat (first | refine blk_drewN ?_ _ | refine blk_drew ?_ | refine blk_alloc ?_ _)); refine blk_put (cs := #[.int .i64 t258, .int .i64 t259, .int .i64 t260, .int .i64 0]) ?_ 3 _ rfl; (with_reducible repeat (first | refine blk_drewN ?_ _ | refine blk_drew ?_ | refine blk_alloc ?_ _)); refine blk_put (cs := #[.int .i64 t258, .int .i64 t259, .int .i64 0, .int .i64 0]) ?_ 2 _ rfl; (with_reducible repeat (first | refine blk_drewN ?_ _ | refine blk_drew ?_ | refine blk_alloc ?_ _)); refine blk_put (cs := #[.int .i64 t258, .int .i64 0, .int .i64 0, .int .i64 0]) ?_ 1 _ rfl; (with_reducible repeat (first | refine blk_drewN ?_ _ | refine blk_drew ?_ | refine blk_alloc ?_ _)); refine blk_put (cs := #[.int .i64 0, .int .i64 0, .int .i64 0, .int .i64 0]) ?_ 0 _ rfl; (with_reducible repeat (first | refine blk_drewN ?_ _ | refine blk_drew ?_ | refine blk_alloc ?_ _)); exact BK263.out) hb); have n3_ := Aside0.mk (below_step (by repeat (first | (with_reducible first | exact HB.out | apply below_alloc | apply pw_below_drewN | apply below_drew1 | refine below_set ?_ GE243.out | refine below_set ?_ GE263.out) | exact HB.out)) hb); clear HO_244000; clear BK243; clear BK263; clear HB; have HO_244000 := n0_; have BK243 := n1_; have BK263 := n2_; have HB := n3_; clear n0_ n1_ n2_ n3_; (try clear hb); (try clear hb2); (try clear hk); (try clear hi)))
                  go_ret
                  first | (with_reducible exact (clash2 A71 A66).elim) | (with_reducible exact (clash2 A66 A71).elim) | (with_reducible exact (clash2 A71 A3).elim) | (with_reducible exact (clash2 A3 A71).elim) | (with_reducible exact (clash2 A66 A3).elim) | (with_reducible exact (clash2 A3 A66).elim) | exact ⟨by first | rfl | (simp [errW_none, errW_some] <;> rfl) | (simp [*, errW_none, errW_some] <;> rfl), by repeat (first | (with_reducible first | exact HB.out | apply below_alloc | apply pw_below_drewN | apply below_drew1 | refine below_set ?_ GE243.out | refine below_set ?_ GE263.out) | exact HB.out)⟩
                · rw [if_neg c70] at H
                  exact absurd H (by simp)
              · replace c69 := Bool.eq_false_iff.mpr c69
                subst c69
                have H1 : (if ((x7_1 == 1) == false) = true then ((tokens_Sane.f k1 x244000_1).bind fun t265 => (some t265)) else (none)) = some r := by rw [if_neg (show ¬ (false = true) by decide)] at H; exact H
                clear H
                have H := H1
                clear H1
                by_cases c80 : ((x7_1 == 1) == false) = true
                · rw [if_pos c80] at H
                  have c80b0 : ((x7_1 == 1) == false) = true := c80
                  (try (have c80b1 : decide ((x7_1 == 1) = false) = true := by simpa using c80))
                  (try (have c80b2 : ((x7_1 == 1) == false) = true := by simpa using c80))
                  clear c80
                  replace H := Option.bind_eq_some_iff.mp H
                  obtain ⟨t265, A810, H⟩ := H
                  replace H : (some t265) = some r := H
                  have A81 := Aside0.mk A810
                  clear A810
                  obtain rfl := Option.some.inj H
                  have hcz82_0 : wr.cell? ⟨gb243, 0, none⟩ = some (u244000) := (blk_cell BK243.out 0).trans rfl
                  have hfz82_0 := blk_frozen BK243.out 0
                  obtain ⟨Ao83, co83, eo83⟩ := Kd.V_slice HO_244000.out
                  subst eo83
                  go_wp2_with (first | ((with_reducible refine gate_callee (f := 9) rfl ?_); refine goesL_ (some 110) rfl rfl Try.func9 (by kernel_rfl) rfl #[.agg #[.slice Ao83 x244000_1.length co83], .int .i64 a1] rfl (by (try simp only [List.map_toArray, List.map_cons, List.map_nil]); first | done | rfl | (simp only [List.length_drop, List.length_take]; rfl)) ?_; (with_reducible refine (tokens_Find.calls _ _ x244000_1 a1 t258 t259 t260 t261 false _ ?side1 ?side2 A66.out).mono ?_); (case side1 => repeat (first | exact (Kd.V_reads' HO_244000.out).2.2 | (with_reducible refine Kd.C_alloc ?_ _) | (with_reducible refine Kd.C_drewN ?_ _) | (with_reducible refine Kd.C_drew ?_))); (case side2 => exact (Kd.V_reads' HO_244000.out).2.1); rintro e w84 ⟨rfl, hb⟩; refine ⟨_, rfl, ?_⟩; have n0_ := Aside0.mk (Kd.V_below (by (with_reducible repeat (first | apply Kd.V_alloc | apply Kd.V_drewN | apply Kd.V_drew)); exact HO_244000.out) hb); have n1_ := Aside0.mk (blk_below (g := gb243) (o := .cells #[.slice Ao83 x244000_1.length co83] 26 (0, 0)) (by (with_reducible repeat (first | refine blk_drewN ?_ _ | refine blk_drew ?_ | refine blk_alloc ?_ _)); exact BK243.out) hb); have n2_ := Aside0.mk (below_step (by repeat (first | (with_reducible first | exact HB.out | apply below_alloc | apply pw_below_drewN | apply below_drew1 | refine below_set ?_ GE243.out) | exact HB.out)) hb); clear HO_244000; clear BK243; clear HB; have HO_244000 := n0_; have BK243 := n1_; have HB := n2_; clear n0_ n1_ n2_; (try clear hb); (try clear hb2); (try clear hk); (try clear hi)) | ((with_reducible refine gate_dst (N := 12) rfl ?_); refine box_event ?hg (N := 12) ?hd (cs := #[.int .i64 0, .int .i64 0, .int .i64 0, .int .i64 0]) (t := 33) ?hr ?_; (case hd => rfl); (case hg => rfl); (case hr => first | (go_simp; done) | (go_simp; rfl)); intro gb263 hg w85 hbox hb; have n0_ := Aside0.mk (Kd.V_below (Kd.V_elderB (by (with_reducible repeat (first | apply Kd.V_alloc | apply Kd.V_drewN | apply Kd.V_drew)); exact HO_244000.out) gb263 (Nat.le_of_eq hg.symm)) hb); have n1_ := Aside0.mk (blk_below (g := gb243) (o := .cells #[.slice Ao83 x244000_1.length co83] 26 (0, 0)) (by (with_reducible repeat (first | refine blk_drewN ?_ _ | refine blk_drew ?_ | refine blk_alloc ?_ _)); exact BK243.out) hb); have n2_ := Aside0.mk (below_step (by repeat (first | (with_reducible first | exact HB.out | apply below_alloc | apply pw_below_drewN | apply below_drew1 | refine below_set ?_ GE243.out) | exact HB.out)) hb); have n3_ := Aside0.mk (hbox); have n4_ := Aside0.mk ((by rw [hg]; exact (below_size (by repeat (first | (with_reducible first | exact HB.out | apply below_alloc | apply pw_below_drewN | apply below_drew1 | refine below_set ?_ GE243.out) | exact HB.out))) : w.heap.size ≤ gb263)); have n5_ := Aside0.mk ((by rw [hg]; exact (below_size (by repeat (first | (with_reducible first | exact HB.out | apply below_alloc | apply pw_below_drewN | apply below_drew1 | refine below_set ?_ GE243.out) | exact HB.out))) : w.heap.size ≤ gb263)); have n6_ := Aside0.mk ((by rw [hg]; exact Nat.ne_of_lt (blk_lt (g := gb243) (o := .cells #[.slice Ao83 x244000_1.length co83] 26 (0, 0)) (by (with_reducible repeat (first | refine blk_drewN ?_ _ | refine blk_drew ?_ | refine blk_alloc ?_ _)); exact BK243.out)) : gb243 ≠ gb263)); have n7_ := Aside0.mk ((by rw [hg]; exact Nat.ne_of_gt (blk_lt (g := gb243) (o := .cells #[.slice Ao83 x244000_1.length co83] 26 (0, 0)) (by (with_reducible repeat (first | refine blk_drewN ?_ _ | refine blk_drew ?_ | refine blk_alloc ?_ _)); exact BK243.out)) : gb263 ≠ gb243)); clear HO_244000; clear BK243; clear HB; have HO_244000 := n0_; have BK243 := n1_; have HB := n2_; have BK263 := n3_; have GW263 := n4_; have GE263 := n5_; have NB243_263 := n6_; have NB263_243 := n7_; clear n0_ n1_ n2_ n3_ n4_ n5_ n6_ n7_; clear hb hbox hg; have hnb86 := NB263_243.out; have hnc86 := NB243_263.out; have hcz87_0 : w85.cell? ⟨gb263, 0, none⟩ = some (.int .i64 0) := (blk_cell BK263.out 0).trans rfl; have hcz87_1 : w85.cell? ⟨gb263, 1, none⟩ = some (.int .i64 0) := (blk_cell BK263.out 1).trans rfl; have hcz87_2 : w85.cell? ⟨gb263, 2, none⟩ = some (.int .i64 0) := (blk_cell BK263.out 2).trans rfl; have hcz87_3 : w85.cell? ⟨gb263, 3, none⟩ = some (.int .i64 0) := (blk_cell BK263.out 3).trans rfl; have hfz87_0 := blk_frozen BK263.out 0; have hfz87_1 := blk_frozen BK263.out 1; have hfz87_2 := blk_frozen BK263.out 2; have hfz87_3 := blk_frozen BK263.out 3; have hcz88_0 : w85.cell? ⟨gb243, 0, none⟩ = some (.slice Ao83 x244000_1.length co83) := (blk_cell BK243.out 0).trans rfl; have hfz88_0 := blk_frozen BK243.out 0) | (go_at_call 10; (with_reducible refine (tokens_Sane.calls k1 _ _ x244000_1 t265 _ ?side1 ?side2 A81.out).mono ?_); (case side1 => refine (Kd.V_reads' (e := 33) (base := w.heap.size) (ok := fun k_ => (k_ ≠ gb243 ∧ k_ ≠ gb263)) (n := x244000_1.length) (c := co83) ?_).2.2; exact (by (with_reducible repeat (first | apply Kd.V_alloc | apply Kd.V_drewN | apply Kd.V_drew)); exact (Kd.V_mono (Kd.V_far (p := ⟨gb263, 3, none⟩) (Kd.V_far (p := ⟨gb263, 2, none⟩) (Kd.V_far (p := ⟨gb263, 1, none⟩) (Kd.V_far (p := ⟨gb263, 0, none⟩) (Kd.V_mono HO_244000.out (fun k_ hk => (⟨hk, hk.2⟩ : _ ∧ k_ ≠ gb263))) (fun _ hk => hk.2) (.int .i64 t258)) (fun _ hk => hk.2) (.int .i64 t259)) (fun _ hk => hk.2) (.int .i64 t260)) (fun _ hk => hk.2) (.int .i64 t261)) (fun _ h_ => h_.1)))); (case side2 => exact (Kd.V_reads' HO_244000.out).2.1); rintro e w89 ⟨rfl, hb⟩; have n0_ := Aside0.mk (Kd.V_below (by (with_reducible repeat (first | apply Kd.V_alloc | apply Kd.V_drewN | apply Kd.V_drew)); exact (Kd.V_mono (Kd.V_far (p := ⟨gb263, 3, none⟩) (Kd.V_far (p := ⟨gb263, 2, none⟩) (Kd.V_far (p := ⟨gb263, 1, none⟩) (Kd.V_far (p := ⟨gb263, 0, none⟩) (Kd.V_mono HO_244000.out (fun k_ hk => (⟨hk, hk.2⟩ : _ ∧ k_ ≠ gb263))) (fun _ hk => hk.2) (.int .i64 t258)) (fun _ hk => hk.2) (.int .i64 t259)) (fun _ hk => hk.2) (.int .i64 t260)) (fun _ hk => hk.2) (.int .i64 t261)) (fun _ h_ => h_.1))) hb); have n1_ := Aside0.mk (blk_below (g := gb243) (o := .cells #[.slice Ao83 x244000_1.length co83] 26 (0, 0)) (by (with_reducible repeat (first | refine blk_drewN ?_ _ | refine blk_drew ?_ | refine blk_alloc ?_ _)); refine blk_far ?_ NB243_263.out _; (with_reducible repeat (first | refine blk_drewN ?_ _ | refine blk_drew ?_ | refine blk_alloc ?_ _)); refine blk_far ?_ NB243_263.out _; (with_reducible repeat (first | refine blk_drewN ?_ _ | refine blk_drew ?_ | refine blk_alloc ?_ _)); refine blk_far ?_ NB243_263.out _; (with_reducible repeat (first | refine blk_drewN ?_ _ | refine blk_drew ?_ | refine blk_alloc ?_ _)); refine blk_far ?_ NB243_263.out _; (with_reducible repeat (first | refine blk_drewN ?_ _ | refine blk_drew ?_ | refine blk_alloc ?_ _)); exact BK243.out) hb); have n2_ := Aside0.mk (blk_below (g := gb263) (o := .cells #[.int .i64 t258, .int .i64 t259, .int .i64 t260, .int .i64 t261] 33 (0, 0)) (by (with_reducible repeat (first | refine blk_drewN ?_ _ | refine blk_drew ?_ | refine blk_alloc ?_ _)); refine blk_put (cs := #[.int .i64 t258, .int .i64 t259, .int .i64 t260, .int .i64 0]) ?_ 3 _ rfl; (with_reducible repeat (first | refine blk_drewN ?_ _ | refine blk_drew ?_ | refine blk_alloc ?_ _)); refine blk_put (cs := #[.int .i64 t258, .int .i64 t259, .int .i64 0, .int .i64 0]) ?_ 2 _ rfl; (with_reducible repeat (first | refine blk_drewN ?_ _ | refine blk_drew ?_ | refine blk_alloc ?_ _)); refine blk_put (cs := #[.int .i64 t258, .int .i64 0, .int .i64 0, .int .i64 0]) ?_ 1 _ rfl; (with_reducible repeat (first | refine blk_drewN ?_ _ | refine blk_drew ?_ | refine blk_alloc ?_ _)); refine blk_put (cs := #[.int .i64 0, .int .i64 0, .int .i64 0, .int .i64 0]) ?_ 0 _ rfl; (with_reducible repeat (first | refine blk_drewN ?_ _ | refine blk_drew ?_ | refine blk_alloc ?_ _)); exact BK263.out) hb); have n3_ := Aside0.mk (below_step (by repeat (first | (with_reducible first | exact HB.out | apply below_alloc | apply pw_below_drewN | apply below_drew1 | refine below_set ?_ GE243.out | refine below_set ?_ GE263.out) | exact HB.out)) hb); clear HO_244000; clear BK243; clear BK263; clear HB; have HO_244000 := n0_; have BK243 := n1_; have BK263 := n2_; have HB := n3_; clear n0_ n1_ n2_ n3_; (try clear hb); (try clear hb2); (try clear hk); (try clear hi)))
                  go_ret
                  first | (with_reducible exact (clash2 A81 A66).elim) | (with_reducible exact (clash2 A66 A81).elim) | (with_reducible exact (clash2 A81 A3).elim) | (with_reducible exact (clash2 A3 A81).elim) | (with_reducible exact (clash2 A66 A3).elim) | (with_reducible exact (clash2 A3 A66).elim) | exact ⟨by first | rfl | (simp [errW_none, errW_some] <;> rfl) | (simp [*, errW_none, errW_some] <;> rfl), by repeat (first | (with_reducible first | exact HB.out | apply below_alloc | apply pw_below_drewN | apply below_drew1 | refine below_set ?_ GE243.out | refine below_set ?_ GE263.out) | exact HB.out)⟩
                · rw [if_neg c80] at H
                  exact absurd H (by simp)
            · rw [if_neg c68] at H
              exact absurd H (by simp)
          · replace c67 := Bool.eq_false_iff.mpr c67
            subst c67
            have H1 : (none) = some r := by rw [if_neg (show ¬ (false = true) by decide)] at H; exact H
            clear H
            have H := H1
            clear H1
            exact absurd H (by simp)

/-- THE ONE PURE STATEMENT of godwitlaw12_TokensOnce. -/
def godwitlaw12_TokensOnce.Pure : Prop := ∀ (l0 : List (S28)) (a1 : Int), (l0.length * 24 ≤ 140737488351232 ∧ ∀ y0_ ∈ l0, ((Lit.int .i64 y0_.f0).wf = true) ∧ ((Lit.int .i64 y0_.f1).wf = true) ∧ ((Lit.int .i64 y0_.f2).wf = true)) → ((Lit.int .i64 a1).wf = true) → ∃ k, godwitlaw12_TokensOnce.f k l0 a1 = some true

end Go.Proofs.Ytaolmpchenpaeaa.Q
