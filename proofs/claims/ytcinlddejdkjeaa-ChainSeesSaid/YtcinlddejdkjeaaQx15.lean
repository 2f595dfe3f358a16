-- written by a turned copy of the kit's printer (wip/tools/patch_print.py over print.py); contracts of given functions are this session's own
import Derived.Test.YtcinlddejdkjeaaQx0
namespace Go.Proofs.Ytcinlddejdkjeaa.Q
open Go.RowKit Go.Proofs.YtcinlddejdkjeaaW.PrintWords Go.Proofs.YtcinlddejdkjeaaW.PrintLast Go.Proofs.YtcinlddejdkjeaaW.PrintMore Go.Proofs.Ytcinlddejdkjeaa.G
attribute [local go_sem] max2_int min2_int max_two min_two max_three min_three max_four min_four   -- for this text's walks alone
set_option linter.unusedVariables false
set_option linter.unusedSimpArgs false

/-! ### godwitlaw07_theirs: function 13 -/
def godwitlaw07_theirs.l0 : Nat → List (S37) → List (S46) → Int → Option ((List (S46)))
  | 0, _, _, _ => none
  | k + 1, x0, x3, x4 => if x4 < (x0.length : Int) then (if 0 ≤ x4 then (if x3.length < 3518437208883 then (godwitlaw07_theirs.l0 k x0 (x3 ++ [(⟨(rd_T37 x0 x4).f0, (rd_T37 x0 x4).f1, (rd_T37 x0 x4).f2⟩ : S46)]) (wrap64 (x4 + 1))) else (none)) else (none)) else (some x3)
def godwitlaw07_theirs.f (k : Nat) (l0 : List (S37)) : Option ((List (S46))) := godwitlaw07_theirs.l0 k l0 ([] : List (S46)) 0
theorem godwitlaw07_theirs.mono_l : ∀ k, (∀ y0 y1 y2, LeO (godwitlaw07_theirs.l0 k y0 y1 y2) (godwitlaw07_theirs.l0 (k + 1) y0 y1 y2))
  | 0 => fun _ _ _ r h => by simp [godwitlaw07_theirs.l0] at h
  | k + 1 => by
    have ih0 := godwitlaw07_theirs.mono_l k
    · intro y0 y1 y2
      unfold godwitlaw07_theirs.l0
      repeat' first
      | (with_reducible exact ih0 _ _ _)
      | (with_reducible exact LeO.refl _)
      | (with_reducible exact LeO.none _)
      | (with_reducible refine LeO.ite ?_ ?_)
      | (with_reducible refine LeO.bind ?_ (fun _ => ?_))
      | exact ih0 _ _ _
      | exact LeO.none _
      | refine LeO.ite ?_ ?_
      | refine LeO.bind ?_ (fun _ => ?_)
theorem godwitlaw07_theirs.mono : ∀ a0 k, LeO (godwitlaw07_theirs.f k a0) (godwitlaw07_theirs.f (k + 1) a0) := by
  intro a0 k
  have ih0 := godwitlaw07_theirs.mono_l k
  unfold godwitlaw07_theirs.f
  repeat' first
      | (with_reducible exact ih0 _ _ _)
      | (with_reducible exact LeO.refl _)
      | (with_reducible exact LeO.none _)
      | (with_reducible refine LeO.ite ?_ ?_)
      | (with_reducible refine LeO.bind ?_ (fun _ => ?_))
      | exact ih0 _ _ _
      | exact LeO.none _
      | refine LeO.ite ?_ ?_
      | refine LeO.bind ?_ (fun _ => ?_)
def godwitlaw07_theirs.T5 : Bool × List (List Nat × List Nat) := (true, [([], []), ([], []), ([], []), ([1, 2], [1, 2]), ([3], [3]), ([4], [4]), ([], []), ([], []), ([6, 7], [6, 7]), ([8], [8]), ([9], [9]), ([], []), ([], []), ([11, 12], [11, 12]), ([13], [13]), ([14], [14]), ([5, 10, 15], [5, 10, 15]), ([16], [16]), ([0, 17], [0, 17]), ([18, 18, 0, 1, 2, 3, 4, 5, 6, 7, 8, 9, 10, 11, 12, 13, 14, 15, 16, 17, 18], [0, 18])])
def godwitlaw07_theirs.B5 : List Nat := [0, 0, 0, 6, 14, 30, 0, 0, 192, 448, 960, 0, 0, 6144, 14336, 30720, 65534, 131070, 262143, 524287]
theorem godwitlaw07_theirs.tab5 : rtab .any (opsOf Try.f13 5) = godwitlaw07_theirs.T5 := by kernel_rfl
theorem godwitlaw07_theirs.bits5 : waitsOk godwitlaw07_theirs.T5.2 godwitlaw07_theirs.B5 = true := by kernel_rfl
set_option maxHeartbeats 8000000 in
set_option maxRecDepth 100000 in
theorem godwitlaw07_theirs.calls (k : Nat) (P0_ : Nat → Prop) (A0 : Option Addr) (c0 : Nat) (l0 : List (S37)) (r : List (S46)) (w : World) (hs0 : Kd.V k37 37 w w.heap.size (fun k_ => P0_ k_) (.slice A0 l0.length c0) l0) (h : godwitlaw07_theirs.f k l0 = some r) :
    Calls Try.prog 13 #[.slice A0 l0.length c0] w fun e w' => ∃ v0_ : Value, e = .returned (v0_) ∧ Kd.N k46 46 w' w.heap.size (fun k_ => (P0_ k_ ∨ w.heap.size ≤ k_)) v0_ r ∧ Below w.heap.size w w' := by
  have hu46 := Try.underlying46
  have HO0 := Aside0.mk (show Kd.V k37 37 w w.heap.size (fun k_ => (P0_ k_ ∨ w.heap.size ≤ k_)) (.slice A0 l0.length c0) l0 from Kd.V_mono hs0 (fun k_ hk => .inl hk))
  have HB := Aside0.mk (Below.refl w.heap.size w)
  have H : (godwitlaw07_theirs.l0 k l0 ([] : List (S46)) 0) = some r := h
  clear h
  have H' := Aside0.mk H
  clear H
  go_enter Try.func13, Try.ntmps13
  go_wp2
  go_loopg [3, 4] k (fun kq v3 v4 w' => ∃ (x3_1 : List (S46)) (x4_1 : Int), v4 = .int .i64 x4_1 ∧ Aside0 (godwitlaw07_theirs.l0 kq l0 x3_1 x4_1 = some r) ∧ Aside0 (kq ≤ k) ∧ Aside0 (Kd.V k37 37 w' w.heap.size (fun k_ => (P0_ k_ ∨ w.heap.size ≤ k_) ∧ some k_ ≠ (v3 : Value).ownBlock) (.slice A0 l0.length c0) l0) ∧ Aside0 (Kd.N k46 46 w' w.heap.size (fun k_ => (P0_ k_ ∨ w.heap.size ≤ k_)) v3 x3_1) ∧ Aside0 (Below w.heap.size w w'))
  case atStart => exact ⟨(([] : List (S46))), (0), (by first | rfl | (simp; done) | (simp [*]; done)), H', ⟨Nat.le_refl _⟩, ⟨by (with_reducible repeat (first | apply Kd.V_alloc | apply Kd.V_drewN | apply Kd.V_drew)); exact Kd.V_mono HO0.out (fun _ hk => ⟨hk, (by simp [Value.ownBlock])⟩)⟩, ⟨by first | exact Kd.S_nil _ _ _ _ _ | exact Kd.N_nil _ _ _ _ _ | exact Kd.V_nil _ _ _ _ _ | exact Kd.Q_nil _ _ _ _ _ | exact Kd.R_nil _ _ _ _ _⟩, ⟨by repeat (first | (with_reducible first | exact HB.out | apply below_alloc | apply pw_below_drewN | apply below_drew1) | exact HB.out)⟩⟩
  case round =>
    clear H'
    try clear c1
    obtain ⟨x3_1, x4_1, rfl, HA, HK1, HO_0, HO_3, HB⟩ := hrel
    cases gk with
    | zero => exact absurd HA.out (by simp [godwitlaw07_theirs.l0])
    | succ k1 =>
      have H := HA.out
      clear HA
      simp only [godwitlaw07_theirs.l0] at H
      by_cases c2 : x4_1 < (l0.length : Int)
      · rw [if_pos c2] at H
        have c2b0 : decide (x4_1 < (l0.length : Int)) = true := decide_eq_true c2
        clear c2
        by_cases c3 : 0 ≤ x4_1
        · rw [if_pos c3] at H
          have c3b0 : decide (0 ≤ x4_1) = true := decide_eq_true c3
          clear c3
          by_cases c4 : x3_1.length < 3518437208883
          · rw [if_pos c4] at H
            have LMc4 := Aside0.mk c4
            clear c4
            obtain ⟨y202, hy202⟩ : ∃ y_ : List (S46), y_ = (x3_1 ++ [(⟨(rd_T37 l0 x4_1).f0, (rd_T37 l0 x4_1).f1, (rd_T37 l0 x4_1).f2⟩ : S46)]) := ⟨_, rfl⟩
            replace H : (godwitlaw07_theirs.l0 k1 l0 y202 (wrap64 (x4_1 + 1))) = some r := by first | (rw [hy202]; with_reducible exact H) | (have H2_ := (Option.bind_some _ _).symm.trans H; rw [hy202]; with_reducible exact H2_) | (have H2_ := (Option.bind_some _ _).symm.trans H; with_reducible exact H2_) | with_reducible exact H | (rw [hy202]; exact H) | exact H
            have Ny202 := Aside0.mk hy202
            clear hy202
            have H' := Aside0.mk H
            clear H
            try go_wp2
            have n0_ := Aside0.mk (Kd.V_drew HO_0.out)
            have n1_ := Aside0.mk (Kd.N_drew HO_3.out)
            have n2_ := Aside0.mk (below_drew1 HB.out)
            clear HO_0
            clear HO_3
            clear HB
            have HO_0 := n0_
            have HO_3 := n1_
            have HB := n2_
            clear n0_ n1_ n2_
            have p199 : 0 ≤ (x4_1 : Int) := of_decide_eq_true (by first | (with_reducible assumption) | assumption)
            have q199 : x4_1 < (l0.length : Int) := of_decide_eq_true (by first | (with_reducible assumption) | assumption)
            obtain ⟨ad199, A199_1, c199_1, e199, hx199_0, hx199_1, hx199_2, hl199_1, hi199_1⟩ := at_T37 (Kd.V_reads' HO_0.out).2.2 x4_1 p199 q199
            cases e199
            obtain ⟨ce199, hce199, hMe199, hcc199⟩ := Kd.V_get HO_0.out z37 x4_1 p199 (by first | exact q199 | exact of_decide_eq_true (by first | (with_reducible assumption) | assumption) | (have e_ := (Kd.V_reads' HO_0.out).1; omega))
            obtain ⟨ua199_1, uc199_1, rfl, ul199_1, ge199_1⟩ := k37_openF hMe199
            have hv199_1 := hcc199 1 _ rfl
            rw [add_field _ _ 1 (by omega)] at hv199_1
            replace hv199_1 := Option.some.inj (hv199_1.symm.trans hx199_1)
            injection hv199_1 with hva_ hvn_ hvc_
            rw [hva_] at ge199_1
            rw [hvc_] at ul199_1
            have HL199_1 := Aside0.mk (show Kd.V (Kd.int .u8) 5 _ w.heap.size _ _ ((rd_T37 l0 x4_1).f1) from Kd.V_mk ul199_1 ge199_1)
            clear hva_ hvn_ hvc_ ge199_1 ul199_1
            clear hcc199 hce199
            have HR199_1 := Aside0.mk hi199_1
            have HC199_1 := Aside0.mk hl199_1
            clear hi199_1 hl199_1
            replace p199 := eq_true p199
            replace q199 := eq_true q199
            have p200 : 0 ≤ (x4_1 : Int) := of_decide_eq_true (by first | (with_reducible assumption) | assumption)
            have q200 : x4_1 < (l0.length : Int) := of_decide_eq_true (by first | (with_reducible assumption) | assumption)
            obtain ⟨ad200, A200_1, c200_1, e200, hx200_0, hx200_1, hx200_2, hl200_1, hi200_1⟩ := at_T37 (Kd.V_reads' HO_0.out).2.2 x4_1 p200 q200
            obtain rfl : ad199 = ad200 := (by injection e200)
            obtain ⟨ce200, hce200, hMe200, hcc200⟩ := Kd.V_get HO_0.out z37 x4_1 p200 (by first | exact q200 | exact of_decide_eq_true (by first | (with_reducible assumption) | assumption) | (have e_ := (Kd.V_reads' HO_0.out).1; omega))
            obtain ⟨ua200_1, uc200_1, rfl, ul200_1, ge200_1⟩ := k37_openF hMe200
            have hv200_1 := hcc200 1 _ rfl
            rw [add_field _ _ 1 (by omega)] at hv200_1
            replace hv200_1 := Option.some.inj (hv200_1.symm.trans hx200_1)
            injection hv200_1 with hva_ hvn_ hvc_
            rw [hva_] at ge200_1
            rw [hvc_] at ul200_1
            have HL200_1 := Aside0.mk (show Kd.V (Kd.int .u8) 5 _ w.heap.size _ _ ((rd_T37 l0 x4_1).f1) from Kd.V_mk ul200_1 ge200_1)
            clear hva_ hvn_ hvc_ ge200_1 ul200_1
            clear hcc200 hce200
            have HR200_1 := Aside0.mk hi200_1
            have HC200_1 := Aside0.mk hl200_1
            clear hi200_1 hl200_1
            replace p200 := eq_true p200
            replace q200 := eq_true q200
            have ea_ := Option.some.inj (hx199_1.symm.trans hx200_1)
            injection ea_ with ea_ en_ ec_
            subst ea_
            subst ec_
            clear en_
            have p201 : 0 ≤ (x4_1 : Int) := of_decide_eq_true (by first | (with_reducible assumption) | assumption)
            have q201 : x4_1 < (l0.length : Int) := of_decide_eq_true (by first | (with_reducible assumption) | assumption)
            obtain ⟨ad201, A201_1, c201_1, e201, hx201_0, hx201_1, hx201_2, hl201_1, hi201_1⟩ := at_T37 (Kd.V_reads' HO_0.out).2.2 x4_1 p201 q201
            obtain rfl : ad199 = ad201 := (by injection e201)
            obtain ⟨ce201, hce201, hMe201, hcc201⟩ := Kd.V_get HO_0.out z37 x4_1 p201 (by first | exact q201 | exact of_decide_eq_true (by first | (with_reducible assumption) | assumption) | (have e_ := (Kd.V_reads' HO_0.out).1; omega))
            obtain ⟨ua201_1, uc201_1, rfl, ul201_1, ge201_1⟩ := k37_openF hMe201
            have hv201_1 := hcc201 1 _ rfl
            rw [add_field _ _ 1 (by omega)] at hv201_1
            replace hv201_1 := Option.some.inj (hv201_1.symm.trans hx201_1)
            injection hv201_1 with hva_ hvn_ hvc_
            rw [hva_] at ge201_1
            rw [hvc_] at ul201_1
            have HL201_1 := Aside0.mk (show Kd.V (Kd.int .u8) 5 _ w.heap.size _ _ ((rd_T37 l0 x4_1).f1) from Kd.V_mk ul201_1 ge201_1)
            clear hva_ hvn_ hvc_ ge201_1 ul201_1
            clear hcc201 hce201
            have HR201_1 := Aside0.mk hi201_1
            have HC201_1 := Aside0.mk hl201_1
            clear hi201_1 hl201_1
            replace p201 := eq_true p201
            replace q201 := eq_true q201
            have ea_ := Option.some.inj (hx199_1.symm.trans hx201_1)
            injection ea_ with ea_ en_ ec_
            subst ea_
            subst ec_
            clear en_
            refine start_ (n := 20) (S := fun w' => w'.cell? (ad199.add ((x4_1).toNat * 3)) = some (.int .i64 ((rd_T37 l0 x4_1).f0)) ∧ w'.cell? ⟨(ad199.add ((x4_1).toNat * 3)).block, (ad199.add ((x4_1).toNat * 3)).off + 1, none⟩ = some (.slice A199_1 ((rd_T37 l0 x4_1).f1).length c199_1) ∧ w'.cell? ⟨(ad199.add ((x4_1).toNat * 3)).block, (ad199.add ((x4_1).toNat * 3)).off + 2, none⟩ = some (.bool ((rd_T37 l0 x4_1).f2)) ∧ w'.cell? (ad199.add ((x4_1).toNat * 3)) = some (.int .i64 ((rd_T37 l0 x4_1).f0)) ∧ w'.cell? ⟨(ad199.add ((x4_1).toNat * 3)).block, (ad199.add ((x4_1).toNat * 3)).off + 1, none⟩ = some (.slice A199_1 ((rd_T37 l0 x4_1).f1).length c199_1) ∧ w'.cell? ⟨(ad199.add ((x4_1).toNat * 3)).block, (ad199.add ((x4_1).toNat * 3)).off + 2, none⟩ = some (.bool ((rd_T37 l0 x4_1).f2)) ∧ w'.cell? (ad199.add ((x4_1).toNat * 3)) = some (.int .i64 ((rd_T37 l0 x4_1).f0)) ∧ w'.cell? ⟨(ad199.add ((x4_1).toNat * 3)).block, (ad199.add ((x4_1).toNat * 3)).off + 1, none⟩ = some (.slice A199_1 ((rd_T37 l0 x4_1).f1).length c199_1) ∧ w'.cell? ⟨(ad199.add ((x4_1).toNat * 3)).block, (ad199.add ((x4_1).toNat * 3)).off + 2, none⟩ = some (.bool ((rd_T37 l0 x4_1).f2))) (ds := [17, 18]) #[false, false, false, false, false, false, false, false, false, false, false, false, false, false, false, false, false, false, false, false] (by kernel_rfl) rfl rfl ⟨hx199_0, hx199_1, hx199_2, hx200_0, hx200_1, hx200_2, hx201_0, hx201_1, hx201_2⟩ (fun hHeld => ?_); refine with_tabW godwitlaw07_theirs.tab5 godwitlaw07_theirs.bits5 (fun HT_ HW_ => ?_)
            generalize wr.drew = w5 at HO_0 HO_3 HB HL199_1 HL200_1 HL201_1 HR199_1 HR200_1 HR201_1 hx199_0 hx199_1 hx199_2 hx200_0 hx200_1 hx200_2 hx201_0 hx201_1 hx201_2 hHeld ⊢
            refine pure_ (i := 0) (N := some 11) (v := ?_) (a' := ?_) #[true, false, false, false, false, false, false, false, false, false, false, false, false, false, false, false, false, false, false, false] rfl rfl (any_of HT_.out (by kernel_rfl)) (fun _ _ _ h => h) (Or.inl ⟨by rfl, ?_⟩) ?_ ?_
            rotate_left
            · intro w'
              go_simp
              with_reducible rfl
            rotate_left
            · simp only [Act.put, List.setIfInBounds_toArray, List.set_cons_zero, List.set_cons_succ, i64_w, i32_w]
              rfl
            refine pure_ (i := 1) (N := some 12) (v := ?_) (a' := ?_) #[true, true, false, false, false, false, false, false, false, false, false, false, false, false, false, false, false, false, false, false] rfl rfl (any_of HT_.out (by kernel_rfl)) (fun _ _ _ h => h) (Or.inl ⟨by rfl, ?_⟩) ?_ ?_
            rotate_left
            · intro w'
              go_simp
              with_reducible rfl
            rotate_left
            · simp only [Act.put, List.setIfInBounds_toArray, List.set_cons_zero, List.set_cons_succ, i64_w, i32_w]
              rfl
            refine pure_ (i := 2) (N := some 13) (v := ?_) (a' := ?_) #[true, true, true, false, false, false, false, false, false, false, false, false, false, false, false, false, false, false, false, false] rfl rfl (any_of HT_.out (by kernel_rfl)) (fun _ _ _ h => h) (Or.inl ⟨by rfl, ?_⟩) ?_ ?_
            rotate_left
            · intro w'
              go_simp
              with_reducible rfl
            rotate_left
            · simp only [Act.put, List.setIfInBounds_toArray, List.set_cons_zero, List.set_cons_succ, i64_w, i32_w]
              rfl
            refine pure_ (i := 3) (N := some 14) (v := ?_) (a' := ?_) #[true, true, true, true, false, false, false, false, false, false, false, false, false, false, false, false, false, false, false, false] rfl rfl (any_of HT_.out (by kernel_rfl)) (fun _ _ _ h => h) (Or.inl ⟨by rfl, ?_⟩) ?_ ?_
            rotate_left
            · intro w'
              go_simp
              with_reducible rfl
            rotate_left
            · simp only [Act.put, List.setIfInBounds_toArray, List.set_cons_zero, List.set_cons_succ, i64_w, i32_w]
              rfl
            refine pure_ (i := 4) (N := some 15) (v := ?_) (a' := ?_) #[true, true, true, true, true, false, false, false, false, false, false, false, false, false, false, false, false, false, false, false] rfl rfl (any_of HT_.out (by kernel_rfl)) (fun _ _ _ h => h) (Or.inl ⟨by rfl, ?_⟩) ?_ ?_
            rotate_left
            · intro w'
              go_simp
              with_reducible rfl
            rotate_left
            · simp only [Act.put, List.setIfInBounds_toArray, List.set_cons_zero, List.set_cons_succ, i64_w, i32_w]
              rfl
            refine pure_ (i := 6) (N := some 17) (v := ?_) (a' := ?_) #[true, true, true, true, true, false, true, false, false, false, false, false, false, false, false, false, false, false, false, false] rfl rfl (any_of HT_.out (by kernel_rfl)) (fun _ _ _ h => h) (Or.inl ⟨by rfl, ?_⟩) ?_ ?_
            rotate_left
            · intro w'
              go_simp
              with_reducible rfl
            rotate_left
            · simp only [Act.put, List.setIfInBounds_toArray, List.set_cons_zero, List.set_cons_succ, i64_w, i32_w]
              rfl
            refine pure_ (i := 7) (N := some 18) (v := ?_) (a' := ?_) #[true, true, true, true, true, false, true, true, false, false, false, false, false, false, false, false, false, false, false, false] rfl rfl (any_of HT_.out (by kernel_rfl)) (fun _ _ _ h => h) (Or.inl ⟨by rfl, ?_⟩) ?_ ?_
            rotate_left
            · intro w'
              go_simp
              with_reducible rfl
            rotate_left
            · simp only [Act.put, List.setIfInBounds_toArray, List.set_cons_zero, List.set_cons_succ, i64_w, i32_w]
              rfl
            refine pure_ (i := 8) (N := some 19) (v := ?_) (a' := ?_) #[true, true, true, true, true, false, true, true, true, false, false, false, false, false, false, false, false, false, false, false] rfl rfl (any_of HT_.out (by kernel_rfl)) (fun _ _ _ h => h) (Or.inl ⟨by rfl, ?_⟩) ?_ ?_
            rotate_left
            · intro w'
              go_simp
              with_reducible rfl
            rotate_left
            · simp only [Act.put, List.setIfInBounds_toArray, List.set_cons_zero, List.set_cons_succ, i64_w, i32_w]
              rfl
            refine pure_ (i := 9) (N := some 20) (v := ?_) (a' := ?_) #[true, true, true, true, true, false, true, true, true, true, false, false, false, false, false, false, false, false, false, false] rfl rfl (any_of HT_.out (by kernel_rfl)) (fun _ _ _ h => h) (Or.inl ⟨by rfl, ?_⟩) ?_ ?_
            rotate_left
            · intro w'
              go_simp
              with_reducible rfl
            rotate_left
            · simp only [Act.put, List.setIfInBounds_toArray, List.set_cons_zero, List.set_cons_succ, i64_w, i32_w]
              rfl
            refine pure_ (i := 11) (N := some 22) (v := ?_) (a' := ?_) #[true, true, true, true, true, false, true, true, true, true, false, true, false, false, false, false, false, false, false, false] rfl rfl (any_of HT_.out (by kernel_rfl)) (fun _ _ _ h => h) (Or.inl ⟨by rfl, ?_⟩) ?_ ?_
            rotate_left
            · intro w'
              go_simp
              with_reducible rfl
            rotate_left
            · simp only [Act.put, List.setIfInBounds_toArray, List.set_cons_zero, List.set_cons_succ, i64_w, i32_w]
              rfl
            refine pure_ (i := 12) (N := some 23) (v := ?_) (a' := ?_) #[true, true, true, true, true, false, true, true, true, true, false, true, true, false, false, false, false, false, false, false] rfl rfl (any_of HT_.out (by kernel_rfl)) (fun _ _ _ h => h) (Or.inl ⟨by rfl, ?_⟩) ?_ ?_
            rotate_left
            · intro w'
              go_simp
              with_reducible rfl
            rotate_left
            · simp only [Act.put, List.setIfInBounds_toArray, List.set_cons_zero, List.set_cons_succ, i64_w, i32_w]
              rfl
            refine pure_ (i := 13) (N := some 24) (v := ?_) (a' := ?_) #[true, true, true, true, true, false, true, true, true, true, false, true, true, true, false, false, false, false, false, false] rfl rfl (any_of HT_.out (by kernel_rfl)) (fun _ _ _ h => h) (Or.inl ⟨by rfl, ?_⟩) ?_ ?_
            rotate_left
            · intro w'
              go_simp
              with_reducible rfl
            rotate_left
            · simp only [Act.put, List.setIfInBounds_toArray, List.set_cons_zero, List.set_cons_succ, i64_w, i32_w]
              rfl
            refine pure_ (i := 14) (N := some 25) (v := ?_) (a' := ?_) #[true, true, true, true, true, false, true, true, true, true, false, true, true, true, true, false, false, false, false, false] rfl rfl (any_of HT_.out (by kernel_rfl)) (fun _ _ _ h => h) (Or.inl ⟨by rfl, ?_⟩) ?_ ?_
            rotate_left
            · intro w'
              go_simp
              with_reducible rfl
            rotate_left
            · simp only [Act.put, List.setIfInBounds_toArray, List.set_cons_zero, List.set_cons_succ, i64_w, i32_w]
              rfl
            refine take_ (i := 5) (N := some 16) (v := ?_) (a' := ?_) #[true, true, true, true, true, true, true, true, true, true, false, true, true, true, true, false, false, false, false, false] rfl rfl (take_ofW HT_.out HW_.out (by kernel_rfl)) (fun _ _ _ h => h) (Or.inl ⟨by rfl, ?_⟩) hHeld ?_ ?_
            rotate_left
            · rintro w' ⟨s0, s1, s2, s3, s4, s5, s6, s7, s8⟩
              go_simp
              with_reducible rfl
            rotate_left
            · simp only [Act.put, List.setIfInBounds_toArray, List.set_cons_zero, List.set_cons_succ, i64_w, i32_w]
              rfl
            refine take_ (i := 10) (N := some 21) (v := ?_) (a' := ?_) #[true, true, true, true, true, true, true, true, true, true, true, true, true, true, true, false, false, false, false, false] rfl rfl (take_ofW HT_.out HW_.out (by kernel_rfl)) (fun _ _ _ h => h) (Or.inl ⟨by rfl, ?_⟩) hHeld ?_ ?_
            rotate_left
            · rintro w' ⟨s0, s1, s2, s3, s4, s5, s6, s7, s8⟩
              go_simp
              with_reducible rfl
            rotate_left
            · simp only [Act.put, List.setIfInBounds_toArray, List.set_cons_zero, List.set_cons_succ, i64_w, i32_w]
              rfl
            refine take_ (i := 15) (N := some 26) (v := ?_) (a' := ?_) #[true, true, true, true, true, true, true, true, true, true, true, true, true, true, true, true, false, false, false, false] rfl rfl (take_ofW HT_.out HW_.out (by kernel_rfl)) (fun _ _ _ h => h) (Or.inl ⟨by rfl, ?_⟩) hHeld ?_ ?_
            rotate_left
            · rintro w' ⟨s0, s1, s2, s3, s4, s5, s6, s7, s8⟩
              go_simp
              with_reducible rfl
            rotate_left
            · simp only [Act.put, List.setIfInBounds_toArray, List.set_cons_zero, List.set_cons_succ, i64_w, i32_w]
              rfl
            refine pure_ (i := 16) (N := some 27) (v := ?_) (a' := ?_) #[true, true, true, true, true, true, true, true, true, true, true, true, true, true, true, true, true, false, false, false] rfl rfl (any_of HT_.out (by kernel_rfl)) (fun _ _ _ h => h) (Or.inl ⟨by rfl, ?_⟩) ?_ ?_
            rotate_left
            · intro w'
              go_simp
              with_reducible rfl
            rotate_left
            · simp only [Act.put, List.setIfInBounds_toArray, List.set_cons_zero, List.set_cons_succ, i64_w, i32_w]
              rfl
            refine last_ (i := 17) (N := some 28) #[true, true, true, true, true, true, true, true, true, true, true, true, true, true, true, true, true, true, false, false] rfl rfl (one_of HT_.out (by kernel_rfl)) (by decide) (fun K hK => ?_)
            refine value_ (w1 := ?_) (v := ?_) (by rfl) rfl ?_ ?_
            rotate_left 2
            · go_simp
              constructor
              · rfl
              · rfl
            refine hK.out _ _ ?_
            clear hK K
            refine norm_ (a' := ?_) ?_ ?_
            rotate_left
            · show Act.put _ (some 28) _ = _
              simp only [Act.put, List.setIfInBounds_toArray, List.set_cons_zero, List.set_cons_succ, i64_w, i32_w]
              rfl
            refine last_ (i := 18) (N := some 29) #[true, true, true, true, true, true, true, true, true, true, true, true, true, true, true, true, true, true, true, false] rfl rfl (one_of HT_.out (by kernel_rfl)) (by decide) (fun K hK => ?_)
            refine Kd.N_append_step k46 (w0 := w) w.heap.size (by rfl) (.tmp 11) (.tmp 28) 22 46 (.agg #[(.int .i64 0), (.slice none 0 0), (.bool false)]) 40 rfl Try.underlying22 info46 rfl (by decide) (by omega) u3 x3_1 (⟨(rd_T37 l0 x4_1).f0, (rd_T37 l0 x4_1).f1, (rd_T37 l0 x4_1).f2⟩ : S46) [.int .i64 ((rd_T37 l0 x4_1).f0), .slice A199_1 ((rd_T37 l0 x4_1).f1).length c199_1, .bool ((rd_T37 l0 x4_1).f2)] (fun k_ => (P0_ k_ ∨ w.heap.size ≤ k_)) (fun k_ => ((fun k_ => (P0_ k_ ∨ w.heap.size ≤ k_))) k_ ∧ some k_ ≠ (u3 : Value).ownBlock) rfl rfl ?aP (fun _ hk => hk) ?aF ?aO ?aB ?aS ?aL ?_
            (case aP => exact (k46_mkF _ _ (⟨(rd_T37 l0 x4_1).f0, (rd_T37 l0 x4_1).f1, (rd_T37 l0 x4_1).f2⟩ : S46) (Kd.V_reads' (Kd.V_mono (ok' := (fun k_ => ((fun k_ => (P0_ k_ ∨ w.heap.size ≤ k_))) k_ ∧ some k_ ≠ (u3 : Value).ownBlock)) (HL200_1.out) (fun k_ hk => ⟨hk.1, hk.2⟩))).2.1 (Kd.V_F (Kd.V_mono (ok' := (fun k_ => ((fun k_ => (P0_ k_ ∨ w.heap.size ≤ k_))) k_ ∧ some k_ ≠ (u3 : Value).ownBlock)) (HL200_1.out) (fun k_ hk => ⟨hk.1, hk.2⟩)))))
            (case aB => exact (by repeat (first | (with_reducible first | exact HB.out | apply below_alloc | apply pw_below_drewN | apply below_drew1) | exact HB.out)))
            (case aF => exact (fun k_ hk => (.inr (Nat.le_trans (below_size (by repeat (first | (with_reducible first | exact HB.out | apply below_alloc | apply pw_below_drewN | apply below_drew1) | exact HB.out))) hk))))
            (case aO => exact (by (with_reducible repeat (first | apply Kd.N_alloc | apply Kd.N_drewN | apply Kd.N_drew)); exact HO_3.out))
            (case aS => exact (below_size (by repeat (first | (with_reducible first | exact HB.out | apply below_alloc | apply pw_below_drewN | apply below_drew1) | exact HB.out))))
            (case aL => have := LMc4.out; omega)
            intro v203 w6 ho hb hg hat
            rw [← Ny202.out] at ho
            have n0_ := Aside0.mk (Kd.V_afterv (ok := (fun k_ => (P0_ k_ ∨ w.heap.size ≤ k_))) (by (with_reducible repeat (first | apply Kd.V_alloc | apply Kd.V_drewN | apply Kd.V_drew)); exact HO_0.out) hg hat)
            have n1_ := Aside0.mk (Kd.V_afterv (ok := (fun k_ => (P0_ k_ ∨ w.heap.size ≤ k_))) (by (with_reducible repeat (first | apply Kd.V_alloc | apply Kd.V_drewN | apply Kd.V_drew)); exact HL199_1.out) hg hat)
            have n2_ := Aside0.mk (Kd.V_afterv (ok := (fun k_ => (P0_ k_ ∨ w.heap.size ≤ k_))) (by (with_reducible repeat (first | apply Kd.V_alloc | apply Kd.V_drewN | apply Kd.V_drew)); exact HL200_1.out) hg hat)
            have n3_ := Aside0.mk (Kd.V_afterv (ok := (fun k_ => (P0_ k_ ∨ w.heap.size ≤ k_))) (by (with_reducible repeat (first | apply Kd.V_alloc | apply Kd.V_drewN | apply Kd.V_drew)); exact HL201_1.out) hg hat)
            have n4_ := Aside0.mk (hb)
            have n5_ := Aside0.mk (ho)
            clear HO_0
            clear HL199_1
            clear HL200_1
            clear HL201_1
            clear HB
            clear HO_3
            have HO_0 := n0_
            have HL199_1 := n1_
            have HL200_1 := n2_
            have HL201_1 := n3_
            have HB := n4_
            have HO204 := n5_
            clear n0_ n1_ n2_ n3_ n4_ n5_
            clear ho hb hg hat
            refine hK.out _ _ ?_
            clear hK K
            refine norm_ (a' := ?_) ?_ ?_
            rotate_left
            · show Act.put _ (some 29) _ = _
              simp only [Act.put, List.setIfInBounds_toArray, List.set_cons_zero, List.set_cons_succ, i64_w, i32_w]
              rfl
            refine pure_ (i := 19) (N := some 3) (v := ?_) (a' := ?_) #[true, true, true, true, true, true, true, true, true, true, true, true, true, true, true, true, true, true, true, true] rfl rfl (any_of HT_.out (by kernel_rfl)) (fun _ _ _ h => h) (Or.inl ⟨by rfl, ?_⟩) ?_ ?_
            rotate_left
            · intro w'
              go_simp
              with_reducible rfl
            rotate_left
            · simp only [Act.put, List.setIfInBounds_toArray, List.set_cons_zero, List.set_cons_succ, i64_w, i32_w]
              rfl
            refine done_ (done_of HT_.out (by kernel_rfl)) ?_
            try go_wp2
            go_roundg k1
            case measure => have := HK1.out; omega
            case rel => exact ⟨(y202), (wrap64 (x4_1 + 1)), (by first | rfl | (simp; done) | (simp [*]; done)), H', ⟨by have := HK1.out; omega⟩, ⟨by (with_reducible repeat (first | apply Kd.V_alloc | apply Kd.V_drewN | apply Kd.V_drew)); exact HO_0.out⟩, ⟨by (with_reducible repeat (first | apply Kd.N_alloc | apply Kd.N_drewN | apply Kd.N_drew)); exact HO204.out⟩, ⟨by repeat (first | (with_reducible first | exact HB.out | apply below_alloc | apply pw_below_drewN | apply below_drew1) | exact HB.out)⟩⟩
          · rw [if_neg c4] at H
            exact absurd H (by simp)
        · rw [if_neg c3] at H
          exact absurd H (by simp)
      · rw [if_neg c2] at H
        have c2b0 : decide (x4_1 < (l0.length : Int)) = false := decide_eq_false c2
        clear c2
        obtain rfl := Option.some.inj H
        go_wp2
        go_ret
        exact ⟨_, by first | rfl | (simp [errW_none, errW_some] <;> rfl) | (simp [*, errW_none, errW_some] <;> rfl), by (with_reducible repeat (first | apply Kd.N_alloc | apply Kd.N_drewN | apply Kd.N_drew)); exact HO_3.out, by repeat (first | (with_reducible first | exact HB.out | apply below_alloc | apply pw_below_drewN | apply below_drew1) | exact HB.out)⟩

end Go.Proofs.Ytcinlddejdkjeaa.Q
