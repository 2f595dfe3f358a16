-- written by a turned copy of the kit's printer (wip/tools/patch_print.py over print.py); contracts of given functions are this session's own
import Derived.Test.YtfldileaolomlaaQx0
import Derived.Test.YtfldileaolomlaaQx1
import Derived.Test.YtfldileaolomlaaQx2
namespace Go.Proofs.Ytfldileaolomlaa.Q
open Go.RowKit Go.Proofs.YtfldileaolomlaaW.PrintWords Go.Proofs.YtfldileaolomlaaW.PrintLast Go.Proofs.YtfldileaolomlaaW.PrintMore Go.Proofs.Ytfldileaolomlaa.G
attribute [local go_sem] max2_int min2_int max_two min_two max_three min_three max_four min_four   -- for this text's walks alone
set_option linter.unusedVariables false
set_option linter.unusedSimpArgs false

/-! ### godwitlaw02_CrcTurns: function 3 -/
mutual
def godwitlaw02_CrcTurns.j0 : Nat → List Int → Int → Int → Bool → Bool → Option (Bool)
  | 0, _, _, _, _, _ => none
  | k + 1, x0, x1, x2, x7, x19 => if x19 = true then (some x7) else (if (wrap64 ((x0.length : Int) - 3)) = 0 then (none) else ((some (([] : List Int) : List Int)).bind fun y107 => (if y107.length + x0.length < 140737488355328 then (godwitlaw02_CrcTurns.l0 k x0 x2 x7 (Int.tmod (Go.bits .and .i64 x1 65535) (wrap64 ((x0.length : Int) - 3))) (y107 ++ x0) 0) else (none))))
def godwitlaw02_CrcTurns.l0 : Nat → List Int → Int → Bool → Int → List Int → Int → Option (Bool)
  | 0, _, _, _, _, _, _ => none
  | k + 1, x0, x2, x7, x8, x9, x10 => if x10 < 4 then (if 0 ≤ (wrap64 (x8 + x10)) then (if (wrap64 (x8 + x10)) < (x9.length : Int) then (if 0 ≤ (IntKind.u64.wrap (wrap64 (8 * x10))) then (godwitlaw02_CrcTurns.l0 k x0 x2 x7 x8 (x9.set ((wrap64 (x8 + x10)) : Int).toNat (Go.bits .xor .u8 (rd x9 (wrap64 (x8 + x10))) ((shr .u32 x2 (IntKind.u64.wrap (wrap64 (8 * x10)))) % 256))) (wrap64 (x10 + 1))) else (none)) else (none)) else (none)) else (if x7 = true then ((crc_Of.f x0).bind fun t115 => ((crc_Of.f x9).bind fun t116 => (some ((t115 == t116) == (x2 == 0))))) else (none))
end
def godwitlaw02_CrcTurns.f (k : Nat) (l0 : List Int) (a1 : Int) (a2 : Int) : Option (Bool) := (godwitlaw02_awake.f).bind fun t106 => (if (l0.length : Int) > 2000 then (godwitlaw02_CrcTurns.j0 k l0 a1 a2 t106 true) else (godwitlaw02_CrcTurns.j0 k l0 a1 a2 t106 (decide ((l0.length : Int) < 4))))
theorem godwitlaw02_CrcTurns.mono_l : ∀ k, (∀ y0 y1 y2 y3 y4, LeO (godwitlaw02_CrcTurns.j0 k y0 y1 y2 y3 y4) (godwitlaw02_CrcTurns.j0 (k + 1) y0 y1 y2 y3 y4)) ∧ (∀ y0 y1 y2 y3 y4 y5, LeO (godwitlaw02_CrcTurns.l0 k y0 y1 y2 y3 y4 y5) (godwitlaw02_CrcTurns.l0 (k + 1) y0 y1 y2 y3 y4 y5))
  | 0 => ⟨fun _ _ _ _ _ r h => by simp [godwitlaw02_CrcTurns.j0] at h, fun _ _ _ _ _ _ r h => by simp [godwitlaw02_CrcTurns.l0] at h⟩
  | k + 1 => by
    obtain ⟨ih0, ih1⟩ := godwitlaw02_CrcTurns.mono_l k
    refine ⟨?_, ?_⟩
    · intro y0 y1 y2 y3 y4
      unfold godwitlaw02_CrcTurns.j0
      repeat' first
      | (with_reducible exact ih0 _ _ _ _ _)
      | (with_reducible exact ih1 _ _ _ _ _ _)
      | (with_reducible exact LeO.refl _)
      | (with_reducible exact LeO.none _)
      | (with_reducible refine LeO.ite ?_ ?_)
      | (with_reducible refine LeO.bind ?_ (fun _ => ?_))
      | exact ih0 _ _ _ _ _
      | exact ih1 _ _ _ _ _ _
      | exact LeO.none _
      | refine LeO.ite ?_ ?_
      | refine LeO.bind ?_ (fun _ => ?_)
    · intro y0 y1 y2 y3 y4 y5
      unfold godwitlaw02_CrcTurns.l0
      repeat' first
      | (with_reducible exact ih0 _ _ _ _ _)
      | (with_reducible exact ih1 _ _ _ _ _ _)
      | (with_reducible exact LeO.refl _)
      | (with_reducible exact LeO.none _)
      | (with_reducible refine LeO.ite ?_ ?_)
      | (with_reducible refine LeO.bind ?_ (fun _ => ?_))
      | exact ih0 _ _ _ _ _
      | exact ih1 _ _ _ _ _ _
      | exact LeO.none _
      | refine LeO.ite ?_ ?_
      | refine LeO.bind ?_ (fun _ => ?_)
theorem godwitlaw02_CrcTurns.mono : ∀ a0 a1 a2 k, LeO (godwitlaw02_CrcTurns.f k a0 a1 a2) (godwitlaw02_CrcTurns.f (k + 1) a0 a1 a2) := by
  intro a0 a1 a2 k
  obtain ⟨ih0, ih1⟩ := godwitlaw02_CrcTurns.mono_l k
  unfold godwitlaw02_CrcTurns.f
  repeat' first
      | (with_reducible exact ih0 _ _ _ _ _)
      | (with_reducible exact ih1 _ _ _ _ _ _)
      | (with_reducible exact LeO.refl _)
      | (with_reducible exact LeO.none _)
      | (with_reducible refine LeO.ite ?_ ?_)
      | (with_reducible refine LeO.bind ?_ (fun _ => ?_))
      | exact ih0 _ _ _ _ _
      | exact ih1 _ _ _ _ _ _
      | exact LeO.none _
      | refine LeO.ite ?_ ?_
      | refine LeO.bind ?_ (fun _ => ?_)
set_option maxHeartbeats 8000000 in
set_option maxRecDepth 100000 in
theorem godwitlaw02_CrcTurns.calls (k : Nat) (A0 : Option Addr) (c0 : Nat) (l0 : List Int) (a1 : Int) (a2 : Int) (r : Bool) (w : World) (hr0 : Kd.C (Kd.int .u8) w A0 l0.length l0) (hc0 : l0.length ≤ c0) (h : godwitlaw02_CrcTurns.f k l0 a1 a2 = some r) :
    Calls Try.prog 3 #[.slice A0 l0.length c0, .int .i64 a1, .int .u32 a2] w fun e w' => e = .returned (.bool r) ∧ Below w.heap.size w w' := by
  have HR0 := Aside0.mk hr0
  have HC0 := Aside0.mk hc0
  clear hr0 hc0
  have HB := Aside0.mk (Below.refl w.heap.size w)
  have H : ((godwitlaw02_awake.f).bind fun t106 => (if (l0.length : Int) > 2000 then (godwitlaw02_CrcTurns.j0 k l0 a1 a2 t106 true) else (godwitlaw02_CrcTurns.j0 k l0 a1 a2 t106 (decide ((l0.length : Int) < 4))))) = some r := h
  clear h
  replace H := Option.bind_eq_some_iff.mp H
  obtain ⟨t106, A40, H⟩ := H
  replace H : (if (l0.length : Int) > 2000 then (godwitlaw02_CrcTurns.j0 k l0 a1 a2 t106 true) else (godwitlaw02_CrcTurns.j0 k l0 a1 a2 t106 (decide ((l0.length : Int) < 4)))) = some r := H
  have A4 := Aside0.mk A40
  clear A40
  have HC5 := Aside0.mk H
  clear H
  go_enter Try.func3, Try.ntmps3
  go_upto_region 2 with (first | ((with_reducible refine gate_callee (f := 9) rfl ?_); refine goesL_ (some 11) rfl rfl Try.func9 (by kernel_rfl) rfl #[] rfl (by (try simp only [List.map_toArray, List.map_cons, List.map_nil]); first | done | rfl | (simp only [List.length_drop, List.length_take]; rfl)) ?_; (with_reducible refine (godwitlaw02_awake.calls  t106 _ A4.out).mono ?_); rintro e w6 ⟨rfl, hb⟩; refine ⟨_, rfl, ?_⟩; have n0_ := Aside0.mk (below_step (by repeat (first | (with_reducible first | exact HB.out | apply below_alloc | apply pw_below_drewN | apply below_drew1) | exact HB.out)) hb); clear HB; have HB := n0_; clear n0_; (try clear hb); (try clear hb2); (try clear hk); (try clear hi)))
  (try simp only [Act.put, List.setIfInBounds_toArray, List.set_cons_zero, List.set_cons_succ])
  go_cut [19] (fun v19 wc => ∃ (kq : Nat) (x19_4 : Bool), v19 = .bool x19_4 ∧ Aside0 (godwitlaw02_CrcTurns.j0 kq l0 a1 a2 t106 x19_4 = some r) ∧ Aside0 (kq ≤ k) ∧ Aside0 (Below w.heap.size w wc))
  case first =>
    have H := HC5.out
    clear HC5
    by_cases c7 : (l0.length : Int) > 2000
    · rw [if_pos c7] at H
      have c7b0 : decide (2000 < (l0.length : Int)) = true := decide_eq_true c7
      have c7b1 : decide (2000 < l0.length) = true := decide_eq_true (by omega)
      clear c7
      (first | rw [c7b0] | (simp only [i64_w, i32_w]; rw [c7b0]) | skip)
      have H' := Aside0.mk H
      clear H
      go_wp2
      go_meet
      case rel => exact ⟨_, (true), (by first | rfl | (simp; done) | (simp [*]; done)), H', ⟨by first | omega | exact Nat.le_refl _⟩, ⟨by repeat (first | (with_reducible first | exact HB.out | apply below_alloc | apply pw_below_drewN | apply below_drew1) | exact HB.out)⟩⟩
    · rw [if_neg c7] at H
      have c7b0 : decide (2000 < (l0.length : Int)) = false := decide_eq_false c7
      have c7b1 : decide (2000 < l0.length) = false := decide_eq_false (by omega)
      clear c7
      (first | rw [c7b0] | (simp only [i64_w, i32_w]; rw [c7b0]) | skip)
      have H' := Aside0.mk H
      clear H
      go_wp2
      go_meet
      case rel => exact ⟨_, (decide ((l0.length : Int) < 4)), (by first | rfl | (simp; done) | (simp [*]; done)), H', ⟨by first | omega | exact Nat.le_refl _⟩, ⟨by repeat (first | (with_reducible first | exact HB.out | apply below_alloc | apply pw_below_drewN | apply below_drew1) | exact HB.out)⟩⟩
  case rest =>
    clear HC5
    try clear p2
    try clear c3
    try clear c7
    try clear c7b0
    try clear c7b1
    obtain ⟨kq, x19_4, rfl, HA, HJ4, HB⟩ := hcut
    cases kq with
    | zero => exact absurd HA.out (by simp [godwitlaw02_CrcTurns.j0])
    | succ kj4 =>
      have H := HA.out
      clear HA
      simp only [godwitlaw02_CrcTurns.j0] at H
      by_cases c8 : x19_4 = true
      · subst c8
        have H1 : (some t106) = some r := by rw [if_pos rfl] at H; exact H
        clear H
        have H := H1
        clear H1
        obtain rfl := Option.some.inj H
        go_wp2
        go_ret
        exact ⟨by first | rfl | (simp [errW_none, errW_some] <;> rfl) | (simp [*, errW_none, errW_some] <;> rfl), by repeat (first | (with_reducible first | exact HB.out | apply below_alloc | apply pw_below_drewN | apply below_drew1) | exact HB.out)⟩
      · replace c8 := Bool.eq_false_iff.mpr c8
        subst c8
        have H1 : (if (wrap64 ((l0.length : Int) - 3)) = 0 then (none) else ((some (([] : List Int) : List Int)).bind fun y107 => (if y107.length + l0.length < 140737488355328 then (godwitlaw02_CrcTurns.l0 kj4 l0 a2 t106 (Int.tmod (Go.bits .and .i64 a1 65535) (wrap64 ((l0.length : Int) - 3))) (y107 ++ l0) 0) else (none)))) = some r := by rw [if_neg (show ¬ (false = true) by decide)] at H; exact H
        clear H
        have H := H1
        clear H1
        by_cases c9 : (wrap64 ((l0.length : Int) - 3)) = 0
        · rw [if_pos c9] at H
          exact absurd H (by simp)
        · rw [if_neg c9] at H
          have c9b0 : ((wrap64 ((l0.length : Int) - 3)) == 0) = false := beq_eq_false_iff_ne.mpr c9
          have c9b1 : ((wrap64 ((l0.length : Int) - 3)) != 0) = true := bne_iff_ne.mpr c9
          obtain ⟨y107, hy107⟩ : ∃ y_ : List Int, y_ = (([] : List Int)) := ⟨_, rfl⟩
          replace H : (if y107.length + l0.length < 140737488355328 then (godwitlaw02_CrcTurns.l0 kj4 l0 a2 t106 (Int.tmod (Go.bits .and .i64 a1 65535) (wrap64 ((l0.length : Int) - 3))) (y107 ++ l0) 0) else (none)) = some r := by first | (rw [hy107]; with_reducible exact H) | (have H2_ := (Option.bind_some _ _).symm.trans H; rw [hy107]; with_reducible exact H2_) | (have H2_ := (Option.bind_some _ _).symm.trans H; with_reducible exact H2_) | with_reducible exact H | (rw [hy107]; exact H) | exact H
          have Ny107 := Aside0.mk hy107
          clear hy107
          by_cases c10 : y107.length + l0.length < 140737488355328
          · rw [if_pos c10] at H
            have LMc10 := Aside0.mk c10
            clear c10
            obtain ⟨y110, hy110⟩ : ∃ y_ : List Int, y_ = (y107 ++ l0) := ⟨_, rfl⟩
            replace H : (godwitlaw02_CrcTurns.l0 kj4 l0 a2 t106 (Int.tmod (Go.bits .and .i64 a1 65535) (wrap64 ((l0.length : Int) - 3))) y110 0) = some r := by first | (rw [hy110]; with_reducible exact H) | (have H2_ := (Option.bind_some _ _).symm.trans H; rw [hy110]; with_reducible exact H2_) | (have H2_ := (Option.bind_some _ _).symm.trans H; with_reducible exact H2_) | with_reducible exact H | (rw [hy110]; exact H) | exact H
            have Ny110 := Aside0.mk hy110
            clear hy110
            have H' := Aside0.mk H
            clear H
            go_wp2_with (first | ((with_reducible refine gate_dst (N := 27) rfl ?_); (try (refine gate_guard (by rfl) ?_; dsimp only)); refine Kd.R_lit (Kd.int .u8) _ 5 ?hg (N := 27) ?hd (xs := ([] : List Int)) (inner := []) (ok := fun _ => True) (okp := fun _ => True) ?hr ?hp (fun _ hk => hk) trivial (Below.refl _ _) (Nat.le_refl _) (by simp) ?_; (case hd => rfl); (case hg => rfl); (case hr => first | (go_simp; done) | (go_simp; rfl)); (case hp => exact (Reps.none _ _)); intro v108 w11 ho12 hb hg_ hnew_; clear hg_ hnew_; (first | rw [← Ny107.out] at ho12 | (simp only [Int.reduceToNat] at ho12; rw [← Ny107.out] at ho12)); have n0_ := Aside0.mk (Kd.R_lower ho12 (below_size (by repeat (first | (with_reducible first | exact HB.out | apply below_alloc | apply pw_below_drewN | apply below_drew1) | exact HB.out)))); have n1_ := Aside0.mk (below_step (by repeat (first | (with_reducible first | exact HB.out | apply below_alloc | apply pw_below_drewN | apply below_drew1) | exact HB.out)) hb); clear HB; have HO109 := n0_; have HB := n1_; clear n0_ n1_; clear hb ho12) | ((with_reducible refine gate_builtin (b := .append) (xs := #[.tmp 27, .tmp 28]) rfl ?_); (try (refine gate_guard (by rfl) ?_; dsimp only)); at_builtin; refine Kd.R_append_rows (Kd.int .u8) (w0 := w) w.heap.size rfl (.tmp 27) (.tmp 28) 22 5 (.int .u8 0) 1 rfl Try.underlying22 info5 rfl (by decide) (by omega) v108 y107 l0 _ _ _ (fun _ => True) (fun _ => False) rfl rfl ?aO ?aR (fun _ _ h => h) (fun _ h => h.elim) ?aF ?aB ?aS ?aL ?_; (case aR => repeat (first | exact (Kd.C_below HR0.out HB.out) | (with_reducible refine Kd.C_alloc ?_ _) | (with_reducible refine Kd.C_drewN ?_ _) | (with_reducible refine Kd.C_drew ?_))); (case aB => exact (by repeat (first | (with_reducible first | exact HB.out | apply below_alloc | apply pw_below_drewN | apply below_drew1) | exact HB.out))); (case aF => exact (fun _ _ => trivial)); (case aO => exact (by (with_reducible repeat (first | apply Kd.R_alloc | apply Kd.R_drewN | apply Kd.R_drew)); exact HO109.out)); (case aS => exact (below_size (by repeat (first | (with_reducible first | exact HB.out | apply below_alloc | apply pw_below_drewN | apply below_drew1) | exact HB.out)))); (case aL => have := LMc10.out; omega); intro v111 w13 ho hb hg hat; rw [← Ny110.out] at ho; have n0_ := Aside0.mk (hb); have n1_ := Aside0.mk (ho); clear HB; clear HO109; have HB := n0_; have HO112 := n1_; clear n0_ n1_; clear ho hb hg hat))
            go_loopg [10] kj4 (fun kq v10 w' => ∃ (x9_2 : List Int) (x10_2 : Int), v10 = .int .i64 x10_2 ∧ Aside0 (godwitlaw02_CrcTurns.l0 kq l0 a2 t106 (Int.tmod (Go.bits .and .i64 a1 65535) (wrap64 ((l0.length : Int) - 3))) x9_2 x10_2 = some r) ∧ Aside0 (kq ≤ kj4) ∧ Aside0 (Kd.R (Kd.int .u8) 5 w' w.heap.size (fun _ => True) v111 x9_2) ∧ Aside0 (Below w.heap.size w w'))
            case atStart => exact ⟨(y110), (0), (by first | rfl | (simp; done) | (simp [*]; done)), H', ⟨Nat.le_refl _⟩, ⟨by (with_reducible repeat (first | apply Kd.R_alloc | apply Kd.R_drewN | apply Kd.R_drew)); exact HO112.out⟩, ⟨by repeat (first | (with_reducible first | exact HB.out | apply below_alloc | apply pw_below_drewN | apply below_drew1) | exact HB.out)⟩⟩
            case round =>
              clear H'
              try clear c1
              try clear p2
              try clear c3
              try clear p6
              try clear c7
              try clear c7b0
              try clear c7b1
              try clear c8
              try clear c9
              try clear c9b0
              try clear c9b1
              try clear c10
              try clear p2
              obtain ⟨x9_2, x10_2, rfl, HA, HK2, HO_9, HB⟩ := hrel
              cases gk with
              | zero => exact absurd HA.out (by simp [godwitlaw02_CrcTurns.l0])
              | succ k2 =>
                have H := HA.out
                clear HA
                simp only [godwitlaw02_CrcTurns.l0] at H
                by_cases c14 : x10_2 < 4
                · rw [if_pos c14] at H
                  have c14b0 : decide (x10_2 < 4) = true := decide_eq_true c14
                  clear c14
                  obtain ⟨ji15, hji15⟩ : ∃ j_ : Int, (wrap64 ((Int.tmod (Go.bits .and .i64 a1 65535) (wrap64 ((l0.length : Int) - 3))) + x10_2)) = j_ := ⟨_, rfl⟩
                  replace H : (if 0 ≤ (ji15) then (if (ji15) < (x9_2.length : Int) then (if 0 ≤ (IntKind.u64.wrap (wrap64 (8 * x10_2))) then (godwitlaw02_CrcTurns.l0 k2 l0 a2 t106 (Int.tmod (Go.bits .and .i64 a1 65535) (wrap64 ((l0.length : Int) - 3))) (x9_2.set ((ji15) : Int).toNat (Go.bits .xor .u8 (rd x9_2 (ji15)) ((shr .u32 a2 (IntKind.u64.wrap (wrap64 (8 * x10_2)))) % 256))) (wrap64 (x10_2 + 1))) else (none)) else (none)) else (none)) = some r := by first | (rw [hji15] at H; exact H) | (simp only [hji15] at H ⊢; exact H)
                  have hji15w : (IntKind.i64.wrap ((Int.tmod (Go.bits .and .i64 a1 65535) (wrap64 ((l0.length : Int) - 3))) + x10_2)) = ji15 := (i64_w _).trans hji15
                  by_cases c16 : 0 ≤ (ji15)
                  · rw [if_pos c16] at H
                    have c16b0 : decide (0 ≤ (ji15)) = true := decide_eq_true c16
                    clear c16
                    by_cases c17 : (ji15) < (x9_2.length : Int)
                    · rw [if_pos c17] at H
                      have c17b0 : decide ((ji15) < (x9_2.length : Int)) = true := decide_eq_true c17
                      clear c17
                      obtain ⟨ji18, hji18⟩ : ∃ j_ : Int, (IntKind.u64.wrap (wrap64 (8 * x10_2))) = j_ := ⟨_, rfl⟩
                      replace H : (if 0 ≤ (ji18) then (godwitlaw02_CrcTurns.l0 k2 l0 a2 t106 (Int.tmod (Go.bits .and .i64 a1 65535) (wrap64 ((l0.length : Int) - 3))) (x9_2.set ((ji15) : Int).toNat (Go.bits .xor .u8 (rd x9_2 (ji15)) ((shr .u32 a2 (ji18)) % 256))) (wrap64 (x10_2 + 1))) else (none)) = some r := by first | (rw [hji18] at H; exact H) | (simp only [hji18] at H ⊢; exact H)
                      by_cases c19 : 0 ≤ (ji18)
                      · rw [if_pos c19] at H
                        have c19b0 := eq_true c19
                        have c19b1 : decide (0 ≤ (ji18)) = true := decide_eq_true c19
                        clear c19
                        obtain ⟨ji20, hji20⟩ : ∃ j_ : Int, (shr .u32 a2 (ji18)) = j_ := ⟨_, rfl⟩
                        replace H : (godwitlaw02_CrcTurns.l0 k2 l0 a2 t106 (Int.tmod (Go.bits .and .i64 a1 65535) (wrap64 ((l0.length : Int) - 3))) (x9_2.set ((ji15) : Int).toNat (Go.bits .xor .u8 (rd x9_2 (ji15)) ((ji20) % 256))) (wrap64 (x10_2 + 1))) = some r := by first | (rw [hji20] at H; exact H) | (simp only [hji20] at H ⊢; exact H)
                        have hji20_ : (a2 / 2 ^ min (ji18).toNat 32) = ji20 := hji20
                        have hji20z : (ji18) ≤ 32 → (a2 / 2 ^ (ji18).toNat) = ji20 := shr_small hji20
                        obtain ⟨y114, hy114⟩ : ∃ y_ : List Int, y_ = (x9_2.set ((ji15) : Int).toNat (Go.bits .xor .u8 (rd x9_2 (ji15)) ((ji20) % 256))) := ⟨_, rfl⟩
                        replace H : (godwitlaw02_CrcTurns.l0 k2 l0 a2 t106 (Int.tmod (Go.bits .and .i64 a1 65535) (wrap64 ((l0.length : Int) - 3))) y114 (wrap64 (x10_2 + 1))) = some r := by first | (rw [hy114]; with_reducible exact H) | (have H2_ := (Option.bind_some _ _).symm.trans H; rw [hy114]; with_reducible exact H2_) | (have H2_ := (Option.bind_some _ _).symm.trans H; with_reducible exact H2_) | with_reducible exact H | (rw [hy114]; exact H) | exact H
                        have Ny114 := Aside0.mk hy114
                        clear hy114
                        have H' := Aside0.mk H
                        clear H
                        obtain ⟨Ao22, co22, eo22⟩ := Kd.R_slice HO_9.out
                        subst eo22
                        have p113 : 0 ≤ ((ji15) : Int) := of_decide_eq_true (by first | (with_reducible assumption) | assumption)
                        have q113 : (ji15) < (x9_2.length : Int) := of_decide_eq_true (by first | (with_reducible assumption) | assumption)
                        obtain ⟨ad113, e113, hx113_0⟩ := Kd.at_int (Kd.R_reads' HO_9.out).2.2 (ji15) p113 q113
                        cases e113
                        replace p113 := eq_true p113
                        replace q113 := eq_true q113
                        have p21 : 0 ≤ ((ji15) : Int) := of_decide_eq_true (by first | (with_reducible assumption) | assumption)
                        have q21 : ((ji15) : Int) < ((x9_2.length : Int) : Int) := of_decide_eq_true (by first | (with_reducible assumption) | assumption)
                        obtain ⟨go21, co21, eo21, gb21, gl21, cl21, HG21⟩ := Kd.R_form HO_9.out (by omega)
                        (first | cases eo21 | (injection eo21 with ea_ en_ ec_; (first | subst ea_ | (injection ea_ with ea_; subst ea_)); subst ec_; clear en_))
                        have GB21 := Aside0.mk gb21
                        have GG21 := Aside0.mk HG21
                        clear gb21 gl21 HG21
                        (first | simp only [add_plain] at hx113_0 | skip)
                        obtain ⟨hx21_0, hf21_0⟩ := Kd.R_celln 0 HO_9.out ((ji15) : Int) p21 q21
                        replace p21 := eq_true p21
                        replace q21 := eq_true q21
                        have HP23 := Kd.R_putg HO_9.out ((ji15) : Int) (Go.bits .xor .u8 (rd x9_2 (ji15)) ((ji20) % 256))
                        go_wp2_with (first | ((with_reducible refine gate_store (t := 5) (p := 51) rfl ?_); refine store_event (t := 5) (p := 51) (v := ?vo_w24) (w1 := (wr.setCell ⟨go21, ((ji15) : Int).toNat, none⟩ (.int .u8 (Go.bits .xor .u8 (rd x9_2 (ji15)) ((ji20) % 256))))) ?hg ?ho ?hn ?hr ?_; (case ho => rfl); (case hg => rfl); (case hn => rfl); (case hr => first | (go_simp; done) | (go_simp; rfl)); intro w24 hw; have hg : wr.grownBy w24 (some go21) := (by rw [hw]; exact HP23.2); have hp_ : Kd.R (Kd.int .u8) 5 w24 w.heap.size (fun _ => True) (.slice (some ⟨go21, 0, none⟩) x9_2.length co22) y114 := (by rw [hw, Ny114.out]; exact HP23.1); clear HP23; have n0_ := Aside0.mk (hp_); have n1_ := Aside0.mk ((by rw [hw]; exact below_set (HB.out) GB21.out : Below w.heap.size w w24)); clear HO_9; clear HB; have HO_9 := n0_; have HB := n1_; clear n0_ n1_; clear hg hw hp_))
                        go_roundg k2
                        case measure => have := HJ4.out; have := HK2.out; omega
                        case rel => exact ⟨(y114), (wrap64 (x10_2 + 1)), (by first | rfl | (simp; done) | (simp [*]; done)), H', ⟨by have := HJ4.out; have := HK2.out; omega⟩, ⟨by (with_reducible repeat (first | apply Kd.R_alloc | apply Kd.R_drewN | apply Kd.R_drew)); exact HO_9.out⟩, ⟨by repeat (first | (with_reducible first | exact HB.out | apply below_alloc | apply pw_below_drewN | apply below_drew1) | exact HB.out)⟩⟩
                      · rw [if_neg c19] at H
                        exact absurd H (by simp)
                    · rw [if_neg c17] at H
                      exact absurd H (by simp)
                  · rw [if_neg c16] at H
                    exact absurd H (by simp)
                · rw [if_neg c14] at H
                  have c14b0 : decide (x10_2 < 4) = false := decide_eq_false c14
                  clear c14
                  by_cases c25 : t106 = true
                  · subst c25
                    have H1 : ((crc_Of.f l0).bind fun t115 => ((crc_Of.f x9_2).bind fun t116 => (some ((t115 == t116) == (a2 == 0))))) = some r := by rw [if_pos rfl] at H; exact H
                    clear H
                    have H := H1
                    clear H1
                    replace H := Option.bind_eq_some_iff.mp H
                    obtain ⟨t115, A260, H⟩ := H
                    replace H : ((crc_Of.f x9_2).bind fun t116 => (some ((t115 == t116) == (a2 == 0)))) = some r := H
                    have A26 := Aside0.mk A260
                    clear A260
                    replace H := Option.bind_eq_some_iff.mp H
                    obtain ⟨t116, A270, H⟩ := H
                    replace H : (some ((t115 == t116) == (a2 == 0))) = some r := H
                    have A27 := Aside0.mk A270
                    clear A270
                    obtain rfl := Option.some.inj H
                    go_wp2_with (first | (go_at_call 10; (with_reducible refine (crc_Of.calls _ _ l0 t115 _ ?side1 ?side2 A26.out).mono ?_); (case side1 => repeat (first | exact (Kd.C_below HR0.out HB.out) | (with_reducible refine Kd.C_alloc ?_ _) | (with_reducible refine Kd.C_drewN ?_ _) | (with_reducible refine Kd.C_drew ?_))); (case side2 => exact HC0.out); rintro e w28 ⟨rfl, hb⟩; have n0_ := Aside0.mk (Kd.R_below (by (with_reducible repeat (first | apply Kd.R_alloc | apply Kd.R_drewN | apply Kd.R_drew)); exact HO_9.out) hb); have n1_ := Aside0.mk (below_step (by repeat (first | (with_reducible first | exact HB.out | apply below_alloc | apply pw_below_drewN | apply below_drew1) | exact HB.out)) hb); clear HO_9; clear HB; have HO_9 := n0_; have HB := n1_; clear n0_ n1_; (try clear hb); (try clear hb2); (try clear hk); (try clear hi); obtain ⟨Ao29, co29, eo29⟩ := Kd.R_slice HO_9.out; subst eo29) | (go_at_call 10; (with_reducible refine (crc_Of.calls _ _ x9_2 t116 _ ?side1 ?side2 A27.out).mono ?_); (case side1 => repeat (first | exact (Kd.R_reads' HO_9.out).2.2 | (with_reducible refine Kd.C_alloc ?_ _) | (with_reducible refine Kd.C_drewN ?_ _) | (with_reducible refine Kd.C_drew ?_))); (case side2 => exact (Kd.R_reads' HO_9.out).2.1); rintro e w30 ⟨rfl, hb⟩; have n0_ := Aside0.mk (Kd.R_below (by (with_reducible repeat (first | apply Kd.R_alloc | apply Kd.R_drewN | apply Kd.R_drew)); exact HO_9.out) hb); have n1_ := Aside0.mk (below_step (by repeat (first | (with_reducible first | exact HB.out | apply below_alloc | apply pw_below_drewN | apply below_drew1) | exact HB.out)) hb); clear HO_9; clear HB; have HO_9 := n0_; have HB := n1_; clear n0_ n1_; (try clear hb); (try clear hb2); (try clear hk); (try clear hi)))
                    go_ret
                    first | (with_reducible exact (clash2 A27 A26).elim) | (with_reducible exact (clash2 A26 A27).elim) | (with_reducible exact (clash2 A27 A4).elim) | (with_reducible exact (clash2 A4 A27).elim) | (with_reducible exact (clash2 A26 A4).elim) | (with_reducible exact (clash2 A4 A26).elim) | exact ⟨by first | rfl | (simp [errW_none, errW_some] <;> rfl) | (simp [*, errW_none, errW_some] <;> rfl), by repeat (first | (with_reducible first | exact HB.out | apply below_alloc | apply pw_below_drewN | apply below_drew1) | exact HB.out)⟩
                  · replace c25 := Bool.eq_false_iff.mpr c25
                    subst c25
                    have H1 : (none) = some r := by rw [if_neg (show ¬ (false = true) by decide)] at H; exact H
                    clear H
                    have H := H1
                    clear H1
                    exact absurd H (by simp)
          · rw [if_neg c10] at H
            exact absurd H (by simp)

/-- THE ONE PURE STATEMENT of godwitlaw02_CrcTurns. -/
def godwitlaw02_CrcTurns.Pure : Prop := ∀ (l0 : List Int) (a1 : Int) (a2 : Int), (l0.length * 1 ≤ 140737488351232 ∧ ∀ y0_ ∈ l0, (Lit.int .u8 y0_).wf = true) → ((Lit.int .i64 a1).wf = true) → ((Lit.int .u32 a2).wf = true) → ∃ k, godwitlaw02_CrcTurns.f k l0 a1 a2 = some true

end Go.Proofs.Ytfldileaolomlaa.Q
