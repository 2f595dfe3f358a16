-- written by a turned copy of the kit's printer (wip/tools/patch_print.py over print.py); contracts of given functions are this session's own
import Derived.Test.YtdjenkcafhdicaaQx0
import Derived.Test.YtdjenkcafhdicaaQx7
import Derived.Test.YtdjenkcafhdicaaQx9
namespace Go.Proofs.Ytdjenkcafhdicaa.Q
open Go.RowKit Go.Proofs.YtdjenkcafhdicaaW.PrintWords Go.Proofs.YtdjenkcafhdicaaW.PrintLast Go.Proofs.YtdjenkcafhdicaaW.PrintMore Go.Proofs.Ytdjenkcafhdicaa.G
attribute [local go_sem] max2_int min2_int max_two min_two max_three min_three max_four min_four   -- for this text's walks alone
set_option linter.unusedVariables false
set_option linter.unusedSimpArgs false

/-! ### godwitlaw03_awake: function 7 -/
def godwitlaw03_awake.f (k : Nat)  : Option (Bool) := (frame_Put.f k ([] : List Int) ([] : List Int)).bind fun bt135 => ((frame_Read.f k bt135.1 0).bind fun bt139 => ((frame_Read.f k (([1] : List Int)) 0).bind fun bt147 => (if bt135.2 = 0 then (if bt139.2.2 = 0 then (if (bt135.1.length : Int) = 6 then (if (bt139.1.length : Int) = 0 then (if bt139.2.1 = 6 then (some (bt147.2.2 == 2)) else (none)) else (none)) else (none)) else (none)) else (none))))
theorem godwitlaw03_awake.mono : ∀ k, LeO (godwitlaw03_awake.f k ) (godwitlaw03_awake.f (k + 1) ) := by
  intro  k
  unfold godwitlaw03_awake.f
  repeat' first
      | (with_reducible exact frame_Put.mono _ _ _)
      | (with_reducible exact frame_Read.mono _ _ _)
      | (with_reducible exact LeO.refl _)
      | (with_reducible exact LeO.none _)
      | (with_reducible refine LeO.ite ?_ ?_)
      | (with_reducible refine LeO.bind ?_ (fun _ => ?_))
      | exact frame_Put.mono _ _ _
      | exact frame_Read.mono _ _ _
      | exact LeO.none _
      | refine LeO.ite ?_ ?_
      | refine LeO.bind ?_ (fun _ => ?_)
set_option maxHeartbeats 8000000 in
set_option maxRecDepth 100000 in
theorem godwitlaw03_awake.calls (k : Nat)  (r : Bool) (w : World) (h : godwitlaw03_awake.f k  = some r) :
    Calls Try.prog 7 #[] w fun e w' => e = .returned (.bool r) ∧ Below w.heap.size w w' := by
  have HB := Aside0.mk (Below.refl w.heap.size w)
  have H : ((frame_Put.f k ([] : List Int) ([] : List Int)).bind fun bt135 => ((frame_Read.f k bt135.1 0).bind fun bt139 => ((frame_Read.f k (([1] : List Int)) 0).bind fun bt147 => (if bt135.2 = 0 then (if bt139.2.2 = 0 then (if (bt135.1.length : Int) = 6 then (if (bt139.1.length : Int) = 0 then (if bt139.2.1 = 6 then (some (bt147.2.2 == 2)) else (none)) else (none)) else (none)) else (none)) else (none))))) = some r := h
  clear h
  replace H := Option.bind_eq_some_iff.mp H
  obtain ⟨⟨t135, t136⟩, A10, H⟩ := H
  replace H : ((frame_Read.f k t135 0).bind fun bt139 => ((frame_Read.f k (([1] : List Int)) 0).bind fun bt147 => (if t136 = 0 then (if bt139.2.2 = 0 then (if (t135.length : Int) = 6 then (if (bt139.1.length : Int) = 0 then (if bt139.2.1 = 6 then (some (bt147.2.2 == 2)) else (none)) else (none)) else (none)) else (none)) else (none)))) = some r := H
  have A1 := Aside0.mk A10
  clear A10
  replace H := Option.bind_eq_some_iff.mp H
  obtain ⟨⟨t139, t140, t141⟩, A20, H⟩ := H
  replace H : ((frame_Read.f k (([1] : List Int)) 0).bind fun bt147 => (if t136 = 0 then (if t141 = 0 then (if (t135.length : Int) = 6 then (if (t139.length : Int) = 0 then (if t140 = 6 then (some (bt147.2.2 == 2)) else (none)) else (none)) else (none)) else (none)) else (none))) = some r := H
  have A2 := Aside0.mk A20
  clear A20
  obtain ⟨y144, hy144⟩ : ∃ y_ : List Int, y_ = (([1] : List Int)) := ⟨_, rfl⟩
  replace H : ((frame_Read.f k y144 0).bind fun bt147 => (if t136 = 0 then (if t141 = 0 then (if (t135.length : Int) = 6 then (if (t139.length : Int) = 0 then (if t140 = 6 then (some (bt147.2.2 == 2)) else (none)) else (none)) else (none)) else (none)) else (none))) = some r := by first | (rw [hy144]; with_reducible exact H) | (have H2_ := (Option.bind_some _ _).symm.trans H; rw [hy144]; with_reducible exact H2_) | (have H2_ := (Option.bind_some _ _).symm.trans H; with_reducible exact H2_) | with_reducible exact H | (rw [hy144]; exact H) | exact H
  have Ny144 := Aside0.mk hy144
  clear hy144
  replace H := Option.bind_eq_some_iff.mp H
  obtain ⟨⟨t147, t148, t149⟩, A30, H⟩ := H
  replace H : (if t136 = 0 then (if t141 = 0 then (if (t135.length : Int) = 6 then (if (t139.length : Int) = 0 then (if t140 = 6 then (some (t149 == 2)) else (none)) else (none)) else (none)) else (none)) else (none)) = some r := H
  have A3 := Aside0.mk A30
  clear A30
  by_cases c4 : t136 = 0
  · rw [if_pos c4] at H
    have c4b0 : (t136 == 0) = true := beq_iff_eq.mpr c4
    have c4b1 : (t136 != 0) = false := bne_eq_false_iff_eq.mpr c4
    clear c4
    by_cases c5 : t141 = 0
    · rw [if_pos c5] at H
      have c5b0 : (t141 == 0) = true := beq_iff_eq.mpr c5
      have c5b1 : (t141 != 0) = false := bne_eq_false_iff_eq.mpr c5
      clear c5
      by_cases c6 : (t135.length : Int) = 6
      · rw [if_pos c6] at H
        have c6b0 : ((t135.length : Int) == 6) = true := beq_iff_eq.mpr c6
        have c6b1 : ((t135.length : Int) != 6) = false := bne_eq_false_iff_eq.mpr c6
        clear c6
        by_cases c7 : (t139.length : Int) = 0
        · rw [if_pos c7] at H
          have c7b0 : ((t139.length : Int) == 0) = true := beq_iff_eq.mpr c7
          have c7b1 : ((t139.length : Int) != 0) = false := bne_eq_false_iff_eq.mpr c7
          clear c7
          by_cases c8 : t140 = 6
          · rw [if_pos c8] at H
            have c8b0 : (t140 == 6) = true := beq_iff_eq.mpr c8
            have c8b1 : (t140 != 6) = false := bne_eq_false_iff_eq.mpr c8
            clear c8
            obtain rfl := Option.some.inj H
            go_enter Try.func7, Try.ntmps7
            go_wp2_with (first | ((with_reducible refine gate_callee (f := 8) rfl ?_); refine goesL_ (some 10) rfl rfl Try.func8 (by kernel_rfl) rfl #[.slice none 0 0, .slice none 0 0] rfl (by (try simp only [List.map_toArray, List.map_cons, List.map_nil]); first | done | rfl | (simp only [List.length_drop, List.length_take]; rfl)) ?_; (refine (frame_Put.calls k _ _ ([] : List Int) _ _ ([] : List Int) t135 t136 _ ?side1 ?side2 ?side3 ?side4 A1.out).mono ?_); (case side1 => exact Kd.C_nil _ _); (case side2 => exact Nat.le_refl _); (case side3 => exact Kd.C_nil _ _); (case side4 => exact Nat.le_refl _); rintro e w9 ⟨v137, rfl, ho0, hb⟩; refine ⟨_, rfl, ?_⟩; have n0_ := Aside0.mk (Kd.R_lower ho0 (below_size (by repeat (first | (with_reducible first | exact HB.out | apply below_alloc | apply pw_below_drewN | apply below_drew1) | exact HB.out)))); have n1_ := Aside0.mk (below_step (by repeat (first | (with_reducible first | exact HB.out | apply below_alloc | apply pw_below_drewN | apply below_drew1) | exact HB.out)) hb); clear HB; have HO138 := n0_; have HB := n1_; clear n0_ n1_; (try clear hb); (try clear hb2); (try clear hk); (try clear hi); (try clear ho0); obtain ⟨Ao10, co10, eo10⟩ := Kd.R_slice HO138.out; subst eo10) | ((with_reducible refine gate_callee (f := 9) rfl ?_); refine goesL_ (some 15) rfl rfl Try.func9 (by kernel_rfl) rfl #[.slice Ao10 t135.length co10, .int .i64 0] rfl (by (try simp only [List.map_toArray, List.map_cons, List.map_nil]); first | done | rfl | (simp only [List.length_drop, List.length_take]; rfl)) ?_; (with_reducible refine (frame_Read.calls k _ _ t135 0 t139 t140 t141 _ ?side1 ?side2 A2.out).mono ?_); (case side1 => repeat (first | exact (Kd.R_reads' HO138.out).2.2 | (with_reducible refine Kd.C_alloc ?_ _) | (with_reducible refine Kd.C_drewN ?_ _) | (with_reducible refine Kd.C_drew ?_))); (case side2 => exact (Kd.R_reads' HO138.out).2.1); rintro e w11 ⟨v142, rfl, ho0, hb⟩; refine ⟨_, rfl, ?_⟩; have n0_ := Aside0.mk (Kd.R_elder' (by (with_reducible repeat (first | apply Kd.R_alloc | apply Kd.R_drewN | apply Kd.R_drew)); exact HO138.out) (Kd.R_base ho0) hb); have n1_ := Aside0.mk (Kd.R_lower (Kd.R_new' ho0 (Kd.R_lt (by (with_reducible repeat (first | apply Kd.R_alloc | apply Kd.R_drewN | apply Kd.R_drew)); exact HO138.out))) (below_size (by repeat (first | (with_reducible first | exact HB.out | apply below_alloc | apply pw_below_drewN | apply below_drew1) | exact HB.out)))); have n2_ := Aside0.mk (below_step (by repeat (first | (with_reducible first | exact HB.out | apply below_alloc | apply pw_below_drewN | apply below_drew1) | exact HB.out)) hb); clear HO138; clear HB; have HO138 := n0_; have HO143 := n1_; have HB := n2_; clear n0_ n1_ n2_; (try clear hb); (try clear hb2); (try clear hk); (try clear hi); (try clear ho0)) | ((with_reducible refine gate_dst (N := 20) rfl ?_); (try (refine gate_guard (by rfl) ?_; dsimp only)); refine Kd.R_lit (Kd.int .u8) _ 5 ?hg (N := 20) ?hd (xs := ([1] : List Int)) (inner := [.int .u8 1]) (ok := fun _ => True) (okp := fun _ => True) ?hr ?hp (fun _ hk => hk) trivial (Below.refl _ _) (Nat.le_refl _) (by simp) ?_; (case hd => rfl); (case hg => rfl); (case hr => first | (go_simp; done) | (go_simp; rfl)); (case hp => exact (Reps.one (show Kd.M (Kd.int .u8) _ _ _ 1 [.int .u8 1] from rfl) (Reps.none _ _))); intro v145 w12 ho13 hb hg_ hnew_; clear hg_ hnew_; (first | rw [← Ny144.out] at ho13 | (simp only [Int.reduceToNat] at ho13; rw [← Ny144.out] at ho13)); have n0_ := Aside0.mk (Kd.R_elder' (by (with_reducible repeat (first | apply Kd.R_alloc | apply Kd.R_drewN | apply Kd.R_drew)); exact HO138.out) (Kd.R_base ho13) hb); have n1_ := Aside0.mk (Kd.R_elder' (by (with_reducible repeat (first | apply Kd.R_alloc | apply Kd.R_drewN | apply Kd.R_drew)); exact HO143.out) (Kd.R_base ho13) hb); have n2_ := Aside0.mk (Kd.R_lower (Kd.R_new' (Kd.R_new' ho13 (Kd.R_lt (by (with_reducible repeat (first | apply Kd.R_alloc | apply Kd.R_drewN | apply Kd.R_drew)); exact HO138.out))) (Kd.R_lt (by (with_reducible repeat (first | apply Kd.R_alloc | apply Kd.R_drewN | apply Kd.R_drew)); exact HO143.out))) (below_size (by repeat (first | (with_reducible first | exact HB.out | apply below_alloc | apply pw_below_drewN | apply below_drew1) | exact HB.out)))); have n3_ := Aside0.mk (below_step (by repeat (first | (with_reducible first | exact HB.out | apply below_alloc | apply pw_below_drewN | apply below_drew1) | exact HB.out)) hb); clear HO138; clear HO143; clear HB; have HO138 := n0_; have HO143 := n1_; have HO146 := n2_; have HB := n3_; clear n0_ n1_ n2_ n3_; clear hb ho13; obtain ⟨Ao14, co14, eo14⟩ := Kd.R_slice HO146.out; subst eo14) | ((with_reducible refine gate_callee (f := 9) rfl ?_); refine goesL_ (some 21) rfl rfl Try.func9 (by kernel_rfl) rfl #[.slice Ao14 y144.length co14, .int .i64 0] rfl (by (try simp only [List.map_toArray, List.map_cons, List.map_nil]); first | done | rfl | (simp only [List.length_drop, List.length_take]; rfl)) ?_; (with_reducible refine (frame_Read.calls k _ _ y144 0 t147 t148 t149 _ ?side1 ?side2 A3.out).mono ?_); (case side1 => repeat (first | exact (Kd.R_reads' HO146.out).2.2 | (with_reducible refine Kd.C_alloc ?_ _) | (with_reducible refine Kd.C_drewN ?_ _) | (with_reducible refine Kd.C_drew ?_))); (case side2 => exact (Kd.R_reads' HO146.out).2.1); rintro e w15 ⟨v150, rfl, ho0, hb⟩; refine ⟨_, rfl, ?_⟩; have n0_ := Aside0.mk (Kd.R_elder' (by (with_reducible repeat (first | apply Kd.R_alloc | apply Kd.R_drewN | apply Kd.R_drew)); exact HO138.out) (Kd.R_base ho0) hb); have n1_ := Aside0.mk (Kd.R_elder' (by (with_reducible repeat (first | apply Kd.R_alloc | apply Kd.R_drewN | apply Kd.R_drew)); exact HO143.out) (Kd.R_base ho0) hb); have n2_ := Aside0.mk (Kd.R_elder' (by (with_reducible repeat (first | apply Kd.R_alloc | apply Kd.R_drewN | apply Kd.R_drew)); exact HO146.out) (Kd.R_base ho0) hb); have n3_ := Aside0.mk (Kd.R_lower (Kd.R_new' (Kd.R_new' (Kd.R_new' ho0 (Kd.R_lt (by (with_reducible repeat (first | apply Kd.R_alloc | apply Kd.R_drewN | apply Kd.R_drew)); exact HO138.out))) (Kd.R_lt (by (with_reducible repeat (first | apply Kd.R_alloc | apply Kd.R_drewN | apply Kd.R_drew)); exact HO143.out))) (Kd.R_lt (by (with_reducible repeat (first | apply Kd.R_alloc | apply Kd.R_drewN | apply Kd.R_drew)); exact HO146.out))) (below_size (by repeat (first | (with_reducible first | exact HB.out | apply below_alloc | apply pw_below_drewN | apply below_drew1) | exact HB.out)))); have n4_ := Aside0.mk (below_step (by repeat (first | (with_reducible first | exact HB.out | apply below_alloc | apply pw_below_drewN | apply below_drew1) | exact HB.out)) hb); clear HO138; clear HO143; clear HO146; clear HB; have HO138 := n0_; have HO143 := n1_; have HO146 := n2_; have HO151 := n3_; have HB := n4_; clear n0_ n1_ n2_ n3_ n4_; (try clear hb); (try clear hb2); (try clear hk); (try clear hi); (try clear ho0); obtain ⟨Ao16, co16, eo16⟩ := Kd.R_slice HO143.out; subst eo16))
            go_ret
            first | (with_reducible exact (clash2 A3 A2).elim) | (with_reducible exact (clash2 A2 A3).elim) | (with_reducible exact (clash2 A3 A1).elim) | (with_reducible exact (clash2 A1 A3).elim) | (with_reducible exact (clash2 A2 A1).elim) | (with_reducible exact (clash2 A1 A2).elim) | exact ⟨by first | rfl | (simp [errW_none, errW_some] <;> rfl) | (simp [*, errW_none, errW_some] <;> rfl), by repeat (first | (with_reducible first | exact HB.out | apply below_alloc | apply pw_below_drewN | apply below_drew1) | exact HB.out)⟩
          · rw [if_neg c8] at H
            exact absurd H (by simp)
        · rw [if_neg c7] at H
          exact absurd H (by simp)
      · rw [if_neg c6] at H
        exact absurd H (by simp)
    · rw [if_neg c5] at H
      exact absurd H (by simp)
  · rw [if_neg c4] at H
    exact absurd H (by simp)

end Go.Proofs.Ytdjenkcafhdicaa.Q
