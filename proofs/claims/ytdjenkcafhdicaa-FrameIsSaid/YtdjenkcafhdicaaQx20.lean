-- written by a turned copy of the kit's printer (wip/tools/patch_print.py over print.py); contracts of given functions are this session's own
import Derived.Test.YtdjenkcafhdicaaQx0
import Derived.Test.YtdjenkcafhdicaaQx16
import Derived.Test.YtdjenkcafhdicaaQx18
import Derived.Test.YtdjenkcafhdicaaQx19
namespace Go.Proofs.Ytdjenkcafhdicaa.Q
open Go.RowKit Go.Proofs.YtdjenkcafhdicaaW.PrintWords Go.Proofs.YtdjenkcafhdicaaW.PrintLast Go.Proofs.YtdjenkcafhdicaaW.PrintMore Go.Proofs.Ytdjenkcafhdicaa.G
attribute [local go_sem] max2_int min2_int max_two min_two max_three min_three max_four min_four   -- for this text's walks alone
set_option linter.unusedVariables false
set_option linter.unusedSimpArgs false

/-! ### godwitref03_Put: function 13 -/
def godwitref03_Put.f (k : Nat) (l0 : List Int) (l1 : List Int) : Option (List Int × Int) := if (l1.length : Int) > 512 then (some (([] : List Int), 5)) else ((godwitref01_U.f k ([] : List Int) (IntKind.u64.wrap ((l1.length : Int))) 2).bind fun t223 => ((godwitref02_Of.f k t223).bind fun t226 => ((godwitref02_More.f k t226 l1).bind fun t227 => ((some (([] : List Int) : List Int)).bind fun y228 => (if y228.length + l0.length < 140737488355328 then ((some (y228 ++ l0 : List Int)).bind fun y231 => (if y231.length + t223.length < 140737488355328 then ((godwitref01_U.f k (y231 ++ t223) (IntKind.u64.wrap (t227)) 4).bind fun t237 => (if t237.length + l1.length < 140737488355328 then (some ((t237 ++ l1), 0)) else (none))) else (none))) else (none))))))
theorem godwitref03_Put.mono : ∀ a0 a1 k, LeO (godwitref03_Put.f k a0 a1) (godwitref03_Put.f (k + 1) a0 a1) := by
  intro a0 a1 k
  unfold godwitref03_Put.f
  repeat' first
      | (with_reducible exact godwitref01_U.mono _ _ _ _)
      | (with_reducible exact godwitref02_More.mono _ _ _)
      | (with_reducible exact godwitref02_Of.mono _ _)
      | (with_reducible exact LeO.refl _)
      | (with_reducible exact LeO.none _)
      | (with_reducible refine LeO.ite ?_ ?_)
      | (with_reducible refine LeO.bind ?_ (fun _ => ?_))
      | exact godwitref01_U.mono _ _ _ _
      | exact godwitref02_More.mono _ _ _
      | exact godwitref02_Of.mono _ _
      | exact LeO.none _
      | refine LeO.ite ?_ ?_
      | refine LeO.bind ?_ (fun _ => ?_)
set_option maxHeartbeats 8000000 in
set_option maxRecDepth 100000 in
theorem godwitref03_Put.calls (k : Nat) (A0 : Option Addr) (c0 : Nat) (l0 : List Int) (A1 : Option Addr) (c1 : Nat) (l1 : List Int) (r1 : List Int) (r2 : Int) (w : World) (hr0 : Kd.C (Kd.int .u8) w A0 l0.length l0) (hc0 : l0.length ≤ c0) (hr1 : Kd.C (Kd.int .u8) w A1 l1.length l1) (hc1 : l1.length ≤ c1) (h : godwitref03_Put.f k l0 l1 = some (r1, r2)) :
    Calls Try.prog 13 #[.slice A0 l0.length c0, .slice A1 l1.length c1] w fun e w' => ∃ v0_ : Value, e = .returned (.tuple #[v0_, .int .i64 r2]) ∧ Kd.R (Kd.int .u8) 5 w' w.heap.size (fun _ => True) v0_ r1 ∧ Below w.heap.size w w' := by
  have HR0 := Aside0.mk hr0
  have HC0 := Aside0.mk hc0
  clear hr0 hc0
  have HR1 := Aside0.mk hr1
  have HC1 := Aside0.mk hc1
  clear hr1 hc1
  have HB := Aside0.mk (Below.refl w.heap.size w)
  have H : (if (l1.length : Int) > 512 then (some (([] : List Int), 5)) else ((godwitref01_U.f k ([] : List Int) (IntKind.u64.wrap ((l1.length : Int))) 2).bind fun t223 => ((godwitref02_Of.f k t223).bind fun t226 => ((godwitref02_More.f k t226 l1).bind fun t227 => ((some (([] : List Int) : List Int)).bind fun y228 => (if y228.length + l0.length < 140737488355328 then ((some (y228 ++ l0 : List Int)).bind fun y231 => (if y231.length + t223.length < 140737488355328 then ((godwitref01_U.f k (y231 ++ t223) (IntKind.u64.wrap (t227)) 4).bind fun t237 => (if t237.length + l1.length < 140737488355328 then (some ((t237 ++ l1), 0)) else (none))) else (none))) else (none))))))) = some (r1, r2) := h
  clear h
  by_cases c3 : (l1.length : Int) > 512
  · rw [if_pos c3] at H
    have c3b0 : decide (512 < (l1.length : Int)) = true := decide_eq_true c3
    have c3b1 : decide (512 < l1.length) = true := decide_eq_true (by omega)
    clear c3
    simp only [Option.some.injEq, Prod.mk.injEq] at H
    obtain ⟨rfl, rfl⟩ := H
    go_enter Try.func13, Try.ntmps13
    go_wp2
    go_ret2
    exact ⟨_, by first | rfl | (simp [errW_none, errW_some] <;> rfl) | (simp [*, errW_none, errW_some] <;> rfl), by first | exact Kd.R_nil _ _ _ _ _ | exact Kd.N_nil _ _ _ _ _ | exact Kd.V_nil _ _ _ _ _ | exact Kd.Q_nil _ _ _ _ _ | exact Kd.S_nil _ _ _ _ _, by repeat (first | (with_reducible first | exact HB.out | apply below_alloc | apply pw_below_drewN | apply below_drew1) | exact HB.out)⟩
  · rw [if_neg c3] at H
    have c3b0 : decide (512 < (l1.length : Int)) = false := decide_eq_false c3
    have c3b1 : decide (512 < l1.length) = false := decide_eq_false (by omega)
    clear c3
    replace H := Option.bind_eq_some_iff.mp H
    obtain ⟨t223, A40, H⟩ := H
    replace H : ((godwitref02_Of.f k t223).bind fun t226 => ((godwitref02_More.f k t226 l1).bind fun t227 => ((some (([] : List Int) : List Int)).bind fun y228 => (if y228.length + l0.length < 140737488355328 then ((some (y228 ++ l0 : List Int)).bind fun y231 => (if y231.length + t223.length < 140737488355328 then ((godwitref01_U.f k (y231 ++ t223) (IntKind.u64.wrap (t227)) 4).bind fun t237 => (if t237.length + l1.length < 140737488355328 then (some ((t237 ++ l1), 0)) else (none))) else (none))) else (none))))) = some (r1, r2) := H
    have A4 := Aside0.mk A40
    clear A40
    replace H := Option.bind_eq_some_iff.mp H
    obtain ⟨t226, A50, H⟩ := H
    replace H : ((godwitref02_More.f k t226 l1).bind fun t227 => ((some (([] : List Int) : List Int)).bind fun y228 => (if y228.length + l0.length < 140737488355328 then ((some (y228 ++ l0 : List Int)).bind fun y231 => (if y231.length + t223.length < 140737488355328 then ((godwitref01_U.f k (y231 ++ t223) (IntKind.u64.wrap (t227)) 4).bind fun t237 => (if t237.length + l1.length < 140737488355328 then (some ((t237 ++ l1), 0)) else (none))) else (none))) else (none)))) = some (r1, r2) := H
    have A5 := Aside0.mk A50
    clear A50
    replace H := Option.bind_eq_some_iff.mp H
    obtain ⟨t227, A60, H⟩ := H
    replace H : ((some (([] : List Int) : List Int)).bind fun y228 => (if y228.length + l0.length < 140737488355328 then ((some (y228 ++ l0 : List Int)).bind fun y231 => (if y231.length + t223.length < 140737488355328 then ((godwitref01_U.f k (y231 ++ t223) (IntKind.u64.wrap (t227)) 4).bind fun t237 => (if t237.length + l1.length < 140737488355328 then (some ((t237 ++ l1), 0)) else (none))) else (none))) else (none))) = some (r1, r2) := H
    have A6 := Aside0.mk A60
    clear A60
    obtain ⟨y228, hy228⟩ : ∃ y_ : List Int, y_ = (([] : List Int)) := ⟨_, rfl⟩
    replace H : (if y228.length + l0.length < 140737488355328 then ((some (y228 ++ l0 : List Int)).bind fun y231 => (if y231.length + t223.length < 140737488355328 then ((godwitref01_U.f k (y231 ++ t223) (IntKind.u64.wrap (t227)) 4).bind fun t237 => (if t237.length + l1.length < 140737488355328 then (some ((t237 ++ l1), 0)) else (none))) else (none))) else (none)) = some (r1, r2) := by first | (rw [hy228]; with_reducible exact H) | (have H2_ := (Option.bind_some _ _).symm.trans H; rw [hy228]; with_reducible exact H2_) | (have H2_ := (Option.bind_some _ _).symm.trans H; with_reducible exact H2_) | with_reducible exact H | (rw [hy228]; exact H) | exact H
    have Ny228 := Aside0.mk hy228
    clear hy228
    by_cases c7 : y228.length + l0.length < 140737488355328
    · rw [if_pos c7] at H
      have LMc7 := Aside0.mk c7
      clear c7
      obtain ⟨y231, hy231⟩ : ∃ y_ : List Int, y_ = (y228 ++ l0) := ⟨_, rfl⟩
      replace H : (if y231.length + t223.length < 140737488355328 then ((godwitref01_U.f k (y231 ++ t223) (IntKind.u64.wrap (t227)) 4).bind fun t237 => (if t237.length + l1.length < 140737488355328 then (some ((t237 ++ l1), 0)) else (none))) else (none)) = some (r1, r2) := by first | (rw [hy231]; with_reducible exact H) | (have H2_ := (Option.bind_some _ _).symm.trans H; rw [hy231]; with_reducible exact H2_) | (have H2_ := (Option.bind_some _ _).symm.trans H; with_reducible exact H2_) | with_reducible exact H | (rw [hy231]; exact H) | exact H
      have Ny231 := Aside0.mk hy231
      clear hy231
      by_cases c8 : y231.length + t223.length < 140737488355328
      · rw [if_pos c8] at H
        have LMc8 := Aside0.mk c8
        clear c8
        obtain ⟨y234, hy234⟩ : ∃ y_ : List Int, y_ = (y231 ++ t223) := ⟨_, rfl⟩
        replace H : ((godwitref01_U.f k y234 (IntKind.u64.wrap (t227)) 4).bind fun t237 => (if t237.length + l1.length < 140737488355328 then (some ((t237 ++ l1), 0)) else (none))) = some (r1, r2) := by first | (rw [hy234]; with_reducible exact H) | (have H2_ := (Option.bind_some _ _).symm.trans H; rw [hy234]; with_reducible exact H2_) | (have H2_ := (Option.bind_some _ _).symm.trans H; with_reducible exact H2_) | with_reducible exact H | (rw [hy234]; exact H) | exact H
        have Ny234 := Aside0.mk hy234
        clear hy234
        replace H := Option.bind_eq_some_iff.mp H
        obtain ⟨t237, A90, H⟩ := H
        replace H : (if t237.length + l1.length < 140737488355328 then (some ((t237 ++ l1), 0)) else (none)) = some (r1, r2) := H
        have A9 := Aside0.mk A90
        clear A90
        by_cases c10 : t237.length + l1.length < 140737488355328
        · rw [if_pos c10] at H
          have LMc10 := Aside0.mk c10
          clear c10
          obtain ⟨y240, hy240⟩ : ∃ y_ : List Int, y_ = (t237 ++ l1) := ⟨_, rfl⟩
          replace H : (some (y240, 0)) = some (r1, r2) := by first | (rw [hy240]; with_reducible exact H) | (have H2_ := (Option.bind_some _ _).symm.trans H; rw [hy240]; with_reducible exact H2_) | (have H2_ := (Option.bind_some _ _).symm.trans H; with_reducible exact H2_) | with_reducible exact H | (rw [hy240]; exact H) | exact H
          have Ny240 := Aside0.mk hy240
          clear hy240
          simp only [Option.some.injEq, Prod.mk.injEq] at H
          obtain ⟨rfl, rfl⟩ := H
          go_enter Try.func13, Try.ntmps13
          go_wp2_with (first | ((with_reducible refine gate_callee (f := 21) rfl ?_); refine goesL_ (some 15) rfl rfl Try.func21 (by kernel_rfl) rfl #[.slice none 0 0, .int .u64 (IntKind.u64.wrap ((l1.length : Int))), .int .i64 2] rfl (by (try simp only [List.map_toArray, List.map_cons, List.map_nil]); first | done | rfl | (simp only [List.length_drop, List.length_take]; rfl)) ?_; (refine (godwitref01_U.calls k _ _ ([] : List Int) (IntKind.u64.wrap ((l1.length : Int))) 2 t223 _ ?side1 ?side2 A4.out).mono ?_); (case side1 => exact Kd.C_nil _ _); (case side2 => exact Nat.le_refl _); rintro e w11 ⟨v224, rfl, ho0, hb⟩; refine ⟨_, rfl, ?_⟩; have n0_ := Aside0.mk (Kd.R_lower ho0 (below_size (by repeat (first | (with_reducible first | exact HB.out | apply below_alloc | apply pw_below_drewN | apply below_drew1) | exact HB.out)))); have n1_ := Aside0.mk (below_step (by repeat (first | (with_reducible first | exact HB.out | apply below_alloc | apply pw_below_drewN | apply below_drew1) | exact HB.out)) hb); clear HB; have HO225 := n0_; have HB := n1_; clear n0_ n1_; (try clear hb); (try clear hb2); (try clear hk); (try clear hi); (try clear ho0); obtain ⟨Ao12, co12, eo12⟩ := Kd.R_slice HO225.out; subst eo12) | ((with_reducible refine gate_callee (f := 23) rfl ?_); refine goesL_ (some 17) rfl rfl Try.func23 (by kernel_rfl) rfl #[.slice Ao12 t223.length co12] rfl (by (try simp only [List.map_toArray, List.map_cons, List.map_nil]); first | done | rfl | (simp only [List.length_drop, List.length_take]; rfl)) ?_; (with_reducible refine (godwitref02_Of.calls k _ _ t223 t226 _ ?side1 ?side2 A5.out).mono ?_); (case side1 => repeat (first | exact (Kd.R_reads' HO225.out).2.2 | (with_reducible refine Kd.C_alloc ?_ _) | (with_reducible refine Kd.C_drewN ?_ _) | (with_reducible refine Kd.C_drew ?_))); (case side2 => exact (Kd.R_reads' HO225.out).2.1); rintro e w' ⟨rfl, ⟨nd, rfl⟩⟩; refine ⟨_, rfl, ?_⟩) | ((with_reducible refine gate_callee (f := 22) rfl ?_); refine goesL_ (some 19) rfl rfl Try.func22 (by kernel_rfl) rfl #[.int .u32 t226, .slice A1 l1.length c1] rfl (by (try simp only [List.map_toArray, List.map_cons, List.map_nil]); first | done | rfl | (simp only [List.length_drop, List.length_take]; rfl)) ?_; (with_reducible refine (godwitref02_More.calls k t226 _ _ l1 t227 _ ?side1 ?side2 A6.out).mono ?_); (case side1 => repeat (first | exact (Kd.C_below HR1.out (by repeat (first | (with_reducible first | exact HB.out | apply below_alloc | apply pw_below_drewN | apply below_drew1) | exact HB.out))) | (with_reducible refine Kd.C_alloc ?_ _) | (with_reducible refine Kd.C_drewN ?_ _) | (with_reducible refine Kd.C_drew ?_))); (case side2 => exact HC1.out); rintro e w' ⟨rfl, ⟨nd, rfl⟩⟩; refine ⟨_, rfl, ?_⟩) | ((with_reducible refine gate_dst (N := 20) rfl ?_); refine Kd.R_lit (Kd.int .u8) _ 5 ?hg (N := 20) ?hd (xs := ([] : List Int)) (inner := []) (ok := fun _ => True) (okp := fun _ => True) ?hr ?hp (fun _ hk => hk) trivial (Below.refl _ _) (Nat.le_refl _) (by simp) ?_; (case hd => rfl); (case hg => rfl); (case hr => first | (go_simp; done) | (go_simp; rfl)); (case hp => exact (Reps.none _ _)); intro v229 w13 ho14 hb hg_ hnew_; clear hg_ hnew_; (first | rw [← Ny228.out] at ho14 | (simp only [Int.reduceToNat] at ho14; rw [← Ny228.out] at ho14)); have n0_ := Aside0.mk (Kd.R_elder' (by (with_reducible repeat (first | apply Kd.R_alloc | apply Kd.R_drewN | apply Kd.R_drew)); exact HO225.out) (Kd.R_base ho14) hb); have n1_ := Aside0.mk (Kd.R_lower (Kd.R_new' ho14 (Kd.R_lt (by (with_reducible repeat (first | apply Kd.R_alloc | apply Kd.R_drewN | apply Kd.R_drew)); exact HO225.out))) (below_size (by repeat (first | (with_reducible first | exact HB.out | apply below_alloc | apply pw_below_drewN | apply below_drew1) | exact HB.out)))); have n2_ := Aside0.mk (below_step (by repeat (first | (with_reducible first | exact HB.out | apply below_alloc | apply pw_below_drewN | apply below_drew1) | exact HB.out)) hb); clear HO225; clear HB; have HO225 := n0_; have HO230 := n1_; have HB := n2_; clear n0_ n1_ n2_; clear hb ho14) | ((with_reducible refine gate_builtin (b := .append) (xs := #[.tmp 20, .tmp 21]) rfl ?_); at_builtin; refine Kd.R_append_rows (Kd.int .u8) (w0 := w) w.heap.size rfl (.tmp 20) (.tmp 21) 22 5 (.int .u8 0) 1 rfl Try.underlying22 info5 rfl (by decide) (by omega) v229 y228 l0 _ _ _ (fun k_ => some k_ ≠ (.slice Ao12 t223.length co12 : Value).ownBlock) (fun _ => False) rfl rfl ?aO ?aR (fun _ _ h => h) (fun _ h => h.elim) ?aF ?aB ?aS ?aL ?_; (case aR => repeat (first | exact (Kd.C_below HR0.out HB.out) | (with_reducible refine Kd.C_alloc ?_ _) | (with_reducible refine Kd.C_drewN ?_ _) | (with_reducible refine Kd.C_drew ?_))); (case aB => exact (by repeat (first | (with_reducible first | exact HB.out | apply below_alloc | apply pw_below_drewN | apply below_drew1) | exact HB.out))); (case aF => exact (fun k_ hk => Kd.fresh' (Kd.R_lt (by (with_reducible repeat (first | apply Kd.R_alloc | apply Kd.R_drewN | apply Kd.R_drew)); exact HO225.out)) k_ hk)); (case aO => exact (by (with_reducible repeat (first | apply Kd.R_alloc | apply Kd.R_drewN | apply Kd.R_drew)); exact Kd.R_mono HO230.out (fun _ hk => hk.2))); (case aS => exact (below_size (by repeat (first | (with_reducible first | exact HB.out | apply below_alloc | apply pw_below_drewN | apply below_drew1) | exact HB.out)))); (case aL => have := LMc7.out; omega); intro v232 w15 ho hb hg hat; rw [← Ny231.out] at ho; have n0_ := Aside0.mk (Kd.R_after (ok := (fun _ => True)) (by (with_reducible repeat (first | apply Kd.R_alloc | apply Kd.R_drewN | apply Kd.R_drew)); exact HO225.out) hg hat); have n1_ := Aside0.mk (hb); have n2_ := Aside0.mk (ho); clear HO225; clear HB; clear HO230; have HO225 := n0_; have HB := n1_; have HO233 := n2_; clear n0_ n1_ n2_; clear ho hb hg hat) | ((with_reducible refine gate_builtin (b := .append) (xs := #[.tmp 23, .tmp 24]) rfl ?_); at_builtin; refine Kd.R_append_rows (Kd.int .u8) (w0 := w) w.heap.size rfl (.tmp 23) (.tmp 24) 22 5 (.int .u8 0) 1 rfl Try.underlying22 info5 rfl (by decide) (by omega) v232 y231 t223 _ _ _ (fun k_ => some k_ ≠ (.slice Ao12 t223.length co12 : Value).ownBlock) (fun _ => False) rfl rfl ?aO ?aR (fun _ _ h => h) (fun _ h => h.elim) ?aF ?aB ?aS ?aL ?_; (case aR => repeat (first | exact (Kd.R_reads' HO225.out).2.2 | (with_reducible refine Kd.C_alloc ?_ _) | (with_reducible refine Kd.C_drewN ?_ _) | (with_reducible refine Kd.C_drew ?_))); (case aB => exact (by repeat (first | (with_reducible first | exact HB.out | apply below_alloc | apply pw_below_drewN | apply below_drew1) | exact HB.out))); (case aF => exact (fun k_ hk => Kd.fresh' (Kd.R_lt (by (with_reducible repeat (first | apply Kd.R_alloc | apply Kd.R_drewN | apply Kd.R_drew)); exact HO225.out)) k_ hk)); (case aO => exact (by (with_reducible repeat (first | apply Kd.R_alloc | apply Kd.R_drewN | apply Kd.R_drew)); exact HO233.out)); (case aS => exact (below_size (by repeat (first | (with_reducible first | exact HB.out | apply below_alloc | apply pw_below_drewN | apply below_drew1) | exact HB.out)))); (case aL => have := LMc8.out; omega); intro v235 w16 ho hb hg hat; rw [← Ny234.out] at ho; have n0_ := Aside0.mk (Kd.R_after (ok := (fun _ => True)) (by (with_reducible repeat (first | apply Kd.R_alloc | apply Kd.R_drewN | apply Kd.R_drew)); exact HO225.out) hg hat); have n1_ := Aside0.mk (hb); have n2_ := Aside0.mk (ho); clear HO225; clear HB; clear HO233; have HO225 := n0_; have HB := n1_; have HO236 := n2_; clear n0_ n1_ n2_; clear ho hb hg hat; obtain ⟨Ao17, co17, eo17⟩ := Kd.R_slice HO236.out; subst eo17) | ((with_reducible refine gate_callee (f := 21) rfl ?_); refine goesL_ (some 29) rfl rfl Try.func21 (by kernel_rfl) rfl #[.slice Ao17 y234.length co17, .int .u64 (IntKind.u64.wrap (t227)), .int .i64 4] rfl (by (try simp only [List.map_toArray, List.map_cons, List.map_nil]); first | done | rfl | (simp only [List.length_drop, List.length_take]; rfl)) ?_; (with_reducible refine (godwitref01_U.calls k _ _ y234 (IntKind.u64.wrap (t227)) 4 t237 _ ?side1 ?side2 A9.out).mono ?_); (case side1 => repeat (first | exact (Kd.R_reads' HO236.out).2.2 | (with_reducible refine Kd.C_alloc ?_ _) | (with_reducible refine Kd.C_drewN ?_ _) | (with_reducible refine Kd.C_drew ?_))); (case side2 => exact (Kd.R_reads' HO236.out).2.1); rintro e w18 ⟨v238, rfl, ho0, hb⟩; refine ⟨_, rfl, ?_⟩; have n0_ := Aside0.mk (Kd.R_elder' (by (with_reducible repeat (first | apply Kd.R_alloc | apply Kd.R_drewN | apply Kd.R_drew)); exact HO225.out) (Kd.R_base ho0) hb); have n1_ := Aside0.mk (Kd.R_elder' (by (with_reducible repeat (first | apply Kd.R_alloc | apply Kd.R_drewN | apply Kd.R_drew)); exact HO236.out) (Kd.R_base ho0) hb); have n2_ := Aside0.mk (Kd.R_lower (Kd.R_new' (Kd.R_new' ho0 (Kd.R_lt (by (with_reducible repeat (first | apply Kd.R_alloc | apply Kd.R_drewN | apply Kd.R_drew)); exact HO225.out))) (Kd.R_lt (by (with_reducible repeat (first | apply Kd.R_alloc | apply Kd.R_drewN | apply Kd.R_drew)); exact HO236.out))) (below_size (by repeat (first | (with_reducible first | exact HB.out | apply below_alloc | apply pw_below_drewN | apply below_drew1) | exact HB.out)))); have n3_ := Aside0.mk (below_step (by repeat (first | (with_reducible first | exact HB.out | apply below_alloc | apply pw_below_drewN | apply below_drew1) | exact HB.out)) hb); clear HO225; clear HO236; clear HB; have HO225 := n0_; have HO236 := n1_; have HO239 := n2_; have HB := n3_; clear n0_ n1_ n2_ n3_; (try clear hb); (try clear hb2); (try clear hk); (try clear hi); (try clear ho0)) | ((with_reducible refine gate_builtin (b := .append) (xs := #[.tmp 30, .tmp 31]) rfl ?_); at_builtin; refine Kd.R_append_rows (Kd.int .u8) (w0 := w) w.heap.size rfl (.tmp 30) (.tmp 31) 22 5 (.int .u8 0) 1 rfl Try.underlying22 info5 rfl (by decide) (by omega) v238 t237 l1 _ _ _ (fun k_ => some k_ ≠ (.slice Ao12 t223.length co12 : Value).ownBlock ∧ some k_ ≠ (.slice Ao17 y234.length co17 : Value).ownBlock) (fun _ => False) rfl rfl ?aO ?aR (fun _ _ h => h) (fun _ h => h.elim) ?aF ?aB ?aS ?aL ?_; (case aR => repeat (first | exact (Kd.C_below HR1.out HB.out) | (with_reducible refine Kd.C_alloc ?_ _) | (with_reducible refine Kd.C_drewN ?_ _) | (with_reducible refine Kd.C_drew ?_))); (case aB => exact (by repeat (first | (with_reducible first | exact HB.out | apply below_alloc | apply pw_below_drewN | apply below_drew1) | exact HB.out))); (case aF => exact (fun k_ hk => ⟨Kd.fresh' (Kd.R_lt (by (with_reducible repeat (first | apply Kd.R_alloc | apply Kd.R_drewN | apply Kd.R_drew)); exact HO225.out)) k_ hk, Kd.fresh' (Kd.R_lt (by (with_reducible repeat (first | apply Kd.R_alloc | apply Kd.R_drewN | apply Kd.R_drew)); exact HO236.out)) k_ hk⟩)); (case aO => exact (by (with_reducible repeat (first | apply Kd.R_alloc | apply Kd.R_drewN | apply Kd.R_drew)); exact Kd.R_mono HO239.out (fun _ hk => ⟨hk.1.2, hk.2⟩))); (case aS => exact (below_size (by repeat (first | (with_reducible first | exact HB.out | apply below_alloc | apply pw_below_drewN | apply below_drew1) | exact HB.out)))); (case aL => have := LMc10.out; omega); intro v241 w19 ho hb hg hat; rw [← Ny240.out] at ho; have n0_ := Aside0.mk (Kd.R_after (ok := (fun k_ => some k_ ≠ (.slice Ao17 y234.length co17 : Value).ownBlock)) (by (with_reducible repeat (first | apply Kd.R_alloc | apply Kd.R_drewN | apply Kd.R_drew)); exact Kd.R_mono HO225.out (fun _ hk => ⟨hk.1.2, hk.2⟩)) hg hat); have n1_ := Aside0.mk (Kd.R_after (ok := (fun k_ => some k_ ≠ (.slice Ao12 t223.length co12 : Value).ownBlock)) (by (with_reducible repeat (first | apply Kd.R_alloc | apply Kd.R_drewN | apply Kd.R_drew)); exact HO236.out) hg hat); have n2_ := Aside0.mk (hb); have n3_ := Aside0.mk (ho); clear HO225; clear HO236; clear HB; clear HO239; have HO225 := n0_; have HO236 := n1_; have HB := n2_; have HO242 := n3_; clear n0_ n1_ n2_ n3_; clear ho hb hg hat))
          go_ret2
          first | (with_reducible exact (clash2 A9 A4).elim) | (with_reducible exact (clash2 A4 A9).elim) | exact ⟨_, by first | rfl | (simp [errW_none, errW_some] <;> rfl) | (simp [*, errW_none, errW_some] <;> rfl), by (with_reducible repeat (first | apply Kd.R_alloc | apply Kd.R_drewN | apply Kd.R_drew)); exact Kd.R_mono HO242.out (fun _ hk => trivial), by repeat (first | (with_reducible first | exact HB.out | apply below_alloc | apply pw_below_drewN | apply below_drew1) | exact HB.out)⟩
        · rw [if_neg c10] at H
          exact absurd H (by simp)
      · rw [if_neg c8] at H
        exact absurd H (by simp)
    · rw [if_neg c7] at H
      exact absurd H (by simp)

end Go.Proofs.Ytdjenkcafhdicaa.Q
