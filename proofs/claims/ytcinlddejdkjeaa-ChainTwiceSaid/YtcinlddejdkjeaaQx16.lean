-- written by a turned copy of the kit's printer (wip/tools/patch_print.py over print.py); contracts of given functions are this session's own
import Derived.Test.YtcinlddejdkjeaaQx0
import Derived.Test.YtcinlddejdkjeaaQx8
import Derived.Test.YtcinlddejdkjeaaQx9
import Derived.Test.YtcinlddejdkjeaaQx11
import Derived.Test.YtcinlddejdkjeaaQx12
import Derived.Test.YtcinlddejdkjeaaQx14
import Derived.Test.YtcinlddejdkjeaaQx15
namespace Go.Proofs.Ytcinlddejdkjeaa.Q
open Go.RowKit Go.Proofs.YtcinlddejdkjeaaW.PrintWords Go.Proofs.YtcinlddejdkjeaaW.PrintLast Go.Proofs.YtcinlddejdkjeaaW.PrintMore Go.Proofs.Ytcinlddejdkjeaa.G
attribute [local go_sem] max2_int min2_int max_two min_two max_three min_three max_four min_four   -- for this text's walks alone
set_option linter.unusedVariables false
set_option linter.unusedSimpArgs false

/-! ### godwitlaw07_ChainTwice: function 3 -/
def godwitlaw07_ChainTwice.f (k : Nat) (l0 : List (S46)) (a1 : Int) (a2 : Int) : Option (Bool) := (godwitlaw07_awake.f k).bind fun t205 => ((godwitref07_Few.f k l0).bind fun t206 => (if t206 = true then ((godwitlaw07_grown.f k l0).bind fun t207 => ((chain_Vacuum.f k t207 (mn a1 a2)).bind fun t211 => ((chain_Vacuum.f k t211 (mx a1 a2)).bind fun t214 => ((chain_Vacuum.f k t207 (mx a1 a2)).bind fun t218 => ((chain_Vacuum.f k t218 (mn a1 a2)).bind fun t222 => (if t205 = true then ((godwitlaw07_theirs.f k t214).bind fun t226 => ((godwitlaw07_theirs.f k t218).bind fun t229 => ((godwitref07_Same.f k t226 t229).bind fun t232 => (if t232 = true then ((godwitlaw07_theirs.f k t218).bind fun t233 => ((godwitlaw07_theirs.f k t222).bind fun t236 => ((godwitref07_Same.f k t233 t236).bind fun t239 => (some t239)))) else (none))))) else (none))))))) else (some t205)))
theorem godwitlaw07_ChainTwice.mono : ∀ a0 a1 a2 k, LeO (godwitlaw07_ChainTwice.f k a0 a1 a2) (godwitlaw07_ChainTwice.f (k + 1) a0 a1 a2) := by
  intro a0 a1 a2 k
  unfold godwitlaw07_ChainTwice.f
  repeat' first
      | (with_reducible exact chain_Vacuum.mono _ _ _)
      | (with_reducible exact godwitlaw07_awake.mono _)
      | (with_reducible exact godwitlaw07_grown.mono _ _)
      | (with_reducible exact godwitlaw07_theirs.mono _ _)
      | (with_reducible exact godwitref07_Few.mono _ _)
      | (with_reducible exact godwitref07_Same.mono _ _ _)
      | (with_reducible exact LeO.refl _)
      | (with_reducible exact LeO.none _)
      | (with_reducible refine LeO.ite ?_ ?_)
      | (with_reducible refine LeO.bind ?_ (fun _ => ?_))
      | exact chain_Vacuum.mono _ _ _
      | exact godwitlaw07_awake.mono _
      | exact godwitlaw07_grown.mono _ _
      | exact godwitlaw07_theirs.mono _ _
      | exact godwitref07_Few.mono _ _
      | exact godwitref07_Same.mono _ _ _
      | exact LeO.none _
      | refine LeO.ite ?_ ?_
      | refine LeO.bind ?_ (fun _ => ?_)
def godwitlaw07_ChainTwice.T8 : Bool × List (List Nat × List Nat) := (true, [([], []), ([0], [0]), ([1], [1]), ([2, 1], [1, 2]), ([3, 1, 1], [1, 3]), ([1], [1]), ([5, 1], [1, 5]), ([6, 4, 1], [1, 6]), ([4, 7, 7, 1], [1, 4, 7]), ([1, 8], [1, 8]), ([9, 8], [9]), ([10], [10]), ([11, 10], [10, 11]), ([12, 10, 10], [10, 12]), ([10], [10]), ([14, 10], [10, 14]), ([15, 13, 10], [10, 15]), ([13, 16, 16, 10], [10, 13, 16]), ([10, 17], [10, 17]), ([18, 17, 0, 1, 2, 3, 4, 5, 6, 7, 8, 9, 10, 11, 12, 13, 14, 15, 16, 17, 18], [18])])
def godwitlaw07_ChainTwice.B8 : List Nat := [0, 1, 3, 7, 15, 3, 35, 127, 255, 511, 1023, 2047, 4095, 8191, 2047, 18431, 65535, 131071, 262143, 524287]
theorem godwitlaw07_ChainTwice.tab8 : rtab .any (opsOf Try.f3 8) = godwitlaw07_ChainTwice.T8 := by kernel_rfl
theorem godwitlaw07_ChainTwice.bits8 : waitsOk godwitlaw07_ChainTwice.T8.2 godwitlaw07_ChainTwice.B8 = true := by kernel_rfl
set_option maxHeartbeats 8000000 in
set_option maxRecDepth 100000 in
theorem godwitlaw07_ChainTwice.calls (k : Nat) (A0 : Option Addr) (c0 : Nat) (l0 : List (S46)) (a1 : Int) (a2 : Int) (r : Bool) (w : World) (hr0 : Kd.C k46 w A0 l0.length l0) (hc0 : l0.length ≤ c0) (h : godwitlaw07_ChainTwice.f k l0 a1 a2 = some r) :
    Calls Try.prog 3 #[.slice A0 l0.length c0, .int .i64 a1, .int .i64 a2] w fun e w' => e = .returned (.bool r) ∧ Below w.heap.size w w' := by
  have hu26 := Try.underlying26
  have hu29 := Try.underlying29
  have HR0 := Aside0.mk hr0
  have HC0 := Aside0.mk hc0
  clear hr0 hc0
  have HB := Aside0.mk (Below.refl w.heap.size w)
  have H : ((godwitlaw07_awake.f k).bind fun t205 => ((godwitref07_Few.f k l0).bind fun t206 => (if t206 = true then ((godwitlaw07_grown.f k l0).bind fun t207 => ((chain_Vacuum.f k t207 (mn a1 a2)).bind fun t211 => ((chain_Vacuum.f k t211 (mx a1 a2)).bind fun t214 => ((chain_Vacuum.f k t207 (mx a1 a2)).bind fun t218 => ((chain_Vacuum.f k t218 (mn a1 a2)).bind fun t222 => (if t205 = true then ((godwitlaw07_theirs.f k t214).bind fun t226 => ((godwitlaw07_theirs.f k t218).bind fun t229 => ((godwitref07_Same.f k t226 t229).bind fun t232 => (if t232 = true then ((godwitlaw07_theirs.f k t218).bind fun t233 => ((godwitlaw07_theirs.f k t222).bind fun t236 => ((godwitref07_Same.f k t233 t236).bind fun t239 => (some t239)))) else (none))))) else (none))))))) else (some t205)))) = some r := h
  clear h
  replace H := Option.bind_eq_some_iff.mp H
  obtain ⟨t205, A40, H⟩ := H
  replace H : ((godwitref07_Few.f k l0).bind fun t206 => (if t206 = true then ((godwitlaw07_grown.f k l0).bind fun t207 => ((chain_Vacuum.f k t207 (mn a1 a2)).bind fun t211 => ((chain_Vacuum.f k t211 (mx a1 a2)).bind fun t214 => ((chain_Vacuum.f k t207 (mx a1 a2)).bind fun t218 => ((chain_Vacuum.f k t218 (mn a1 a2)).bind fun t222 => (if t205 = true then ((godwitlaw07_theirs.f k t214).bind fun t226 => ((godwitlaw07_theirs.f k t218).bind fun t229 => ((godwitref07_Same.f k t226 t229).bind fun t232 => (if t232 = true then ((godwitlaw07_theirs.f k t218).bind fun t233 => ((godwitlaw07_theirs.f k t222).bind fun t236 => ((godwitref07_Same.f k t233 t236).bind fun t239 => (some t239)))) else (none))))) else (none))))))) else (some t205))) = some r := H
  have A4 := Aside0.mk A40
  clear A40
  replace H := Option.bind_eq_some_iff.mp H
  obtain ⟨t206, A50, H⟩ := H
  replace H : (if t206 = true then ((godwitlaw07_grown.f k l0).bind fun t207 => ((chain_Vacuum.f k t207 (mn a1 a2)).bind fun t211 => ((chain_Vacuum.f k t211 (mx a1 a2)).bind fun t214 => ((chain_Vacuum.f k t207 (mx a1 a2)).bind fun t218 => ((chain_Vacuum.f k t218 (mn a1 a2)).bind fun t222 => (if t205 = true then ((godwitlaw07_theirs.f k t214).bind fun t226 => ((godwitlaw07_theirs.f k t218).bind fun t229 => ((godwitref07_Same.f k t226 t229).bind fun t232 => (if t232 = true then ((godwitlaw07_theirs.f k t218).bind fun t233 => ((godwitlaw07_theirs.f k t222).bind fun t236 => ((godwitref07_Same.f k t233 t236).bind fun t239 => (some t239)))) else (none))))) else (none))))))) else (some t205)) = some r := H
  have A5 := Aside0.mk A50
  clear A50
  by_cases c6 : t206 = true
  · subst c6
    have H1 : ((godwitlaw07_grown.f k l0).bind fun t207 => ((chain_Vacuum.f k t207 (mn a1 a2)).bind fun t211 => ((chain_Vacuum.f k t211 (mx a1 a2)).bind fun t214 => ((chain_Vacuum.f k t207 (mx a1 a2)).bind fun t218 => ((chain_Vacuum.f k t218 (mn a1 a2)).bind fun t222 => (if t205 = true then ((godwitlaw07_theirs.f k t214).bind fun t226 => ((godwitlaw07_theirs.f k t218).bind fun t229 => ((godwitref07_Same.f k t226 t229).bind fun t232 => (if t232 = true then ((godwitlaw07_theirs.f k t218).bind fun t233 => ((godwitlaw07_theirs.f k t222).bind fun t236 => ((godwitref07_Same.f k t233 t236).bind fun t239 => (some t239)))) else (none))))) else (none))))))) = some r := by rw [if_pos rfl] at H; exact H
    clear H
    have H := H1
    clear H1
    replace H := Option.bind_eq_some_iff.mp H
    obtain ⟨t207, A70, H⟩ := H
    replace H : ((chain_Vacuum.f k t207 (mn a1 a2)).bind fun t211 => ((chain_Vacuum.f k t211 (mx a1 a2)).bind fun t214 => ((chain_Vacuum.f k t207 (mx a1 a2)).bind fun t218 => ((chain_Vacuum.f k t218 (mn a1 a2)).bind fun t222 => (if t205 = true then ((godwitlaw07_theirs.f k t214).bind fun t226 => ((godwitlaw07_theirs.f k t218).bind fun t229 => ((godwitref07_Same.f k t226 t229).bind fun t232 => (if t232 = true then ((godwitlaw07_theirs.f k t218).bind fun t233 => ((godwitlaw07_theirs.f k t222).bind fun t236 => ((godwitref07_Same.f k t233 t236).bind fun t239 => (some t239)))) else (none))))) else (none)))))) = some r := H
    have A7 := Aside0.mk A70
    clear A70
    obtain ⟨ji8, hji8⟩ : ∃ j_ : Int, (mn a1 a2) = j_ := ⟨_, rfl⟩
    replace H : ((chain_Vacuum.f k t207 (ji8)).bind fun t211 => ((chain_Vacuum.f k t211 (mx a1 a2)).bind fun t214 => ((chain_Vacuum.f k t207 (mx a1 a2)).bind fun t218 => ((chain_Vacuum.f k t218 (ji8)).bind fun t222 => (if t205 = true then ((godwitlaw07_theirs.f k t214).bind fun t226 => ((godwitlaw07_theirs.f k t218).bind fun t229 => ((godwitref07_Same.f k t226 t229).bind fun t232 => (if t232 = true then ((godwitlaw07_theirs.f k t218).bind fun t233 => ((godwitlaw07_theirs.f k t222).bind fun t236 => ((godwitref07_Same.f k t233 t236).bind fun t239 => (some t239)))) else (none))))) else (none)))))) = some r := by first | (rw [hji8] at H; exact H) | (simp only [hji8] at H ⊢; exact H)
    (try rw [hji8] at A4)
    (try rw [hji8] at A5)
    (try rw [hji8] at A7)
    have hji8_ : (if a2 < a1 then a2 else a1) = ji8 := hji8
    replace H := Option.bind_eq_some_iff.mp H
    obtain ⟨t211, A90, H⟩ := H
    replace H : ((chain_Vacuum.f k t211 (mx a1 a2)).bind fun t214 => ((chain_Vacuum.f k t207 (mx a1 a2)).bind fun t218 => ((chain_Vacuum.f k t218 (ji8)).bind fun t222 => (if t205 = true then ((godwitlaw07_theirs.f k t214).bind fun t226 => ((godwitlaw07_theirs.f k t218).bind fun t229 => ((godwitref07_Same.f k t226 t229).bind fun t232 => (if t232 = true then ((godwitlaw07_theirs.f k t218).bind fun t233 => ((godwitlaw07_theirs.f k t222).bind fun t236 => ((godwitref07_Same.f k t233 t236).bind fun t239 => (some t239)))) else (none))))) else (none))))) = some r := H
    have A9 := Aside0.mk A90
    clear A90
    obtain ⟨ji10, hji10⟩ : ∃ j_ : Int, (mx a1 a2) = j_ := ⟨_, rfl⟩
    replace H : ((chain_Vacuum.f k t211 (ji10)).bind fun t214 => ((chain_Vacuum.f k t207 (ji10)).bind fun t218 => ((chain_Vacuum.f k t218 (ji8)).bind fun t222 => (if t205 = true then ((godwitlaw07_theirs.f k t214).bind fun t226 => ((godwitlaw07_theirs.f k t218).bind fun t229 => ((godwitref07_Same.f k t226 t229).bind fun t232 => (if t232 = true then ((godwitlaw07_theirs.f k t218).bind fun t233 => ((godwitlaw07_theirs.f k t222).bind fun t236 => ((godwitref07_Same.f k t233 t236).bind fun t239 => (some t239)))) else (none))))) else (none))))) = some r := by first | (rw [hji10] at H; exact H) | (simp only [hji10] at H ⊢; exact H)
    (try rw [hji10] at A4)
    (try rw [hji10] at A5)
    (try rw [hji10] at A7)
    (try rw [hji10] at A9)
    have hji10_ : (if a1 < a2 then a2 else a1) = ji10 := hji10
    replace H := Option.bind_eq_some_iff.mp H
    obtain ⟨t214, A110, H⟩ := H
    replace H : ((chain_Vacuum.f k t207 (ji10)).bind fun t218 => ((chain_Vacuum.f k t218 (ji8)).bind fun t222 => (if t205 = true then ((godwitlaw07_theirs.f k t214).bind fun t226 => ((godwitlaw07_theirs.f k t218).bind fun t229 => ((godwitref07_Same.f k t226 t229).bind fun t232 => (if t232 = true then ((godwitlaw07_theirs.f k t218).bind fun t233 => ((godwitlaw07_theirs.f k t222).bind fun t236 => ((godwitref07_Same.f k t233 t236).bind fun t239 => (some t239)))) else (none))))) else (none)))) = some r := H
    have A11 := Aside0.mk A110
    clear A110
    replace H := Option.bind_eq_some_iff.mp H
    obtain ⟨t218, A120, H⟩ := H
    replace H : ((chain_Vacuum.f k t218 (ji8)).bind fun t222 => (if t205 = true then ((godwitlaw07_theirs.f k t214).bind fun t226 => ((godwitlaw07_theirs.f k t218).bind fun t229 => ((godwitref07_Same.f k t226 t229).bind fun t232 => (if t232 = true then ((godwitlaw07_theirs.f k t218).bind fun t233 => ((godwitlaw07_theirs.f k t222).bind fun t236 => ((godwitref07_Same.f k t233 t236).bind fun t239 => (some t239)))) else (none))))) else (none))) = some r := H
    have A12 := Aside0.mk A120
    clear A120
    replace H := Option.bind_eq_some_iff.mp H
    obtain ⟨t222, A130, H⟩ := H
    replace H : (if t205 = true then ((godwitlaw07_theirs.f k t214).bind fun t226 => ((godwitlaw07_theirs.f k t218).bind fun t229 => ((godwitref07_Same.f k t226 t229).bind fun t232 => (if t232 = true then ((godwitlaw07_theirs.f k t218).bind fun t233 => ((godwitlaw07_theirs.f k t222).bind fun t236 => ((godwitref07_Same.f k t233 t236).bind fun t239 => (some t239)))) else (none))))) else (none)) = some r := H
    have A13 := Aside0.mk A130
    clear A130
    by_cases c14 : t205 = true
    · subst c14
      have H1 : ((godwitlaw07_theirs.f k t214).bind fun t226 => ((godwitlaw07_theirs.f k t218).bind fun t229 => ((godwitref07_Same.f k t226 t229).bind fun t232 => (if t232 = true then ((godwitlaw07_theirs.f k t218).bind fun t233 => ((godwitlaw07_theirs.f k t222).bind fun t236 => ((godwitref07_Same.f k t233 t236).bind fun t239 => (some t239)))) else (none))))) = some r := by rw [if_pos rfl] at H; exact H
      clear H
      have H := H1
      clear H1
      replace H := Option.bind_eq_some_iff.mp H
      obtain ⟨t226, A150, H⟩ := H
      replace H : ((godwitlaw07_theirs.f k t218).bind fun t229 => ((godwitref07_Same.f k t226 t229).bind fun t232 => (if t232 = true then ((godwitlaw07_theirs.f k t218).bind fun t233 => ((godwitlaw07_theirs.f k t222).bind fun t236 => ((godwitref07_Same.f k t233 t236).bind fun t239 => (some t239)))) else (none)))) = some r := H
      have A15 := Aside0.mk A150
      clear A150
      replace H := Option.bind_eq_some_iff.mp H
      obtain ⟨t229, A160, H⟩ := H
      replace H : ((godwitref07_Same.f k t226 t229).bind fun t232 => (if t232 = true then ((godwitlaw07_theirs.f k t218).bind fun t233 => ((godwitlaw07_theirs.f k t222).bind fun t236 => ((godwitref07_Same.f k t233 t236).bind fun t239 => (some t239)))) else (none))) = some r := H
      have A16 := Aside0.mk A160
      clear A160
      replace H := Option.bind_eq_some_iff.mp H
      obtain ⟨t232, A170, H⟩ := H
      replace H : (if t232 = true then ((godwitlaw07_theirs.f k t218).bind fun t233 => ((godwitlaw07_theirs.f k t222).bind fun t236 => ((godwitref07_Same.f k t233 t236).bind fun t239 => (some t239)))) else (none)) = some r := H
      have A17 := Aside0.mk A170
      clear A170
      by_cases c18 : t232 = true
      · subst c18
        have H1 : ((godwitlaw07_theirs.f k t218).bind fun t233 => ((godwitlaw07_theirs.f k t222).bind fun t236 => ((godwitref07_Same.f k t233 t236).bind fun t239 => (some t239)))) = some r := by rw [if_pos rfl] at H; exact H
        clear H
        have H := H1
        clear H1
        replace H := Option.bind_eq_some_iff.mp H
        obtain ⟨t233, A190, H⟩ := H
        replace H : ((godwitlaw07_theirs.f k t222).bind fun t236 => ((godwitref07_Same.f k t233 t236).bind fun t239 => (some t239))) = some r := H
        have A19 := Aside0.mk A190
        clear A190
        replace H := Option.bind_eq_some_iff.mp H
        obtain ⟨t236, A200, H⟩ := H
        replace H : ((godwitref07_Same.f k t233 t236).bind fun t239 => (some t239)) = some r := H
        have A20 := Aside0.mk A200
        clear A200
        replace H := Option.bind_eq_some_iff.mp H
        obtain ⟨t239, A210, H⟩ := H
        replace H : (some t239) = some r := H
        have A21 := Aside0.mk A210
        clear A210
        obtain rfl := Option.some.inj H
        go_enter Try.func3, Try.ntmps3
        try go_wp2_with (first | ((with_reducible refine gate_callee (f := 8) rfl ?_); refine goesL_ (some 12) rfl rfl Try.func8 (by kernel_rfl) rfl #[] rfl (by (try simp only [List.map_toArray, List.map_cons, List.map_nil]); first | done | rfl | (simp only [List.length_drop, List.length_take]; rfl)) ?_; (with_reducible refine (godwitlaw07_awake.calls k  true _ A4.out).mono ?_); rintro e w22 ⟨rfl, hb⟩; refine ⟨_, rfl, ?_⟩; have n0_ := Aside0.mk (below_step (by repeat (first | (with_reducible first | exact HB.out | apply below_alloc | apply pw_below_drewN | apply below_drew1) | exact HB.out)) hb); clear HB; have HB := n0_; clear n0_; (try clear hb); (try clear hb2); (try clear hk); (try clear hi)) | ((with_reducible refine gate_callee (f := 9) rfl ?_); refine goesL_ (some 15) rfl rfl Try.func9 (by kernel_rfl) rfl #[.agg #[.slice A0 l0.length c0]] rfl (by (try simp only [List.map_toArray, List.map_cons, List.map_nil]); first | done | rfl | (simp only [List.length_drop, List.length_take]; rfl)) ?_; (with_reducible refine (godwitref07_Few.calls k _ _ l0 true _ ?side1 ?side2 A5.out).mono ?_); (case side1 => repeat (first | exact (Kd.C_below HR0.out HB.out) | (with_reducible refine Kd.C_alloc ?_ _) | (with_reducible refine Kd.C_drewN ?_ _) | (with_reducible refine Kd.C_drew ?_))); (case side2 => exact HC0.out); rintro e w23 ⟨rfl, hb⟩; refine ⟨_, rfl, ?_⟩; have n0_ := Aside0.mk (below_step (by repeat (first | (with_reducible first | exact HB.out | apply below_alloc | apply pw_below_drewN | apply below_drew1) | exact HB.out)) hb); clear HB; have HB := n0_; clear n0_; (try clear hb); (try clear hb2); (try clear hk); (try clear hi)) | ((with_reducible refine gate_callee (f := 10) rfl ?_); refine goesL_ (some 19) rfl rfl Try.func10 (by kernel_rfl) rfl #[.slice A0 l0.length c0] rfl (by (try simp only [List.map_toArray, List.map_cons, List.map_nil]); first | done | rfl | (simp only [List.length_drop, List.length_take]; rfl)) ?_; (with_reducible refine (godwitlaw07_grown.calls k (fun k_ => k_ < w.heap.size) _ _ l0 t207 _ ?side1 A7.out).mono ?_); (case side1 => exact Kd.V_mk HC0.out (Kd.F_below (Kd.C_F k46_heap HR0.out) (by repeat (first | (with_reducible first | exact HB.out | apply below_alloc | apply pw_below_drewN | apply below_drew1) | exact HB.out)))); rintro e w24 ⟨v208, rfl, ho0, hb⟩; refine ⟨_, rfl, ?_⟩; have n0_ := Aside0.mk (Kd.N_lower (Kd.N_mono (ok' := fun k_ => True) ho0 (fun k_ hk_ => trivial)) (below_size (by repeat (first | (with_reducible first | exact HB.out | apply below_alloc | apply pw_below_drewN | apply below_drew1) | exact HB.out)))); have n1_ := Aside0.mk (below_step (by repeat (first | (with_reducible first | exact HB.out | apply below_alloc | apply pw_below_drewN | apply below_drew1) | exact HB.out)) hb); clear HB; have HO209 := n0_; have HB := n1_; clear n0_ n1_; (try clear hb); (try clear hb2); (try clear hk); (try clear hi); (try clear ho0)) | ((with_reducible refine gate_dst (N := 8) rfl ?_); refine box_event ?hg (N := 8) ?hd (cs := #[.slice none 0 0]) (t := 29) ?hr ?_; (case hd => rfl); (case hg => rfl); (case hr => first | (go_simp; done) | (go_simp; rfl)); intro gb210 hg w25 hbox hb; have n0_ := Aside0.mk (Kd.N_below (Kd.N_elderB (by (with_reducible repeat (first | apply Kd.N_alloc | apply Kd.N_drewN | apply Kd.N_drew)); exact HO209.out) gb210 (Nat.le_of_eq hg.symm)) hb); have n1_ := Aside0.mk (below_step (by repeat (first | (with_reducible first | exact HB.out | apply below_alloc | apply pw_below_drewN | apply below_drew1) | exact HB.out)) hb); have n2_ := Aside0.mk (hbox); have n3_ := Aside0.mk ((by rw [hg]; exact (below_size (by repeat (first | (with_reducible first | exact HB.out | apply below_alloc | apply pw_below_drewN | apply below_drew1) | exact HB.out))) : w.heap.size ≤ gb210)); have n4_ := Aside0.mk ((by rw [hg]; exact (below_size (by repeat (first | (with_reducible first | exact HB.out | apply below_alloc | apply pw_below_drewN | apply below_drew1) | exact HB.out))) : w.heap.size ≤ gb210)); clear HO209; clear HB; have HO209 := n0_; have HB := n1_; have BK210 := n2_; have GW210 := n3_; have GE210 := n4_; clear n0_ n1_ n2_ n3_ n4_; clear hb hbox hg; obtain ⟨Ao26, co26, eo26⟩ := Kd.N_slice HO209.out; subst eo26; have hcz27_0 : w25.cell? ⟨gb210, 0, none⟩ = some (.slice none 0 0) := (blk_cell BK210.out 0).trans rfl; have hfz27_0 := blk_frozen BK210.out 0) | ((with_reducible refine gate_store (t := 29) (p := 8) rfl ?_); refine store_event (t := 29) (p := 8) (v := ?vo_w28) (w1 := (w25.setCell ⟨gb210, 0, none⟩ (.slice Ao26 t207.length co26))) ?hg ?ho ?hn ?hr ?_; (case ho => rfl); (case hg => rfl); (case hn => rfl); (case hr => first | (go_simp; done) | (go_simp; rfl)); intro w28 hw; have n0_ : Aside0 (Kd.N k37 37 w28 w.heap.size (fun k_ => k_ ≠ gb210) (.slice Ao26 t207.length co26) t207) := ⟨(by rw [hw]; exact (by (with_reducible repeat (first | apply Kd.N_alloc | apply Kd.N_drewN | apply Kd.N_drew)); exact Kd.N_mono (Kd.N_far (p := ⟨gb210, 0, none⟩) (Kd.N_mono HO209.out (fun k_ hk => (⟨hk, hk.2⟩ : _ ∧ k_ ≠ gb210))) (fun _ hk => hk.2) (.slice Ao26 t207.length co26)) (fun _ hk => hk.1.2)))⟩; have n1_ : Aside0 (w28.heap[gb210]? = some (.cells #[.slice Ao26 t207.length co26] 29 (0, 0))) := ⟨(by rw [hw]; exact (by (with_reducible repeat (first | refine blk_drewN ?_ _ | refine blk_drew ?_ | refine blk_alloc ?_ _)); refine blk_put (cs := #[.slice none 0 0]) ?_ 0 _ rfl; (with_reducible repeat (first | refine blk_drewN ?_ _ | refine blk_drew ?_ | refine blk_alloc ?_ _)); exact BK210.out))⟩; have n2_ : Aside0 (Below w.heap.size w w28) := ⟨(by rw [hw]; exact (by repeat (first | (with_reducible first | exact HB.out | apply below_alloc | apply pw_below_drewN | apply below_drew1 | refine below_set ?_ GE210.out) | exact HB.out)))⟩; clear hw; clear HO209; clear BK210; clear HB; have HO209 := n0_; have BK210 := n1_; have HB := n2_; clear n0_ n1_ n2_; have hcz29_0 : w28.cell? ⟨gb210, 0, none⟩ = some (.slice Ao26 t207.length co26) := (blk_cell BK210.out 0).trans rfl; have hfz29_0 := blk_frozen BK210.out 0) | ((with_reducible refine gate_callee (f := 11) rfl ?_); refine goesL_ (some 24) rfl rfl Try.func11 (by kernel_rfl) rfl #[.agg #[.slice Ao26 t207.length co26], .int .i64 ji8] rfl (by (try simp only [List.map_toArray, List.map_cons, List.map_nil]); first | done | (simp only [hji8]; rfl) | rfl | (simp only [List.length_drop, List.length_take]; rfl)) ?_; (with_reducible refine (chain_Vacuum.calls k (fun k_ => k_ ≠ gb210) _ _ t207 ji8 t211 _ ?side1 A9.out).mono ?_); (case side1 => exact Kd.N_V (HO209.out)); rintro e w30 ⟨v212, rfl, ho0, hb⟩; refine ⟨_, rfl, ?_⟩; have n0_ := Aside0.mk (Kd.N_below (by (with_reducible repeat (first | apply Kd.N_alloc | apply Kd.N_drewN | apply Kd.N_drew)); exact HO209.out) hb); have n1_ := Aside0.mk (Kd.V_lower (Kd.V_mono (ok' := fun k_ => k_ ≠ gb210) ho0 (fun k_ hk_ => Or.elim hk_ (fun hs_ => hs_) (fun hn_ => (Kd.freshB (g := gb210) (o := .cells #[.slice Ao26 t207.length co26] 29 (0, 0)) (by (with_reducible repeat (first | refine blk_drewN ?_ _ | refine blk_drew ?_ | refine blk_alloc ?_ _)); exact BK210.out) k_ hn_)))) (below_size (by repeat (first | (with_reducible first | exact HB.out | apply below_alloc | apply pw_below_drewN | apply below_drew1 | refine below_set ?_ GE210.out) | exact HB.out)))); have n2_ := Aside0.mk (blk_below (g := gb210) (o := .cells #[.slice Ao26 t207.length co26] 29 (0, 0)) (by (with_reducible repeat (first | refine blk_drewN ?_ _ | refine blk_drew ?_ | refine blk_alloc ?_ _)); exact BK210.out) hb); have n3_ := Aside0.mk (below_step (by repeat (first | (with_reducible first | exact HB.out | apply below_alloc | apply pw_below_drewN | apply below_drew1 | refine below_set ?_ GE210.out) | exact HB.out)) hb); clear HO209; clear BK210; clear HB; have HO209 := n0_; have HO213 := n1_; have BK210 := n2_; have HB := n3_; clear n0_ n1_ n2_ n3_; (try clear hb); (try clear hb2); (try clear hk); (try clear hi); (try clear ho0); obtain ⟨Ao31, co31, eo31⟩ := Kd.V_slice HO213.out; subst eo31) | ((with_reducible refine gate_callee (f := 11) rfl ?_); refine goesL_ (some 28) rfl rfl Try.func11 (by kernel_rfl) rfl #[.agg #[.slice Ao31 t211.length co31], .int .i64 ji10] rfl (by (try simp only [List.map_toArray, List.map_cons, List.map_nil]); first | done | (simp only [hji10]; rfl) | rfl | (simp only [List.length_drop, List.length_take]; rfl)) ?_; (with_reducible refine (chain_Vacuum.calls k (fun k_ => k_ ≠ gb210) _ _ t211 ji10 t214 _ ?side1 A11.out).mono ?_); (case side1 => exact HO213.out); rintro e w32 ⟨v215, rfl, ho0, hb⟩; refine ⟨_, rfl, ?_⟩; have n0_ := Aside0.mk (Kd.N_below (by (with_reducible repeat (first | apply Kd.N_alloc | apply Kd.N_drewN | apply Kd.N_drew)); exact HO209.out) hb); have n1_ := Aside0.mk (Kd.V_below (by (with_reducible repeat (first | apply Kd.V_alloc | apply Kd.V_drewN | apply Kd.V_drew)); exact HO213.out) hb); have n2_ := Aside0.mk (Kd.V_lower (Kd.V_mono (ok' := fun k_ => k_ ≠ gb210) ho0 (fun k_ hk_ => Or.elim hk_ (fun hs_ => hs_) (fun hn_ => (Kd.freshB (g := gb210) (o := .cells #[.slice Ao26 t207.length co26] 29 (0, 0)) (by (with_reducible repeat (first | refine blk_drewN ?_ _ | refine blk_drew ?_ | refine blk_alloc ?_ _)); exact BK210.out) k_ hn_)))) (below_size (by repeat (first | (with_reducible first | exact HB.out | apply below_alloc | apply pw_below_drewN | apply below_drew1 | refine below_set ?_ GE210.out) | exact HB.out)))); have n3_ := Aside0.mk (blk_below (g := gb210) (o := .cells #[.slice Ao26 t207.length co26] 29 (0, 0)) (by (with_reducible repeat (first | refine blk_drewN ?_ _ | refine blk_drew ?_ | refine blk_alloc ?_ _)); exact BK210.out) hb); have n4_ := Aside0.mk (below_step (by repeat (first | (with_reducible first | exact HB.out | apply below_alloc | apply pw_below_drewN | apply below_drew1 | refine below_set ?_ GE210.out) | exact HB.out)) hb); clear HO209; clear HO213; clear BK210; clear HB; have HO209 := n0_; have HO213 := n1_; have HO216 := n2_; have BK210 := n3_; have HB := n4_; clear n0_ n1_ n2_ n3_ n4_; (try clear hb); (try clear hb2); (try clear hk); (try clear hi); (try clear ho0)) | ((with_reducible refine gate_dst (N := 9) rfl ?_); refine box_event ?hg (N := 9) ?hd (cs := #[.slice none 0 0]) (t := 29) ?hr ?_; (case hd => rfl); (case hg => rfl); (case hr => first | (go_simp; done) | (go_simp; rfl)); intro gb217 hg w33 hbox hb; have n0_ := Aside0.mk (Kd.N_below (Kd.N_elderB (by (with_reducible repeat (first | apply Kd.N_alloc | apply Kd.N_drewN | apply Kd.N_drew)); exact HO209.out) gb217 (Nat.le_of_eq hg.symm)) hb); have n1_ := Aside0.mk (Kd.V_below (Kd.V_elderB (by (with_reducible repeat (first | apply Kd.V_alloc | apply Kd.V_drewN | apply Kd.V_drew)); exact HO213.out) gb217 (Nat.le_of_eq hg.symm)) hb); have n2_ := Aside0.mk (Kd.V_below (Kd.V_elderB (by (with_reducible repeat (first | apply Kd.V_alloc | apply Kd.V_drewN | apply Kd.V_drew)); exact HO216.out) gb217 (Nat.le_of_eq hg.symm)) hb); have n3_ := Aside0.mk (blk_below (g := gb210) (o := .cells #[.slice Ao26 t207.length co26] 29 (0, 0)) (by (with_reducible repeat (first | refine blk_drewN ?_ _ | refine blk_drew ?_ | refine blk_alloc ?_ _)); exact BK210.out) hb); have n4_ := Aside0.mk (below_step (by repeat (first | (with_reducible first | exact HB.out | apply below_alloc | apply pw_below_drewN | apply below_drew1 | refine below_set ?_ GE210.out) | exact HB.out)) hb); have n5_ := Aside0.mk (hbox); have n6_ := Aside0.mk ((by rw [hg]; exact (below_size (by repeat (first | (with_reducible first | exact HB.out | apply below_alloc | apply pw_below_drewN | apply below_drew1 | refine below_set ?_ GE210.out) | exact HB.out))) : w.heap.size ≤ gb217)); have n7_ := Aside0.mk ((by rw [hg]; exact (below_size (by repeat (first | (with_reducible first | exact HB.out | apply below_alloc | apply pw_below_drewN | apply below_drew1 | refine below_set ?_ GE210.out) | exact HB.out))) : w.heap.size ≤ gb217)); have n8_ := Aside0.mk ((by rw [hg]; exact Nat.ne_of_lt (blk_lt (g := gb210) (o := .cells #[.slice Ao26 t207.length co26] 29 (0, 0)) (by (with_reducible repeat (first | refine blk_drewN ?_ _ | refine blk_drew ?_ | refine blk_alloc ?_ _)); exact BK210.out)) : gb210 ≠ gb217)); have n9_ := Aside0.mk ((by rw [hg]; exact Nat.ne_of_gt (blk_lt (g := gb210) (o := .cells #[.slice Ao26 t207.length co26] 29 (0, 0)) (by (with_reducible repeat (first | refine blk_drewN ?_ _ | refine blk_drew ?_ | refine blk_alloc ?_ _)); exact BK210.out)) : gb217 ≠ gb210)); clear HO209; clear HO213; clear HO216; clear BK210; clear HB; have HO209 := n0_; have HO213 := n1_; have HO216 := n2_; have BK210 := n3_; have HB := n4_; have BK217 := n5_; have GW217 := n6_; have GE217 := n7_; have NB210_217 := n8_; have NB217_210 := n9_; clear n0_ n1_ n2_ n3_ n4_ n5_ n6_ n7_ n8_ n9_; clear hb hbox hg; obtain ⟨Ao34, co34, eo34⟩ := Kd.V_slice HO216.out; subst eo34; have hnb35 := NB217_210.out; have hnc35 := NB210_217.out; have hcz36_0 : w33.cell? ⟨gb217, 0, none⟩ = some (.slice none 0 0) := (blk_cell BK217.out 0).trans rfl; have hfz36_0 := blk_frozen BK217.out 0) | ((with_reducible refine gate_store (t := 29) (p := 9) rfl ?_); refine store_event (t := 29) (p := 9) (v := ?vo_w37) (w1 := (w33.setCell ⟨gb217, 0, none⟩ (.slice Ao34 t214.length co34))) ?hg ?ho ?hn ?hr ?_; (case ho => rfl); (case hg => rfl); (case hn => rfl); (case hr => first | (go_simp; done) | (go_simp; rfl)); intro w37 hw; have n0_ : Aside0 (Kd.N k37 37 w37 w.heap.size (fun k_ => k_ ≠ gb210 ∧ k_ ≠ gb217) (.slice Ao26 t207.length co26) t207) := ⟨(by rw [hw]; exact (by (with_reducible repeat (first | apply Kd.N_alloc | apply Kd.N_drewN | apply Kd.N_drew)); exact Kd.N_mono (Kd.N_far (p := ⟨gb217, 0, none⟩) (Kd.N_mono HO209.out (fun k_ hk => (⟨hk, hk.2⟩ : _ ∧ k_ ≠ gb217))) (fun _ hk => hk.2) (.slice Ao34 t214.length co34)) (fun _ hk => ⟨hk.1.1, hk.1.2⟩)))⟩; have n1_ : Aside0 (Kd.V k37 37 w37 w.heap.size (fun k_ => k_ ≠ gb210 ∧ k_ ≠ gb217) (.slice Ao31 t211.length co31) t211) := ⟨(by rw [hw]; exact (by (with_reducible repeat (first | apply Kd.V_alloc | apply Kd.V_drewN | apply Kd.V_drew)); exact Kd.V_mono (Kd.V_far (p := ⟨gb217, 0, none⟩) (Kd.V_mono HO213.out (fun k_ hk => (⟨hk, hk.2⟩ : _ ∧ k_ ≠ gb217))) (fun _ hk => hk.2) (.slice Ao34 t214.length co34)) (fun _ hk => ⟨hk.1.1, hk.1.2⟩)))⟩; have n2_ : Aside0 (Kd.V k37 37 w37 w.heap.size (fun k_ => k_ ≠ gb210 ∧ k_ ≠ gb217) (.slice Ao34 t214.length co34) t214) := ⟨(by rw [hw]; exact (by (with_reducible repeat (first | apply Kd.V_alloc | apply Kd.V_drewN | apply Kd.V_drew)); exact Kd.V_mono (Kd.V_far (p := ⟨gb217, 0, none⟩) (Kd.V_mono HO216.out (fun k_ hk => (⟨hk, hk.2⟩ : _ ∧ k_ ≠ gb217))) (fun _ hk => hk.2) (.slice Ao34 t214.length co34)) (fun _ hk => ⟨hk.1.1, hk.1.2⟩)))⟩; have n3_ : Aside0 (w37.heap[gb210]? = some (.cells #[.slice Ao26 t207.length co26] 29 (0, 0))) := ⟨(by rw [hw]; exact (by (with_reducible repeat (first | refine blk_drewN ?_ _ | refine blk_drew ?_ | refine blk_alloc ?_ _)); refine blk_far ?_ NB210_217.out _; (with_reducible repeat (first | refine blk_drewN ?_ _ | refine blk_drew ?_ | refine blk_alloc ?_ _)); exact BK210.out))⟩; have n4_ : Aside0 (w37.heap[gb217]? = some (.cells #[.slice Ao34 t214.length co34] 29 (0, 0))) := ⟨(by rw [hw]; exact (by (with_reducible repeat (first | refine blk_drewN ?_ _ | refine blk_drew ?_ | refine blk_alloc ?_ _)); refine blk_put (cs := #[.slice none 0 0]) ?_ 0 _ rfl; (with_reducible repeat (first | refine blk_drewN ?_ _ | refine blk_drew ?_ | refine blk_alloc ?_ _)); exact BK217.out))⟩; have n5_ : Aside0 (Below w.heap.size w w37) := ⟨(by rw [hw]; exact (by repeat (first | (with_reducible first | exact HB.out | apply below_alloc | apply pw_below_drewN | apply below_drew1 | refine below_set ?_ GE210.out | refine below_set ?_ GE217.out) | exact HB.out)))⟩; clear hw; clear HO209; clear HO213; clear HO216; clear BK210; clear BK217; clear HB; have HO209 := n0_; have HO213 := n1_; have HO216 := n2_; have BK210 := n3_; have BK217 := n4_; have HB := n5_; clear n0_ n1_ n2_ n3_ n4_ n5_; have hcz38_0 : w37.cell? ⟨gb210, 0, none⟩ = some (.slice Ao26 t207.length co26) := (blk_cell BK210.out 0).trans rfl; have hfz38_0 := blk_frozen BK210.out 0) | ((with_reducible refine gate_callee (f := 11) rfl ?_); refine goesL_ (some 33) rfl rfl Try.func11 (by kernel_rfl) rfl #[.agg #[.slice Ao26 t207.length co26], .int .i64 ji10] rfl (by (try simp only [List.map_toArray, List.map_cons, List.map_nil]); first | done | (simp only [hji10]; rfl) | rfl | (simp only [List.length_drop, List.length_take]; rfl)) ?_; (with_reducible refine (chain_Vacuum.calls k (fun k_ => (k_ ≠ gb210 ∧ k_ ≠ gb217)) _ _ t207 ji10 t218 _ ?side1 A12.out).mono ?_); (case side1 => exact Kd.N_V (HO209.out)); rintro e w39 ⟨v219, rfl, ho0, hb⟩; refine ⟨_, rfl, ?_⟩; have n0_ := Aside0.mk (Kd.N_below (by (with_reducible repeat (first | apply Kd.N_alloc | apply Kd.N_drewN | apply Kd.N_drew)); exact HO209.out) hb); have n1_ := Aside0.mk (Kd.V_below (by (with_reducible repeat (first | apply Kd.V_alloc | apply Kd.V_drewN | apply Kd.V_drew)); exact HO213.out) hb); have n2_ := Aside0.mk (Kd.V_below (by (with_reducible repeat (first | apply Kd.V_alloc | apply Kd.V_drewN | apply Kd.V_drew)); exact HO216.out) hb); have n3_ := Aside0.mk (Kd.V_lower (Kd.V_mono (ok' := fun k_ => k_ ≠ gb210 ∧ k_ ≠ gb217) ho0 (fun k_ hk_ => ⟨Or.elim hk_ (fun hs_ => hs_.1) (fun hn_ => (Kd.freshB (g := gb210) (o := .cells #[.slice Ao26 t207.length co26] 29 (0, 0)) (by (with_reducible repeat (first | refine blk_drewN ?_ _ | refine blk_drew ?_ | refine blk_alloc ?_ _)); exact BK210.out) k_ hn_)), Or.elim hk_ (fun hs_ => hs_.2) (fun hn_ => (Kd.freshB (g := gb217) (o := .cells #[.slice Ao34 t214.length co34] 29 (0, 0)) (by (with_reducible repeat (first | refine blk_drewN ?_ _ | refine blk_drew ?_ | refine blk_alloc ?_ _)); exact BK217.out) k_ hn_))⟩)) (below_size (by repeat (first | (with_reducible first | exact HB.out | apply below_alloc | apply pw_below_drewN | apply below_drew1 | refine below_set ?_ GE210.out | refine below_set ?_ GE217.out) | exact HB.out)))); have n4_ := Aside0.mk (blk_below (g := gb210) (o := .cells #[.slice Ao26 t207.length co26] 29 (0, 0)) (by (with_reducible repeat (first | refine blk_drewN ?_ _ | refine blk_drew ?_ | refine blk_alloc ?_ _)); exact BK210.out) hb); have n5_ := Aside0.mk (blk_below (g := gb217) (o := .cells #[.slice Ao34 t214.length co34] 29 (0, 0)) (by (with_reducible repeat (first | refine blk_drewN ?_ _ | refine blk_drew ?_ | refine blk_alloc ?_ _)); exact BK217.out) hb); have n6_ := Aside0.mk (below_step (by repeat (first | (with_reducible first | exact HB.out | apply below_alloc | apply pw_below_drewN | apply below_drew1 | refine below_set ?_ GE210.out | refine below_set ?_ GE217.out) | exact HB.out)) hb); clear HO209; clear HO213; clear HO216; clear BK210; clear BK217; clear HB; have HO209 := n0_; have HO213 := n1_; have HO216 := n2_; have HO220 := n3_; have BK210 := n4_; have BK217 := n5_; have HB := n6_; clear n0_ n1_ n2_ n3_ n4_ n5_ n6_; (try clear hb); (try clear hb2); (try clear hk); (try clear hi); (try clear ho0)) | ((with_reducible refine gate_dst (N := 10) rfl ?_); refine box_event ?hg (N := 10) ?hd (cs := #[.slice none 0 0]) (t := 29) ?hr ?_; (case hd => rfl); (case hg => rfl); (case hr => first | (go_simp; done) | (go_simp; rfl)); intro gb221 hg w40 hbox hb; have n0_ := Aside0.mk (Kd.N_below (Kd.N_elderB (by (with_reducible repeat (first | apply Kd.N_alloc | apply Kd.N_drewN | apply Kd.N_drew)); exact HO209.out) gb221 (Nat.le_of_eq hg.symm)) hb); have n1_ := Aside0.mk (Kd.V_below (Kd.V_elderB (by (with_reducible repeat (first | apply Kd.V_alloc | apply Kd.V_drewN | apply Kd.V_drew)); exact HO213.out) gb221 (Nat.le_of_eq hg.symm)) hb); have n2_ := Aside0.mk (Kd.V_below (Kd.V_elderB (by (with_reducible repeat (first | apply Kd.V_alloc | apply Kd.V_drewN | apply Kd.V_drew)); exact HO216.out) gb221 (Nat.le_of_eq hg.symm)) hb); have n3_ := Aside0.mk (Kd.V_below (Kd.V_elderB (by (with_reducible repeat (first | apply Kd.V_alloc | apply Kd.V_drewN | apply Kd.V_drew)); exact HO220.out) gb221 (Nat.le_of_eq hg.symm)) hb); have n4_ := Aside0.mk (blk_below (g := gb210) (o := .cells #[.slice Ao26 t207.length co26] 29 (0, 0)) (by (with_reducible repeat (first | refine blk_drewN ?_ _ | refine blk_drew ?_ | refine blk_alloc ?_ _)); exact BK210.out) hb); have n5_ := Aside0.mk (blk_below (g := gb217) (o := .cells #[.slice Ao34 t214.length co34] 29 (0, 0)) (by (with_reducible repeat (first | refine blk_drewN ?_ _ | refine blk_drew ?_ | refine blk_alloc ?_ _)); exact BK217.out) hb); have n6_ := Aside0.mk (below_step (by repeat (first | (with_reducible first | exact HB.out | apply below_alloc | apply pw_below_drewN | apply below_drew1 | refine below_set ?_ GE210.out | refine below_set ?_ GE217.out) | exact HB.out)) hb); have n7_ := Aside0.mk (hbox); have n8_ := Aside0.mk ((by rw [hg]; exact (below_size (by repeat (first | (with_reducible first | exact HB.out | apply below_alloc | apply pw_below_drewN | apply below_drew1 | refine below_set ?_ GE210.out | refine below_set ?_ GE217.out) | exact HB.out))) : w.heap.size ≤ gb221)); have n9_ := Aside0.mk ((by rw [hg]; exact (below_size (by repeat (first | (with_reducible first | exact HB.out | apply below_alloc | apply pw_below_drewN | apply below_drew1 | refine below_set ?_ GE210.out | refine below_set ?_ GE217.out) | exact HB.out))) : w.heap.size ≤ gb221)); have n10_ := Aside0.mk ((by rw [hg]; exact Nat.ne_of_lt (blk_lt (g := gb210) (o := .cells #[.slice Ao26 t207.length co26] 29 (0, 0)) (by (with_reducible repeat (first | refine blk_drewN ?_ _ | refine blk_drew ?_ | refine blk_alloc ?_ _)); exact BK210.out)) : gb210 ≠ gb221)); have n11_ := Aside0.mk ((by rw [hg]; exact Nat.ne_of_gt (blk_lt (g := gb210) (o := .cells #[.slice Ao26 t207.length co26] 29 (0, 0)) (by (with_reducible repeat (first | refine blk_drewN ?_ _ | refine blk_drew ?_ | refine blk_alloc ?_ _)); exact BK210.out)) : gb221 ≠ gb210)); have n12_ := Aside0.mk ((by rw [hg]; exact Nat.ne_of_lt (blk_lt (g := gb217) (o := .cells #[.slice Ao34 t214.length co34] 29 (0, 0)) (by (with_reducible repeat (first | refine blk_drewN ?_ _ | refine blk_drew ?_ | refine blk_alloc ?_ _)); exact BK217.out)) : gb217 ≠ gb221)); have n13_ := Aside0.mk ((by rw [hg]; exact Nat.ne_of_gt (blk_lt (g := gb217) (o := .cells #[.slice Ao34 t214.length co34] 29 (0, 0)) (by (with_reducible repeat (first | refine blk_drewN ?_ _ | refine blk_drew ?_ | refine blk_alloc ?_ _)); exact BK217.out)) : gb221 ≠ gb217)); clear HO209; clear HO213; clear HO216; clear HO220; clear BK210; clear BK217; clear HB; have HO209 := n0_; have HO213 := n1_; have HO216 := n2_; have HO220 := n3_; have BK210 := n4_; have BK217 := n5_; have HB := n6_; have BK221 := n7_; have GW221 := n8_; have GE221 := n9_; have NB210_221 := n10_; have NB221_210 := n11_; have NB217_221 := n12_; have NB221_217 := n13_; clear n0_ n1_ n2_ n3_ n4_ n5_ n6_ n7_ n8_ n9_ n10_ n11_ n12_ n13_; clear hb hbox hg; obtain ⟨Ao41, co41, eo41⟩ := Kd.V_slice HO220.out; subst eo41; have hnb42 := NB221_210.out; have hnc42 := NB210_221.out; have hnb43 := NB221_217.out; have hnc43 := NB217_221.out; have hcz44_0 : w40.cell? ⟨gb221, 0, none⟩ = some (.slice none 0 0) := (blk_cell BK221.out 0).trans rfl; have hfz44_0 := blk_frozen BK221.out 0) | ((with_reducible refine gate_store (t := 29) (p := 10) rfl ?_); refine store_event (t := 29) (p := 10) (v := ?vo_w45) (w1 := (w40.setCell ⟨gb221, 0, none⟩ (.slice Ao41 t218.length co41))) ?hg ?ho ?hn ?hr ?_; (case ho => rfl); (case hg => rfl); (case hn => rfl); (case hr => first | (go_simp; done) | (go_simp; rfl)); intro w45 hw; have n0_ : Aside0 (Kd.N k37 37 w45 w.heap.size (fun k_ => k_ ≠ gb210 ∧ k_ ≠ gb217 ∧ k_ ≠ gb221) (.slice Ao26 t207.length co26) t207) := ⟨(by rw [hw]; exact (by (with_reducible repeat (first | apply Kd.N_alloc | apply Kd.N_drewN | apply Kd.N_drew)); exact Kd.N_mono (Kd.N_far (p := ⟨gb221, 0, none⟩) (Kd.N_mono HO209.out (fun k_ hk => (⟨hk, hk.2⟩ : _ ∧ k_ ≠ gb221))) (fun _ hk => hk.2) (.slice Ao41 t218.length co41)) (fun _ hk => ⟨hk.1.1.1, ⟨hk.1.1.2, hk.1.2⟩⟩)))⟩; have n1_ : Aside0 (Kd.V k37 37 w45 w.heap.size (fun k_ => k_ ≠ gb210 ∧ k_ ≠ gb217 ∧ k_ ≠ gb221) (.slice Ao31 t211.length co31) t211) := ⟨(by rw [hw]; exact (by (with_reducible repeat (first | apply Kd.V_alloc | apply Kd.V_drewN | apply Kd.V_drew)); exact Kd.V_mono (Kd.V_far (p := ⟨gb221, 0, none⟩) (Kd.V_mono HO213.out (fun k_ hk => (⟨hk, hk.2⟩ : _ ∧ k_ ≠ gb221))) (fun _ hk => hk.2) (.slice Ao41 t218.length co41)) (fun _ hk => ⟨hk.1.1.1, ⟨hk.1.1.2, hk.1.2⟩⟩)))⟩; have n2_ : Aside0 (Kd.V k37 37 w45 w.heap.size (fun k_ => k_ ≠ gb210 ∧ k_ ≠ gb217 ∧ k_ ≠ gb221) (.slice Ao34 t214.length co34) t214) := ⟨(by rw [hw]; exact (by (with_reducible repeat (first | apply Kd.V_alloc | apply Kd.V_drewN | apply Kd.V_drew)); exact Kd.V_mono (Kd.V_far (p := ⟨gb221, 0, none⟩) (Kd.V_mono HO216.out (fun k_ hk => (⟨hk, hk.2⟩ : _ ∧ k_ ≠ gb221))) (fun _ hk => hk.2) (.slice Ao41 t218.length co41)) (fun _ hk => ⟨hk.1.1.1, ⟨hk.1.1.2, hk.1.2⟩⟩)))⟩; have n3_ : Aside0 (Kd.V k37 37 w45 w.heap.size (fun k_ => k_ ≠ gb210 ∧ k_ ≠ gb217 ∧ k_ ≠ gb221) (.slice Ao41 t218.length co41) t218) := ⟨(by rw [hw]; exact (by (with_reducible repeat (first | apply Kd.V_alloc | apply Kd.V_drewN | apply Kd.V_drew)); exact Kd.V_mono (Kd.V_far (p := ⟨gb221, 0, none⟩) (Kd.V_mono HO220.out (fun k_ hk => (⟨hk, hk.2⟩ : _ ∧ k_ ≠ gb221))) (fun _ hk => hk.2) (.slice Ao41 t218.length co41)) (fun _ hk => ⟨hk.1.1.1, ⟨hk.1.1.2, hk.1.2⟩⟩)))⟩; have n4_ : Aside0 (w45.heap[gb210]? = some (.cells #[.slice Ao26 t207.length co26] 29 (0, 0))) := ⟨(by rw [hw]; exact (by (with_reducible repeat (first | refine blk_drewN ?_ _ | refine blk_drew ?_ | refine blk_alloc ?_ _)); refine blk_far ?_ NB210_221.out _; (with_reducible repeat (first | refine blk_drewN ?_ _ | refine blk_drew ?_ | refine blk_alloc ?_ _)); exact BK210.out))⟩; have n5_ : Aside0 (w45.heap[gb217]? = some (.cells #[.slice Ao34 t214.length co34] 29 (0, 0))) := ⟨(by rw [hw]; exact (by (with_reducible repeat (first | refine blk_drewN ?_ _ | refine blk_drew ?_ | refine blk_alloc ?_ _)); refine blk_far ?_ NB217_221.out _; (with_reducible repeat (first | refine blk_drewN ?_ _ | refine blk_drew ?_ | refine blk_alloc ?_ _)); exact BK217.out))⟩; have n6_ : Aside0 (w45.heap[gb221]? = some (.cells #[.slice Ao41 t218.length co41] 29 (0, 0))) := ⟨(by rw [hw]; exact (by (with_reducible repeat (first | refine blk_drewN ?_ _ | refine blk_drew ?_ | refine blk_alloc ?_ _)); refine blk_put (cs := #[.slice none 0 0]) ?_ 0 _ rfl; (with_reducible repeat (first | refine blk_drewN ?_ _ | refine blk_drew ?_ | refine blk_alloc ?_ _)); exact BK221.out))⟩; have n7_ : Aside0 (Below w.heap.size w w45) := ⟨(by rw [hw]; exact (by repeat (first | (with_reducible first | exact HB.out | apply below_alloc | apply pw_below_drewN | apply below_drew1 | refine below_set ?_ GE210.out | refine below_set ?_ GE217.out | refine below_set ?_ GE221.out) | exact HB.out)))⟩; clear hw; clear HO209; clear HO213; clear HO216; clear HO220; clear BK210; clear BK217; clear BK221; clear HB; have HO209 := n0_; have HO213 := n1_; have HO216 := n2_; have HO220 := n3_; have BK210 := n4_; have BK217 := n5_; have BK221 := n6_; have HB := n7_; clear n0_ n1_ n2_ n3_ n4_ n5_ n6_ n7_; have hcz46_0 : w45.cell? ⟨gb221, 0, none⟩ = some (.slice Ao41 t218.length co41) := (blk_cell BK221.out 0).trans rfl; have hfz46_0 := blk_frozen BK221.out 0) | ((with_reducible refine gate_callee (f := 11) rfl ?_); refine goesL_ (some 38) rfl rfl Try.func11 (by kernel_rfl) rfl #[.agg #[.slice Ao41 t218.length co41], .int .i64 ji8] rfl (by (try simp only [List.map_toArray, List.map_cons, List.map_nil]); first | done | (simp only [hji8]; rfl) | rfl | (simp only [List.length_drop, List.length_take]; rfl)) ?_; (with_reducible refine (chain_Vacuum.calls k (fun k_ => (k_ ≠ gb210 ∧ (k_ ≠ gb217 ∧ k_ ≠ gb221))) _ _ t218 ji8 t222 _ ?side1 A13.out).mono ?_); (case side1 => exact HO220.out); rintro e w47 ⟨v223, rfl, ho0, hb⟩; refine ⟨_, rfl, ?_⟩; have n0_ := Aside0.mk (Kd.N_below (by (with_reducible repeat (first | apply Kd.N_alloc | apply Kd.N_drewN | apply Kd.N_drew)); exact HO209.out) hb); have n1_ := Aside0.mk (Kd.V_below (by (with_reducible repeat (first | apply Kd.V_alloc | apply Kd.V_drewN | apply Kd.V_drew)); exact HO213.out) hb); have n2_ := Aside0.mk (Kd.V_below (by (with_reducible repeat (first | apply Kd.V_alloc | apply Kd.V_drewN | apply Kd.V_drew)); exact HO216.out) hb); have n3_ := Aside0.mk (Kd.V_below (by (with_reducible repeat (first | apply Kd.V_alloc | apply Kd.V_drewN | apply Kd.V_drew)); exact HO220.out) hb); have n4_ := Aside0.mk (Kd.V_lower (Kd.V_mono (ok' := fun k_ => k_ ≠ gb210 ∧ k_ ≠ gb217 ∧ k_ ≠ gb221) ho0 (fun k_ hk_ => ⟨Or.elim hk_ (fun hs_ => hs_.1) (fun hn_ => (Kd.freshB (g := gb210) (o := .cells #[.slice Ao26 t207.length co26] 29 (0, 0)) (by (with_reducible repeat (first | refine blk_drewN ?_ _ | refine blk_drew ?_ | refine blk_alloc ?_ _)); exact BK210.out) k_ hn_)), Or.elim hk_ (fun hs_ => hs_.2.1) (fun hn_ => (Kd.freshB (g := gb217) (o := .cells #[.slice Ao34 t214.length co34] 29 (0, 0)) (by (with_reducible repeat (first | refine blk_drewN ?_ _ | refine blk_drew ?_ | refine blk_alloc ?_ _)); exact BK217.out) k_ hn_)), Or.elim hk_ (fun hs_ => hs_.2.2) (fun hn_ => (Kd.freshB (g := gb221) (o := .cells #[.slice Ao41 t218.length co41] 29 (0, 0)) (by (with_reducible repeat (first | refine blk_drewN ?_ _ | refine blk_drew ?_ | refine blk_alloc ?_ _)); exact BK221.out) k_ hn_))⟩)) (below_size (by repeat (first | (with_reducible first | exact HB.out | apply below_alloc | apply pw_below_drewN | apply below_drew1 | refine below_set ?_ GE210.out | refine below_set ?_ GE217.out | refine below_set ?_ GE221.out) | exact HB.out)))); have n5_ := Aside0.mk (blk_below (g := gb210) (o := .cells #[.slice Ao26 t207.length co26] 29 (0, 0)) (by (with_reducible repeat (first | refine blk_drewN ?_ _ | refine blk_drew ?_ | refine blk_alloc ?_ _)); exact BK210.out) hb); have n6_ := Aside0.mk (blk_below (g := gb217) (o := .cells #[.slice Ao34 t214.length co34] 29 (0, 0)) (by (with_reducible repeat (first | refine blk_drewN ?_ _ | refine blk_drew ?_ | refine blk_alloc ?_ _)); exact BK217.out) hb); have n7_ := Aside0.mk (blk_below (g := gb221) (o := .cells #[.slice Ao41 t218.length co41] 29 (0, 0)) (by (with_reducible repeat (first | refine blk_drewN ?_ _ | refine blk_drew ?_ | refine blk_alloc ?_ _)); exact BK221.out) hb); have n8_ := Aside0.mk (below_step (by repeat (first | (with_reducible first | exact HB.out | apply below_alloc | apply pw_below_drewN | apply below_drew1 | refine below_set ?_ GE210.out | refine below_set ?_ GE217.out | refine below_set ?_ GE221.out) | exact HB.out)) hb); clear HO209; clear HO213; clear HO216; clear HO220; clear BK210; clear BK217; clear BK221; clear HB; have HO209 := n0_; have HO213 := n1_; have HO216 := n2_; have HO220 := n3_; have HO224 := n4_; have BK210 := n5_; have BK217 := n6_; have BK221 := n7_; have HB := n8_; clear n0_ n1_ n2_ n3_ n4_ n5_ n6_ n7_ n8_; (try clear hb); (try clear hb2); (try clear hk); (try clear hi); (try clear ho0)) | ((with_reducible refine gate_dst (N := 11) rfl ?_); refine box_event ?hg (N := 11) ?hd (cs := #[.slice none 0 0]) (t := 29) ?hr ?_; (case hd => rfl); (case hg => rfl); (case hr => first | (go_simp; done) | (go_simp; rfl)); intro gb225 hg w48 hbox hb; have n0_ := Aside0.mk (Kd.N_below (Kd.N_elderB (by (with_reducible repeat (first | apply Kd.N_alloc | apply Kd.N_drewN | apply Kd.N_drew)); exact HO209.out) gb225 (Nat.le_of_eq hg.symm)) hb); have n1_ := Aside0.mk (Kd.V_below (Kd.V_elderB (by (with_reducible repeat (first | apply Kd.V_alloc | apply Kd.V_drewN | apply Kd.V_drew)); exact HO213.out) gb225 (Nat.le_of_eq hg.symm)) hb); have n2_ := Aside0.mk (Kd.V_below (Kd.V_elderB (by (with_reducible repeat (first | apply Kd.V_alloc | apply Kd.V_drewN | apply Kd.V_drew)); exact HO216.out) gb225 (Nat.le_of_eq hg.symm)) hb); have n3_ := Aside0.mk (Kd.V_below (Kd.V_elderB (by (with_reducible repeat (first | apply Kd.V_alloc | apply Kd.V_drewN | apply Kd.V_drew)); exact HO220.out) gb225 (Nat.le_of_eq hg.symm)) hb); have n4_ := Aside0.mk (Kd.V_below (Kd.V_elderB (by (with_reducible repeat (first | apply Kd.V_alloc | apply Kd.V_drewN | apply Kd.V_drew)); exact HO224.out) gb225 (Nat.le_of_eq hg.symm)) hb); have n5_ := Aside0.mk (blk_below (g := gb210) (o := .cells #[.slice Ao26 t207.length co26] 29 (0, 0)) (by (with_reducible repeat (first | refine blk_drewN ?_ _ | refine blk_drew ?_ | refine blk_alloc ?_ _)); exact BK210.out) hb); have n6_ := Aside0.mk (blk_below (g := gb217) (o := .cells #[.slice Ao34 t214.length co34] 29 (0, 0)) (by (with_reducible repeat (first | refine blk_drewN ?_ _ | refine blk_drew ?_ | refine blk_alloc ?_ _)); exact BK217.out) hb); have n7_ := Aside0.mk (blk_below (g := gb221) (o := .cells #[.slice Ao41 t218.length co41] 29 (0, 0)) (by (with_reducible repeat (first | refine blk_drewN ?_ _ | refine blk_drew ?_ | refine blk_alloc ?_ _)); exact BK221.out) hb); have n8_ := Aside0.mk (below_step (by repeat (first | (with_reducible first | exact HB.out | apply below_alloc | apply pw_below_drewN | apply below_drew1 | refine below_set ?_ GE210.out | refine below_set ?_ GE217.out | refine below_set ?_ GE221.out) | exact HB.out)) hb); have n9_ := Aside0.mk (hbox); have n10_ := Aside0.mk ((by rw [hg]; exact (below_size (by repeat (first | (with_reducible first | exact HB.out | apply below_alloc | apply pw_below_drewN | apply below_drew1 | refine below_set ?_ GE210.out | refine below_set ?_ GE217.out | refine below_set ?_ GE221.out) | exact HB.out))) : w.heap.size ≤ gb225)); have n11_ := Aside0.mk ((by rw [hg]; exact (below_size (by repeat (first | (with_reducible first | exact HB.out | apply below_alloc | apply pw_below_drewN | apply below_drew1 | refine below_set ?_ GE210.out | refine below_set ?_ GE217.out | refine below_set ?_ GE221.out) | exact HB.out))) : w.heap.size ≤ gb225)); have n12_ := Aside0.mk ((by rw [hg]; exact Nat.ne_of_lt (blk_lt (g := gb210) (o := .cells #[.slice Ao26 t207.length co26] 29 (0, 0)) (by (with_reducible repeat (first | refine blk_drewN ?_ _ | refine blk_drew ?_ | refine blk_alloc ?_ _)); exact BK210.out)) : gb210 ≠ gb225)); have n13_ := Aside0.mk ((by rw [hg]; exact Nat.ne_of_gt (blk_lt (g := gb210) (o := .cells #[.slice Ao26 t207.length co26] 29 (0, 0)) (by (with_reducible repeat (first | refine blk_drewN ?_ _ | refine blk_drew ?_ | refine blk_alloc ?_ _)); exact BK210.out)) : gb225 ≠ gb210)); have n14_ := Aside0.mk ((by rw [hg]; exact Nat.ne_of_lt (blk_lt (g := gb217) (o := .cells #[.slice Ao34 t214.length co34] 29 (0, 0)) (by (with_reducible repeat (first | refine blk_drewN ?_ _ | refine blk_drew ?_ | refine blk_alloc ?_ _)); exact BK217.out)) : gb217 ≠ gb225)); have n15_ := Aside0.mk ((by rw [hg]; exact Nat.ne_of_gt (blk_lt (g := gb217) (o := .cells #[.slice Ao34 t214.length co34] 29 (0, 0)) (by (with_reducible repeat (first | refine blk_drewN ?_ _ | refine blk_drew ?_ | refine blk_alloc ?_ _)); exact BK217.out)) : gb225 ≠ gb217)); have n16_ := Aside0.mk ((by rw [hg]; exact Nat.ne_of_lt (blk_lt (g := gb221) (o := .cells #[.slice Ao41 t218.length co41] 29 (0, 0)) (by (with_reducible repeat (first | refine blk_drewN ?_ _ | refine blk_drew ?_ | refine blk_alloc ?_ _)); exact BK221.out)) : gb221 ≠ gb225)); have n17_ := Aside0.mk ((by rw [hg]; exact Nat.ne_of_gt (blk_lt (g := gb221) (o := .cells #[.slice Ao41 t218.length co41] 29 (0, 0)) (by (with_reducible repeat (first | refine blk_drewN ?_ _ | refine blk_drew ?_ | refine blk_alloc ?_ _)); exact BK221.out)) : gb225 ≠ gb221)); clear HO209; clear HO213; clear HO216; clear HO220; clear HO224; clear BK210; clear BK217; clear BK221; clear HB; have HO209 := n0_; have HO213 := n1_; have HO216 := n2_; have HO220 := n3_; have HO224 := n4_; have BK210 := n5_; have BK217 := n6_; have BK221 := n7_; have HB := n8_; have BK225 := n9_; have GW225 := n10_; have GE225 := n11_; have NB210_225 := n12_; have NB225_210 := n13_; have NB217_225 := n14_; have NB225_217 := n15_; have NB221_225 := n16_; have NB225_221 := n17_; clear n0_ n1_ n2_ n3_ n4_ n5_ n6_ n7_ n8_ n9_ n10_ n11_ n12_ n13_ n14_ n15_ n16_ n17_; clear hb hbox hg; obtain ⟨Ao49, co49, eo49⟩ := Kd.V_slice HO224.out; subst eo49; have hnb50 := NB225_210.out; have hnc50 := NB210_225.out; have hnb51 := NB225_217.out; have hnc51 := NB217_225.out; have hnb52 := NB225_221.out; have hnc52 := NB221_225.out; have hcz53_0 : w48.cell? ⟨gb225, 0, none⟩ = some (.slice none 0 0) := (blk_cell BK225.out 0).trans rfl; have hfz53_0 := blk_frozen BK225.out 0))
        have n0_ : Aside0 (Kd.N k37 37 (w48.setCell ⟨gb225, 0, none⟩ (.slice Ao49 t222.length co49)) w.heap.size (fun k_ => k_ ≠ gb210 ∧ k_ ≠ gb217 ∧ k_ ≠ gb221 ∧ k_ ≠ gb225) (.slice Ao26 t207.length co26) t207) := ⟨by (with_reducible repeat (first | apply Kd.N_alloc | apply Kd.N_drewN | apply Kd.N_drew)); exact Kd.N_mono (Kd.N_far (p := ⟨gb225, 0, none⟩) (Kd.N_mono HO209.out (fun k_ hk => (⟨hk, hk.2⟩ : _ ∧ k_ ≠ gb225))) (fun _ hk => hk.2) (.slice Ao49 t222.length co49)) (fun _ hk => ⟨hk.1.1.1, ⟨hk.1.1.2.1, ⟨hk.1.1.2.2, hk.1.2⟩⟩⟩)⟩
        have n1_ : Aside0 (Kd.V k37 37 (w48.setCell ⟨gb225, 0, none⟩ (.slice Ao49 t222.length co49)) w.heap.size (fun k_ => k_ ≠ gb210 ∧ k_ ≠ gb217 ∧ k_ ≠ gb221 ∧ k_ ≠ gb225) (.slice Ao31 t211.length co31) t211) := ⟨by (with_reducible repeat (first | apply Kd.V_alloc | apply Kd.V_drewN | apply Kd.V_drew)); exact Kd.V_mono (Kd.V_far (p := ⟨gb225, 0, none⟩) (Kd.V_mono HO213.out (fun k_ hk => (⟨hk, hk.2⟩ : _ ∧ k_ ≠ gb225))) (fun _ hk => hk.2) (.slice Ao49 t222.length co49)) (fun _ hk => ⟨hk.1.1.1, ⟨hk.1.1.2.1, ⟨hk.1.1.2.2, hk.1.2⟩⟩⟩)⟩
        have n2_ : Aside0 (Kd.V k37 37 (w48.setCell ⟨gb225, 0, none⟩ (.slice Ao49 t222.length co49)) w.heap.size (fun k_ => k_ ≠ gb210 ∧ k_ ≠ gb217 ∧ k_ ≠ gb221 ∧ k_ ≠ gb225) (.slice Ao34 t214.length co34) t214) := ⟨by (with_reducible repeat (first | apply Kd.V_alloc | apply Kd.V_drewN | apply Kd.V_drew)); exact Kd.V_mono (Kd.V_far (p := ⟨gb225, 0, none⟩) (Kd.V_mono HO216.out (fun k_ hk => (⟨hk, hk.2⟩ : _ ∧ k_ ≠ gb225))) (fun _ hk => hk.2) (.slice Ao49 t222.length co49)) (fun _ hk => ⟨hk.1.1.1, ⟨hk.1.1.2.1, ⟨hk.1.1.2.2, hk.1.2⟩⟩⟩)⟩
        have n3_ : Aside0 (Kd.V k37 37 (w48.setCell ⟨gb225, 0, none⟩ (.slice Ao49 t222.length co49)) w.heap.size (fun k_ => k_ ≠ gb210 ∧ k_ ≠ gb217 ∧ k_ ≠ gb221 ∧ k_ ≠ gb225) (.slice Ao41 t218.length co41) t218) := ⟨by (with_reducible repeat (first | apply Kd.V_alloc | apply Kd.V_drewN | apply Kd.V_drew)); exact Kd.V_mono (Kd.V_far (p := ⟨gb225, 0, none⟩) (Kd.V_mono HO220.out (fun k_ hk => (⟨hk, hk.2⟩ : _ ∧ k_ ≠ gb225))) (fun _ hk => hk.2) (.slice Ao49 t222.length co49)) (fun _ hk => ⟨hk.1.1.1, ⟨hk.1.1.2.1, ⟨hk.1.1.2.2, hk.1.2⟩⟩⟩)⟩
        have n4_ : Aside0 (Kd.V k37 37 (w48.setCell ⟨gb225, 0, none⟩ (.slice Ao49 t222.length co49)) w.heap.size (fun k_ => k_ ≠ gb210 ∧ k_ ≠ gb217 ∧ k_ ≠ gb221 ∧ k_ ≠ gb225) (.slice Ao49 t222.length co49) t222) := ⟨by (with_reducible repeat (first | apply Kd.V_alloc | apply Kd.V_drewN | apply Kd.V_drew)); exact Kd.V_mono (Kd.V_far (p := ⟨gb225, 0, none⟩) (Kd.V_mono HO224.out (fun k_ hk => (⟨hk, hk.2⟩ : _ ∧ k_ ≠ gb225))) (fun _ hk => hk.2) (.slice Ao49 t222.length co49)) (fun _ hk => ⟨hk.1.1.1, ⟨hk.1.1.2.1, ⟨hk.1.1.2.2, hk.1.2⟩⟩⟩)⟩
        have n5_ : Aside0 ((w48.setCell ⟨gb225, 0, none⟩ (.slice Ao49 t222.length co49)).heap[gb210]? = some (.cells #[.slice Ao26 t207.length co26] 29 (0, 0))) := ⟨by (with_reducible repeat (first | refine blk_drewN ?_ _ | refine blk_drew ?_ | refine blk_alloc ?_ _)); refine blk_far ?_ NB210_225.out _; (with_reducible repeat (first | refine blk_drewN ?_ _ | refine blk_drew ?_ | refine blk_alloc ?_ _)); exact BK210.out⟩
        have n6_ : Aside0 ((w48.setCell ⟨gb225, 0, none⟩ (.slice Ao49 t222.length co49)).heap[gb217]? = some (.cells #[.slice Ao34 t214.length co34] 29 (0, 0))) := ⟨by (with_reducible repeat (first | refine blk_drewN ?_ _ | refine blk_drew ?_ | refine blk_alloc ?_ _)); refine blk_far ?_ NB217_225.out _; (with_reducible repeat (first | refine blk_drewN ?_ _ | refine blk_drew ?_ | refine blk_alloc ?_ _)); exact BK217.out⟩
        have n7_ : Aside0 ((w48.setCell ⟨gb225, 0, none⟩ (.slice Ao49 t222.length co49)).heap[gb221]? = some (.cells #[.slice Ao41 t218.length co41] 29 (0, 0))) := ⟨by (with_reducible repeat (first | refine blk_drewN ?_ _ | refine blk_drew ?_ | refine blk_alloc ?_ _)); refine blk_far ?_ NB221_225.out _; (with_reducible repeat (first | refine blk_drewN ?_ _ | refine blk_drew ?_ | refine blk_alloc ?_ _)); exact BK221.out⟩
        have n8_ : Aside0 ((w48.setCell ⟨gb225, 0, none⟩ (.slice Ao49 t222.length co49)).heap[gb225]? = some (.cells #[.slice Ao49 t222.length co49] 29 (0, 0))) := ⟨by (with_reducible repeat (first | refine blk_drewN ?_ _ | refine blk_drew ?_ | refine blk_alloc ?_ _)); refine blk_put (cs := #[.slice none 0 0]) ?_ 0 _ rfl; (with_reducible repeat (first | refine blk_drewN ?_ _ | refine blk_drew ?_ | refine blk_alloc ?_ _)); exact BK225.out⟩
        have n9_ : Aside0 (Below w.heap.size w (w48.setCell ⟨gb225, 0, none⟩ (.slice Ao49 t222.length co49))) := ⟨by repeat (first | (with_reducible first | exact HB.out | apply below_alloc | apply pw_below_drewN | apply below_drew1 | refine below_set ?_ GE210.out | refine below_set ?_ GE217.out | refine below_set ?_ GE221.out | refine below_set ?_ GE225.out) | exact HB.out)⟩
        (try clear HO209)
        (try clear HO213)
        (try clear HO216)
        (try clear HO220)
        (try clear HO224)
        (try clear BK210)
        (try clear BK217)
        (try clear BK221)
        (try clear BK225)
        (try clear HB)
        generalize (w48.setCell ⟨gb225, 0, none⟩ (.slice Ao49 t222.length co49)) = w54 at n0_ n1_ n2_ n3_ n4_ n5_ n6_ n7_ n8_ n9_ ⊢
        have HO209 := n0_
        have HO213 := n1_
        have HO216 := n2_
        have HO220 := n3_
        have HO224 := n4_
        have BK210 := n5_
        have BK217 := n6_
        have BK221 := n7_
        have BK225 := n8_
        have HB := n9_
        clear n0_ n1_ n2_ n3_ n4_ n5_ n6_ n7_ n8_ n9_
        have n0_ := Aside0.mk (Kd.N_drew HO209.out)
        have n1_ := Aside0.mk (Kd.V_drew HO213.out)
        have n2_ := Aside0.mk (Kd.V_drew HO216.out)
        have n3_ := Aside0.mk (Kd.V_drew HO220.out)
        have n4_ := Aside0.mk (Kd.V_drew HO224.out)
        have n5_ := Aside0.mk (blk_drew BK210.out)
        have n6_ := Aside0.mk (blk_drew BK217.out)
        have n7_ := Aside0.mk (blk_drew BK221.out)
        have n8_ := Aside0.mk (blk_drew BK225.out)
        have n9_ := Aside0.mk (below_drew1 HB.out)
        clear HO209
        clear HO213
        clear HO216
        clear HO220
        clear HO224
        clear BK210
        clear BK217
        clear BK221
        clear BK225
        clear HB
        have HO209 := n0_
        have HO213 := n1_
        have HO216 := n2_
        have HO220 := n3_
        have HO224 := n4_
        have BK210 := n5_
        have BK217 := n6_
        have BK221 := n7_
        have BK225 := n8_
        have HB := n9_
        clear n0_ n1_ n2_ n3_ n4_ n5_ n6_ n7_ n8_ n9_
        refine start_ (n := 20) (S := fun w' => w'.cell? ⟨gb217, 0, none⟩ = some (.slice Ao34 t214.length co34) ∧ w'.cell? ⟨gb221, 0, none⟩ = some (.slice Ao41 t218.length co41) ∧ w'.cell? ⟨gb225, 0, none⟩ = some (.slice Ao49 t222.length co49)) (ds := []) #[false, false, false, false, false, false, false, false, false, false, false, false, false, false, false, false, false, false, false, false] (by kernel_rfl) rfl rfl ⟨(blk_cell BK217.out 0).trans rfl, (blk_cell BK221.out 0).trans rfl, (blk_cell BK225.out 0).trans rfl⟩ (fun hHeld => ?_); refine with_tabW godwitlaw07_ChainTwice.tab8 godwitlaw07_ChainTwice.bits8 (fun HT_ HW_ => ?_)
        generalize w54.drew = w55 at HO209 HO213 HO216 HO220 HO224 BK210 BK217 BK221 BK225 HB hHeld ⊢
        refine pure_ (i := 0) (N := some 39) (v := ?_) (a' := ?_) #[true, false, false, false, false, false, false, false, false, false, false, false, false, false, false, false, false, false, false, false] rfl rfl (any_of HT_.out (by kernel_rfl)) (fun _ _ _ h => h) (Or.inl ⟨by rfl, ?_⟩) ?_ ?_
        rotate_left
        · intro w'
          go_simp
          with_reducible rfl
        rotate_left
        · simp only [Act.put, List.setIfInBounds_toArray, List.set_cons_zero, List.set_cons_succ, i64_w, i32_w]
          rfl
        refine pure_ (i := 1) (N := some 40) (v := ?_) (a' := ?_) #[true, true, false, false, false, false, false, false, false, false, false, false, false, false, false, false, false, false, false, false] rfl rfl (any_of HT_.out (by kernel_rfl)) (fun _ _ _ h => h) (Or.inl ⟨by rfl, ?_⟩) ?_ ?_
        rotate_left
        · intro w'
          go_simp
          with_reducible rfl
        rotate_left
        · simp only [Act.put, List.setIfInBounds_toArray, List.set_cons_zero, List.set_cons_succ, i64_w, i32_w]
          rfl
        refine pure_ (i := 2) (N := some 41) (v := ?_) (a' := ?_) #[true, true, true, false, false, false, false, false, false, false, false, false, false, false, false, false, false, false, false, false] rfl rfl (any_of HT_.out (by kernel_rfl)) (fun _ _ _ h => h) (Or.inl ⟨by rfl, ?_⟩) ?_ ?_
        rotate_left
        · intro w'
          go_simp
          with_reducible rfl
        rotate_left
        · simp only [Act.put, List.setIfInBounds_toArray, List.set_cons_zero, List.set_cons_succ, i64_w, i32_w]
          rfl
        refine pure_ (i := 5) (N := some 44) (v := ?_) (a' := ?_) #[true, true, true, false, false, true, false, false, false, false, false, false, false, false, false, false, false, false, false, false] rfl rfl (any_of HT_.out (by kernel_rfl)) (fun _ _ _ h => h) (Or.inl ⟨by rfl, ?_⟩) ?_ ?_
        rotate_left
        · intro w'
          go_simp
          with_reducible rfl
        rotate_left
        · simp only [Act.put, List.setIfInBounds_toArray, List.set_cons_zero, List.set_cons_succ, i64_w, i32_w]
          rfl
        refine take_ (i := 3) (N := some 42) (v := ?_) (a' := ?_) #[true, true, true, true, false, true, false, false, false, false, false, false, false, false, false, false, false, false, false, false] rfl rfl (take_ofW HT_.out HW_.out (by kernel_rfl)) (fun _ _ _ h => h) (Or.inl ⟨by rfl, ?_⟩) hHeld ?_ ?_
        rotate_left
        · rintro w' ⟨s0, s1, s2⟩
          go_simp
          with_reducible rfl
        rotate_left
        · simp only [Act.put, List.setIfInBounds_toArray, List.set_cons_zero, List.set_cons_succ, i64_w, i32_w]
          rfl
        refine take_ (i := 6) (N := some 45) (v := ?_) (a' := ?_) #[true, true, true, true, false, true, true, false, false, false, false, false, false, false, false, false, false, false, false, false] rfl rfl (take_ofW HT_.out HW_.out (by kernel_rfl)) (fun _ _ _ h => h) (Or.inl ⟨by rfl, ?_⟩) hHeld ?_ ?_
        rotate_left
        · rintro w' ⟨s0, s1, s2⟩
          go_simp
          with_reducible rfl
        rotate_left
        · simp only [Act.put, List.setIfInBounds_toArray, List.set_cons_zero, List.set_cons_succ, i64_w, i32_w]
          rfl
        refine one_ (i := 4) (N := some 43) #[true, true, true, true, true, true, true, false, false, false, false, false, false, false, false, false, false, false, false, false] rfl rfl (one_of HT_.out (by kernel_rfl)) (by decide) (fun K hK => ?_)
        refine goes_ Try.func13 (by kernel_rfl) rfl #[.slice Ao34 t214.length co34] (by rfl) rfl rfl (by (try simp only [List.map_toArray, List.map_cons, List.map_nil]); first | done | rfl | (simp only [List.length_drop, List.length_take]; rfl)) ?_
        with_reducible refine (godwitlaw07_theirs.calls k (fun k_ => (k_ ≠ gb210 ∧ (k_ ≠ gb217 ∧ (k_ ≠ gb221 ∧ k_ ≠ gb225)))) _ _ t214 t226 _ ?side1 A15.out).mono ?_
        (case side1 => exact HO216.out)
        rintro e w56 ⟨v227, rfl, ho0, hb⟩
        refine ⟨_, rfl, ?_⟩
        have n0_ := Aside0.mk (Kd.N_elder' (by (with_reducible repeat (first | apply Kd.N_alloc | apply Kd.N_drewN | apply Kd.N_drew)); exact HO209.out) (Kd.N_base ho0) hb)
        have n1_ := Aside0.mk (Kd.V_elder' (by (with_reducible repeat (first | apply Kd.V_alloc | apply Kd.V_drewN | apply Kd.V_drew)); exact HO213.out) (Kd.N_base ho0) hb)
        have n2_ := Aside0.mk (Kd.V_elder' (by (with_reducible repeat (first | apply Kd.V_alloc | apply Kd.V_drewN | apply Kd.V_drew)); exact HO216.out) (Kd.N_base ho0) hb)
        have n3_ := Aside0.mk (Kd.V_elder' (by (with_reducible repeat (first | apply Kd.V_alloc | apply Kd.V_drewN | apply Kd.V_drew)); exact HO220.out) (Kd.N_base ho0) hb)
        have n4_ := Aside0.mk (Kd.V_elder' (by (with_reducible repeat (first | apply Kd.V_alloc | apply Kd.V_drewN | apply Kd.V_drew)); exact HO224.out) (Kd.N_base ho0) hb)
        have n5_ := Aside0.mk (Kd.N_lower (Kd.N_mono (ok' := fun k_ => k_ ≠ gb210 ∧ k_ ≠ gb217 ∧ k_ ≠ gb221 ∧ k_ ≠ gb225) ho0 (fun k_ hk_ => ⟨Or.elim hk_ (fun hs_ => hs_.1) (fun hn_ => (Kd.freshB (g := gb210) (o := .cells #[.slice Ao26 t207.length co26] 29 (0, 0)) (by (with_reducible repeat (first | refine blk_drewN ?_ _ | refine blk_drew ?_ | refine blk_alloc ?_ _)); exact BK210.out) k_ hn_)), Or.elim hk_ (fun hs_ => hs_.2.1) (fun hn_ => (Kd.freshB (g := gb217) (o := .cells #[.slice Ao34 t214.length co34] 29 (0, 0)) (by (with_reducible repeat (first | refine blk_drewN ?_ _ | refine blk_drew ?_ | refine blk_alloc ?_ _)); exact BK217.out) k_ hn_)), Or.elim hk_ (fun hs_ => hs_.2.2.1) (fun hn_ => (Kd.freshB (g := gb221) (o := .cells #[.slice Ao41 t218.length co41] 29 (0, 0)) (by (with_reducible repeat (first | refine blk_drewN ?_ _ | refine blk_drew ?_ | refine blk_alloc ?_ _)); exact BK221.out) k_ hn_)), Or.elim hk_ (fun hs_ => hs_.2.2.2) (fun hn_ => (Kd.freshB (g := gb225) (o := .cells #[.slice Ao49 t222.length co49] 29 (0, 0)) (by (with_reducible repeat (first | refine blk_drewN ?_ _ | refine blk_drew ?_ | refine blk_alloc ?_ _)); exact BK225.out) k_ hn_))⟩)) (below_size (by repeat (first | (with_reducible first | exact HB.out | apply below_alloc | apply pw_below_drewN | apply below_drew1 | refine below_set ?_ GE210.out | refine below_set ?_ GE217.out | refine below_set ?_ GE221.out | refine below_set ?_ GE225.out) | exact HB.out))))
        have n6_ := Aside0.mk (blk_below (g := gb210) (o := .cells #[.slice Ao26 t207.length co26] 29 (0, 0)) (by (with_reducible repeat (first | refine blk_drewN ?_ _ | refine blk_drew ?_ | refine blk_alloc ?_ _)); exact BK210.out) hb)
        have n7_ := Aside0.mk (blk_below (g := gb217) (o := .cells #[.slice Ao34 t214.length co34] 29 (0, 0)) (by (with_reducible repeat (first | refine blk_drewN ?_ _ | refine blk_drew ?_ | refine blk_alloc ?_ _)); exact BK217.out) hb)
        have n8_ := Aside0.mk (blk_below (g := gb221) (o := .cells #[.slice Ao41 t218.length co41] 29 (0, 0)) (by (with_reducible repeat (first | refine blk_drewN ?_ _ | refine blk_drew ?_ | refine blk_alloc ?_ _)); exact BK221.out) hb)
        have n9_ := Aside0.mk (blk_below (g := gb225) (o := .cells #[.slice Ao49 t222.length co49] 29 (0, 0)) (by (with_reducible repeat (first | refine blk_drewN ?_ _ | refine blk_drew ?_ | refine blk_alloc ?_ _)); exact BK225.out) hb)
        have n10_ := Aside0.mk (below_step (by repeat (first | (with_reducible first | exact HB.out | apply below_alloc | apply pw_below_drewN | apply below_drew1 | refine below_set ?_ GE210.out | refine below_set ?_ GE217.out | refine below_set ?_ GE221.out | refine below_set ?_ GE225.out) | exact HB.out)) hb)
        clear HO209
        clear HO213
        clear HO216
        clear HO220
        clear HO224
        clear BK210
        clear BK217
        clear BK221
        clear BK225
        clear HB
        have HO209 := n0_
        have HO213 := n1_
        have HO216 := n2_
        have HO220 := n3_
        have HO224 := n4_
        have HO228 := n5_
        have BK210 := n6_
        have BK217 := n7_
        have BK221 := n8_
        have BK225 := n9_
        have HB := n10_
        clear n0_ n1_ n2_ n3_ n4_ n5_ n6_ n7_ n8_ n9_ n10_
        (try clear hb)
        (try clear hb2)
        (try clear hk)
        (try clear hi)
        (try clear ho0)
        refine hK.out _ _ ⟨(blk_cell BK217.out 0).trans rfl, (blk_cell BK221.out 0).trans rfl, (blk_cell BK225.out 0).trans rfl⟩ (fun hHeld => ?_)
        clear hK K
        refine norm_ (a' := ?_) ?_ ?_
        rotate_left
        · show Act.put _ (some 43) _ = _
          simp only [Act.put, List.setIfInBounds_toArray, List.set_cons_zero, List.set_cons_succ, i64_w, i32_w]
          rfl
        refine one_ (i := 7) (N := some 46) #[true, true, true, true, true, true, true, true, false, false, false, false, false, false, false, false, false, false, false, false] rfl rfl (one_of HT_.out (by kernel_rfl)) (by decide) (fun K hK => ?_)
        refine goes_ Try.func13 (by kernel_rfl) rfl #[.slice Ao41 t218.length co41] (by rfl) rfl rfl (by (try simp only [List.map_toArray, List.map_cons, List.map_nil]); first | done | rfl | (simp only [List.length_drop, List.length_take]; rfl)) ?_
        with_reducible refine (godwitlaw07_theirs.calls k (fun k_ => ((k_ ≠ gb210 ∧ (k_ ≠ gb217 ∧ (k_ ≠ gb221 ∧ k_ ≠ gb225))) ∧ some k_ ≠ (v227 : Value).ownBlock)) _ _ t218 t229 _ ?side1 A16.out).mono ?_
        (case side1 => exact HO220.out)
        rintro e w57 ⟨v230, rfl, ho0, hb⟩
        refine ⟨_, rfl, ?_⟩
        have n0_ := Aside0.mk (Kd.N_elder' (by (with_reducible repeat (first | apply Kd.N_alloc | apply Kd.N_drewN | apply Kd.N_drew)); exact HO209.out) (Kd.N_base ho0) hb)
        have n1_ := Aside0.mk (Kd.V_elder' (by (with_reducible repeat (first | apply Kd.V_alloc | apply Kd.V_drewN | apply Kd.V_drew)); exact HO213.out) (Kd.N_base ho0) hb)
        have n2_ := Aside0.mk (Kd.V_elder' (by (with_reducible repeat (first | apply Kd.V_alloc | apply Kd.V_drewN | apply Kd.V_drew)); exact HO216.out) (Kd.N_base ho0) hb)
        have n3_ := Aside0.mk (Kd.V_elder' (by (with_reducible repeat (first | apply Kd.V_alloc | apply Kd.V_drewN | apply Kd.V_drew)); exact HO220.out) (Kd.N_base ho0) hb)
        have n4_ := Aside0.mk (Kd.V_elder' (by (with_reducible repeat (first | apply Kd.V_alloc | apply Kd.V_drewN | apply Kd.V_drew)); exact HO224.out) (Kd.N_base ho0) hb)
        have n5_ := Aside0.mk (Kd.N_elder' (by (with_reducible repeat (first | apply Kd.N_alloc | apply Kd.N_drewN | apply Kd.N_drew)); exact HO228.out) (Kd.N_base ho0) hb)
        have n6_ := Aside0.mk (Kd.N_lower (Kd.N_mono (ok' := fun k_ => some k_ ≠ (v227 : Value).ownBlock ∧ k_ ≠ gb210 ∧ k_ ≠ gb217 ∧ k_ ≠ gb221 ∧ k_ ≠ gb225) ho0 (fun k_ hk_ => ⟨Or.elim hk_ (fun hs_ => hs_.2) (fun hn_ => (Kd.fresh' (Kd.N_lt (by (with_reducible repeat (first | apply Kd.N_alloc | apply Kd.N_drewN | apply Kd.N_drew)); exact HO228.out)) k_ hn_)), Or.elim hk_ (fun hs_ => hs_.1.1) (fun hn_ => (Kd.freshB (g := gb210) (o := .cells #[.slice Ao26 t207.length co26] 29 (0, 0)) (by (with_reducible repeat (first | refine blk_drewN ?_ _ | refine blk_drew ?_ | refine blk_alloc ?_ _)); exact BK210.out) k_ hn_)), Or.elim hk_ (fun hs_ => hs_.1.2.1) (fun hn_ => (Kd.freshB (g := gb217) (o := .cells #[.slice Ao34 t214.length co34] 29 (0, 0)) (by (with_reducible repeat (first | refine blk_drewN ?_ _ | refine blk_drew ?_ | refine blk_alloc ?_ _)); exact BK217.out) k_ hn_)), Or.elim hk_ (fun hs_ => hs_.1.2.2.1) (fun hn_ => (Kd.freshB (g := gb221) (o := .cells #[.slice Ao41 t218.length co41] 29 (0, 0)) (by (with_reducible repeat (first | refine blk_drewN ?_ _ | refine blk_drew ?_ | refine blk_alloc ?_ _)); exact BK221.out) k_ hn_)), Or.elim hk_ (fun hs_ => hs_.1.2.2.2) (fun hn_ => (Kd.freshB (g := gb225) (o := .cells #[.slice Ao49 t222.length co49] 29 (0, 0)) (by (with_reducible repeat (first | refine blk_drewN ?_ _ | refine blk_drew ?_ | refine blk_alloc ?_ _)); exact BK225.out) k_ hn_))⟩)) (below_size (by repeat (first | (with_reducible first | exact HB.out | apply below_alloc | apply pw_below_drewN | apply below_drew1 | refine below_set ?_ GE210.out | refine below_set ?_ GE217.out | refine below_set ?_ GE221.out | refine below_set ?_ GE225.out) | exact HB.out))))
        have n7_ := Aside0.mk (blk_below (g := gb210) (o := .cells #[.slice Ao26 t207.length co26] 29 (0, 0)) (by (with_reducible repeat (first | refine blk_drewN ?_ _ | refine blk_drew ?_ | refine blk_alloc ?_ _)); exact BK210.out) hb)
        have n8_ := Aside0.mk (blk_below (g := gb217) (o := .cells #[.slice Ao34 t214.length co34] 29 (0, 0)) (by (with_reducible repeat (first | refine blk_drewN ?_ _ | refine blk_drew ?_ | refine blk_alloc ?_ _)); exact BK217.out) hb)
        have n9_ := Aside0.mk (blk_below (g := gb221) (o := .cells #[.slice Ao41 t218.length co41] 29 (0, 0)) (by (with_reducible repeat (first | refine blk_drewN ?_ _ | refine blk_drew ?_ | refine blk_alloc ?_ _)); exact BK221.out) hb)
        have n10_ := Aside0.mk (blk_below (g := gb225) (o := .cells #[.slice Ao49 t222.length co49] 29 (0, 0)) (by (with_reducible repeat (first | refine blk_drewN ?_ _ | refine blk_drew ?_ | refine blk_alloc ?_ _)); exact BK225.out) hb)
        have n11_ := Aside0.mk (below_step (by repeat (first | (with_reducible first | exact HB.out | apply below_alloc | apply pw_below_drewN | apply below_drew1 | refine below_set ?_ GE210.out | refine below_set ?_ GE217.out | refine below_set ?_ GE221.out | refine below_set ?_ GE225.out) | exact HB.out)) hb)
        clear HO209
        clear HO213
        clear HO216
        clear HO220
        clear HO224
        clear HO228
        clear BK210
        clear BK217
        clear BK221
        clear BK225
        clear HB
        have HO209 := n0_
        have HO213 := n1_
        have HO216 := n2_
        have HO220 := n3_
        have HO224 := n4_
        have HO228 := n5_
        have HO231 := n6_
        have BK210 := n7_
        have BK217 := n8_
        have BK221 := n9_
        have BK225 := n10_
        have HB := n11_
        clear n0_ n1_ n2_ n3_ n4_ n5_ n6_ n7_ n8_ n9_ n10_ n11_
        (try clear hb)
        (try clear hb2)
        (try clear hk)
        (try clear hi)
        (try clear ho0)
        obtain ⟨Ao58, co58, eo58⟩ := Kd.N_slice HO228.out
        (first | subst eo58 | (injection eo58 with f1_ f2_ f3_; have f4_ := f1_.symm; have f5_ := f3_.symm; clear f1_ f2_ f3_; subst f4_; subst f5_))
        obtain ⟨Ao59, co59, eo59⟩ := Kd.N_slice HO231.out
        (first | subst eo59 | (injection eo59 with f1_ f2_ f3_; have f4_ := f1_.symm; have f5_ := f3_.symm; clear f1_ f2_ f3_; subst f4_; subst f5_))
        refine hK.out _ _ ⟨(blk_cell BK217.out 0).trans rfl, (blk_cell BK221.out 0).trans rfl, (blk_cell BK225.out 0).trans rfl⟩ (fun hHeld => ?_)
        clear hK K
        refine norm_ (a' := ?_) ?_ ?_
        rotate_left
        · show Act.put _ (some 46) _ = _
          simp only [Act.put, List.setIfInBounds_toArray, List.set_cons_zero, List.set_cons_succ, i64_w, i32_w]
          rfl
        refine one_ (i := 8) (N := some 47) #[true, true, true, true, true, true, true, true, true, false, false, false, false, false, false, false, false, false, false, false] rfl rfl (one_of HT_.out (by kernel_rfl)) (by decide) (fun K hK => ?_)
        refine goes_ Try.func12 (by kernel_rfl) rfl #[.slice Ao58 t226.length co58, .slice Ao59 t229.length co59] (by rfl) rfl rfl (by (try simp only [List.map_toArray, List.map_cons, List.map_nil]); first | done | rfl | (simp only [List.length_drop, List.length_take]; rfl)) ?_
        with_reducible refine (godwitref07_Same.calls k _ _ t226 _ _ t229 true _ ?side1 ?side2 ?side3 ?side4 A17.out).mono ?_
        (case side1 => repeat (first | exact (Kd.N_reads' HO228.out).2.2 | (with_reducible refine Kd.C_alloc ?_ _) | (with_reducible refine Kd.C_drewN ?_ _) | (with_reducible refine Kd.C_drew ?_)))
        (case side2 => exact (Kd.N_reads' HO228.out).2.1)
        (case side3 => repeat (first | exact (Kd.N_reads' HO231.out).2.2 | (with_reducible refine Kd.C_alloc ?_ _) | (with_reducible refine Kd.C_drewN ?_ _) | (with_reducible refine Kd.C_drew ?_)))
        (case side4 => exact (Kd.N_reads' HO231.out).2.1)
        rintro e w60 ⟨rfl, hb⟩
        refine ⟨_, rfl, ?_⟩
        have n0_ := Aside0.mk (Kd.N_below (by (with_reducible repeat (first | apply Kd.N_alloc | apply Kd.N_drewN | apply Kd.N_drew)); exact HO209.out) hb)
        have n1_ := Aside0.mk (Kd.V_below (by (with_reducible repeat (first | apply Kd.V_alloc | apply Kd.V_drewN | apply Kd.V_drew)); exact HO213.out) hb)
        have n2_ := Aside0.mk (Kd.V_below (by (with_reducible repeat (first | apply Kd.V_alloc | apply Kd.V_drewN | apply Kd.V_drew)); exact HO216.out) hb)
        have n3_ := Aside0.mk (Kd.V_below (by (with_reducible repeat (first | apply Kd.V_alloc | apply Kd.V_drewN | apply Kd.V_drew)); exact HO220.out) hb)
        have n4_ := Aside0.mk (Kd.V_below (by (with_reducible repeat (first | apply Kd.V_alloc | apply Kd.V_drewN | apply Kd.V_drew)); exact HO224.out) hb)
        have n5_ := Aside0.mk (Kd.N_below (by (with_reducible repeat (first | apply Kd.N_alloc | apply Kd.N_drewN | apply Kd.N_drew)); exact HO228.out) hb)
        have n6_ := Aside0.mk (Kd.N_below (by (with_reducible repeat (first | apply Kd.N_alloc | apply Kd.N_drewN | apply Kd.N_drew)); exact HO231.out) hb)
        have n7_ := Aside0.mk (blk_below (g := gb210) (o := .cells #[.slice Ao26 t207.length co26] 29 (0, 0)) (by (with_reducible repeat (first | refine blk_drewN ?_ _ | refine blk_drew ?_ | refine blk_alloc ?_ _)); exact BK210.out) hb)
        have n8_ := Aside0.mk (blk_below (g := gb217) (o := .cells #[.slice Ao34 t214.length co34] 29 (0, 0)) (by (with_reducible repeat (first | refine blk_drewN ?_ _ | refine blk_drew ?_ | refine blk_alloc ?_ _)); exact BK217.out) hb)
        have n9_ := Aside0.mk (blk_below (g := gb221) (o := .cells #[.slice Ao41 t218.length co41] 29 (0, 0)) (by (with_reducible repeat (first | refine blk_drewN ?_ _ | refine blk_drew ?_ | refine blk_alloc ?_ _)); exact BK221.out) hb)
        have n10_ := Aside0.mk (blk_below (g := gb225) (o := .cells #[.slice Ao49 t222.length co49] 29 (0, 0)) (by (with_reducible repeat (first | refine blk_drewN ?_ _ | refine blk_drew ?_ | refine blk_alloc ?_ _)); exact BK225.out) hb)
        have n11_ := Aside0.mk (below_step (by repeat (first | (with_reducible first | exact HB.out | apply below_alloc | apply pw_below_drewN | apply below_drew1 | refine below_set ?_ GE210.out | refine below_set ?_ GE217.out | refine below_set ?_ GE221.out | refine below_set ?_ GE225.out) | exact HB.out)) hb)
        clear HO209
        clear HO213
        clear HO216
        clear HO220
        clear HO224
        clear HO228
        clear HO231
        clear BK210
        clear BK217
        clear BK221
        clear BK225
        clear HB
        have HO209 := n0_
        have HO213 := n1_
        have HO216 := n2_
        have HO220 := n3_
        have HO224 := n4_
        have HO228 := n5_
        have HO231 := n6_
        have BK210 := n7_
        have BK217 := n8_
        have BK221 := n9_
        have BK225 := n10_
        have HB := n11_
        clear n0_ n1_ n2_ n3_ n4_ n5_ n6_ n7_ n8_ n9_ n10_ n11_
        (try clear hb)
        (try clear hb2)
        (try clear hk)
        (try clear hi)
        refine hK.out _ _ ⟨(blk_cell BK217.out 0).trans rfl, (blk_cell BK221.out 0).trans rfl, (blk_cell BK225.out 0).trans rfl⟩ (fun hHeld => ?_)
        clear hK K
        refine norm_ (a' := ?_) ?_ ?_
        rotate_left
        · show Act.put _ (some 47) _ = _
          simp only [Act.put, List.setIfInBounds_toArray, List.set_cons_zero, List.set_cons_succ, i64_w, i32_w]
          rfl
        refine pure_ (i := 9) (N := some 48) (v := ?_) (a' := ?_) #[true, true, true, true, true, true, true, true, true, true, false, false, false, false, false, false, false, false, false, false] rfl rfl (any_of HT_.out (by kernel_rfl)) (fun _ _ _ h => h) (Or.inl ⟨by rfl, ?_⟩) ?_ ?_
        rotate_left
        · intro w'
          go_simp
          with_reducible rfl
        rotate_left
        · simp only [Act.put, List.setIfInBounds_toArray, List.set_cons_zero, List.set_cons_succ, i64_w, i32_w]
          rfl
        refine pure_ (i := 10) (N := some 49) (v := ?_) (a' := ?_) #[true, true, true, true, true, true, true, true, true, true, true, false, false, false, false, false, false, false, false, false] rfl rfl (any_of HT_.out (by kernel_rfl)) (fun _ _ _ h => h) (Or.inl ⟨by rfl, ?_⟩) ?_ ?_
        rotate_left
        · intro w'
          go_simp
          with_reducible rfl
        rotate_left
        · simp only [Act.put, List.setIfInBounds_toArray, List.set_cons_zero, List.set_cons_succ, i64_w, i32_w]
          rfl
        refine pure_ (i := 11) (N := some 50) (v := ?_) (a' := ?_) #[true, true, true, true, true, true, true, true, true, true, true, true, false, false, false, false, false, false, false, false] rfl rfl (any_of HT_.out (by kernel_rfl)) (fun _ _ _ h => h) (Or.inl ⟨by rfl, ?_⟩) ?_ ?_
        rotate_left
        · intro w'
          go_simp
          with_reducible rfl
        rotate_left
        · simp only [Act.put, List.setIfInBounds_toArray, List.set_cons_zero, List.set_cons_succ, i64_w, i32_w]
          rfl
        refine pure_ (i := 14) (N := some 53) (v := ?_) (a' := ?_) #[true, true, true, true, true, true, true, true, true, true, true, true, false, false, true, false, false, false, false, false] rfl rfl (any_of HT_.out (by kernel_rfl)) (fun _ _ _ h => h) (Or.inl ⟨by rfl, ?_⟩) ?_ ?_
        rotate_left
        · intro w'
          go_simp
          with_reducible rfl
        rotate_left
        · simp only [Act.put, List.setIfInBounds_toArray, List.set_cons_zero, List.set_cons_succ, i64_w, i32_w]
          rfl
        refine take_ (i := 12) (N := some 51) (v := ?_) (a' := ?_) #[true, true, true, true, true, true, true, true, true, true, true, true, true, false, true, false, false, false, false, false] rfl rfl (take_ofW HT_.out HW_.out (by kernel_rfl)) (fun _ _ _ h => h) (Or.inl ⟨by rfl, ?_⟩) hHeld ?_ ?_
        rotate_left
        · rintro w' ⟨s0, s1, s2⟩
          go_simp
          with_reducible rfl
        rotate_left
        · simp only [Act.put, List.setIfInBounds_toArray, List.set_cons_zero, List.set_cons_succ, i64_w, i32_w]
          rfl
        refine take_ (i := 15) (N := some 54) (v := ?_) (a' := ?_) #[true, true, true, true, true, true, true, true, true, true, true, true, true, false, true, true, false, false, false, false] rfl rfl (take_ofW HT_.out HW_.out (by kernel_rfl)) (fun _ _ _ h => h) (Or.inl ⟨by rfl, ?_⟩) hHeld ?_ ?_
        rotate_left
        · rintro w' ⟨s0, s1, s2⟩
          go_simp
          with_reducible rfl
        rotate_left
        · simp only [Act.put, List.setIfInBounds_toArray, List.set_cons_zero, List.set_cons_succ, i64_w, i32_w]
          rfl
        refine one_ (i := 13) (N := some 52) #[true, true, true, true, true, true, true, true, true, true, true, true, true, true, true, true, false, false, false, false] rfl rfl (one_of HT_.out (by kernel_rfl)) (by decide) (fun K hK => ?_)
        refine goes_ Try.func13 (by kernel_rfl) rfl #[.slice Ao41 t218.length co41] (by rfl) rfl rfl (by (try simp only [List.map_toArray, List.map_cons, List.map_nil]); first | done | rfl | (simp only [List.length_drop, List.length_take]; rfl)) ?_
        with_reducible refine (godwitlaw07_theirs.calls k (fun k_ => (((k_ ≠ gb210 ∧ (k_ ≠ gb217 ∧ (k_ ≠ gb221 ∧ k_ ≠ gb225))) ∧ some k_ ≠ (.slice Ao58 t226.length co58 : Value).ownBlock) ∧ some k_ ≠ (.slice Ao59 t229.length co59 : Value).ownBlock)) _ _ t218 t233 _ ?side1 A19.out).mono ?_
        (case side1 => exact HO220.out)
        rintro e w61 ⟨v234, rfl, ho0, hb⟩
        refine ⟨_, rfl, ?_⟩
        have n0_ := Aside0.mk (Kd.N_elder' (by (with_reducible repeat (first | apply Kd.N_alloc | apply Kd.N_drewN | apply Kd.N_drew)); exact HO209.out) (Kd.N_base ho0) hb)
        have n1_ := Aside0.mk (Kd.V_elder' (by (with_reducible repeat (first | apply Kd.V_alloc | apply Kd.V_drewN | apply Kd.V_drew)); exact HO213.out) (Kd.N_base ho0) hb)
        have n2_ := Aside0.mk (Kd.V_elder' (by (with_reducible repeat (first | apply Kd.V_alloc | apply Kd.V_drewN | apply Kd.V_drew)); exact HO216.out) (Kd.N_base ho0) hb)
        have n3_ := Aside0.mk (Kd.V_elder' (by (with_reducible repeat (first | apply Kd.V_alloc | apply Kd.V_drewN | apply Kd.V_drew)); exact HO220.out) (Kd.N_base ho0) hb)
        have n4_ := Aside0.mk (Kd.V_elder' (by (with_reducible repeat (first | apply Kd.V_alloc | apply Kd.V_drewN | apply Kd.V_drew)); exact HO224.out) (Kd.N_base ho0) hb)
        have n5_ := Aside0.mk (Kd.N_elder' (by (with_reducible repeat (first | apply Kd.N_alloc | apply Kd.N_drewN | apply Kd.N_drew)); exact HO228.out) (Kd.N_base ho0) hb)
        have n6_ := Aside0.mk (Kd.N_elder' (by (with_reducible repeat (first | apply Kd.N_alloc | apply Kd.N_drewN | apply Kd.N_drew)); exact HO231.out) (Kd.N_base ho0) hb)
        have n7_ := Aside0.mk (Kd.N_lower (Kd.N_mono (ok' := fun k_ => some k_ ≠ (.slice Ao58 t226.length co58 : Value).ownBlock ∧ some k_ ≠ (.slice Ao59 t229.length co59 : Value).ownBlock ∧ k_ ≠ gb210 ∧ k_ ≠ gb217 ∧ k_ ≠ gb221 ∧ k_ ≠ gb225) ho0 (fun k_ hk_ => ⟨Or.elim hk_ (fun hs_ => hs_.1.2) (fun hn_ => (Kd.fresh' (Kd.N_lt (by (with_reducible repeat (first | apply Kd.N_alloc | apply Kd.N_drewN | apply Kd.N_drew)); exact HO228.out)) k_ hn_)), Or.elim hk_ (fun hs_ => hs_.2) (fun hn_ => (Kd.fresh' (Kd.N_lt (by (with_reducible repeat (first | apply Kd.N_alloc | apply Kd.N_drewN | apply Kd.N_drew)); exact HO231.out)) k_ hn_)), Or.elim hk_ (fun hs_ => hs_.1.1.1) (fun hn_ => (Kd.freshB (g := gb210) (o := .cells #[.slice Ao26 t207.length co26] 29 (0, 0)) (by (with_reducible repeat (first | refine blk_drewN ?_ _ | refine blk_drew ?_ | refine blk_alloc ?_ _)); exact BK210.out) k_ hn_)), Or.elim hk_ (fun hs_ => hs_.1.1.2.1) (fun hn_ => (Kd.freshB (g := gb217) (o := .cells #[.slice Ao34 t214.length co34] 29 (0, 0)) (by (with_reducible repeat (first | refine blk_drewN ?_ _ | refine blk_drew ?_ | refine blk_alloc ?_ _)); exact BK217.out) k_ hn_)), Or.elim hk_ (fun hs_ => hs_.1.1.2.2.1) (fun hn_ => (Kd.freshB (g := gb221) (o := .cells #[.slice Ao41 t218.length co41] 29 (0, 0)) (by (with_reducible repeat (first | refine blk_drewN ?_ _ | refine blk_drew ?_ | refine blk_alloc ?_ _)); exact BK221.out) k_ hn_)), Or.elim hk_ (fun hs_ => hs_.1.1.2.2.2) (fun hn_ => (Kd.freshB (g := gb225) (o := .cells #[.slice Ao49 t222.length co49] 29 (0, 0)) (by (with_reducible repeat (first | refine blk_drewN ?_ _ | refine blk_drew ?_ | refine blk_alloc ?_ _)); exact BK225.out) k_ hn_))⟩)) (below_size (by repeat (first | (with_reducible first | exact HB.out | apply below_alloc | apply pw_below_drewN | apply below_drew1 | refine below_set ?_ GE210.out | refine below_set ?_ GE217.out | refine below_set ?_ GE221.out | refine below_set ?_ GE225.out) | exact HB.out))))
        have n8_ := Aside0.mk (blk_below (g := gb210) (o := .cells #[.slice Ao26 t207.length co26] 29 (0, 0)) (by (with_reducible repeat (first | refine blk_drewN ?_ _ | refine blk_drew ?_ | refine blk_alloc ?_ _)); exact BK210.out) hb)
        have n9_ := Aside0.mk (blk_below (g := gb217) (o := .cells #[.slice Ao34 t214.length co34] 29 (0, 0)) (by (with_reducible repeat (first | refine blk_drewN ?_ _ | refine blk_drew ?_ | refine blk_alloc ?_ _)); exact BK217.out) hb)
        have n10_ := Aside0.mk (blk_below (g := gb221) (o := .cells #[.slice Ao41 t218.length co41] 29 (0, 0)) (by (with_reducible repeat (first | refine blk_drewN ?_ _ | refine blk_drew ?_ | refine blk_alloc ?_ _)); exact BK221.out) hb)
        have n11_ := Aside0.mk (blk_below (g := gb225) (o := .cells #[.slice Ao49 t222.length co49] 29 (0, 0)) (by (with_reducible repeat (first | refine blk_drewN ?_ _ | refine blk_drew ?_ | refine blk_alloc ?_ _)); exact BK225.out) hb)
        have n12_ := Aside0.mk (below_step (by repeat (first | (with_reducible first | exact HB.out | apply below_alloc | apply pw_below_drewN | apply below_drew1 | refine below_set ?_ GE210.out | refine below_set ?_ GE217.out | refine below_set ?_ GE221.out | refine below_set ?_ GE225.out) | exact HB.out)) hb)
        clear HO209
        clear HO213
        clear HO216
        clear HO220
        clear HO224
        clear HO228
        clear HO231
        clear BK210
        clear BK217
        clear BK221
        clear BK225
        clear HB
        have HO209 := n0_
        have HO213 := n1_
        have HO216 := n2_
        have HO220 := n3_
        have HO224 := n4_
        have HO228 := n5_
        have HO231 := n6_
        have HO235 := n7_
        have BK210 := n8_
        have BK217 := n9_
        have BK221 := n10_
        have BK225 := n11_
        have HB := n12_
        clear n0_ n1_ n2_ n3_ n4_ n5_ n6_ n7_ n8_ n9_ n10_ n11_ n12_
        (try clear hb)
        (try clear hb2)
        (try clear hk)
        (try clear hi)
        (try clear ho0)
        refine hK.out _ _ ⟨(blk_cell BK217.out 0).trans rfl, (blk_cell BK221.out 0).trans rfl, (blk_cell BK225.out 0).trans rfl⟩ (fun hHeld => ?_)
        clear hK K
        refine norm_ (a' := ?_) ?_ ?_
        rotate_left
        · show Act.put _ (some 52) _ = _
          simp only [Act.put, List.setIfInBounds_toArray, List.set_cons_zero, List.set_cons_succ, i64_w, i32_w]
          rfl
        refine one_ (i := 16) (N := some 55) #[true, true, true, true, true, true, true, true, true, true, true, true, true, true, true, true, true, false, false, false] rfl rfl (one_of HT_.out (by kernel_rfl)) (by decide) (fun K hK => ?_)
        refine goes_ Try.func13 (by kernel_rfl) rfl #[.slice Ao49 t222.length co49] (by rfl) rfl rfl (by (try simp only [List.map_toArray, List.map_cons, List.map_nil]); first | done | rfl | (simp only [List.length_drop, List.length_take]; rfl)) ?_
        with_reducible refine (godwitlaw07_theirs.calls k (fun k_ => ((((k_ ≠ gb210 ∧ (k_ ≠ gb217 ∧ (k_ ≠ gb221 ∧ k_ ≠ gb225))) ∧ some k_ ≠ (.slice Ao58 t226.length co58 : Value).ownBlock) ∧ some k_ ≠ (.slice Ao59 t229.length co59 : Value).ownBlock) ∧ some k_ ≠ (v234 : Value).ownBlock)) _ _ t222 t236 _ ?side1 A20.out).mono ?_
        (case side1 => exact HO224.out)
        rintro e w62 ⟨v237, rfl, ho0, hb⟩
        refine ⟨_, rfl, ?_⟩
        have n0_ := Aside0.mk (Kd.N_elder' (by (with_reducible repeat (first | apply Kd.N_alloc | apply Kd.N_drewN | apply Kd.N_drew)); exact HO209.out) (Kd.N_base ho0) hb)
        have n1_ := Aside0.mk (Kd.V_elder' (by (with_reducible repeat (first | apply Kd.V_alloc | apply Kd.V_drewN | apply Kd.V_drew)); exact HO213.out) (Kd.N_base ho0) hb)
        have n2_ := Aside0.mk (Kd.V_elder' (by (with_reducible repeat (first | apply Kd.V_alloc | apply Kd.V_drewN | apply Kd.V_drew)); exact HO216.out) (Kd.N_base ho0) hb)
        have n3_ := Aside0.mk (Kd.V_elder' (by (with_reducible repeat (first | apply Kd.V_alloc | apply Kd.V_drewN | apply Kd.V_drew)); exact HO220.out) (Kd.N_base ho0) hb)
        have n4_ := Aside0.mk (Kd.V_elder' (by (with_reducible repeat (first | apply Kd.V_alloc | apply Kd.V_drewN | apply Kd.V_drew)); exact HO224.out) (Kd.N_base ho0) hb)
        have n5_ := Aside0.mk (Kd.N_elder' (by (with_reducible repeat (first | apply Kd.N_alloc | apply Kd.N_drewN | apply Kd.N_drew)); exact HO228.out) (Kd.N_base ho0) hb)
        have n6_ := Aside0.mk (Kd.N_elder' (by (with_reducible repeat (first | apply Kd.N_alloc | apply Kd.N_drewN | apply Kd.N_drew)); exact HO231.out) (Kd.N_base ho0) hb)
        have n7_ := Aside0.mk (Kd.N_elder' (by (with_reducible repeat (first | apply Kd.N_alloc | apply Kd.N_drewN | apply Kd.N_drew)); exact HO235.out) (Kd.N_base ho0) hb)
        have n8_ := Aside0.mk (Kd.N_lower (Kd.N_mono (ok' := fun k_ => some k_ ≠ (.slice Ao58 t226.length co58 : Value).ownBlock ∧ some k_ ≠ (.slice Ao59 t229.length co59 : Value).ownBlock ∧ some k_ ≠ (v234 : Value).ownBlock ∧ k_ ≠ gb210 ∧ k_ ≠ gb217 ∧ k_ ≠ gb221 ∧ k_ ≠ gb225) ho0 (fun k_ hk_ => ⟨Or.elim hk_ (fun hs_ => hs_.1.1.2) (fun hn_ => (Kd.fresh' (Kd.N_lt (by (with_reducible repeat (first | apply Kd.N_alloc | apply Kd.N_drewN | apply Kd.N_drew)); exact HO228.out)) k_ hn_)), Or.elim hk_ (fun hs_ => hs_.1.2) (fun hn_ => (Kd.fresh' (Kd.N_lt (by (with_reducible repeat (first | apply Kd.N_alloc | apply Kd.N_drewN | apply Kd.N_drew)); exact HO231.out)) k_ hn_)), Or.elim hk_ (fun hs_ => hs_.2) (fun hn_ => (Kd.fresh' (Kd.N_lt (by (with_reducible repeat (first | apply Kd.N_alloc | apply Kd.N_drewN | apply Kd.N_drew)); exact HO235.out)) k_ hn_)), Or.elim hk_ (fun hs_ => hs_.1.1.1.1) (fun hn_ => (Kd.freshB (g := gb210) (o := .cells #[.slice Ao26 t207.length co26] 29 (0, 0)) (by (with_reducible repeat (first | refine blk_drewN ?_ _ | refine blk_drew ?_ | refine blk_alloc ?_ _)); exact BK210.out) k_ hn_)), Or.elim hk_ (fun hs_ => hs_.1.1.1.2.1) (fun hn_ => (Kd.freshB (g := gb217) (o := .cells #[.slice Ao34 t214.length co34] 29 (0, 0)) (by (with_reducible repeat (first | refine blk_drewN ?_ _ | refine blk_drew ?_ | refine blk_alloc ?_ _)); exact BK217.out) k_ hn_)), Or.elim hk_ (fun hs_ => hs_.1.1.1.2.2.1) (fun hn_ => (Kd.freshB (g := gb221) (o := .cells #[.slice Ao41 t218.length co41] 29 (0, 0)) (by (with_reducible repeat (first | refine blk_drewN ?_ _ | refine blk_drew ?_ | refine blk_alloc ?_ _)); exact BK221.out) k_ hn_)), Or.elim hk_ (fun hs_ => hs_.1.1.1.2.2.2) (fun hn_ => (Kd.freshB (g := gb225) (o := .cells #[.slice Ao49 t222.length co49] 29 (0, 0)) (by (with_reducible repeat (first | refine blk_drewN ?_ _ | refine blk_drew ?_ | refine blk_alloc ?_ _)); exact BK225.out) k_ hn_))⟩)) (below_size (by repeat (first | (with_reducible first | exact HB.out | apply below_alloc | apply pw_below_drewN | apply below_drew1 | refine below_set ?_ GE210.out | refine below_set ?_ GE217.out | refine below_set ?_ GE221.out | refine below_set ?_ GE225.out) | exact HB.out))))
        have n9_ := Aside0.mk (blk_below (g := gb210) (o := .cells #[.slice Ao26 t207.length co26] 29 (0, 0)) (by (with_reducible repeat (first | refine blk_drewN ?_ _ | refine blk_drew ?_ | refine blk_alloc ?_ _)); exact BK210.out) hb)
        have n10_ := Aside0.mk (blk_below (g := gb217) (o := .cells #[.slice Ao34 t214.length co34] 29 (0, 0)) (by (with_reducible repeat (first | refine blk_drewN ?_ _ | refine blk_drew ?_ | refine blk_alloc ?_ _)); exact BK217.out) hb)
        have n11_ := Aside0.mk (blk_below (g := gb221) (o := .cells #[.slice Ao41 t218.length co41] 29 (0, 0)) (by (with_reducible repeat (first | refine blk_drewN ?_ _ | refine blk_drew ?_ | refine blk_alloc ?_ _)); exact BK221.out) hb)
        have n12_ := Aside0.mk (blk_below (g := gb225) (o := .cells #[.slice Ao49 t222.length co49] 29 (0, 0)) (by (with_reducible repeat (first | refine blk_drewN ?_ _ | refine blk_drew ?_ | refine blk_alloc ?_ _)); exact BK225.out) hb)
        have n13_ := Aside0.mk (below_step (by repeat (first | (with_reducible first | exact HB.out | apply below_alloc | apply pw_below_drewN | apply below_drew1 | refine below_set ?_ GE210.out | refine below_set ?_ GE217.out | refine below_set ?_ GE221.out | refine below_set ?_ GE225.out) | exact HB.out)) hb)
        clear HO209
        clear HO213
        clear HO216
        clear HO220
        clear HO224
        clear HO228
        clear HO231
        clear HO235
        clear BK210
        clear BK217
        clear BK221
        clear BK225
        clear HB
        have HO209 := n0_
        have HO213 := n1_
        have HO216 := n2_
        have HO220 := n3_
        have HO224 := n4_
        have HO228 := n5_
        have HO231 := n6_
        have HO235 := n7_
        have HO238 := n8_
        have BK210 := n9_
        have BK217 := n10_
        have BK221 := n11_
        have BK225 := n12_
        have HB := n13_
        clear n0_ n1_ n2_ n3_ n4_ n5_ n6_ n7_ n8_ n9_ n10_ n11_ n12_ n13_
        (try clear hb)
        (try clear hb2)
        (try clear hk)
        (try clear hi)
        (try clear ho0)
        obtain ⟨Ao63, co63, eo63⟩ := Kd.N_slice HO235.out
        (first | subst eo63 | (injection eo63 with f1_ f2_ f3_; have f4_ := f1_.symm; have f5_ := f3_.symm; clear f1_ f2_ f3_; subst f4_; subst f5_))
        obtain ⟨Ao64, co64, eo64⟩ := Kd.N_slice HO238.out
        (first | subst eo64 | (injection eo64 with f1_ f2_ f3_; have f4_ := f1_.symm; have f5_ := f3_.symm; clear f1_ f2_ f3_; subst f4_; subst f5_))
        refine hK.out _ _ ⟨(blk_cell BK217.out 0).trans rfl, (blk_cell BK221.out 0).trans rfl, (blk_cell BK225.out 0).trans rfl⟩ (fun hHeld => ?_)
        clear hK K
        refine norm_ (a' := ?_) ?_ ?_
        rotate_left
        · show Act.put _ (some 55) _ = _
          simp only [Act.put, List.setIfInBounds_toArray, List.set_cons_zero, List.set_cons_succ, i64_w, i32_w]
          rfl
        refine one_ (i := 17) (N := some 56) #[true, true, true, true, true, true, true, true, true, true, true, true, true, true, true, true, true, true, false, false] rfl rfl (one_of HT_.out (by kernel_rfl)) (by decide) (fun K hK => ?_)
        refine goes_ Try.func12 (by kernel_rfl) rfl #[.slice Ao63 t233.length co63, .slice Ao64 t236.length co64] (by rfl) rfl rfl (by (try simp only [List.map_toArray, List.map_cons, List.map_nil]); first | done | rfl | (simp only [List.length_drop, List.length_take]; rfl)) ?_
        with_reducible refine (godwitref07_Same.calls k _ _ t233 _ _ t236 t239 _ ?side1 ?side2 ?side3 ?side4 A21.out).mono ?_
        (case side1 => repeat (first | exact (Kd.N_reads' HO235.out).2.2 | (with_reducible refine Kd.C_alloc ?_ _) | (with_reducible refine Kd.C_drewN ?_ _) | (with_reducible refine Kd.C_drew ?_)))
        (case side2 => exact (Kd.N_reads' HO235.out).2.1)
        (case side3 => repeat (first | exact (Kd.N_reads' HO238.out).2.2 | (with_reducible refine Kd.C_alloc ?_ _) | (with_reducible refine Kd.C_drewN ?_ _) | (with_reducible refine Kd.C_drew ?_)))
        (case side4 => exact (Kd.N_reads' HO238.out).2.1)
        rintro e w65 ⟨rfl, hb⟩
        refine ⟨_, rfl, ?_⟩
        have n0_ := Aside0.mk (Kd.N_below (by (with_reducible repeat (first | apply Kd.N_alloc | apply Kd.N_drewN | apply Kd.N_drew)); exact HO209.out) hb)
        have n1_ := Aside0.mk (Kd.V_below (by (with_reducible repeat (first | apply Kd.V_alloc | apply Kd.V_drewN | apply Kd.V_drew)); exact HO213.out) hb)
        have n2_ := Aside0.mk (Kd.V_below (by (with_reducible repeat (first | apply Kd.V_alloc | apply Kd.V_drewN | apply Kd.V_drew)); exact HO216.out) hb)
        have n3_ := Aside0.mk (Kd.V_below (by (with_reducible repeat (first | apply Kd.V_alloc | apply Kd.V_drewN | apply Kd.V_drew)); exact HO220.out) hb)
        have n4_ := Aside0.mk (Kd.V_below (by (with_reducible repeat (first | apply Kd.V_alloc | apply Kd.V_drewN | apply Kd.V_drew)); exact HO224.out) hb)
        have n5_ := Aside0.mk (Kd.N_below (by (with_reducible repeat (first | apply Kd.N_alloc | apply Kd.N_drewN | apply Kd.N_drew)); exact HO228.out) hb)
        have n6_ := Aside0.mk (Kd.N_below (by (with_reducible repeat (first | apply Kd.N_alloc | apply Kd.N_drewN | apply Kd.N_drew)); exact HO231.out) hb)
        have n7_ := Aside0.mk (Kd.N_below (by (with_reducible repeat (first | apply Kd.N_alloc | apply Kd.N_drewN | apply Kd.N_drew)); exact HO235.out) hb)
        have n8_ := Aside0.mk (Kd.N_below (by (with_reducible repeat (first | apply Kd.N_alloc | apply Kd.N_drewN | apply Kd.N_drew)); exact HO238.out) hb)
        have n9_ := Aside0.mk (blk_below (g := gb210) (o := .cells #[.slice Ao26 t207.length co26] 29 (0, 0)) (by (with_reducible repeat (first | refine blk_drewN ?_ _ | refine blk_drew ?_ | refine blk_alloc ?_ _)); exact BK210.out) hb)
        have n10_ := Aside0.mk (blk_below (g := gb217) (o := .cells #[.slice Ao34 t214.length co34] 29 (0, 0)) (by (with_reducible repeat (first | refine blk_drewN ?_ _ | refine blk_drew ?_ | refine blk_alloc ?_ _)); exact BK217.out) hb)
        have n11_ := Aside0.mk (blk_below (g := gb221) (o := .cells #[.slice Ao41 t218.length co41] 29 (0, 0)) (by (with_reducible repeat (first | refine blk_drewN ?_ _ | refine blk_drew ?_ | refine blk_alloc ?_ _)); exact BK221.out) hb)
        have n12_ := Aside0.mk (blk_below (g := gb225) (o := .cells #[.slice Ao49 t222.length co49] 29 (0, 0)) (by (with_reducible repeat (first | refine blk_drewN ?_ _ | refine blk_drew ?_ | refine blk_alloc ?_ _)); exact BK225.out) hb)
        have n13_ := Aside0.mk (below_step (by repeat (first | (with_reducible first | exact HB.out | apply below_alloc | apply pw_below_drewN | apply below_drew1 | refine below_set ?_ GE210.out | refine below_set ?_ GE217.out | refine below_set ?_ GE221.out | refine below_set ?_ GE225.out) | exact HB.out)) hb)
        clear HO209
        clear HO213
        clear HO216
        clear HO220
        clear HO224
        clear HO228
        clear HO231
        clear HO235
        clear HO238
        clear BK210
        clear BK217
        clear BK221
        clear BK225
        clear HB
        have HO209 := n0_
        have HO213 := n1_
        have HO216 := n2_
        have HO220 := n3_
        have HO224 := n4_
        have HO228 := n5_
        have HO231 := n6_
        have HO235 := n7_
        have HO238 := n8_
        have BK210 := n9_
        have BK217 := n10_
        have BK221 := n11_
        have BK225 := n12_
        have HB := n13_
        clear n0_ n1_ n2_ n3_ n4_ n5_ n6_ n7_ n8_ n9_ n10_ n11_ n12_ n13_
        (try clear hb)
        (try clear hb2)
        (try clear hk)
        (try clear hi)
        refine hK.out _ _ ⟨(blk_cell BK217.out 0).trans rfl, (blk_cell BK221.out 0).trans rfl, (blk_cell BK225.out 0).trans rfl⟩ (fun hHeld => ?_)
        clear hK K
        refine norm_ (a' := ?_) ?_ ?_
        rotate_left
        · show Act.put _ (some 56) _ = _
          simp only [Act.put, List.setIfInBounds_toArray, List.set_cons_zero, List.set_cons_succ, i64_w, i32_w]
          rfl
        refine pure_ (i := 18) (N := some 57) (v := ?_) (a' := ?_) #[true, true, true, true, true, true, true, true, true, true, true, true, true, true, true, true, true, true, true, false] rfl rfl (any_of HT_.out (by kernel_rfl)) (fun _ _ _ h => h) (Or.inl ⟨by rfl, ?_⟩) ?_ ?_
        rotate_left
        · intro w'
          go_simp
          with_reducible rfl
        rotate_left
        · simp only [Act.put, List.setIfInBounds_toArray, List.set_cons_zero, List.set_cons_succ, i64_w, i32_w]
          rfl
        refine pure_ (i := 19) (N := some 6) (v := ?_) (a' := ?_) #[true, true, true, true, true, true, true, true, true, true, true, true, true, true, true, true, true, true, true, true] rfl rfl (any_of HT_.out (by kernel_rfl)) (fun _ _ _ h => h) (Or.inl ⟨by rfl, ?_⟩) ?_ ?_
        rotate_left
        · intro w'
          go_simp
          with_reducible rfl
        rotate_left
        · simp only [Act.put, List.setIfInBounds_toArray, List.set_cons_zero, List.set_cons_succ, i64_w, i32_w]
          rfl
        refine done_ (done_of HT_.out (by kernel_rfl)) ?_
        try go_wp2
        go_ret
        first | (with_reducible exact (clash2 A21 A20).elim) | (with_reducible exact (clash2 A20 A21).elim) | (with_reducible exact (clash2 A21 A19).elim) | (with_reducible exact (clash2 A19 A21).elim) | (with_reducible exact (clash2 A21 A17).elim) | (with_reducible exact (clash2 A17 A21).elim) | (with_reducible exact (clash2 A21 A16).elim) | (with_reducible exact (clash2 A16 A21).elim) | (with_reducible exact (clash2 A21 A15).elim) | (with_reducible exact (clash2 A15 A21).elim) | (with_reducible exact (clash2 A21 A13).elim) | (with_reducible exact (clash2 A13 A21).elim) | (with_reducible exact (clash2 A21 A12).elim) | (with_reducible exact (clash2 A12 A21).elim) | (with_reducible exact (clash2 A21 A11).elim) | (with_reducible exact (clash2 A11 A21).elim) | (with_reducible exact (clash2 A21 A9).elim) | (with_reducible exact (clash2 A9 A21).elim) | (with_reducible exact (clash2 A21 A7).elim) | (with_reducible exact (clash2 A7 A21).elim) | (with_reducible exact (clash2 A21 A5).elim) | (with_reducible exact (clash2 A5 A21).elim) | (with_reducible exact (clash2 A21 A4).elim) | (with_reducible exact (clash2 A4 A21).elim) | (with_reducible exact (clash2 A20 A19).elim) | (with_reducible exact (clash2 A19 A20).elim) | (with_reducible exact (clash2 A20 A17).elim) | (with_reducible exact (clash2 A17 A20).elim) | (with_reducible exact (clash2 A20 A16).elim) | (with_reducible exact (clash2 A16 A20).elim) | (with_reducible exact (clash2 A20 A15).elim) | (with_reducible exact (clash2 A15 A20).elim) | (with_reducible exact (clash2 A20 A13).elim) | (with_reducible exact (clash2 A13 A20).elim) | (with_reducible exact (clash2 A20 A12).elim) | (with_reducible exact (clash2 A12 A20).elim) | (with_reducible exact (clash2 A20 A11).elim) | (with_reducible exact (clash2 A11 A20).elim) | (with_reducible exact (clash2 A20 A9).elim) | (with_reducible exact (clash2 A9 A20).elim) | (with_reducible exact (clash2 A20 A7).elim) | (with_reducible exact (clash2 A7 A20).elim) | (with_reducible exact (clash2 A20 A5).elim) | (with_reducible exact (clash2 A5 A20).elim) | (with_reducible exact (clash2 A20 A4).elim) | (with_reducible exact (clash2 A4 A20).elim) | (with_reducible exact (clash2 A19 A17).elim) | (with_reducible exact (clash2 A17 A19).elim) | (with_reducible exact (clash2 A19 A16).elim) | (with_reducible exact (clash2 A16 A19).elim) | (with_reducible exact (clash2 A19 A15).elim) | (with_reducible exact (clash2 A15 A19).elim) | (with_reducible exact (clash2 A19 A13).elim) | (with_reducible exact (clash2 A13 A19).elim) | (with_reducible exact (clash2 A19 A12).elim) | (with_reducible exact (clash2 A12 A19).elim) | (with_reducible exact (clash2 A19 A11).elim) | (with_reducible exact (clash2 A11 A19).elim) | (with_reducible exact (clash2 A19 A9).elim) | (with_reducible exact (clash2 A9 A19).elim) | (with_reducible exact (clash2 A19 A7).elim) | (with_reducible exact (clash2 A7 A19).elim) | (with_reducible exact (clash2 A19 A5).elim) | (with_reducible exact (clash2 A5 A19).elim) | (with_reducible exact (clash2 A19 A4).elim) | (with_reducible exact (clash2 A4 A19).elim) | (with_reducible exact (clash2 A17 A16).elim) | (with_reducible exact (clash2 A16 A17).elim) | (with_reducible exact (clash2 A17 A15).elim) | (with_reducible exact (clash2 A15 A17).elim) | (with_reducible exact (clash2 A17 A13).elim) | (with_reducible exact (clash2 A13 A17).elim) | (with_reducible exact (clash2 A17 A12).elim) | (with_reducible exact (clash2 A12 A17).elim) | (with_reducible exact (clash2 A17 A11).elim) | (with_reducible exact (clash2 A11 A17).elim) | (with_reducible exact (clash2 A17 A9).elim) | (with_reducible exact (clash2 A9 A17).elim) | (with_reducible exact (clash2 A17 A7).elim) | (with_reducible exact (clash2 A7 A17).elim) | (with_reducible exact (clash2 A17 A5).elim) | (with_reducible exact (clash2 A5 A17).elim) | (with_reducible exact (clash2 A17 A4).elim) | (with_reducible exact (clash2 A4 A17).elim) | (with_reducible exact (clash2 A16 A15).elim) | (with_reducible exact (clash2 A15 A16).elim) | (with_reducible exact (clash2 A16 A13).elim) | (with_reducible exact (clash2 A13 A16).elim) | (with_reducible exact (clash2 A16 A12).elim) | (with_reducible exact (clash2 A12 A16).elim) | (with_reducible exact (clash2 A16 A11).elim) | (with_reducible exact (clash2 A11 A16).elim) | (with_reducible exact (clash2 A16 A9).elim) | (with_reducible exact (clash2 A9 A16).elim) | (with_reducible exact (clash2 A16 A7).elim) | (with_reducible exact (clash2 A7 A16).elim) | (with_reducible exact (clash2 A16 A5).elim) | (with_reducible exact (clash2 A5 A16).elim) | (with_reducible exact (clash2 A16 A4).elim) | (with_reducible exact (clash2 A4 A16).elim) | (with_reducible exact (clash2 A15 A13).elim) | (with_reducible exact (clash2 A13 A15).elim) | (with_reducible exact (clash2 A15 A12).elim) | (with_reducible exact (clash2 A12 A15).elim) | (with_reducible exact (clash2 A15 A11).elim) | (with_reducible exact (clash2 A11 A15).elim) | (with_reducible exact (clash2 A15 A9).elim) | (with_reducible exact (clash2 A9 A15).elim) | (with_reducible exact (clash2 A15 A7).elim) | (with_reducible exact (clash2 A7 A15).elim) | (with_reducible exact (clash2 A15 A5).elim) | (with_reducible exact (clash2 A5 A15).elim) | (with_reducible exact (clash2 A15 A4).elim) | (with_reducible exact (clash2 A4 A15).elim) | (with_reducible exact (clash2 A13 A12).elim) | (with_reducible exact (clash2 A12 A13).elim) | (with_reducible exact (clash2 A13 A11).elim) | (with_reducible exact (clash2 A11 A13).elim) | (with_reducible exact (clash2 A13 A9).elim) | (with_reducible exact (clash2 A9 A13).elim) | exact ⟨by first | rfl | (simp [errW_none, errW_some] <;> rfl) | (simp only [← hji8, ← hji10]; first | rfl | (simp [errW_none, errW_some] <;> rfl)) | (simp [*, errW_none, errW_some] <;> rfl), by repeat (first | (with_reducible first | exact HB.out | apply below_alloc | apply pw_below_drewN | apply below_drew1 | refine below_set ?_ GE210.out | refine below_set ?_ GE217.out | refine below_set ?_ GE221.out | refine below_set ?_ GE225.out) | exact HB.out)⟩
      · replace c18 := Bool.eq_false_iff.mpr c18
        subst c18
        have H1 : (none) = some r := by rw [if_neg (show ¬ (false = true) by decide)] at H; exact H
        clear H
        have H := H1
        clear H1
        exact absurd H (by simp)
    · replace c14 := Bool.eq_false_iff.mpr c14
      subst c14
      have H1 : (none) = some r := by rw [if_neg (show ¬ (false = true) by decide)] at H; exact H
      clear H
      have H := H1
      clear H1
      exact absurd H (by simp)
  · replace c6 := Bool.eq_false_iff.mpr c6
    subst c6
    have H1 : (some t205) = some r := by rw [if_neg (show ¬ (false = true) by decide)] at H; exact H
    clear H
    have H := H1
    clear H1
    obtain rfl := Option.some.inj H
    go_enter Try.func3, Try.ntmps3
    go_wp2_with (first | ((with_reducible refine gate_callee (f := 8) rfl ?_); refine goesL_ (some 12) rfl rfl Try.func8 (by kernel_rfl) rfl #[] rfl (by (try simp only [List.map_toArray, List.map_cons, List.map_nil]); first | done | rfl | (simp only [List.length_drop, List.length_take]; rfl)) ?_; (with_reducible refine (godwitlaw07_awake.calls k  t205 _ A4.out).mono ?_); rintro e w66 ⟨rfl, hb⟩; refine ⟨_, rfl, ?_⟩; have n0_ := Aside0.mk (below_step (by repeat (first | (with_reducible first | exact HB.out | apply below_alloc | apply pw_below_drewN | apply below_drew1) | exact HB.out)) hb); clear HB; have HB := n0_; clear n0_; (try clear hb); (try clear hb2); (try clear hk); (try clear hi)) | ((with_reducible refine gate_callee (f := 9) rfl ?_); refine goesL_ (some 15) rfl rfl Try.func9 (by kernel_rfl) rfl #[.agg #[.slice A0 l0.length c0]] rfl (by (try simp only [List.map_toArray, List.map_cons, List.map_nil]); first | done | rfl | (simp only [List.length_drop, List.length_take]; rfl)) ?_; (with_reducible refine (godwitref07_Few.calls k _ _ l0 false _ ?side1 ?side2 A5.out).mono ?_); (case side1 => repeat (first | exact (Kd.C_below HR0.out HB.out) | (with_reducible refine Kd.C_alloc ?_ _) | (with_reducible refine Kd.C_drewN ?_ _) | (with_reducible refine Kd.C_drew ?_))); (case side2 => exact HC0.out); rintro e w67 ⟨rfl, hb⟩; refine ⟨_, rfl, ?_⟩; have n0_ := Aside0.mk (below_step (by repeat (first | (with_reducible first | exact HB.out | apply below_alloc | apply pw_below_drewN | apply below_drew1) | exact HB.out)) hb); clear HB; have HB := n0_; clear n0_; (try clear hb); (try clear hb2); (try clear hk); (try clear hi)))
    go_ret
    first | (with_reducible exact (clash2 A5 A4).elim) | (with_reducible exact (clash2 A4 A5).elim) | exact ⟨by first | rfl | (simp [errW_none, errW_some] <;> rfl) | (simp [*, errW_none, errW_some] <;> rfl), by repeat (first | (with_reducible first | exact HB.out | apply below_alloc | apply pw_below_drewN | apply below_drew1) | exact HB.out)⟩

/-- THE ONE PURE STATEMENT of godwitlaw07_ChainTwice. -/
def godwitlaw07_ChainTwice.Pure : Prop := ∀ (l0 : List (S46)) (a1 : Int) (a2 : Int), (l0.length * 40 ≤ 140737488351232 ∧ ∀ y0_ ∈ l0, ((Lit.int .i64 y0_.f0).wf = true) ∧ (y0_.f1.length * 1 ≤ 140737488351232 ∧ ∀ y1_ ∈ y0_.f1, (Lit.int .u8 y1_).wf = true) ∧ (True)) → ((Lit.int .i64 a1).wf = true) → ((Lit.int .i64 a2).wf = true) → ∃ k, godwitlaw07_ChainTwice.f k l0 a1 a2 = some true

end Go.Proofs.Ytcinlddejdkjeaa.Q
