-- written by a turned copy of the kit's printer (wip/tools/patch_print.py over print.py); contracts of given functions are this session's own
import Derived.Test.YtpdfccncfkejiaaDoorQx0
import Derived.Test.YtpdfccncfkejiaaDoorQx16
namespace Go.Proofs.YtpdfccncfkejiaaDoor.Q
open Go.RowKit Go.Proofs.YtpdfccncfkejiaaDoorW.PrintWords Go.Proofs.YtpdfccncfkejiaaDoorW.PrintLast Go.Proofs.YtpdfccncfkejiaaDoorW.PrintMore Go.Proofs.YtpdfccncfkejiaaDoor.G
attribute [local go_sem] max2_int min2_int max_two min_two max_three min_three max_four min_four   -- for this text's walks alone
set_option linter.unusedVariables false
set_option linter.unusedSimpArgs false

/-! ### godwitref15_Sane: function 17 -/
mutual
def godwitref15_Sane.j0 : Nat → Bool → Int → Int → Option (Bool)
  | 0, _, _, _ => none
  | k + 1, x16, x213000, x213001 => if x16 = true then (some false) else (godwitref15_Sane.l0 k 0 x213000 x213001)
def godwitref15_Sane.l0 : Nat → Int → Int → Int → Option (Bool)
  | 0, _, _, _ => none
  | k + 1, x3, x213000, x213001 => if x3 < 64 then ((godwitref15_digit.f x213001 x3).bind fun t214 => (if t214 = true then (godwitref15_Sane.j2 k x3 (decide ((wrap64 (x213000 + x3)) ≥ 4294967296)) x213000 x213001) else (godwitref15_Sane.j2 k x3 false x213000 x213001))) else (some true)
def godwitref15_Sane.j2 : Nat → Int → Bool → Int → Int → Option (Bool)
  | 0, _, _, _, _ => none
  | k + 1, x3, x31, x213000, x213001 => if x31 = true then (some false) else (godwitref15_Sane.l0 k (wrap64 (x3 + 1)) x213000 x213001)
end
def godwitref15_Sane.f (k : Nat) (a0_0 : Int) (a0_1 : Int) : Option (Bool) := if a0_0 < 0 then (godwitref15_Sane.j0 k true a0_0 a0_1) else (if a0_0 > 4294967296 then (godwitref15_Sane.j0 k true a0_0 a0_1) else ((godwitref15_digit.f a0_1 0).bind fun t213 => (godwitref15_Sane.j0 k t213 a0_0 a0_1)))
theorem godwitref15_Sane.mono_l : ∀ k, (∀ y0 y1 y2, LeO (godwitref15_Sane.j0 k y0 y1 y2) (godwitref15_Sane.j0 (k + 1) y0 y1 y2)) ∧ (∀ y0 y1 y2, LeO (godwitref15_Sane.l0 k y0 y1 y2) (godwitref15_Sane.l0 (k + 1) y0 y1 y2)) ∧ (∀ y0 y1 y2 y3, LeO (godwitref15_Sane.j2 k y0 y1 y2 y3) (godwitref15_Sane.j2 (k + 1) y0 y1 y2 y3))
  | 0 => ⟨fun _ _ _ r h => by simp [godwitref15_Sane.j0] at h, fun _ _ _ r h => by simp [godwitref15_Sane.l0] at h, fun _ _ _ _ r h => by simp [godwitref15_Sane.j2] at h⟩
  | k + 1 => by
    obtain ⟨ih0, ih1, ih2⟩ := godwitref15_Sane.mono_l k
    refine ⟨?_, ?_, ?_⟩
    · intro y0 y1 y2
      unfold godwitref15_Sane.j0
      repeat' first
      | (with_reducible exact ih0 _ _ _)
      | (with_reducible exact ih1 _ _ _)
      | (with_reducible exact ih2 _ _ _ _)
      | (with_reducible exact LeO.refl _)
      | (with_reducible exact LeO.none _)
      | (with_reducible refine LeO.ite ?_ ?_)
      | (with_reducible refine LeO.bind ?_ (fun _ => ?_))
      | exact ih0 _ _ _
      | exact ih1 _ _ _
      | exact ih2 _ _ _ _
      | exact LeO.none _
      | refine LeO.ite ?_ ?_
      | refine LeO.bind ?_ (fun _ => ?_)
    · intro y0 y1 y2
      unfold godwitref15_Sane.l0
      repeat' first
      | (with_reducible exact ih0 _ _ _)
      | (with_reducible exact ih1 _ _ _)
      | (with_reducible exact ih2 _ _ _ _)
      | (with_reducible exact LeO.refl _)
      | (with_reducible exact LeO.none _)
      | (with_reducible refine LeO.ite ?_ ?_)
      | (with_reducible refine LeO.bind ?_ (fun _ => ?_))
      | exact ih0 _ _ _
      | exact ih1 _ _ _
      | exact ih2 _ _ _ _
      | exact LeO.none _
      | refine LeO.ite ?_ ?_
      | refine LeO.bind ?_ (fun _ => ?_)
    · intro y0 y1 y2 y3
      unfold godwitref15_Sane.j2
      repeat' first
      | (with_reducible exact ih0 _ _ _)
      | (with_reducible exact ih1 _ _ _)
      | (with_reducible exact ih2 _ _ _ _)
      | (with_reducible exact LeO.refl _)
      | (with_reducible exact LeO.none _)
      | (with_reducible refine LeO.ite ?_ ?_)
      | (with_reducible refine LeO.bind ?_ (fun _ => ?_))
      | exact ih0 _ _ _
      | exact ih1 _ _ _
      | exact ih2 _ _ _ _
      | exact LeO.none _
      | refine LeO.ite ?_ ?_
      | refine LeO.bind ?_ (fun _ => ?_)
theorem godwitref15_Sane.mono : ∀ a0 a1 k, LeO (godwitref15_Sane.f k a0 a1) (godwitref15_Sane.f (k + 1) a0 a1) := by
  intro a0 a1 k
  obtain ⟨ih0, ih1, ih2⟩ := godwitref15_Sane.mono_l k
  unfold godwitref15_Sane.f
  repeat' first
      | (with_reducible exact ih0 _ _ _)
      | (with_reducible exact ih1 _ _ _)
      | (with_reducible exact ih2 _ _ _ _)
      | (with_reducible exact LeO.refl _)
      | (with_reducible exact LeO.none _)
      | (with_reducible refine LeO.ite ?_ ?_)
      | (with_reducible refine LeO.bind ?_ (fun _ => ?_))
      | exact ih0 _ _ _
      | exact ih1 _ _ _
      | exact ih2 _ _ _ _
      | exact LeO.none _
      | refine LeO.ite ?_ ?_
      | refine LeO.bind ?_ (fun _ => ?_)
set_option maxHeartbeats 8000000 in
set_option maxRecDepth 100000 in
theorem godwitref15_Sane.calls (k : Nat) (a0_0 : Int) (a0_1 : Int) (r : Bool) (w : World) (h : godwitref15_Sane.f k a0_0 a0_1 = some r) :
    Calls Tryd.prog 17 #[.agg #[.int .i64 a0_0, .int .u64 a0_1]] w fun e w' => e = .returned (.bool r) ∧ Below w.heap.size w w' := by
  have hu37 := Tryd.underlying37
  have HB := Aside0.mk (Below.refl w.heap.size w)
  have H : (if a0_0 < 0 then (godwitref15_Sane.j0 k true a0_0 a0_1) else (if a0_0 > 4294967296 then (godwitref15_Sane.j0 k true a0_0 a0_1) else ((godwitref15_digit.f a0_1 0).bind fun t213 => (godwitref15_Sane.j0 k t213 a0_0 a0_1)))) = some r := h
  clear h
  have HC2 := Aside0.mk H
  clear H
  go_enter Tryd.func17, Tryd.ntmps17
  go_upto_region 1 with (first | ((with_reducible refine gate_dst (N := 1) rfl ?_); refine box_event ?hg (N := 1) ?hd (cs := #[.int .i64 a0_0, .int .u64 a0_1]) (t := 37) ?hr ?_; (case hd => rfl); (case hg => rfl); (case hr => first | (go_simp; done) | (go_simp; rfl)); intro gb212 hg w3 hbox hb; have n0_ := Aside0.mk (below_step (by repeat (first | (with_reducible first | exact HB.out | apply below_alloc | apply pw_below_drewN | apply below_drew1) | exact HB.out)) hb); have n1_ := Aside0.mk (hbox); have n2_ := Aside0.mk ((by rw [hg]; exact (below_size (by repeat (first | (with_reducible first | exact HB.out | apply below_alloc | apply pw_below_drewN | apply below_drew1) | exact HB.out))) : w.heap.size ≤ gb212)); have n3_ := Aside0.mk ((by rw [hg]; exact (below_size (by repeat (first | (with_reducible first | exact HB.out | apply below_alloc | apply pw_below_drewN | apply below_drew1) | exact HB.out))) : w.heap.size ≤ gb212)); clear HB; have HB := n0_; have BK212 := n1_; have GW212 := n2_; have GE212 := n3_; clear n0_ n1_ n2_ n3_; clear hb hbox hg))
  (try simp only [Act.put, List.setIfInBounds_toArray, List.set_cons_zero, List.set_cons_succ])
  go_cut [16] (fun v16 wc => ∃ (kq : Nat) (x16_1 : Bool), v16 = .bool x16_1 ∧ Aside0 (godwitref15_Sane.j0 kq x16_1 a0_0 a0_1 = some r) ∧ Aside0 (kq ≤ k) ∧ Aside0 (wc.heap[gb212]? = some (.cells #[.int .i64 a0_0, .int .u64 a0_1] 37 (0, 0))) ∧ Aside0 (Below w.heap.size w wc))
  case first =>
    have H := HC2.out
    clear HC2
    by_cases c4 : a0_0 < 0
    · rw [if_pos c4] at H
      have c4b0 : decide (a0_0 < 0) = true := decide_eq_true c4
      clear c4
      (first | rw [c4b0] | (simp only [i64_w, i32_w]; rw [c4b0]) | skip)
      have H' := Aside0.mk H
      clear H
      have hcz5_0 : w3.cell? ⟨gb212, 0, none⟩ = some (.int .i64 a0_0) := (blk_cell BK212.out 0).trans rfl
      have hcz5_1 : w3.cell? ⟨gb212, 1, none⟩ = some (.int .u64 a0_1) := (blk_cell BK212.out 1).trans rfl
      have hfz5_0 := blk_frozen BK212.out 0
      have hfz5_1 := blk_frozen BK212.out 1
      go_wp2
      go_meet
      case rel => exact ⟨_, (true), (by first | rfl | (simp; done) | (simp [*]; done)), H', ⟨by first | omega | exact Nat.le_refl _⟩, ⟨by (with_reducible repeat (first | refine blk_drewN ?_ _ | refine blk_drew ?_ | refine blk_alloc ?_ _)); exact BK212.out⟩, ⟨by repeat (first | (with_reducible first | exact HB.out | apply below_alloc | apply pw_below_drewN | apply below_drew1 | refine below_set ?_ GE212.out) | exact HB.out)⟩⟩
    · rw [if_neg c4] at H
      have c4b0 : decide (a0_0 < 0) = false := decide_eq_false c4
      clear c4
      (first | rw [c4b0] | (simp only [i64_w, i32_w]; rw [c4b0]) | skip)
      by_cases c6 : a0_0 > 4294967296
      · rw [if_pos c6] at H
        have c6b0 : decide (4294967296 < a0_0) = true := decide_eq_true c6
        clear c6
        have H' := Aside0.mk H
        clear H
        have hcz7_0 : w3.cell? ⟨gb212, 0, none⟩ = some (.int .i64 a0_0) := (blk_cell BK212.out 0).trans rfl
        have hcz7_1 : w3.cell? ⟨gb212, 1, none⟩ = some (.int .u64 a0_1) := (blk_cell BK212.out 1).trans rfl
        have hfz7_0 := blk_frozen BK212.out 0
        have hfz7_1 := blk_frozen BK212.out 1
        go_wp2
        go_meet
        case rel => exact ⟨_, (true), (by first | rfl | (simp; done) | (simp [*]; done)), H', ⟨by first | omega | exact Nat.le_refl _⟩, ⟨by (with_reducible repeat (first | refine blk_drewN ?_ _ | refine blk_drew ?_ | refine blk_alloc ?_ _)); exact BK212.out⟩, ⟨by repeat (first | (with_reducible first | exact HB.out | apply below_alloc | apply pw_below_drewN | apply below_drew1 | refine below_set ?_ GE212.out) | exact HB.out)⟩⟩
      · rw [if_neg c6] at H
        have c6b0 : decide (4294967296 < a0_0) = false := decide_eq_false c6
        clear c6
        replace H := Option.bind_eq_some_iff.mp H
        obtain ⟨t213, A80, H⟩ := H
        replace H : (godwitref15_Sane.j0 k t213 a0_0 a0_1) = some r := H
        have A8 := Aside0.mk A80
        clear A80
        have H' := Aside0.mk H
        clear H
        have hcz9_0 : w3.cell? ⟨gb212, 0, none⟩ = some (.int .i64 a0_0) := (blk_cell BK212.out 0).trans rfl
        have hcz9_1 : w3.cell? ⟨gb212, 1, none⟩ = some (.int .u64 a0_1) := (blk_cell BK212.out 1).trans rfl
        have hfz9_0 := blk_frozen BK212.out 0
        have hfz9_1 := blk_frozen BK212.out 1
        go_wp2_with (first | (go_at_call 26; (with_reducible refine (godwitref15_digit.calls a0_1 0 t213 _ A8.out).mono ?_); rintro e w' ⟨rfl, ⟨nd, rfl⟩⟩))
        go_meet
        case rel => exact ⟨_, (t213), (by first | rfl | (simp; done) | (simp [*]; done)), H', ⟨by first | omega | exact Nat.le_refl _⟩, ⟨by (with_reducible repeat (first | refine blk_drewN ?_ _ | refine blk_drew ?_ | refine blk_alloc ?_ _)); exact BK212.out⟩, ⟨by repeat (first | (with_reducible first | exact HB.out | apply below_alloc | apply pw_below_drewN | apply below_drew1 | refine below_set ?_ GE212.out) | exact HB.out)⟩⟩
  case rest =>
    clear HC2
    try clear c1
    try clear p2
    try clear c4
    try clear c4b0
    try clear c6
    try clear c6b0
    try clear hcz5_0
    try clear hcz5_1
    try clear hcz7_0
    try clear hcz7_1
    try clear hcz9_0
    try clear hcz9_1
    try clear hfz5_0
    try clear hfz5_1
    try clear hfz7_0
    try clear hfz7_1
    try clear hfz9_0
    try clear hfz9_1
    obtain ⟨kq, x16_1, rfl, HA, HJ1, BK212, HB⟩ := hcut
    cases kq with
    | zero => exact absurd HA.out (by simp [godwitref15_Sane.j0])
    | succ kj1 =>
      have H := HA.out
      clear HA
      simp only [godwitref15_Sane.j0] at H
      by_cases c10 : x16_1 = true
      · subst c10
        have H1 : (some false) = some r := by rw [if_pos rfl] at H; exact H
        clear H
        have H := H1
        clear H1
        obtain rfl := Option.some.inj H
        go_wp2
        go_ret
        exact ⟨by first | rfl | (simp [errW_none, errW_some] <;> rfl) | (simp [*, errW_none, errW_some] <;> rfl), by repeat (first | (with_reducible first | exact HB.out | apply below_alloc | apply pw_below_drewN | apply below_drew1 | refine below_set ?_ GE212.out) | exact HB.out)⟩
      · replace c10 := Bool.eq_false_iff.mpr c10
        subst c10
        have H1 : (godwitref15_Sane.l0 kj1 0 a0_0 a0_1) = some r := by rw [if_neg (show ¬ (false = true) by decide)] at H; exact H
        clear H
        have H := H1
        clear H1
        have H' := Aside0.mk H
        clear H
        go_wp2
        go_loopg [3] kj1 (fun kq v3 w' => ∃ (x3_2 : Int), v3 = .int .i64 x3_2 ∧ Aside0 (godwitref15_Sane.l0 kq x3_2 a0_0 a0_1 = some r) ∧ Aside0 (kq ≤ kj1) ∧ Aside0 (w'.heap[gb212]? = some (.cells #[.int .i64 a0_0, .int .u64 a0_1] 37 (0, 0))) ∧ Aside0 (Below w.heap.size w w'))
        case atStart => exact ⟨(0), (by first | rfl | (simp; done) | (simp [*]; done)), H', ⟨Nat.le_refl _⟩, ⟨by (with_reducible repeat (first | refine blk_drewN ?_ _ | refine blk_drew ?_ | refine blk_alloc ?_ _)); exact BK212.out⟩, ⟨by repeat (first | (with_reducible first | exact HB.out | apply below_alloc | apply pw_below_drewN | apply below_drew1 | refine below_set ?_ GE212.out) | exact HB.out)⟩⟩
        case round =>
          clear H'
          try clear c1
          try clear p2
          try clear c4
          try clear c4b0
          try clear c6
          try clear c6b0
          try clear c10
          try clear hcz5_0
          try clear hcz5_1
          try clear hcz7_0
          try clear hcz7_1
          try clear hcz9_0
          try clear hcz9_1
          try clear hfz5_0
          try clear hfz5_1
          try clear hfz7_0
          try clear hfz7_1
          try clear hfz9_0
          try clear hfz9_1
          try clear p2
          obtain ⟨x3_2, rfl, HA, HK2, BK212, HB⟩ := hrel
          cases gk with
          | zero => exact absurd HA.out (by simp [godwitref15_Sane.l0])
          | succ k2 =>
            have H := HA.out
            clear HA
            simp only [godwitref15_Sane.l0] at H
            by_cases c11 : x3_2 < 64
            · rw [if_pos c11] at H
              have c11b0 : decide (x3_2 < 64) = true := decide_eq_true c11
              clear c11
              have HC12 := Aside0.mk H
              clear H
              go_upto_region 6 with (fail)
              go_cut [31] (fun v31 wc => ∃ (kq : Nat) (x31_11 : Bool), v31 = .bool x31_11 ∧ Aside0 (godwitref15_Sane.j2 kq x3_2 x31_11 a0_0 a0_1 = some r) ∧ Aside0 (kq ≤ k2) ∧ Aside0 (wc.heap[gb212]? = some (.cells #[.int .i64 a0_0, .int .u64 a0_1] 37 (0, 0))) ∧ Aside0 (Below w.heap.size w wc))
              case first =>
                have H := HC12.out
                clear HC12
                replace H := Option.bind_eq_some_iff.mp H
                obtain ⟨t214, A130, H⟩ := H
                replace H : (if t214 = true then (godwitref15_Sane.j2 k2 x3_2 (decide ((wrap64 (a0_0 + x3_2)) ≥ 4294967296)) a0_0 a0_1) else (godwitref15_Sane.j2 k2 x3_2 false a0_0 a0_1)) = some r := H
                have A13 := Aside0.mk A130
                clear A130
                by_cases c14 : t214 = true
                · subst c14
                  have H1 : (godwitref15_Sane.j2 k2 x3_2 (decide ((wrap64 (a0_0 + x3_2)) ≥ 4294967296)) a0_0 a0_1) = some r := by rw [if_pos rfl] at H; exact H
                  clear H
                  have H := H1
                  clear H1
                  have H' := Aside0.mk H
                  clear H
                  have hcz15_0 : wr.cell? ⟨gb212, 0, none⟩ = some (.int .i64 a0_0) := (blk_cell BK212.out 0).trans rfl
                  have hcz15_1 : wr.cell? ⟨gb212, 1, none⟩ = some (.int .u64 a0_1) := (blk_cell BK212.out 1).trans rfl
                  have hfz15_0 := blk_frozen BK212.out 0
                  have hfz15_1 := blk_frozen BK212.out 1
                  go_wp2_with (first | ((with_reducible refine gate_callee (f := 26) rfl ?_); refine goesL_ (some 24) rfl rfl Tryd.func26 (by kernel_rfl) rfl #[.int .u64 a0_1, .int .i64 x3_2] rfl (by (try simp only [List.map_toArray, List.map_cons, List.map_nil]); first | done | rfl | (simp only [List.length_drop, List.length_take]; rfl)) ?_; (with_reducible refine (godwitref15_digit.calls a0_1 x3_2 true _ A13.out).mono ?_); rintro e w' ⟨rfl, ⟨nd, rfl⟩⟩; refine ⟨_, rfl, ?_⟩))
                  go_meet
                  case rel => exact ⟨_, (decide ((wrap64 (a0_0 + x3_2)) ≥ 4294967296)), (by first | rfl | (simp; done) | (simp [*]; done)), H', ⟨by have := HJ1.out; have := HK2.out; first | omega | exact Nat.le_refl _⟩, ⟨by (with_reducible repeat (first | refine blk_drewN ?_ _ | refine blk_drew ?_ | refine blk_alloc ?_ _)); exact BK212.out⟩, ⟨by repeat (first | (with_reducible first | exact HB.out | apply below_alloc | apply pw_below_drewN | apply below_drew1 | refine below_set ?_ GE212.out) | exact HB.out)⟩⟩
                · replace c14 := Bool.eq_false_iff.mpr c14
                  subst c14
                  have H1 : (godwitref15_Sane.j2 k2 x3_2 false a0_0 a0_1) = some r := by rw [if_neg (show ¬ (false = true) by decide)] at H; exact H
                  clear H
                  have H := H1
                  clear H1
                  have H' := Aside0.mk H
                  clear H
                  have hcz16_0 : wr.cell? ⟨gb212, 0, none⟩ = some (.int .i64 a0_0) := (blk_cell BK212.out 0).trans rfl
                  have hcz16_1 : wr.cell? ⟨gb212, 1, none⟩ = some (.int .u64 a0_1) := (blk_cell BK212.out 1).trans rfl
                  have hfz16_0 := blk_frozen BK212.out 0
                  have hfz16_1 := blk_frozen BK212.out 1
                  go_wp2_with (first | ((with_reducible refine gate_callee (f := 26) rfl ?_); refine goesL_ (some 24) rfl rfl Tryd.func26 (by kernel_rfl) rfl #[.int .u64 a0_1, .int .i64 x3_2] rfl (by (try simp only [List.map_toArray, List.map_cons, List.map_nil]); first | done | rfl | (simp only [List.length_drop, List.length_take]; rfl)) ?_; (with_reducible refine (godwitref15_digit.calls a0_1 x3_2 false _ A13.out).mono ?_); rintro e w' ⟨rfl, ⟨nd, rfl⟩⟩; refine ⟨_, rfl, ?_⟩))
                  go_meet
                  case rel => exact ⟨_, (false), (by first | rfl | (simp; done) | (simp [*]; done)), H', ⟨by have := HJ1.out; have := HK2.out; first | omega | exact Nat.le_refl _⟩, ⟨by (with_reducible repeat (first | refine blk_drewN ?_ _ | refine blk_drew ?_ | refine blk_alloc ?_ _)); exact BK212.out⟩, ⟨by repeat (first | (with_reducible first | exact HB.out | apply below_alloc | apply pw_below_drewN | apply below_drew1 | refine below_set ?_ GE212.out) | exact HB.out)⟩⟩
              case rest =>
                clear HC12
                try clear c1
                try clear c2
                try clear p2
                try clear c4
                try clear c4b0
                try clear c6
                try clear c6b0
                try clear p6
                try clear c10
                try clear c11
                try clear c11b0
                try clear c14
                try clear hcz15_0
                try clear hcz15_1
                try clear hcz16_0
                try clear hcz16_1
                try clear hcz5_0
                try clear hcz5_1
                try clear hcz7_0
                try clear hcz7_1
                try clear hcz9_0
                try clear hcz9_1
                try clear hfz15_0
                try clear hfz15_1
                try clear hfz16_0
                try clear hfz16_1
                try clear hfz5_0
                try clear hfz5_1
                try clear hfz7_0
                try clear hfz7_1
                try clear hfz9_0
                try clear hfz9_1
                try clear p2
                obtain ⟨kq, x31_11, rfl, HA, HJ11, BK212, HB⟩ := hcut
                cases kq with
                | zero => exact absurd HA.out (by simp [godwitref15_Sane.j2])
                | succ kj11 =>
                  have H := HA.out
                  clear HA
                  simp only [godwitref15_Sane.j2] at H
                  by_cases c17 : x31_11 = true
                  · subst c17
                    have H1 : (some false) = some r := by rw [if_pos rfl] at H; exact H
                    clear H
                    have H := H1
                    clear H1
                    obtain rfl := Option.some.inj H
                    go_wp2
                    go_ret
                    exact ⟨by first | rfl | (simp [errW_none, errW_some] <;> rfl) | (simp [*, errW_none, errW_some] <;> rfl), by repeat (first | (with_reducible first | exact HB.out | apply below_alloc | apply pw_below_drewN | apply below_drew1 | refine below_set ?_ GE212.out) | exact HB.out)⟩
                  · replace c17 := Bool.eq_false_iff.mpr c17
                    subst c17
                    have H1 : (godwitref15_Sane.l0 kj11 (wrap64 (x3_2 + 1)) a0_0 a0_1) = some r := by rw [if_neg (show ¬ (false = true) by decide)] at H; exact H
                    clear H
                    have H := H1
                    clear H1
                    have H' := Aside0.mk H
                    clear H
                    go_wp2
                    go_roundg kj11
                    case measure => have := HJ1.out; have := HK2.out; have := HJ11.out; omega
                    case rel => exact ⟨(wrap64 (x3_2 + 1)), (by first | rfl | (simp; done) | (simp [*]; done)), H', ⟨by have := HJ1.out; have := HK2.out; have := HJ11.out; omega⟩, ⟨by (with_reducible repeat (first | refine blk_drewN ?_ _ | refine blk_drew ?_ | refine blk_alloc ?_ _)); exact BK212.out⟩, ⟨by repeat (first | (with_reducible first | exact HB.out | apply below_alloc | apply pw_below_drewN | apply below_drew1 | refine below_set ?_ GE212.out) | exact HB.out)⟩⟩
            · rw [if_neg c11] at H
              have c11b0 : decide (x3_2 < 64) = false := decide_eq_false c11
              clear c11
              obtain rfl := Option.some.inj H
              go_wp2
              go_ret
              exact ⟨by first | rfl | (simp [errW_none, errW_some] <;> rfl) | (simp [*, errW_none, errW_some] <;> rfl), by repeat (first | (with_reducible first | exact HB.out | apply below_alloc | apply pw_below_drewN | apply below_drew1 | refine below_set ?_ GE212.out) | exact HB.out)⟩

end Go.Proofs.YtpdfccncfkejiaaDoor.Q
