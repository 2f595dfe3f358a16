-- written by a turned copy of the kit's printer (wip/tools/patch_print.py over print.py); contracts of given functions are this session's own
import Derived.Test.YtcinlddejdkjeaaQx0
import Derived.Test.YtcinlddejdkjeaaQx1
import Derived.Test.YtcinlddejdkjeaaQx5
import Derived.Test.YtcinlddejdkjeaaQx6
namespace Go.Proofs.Ytcinlddejdkjeaa.Q
open Go.RowKit Go.Proofs.YtcinlddejdkjeaaW.PrintWords Go.Proofs.YtcinlddejdkjeaaW.PrintLast Go.Proofs.YtcinlddejdkjeaaW.PrintMore Go.Proofs.Ytcinlddejdkjeaa.G
attribute [local go_sem] max2_int min2_int max_two min_two max_three min_three max_four min_four   -- for this text's walks alone
set_option linter.unusedVariables false
set_option linter.unusedSimpArgs false

/-! ### chain_Vacuum: function 11 -/
def chain_Vacuum.j0 : Nat → Int → Bool → List (S37) → Option ((List (S37)))
  | 0, _, _, _ => none
  | k + 1, x5, x15, x174000 => if x15 = true then (some x174000) else (if 0 ≤ x5 then (if x5 < (x174000.length : Int) then (if (rd_T37 x174000 x5).f2 = true then (if 0 ≤ (wrap64 (x5 + 1)) then (if (wrap64 (x5 + 1)) ≤ (x174000.length : Int) then ((chain_Ver.f (x174000.drop ((wrap64 (x5 + 1)) : Int).toNat)).bind fun t183 => (some t183)) else (none)) else (none)) else (if x5 ≤ (x174000.length : Int) then ((chain_Ver.f (x174000.drop (x5 : Int).toNat)).bind fun t191 => (some t191)) else (none))) else (none)) else (none))
def chain_Vacuum.f (k : Nat) (l0_0 : List (S37)) (a1 : Int) : Option ((List (S37))) := (chain_place.f l0_0 a1).bind fun t175 => (if t175 < 0 then (chain_Vacuum.j0 k t175 true l0_0) else ((chain_Sane.f k l0_0).bind fun t176 => (chain_Vacuum.j0 k t175 (!t176) l0_0)))
theorem chain_Vacuum.mono_l : ∀ k, (∀ y0 y1 y2, LeO (chain_Vacuum.j0 k y0 y1 y2) (chain_Vacuum.j0 (k + 1) y0 y1 y2))
  | 0 => fun _ _ _ r h => by simp [chain_Vacuum.j0] at h
  | k + 1 => by
    have ih0 := chain_Vacuum.mono_l k
    · intro y0 y1 y2
      unfold chain_Vacuum.j0
      repeat' first
      | (with_reducible exact ih0 _ _ _)
      | (with_reducible exact chain_Sane.mono _ _)
      | (with_reducible exact LeO.refl _)
      | (with_reducible exact LeO.none _)
      | (with_reducible refine LeO.ite ?_ ?_)
      | (with_reducible refine LeO.bind ?_ (fun _ => ?_))
      | exact ih0 _ _ _
      | exact chain_Sane.mono _ _
      | exact LeO.none _
      | refine LeO.ite ?_ ?_
      | refine LeO.bind ?_ (fun _ => ?_)
theorem chain_Vacuum.mono : ∀ a0 a1 k, LeO (chain_Vacuum.f k a0 a1) (chain_Vacuum.f (k + 1) a0 a1) := by
  intro a0 a1 k
  have ih0 := chain_Vacuum.mono_l k
  unfold chain_Vacuum.f
  repeat' first
      | (with_reducible exact ih0 _ _ _)
      | (with_reducible exact chain_Sane.mono _ _)
      | (with_reducible exact LeO.refl _)
      | (with_reducible exact LeO.none _)
      | (with_reducible refine LeO.ite ?_ ?_)
      | (with_reducible refine LeO.bind ?_ (fun _ => ?_))
      | exact ih0 _ _ _
      | exact chain_Sane.mono _ _
      | exact LeO.none _
      | refine LeO.ite ?_ ?_
      | refine LeO.bind ?_ (fun _ => ?_)
set_option maxHeartbeats 8000000 in
set_option maxRecDepth 100000 in
theorem chain_Vacuum.calls (k : Nat) (P0_0_ : Nat → Prop) (A0_0 : Option Addr) (c0_0 : Nat) (l0_0 : List (S37)) (a1 : Int) (r : List (S37)) (w : World) (hs0_0 : Kd.V k37 37 w w.heap.size (fun k_ => P0_0_ k_) (.slice A0_0 l0_0.length c0_0) l0_0) (h : chain_Vacuum.f k l0_0 a1 = some r) :
    Calls Try.prog 11 #[.agg #[.slice A0_0 l0_0.length c0_0], .int .i64 a1] w fun e w' => ∃ v0_ : Value, e = .returned (.agg #[v0_]) ∧ Kd.V k37 37 w' w.heap.size (fun k_ => (P0_0_ k_ ∨ w.heap.size ≤ k_)) v0_ r ∧ Below w.heap.size w w' := by
  have hu29 := Try.underlying29
  have HO0_0 := Aside0.mk (show Kd.V k37 37 w w.heap.size (fun k_ => (P0_0_ k_ ∨ w.heap.size ≤ k_)) (.slice A0_0 l0_0.length c0_0) l0_0 from Kd.V_mono hs0_0 (fun k_ hk => .inl hk))
  have HB := Aside0.mk (Below.refl w.heap.size w)
  have H : ((chain_place.f l0_0 a1).bind fun t175 => (if t175 < 0 then (chain_Vacuum.j0 k t175 true l0_0) else ((chain_Sane.f k l0_0).bind fun t176 => (chain_Vacuum.j0 k t175 (!t176) l0_0)))) = some r := h
  clear h
  replace H := Option.bind_eq_some_iff.mp H
  obtain ⟨t175, A30, H⟩ := H
  replace H : (if t175 < 0 then (chain_Vacuum.j0 k t175 true l0_0) else ((chain_Sane.f k l0_0).bind fun t176 => (chain_Vacuum.j0 k t175 (!t176) l0_0))) = some r := H
  have A3 := Aside0.mk A30
  clear A30
  have HC4 := Aside0.mk H
  clear H
  go_enter Try.func11, Try.ntmps11
  go_upto_region 2 with (first | ((with_reducible refine gate_dst (N := 2) rfl ?_); refine box_event ?hg (N := 2) ?hd (cs := #[.slice A0_0 l0_0.length c0_0]) (t := 29) ?hr ?_; (case hd => rfl); (case hg => rfl); (case hr => first | (go_simp; done) | (go_simp; rfl)); intro gb173 hg w5 hbox hb; have n0_ := Aside0.mk (Kd.V_below (Kd.V_elderB (by (with_reducible repeat (first | apply Kd.V_alloc | apply Kd.V_drewN | apply Kd.V_drew)); exact HO0_0.out) gb173 (Nat.le_of_eq hg.symm)) hb); have n1_ := Aside0.mk (below_step (by repeat (first | (with_reducible first | exact HB.out | apply below_alloc | apply pw_below_drewN | apply below_drew1) | exact HB.out)) hb); have n2_ := Aside0.mk (hbox); have n3_ := Aside0.mk ((by rw [hg]; exact (below_size (by repeat (first | (with_reducible first | exact HB.out | apply below_alloc | apply pw_below_drewN | apply below_drew1) | exact HB.out))) : w.heap.size ≤ gb173)); have n4_ := Aside0.mk ((by rw [hg]; exact (below_size (by repeat (first | (with_reducible first | exact HB.out | apply below_alloc | apply pw_below_drewN | apply below_drew1) | exact HB.out))) : w.heap.size ≤ gb173)); clear HO0_0; clear HB; have HO0_0 := n0_; have HB := n1_; have BK173 := n2_; have GW173 := n3_; have GE173 := n4_; clear n0_ n1_ n2_ n3_ n4_; clear hb hbox hg) | ((with_reducible refine gate_dst (N := 4) rfl ?_); refine box_event ?hg (N := 4) ?hd (cs := #[.slice none 0 0]) (t := 29) ?hr ?_; (case hd => rfl); (case hg => rfl); (case hr => first | (go_simp; done) | (go_simp; rfl)); intro gb174 hg w6 hbox hb; have n0_ := Aside0.mk (Kd.V_below (Kd.V_elderB (by (with_reducible repeat (first | apply Kd.V_alloc | apply Kd.V_drewN | apply Kd.V_drew)); exact HO0_0.out) gb174 (Nat.le_of_eq hg.symm)) hb); have n1_ := Aside0.mk (blk_below (g := gb173) (o := .cells #[.slice A0_0 l0_0.length c0_0] 29 (0, 0)) (by (with_reducible repeat (first | refine blk_drewN ?_ _ | refine blk_drew ?_ | refine blk_alloc ?_ _)); exact BK173.out) hb); have n2_ := Aside0.mk (below_step (by repeat (first | (with_reducible first | exact HB.out | apply below_alloc | apply pw_below_drewN | apply below_drew1 | refine below_set ?_ GE173.out) | exact HB.out)) hb); have n3_ := Aside0.mk (hbox); have n4_ := Aside0.mk ((by rw [hg]; exact (below_size (by repeat (first | (with_reducible first | exact HB.out | apply below_alloc | apply pw_below_drewN | apply below_drew1 | refine below_set ?_ GE173.out) | exact HB.out))) : w.heap.size ≤ gb174)); have n5_ := Aside0.mk ((by rw [hg]; exact (below_size (by repeat (first | (with_reducible first | exact HB.out | apply below_alloc | apply pw_below_drewN | apply below_drew1 | refine below_set ?_ GE173.out) | exact HB.out))) : w.heap.size ≤ gb174)); have n6_ := Aside0.mk ((by rw [hg]; exact Nat.ne_of_lt (blk_lt (g := gb173) (o := .cells #[.slice A0_0 l0_0.length c0_0] 29 (0, 0)) (by (with_reducible repeat (first | refine blk_drewN ?_ _ | refine blk_drew ?_ | refine blk_alloc ?_ _)); exact BK173.out)) : gb173 ≠ gb174)); have n7_ := Aside0.mk ((by rw [hg]; exact Nat.ne_of_gt (blk_lt (g := gb173) (o := .cells #[.slice A0_0 l0_0.length c0_0] 29 (0, 0)) (by (with_reducible repeat (first | refine blk_drewN ?_ _ | refine blk_drew ?_ | refine blk_alloc ?_ _)); exact BK173.out)) : gb174 ≠ gb173)); clear HO0_0; clear BK173; clear HB; have HO0_0 := n0_; have BK173 := n1_; have HB := n2_; have BK174 := n3_; have GW174 := n4_; have GE174 := n5_; have NB173_174 := n6_; have NB174_173 := n7_; clear n0_ n1_ n2_ n3_ n4_ n5_ n6_ n7_; clear hb hbox hg; have hnb7 := NB173_174.out; have hnc7 := NB174_173.out; have hcz8_0 : w6.cell? ⟨gb173, 0, none⟩ = some (.slice A0_0 l0_0.length c0_0) := (blk_cell BK173.out 0).trans rfl; have hfz8_0 := blk_frozen BK173.out 0) | ((with_reducible refine gate_callee (f := 29) rfl ?_); refine goesL_ (some 8) rfl rfl Try.func29 (by kernel_rfl) rfl #[.agg #[.slice A0_0 l0_0.length c0_0], .int .i64 a1] rfl (by (try simp only [List.map_toArray, List.map_cons, List.map_nil]); first | done | rfl | (simp only [List.length_drop, List.length_take]; rfl)) ?_; (with_reducible refine (chain_place.calls _ _ l0_0 a1 t175 _ ?side1 ?side2 A3.out).mono ?_); (case side1 => repeat (first | exact (Kd.V_reads' HO0_0.out).2.2 | (with_reducible refine Kd.C_alloc ?_ _) | (with_reducible refine Kd.C_drewN ?_ _) | (with_reducible refine Kd.C_drew ?_))); (case side2 => exact (Kd.V_reads' HO0_0.out).2.1); rintro e w9 ⟨rfl, hb⟩; refine ⟨_, rfl, ?_⟩; have n0_ := Aside0.mk (Kd.V_below (by (with_reducible repeat (first | apply Kd.V_alloc | apply Kd.V_drewN | apply Kd.V_drew)); exact HO0_0.out) hb); have n1_ := Aside0.mk (blk_below (g := gb173) (o := .cells #[.slice A0_0 l0_0.length c0_0] 29 (0, 0)) (by (with_reducible repeat (first | refine blk_drewN ?_ _ | refine blk_drew ?_ | refine blk_alloc ?_ _)); exact BK173.out) hb); have n2_ := Aside0.mk (blk_below (g := gb174) (o := .cells #[.slice none 0 0] 29 (0, 0)) (by (with_reducible repeat (first | refine blk_drewN ?_ _ | refine blk_drew ?_ | refine blk_alloc ?_ _)); exact BK174.out) hb); have n3_ := Aside0.mk (below_step (by repeat (first | (with_reducible first | exact HB.out | apply below_alloc | apply pw_below_drewN | apply below_drew1 | refine below_set ?_ GE173.out | refine below_set ?_ GE174.out) | exact HB.out)) hb); clear HO0_0; clear BK173; clear BK174; clear HB; have HO0_0 := n0_; have BK173 := n1_; have BK174 := n2_; have HB := n3_; clear n0_ n1_ n2_ n3_; (try clear hb); (try clear hb2); (try clear hk); (try clear hi)))
  (try simp only [Act.put, List.setIfInBounds_toArray, List.set_cons_zero, List.set_cons_succ])
  go_cut [15] (fun v15 wc => ∃ (kq : Nat) (x15_3 : Bool), v15 = .bool x15_3 ∧ Aside0 (chain_Vacuum.j0 kq t175 x15_3 l0_0 = some r) ∧ Aside0 (kq ≤ k) ∧ Aside0 (Kd.V k37 37 wc w.heap.size (fun k_ => (P0_0_ k_ ∨ w.heap.size ≤ k_) ∧ k_ ≠ gb173 ∧ k_ ≠ gb174) (.slice A0_0 l0_0.length c0_0) l0_0) ∧ Aside0 (wc.heap[gb173]? = some (.cells #[(.slice A0_0 l0_0.length c0_0)] 29 (0, 0))) ∧ Aside0 (wc.heap[gb174]? = some (.cells #[(.slice none 0 0)] 29 (0, 0))) ∧ Aside0 (Below w.heap.size w wc))
  case first =>
    have H := HC4.out
    clear HC4
    by_cases c10 : t175 < 0
    · rw [if_pos c10] at H
      have c10b0 : decide (t175 < 0) = true := decide_eq_true c10
      clear c10
      (first | rw [c10b0] | (simp only [i64_w, i32_w]; rw [c10b0]) | skip)
      have H' := Aside0.mk H
      clear H
      go_wp2
      go_meet
      case rel => exact ⟨_, (true), (by first | rfl | (simp; done) | (simp [*]; done)), H', ⟨by first | omega | exact Nat.le_refl _⟩, ⟨by (with_reducible repeat (first | apply Kd.V_alloc | apply Kd.V_drewN | apply Kd.V_drew)); exact Kd.V_mono HO0_0.out (fun _ hk => ⟨hk.1.1, ⟨hk.1.2, hk.2⟩⟩)⟩, ⟨by (with_reducible repeat (first | refine blk_drewN ?_ _ | refine blk_drew ?_ | refine blk_alloc ?_ _)); exact BK173.out⟩, ⟨by (with_reducible repeat (first | refine blk_drewN ?_ _ | refine blk_drew ?_ | refine blk_alloc ?_ _)); exact BK174.out⟩, ⟨by repeat (first | (with_reducible first | exact HB.out | apply below_alloc | apply pw_below_drewN | apply below_drew1 | refine below_set ?_ GE173.out | refine below_set ?_ GE174.out) | exact HB.out)⟩⟩
    · rw [if_neg c10] at H
      have c10b0 : decide (t175 < 0) = false := decide_eq_false c10
      clear c10
      (first | rw [c10b0] | (simp only [i64_w, i32_w]; rw [c10b0]) | skip)
      replace H := Option.bind_eq_some_iff.mp H
      obtain ⟨t176, A110, H⟩ := H
      replace H : (chain_Vacuum.j0 k t175 (!t176) l0_0) = some r := H
      have A11 := Aside0.mk A110
      clear A110
      have H' := Aside0.mk H
      clear H
      have hnb12 := NB173_174.out
      have hnc12 := NB174_173.out
      have hcz13_0 : w9.cell? ⟨gb173, 0, none⟩ = some (.slice A0_0 l0_0.length c0_0) := (blk_cell BK173.out 0).trans rfl
      have hfz13_0 := blk_frozen BK173.out 0
      go_wp2_with (first | (go_at_call 24; (with_reducible refine (chain_Sane.calls k _ _ l0_0 t176 _ ?side1 ?side2 A11.out).mono ?_); (case side1 => repeat (first | exact (Kd.V_reads' HO0_0.out).2.2 | (with_reducible refine Kd.C_alloc ?_ _) | (with_reducible refine Kd.C_drewN ?_ _) | (with_reducible refine Kd.C_drew ?_))); (case side2 => exact (Kd.V_reads' HO0_0.out).2.1); rintro e w14 ⟨rfl, hb⟩; have n0_ := Aside0.mk (Kd.V_below (by (with_reducible repeat (first | apply Kd.V_alloc | apply Kd.V_drewN | apply Kd.V_drew)); exact HO0_0.out) hb); have n1_ := Aside0.mk (blk_below (g := gb173) (o := .cells #[.slice A0_0 l0_0.length c0_0] 29 (0, 0)) (by (with_reducible repeat (first | refine blk_drewN ?_ _ | refine blk_drew ?_ | refine blk_alloc ?_ _)); exact BK173.out) hb); have n2_ := Aside0.mk (blk_below (g := gb174) (o := .cells #[.slice none 0 0] 29 (0, 0)) (by (with_reducible repeat (first | refine blk_drewN ?_ _ | refine blk_drew ?_ | refine blk_alloc ?_ _)); exact BK174.out) hb); have n3_ := Aside0.mk (below_step (by repeat (first | (with_reducible first | exact HB.out | apply below_alloc | apply pw_below_drewN | apply below_drew1 | refine below_set ?_ GE173.out | refine below_set ?_ GE174.out) | exact HB.out)) hb); clear HO0_0; clear BK173; clear BK174; clear HB; have HO0_0 := n0_; have BK173 := n1_; have BK174 := n2_; have HB := n3_; clear n0_ n1_ n2_ n3_; (try clear hb); (try clear hb2); (try clear hk); (try clear hi)))
      go_meet
      case rel => exact ⟨_, (!t176), (by first | rfl | (simp; done) | (simp [*]; done)), H', ⟨by first | omega | exact Nat.le_refl _⟩, ⟨by (with_reducible repeat (first | apply Kd.V_alloc | apply Kd.V_drewN | apply Kd.V_drew)); exact Kd.V_mono HO0_0.out (fun _ hk => ⟨hk.1.1, ⟨hk.1.2, hk.2⟩⟩)⟩, ⟨by (with_reducible repeat (first | refine blk_drewN ?_ _ | refine blk_drew ?_ | refine blk_alloc ?_ _)); exact BK173.out⟩, ⟨by (with_reducible repeat (first | refine blk_drewN ?_ _ | refine blk_drew ?_ | refine blk_alloc ?_ _)); exact BK174.out⟩, ⟨by repeat (first | (with_reducible first | exact HB.out | apply below_alloc | apply pw_below_drewN | apply below_drew1 | refine below_set ?_ GE173.out | refine below_set ?_ GE174.out) | exact HB.out)⟩⟩
  case rest =>
    clear HC4
    try clear c1
    try clear c2
    try clear p2
    try clear c7
    try clear c10
    try clear c10b0
    try clear c11
    try clear c12
    try clear hcz13_0
    try clear hcz8_0
    try clear hfz13_0
    try clear hfz8_0
    obtain ⟨kq, x15_3, rfl, HA, HJ3, HO_174000, BK173, BK174, HB⟩ := hcut
    cases kq with
    | zero => exact absurd HA.out (by simp [chain_Vacuum.j0])
    | succ kj3 =>
      have H := HA.out
      clear HA
      simp only [chain_Vacuum.j0] at H
      by_cases c15 : x15_3 = true
      · subst c15
        have H1 : (some l0_0) = some r := by rw [if_pos rfl] at H; exact H
        clear H
        have H := H1
        clear H1
        obtain rfl := Option.some.inj H
        have hnb16 := NB173_174.out
        have hnc16 := NB174_173.out
        have hcz17_0 : wc.cell? ⟨gb173, 0, none⟩ = some (.slice A0_0 l0_0.length c0_0) := (blk_cell BK173.out 0).trans rfl
        have hfz17_0 := blk_frozen BK173.out 0
        have hcz18_0 : wc.cell? ⟨gb174, 0, none⟩ = some (.slice none 0 0) := (blk_cell BK174.out 0).trans rfl
        have hfz18_0 := blk_frozen BK174.out 0
        go_wp2
        refine bodyPost_ret (results_cell_row rfl _ _ gb174 29 #[.slice A0_0 l0_0.length c0_0] (0, 0) _ rfl (by (with_reducible repeat (first | refine blk_drewN ?_ _ | refine blk_drew ?_ | refine blk_alloc ?_ _)); refine blk_put (cs := #[.slice none 0 0]) ?_ 0 _ rfl; (with_reducible repeat (first | refine blk_drewN ?_ _ | refine blk_drew ?_ | refine blk_alloc ?_ _)); exact BK174.out) Try.underlying29 rfl (by kernel_rfl)) rfl ?_
        exact ⟨_, by first | rfl | (simp [errW_none, errW_some] <;> rfl) | (simp [*, errW_none, errW_some] <;> rfl), by (with_reducible repeat (first | apply Kd.V_alloc | apply Kd.V_drewN | apply Kd.V_drew)); exact Kd.V_mono (Kd.V_far (p := ⟨gb174, 0, none⟩) (Kd.V_mono HO_174000.out (fun k_ hk => (⟨hk, hk.2.2⟩ : _ ∧ k_ ≠ gb174))) (fun _ hk => hk.2) (.slice A0_0 l0_0.length c0_0)) (fun _ hk => hk.1.1), by repeat (first | (with_reducible first | exact HB.out | apply below_alloc | apply pw_below_drewN | apply below_drew1 | refine below_set ?_ GE173.out | refine below_set ?_ GE174.out) | exact HB.out)⟩
      · replace c15 := Bool.eq_false_iff.mpr c15
        subst c15
        have H1 : (if 0 ≤ t175 then (if t175 < (l0_0.length : Int) then (if (rd_T37 l0_0 t175).f2 = true then (if 0 ≤ (wrap64 (t175 + 1)) then (if (wrap64 (t175 + 1)) ≤ (l0_0.length : Int) then ((chain_Ver.f (l0_0.drop ((wrap64 (t175 + 1)) : Int).toNat)).bind fun t183 => (some t183)) else (none)) else (none)) else (if t175 ≤ (l0_0.length : Int) then ((chain_Ver.f (l0_0.drop (t175 : Int).toNat)).bind fun t191 => (some t191)) else (none))) else (none)) else (none)) = some r := by rw [if_neg (show ¬ (false = true) by decide)] at H; exact H
        clear H
        have H := H1
        clear H1
        by_cases c19 : 0 ≤ t175
        · rw [if_pos c19] at H
          have c19b0 : decide (0 ≤ t175) = true := decide_eq_true c19
          clear c19
          by_cases c20 : t175 < (l0_0.length : Int)
          · rw [if_pos c20] at H
            have c20b0 : decide (t175 < (l0_0.length : Int)) = true := decide_eq_true c20
            clear c20
            obtain ⟨bq21, hbq21⟩ : ∃ b_ : Bool, b_ = ((rd_T37 l0_0 t175).f2) := ⟨_, rfl⟩
            replace H : (if bq21 = true then (if 0 ≤ (wrap64 (t175 + 1)) then (if (wrap64 (t175 + 1)) ≤ (l0_0.length : Int) then ((chain_Ver.f (l0_0.drop ((wrap64 (t175 + 1)) : Int).toNat)).bind fun t183 => (some t183)) else (none)) else (none)) else (if t175 ≤ (l0_0.length : Int) then ((chain_Ver.f (l0_0.drop (t175 : Int).toNat)).bind fun t191 => (some t191)) else (none))) = some r := by rw [← hbq21] at H; exact H
            have Nbq21 := Aside0.mk hbq21
            clear hbq21
            by_cases c22 : bq21 = true
            · subst c22
              have H1 : (if 0 ≤ (wrap64 (t175 + 1)) then (if (wrap64 (t175 + 1)) ≤ (l0_0.length : Int) then ((chain_Ver.f (l0_0.drop ((wrap64 (t175 + 1)) : Int).toNat)).bind fun t183 => (some t183)) else (none)) else (none)) = some r := by rw [if_pos rfl] at H; exact H
              clear H
              have H := H1
              clear H1
              obtain ⟨ji23, hji23⟩ : ∃ j_ : Int, (wrap64 (t175 + 1)) = j_ := ⟨_, rfl⟩
              replace H : (if 0 ≤ (ji23) then (if (ji23) ≤ (l0_0.length : Int) then ((chain_Ver.f (l0_0.drop ((ji23) : Int).toNat)).bind fun t183 => (some t183)) else (none)) else (none)) = some r := by first | (rw [hji23] at H; exact H) | (simp only [hji23] at H ⊢; exact H)
              have hji23w : (IntKind.i64.wrap (t175 + 1)) = ji23 := (i64_w _).trans hji23
              by_cases c24 : 0 ≤ (ji23)
              · rw [if_pos c24] at H
                have c24b0 := eq_true c24
                have c24b1 : decide (0 ≤ (ji23)) = true := decide_eq_true c24
                clear c24
                by_cases c25 : (ji23) ≤ (l0_0.length : Int)
                · rw [if_pos c25] at H
                  have c25b0 := eq_true c25
                  have c25b1 : decide ((ji23) ≤ (l0_0.length : Int)) = true := decide_eq_true c25
                  clear c25
                  obtain ⟨y178, hy178⟩ : ∃ y_ : List (S37), y_ = (l0_0.drop ((ji23) : Int).toNat) := ⟨_, rfl⟩
                  replace H : ((chain_Ver.f y178).bind fun t183 => (some t183)) = some r := by first | (rw [hy178]; with_reducible exact H) | (have H2_ := (Option.bind_some _ _).symm.trans H; rw [hy178]; with_reducible exact H2_) | (have H2_ := (Option.bind_some _ _).symm.trans H; with_reducible exact H2_) | with_reducible exact H | (rw [hy178]; exact H) | exact H
                  have Ny178 := Aside0.mk hy178
                  clear hy178
                  replace H := Option.bind_eq_some_iff.mp H
                  obtain ⟨t183, A260, H⟩ := H
                  replace H : (some t183) = some r := H
                  have A26 := Aside0.mk A260
                  clear A260
                  obtain rfl := Option.some.inj H
                  have hnb27 := NB173_174.out
                  have hnc27 := NB174_173.out
                  have hcz28_0 : wc.cell? ⟨gb173, 0, none⟩ = some (.slice A0_0 l0_0.length c0_0) := (blk_cell BK173.out 0).trans rfl
                  have hfz28_0 := blk_frozen BK173.out 0
                  have p177 : 0 ≤ (t175 : Int) := of_decide_eq_true (by first | (with_reducible assumption) | assumption)
                  have q177 : t175 < (l0_0.length : Int) := of_decide_eq_true (by first | (with_reducible assumption) | assumption)
                  obtain ⟨ad177, A177_1, c177_1, e177, hx177_0, hx177_1, hx177_2, hl177_1, hi177_1⟩ := at_T37 (Kd.V_reads' HO_174000.out).2.2 t175 p177 q177
                  (try rw [← Nbq21.out] at hx177_2)
                  cases e177
                  obtain ⟨ce177, hce177, hMe177, hcc177⟩ := Kd.V_get HO_174000.out z37 t175 p177 (by first | exact q177 | exact of_decide_eq_true (by first | (with_reducible assumption) | assumption) | (have e_ := (Kd.V_reads' HO_174000.out).1; omega))
                  obtain ⟨ua177_1, uc177_1, rfl, ul177_1, ge177_1⟩ := k37_openF hMe177
                  have hv177_1 := hcc177 1 _ rfl
                  rw [add_field _ _ 1 (by omega)] at hv177_1
                  replace hv177_1 := Option.some.inj (hv177_1.symm.trans hx177_1)
                  injection hv177_1 with hva_ hvn_ hvc_
                  rw [hva_] at ge177_1
                  rw [hvc_] at ul177_1
                  have HL177_1 := Aside0.mk (show Kd.V (Kd.int .u8) 5 _ w.heap.size _ _ ((rd_T37 l0_0 t175).f1) from Kd.V_mk ul177_1 ge177_1)
                  clear hva_ hvn_ hvc_ ge177_1 ul177_1
                  clear hcc177 hce177
                  have HR177_1 := Aside0.mk hi177_1
                  have HC177_1 := Aside0.mk hl177_1
                  clear hi177_1 hl177_1
                  replace p177 := eq_true p177
                  replace q177 := eq_true q177
                  have q29 : ((ji23) : Int) ≤ ((l0_0.length : Int) : Int) := of_decide_eq_true (by first | (with_reducible assumption) | assumption)
                  obtain ⟨i029, hi029, _, hsz29, _⟩ := info_parts info37
                  have hroom29 : l0_0.length ≤ c0_0 := (Kd.V_reads' HO_174000.out).2.1
                  have hC29 : Kd.F k37 _ _ (some ad177) l0_0.length l0_0 := (Kd.V_at (base := w.heap.size) HO_174000.out).2.2
                  have q029 : (0 : Int) ≤ ((ji23) : Int) := of_decide_eq_true (by first | (with_reducible assumption) | assumption)
                  have hcut29 := cut_from (P := Try.prog) 27 37 .i64 Try.underlying27 hi029 3 hsz29 (some ad177) l0_0.length c0_0 (ji23) q029 q29
                  have hr29 := Kd.F_cut (m := ((ji23) : Int).toNat) (c := c0_0) hC29 (by omega) hroom29
                  obtain ⟨A29, hA29⟩ : ∃ A1, A1 = (if c0_0 = ((ji23) : Int).toNat then (some ad177) else ((some ad177) : Option Addr).map (·.add (((ji23) : Int).toNat * 3))) := ⟨_, rfl⟩
                  obtain ⟨c29, hc29⟩ : ∃ c1, c1 = c0_0 - ((ji23) : Int).toNat := ⟨_, rfl⟩
                  have hy29 : y178.length = l0_0.length - ((ji23) : Int).toNat := (by rw [Ny178.out, List.length_drop] <;> omega)
                  rw [show (l0_0).drop ((ji23) : Int).toNat = y178 from Ny178.out.symm] at hr29
                  replace hr29 : Kd.F k37 _ _ A29 y178.length y178 := (by rw [hA29]; exact hr29)
                  rw [← hy29, ← hA29, ← hc29] at hcut29
                  have HO182 := Aside0.mk (show Kd.V k37 37 _ w.heap.size _ (.slice A29 y178.length c29) y178 from Kd.V_mk (by rw [hy29, hc29]; exact Nat.sub_le_sub_right hroom29 _) hr29)
                  have HC182 := Aside0.mk (show y178.length ≤ c29 from by rw [hy29, hc29]; exact Nat.sub_le_sub_right hroom29 _)
                  clear hr29 hC29 hroom29 hi029 hsz29 hc29
                  have KY29 := Aside0.mk hy29
                  have KA29 := Aside0.mk hA29
                  clear hy29 hA29
                  replace q29 := eq_true q29
                  go_wp2_with (first | ((with_reducible refine gate_callee (f := 30) rfl ?_); refine goesL_ (some 29) rfl rfl Try.func30 (by kernel_rfl) rfl #[.slice A29 y178.length c29] rfl (by (try simp only [List.map_toArray, List.map_cons, List.map_nil]); first | done | rfl | (simp only [List.length_drop, List.length_take]; rfl)) ?_; (with_reducible refine (chain_Ver.calls (fun k_ => ((P0_0_ k_ ∨ w.heap.size ≤ k_) ∧ (k_ ≠ gb173 ∧ k_ ≠ gb174))) _ _ y178 t183 _ ?side1 A26.out).mono ?_); (case side1 => exact HO182.out); rintro e w30 ⟨v184, rfl, ho0, hb⟩; refine ⟨_, rfl, ?_⟩; have n0_ := Aside0.mk (Kd.V_elder' (by (with_reducible repeat (first | apply Kd.V_alloc | apply Kd.V_drewN | apply Kd.V_drew)); exact HO_174000.out) (Kd.N_base ho0) hb); have n1_ := Aside0.mk (Kd.V_elder' (by (with_reducible repeat (first | apply Kd.V_alloc | apply Kd.V_drewN | apply Kd.V_drew)); exact HL177_1.out) (Kd.N_base ho0) hb); have n2_ := Aside0.mk (Kd.V_elder' (by (with_reducible repeat (first | apply Kd.V_alloc | apply Kd.V_drewN | apply Kd.V_drew)); exact HO182.out) (Kd.N_base ho0) hb); have n3_ := Aside0.mk (Kd.N_lower (Kd.N_mono (ok' := fun k_ => (P0_0_ k_ ∨ w.heap.size ≤ k_) ∧ k_ ≠ gb173 ∧ k_ ≠ gb174) ho0 (fun k_ hk_ => ⟨Or.elim hk_ (fun hs_ => hs_.1) (fun hn_ => (.inr (Nat.le_trans (below_size (by repeat (first | (with_reducible first | exact HB.out | apply below_alloc | apply pw_below_drewN | apply below_drew1 | refine below_set ?_ GE173.out | refine below_set ?_ GE174.out) | exact HB.out))) hn_))), Or.elim hk_ (fun hs_ => hs_.2.1) (fun hn_ => (Kd.freshB (g := gb173) (o := .cells #[.slice (some ad177) l0_0.length c0_0] 29 (0, 0)) (by (with_reducible repeat (first | refine blk_drewN ?_ _ | refine blk_drew ?_ | refine blk_alloc ?_ _)); exact BK173.out) k_ hn_)), Or.elim hk_ (fun hs_ => hs_.2.2) (fun hn_ => (Kd.freshB (g := gb174) (o := .cells #[.slice none 0 0] 29 (0, 0)) (by (with_reducible repeat (first | refine blk_drewN ?_ _ | refine blk_drew ?_ | refine blk_alloc ?_ _)); exact BK174.out) k_ hn_))⟩)) (below_size (by repeat (first | (with_reducible first | exact HB.out | apply below_alloc | apply pw_below_drewN | apply below_drew1 | refine below_set ?_ GE173.out | refine below_set ?_ GE174.out) | exact HB.out)))); have n4_ := Aside0.mk (blk_below (g := gb173) (o := .cells #[.slice (some ad177) l0_0.length c0_0] 29 (0, 0)) (by (with_reducible repeat (first | refine blk_drewN ?_ _ | refine blk_drew ?_ | refine blk_alloc ?_ _)); exact BK173.out) hb); have n5_ := Aside0.mk (blk_below (g := gb174) (o := .cells #[.slice none 0 0] 29 (0, 0)) (by (with_reducible repeat (first | refine blk_drewN ?_ _ | refine blk_drew ?_ | refine blk_alloc ?_ _)); exact BK174.out) hb); have n6_ := Aside0.mk (Kd.C_below (by repeat (first | (with_reducible exact HR177_1.out) | (with_reducible refine Kd.C_alloc ?_ _) | (with_reducible refine Kd.C_drewN ?_ _) | (with_reducible refine Kd.C_drew ?_) | exact HR177_1.out)) hb); have n7_ := Aside0.mk (below_step (by repeat (first | (with_reducible first | exact HB.out | apply below_alloc | apply pw_below_drewN | apply below_drew1 | refine below_set ?_ GE173.out | refine below_set ?_ GE174.out) | exact HB.out)) hb); clear HO_174000; clear HL177_1; clear HO182; clear BK173; clear BK174; clear HR177_1; clear HB; have HO_174000 := n0_; have HL177_1 := n1_; have HO182 := n2_; have HO185 := n3_; have BK173 := n4_; have BK174 := n5_; have HR177_1 := n6_; have HB := n7_; clear n0_ n1_ n2_ n3_ n4_ n5_ n6_ n7_; (try clear hb); (try clear hb2); (try clear hk); (try clear hi); (try clear ho0); obtain ⟨Ao31, co31, eo31⟩ := Kd.N_slice HO185.out; subst eo31; have hcz32_0 : w30.cell? ⟨gb174, 0, none⟩ = some (.slice none 0 0) := (blk_cell BK174.out 0).trans rfl; have hfz32_0 := blk_frozen BK174.out 0))
                  refine bodyPost_ret (results_cell_row rfl _ _ gb174 29 #[.slice Ao31 t183.length co31] (0, 0) _ rfl (by (with_reducible repeat (first | refine blk_drewN ?_ _ | refine blk_drew ?_ | refine blk_alloc ?_ _)); refine blk_put (cs := #[.slice none 0 0]) ?_ 0 _ rfl; (with_reducible repeat (first | refine blk_drewN ?_ _ | refine blk_drew ?_ | refine blk_alloc ?_ _)); exact BK174.out) Try.underlying29 rfl (by kernel_rfl)) rfl ?_
                  first | (with_reducible exact (clash2 A26 A3).elim) | (with_reducible exact (clash2 A3 A26).elim) | exact ⟨_, by first | rfl | (simp [errW_none, errW_some] <;> rfl) | (simp only [← hji23]; first | rfl | (simp [errW_none, errW_some] <;> rfl)) | (simp [*, errW_none, errW_some] <;> rfl), Kd.N_V (by (with_reducible repeat (first | apply Kd.N_alloc | apply Kd.N_drewN | apply Kd.N_drew)); exact Kd.N_mono (Kd.N_far (p := ⟨gb174, 0, none⟩) (Kd.N_mono HO185.out (fun k_ hk => (⟨hk, hk.2.2⟩ : _ ∧ k_ ≠ gb174))) (fun _ hk => hk.2) (.slice Ao31 t183.length co31)) (fun _ hk => hk.1.1)), by repeat (first | (with_reducible first | exact HB.out | apply below_alloc | apply pw_below_drewN | apply below_drew1 | refine below_set ?_ GE173.out | refine below_set ?_ GE174.out) | exact HB.out)⟩
                · rw [if_neg c25] at H
                  exact absurd H (by simp)
              · rw [if_neg c24] at H
                exact absurd H (by simp)
            · replace c22 := Bool.eq_false_iff.mpr c22
              subst c22
              have H1 : (if t175 ≤ (l0_0.length : Int) then ((chain_Ver.f (l0_0.drop (t175 : Int).toNat)).bind fun t191 => (some t191)) else (none)) = some r := by rw [if_neg (show ¬ (false = true) by decide)] at H; exact H
              clear H
              have H := H1
              clear H1
              have c33b0 := eq_true (of_decide_eq_true (by first | (with_reducible assumption) | assumption) : 0 ≤ t175)
              by_cases c34 : t175 ≤ (l0_0.length : Int)
              · rw [if_pos c34] at H
                have c34b0 := eq_true c34
                have c34b1 : decide (t175 ≤ (l0_0.length : Int)) = true := decide_eq_true c34
                clear c34
                obtain ⟨y186, hy186⟩ : ∃ y_ : List (S37), y_ = (l0_0.drop (t175 : Int).toNat) := ⟨_, rfl⟩
                replace H : ((chain_Ver.f y186).bind fun t191 => (some t191)) = some r := by first | (rw [hy186]; with_reducible exact H) | (have H2_ := (Option.bind_some _ _).symm.trans H; rw [hy186]; with_reducible exact H2_) | (have H2_ := (Option.bind_some _ _).symm.trans H; with_reducible exact H2_) | with_reducible exact H | (rw [hy186]; exact H) | exact H
                have Ny186 := Aside0.mk hy186
                clear hy186
                replace H := Option.bind_eq_some_iff.mp H
                obtain ⟨t191, A350, H⟩ := H
                replace H : (some t191) = some r := H
                have A35 := Aside0.mk A350
                clear A350
                obtain rfl := Option.some.inj H
                have hnb36 := NB173_174.out
                have hnc36 := NB174_173.out
                have hcz37_0 : wc.cell? ⟨gb173, 0, none⟩ = some (.slice A0_0 l0_0.length c0_0) := (blk_cell BK173.out 0).trans rfl
                have hfz37_0 := blk_frozen BK173.out 0
                have p177 : 0 ≤ (t175 : Int) := of_decide_eq_true (by first | (with_reducible assumption) | assumption)
                have q177 : t175 < (l0_0.length : Int) := of_decide_eq_true (by first | (with_reducible assumption) | assumption)
                obtain ⟨ad177, A177_1, c177_1, e177, hx177_0, hx177_1, hx177_2, hl177_1, hi177_1⟩ := at_T37 (Kd.V_reads' HO_174000.out).2.2 t175 p177 q177
                (try rw [← Nbq21.out] at hx177_2)
                cases e177
                obtain ⟨ce177, hce177, hMe177, hcc177⟩ := Kd.V_get HO_174000.out z37 t175 p177 (by first | exact q177 | exact of_decide_eq_true (by first | (with_reducible assumption) | assumption) | (have e_ := (Kd.V_reads' HO_174000.out).1; omega))
                obtain ⟨ua177_1, uc177_1, rfl, ul177_1, ge177_1⟩ := k37_openF hMe177
                have hv177_1 := hcc177 1 _ rfl
                rw [add_field _ _ 1 (by omega)] at hv177_1
                replace hv177_1 := Option.some.inj (hv177_1.symm.trans hx177_1)
                injection hv177_1 with hva_ hvn_ hvc_
                rw [hva_] at ge177_1
                rw [hvc_] at ul177_1
                have HL177_1 := Aside0.mk (show Kd.V (Kd.int .u8) 5 _ w.heap.size _ _ ((rd_T37 l0_0 t175).f1) from Kd.V_mk ul177_1 ge177_1)
                clear hva_ hvn_ hvc_ ge177_1 ul177_1
                clear hcc177 hce177
                have HR177_1 := Aside0.mk hi177_1
                have HC177_1 := Aside0.mk hl177_1
                clear hi177_1 hl177_1
                replace p177 := eq_true p177
                replace q177 := eq_true q177
                have q38 : (t175 : Int) ≤ ((l0_0.length : Int) : Int) := of_decide_eq_true (by first | (with_reducible assumption) | assumption)
                obtain ⟨i038, hi038, _, hsz38, _⟩ := info_parts info37
                have hroom38 : l0_0.length ≤ c0_0 := (Kd.V_reads' HO_174000.out).2.1
                have hC38 : Kd.F k37 _ _ (some ad177) l0_0.length l0_0 := (Kd.V_at (base := w.heap.size) HO_174000.out).2.2
                have q038 : (0 : Int) ≤ (t175 : Int) := of_decide_eq_true (by first | (with_reducible assumption) | assumption)
                have hcut38 := cut_from (P := Try.prog) 27 37 .i64 Try.underlying27 hi038 3 hsz38 (some ad177) l0_0.length c0_0 t175 q038 q38
                have hr38 := Kd.F_cut (m := (t175 : Int).toNat) (c := c0_0) hC38 (by omega) hroom38
                obtain ⟨A38, hA38⟩ : ∃ A1, A1 = (if c0_0 = (t175 : Int).toNat then (some ad177) else ((some ad177) : Option Addr).map (·.add ((t175 : Int).toNat * 3))) := ⟨_, rfl⟩
                obtain ⟨c38, hc38⟩ : ∃ c1, c1 = c0_0 - (t175 : Int).toNat := ⟨_, rfl⟩
                have hy38 : y186.length = l0_0.length - (t175 : Int).toNat := (by rw [Ny186.out, List.length_drop] <;> omega)
                rw [show (l0_0).drop (t175 : Int).toNat = y186 from Ny186.out.symm] at hr38
                replace hr38 : Kd.F k37 _ _ A38 y186.length y186 := (by rw [hA38]; exact hr38)
                rw [← hy38, ← hA38, ← hc38] at hcut38
                have HO190 := Aside0.mk (show Kd.V k37 37 _ w.heap.size _ (.slice A38 y186.length c38) y186 from Kd.V_mk (by rw [hy38, hc38]; exact Nat.sub_le_sub_right hroom38 _) hr38)
                have HC190 := Aside0.mk (show y186.length ≤ c38 from by rw [hy38, hc38]; exact Nat.sub_le_sub_right hroom38 _)
                clear hr38 hC38 hroom38 hi038 hsz38 hc38
                have KY38 := Aside0.mk hy38
                have KA38 := Aside0.mk hA38
                clear hy38 hA38
                replace q38 := eq_true q38
                go_wp2_with (first | ((with_reducible refine gate_callee (f := 30) rfl ?_); refine goesL_ (some 29) rfl rfl Try.func30 (by kernel_rfl) rfl #[.slice A38 y186.length c38] rfl (by (try simp only [List.map_toArray, List.map_cons, List.map_nil]); first | done | rfl | (simp only [List.length_drop, List.length_take]; rfl)) ?_; (with_reducible refine (chain_Ver.calls (fun k_ => ((P0_0_ k_ ∨ w.heap.size ≤ k_) ∧ (k_ ≠ gb173 ∧ k_ ≠ gb174))) _ _ y186 t191 _ ?side1 A35.out).mono ?_); (case side1 => exact HO190.out); rintro e w39 ⟨v192, rfl, ho0, hb⟩; refine ⟨_, rfl, ?_⟩; have n0_ := Aside0.mk (Kd.V_elder' (by (with_reducible repeat (first | apply Kd.V_alloc | apply Kd.V_drewN | apply Kd.V_drew)); exact HO_174000.out) (Kd.N_base ho0) hb); have n1_ := Aside0.mk (Kd.V_elder' (by (with_reducible repeat (first | apply Kd.V_alloc | apply Kd.V_drewN | apply Kd.V_drew)); exact HL177_1.out) (Kd.N_base ho0) hb); have n2_ := Aside0.mk (Kd.V_elder' (by (with_reducible repeat (first | apply Kd.V_alloc | apply Kd.V_drewN | apply Kd.V_drew)); exact HO190.out) (Kd.N_base ho0) hb); have n3_ := Aside0.mk (Kd.N_lower (Kd.N_mono (ok' := fun k_ => (P0_0_ k_ ∨ w.heap.size ≤ k_) ∧ k_ ≠ gb173 ∧ k_ ≠ gb174) ho0 (fun k_ hk_ => ⟨Or.elim hk_ (fun hs_ => hs_.1) (fun hn_ => (.inr (Nat.le_trans (below_size (by repeat (first | (with_reducible first | exact HB.out | apply below_alloc | apply pw_below_drewN | apply below_drew1 | refine below_set ?_ GE173.out | refine below_set ?_ GE174.out) | exact HB.out))) hn_))), Or.elim hk_ (fun hs_ => hs_.2.1) (fun hn_ => (Kd.freshB (g := gb173) (o := .cells #[.slice (some ad177) l0_0.length c0_0] 29 (0, 0)) (by (with_reducible repeat (first | refine blk_drewN ?_ _ | refine blk_drew ?_ | refine blk_alloc ?_ _)); exact BK173.out) k_ hn_)), Or.elim hk_ (fun hs_ => hs_.2.2) (fun hn_ => (Kd.freshB (g := gb174) (o := .cells #[.slice none 0 0] 29 (0, 0)) (by (with_reducible repeat (first | refine blk_drewN ?_ _ | refine blk_drew ?_ | refine blk_alloc ?_ _)); exact BK174.out) k_ hn_))⟩)) (below_size (by repeat (first | (with_reducible first | exact HB.out | apply below_alloc | apply pw_below_drewN | apply below_drew1 | refine below_set ?_ GE173.out | refine below_set ?_ GE174.out) | exact HB.out)))); have n4_ := Aside0.mk (blk_below (g := gb173) (o := .cells #[.slice (some ad177) l0_0.length c0_0] 29 (0, 0)) (by (with_reducible repeat (first | refine blk_drewN ?_ _ | refine blk_drew ?_ | refine blk_alloc ?_ _)); exact BK173.out) hb); have n5_ := Aside0.mk (blk_below (g := gb174) (o := .cells #[.slice none 0 0] 29 (0, 0)) (by (with_reducible repeat (first | refine blk_drewN ?_ _ | refine blk_drew ?_ | refine blk_alloc ?_ _)); exact BK174.out) hb); have n6_ := Aside0.mk (Kd.C_below (by repeat (first | (with_reducible exact HR177_1.out) | (with_reducible refine Kd.C_alloc ?_ _) | (with_reducible refine Kd.C_drewN ?_ _) | (with_reducible refine Kd.C_drew ?_) | exact HR177_1.out)) hb); have n7_ := Aside0.mk (below_step (by repeat (first | (with_reducible first | exact HB.out | apply below_alloc | apply pw_below_drewN | apply below_drew1 | refine below_set ?_ GE173.out | refine below_set ?_ GE174.out) | exact HB.out)) hb); clear HO_174000; clear HL177_1; clear HO190; clear BK173; clear BK174; clear HR177_1; clear HB; have HO_174000 := n0_; have HL177_1 := n1_; have HO190 := n2_; have HO193 := n3_; have BK173 := n4_; have BK174 := n5_; have HR177_1 := n6_; have HB := n7_; clear n0_ n1_ n2_ n3_ n4_ n5_ n6_ n7_; (try clear hb); (try clear hb2); (try clear hk); (try clear hi); (try clear ho0); obtain ⟨Ao40, co40, eo40⟩ := Kd.N_slice HO193.out; subst eo40; have hcz41_0 : w39.cell? ⟨gb174, 0, none⟩ = some (.slice none 0 0) := (blk_cell BK174.out 0).trans rfl; have hfz41_0 := blk_frozen BK174.out 0))
                refine bodyPost_ret (results_cell_row rfl _ _ gb174 29 #[.slice Ao40 t191.length co40] (0, 0) _ rfl (by (with_reducible repeat (first | refine blk_drewN ?_ _ | refine blk_drew ?_ | refine blk_alloc ?_ _)); refine blk_put (cs := #[.slice none 0 0]) ?_ 0 _ rfl; (with_reducible repeat (first | refine blk_drewN ?_ _ | refine blk_drew ?_ | refine blk_alloc ?_ _)); exact BK174.out) Try.underlying29 rfl (by kernel_rfl)) rfl ?_
                first | (with_reducible exact (clash2 A35 A3).elim) | (with_reducible exact (clash2 A3 A35).elim) | exact ⟨_, by first | rfl | (simp [errW_none, errW_some] <;> rfl) | (simp [*, errW_none, errW_some] <;> rfl), Kd.N_V (by (with_reducible repeat (first | apply Kd.N_alloc | apply Kd.N_drewN | apply Kd.N_drew)); exact Kd.N_mono (Kd.N_far (p := ⟨gb174, 0, none⟩) (Kd.N_mono HO193.out (fun k_ hk => (⟨hk, hk.2.2⟩ : _ ∧ k_ ≠ gb174))) (fun _ hk => hk.2) (.slice Ao40 t191.length co40)) (fun _ hk => hk.1.1)), by repeat (first | (with_reducible first | exact HB.out | apply below_alloc | apply pw_below_drewN | apply below_drew1 | refine below_set ?_ GE173.out | refine below_set ?_ GE174.out) | exact HB.out)⟩
              · rw [if_neg c34] at H
                exact absurd H (by simp)
          · rw [if_neg c20] at H
            exact absurd H (by simp)
        · rw [if_neg c19] at H
          exact absurd H (by simp)

end Go.Proofs.Ytcinlddejdkjeaa.Q
