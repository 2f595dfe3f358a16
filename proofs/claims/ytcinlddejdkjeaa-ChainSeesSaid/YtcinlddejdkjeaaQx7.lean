-- written by a turned copy of the kit's printer (wip/tools/patch_print.py over print.py); contracts of given functions are this session's own
import Derived.Test.YtcinlddejdkjeaaQx0
import Derived.Test.YtcinlddejdkjeaaQx3
import Derived.Test.YtcinlddejdkjeaaQx4
import Derived.Test.YtcinlddejdkjeaaQx5
import Derived.Test.YtcinlddejdkjeaaQx6
namespace Go.Proofs.Ytcinlddejdkjeaa.Q
open Go.RowKit Go.Proofs.YtcinlddejdkjeaaW.PrintWords Go.Proofs.YtcinlddejdkjeaaW.PrintLast Go.Proofs.YtcinlddejdkjeaaW.PrintMore Go.Proofs.Ytcinlddejdkjeaa.G
attribute [local go_sem] max2_int min2_int max_two min_two max_three min_three max_four min_four   -- for this text's walks alone
set_option linter.unusedVariables false
set_option linter.unusedSimpArgs false

/-! ### chain_Push: function 17 -/
def chain_Push.j0 : Nat → Bool → List (S37) → Int → List Int → Bool → Option ((List (S37)) × Int)
  | 0, _, _, _, _, _ => none
  | k + 1, x6, x113000, x114000, x114001, x114002 => if x6 = true then (some (([] : List (S37)), 1)) else ((chain_Last.f x113000).bind fun t117 => (if x114000 ≤ t117 then (some (([] : List (S37)), 7)) else ((chain_Ver.f x113000).bind fun t118 => ((some (([(⟨x114000, x114001, x114002⟩ : S37)] : List (S37)) : List (S37))).bind fun y121 => (if t118.length + y121.length < 3518437208883 then (some ((t118 ++ y121), 0)) else (none))))))
def chain_Push.f (k : Nat) (l0_0 : List (S37)) (a1_0 : Int) (l1_1 : List Int) (a1_2 : Bool) : Option ((List (S37)) × Int) := (chain_Sane.f k l0_0).bind fun t115 => (if t115 = true then ((chain_Ver_sound.f a1_0 l1_1 a1_2).bind fun t116 => (chain_Push.j0 k (!t116) l0_0 a1_0 l1_1 a1_2)) else (chain_Push.j0 k true l0_0 a1_0 l1_1 a1_2))
theorem chain_Push.mono_l : ∀ k, (∀ y0 y1 y2 y3 y4, LeO (chain_Push.j0 k y0 y1 y2 y3 y4) (chain_Push.j0 (k + 1) y0 y1 y2 y3 y4))
  | 0 => fun _ _ _ _ _ r h => by simp [chain_Push.j0] at h
  | k + 1 => by
    have ih0 := chain_Push.mono_l k
    · intro y0 y1 y2 y3 y4
      unfold chain_Push.j0
      repeat' first
      | (with_reducible exact ih0 _ _ _ _ _)
      | (with_reducible exact chain_Sane.mono _ _)
      | (with_reducible exact LeO.refl _)
      | (with_reducible exact LeO.none _)
      | (with_reducible refine LeO.ite ?_ ?_)
      | (with_reducible refine LeO.bind ?_ (fun _ => ?_))
      | exact ih0 _ _ _ _ _
      | exact chain_Sane.mono _ _
      | exact LeO.none _
      | refine LeO.ite ?_ ?_
      | refine LeO.bind ?_ (fun _ => ?_)
theorem chain_Push.mono : ∀ a0 a1 a2 a3 k, LeO (chain_Push.f k a0 a1 a2 a3) (chain_Push.f (k + 1) a0 a1 a2 a3) := by
  intro a0 a1 a2 a3 k
  have ih0 := chain_Push.mono_l k
  unfold chain_Push.f
  repeat' first
      | (with_reducible exact ih0 _ _ _ _ _)
      | (with_reducible exact chain_Sane.mono _ _)
      | (with_reducible exact LeO.refl _)
      | (with_reducible exact LeO.none _)
      | (with_reducible refine LeO.ite ?_ ?_)
      | (with_reducible refine LeO.bind ?_ (fun _ => ?_))
      | exact ih0 _ _ _ _ _
      | exact chain_Sane.mono _ _
      | exact LeO.none _
      | refine LeO.ite ?_ ?_
      | refine LeO.bind ?_ (fun _ => ?_)
def chain_Push.T5 : Bool × List (List Nat × List Nat) := (true, [([], []), ([0], [0]), ([1], [1]), ([], []), ([3], [3]), ([2, 4, 2], [2, 4]), ([5], [5]), ([6, 5, 0, 1, 2, 3, 4, 5, 6], [6]), ([7, 0, 1, 2, 3, 4, 5, 6, 7], [])])
def chain_Push.B5 : List Nat := [0, 1, 3, 0, 8, 31, 63, 127, 255]
theorem chain_Push.tab5 : rtab .any (opsOf Try.f17 5) = chain_Push.T5 := by kernel_rfl
theorem chain_Push.bits5 : waitsOk chain_Push.T5.2 chain_Push.B5 = true := by kernel_rfl
set_option maxHeartbeats 8000000 in
set_option maxRecDepth 100000 in
theorem chain_Push.calls (k : Nat) (P0_0_ : Nat → Prop) (A0_0 : Option Addr) (c0_0 : Nat) (l0_0 : List (S37)) (a1_0 : Int) (P1_1_ : Nat → Prop) (A1_1 : Option Addr) (c1_1 : Nat) (l1_1 : List Int) (a1_2 : Bool) (r1 : List (S37)) (r2 : Int) (w : World) (hs0_0 : Kd.V k37 37 w w.heap.size (fun k_ => P0_0_ k_) (.slice A0_0 l0_0.length c0_0) l0_0) (hs1_1 : Kd.V (Kd.int .u8) 5 w w.heap.size (fun k_ => P1_1_ k_) (.slice A1_1 l1_1.length c1_1) l1_1) (h : chain_Push.f k l0_0 a1_0 l1_1 a1_2 = some (r1, r2)) :
    Calls Try.prog 17 #[.agg #[.slice A0_0 l0_0.length c0_0], .agg #[.int .i64 a1_0, .slice A1_1 l1_1.length c1_1, .bool a1_2]] w fun e w' => ∃ v0_ : Value, e = .returned (.tuple #[.agg #[v0_], .int .i64 r2]) ∧ Kd.N k37 37 w' w.heap.size (fun k_ => ((P0_0_ k_ ∨ P1_1_ k_) ∨ w.heap.size ≤ k_)) v0_ r1 ∧ Below w.heap.size w w' := by
  have hu29 := Try.underlying29
  have hu37 := Try.underlying37
  have HO0_0 := Aside0.mk (show Kd.V k37 37 w w.heap.size (fun k_ => ((P0_0_ k_ ∨ P1_1_ k_) ∨ w.heap.size ≤ k_)) (.slice A0_0 l0_0.length c0_0) l0_0 from Kd.V_mono hs0_0 (fun k_ hk => .inl (.inl hk)))
  have HO1_1 := Aside0.mk (show Kd.V (Kd.int .u8) 5 w w.heap.size (fun k_ => ((P0_0_ k_ ∨ P1_1_ k_) ∨ w.heap.size ≤ k_)) (.slice A1_1 l1_1.length c1_1) l1_1 from Kd.V_mono hs1_1 (fun k_ hk => .inl (.inr hk)))
  have HB := Aside0.mk (Below.refl w.heap.size w)
  have H : ((chain_Sane.f k l0_0).bind fun t115 => (if t115 = true then ((chain_Ver_sound.f a1_0 l1_1 a1_2).bind fun t116 => (chain_Push.j0 k (!t116) l0_0 a1_0 l1_1 a1_2)) else (chain_Push.j0 k true l0_0 a1_0 l1_1 a1_2))) = some (r1, r2) := h
  clear h
  have HC3 := Aside0.mk H
  clear H
  go_enter Try.func17, Try.ntmps17
  go_upto_region 1 with (first | ((with_reducible refine gate_dst (N := 2) rfl ?_); refine box_event ?hg (N := 2) ?hd (cs := #[.slice A0_0 l0_0.length c0_0]) (t := 29) ?hr ?_; (case hd => rfl); (case hg => rfl); (case hr => first | (go_simp; done) | (go_simp; rfl)); intro gb112 hg w4 hbox hb; have n0_ := Aside0.mk (Kd.V_below (Kd.V_elderB (by (with_reducible repeat (first | apply Kd.V_alloc | apply Kd.V_drewN | apply Kd.V_drew)); exact HO0_0.out) gb112 (Nat.le_of_eq hg.symm)) hb); have n1_ := Aside0.mk (Kd.V_below (Kd.V_elderB (by (with_reducible repeat (first | apply Kd.V_alloc | apply Kd.V_drewN | apply Kd.V_drew)); exact HO1_1.out) gb112 (Nat.le_of_eq hg.symm)) hb); have n2_ := Aside0.mk (below_step (by repeat (first | (with_reducible first | exact HB.out | apply below_alloc | apply pw_below_drewN | apply below_drew1) | exact HB.out)) hb); have n3_ := Aside0.mk (hbox); have n4_ := Aside0.mk ((by rw [hg]; exact (below_size (by repeat (first | (with_reducible first | exact HB.out | apply below_alloc | apply pw_below_drewN | apply below_drew1) | exact HB.out))) : w.heap.size ≤ gb112)); have n5_ := Aside0.mk ((by rw [hg]; exact (below_size (by repeat (first | (with_reducible first | exact HB.out | apply below_alloc | apply pw_below_drewN | apply below_drew1) | exact HB.out))) : w.heap.size ≤ gb112)); clear HO0_0; clear HO1_1; clear HB; have HO0_0 := n0_; have HO1_1 := n1_; have HB := n2_; have BK112 := n3_; have GW112 := n4_; have GE112 := n5_; clear n0_ n1_ n2_ n3_ n4_ n5_; clear hb hbox hg) | ((with_reducible refine gate_dst (N := 3) rfl ?_); refine box_event ?hg (N := 3) ?hd (cs := #[.int .i64 a1_0, .slice A1_1 l1_1.length c1_1, .bool a1_2]) (t := 37) ?hr ?_; (case hd => rfl); (case hg => rfl); (case hr => first | (go_simp; done) | (go_simp; rfl)); intro gb113 hg w5 hbox hb; have n0_ := Aside0.mk (Kd.V_below (Kd.V_elderB (by (with_reducible repeat (first | apply Kd.V_alloc | apply Kd.V_drewN | apply Kd.V_drew)); exact HO0_0.out) gb113 (Nat.le_of_eq hg.symm)) hb); have n1_ := Aside0.mk (Kd.V_below (Kd.V_elderB (by (with_reducible repeat (first | apply Kd.V_alloc | apply Kd.V_drewN | apply Kd.V_drew)); exact HO1_1.out) gb113 (Nat.le_of_eq hg.symm)) hb); have n2_ := Aside0.mk (blk_below (g := gb112) (o := .cells #[.slice A0_0 l0_0.length c0_0] 29 (0, 0)) (by (with_reducible repeat (first | refine blk_drewN ?_ _ | refine blk_drew ?_ | refine blk_alloc ?_ _)); exact BK112.out) hb); have n3_ := Aside0.mk (below_step (by repeat (first | (with_reducible first | exact HB.out | apply below_alloc | apply pw_below_drewN | apply below_drew1 | refine below_set ?_ GE112.out) | exact HB.out)) hb); have n4_ := Aside0.mk (hbox); have n5_ := Aside0.mk ((by rw [hg]; exact (below_size (by repeat (first | (with_reducible first | exact HB.out | apply below_alloc | apply pw_below_drewN | apply below_drew1 | refine below_set ?_ GE112.out) | exact HB.out))) : w.heap.size ≤ gb113)); have n6_ := Aside0.mk ((by rw [hg]; exact (below_size (by repeat (first | (with_reducible first | exact HB.out | apply below_alloc | apply pw_below_drewN | apply below_drew1 | refine below_set ?_ GE112.out) | exact HB.out))) : w.heap.size ≤ gb113)); have n7_ := Aside0.mk ((by rw [hg]; exact Nat.ne_of_lt (blk_lt (g := gb112) (o := .cells #[.slice A0_0 l0_0.length c0_0] 29 (0, 0)) (by (with_reducible repeat (first | refine blk_drewN ?_ _ | refine blk_drew ?_ | refine blk_alloc ?_ _)); exact BK112.out)) : gb112 ≠ gb113)); have n8_ := Aside0.mk ((by rw [hg]; exact Nat.ne_of_gt (blk_lt (g := gb112) (o := .cells #[.slice A0_0 l0_0.length c0_0] 29 (0, 0)) (by (with_reducible repeat (first | refine blk_drewN ?_ _ | refine blk_drew ?_ | refine blk_alloc ?_ _)); exact BK112.out)) : gb113 ≠ gb112)); clear HO0_0; clear HO1_1; clear BK112; clear HB; have HO0_0 := n0_; have HO1_1 := n1_; have BK112 := n2_; have HB := n3_; have BK113 := n4_; have GW113 := n5_; have GE113 := n6_; have NB112_113 := n7_; have NB113_112 := n8_; clear n0_ n1_ n2_ n3_ n4_ n5_ n6_ n7_ n8_; clear hb hbox hg) | ((with_reducible refine gate_dst (N := 4) rfl ?_); refine box_event ?hg (N := 4) ?hd (cs := #[.slice none 0 0]) (t := 29) ?hr ?_; (case hd => rfl); (case hg => rfl); (case hr => first | (go_simp; done) | (go_simp; rfl)); intro gb114 hg w6 hbox hb; have n0_ := Aside0.mk (Kd.V_below (Kd.V_elderB (by (with_reducible repeat (first | apply Kd.V_alloc | apply Kd.V_drewN | apply Kd.V_drew)); exact HO0_0.out) gb114 (Nat.le_of_eq hg.symm)) hb); have n1_ := Aside0.mk (Kd.V_below (Kd.V_elderB (by (with_reducible repeat (first | apply Kd.V_alloc | apply Kd.V_drewN | apply Kd.V_drew)); exact HO1_1.out) gb114 (Nat.le_of_eq hg.symm)) hb); have n2_ := Aside0.mk (blk_below (g := gb112) (o := .cells #[.slice A0_0 l0_0.length c0_0] 29 (0, 0)) (by (with_reducible repeat (first | refine blk_drewN ?_ _ | refine blk_drew ?_ | refine blk_alloc ?_ _)); exact BK112.out) hb); have n3_ := Aside0.mk (blk_below (g := gb113) (o := .cells #[.int .i64 a1_0, .slice A1_1 l1_1.length c1_1, .bool a1_2] 37 (0, 0)) (by (with_reducible repeat (first | refine blk_drewN ?_ _ | refine blk_drew ?_ | refine blk_alloc ?_ _)); exact BK113.out) hb); have n4_ := Aside0.mk (below_step (by repeat (first | (with_reducible first | exact HB.out | apply below_alloc | apply pw_below_drewN | apply below_drew1 | refine below_set ?_ GE112.out | refine below_set ?_ GE113.out) | exact HB.out)) hb); have n5_ := Aside0.mk (hbox); have n6_ := Aside0.mk ((by rw [hg]; exact (below_size (by repeat (first | (with_reducible first | exact HB.out | apply below_alloc | apply pw_below_drewN | apply below_drew1 | refine below_set ?_ GE112.out | refine below_set ?_ GE113.out) | exact HB.out))) : w.heap.size ≤ gb114)); have n7_ := Aside0.mk ((by rw [hg]; exact (below_size (by repeat (first | (with_reducible first | exact HB.out | apply below_alloc | apply pw_below_drewN | apply below_drew1 | refine below_set ?_ GE112.out | refine below_set ?_ GE113.out) | exact HB.out))) : w.heap.size ≤ gb114)); have n8_ := Aside0.mk ((by rw [hg]; exact Nat.ne_of_lt (blk_lt (g := gb112) (o := .cells #[.slice A0_0 l0_0.length c0_0] 29 (0, 0)) (by (with_reducible repeat (first | refine blk_drewN ?_ _ | refine blk_drew ?_ | refine blk_alloc ?_ _)); exact BK112.out)) : gb112 ≠ gb114)); have n9_ := Aside0.mk ((by rw [hg]; exact Nat.ne_of_gt (blk_lt (g := gb112) (o := .cells #[.slice A0_0 l0_0.length c0_0] 29 (0, 0)) (by (with_reducible repeat (first | refine blk_drewN ?_ _ | refine blk_drew ?_ | refine blk_alloc ?_ _)); exact BK112.out)) : gb114 ≠ gb112)); have n10_ := Aside0.mk ((by rw [hg]; exact Nat.ne_of_lt (blk_lt (g := gb113) (o := .cells #[.int .i64 a1_0, .slice A1_1 l1_1.length c1_1, .bool a1_2] 37 (0, 0)) (by (with_reducible repeat (first | refine blk_drewN ?_ _ | refine blk_drew ?_ | refine blk_alloc ?_ _)); exact BK113.out)) : gb113 ≠ gb114)); have n11_ := Aside0.mk ((by rw [hg]; exact Nat.ne_of_gt (blk_lt (g := gb113) (o := .cells #[.int .i64 a1_0, .slice A1_1 l1_1.length c1_1, .bool a1_2] 37 (0, 0)) (by (with_reducible repeat (first | refine blk_drewN ?_ _ | refine blk_drew ?_ | refine blk_alloc ?_ _)); exact BK113.out)) : gb114 ≠ gb113)); clear HO0_0; clear HO1_1; clear BK112; clear BK113; clear HB; have HO0_0 := n0_; have HO1_1 := n1_; have BK112 := n2_; have BK113 := n3_; have HB := n4_; have BK114 := n5_; have GW114 := n6_; have GE114 := n7_; have NB112_114 := n8_; have NB114_112 := n9_; have NB113_114 := n10_; have NB114_113 := n11_; clear n0_ n1_ n2_ n3_ n4_ n5_ n6_ n7_ n8_ n9_ n10_ n11_; clear hb hbox hg))
  (try simp only [Act.put, List.setIfInBounds_toArray, List.set_cons_zero, List.set_cons_succ])
  go_cut [6] (fun v6 wc => ∃ (kq : Nat) (x6_2 : Bool), v6 = .bool x6_2 ∧ Aside0 (chain_Push.j0 kq x6_2 l0_0 a1_0 l1_1 a1_2 = some (r1, r2)) ∧ Aside0 (kq ≤ k) ∧ Aside0 (Kd.V k37 37 wc w.heap.size (fun k_ => ((P0_0_ k_ ∨ P1_1_ k_) ∨ w.heap.size ≤ k_) ∧ k_ ≠ gb112 ∧ k_ ≠ gb113 ∧ k_ ≠ gb114) (.slice A0_0 l0_0.length c0_0) l0_0) ∧ Aside0 (Kd.V (Kd.int .u8) 5 wc w.heap.size (fun k_ => ((P0_0_ k_ ∨ P1_1_ k_) ∨ w.heap.size ≤ k_) ∧ k_ ≠ gb112 ∧ k_ ≠ gb113 ∧ k_ ≠ gb114) (.slice A1_1 l1_1.length c1_1) l1_1) ∧ Aside0 (wc.heap[gb112]? = some (.cells #[(.slice A0_0 l0_0.length c0_0)] 29 (0, 0))) ∧ Aside0 (wc.heap[gb113]? = some (.cells #[.int .i64 a1_0, (.slice A1_1 l1_1.length c1_1), .bool a1_2] 37 (0, 0))) ∧ Aside0 (wc.heap[gb114]? = some (.cells #[(.slice none 0 0)] 29 (0, 0))) ∧ Aside0 (Below w.heap.size w wc))
  case first =>
    have H := HC3.out
    clear HC3
    replace H := Option.bind_eq_some_iff.mp H
    obtain ⟨t115, A70, H⟩ := H
    replace H : (if t115 = true then ((chain_Ver_sound.f a1_0 l1_1 a1_2).bind fun t116 => (chain_Push.j0 k (!t116) l0_0 a1_0 l1_1 a1_2)) else (chain_Push.j0 k true l0_0 a1_0 l1_1 a1_2)) = some (r1, r2) := H
    have A7 := Aside0.mk A70
    clear A70
    by_cases c8 : t115 = true
    · subst c8
      have H1 : ((chain_Ver_sound.f a1_0 l1_1 a1_2).bind fun t116 => (chain_Push.j0 k (!t116) l0_0 a1_0 l1_1 a1_2)) = some (r1, r2) := by rw [if_pos rfl] at H; exact H
      clear H
      have H := H1
      clear H1
      replace H := Option.bind_eq_some_iff.mp H
      obtain ⟨t116, A90, H⟩ := H
      replace H : (chain_Push.j0 k (!t116) l0_0 a1_0 l1_1 a1_2) = some (r1, r2) := H
      have A9 := Aside0.mk A90
      clear A90
      have H' := Aside0.mk H
      clear H
      have hnb10 := NB112_113.out
      have hnc10 := NB113_112.out
      have hnb11 := NB112_114.out
      have hnc11 := NB114_112.out
      have hcz12_0 : w6.cell? ⟨gb112, 0, none⟩ = some (.slice A0_0 l0_0.length c0_0) := (blk_cell BK112.out 0).trans rfl
      have hfz12_0 := blk_frozen BK112.out 0
      go_wp2_with (first | ((with_reducible refine gate_callee (f := 24) rfl ?_); refine goesL_ (some 8) rfl rfl Try.func24 (by kernel_rfl) rfl #[.agg #[.slice A0_0 l0_0.length c0_0]] rfl (by (try simp only [List.map_toArray, List.map_cons, List.map_nil]); first | done | rfl | (simp only [List.length_drop, List.length_take]; rfl)) ?_; (with_reducible refine (chain_Sane.calls k _ _ l0_0 true _ ?side1 ?side2 A7.out).mono ?_); (case side1 => repeat (first | exact (Kd.V_reads' HO0_0.out).2.2 | (with_reducible refine Kd.C_alloc ?_ _) | (with_reducible refine Kd.C_drewN ?_ _) | (with_reducible refine Kd.C_drew ?_))); (case side2 => exact (Kd.V_reads' HO0_0.out).2.1); rintro e w13 ⟨rfl, hb⟩; refine ⟨_, rfl, ?_⟩; have n0_ := Aside0.mk (Kd.V_below (by (with_reducible repeat (first | apply Kd.V_alloc | apply Kd.V_drewN | apply Kd.V_drew)); exact HO0_0.out) hb); have n1_ := Aside0.mk (Kd.V_below (by (with_reducible repeat (first | apply Kd.V_alloc | apply Kd.V_drewN | apply Kd.V_drew)); exact HO1_1.out) hb); have n2_ := Aside0.mk (blk_below (g := gb112) (o := .cells #[.slice A0_0 l0_0.length c0_0] 29 (0, 0)) (by (with_reducible repeat (first | refine blk_drewN ?_ _ | refine blk_drew ?_ | refine blk_alloc ?_ _)); exact BK112.out) hb); have n3_ := Aside0.mk (blk_below (g := gb113) (o := .cells #[.int .i64 a1_0, .slice A1_1 l1_1.length c1_1, .bool a1_2] 37 (0, 0)) (by (with_reducible repeat (first | refine blk_drewN ?_ _ | refine blk_drew ?_ | refine blk_alloc ?_ _)); exact BK113.out) hb); have n4_ := Aside0.mk (blk_below (g := gb114) (o := .cells #[.slice none 0 0] 29 (0, 0)) (by (with_reducible repeat (first | refine blk_drewN ?_ _ | refine blk_drew ?_ | refine blk_alloc ?_ _)); exact BK114.out) hb); have n5_ := Aside0.mk (below_step (by repeat (first | (with_reducible first | exact HB.out | apply below_alloc | apply pw_below_drewN | apply below_drew1 | refine below_set ?_ GE112.out | refine below_set ?_ GE113.out | refine below_set ?_ GE114.out) | exact HB.out)) hb); clear HO0_0; clear HO1_1; clear BK112; clear BK113; clear BK114; clear HB; have HO0_0 := n0_; have HO1_1 := n1_; have BK112 := n2_; have BK113 := n3_; have BK114 := n4_; have HB := n5_; clear n0_ n1_ n2_ n3_ n4_ n5_; (try clear hb); (try clear hb2); (try clear hk); (try clear hi); have hnb14 := NB113_114.out; have hnc14 := NB114_113.out; have hcz15_0 : w13.cell? ⟨gb113, 0, none⟩ = some (.int .i64 a1_0) := (blk_cell BK113.out 0).trans rfl; have hcz15_1 : w13.cell? ⟨gb113, 1, none⟩ = some (.slice A1_1 l1_1.length c1_1) := (blk_cell BK113.out 1).trans rfl; have hcz15_2 : w13.cell? ⟨gb113, 2, none⟩ = some (.bool a1_2) := (blk_cell BK113.out 2).trans rfl; have hfz15_0 := blk_frozen BK113.out 0; have hfz15_1 := blk_frozen BK113.out 1; have hfz15_2 := blk_frozen BK113.out 2) | (go_at_call 34; (with_reducible refine (chain_Ver_sound.calls a1_0 _ _ l1_1 a1_2 t116 _ ?side1 ?side2 A9.out).mono ?_); (case side1 => repeat (first | exact (Kd.V_reads' HO1_1.out).2.2 | (with_reducible refine Kd.C_alloc ?_ _) | (with_reducible refine Kd.C_drewN ?_ _) | (with_reducible refine Kd.C_drew ?_))); (case side2 => exact (Kd.V_reads' HO1_1.out).2.1); rintro e w16 ⟨rfl, hb⟩; have n0_ := Aside0.mk (Kd.V_below (by (with_reducible repeat (first | apply Kd.V_alloc | apply Kd.V_drewN | apply Kd.V_drew)); exact HO0_0.out) hb); have n1_ := Aside0.mk (Kd.V_below (by (with_reducible repeat (first | apply Kd.V_alloc | apply Kd.V_drewN | apply Kd.V_drew)); exact HO1_1.out) hb); have n2_ := Aside0.mk (blk_below (g := gb112) (o := .cells #[.slice A0_0 l0_0.length c0_0] 29 (0, 0)) (by (with_reducible repeat (first | refine blk_drewN ?_ _ | refine blk_drew ?_ | refine blk_alloc ?_ _)); exact BK112.out) hb); have n3_ := Aside0.mk (blk_below (g := gb113) (o := .cells #[.int .i64 a1_0, .slice A1_1 l1_1.length c1_1, .bool a1_2] 37 (0, 0)) (by (with_reducible repeat (first | refine blk_drewN ?_ _ | refine blk_drew ?_ | refine blk_alloc ?_ _)); exact BK113.out) hb); have n4_ := Aside0.mk (blk_below (g := gb114) (o := .cells #[.slice none 0 0] 29 (0, 0)) (by (with_reducible repeat (first | refine blk_drewN ?_ _ | refine blk_drew ?_ | refine blk_alloc ?_ _)); exact BK114.out) hb); have n5_ := Aside0.mk (below_step (by repeat (first | (with_reducible first | exact HB.out | apply below_alloc | apply pw_below_drewN | apply below_drew1 | refine below_set ?_ GE112.out | refine below_set ?_ GE113.out | refine below_set ?_ GE114.out) | exact HB.out)) hb); clear HO0_0; clear HO1_1; clear BK112; clear BK113; clear BK114; clear HB; have HO0_0 := n0_; have HO1_1 := n1_; have BK112 := n2_; have BK113 := n3_; have BK114 := n4_; have HB := n5_; clear n0_ n1_ n2_ n3_ n4_ n5_; (try clear hb); (try clear hb2); (try clear hk); (try clear hi)))
      go_meet
      case rel => exact ⟨_, (!t116), (by first | rfl | (simp; done) | (simp [*]; done)), H', ⟨by first | omega | exact Nat.le_refl _⟩, ⟨by (with_reducible repeat (first | apply Kd.V_alloc | apply Kd.V_drewN | apply Kd.V_drew)); exact Kd.V_mono HO0_0.out (fun _ hk => ⟨hk.1.1.1, ⟨hk.1.1.2, ⟨hk.1.2, hk.2⟩⟩⟩)⟩, ⟨by (with_reducible repeat (first | apply Kd.V_alloc | apply Kd.V_drewN | apply Kd.V_drew)); exact Kd.V_mono HO1_1.out (fun _ hk => ⟨hk.1.1.1, ⟨hk.1.1.2, ⟨hk.1.2, hk.2⟩⟩⟩)⟩, ⟨by (with_reducible repeat (first | refine blk_drewN ?_ _ | refine blk_drew ?_ | refine blk_alloc ?_ _)); exact BK112.out⟩, ⟨by (with_reducible repeat (first | refine blk_drewN ?_ _ | refine blk_drew ?_ | refine blk_alloc ?_ _)); exact BK113.out⟩, ⟨by (with_reducible repeat (first | refine blk_drewN ?_ _ | refine blk_drew ?_ | refine blk_alloc ?_ _)); exact BK114.out⟩, ⟨by repeat (first | (with_reducible first | exact HB.out | apply below_alloc | apply pw_below_drewN | apply below_drew1 | refine below_set ?_ GE112.out | refine below_set ?_ GE113.out | refine below_set ?_ GE114.out) | exact HB.out)⟩⟩
    · replace c8 := Bool.eq_false_iff.mpr c8
      subst c8
      have H1 : (chain_Push.j0 k true l0_0 a1_0 l1_1 a1_2) = some (r1, r2) := by rw [if_neg (show ¬ (false = true) by decide)] at H; exact H
      clear H
      have H := H1
      clear H1
      have H' := Aside0.mk H
      clear H
      have hnb17 := NB112_113.out
      have hnc17 := NB113_112.out
      have hnb18 := NB112_114.out
      have hnc18 := NB114_112.out
      have hcz19_0 : w6.cell? ⟨gb112, 0, none⟩ = some (.slice A0_0 l0_0.length c0_0) := (blk_cell BK112.out 0).trans rfl
      have hfz19_0 := blk_frozen BK112.out 0
      go_wp2_with (first | ((with_reducible refine gate_callee (f := 24) rfl ?_); refine goesL_ (some 8) rfl rfl Try.func24 (by kernel_rfl) rfl #[.agg #[.slice A0_0 l0_0.length c0_0]] rfl (by (try simp only [List.map_toArray, List.map_cons, List.map_nil]); first | done | rfl | (simp only [List.length_drop, List.length_take]; rfl)) ?_; (with_reducible refine (chain_Sane.calls k _ _ l0_0 false _ ?side1 ?side2 A7.out).mono ?_); (case side1 => repeat (first | exact (Kd.V_reads' HO0_0.out).2.2 | (with_reducible refine Kd.C_alloc ?_ _) | (with_reducible refine Kd.C_drewN ?_ _) | (with_reducible refine Kd.C_drew ?_))); (case side2 => exact (Kd.V_reads' HO0_0.out).2.1); rintro e w20 ⟨rfl, hb⟩; refine ⟨_, rfl, ?_⟩; have n0_ := Aside0.mk (Kd.V_below (by (with_reducible repeat (first | apply Kd.V_alloc | apply Kd.V_drewN | apply Kd.V_drew)); exact HO0_0.out) hb); have n1_ := Aside0.mk (Kd.V_below (by (with_reducible repeat (first | apply Kd.V_alloc | apply Kd.V_drewN | apply Kd.V_drew)); exact HO1_1.out) hb); have n2_ := Aside0.mk (blk_below (g := gb112) (o := .cells #[.slice A0_0 l0_0.length c0_0] 29 (0, 0)) (by (with_reducible repeat (first | refine blk_drewN ?_ _ | refine blk_drew ?_ | refine blk_alloc ?_ _)); exact BK112.out) hb); have n3_ := Aside0.mk (blk_below (g := gb113) (o := .cells #[.int .i64 a1_0, .slice A1_1 l1_1.length c1_1, .bool a1_2] 37 (0, 0)) (by (with_reducible repeat (first | refine blk_drewN ?_ _ | refine blk_drew ?_ | refine blk_alloc ?_ _)); exact BK113.out) hb); have n4_ := Aside0.mk (blk_below (g := gb114) (o := .cells #[.slice none 0 0] 29 (0, 0)) (by (with_reducible repeat (first | refine blk_drewN ?_ _ | refine blk_drew ?_ | refine blk_alloc ?_ _)); exact BK114.out) hb); have n5_ := Aside0.mk (below_step (by repeat (first | (with_reducible first | exact HB.out | apply below_alloc | apply pw_below_drewN | apply below_drew1 | refine below_set ?_ GE112.out | refine below_set ?_ GE113.out | refine below_set ?_ GE114.out) | exact HB.out)) hb); clear HO0_0; clear HO1_1; clear BK112; clear BK113; clear BK114; clear HB; have HO0_0 := n0_; have HO1_1 := n1_; have BK112 := n2_; have BK113 := n3_; have BK114 := n4_; have HB := n5_; clear n0_ n1_ n2_ n3_ n4_ n5_; (try clear hb); (try clear hb2); (try clear hk); (try clear hi)))
      go_meet
      case rel => exact ⟨_, (true), (by first | rfl | (simp; done) | (simp [*]; done)), H', ⟨by first | omega | exact Nat.le_refl _⟩, ⟨by (with_reducible repeat (first | apply Kd.V_alloc | apply Kd.V_drewN | apply Kd.V_drew)); exact Kd.V_mono HO0_0.out (fun _ hk => ⟨hk.1.1.1, ⟨hk.1.1.2, ⟨hk.1.2, hk.2⟩⟩⟩)⟩, ⟨by (with_reducible repeat (first | apply Kd.V_alloc | apply Kd.V_drewN | apply Kd.V_drew)); exact Kd.V_mono HO1_1.out (fun _ hk => ⟨hk.1.1.1, ⟨hk.1.1.2, ⟨hk.1.2, hk.2⟩⟩⟩)⟩, ⟨by (with_reducible repeat (first | refine blk_drewN ?_ _ | refine blk_drew ?_ | refine blk_alloc ?_ _)); exact BK112.out⟩, ⟨by (with_reducible repeat (first | refine blk_drewN ?_ _ | refine blk_drew ?_ | refine blk_alloc ?_ _)); exact BK113.out⟩, ⟨by (with_reducible repeat (first | refine blk_drewN ?_ _ | refine blk_drew ?_ | refine blk_alloc ?_ _)); exact BK114.out⟩, ⟨by repeat (first | (with_reducible first | exact HB.out | apply below_alloc | apply pw_below_drewN | apply below_drew1 | refine below_set ?_ GE112.out | refine below_set ?_ GE113.out | refine below_set ?_ GE114.out) | exact HB.out)⟩⟩
  case rest =>
    clear HC3
    try clear c1
    try clear c2
    try clear p2
    try clear c8
    try clear c10
    try clear c11
    try clear c14
    try clear c17
    try clear c18
    try clear hcz12_0
    try clear hcz15_0
    try clear hcz15_1
    try clear hcz15_2
    try clear hcz19_0
    try clear hfz12_0
    try clear hfz15_0
    try clear hfz15_1
    try clear hfz15_2
    try clear hfz19_0
    obtain ⟨kq, x6_2, rfl, HA, HJ2, HO_113000, HO_114001, BK112, BK113, BK114, HB⟩ := hcut
    cases kq with
    | zero => exact absurd HA.out (by simp [chain_Push.j0])
    | succ kj2 =>
      have H := HA.out
      clear HA
      simp only [chain_Push.j0] at H
      by_cases c21 : x6_2 = true
      · subst c21
        have H1 : (some (([] : List (S37)), 1)) = some (r1, r2) := by rw [if_pos rfl] at H; exact H
        clear H
        have H := H1
        clear H1
        simp only [Option.some.injEq, Prod.mk.injEq] at H
        obtain ⟨rfl, rfl⟩ := H
        have hnb22 := NB114_112.out
        have hnc22 := NB112_114.out
        have hnb23 := NB114_113.out
        have hnc23 := NB113_114.out
        have hcz24_0 : wc.cell? ⟨gb114, 0, none⟩ = some (.slice none 0 0) := (blk_cell BK114.out 0).trans rfl
        have hfz24_0 := blk_frozen BK114.out 0
        go_wp2
        refine bodyPost_ret (results_ct rfl _ _ gb114 29 #[.slice none 0 0] (0, 0) _ rfl (by (with_reducible repeat (first | refine blk_drewN ?_ _ | refine blk_drew ?_ | refine blk_alloc ?_ _)); refine blk_put (cs := #[.slice none 0 0]) ?_ 0 _ rfl; (with_reducible repeat (first | refine blk_drewN ?_ _ | refine blk_drew ?_ | refine blk_alloc ?_ _)); exact BK114.out) Try.underlying29 rfl (by kernel_rfl)) rfl ?_
        exact ⟨_, by first | rfl | (simp [errW_none, errW_some] <;> rfl) | (simp [*, errW_none, errW_some] <;> rfl), by first | exact Kd.S_nil _ _ _ _ _ | exact Kd.N_nil _ _ _ _ _ | exact Kd.V_nil _ _ _ _ _ | exact Kd.Q_nil _ _ _ _ _ | exact Kd.R_nil _ _ _ _ _, by repeat (first | (with_reducible first | exact HB.out | apply below_alloc | apply pw_below_drewN | apply below_drew1 | refine below_set ?_ GE112.out | refine below_set ?_ GE113.out | refine below_set ?_ GE114.out) | exact HB.out)⟩
      · replace c21 := Bool.eq_false_iff.mpr c21
        subst c21
        have H1 : ((chain_Last.f l0_0).bind fun t117 => (if a1_0 ≤ t117 then (some (([] : List (S37)), 7)) else ((chain_Ver.f l0_0).bind fun t118 => ((some (([(⟨a1_0, l1_1, a1_2⟩ : S37)] : List (S37)) : List (S37))).bind fun y121 => (if t118.length + y121.length < 3518437208883 then (some ((t118 ++ y121), 0)) else (none)))))) = some (r1, r2) := by rw [if_neg (show ¬ (false = true) by decide)] at H; exact H
        clear H
        have H := H1
        clear H1
        replace H := Option.bind_eq_some_iff.mp H
        obtain ⟨t117, A250, H⟩ := H
        replace H : (if a1_0 ≤ t117 then (some (([] : List (S37)), 7)) else ((chain_Ver.f l0_0).bind fun t118 => ((some (([(⟨a1_0, l1_1, a1_2⟩ : S37)] : List (S37)) : List (S37))).bind fun y121 => (if t118.length + y121.length < 3518437208883 then (some ((t118 ++ y121), 0)) else (none))))) = some (r1, r2) := H
        have A25 := Aside0.mk A250
        clear A250
        by_cases c26 : a1_0 ≤ t117
        · rw [if_pos c26] at H
          have c26b0 : decide (a1_0 ≤ t117) = true := decide_eq_true c26
          clear c26
          simp only [Option.some.injEq, Prod.mk.injEq] at H
          obtain ⟨rfl, rfl⟩ := H
          try go_wp2
          have n0_ := Aside0.mk (Kd.V_drew HO_113000.out)
          have n1_ := Aside0.mk (Kd.V_drew HO_114001.out)
          have n2_ := Aside0.mk (blk_drew BK112.out)
          have n3_ := Aside0.mk (blk_drew BK113.out)
          have n4_ := Aside0.mk (blk_drew BK114.out)
          have n5_ := Aside0.mk (below_drew1 HB.out)
          clear HO_113000
          clear HO_114001
          clear BK112
          clear BK113
          clear BK114
          clear HB
          have HO_113000 := n0_
          have HO_114001 := n1_
          have BK112 := n2_
          have BK113 := n3_
          have BK114 := n4_
          have HB := n5_
          clear n0_ n1_ n2_ n3_ n4_ n5_
          refine start_ (n := 6) (S := fun w' => w'.cell? ⟨gb113, 0, none⟩ = some (.int .i64 a1_0) ∧ w'.cell? ⟨gb113, 1, none⟩ = some (.slice A1_1 l1_1.length c1_1) ∧ w'.cell? ⟨gb113, 2, none⟩ = some (.bool a1_2) ∧ w'.cell? ⟨gb112, 0, none⟩ = some (.slice A0_0 l0_0.length c0_0)) (ds := []) #[false, false, false, false, false, false] (by kernel_rfl) rfl rfl ⟨(blk_cell BK113.out 0).trans rfl, (blk_cell BK113.out 1).trans rfl, (blk_cell BK113.out 2).trans rfl, (blk_cell BK112.out 0).trans rfl⟩ (fun hHeld => ?_)
          generalize wc.drew = w27 at HO_113000 HO_114001 BK112 BK113 BK114 HB hHeld ⊢
          refine pure_ (i := 0) (N := some 17) (v := ?_) (a' := ?_) #[true, false, false, false, false, false] rfl rfl (by kernel_rfl) (fun _ _ _ h => h) (Or.inl ⟨by rfl, ?_⟩) ?_ ?_
          rotate_left
          · intro w'
            go_simp
            with_reducible rfl
          rotate_left
          · simp only [Act.put, List.setIfInBounds_toArray, List.set_cons_zero, List.set_cons_succ, i64_w, i32_w]
            rfl
          refine take_ (i := 1) (N := some 18) (v := ?_) (a' := ?_) #[true, true, false, false, false, false] rfl rfl (by kernel_rfl) (fun _ _ _ h => h) (Or.inl ⟨by rfl, ?_⟩) hHeld ?_ ?_
          rotate_left
          · rintro w' ⟨s0, s1, s2, s3⟩
            go_simp
            with_reducible rfl
          rotate_left
          · simp only [Act.put, List.setIfInBounds_toArray, List.set_cons_zero, List.set_cons_succ, i64_w, i32_w]
            rfl
          refine take_ (i := 2) (N := some 19) (v := ?_) (a' := ?_) #[true, true, true, false, false, false] rfl rfl (by kernel_rfl) (fun _ _ _ h => h) (Or.inl ⟨by rfl, ?_⟩) hHeld ?_ ?_
          rotate_left
          · rintro w' ⟨s0, s1, s2, s3⟩
            go_simp
            with_reducible rfl
          rotate_left
          · simp only [Act.put, List.setIfInBounds_toArray, List.set_cons_zero, List.set_cons_succ, i64_w, i32_w]
            rfl
          refine one_ (i := 3) (N := some 20) #[true, true, true, true, false, false] rfl rfl (by kernel_rfl) (by decide) (fun K hK => ?_)
          refine goes_ Try.func16 (by kernel_rfl) rfl #[.agg #[.slice A0_0 l0_0.length c0_0]] (by rfl) rfl rfl (by (try simp only [List.map_toArray, List.map_cons, List.map_nil]); first | done | rfl | (simp only [List.length_drop, List.length_take]; rfl)) ?_
          with_reducible refine (chain_Last.calls _ _ l0_0 t117 _ ?side1 ?side2 A25.out).mono ?_
          (case side1 => repeat (first | exact (Kd.V_reads' HO_113000.out).2.2 | (with_reducible refine Kd.C_alloc ?_ _) | (with_reducible refine Kd.C_drewN ?_ _) | (with_reducible refine Kd.C_drew ?_)))
          (case side2 => exact (Kd.V_reads' HO_113000.out).2.1)
          rintro e w28 ⟨rfl, hb⟩
          refine ⟨_, rfl, ?_⟩
          have n0_ := Aside0.mk (Kd.V_below (by (with_reducible repeat (first | apply Kd.V_alloc | apply Kd.V_drewN | apply Kd.V_drew)); exact HO_113000.out) hb)
          have n1_ := Aside0.mk (Kd.V_below (by (with_reducible repeat (first | apply Kd.V_alloc | apply Kd.V_drewN | apply Kd.V_drew)); exact HO_114001.out) hb)
          have n2_ := Aside0.mk (blk_below (g := gb112) (o := .cells #[.slice A0_0 l0_0.length c0_0] 29 (0, 0)) (by (with_reducible repeat (first | refine blk_drewN ?_ _ | refine blk_drew ?_ | refine blk_alloc ?_ _)); exact BK112.out) hb)
          have n3_ := Aside0.mk (blk_below (g := gb113) (o := .cells #[.int .i64 a1_0, .slice A1_1 l1_1.length c1_1, .bool a1_2] 37 (0, 0)) (by (with_reducible repeat (first | refine blk_drewN ?_ _ | refine blk_drew ?_ | refine blk_alloc ?_ _)); exact BK113.out) hb)
          have n4_ := Aside0.mk (blk_below (g := gb114) (o := .cells #[.slice none 0 0] 29 (0, 0)) (by (with_reducible repeat (first | refine blk_drewN ?_ _ | refine blk_drew ?_ | refine blk_alloc ?_ _)); exact BK114.out) hb)
          have n5_ := Aside0.mk (below_step (by repeat (first | (with_reducible first | exact HB.out | apply below_alloc | apply pw_below_drewN | apply below_drew1 | refine below_set ?_ GE112.out | refine below_set ?_ GE113.out | refine below_set ?_ GE114.out) | exact HB.out)) hb)
          clear HO_113000
          clear HO_114001
          clear BK112
          clear BK113
          clear BK114
          clear HB
          have HO_113000 := n0_
          have HO_114001 := n1_
          have BK112 := n2_
          have BK113 := n3_
          have BK114 := n4_
          have HB := n5_
          clear n0_ n1_ n2_ n3_ n4_ n5_
          (try clear hb)
          (try clear hb2)
          (try clear hk)
          (try clear hi)
          refine hK.out _ _ ⟨(blk_cell BK113.out 0).trans rfl, (blk_cell BK113.out 1).trans rfl, (blk_cell BK113.out 2).trans rfl, (blk_cell BK112.out 0).trans rfl⟩ (fun hHeld => ?_)
          clear hK K
          refine norm_ (a' := ?_) ?_ ?_
          rotate_left
          · show Act.put _ (some 20) _ = _
            simp only [Act.put, List.setIfInBounds_toArray, List.set_cons_zero, List.set_cons_succ, i64_w, i32_w]
            rfl
          refine pure_ (i := 4) (N := some 21) (v := ?_) (a' := ?_) #[true, true, true, true, true, false] rfl rfl (by kernel_rfl) (fun _ _ _ h => h) (Or.inl ⟨by rfl, ?_⟩) ?_ ?_
          rotate_left
          · intro w'
            go_simp
            with_reducible rfl
          rotate_left
          · simp only [Act.put, List.setIfInBounds_toArray, List.set_cons_zero, List.set_cons_succ, i64_w, i32_w]
            rfl
          refine pure_ (i := 5) (N := some 16) (v := ?_) (a' := ?_) #[true, true, true, true, true, true] rfl rfl (by kernel_rfl) (fun _ _ _ h => h) (Or.inl ⟨by rfl, ?_⟩) ?_ ?_
          rotate_left
          · intro w'
            go_simp
            with_reducible rfl
          rotate_left
          · simp only [Act.put, List.setIfInBounds_toArray, List.set_cons_zero, List.set_cons_succ, i64_w, i32_w]
            rfl
          refine done_ (by kernel_rfl) ?_
          have hnb29 := NB114_112.out
          have hnc29 := NB112_114.out
          have hnb30 := NB114_113.out
          have hnc30 := NB113_114.out
          have hcz31_0 : w28.cell? ⟨gb114, 0, none⟩ = some (.slice none 0 0) := (blk_cell BK114.out 0).trans rfl
          have hfz31_0 := blk_frozen BK114.out 0
          try go_wp2
          refine bodyPost_ret (results_ct rfl _ _ gb114 29 #[.slice none 0 0] (0, 0) _ rfl (by (with_reducible repeat (first | refine blk_drewN ?_ _ | refine blk_drew ?_ | refine blk_alloc ?_ _)); refine blk_put (cs := #[.slice none 0 0]) ?_ 0 _ rfl; (with_reducible repeat (first | refine blk_drewN ?_ _ | refine blk_drew ?_ | refine blk_alloc ?_ _)); exact BK114.out) Try.underlying29 rfl (by kernel_rfl)) rfl ?_
          exact ⟨_, by first | rfl | (simp [errW_none, errW_some] <;> rfl) | (simp [*, errW_none, errW_some] <;> rfl), by first | exact Kd.S_nil _ _ _ _ _ | exact Kd.N_nil _ _ _ _ _ | exact Kd.V_nil _ _ _ _ _ | exact Kd.Q_nil _ _ _ _ _ | exact Kd.R_nil _ _ _ _ _, by repeat (first | (with_reducible first | exact HB.out | apply below_alloc | apply pw_below_drewN | apply below_drew1 | refine below_set ?_ GE112.out | refine below_set ?_ GE113.out | refine below_set ?_ GE114.out) | exact HB.out)⟩
        · rw [if_neg c26] at H
          have c26b0 : decide (a1_0 ≤ t117) = false := decide_eq_false c26
          clear c26
          replace H := Option.bind_eq_some_iff.mp H
          obtain ⟨t118, A320, H⟩ := H
          replace H : ((some (([(⟨a1_0, l1_1, a1_2⟩ : S37)] : List (S37)) : List (S37))).bind fun y121 => (if t118.length + y121.length < 3518437208883 then (some ((t118 ++ y121), 0)) else (none))) = some (r1, r2) := H
          have A32 := Aside0.mk A320
          clear A320
          obtain ⟨y121, hy121⟩ : ∃ y_ : List (S37), y_ = (([(⟨a1_0, l1_1, a1_2⟩ : S37)] : List (S37))) := ⟨_, rfl⟩
          replace H : (if t118.length + y121.length < 3518437208883 then (some ((t118 ++ y121), 0)) else (none)) = some (r1, r2) := by first | (rw [hy121]; with_reducible exact H) | (have H2_ := (Option.bind_some _ _).symm.trans H; rw [hy121]; with_reducible exact H2_) | (have H2_ := (Option.bind_some _ _).symm.trans H; with_reducible exact H2_) | with_reducible exact H | (rw [hy121]; exact H) | exact H
          have Ny121 := Aside0.mk hy121
          clear hy121
          by_cases c33 : t118.length + y121.length < 3518437208883
          · rw [if_pos c33] at H
            have LMc33 := Aside0.mk c33
            clear c33
            obtain ⟨y124, hy124⟩ : ∃ y_ : List (S37), y_ = (t118 ++ y121) := ⟨_, rfl⟩
            replace H : (some (y124, 0)) = some (r1, r2) := by first | (rw [hy124]; with_reducible exact H) | (have H2_ := (Option.bind_some _ _).symm.trans H; rw [hy124]; with_reducible exact H2_) | (have H2_ := (Option.bind_some _ _).symm.trans H; with_reducible exact H2_) | with_reducible exact H | (rw [hy124]; exact H) | exact H
            have Ny124 := Aside0.mk hy124
            clear hy124
            simp only [Option.some.injEq, Prod.mk.injEq] at H
            obtain ⟨rfl, rfl⟩ := H
            try go_wp2
            have n0_ := Aside0.mk (Kd.V_drew HO_113000.out)
            have n1_ := Aside0.mk (Kd.V_drew HO_114001.out)
            have n2_ := Aside0.mk (blk_drew BK112.out)
            have n3_ := Aside0.mk (blk_drew BK113.out)
            have n4_ := Aside0.mk (blk_drew BK114.out)
            have n5_ := Aside0.mk (below_drew1 HB.out)
            clear HO_113000
            clear HO_114001
            clear BK112
            clear BK113
            clear BK114
            clear HB
            have HO_113000 := n0_
            have HO_114001 := n1_
            have BK112 := n2_
            have BK113 := n3_
            have BK114 := n4_
            have HB := n5_
            clear n0_ n1_ n2_ n3_ n4_ n5_
            refine start_ (n := 6) (S := fun w' => w'.cell? ⟨gb113, 0, none⟩ = some (.int .i64 a1_0) ∧ w'.cell? ⟨gb113, 1, none⟩ = some (.slice A1_1 l1_1.length c1_1) ∧ w'.cell? ⟨gb113, 2, none⟩ = some (.bool a1_2) ∧ w'.cell? ⟨gb112, 0, none⟩ = some (.slice A0_0 l0_0.length c0_0)) (ds := []) #[false, false, false, false, false, false] (by kernel_rfl) rfl rfl ⟨(blk_cell BK113.out 0).trans rfl, (blk_cell BK113.out 1).trans rfl, (blk_cell BK113.out 2).trans rfl, (blk_cell BK112.out 0).trans rfl⟩ (fun hHeld => ?_)
            generalize wc.drew = w34 at HO_113000 HO_114001 BK112 BK113 BK114 HB hHeld ⊢
            refine pure_ (i := 0) (N := some 17) (v := ?_) (a' := ?_) #[true, false, false, false, false, false] rfl rfl (by kernel_rfl) (fun _ _ _ h => h) (Or.inl ⟨by rfl, ?_⟩) ?_ ?_
            rotate_left
            · intro w'
              go_simp
              with_reducible rfl
            rotate_left
            · simp only [Act.put, List.setIfInBounds_toArray, List.set_cons_zero, List.set_cons_succ, i64_w, i32_w]
              rfl
            refine take_ (i := 1) (N := some 18) (v := ?_) (a' := ?_) #[true, true, false, false, false, false] rfl rfl (by kernel_rfl) (fun _ _ _ h => h) (Or.inl ⟨by rfl, ?_⟩) hHeld ?_ ?_
            rotate_left
            · rintro w' ⟨s0, s1, s2, s3⟩
              go_simp
              with_reducible rfl
            rotate_left
            · simp only [Act.put, List.setIfInBounds_toArray, List.set_cons_zero, List.set_cons_succ, i64_w, i32_w]
              rfl
            refine take_ (i := 2) (N := some 19) (v := ?_) (a' := ?_) #[true, true, true, false, false, false] rfl rfl (by kernel_rfl) (fun _ _ _ h => h) (Or.inl ⟨by rfl, ?_⟩) hHeld ?_ ?_
            rotate_left
            · rintro w' ⟨s0, s1, s2, s3⟩
              go_simp
              with_reducible rfl
            rotate_left
            · simp only [Act.put, List.setIfInBounds_toArray, List.set_cons_zero, List.set_cons_succ, i64_w, i32_w]
              rfl
            refine one_ (i := 3) (N := some 20) #[true, true, true, true, false, false] rfl rfl (by kernel_rfl) (by decide) (fun K hK => ?_)
            refine goes_ Try.func16 (by kernel_rfl) rfl #[.agg #[.slice A0_0 l0_0.length c0_0]] (by rfl) rfl rfl (by (try simp only [List.map_toArray, List.map_cons, List.map_nil]); first | done | rfl | (simp only [List.length_drop, List.length_take]; rfl)) ?_
            with_reducible refine (chain_Last.calls _ _ l0_0 t117 _ ?side1 ?side2 A25.out).mono ?_
            (case side1 => repeat (first | exact (Kd.V_reads' HO_113000.out).2.2 | (with_reducible refine Kd.C_alloc ?_ _) | (with_reducible refine Kd.C_drewN ?_ _) | (with_reducible refine Kd.C_drew ?_)))
            (case side2 => exact (Kd.V_reads' HO_113000.out).2.1)
            rintro e w35 ⟨rfl, hb⟩
            refine ⟨_, rfl, ?_⟩
            have n0_ := Aside0.mk (Kd.V_below (by (with_reducible repeat (first | apply Kd.V_alloc | apply Kd.V_drewN | apply Kd.V_drew)); exact HO_113000.out) hb)
            have n1_ := Aside0.mk (Kd.V_below (by (with_reducible repeat (first | apply Kd.V_alloc | apply Kd.V_drewN | apply Kd.V_drew)); exact HO_114001.out) hb)
            have n2_ := Aside0.mk (blk_below (g := gb112) (o := .cells #[.slice A0_0 l0_0.length c0_0] 29 (0, 0)) (by (with_reducible repeat (first | refine blk_drewN ?_ _ | refine blk_drew ?_ | refine blk_alloc ?_ _)); exact BK112.out) hb)
            have n3_ := Aside0.mk (blk_below (g := gb113) (o := .cells #[.int .i64 a1_0, .slice A1_1 l1_1.length c1_1, .bool a1_2] 37 (0, 0)) (by (with_reducible repeat (first | refine blk_drewN ?_ _ | refine blk_drew ?_ | refine blk_alloc ?_ _)); exact BK113.out) hb)
            have n4_ := Aside0.mk (blk_below (g := gb114) (o := .cells #[.slice none 0 0] 29 (0, 0)) (by (with_reducible repeat (first | refine blk_drewN ?_ _ | refine blk_drew ?_ | refine blk_alloc ?_ _)); exact BK114.out) hb)
            have n5_ := Aside0.mk (below_step (by repeat (first | (with_reducible first | exact HB.out | apply below_alloc | apply pw_below_drewN | apply below_drew1 | refine below_set ?_ GE112.out | refine below_set ?_ GE113.out | refine below_set ?_ GE114.out) | exact HB.out)) hb)
            clear HO_113000
            clear HO_114001
            clear BK112
            clear BK113
            clear BK114
            clear HB
            have HO_113000 := n0_
            have HO_114001 := n1_
            have BK112 := n2_
            have BK113 := n3_
            have BK114 := n4_
            have HB := n5_
            clear n0_ n1_ n2_ n3_ n4_ n5_
            (try clear hb)
            (try clear hb2)
            (try clear hk)
            (try clear hi)
            refine hK.out _ _ ⟨(blk_cell BK113.out 0).trans rfl, (blk_cell BK113.out 1).trans rfl, (blk_cell BK113.out 2).trans rfl, (blk_cell BK112.out 0).trans rfl⟩ (fun hHeld => ?_)
            clear hK K
            refine norm_ (a' := ?_) ?_ ?_
            rotate_left
            · show Act.put _ (some 20) _ = _
              simp only [Act.put, List.setIfInBounds_toArray, List.set_cons_zero, List.set_cons_succ, i64_w, i32_w]
              rfl
            refine pure_ (i := 4) (N := some 21) (v := ?_) (a' := ?_) #[true, true, true, true, true, false] rfl rfl (by kernel_rfl) (fun _ _ _ h => h) (Or.inl ⟨by rfl, ?_⟩) ?_ ?_
            rotate_left
            · intro w'
              go_simp
              with_reducible rfl
            rotate_left
            · simp only [Act.put, List.setIfInBounds_toArray, List.set_cons_zero, List.set_cons_succ, i64_w, i32_w]
              rfl
            refine pure_ (i := 5) (N := some 16) (v := ?_) (a' := ?_) #[true, true, true, true, true, true] rfl rfl (by kernel_rfl) (fun _ _ _ h => h) (Or.inl ⟨by rfl, ?_⟩) ?_ ?_
            rotate_left
            · intro w'
              go_simp
              with_reducible rfl
            rotate_left
            · simp only [Act.put, List.setIfInBounds_toArray, List.set_cons_zero, List.set_cons_succ, i64_w, i32_w]
              rfl
            refine done_ (by kernel_rfl) ?_
            try go_wp2
            have n0_ := Aside0.mk (Kd.V_drew HO_113000.out)
            have n1_ := Aside0.mk (Kd.V_drew HO_114001.out)
            have n2_ := Aside0.mk (blk_drew BK112.out)
            have n3_ := Aside0.mk (blk_drew BK113.out)
            have n4_ := Aside0.mk (blk_drew BK114.out)
            have n5_ := Aside0.mk (below_drew1 HB.out)
            clear HO_113000
            clear HO_114001
            clear BK112
            clear BK113
            clear BK114
            clear HB
            have HO_113000 := n0_
            have HO_114001 := n1_
            have BK112 := n2_
            have BK113 := n3_
            have BK114 := n4_
            have HB := n5_
            clear n0_ n1_ n2_ n3_ n4_ n5_
            refine start_ (n := 9) (S := fun w' => w'.cell? ⟨gb112, 0, none⟩ = some (.slice A0_0 l0_0.length c0_0) ∧ w'.cell? ⟨gb113, 0, none⟩ = some (.int .i64 a1_0) ∧ w'.cell? ⟨gb113, 1, none⟩ = some (.slice A1_1 l1_1.length c1_1) ∧ w'.cell? ⟨gb113, 2, none⟩ = some (.bool a1_2)) (ds := []) #[false, false, false, false, false, false, false, false, false] (by kernel_rfl) rfl rfl ⟨(blk_cell BK112.out 0).trans rfl, (blk_cell BK113.out 0).trans rfl, (blk_cell BK113.out 1).trans rfl, (blk_cell BK113.out 2).trans rfl⟩ (fun hHeld => ?_); refine with_tabW chain_Push.tab5 chain_Push.bits5 (fun HT_ HW_ => ?_)
            generalize w35.drew = w36 at HO_113000 HO_114001 BK112 BK113 BK114 HB hHeld ⊢
            refine pure_ (i := 0) (N := some 23) (v := ?_) (a' := ?_) #[true, false, false, false, false, false, false, false, false] rfl rfl (any_of HT_.out (by kernel_rfl)) (fun _ _ _ h => h) (Or.inl ⟨by rfl, ?_⟩) ?_ ?_
            rotate_left
            · intro w'
              go_simp
              with_reducible rfl
            rotate_left
            · simp only [Act.put, List.setIfInBounds_toArray, List.set_cons_zero, List.set_cons_succ, i64_w, i32_w]
              rfl
            refine take_ (i := 1) (N := some 24) (v := ?_) (a' := ?_) #[true, true, false, false, false, false, false, false, false] rfl rfl (take_ofW HT_.out HW_.out (by kernel_rfl)) (fun _ _ _ h => h) (Or.inl ⟨by rfl, ?_⟩) hHeld ?_ ?_
            rotate_left
            · rintro w' ⟨s0, s1, s2, s3⟩
              go_simp
              with_reducible rfl
            rotate_left
            · simp only [Act.put, List.setIfInBounds_toArray, List.set_cons_zero, List.set_cons_succ, i64_w, i32_w]
              rfl
            refine take_ (i := 3) (N := some 26) (v := ?_) (a' := ?_) #[true, true, false, true, false, false, false, false, false] rfl rfl (take_ofW HT_.out HW_.out (by kernel_rfl)) (fun _ _ _ h => h) (Or.inl ⟨by rfl, ?_⟩) hHeld ?_ ?_
            rotate_left
            · rintro w' ⟨s0, s1, s2, s3⟩
              go_simp
              with_reducible rfl
            rotate_left
            · simp only [Act.put, List.setIfInBounds_toArray, List.set_cons_zero, List.set_cons_succ, i64_w, i32_w]
              rfl
            refine join_ (σ := Value × Value) 4 #[true, true, true, true, true, false, false, false, false] (fun s_ => [(25, s_.1), (27, s_.2)]) (fun s_ w' => (w'.cell? ⟨gb112, 0, none⟩ = some (.slice A0_0 l0_0.length c0_0) ∧ w'.cell? ⟨gb113, 0, none⟩ = some (.int .i64 a1_0) ∧ w'.cell? ⟨gb113, 1, none⟩ = some (.slice A1_1 l1_1.length c1_1) ∧ w'.cell? ⟨gb113, 2, none⟩ = some (.bool a1_2)) ∧ (Kd.N k37 37 w' w.heap.size (fun k_ => ((P0_0_ k_ ∨ P1_1_ k_) ∨ w.heap.size ≤ k_) ∧ some k_ ≠ (s_.2 : Value).ownBlock ∧ k_ ≠ gb112 ∧ k_ ≠ gb113 ∧ k_ ≠ gb114) s_.1 t118) ∧ (Kd.N k37 37 w' w.heap.size (fun k_ => ((P0_0_ k_ ∨ P1_1_ k_) ∨ w.heap.size ≤ k_) ∧ some k_ ≠ (s_.1 : Value).ownBlock ∧ k_ ≠ gb112 ∧ k_ ≠ gb113 ∧ k_ ≠ gb114) s_.2 y121) ∧ (Kd.V k37 37 w' w.heap.size (fun k_ => ((P0_0_ k_ ∨ P1_1_ k_) ∨ w.heap.size ≤ k_) ∧ some k_ ≠ (s_.1 : Value).ownBlock ∧ some k_ ≠ (s_.2 : Value).ownBlock ∧ k_ ≠ gb112 ∧ k_ ≠ gb113 ∧ k_ ≠ gb114) (.slice A0_0 l0_0.length c0_0) l0_0) ∧ (Kd.V (Kd.int .u8) 5 w' w.heap.size (fun k_ => ((P0_0_ k_ ∨ P1_1_ k_) ∨ w.heap.size ≤ k_) ∧ some k_ ≠ (s_.1 : Value).ownBlock ∧ some k_ ≠ (s_.2 : Value).ownBlock ∧ k_ ≠ gb112 ∧ k_ ≠ gb113 ∧ k_ ≠ gb114) (.slice A1_1 l1_1.length c1_1) l1_1) ∧ (w'.heap[gb112]? = some (.cells #[.slice A0_0 l0_0.length c0_0] 29 (0, 0))) ∧ (w'.heap[gb113]? = some (.cells #[.int .i64 a1_0, .slice A1_1 l1_1.length c1_1, .bool a1_2] 37 (0, 0))) ∧ (w'.heap[gb114]? = some (.cells #[.slice none 0 0] 29 (0, 0))) ∧ (Below w.heap.size w w')) ?_ ?_
            rotate_left
            · intro hCont
              refine two_ (i := 2) (j := 4) (Ni := some 25) (Nj := some 27) #[true, true, true, true, false, false, false, false, false] #[true, true, false, true, true, false, false, false, false] rfl rfl rfl rfl (two_of HT_.out (by kernel_rfl)) (by decide) (by decide) (fun K hK => ?_) (fun K hK => ?_)
              · skip
                refine goes_ Try.func30 (by kernel_rfl) rfl #[.slice A0_0 l0_0.length c0_0] (by rfl) rfl rfl (by (try simp only [List.map_toArray, List.map_cons, List.map_nil]); first | done | rfl | (simp only [List.length_drop, List.length_take]; rfl)) ?_
                with_reducible refine (chain_Ver.calls (fun k_ => (((P0_0_ k_ ∨ P1_1_ k_) ∨ w.heap.size ≤ k_) ∧ (k_ ≠ gb112 ∧ (k_ ≠ gb113 ∧ k_ ≠ gb114)))) _ _ l0_0 t118 _ ?side1 A32.out).mono ?_
                (case side1 => exact HO_113000.out)
                rintro e w37 ⟨v119, rfl, ho0, hb⟩
                refine ⟨_, rfl, ?_⟩
                have n0_ := Aside0.mk (Kd.V_elder' (by (with_reducible repeat (first | apply Kd.V_alloc | apply Kd.V_drewN | apply Kd.V_drew)); exact HO_113000.out) (Kd.N_base ho0) hb)
                have n1_ := Aside0.mk (Kd.V_elder' (by (with_reducible repeat (first | apply Kd.V_alloc | apply Kd.V_drewN | apply Kd.V_drew)); exact HO_114001.out) (Kd.N_base ho0) hb)
                have n2_ := Aside0.mk (Kd.N_lower (Kd.N_mono (ok' := fun k_ => ((P0_0_ k_ ∨ P1_1_ k_) ∨ w.heap.size ≤ k_) ∧ k_ ≠ gb112 ∧ k_ ≠ gb113 ∧ k_ ≠ gb114) ho0 (fun k_ hk_ => ⟨Or.elim hk_ (fun hs_ => hs_.1) (fun hn_ => (.inr (Nat.le_trans (below_size (by repeat (first | (with_reducible first | exact HB.out | apply below_alloc | apply pw_below_drewN | apply below_drew1 | refine below_set ?_ GE112.out | refine below_set ?_ GE113.out | refine below_set ?_ GE114.out) | exact HB.out))) hn_))), Or.elim hk_ (fun hs_ => hs_.2.1) (fun hn_ => (Kd.freshB (g := gb112) (o := .cells #[.slice A0_0 l0_0.length c0_0] 29 (0, 0)) (by (with_reducible repeat (first | refine blk_drewN ?_ _ | refine blk_drew ?_ | refine blk_alloc ?_ _)); exact BK112.out) k_ hn_)), Or.elim hk_ (fun hs_ => hs_.2.2.1) (fun hn_ => (Kd.freshB (g := gb113) (o := .cells #[.int .i64 a1_0, .slice A1_1 l1_1.length c1_1, .bool a1_2] 37 (0, 0)) (by (with_reducible repeat (first | refine blk_drewN ?_ _ | refine blk_drew ?_ | refine blk_alloc ?_ _)); exact BK113.out) k_ hn_)), Or.elim hk_ (fun hs_ => hs_.2.2.2) (fun hn_ => (Kd.freshB (g := gb114) (o := .cells #[.slice none 0 0] 29 (0, 0)) (by (with_reducible repeat (first | refine blk_drewN ?_ _ | refine blk_drew ?_ | refine blk_alloc ?_ _)); exact BK114.out) k_ hn_))⟩)) (below_size (by repeat (first | (with_reducible first | exact HB.out | apply below_alloc | apply pw_below_drewN | apply below_drew1 | refine below_set ?_ GE112.out | refine below_set ?_ GE113.out | refine below_set ?_ GE114.out) | exact HB.out))))
                have n3_ := Aside0.mk (blk_below (g := gb112) (o := .cells #[.slice A0_0 l0_0.length c0_0] 29 (0, 0)) (by (with_reducible repeat (first | refine blk_drewN ?_ _ | refine blk_drew ?_ | refine blk_alloc ?_ _)); exact BK112.out) hb)
                have n4_ := Aside0.mk (blk_below (g := gb113) (o := .cells #[.int .i64 a1_0, .slice A1_1 l1_1.length c1_1, .bool a1_2] 37 (0, 0)) (by (with_reducible repeat (first | refine blk_drewN ?_ _ | refine blk_drew ?_ | refine blk_alloc ?_ _)); exact BK113.out) hb)
                have n5_ := Aside0.mk (blk_below (g := gb114) (o := .cells #[.slice none 0 0] 29 (0, 0)) (by (with_reducible repeat (first | refine blk_drewN ?_ _ | refine blk_drew ?_ | refine blk_alloc ?_ _)); exact BK114.out) hb)
                have n6_ := Aside0.mk (below_step (by repeat (first | (with_reducible first | exact HB.out | apply below_alloc | apply pw_below_drewN | apply below_drew1 | refine below_set ?_ GE112.out | refine below_set ?_ GE113.out | refine below_set ?_ GE114.out) | exact HB.out)) hb)
                clear HO_113000
                clear HO_114001
                clear BK112
                clear BK113
                clear BK114
                clear HB
                have HO_113000 := n0_
                have HO_114001 := n1_
                have HO120 := n2_
                have BK112 := n3_
                have BK113 := n4_
                have BK114 := n5_
                have HB := n6_
                clear n0_ n1_ n2_ n3_ n4_ n5_ n6_
                (try clear hb)
                (try clear hb2)
                (try clear hk)
                (try clear hi)
                (try clear ho0)
                refine hK.out _ _ ⟨(blk_cell BK112.out 0).trans rfl, (blk_cell BK113.out 0).trans rfl, (blk_cell BK113.out 1).trans rfl, (blk_cell BK113.out 2).trans rfl⟩ (fun hHeld => ?_)
                clear hK K
                refine norm_ (a' := ?_) ?_ ?_
                rotate_left
                · show Act.put _ (some 25) _ = _
                  simp only [Act.put, List.setIfInBounds_toArray, List.set_cons_zero, List.set_cons_succ, i64_w, i32_w]
                  rfl
                refine one_ (i := 4) (N := some 27) #[true, true, true, true, true, false, false, false, false] rfl rfl (one_of HT_.out (by kernel_rfl)) (by decide) (fun K hK => ?_)
                refine Kd.N_lit_step k37 _ 37 ?hg (N' := 27) ?hd (xs := ([(⟨a1_0, l1_1, a1_2⟩ : S37)] : List (S37))) (inner := [.int .i64 a1_0, .slice A1_1 l1_1.length c1_1, .bool a1_2]) (ok := (fun k_ => ((P0_0_ k_ ∨ P1_1_ k_) ∨ w.heap.size ≤ k_) ∧ some k_ ≠ (v119 : Value).ownBlock ∧ k_ ≠ gb112 ∧ k_ ≠ gb113 ∧ k_ ≠ gb114)) (okp := (fun k_ => ((P0_0_ k_ ∨ P1_1_ k_) ∨ w.heap.size ≤ k_) ∧ some k_ ≠ (v119 : Value).ownBlock ∧ k_ ≠ gb112 ∧ k_ ≠ gb113 ∧ k_ ≠ gb114)) ?hr ?hp (fun _ hk => hk) ((show ∀ k_, w37.heap.size ≤ k_ → (fun k_ => ((P0_0_ k_ ∨ P1_1_ k_) ∨ w.heap.size ≤ k_) ∧ some k_ ≠ (v119 : Value).ownBlock ∧ k_ ≠ gb112 ∧ k_ ≠ gb113 ∧ k_ ≠ gb114) k_ from fun k_ hk => ⟨(.inr (Nat.le_trans (below_size (by repeat (first | (with_reducible first | exact HB.out | apply below_alloc | apply pw_below_drewN | apply below_drew1 | refine below_set ?_ GE112.out | refine below_set ?_ GE113.out | refine below_set ?_ GE114.out) | exact HB.out))) hk)), Kd.fresh' (Kd.N_lt (by (with_reducible repeat (first | apply Kd.N_alloc | apply Kd.N_drewN | apply Kd.N_drew)); exact HO120.out)) k_ hk, Kd.freshB (g := gb112) (o := .cells #[.slice A0_0 l0_0.length c0_0] 29 (0, 0)) (by (with_reducible repeat (first | refine blk_drewN ?_ _ | refine blk_drew ?_ | refine blk_alloc ?_ _)); exact BK112.out) k_ hk, Kd.freshB (g := gb113) (o := .cells #[.int .i64 a1_0, .slice A1_1 l1_1.length c1_1, .bool a1_2] 37 (0, 0)) (by (with_reducible repeat (first | refine blk_drewN ?_ _ | refine blk_drew ?_ | refine blk_alloc ?_ _)); exact BK113.out) k_ hk, Kd.freshB (g := gb114) (o := .cells #[.slice none 0 0] 29 (0, 0)) (by (with_reducible repeat (first | refine blk_drewN ?_ _ | refine blk_drew ?_ | refine blk_alloc ?_ _)); exact BK114.out) k_ hk⟩) _ (Nat.le_refl _)) (Below.refl _ _) (Nat.le_refl _) (by simp) ?_; (case hd => rfl); (case hg => rfl); (case hr => first | (go_simp; done) | (go_simp; rfl)); (case hp => exact (Reps.c3 (show Kd.FK k37 _ _ (⟨a1_0, l1_1, a1_2⟩ : S37) [.int .i64 a1_0, .slice A1_1 l1_1.length c1_1, .bool a1_2] from (k37_mkF _ _ (⟨a1_0, l1_1, a1_2⟩ : S37) (Kd.V_reads' (Kd.V_mono (ok' := (fun k_ => ((P0_0_ k_ ∨ P1_1_ k_) ∨ w.heap.size ≤ k_) ∧ some k_ ≠ (v119 : Value).ownBlock ∧ k_ ≠ gb112 ∧ k_ ≠ gb113 ∧ k_ ≠ gb114)) (HO_114001.out) (fun k_ hk => ⟨hk.1.1, ⟨hk.2, ⟨hk.1.2.1, ⟨hk.1.2.2.1, hk.1.2.2.2⟩⟩⟩⟩))).2.1 (Kd.V_F (Kd.V_mono (ok' := (fun k_ => ((P0_0_ k_ ∨ P1_1_ k_) ∨ w.heap.size ≤ k_) ∧ some k_ ≠ (v119 : Value).ownBlock ∧ k_ ≠ gb112 ∧ k_ ≠ gb113 ∧ k_ ≠ gb114)) (HO_114001.out) (fun k_ hk => ⟨hk.1.1, ⟨hk.2, ⟨hk.1.2.1, ⟨hk.1.2.2.1, hk.1.2.2.2⟩⟩⟩⟩))))) (Reps.none _ _)))
                intro v122 w38 ho39 hb hg_ hnew_
                clear hg_ hnew_
                (first | rw [← Ny121.out] at ho39 | (simp only [Int.reduceToNat] at ho39; rw [← Ny121.out] at ho39))
                have n0_ := Aside0.mk (Kd.V_elder' (by (with_reducible repeat (first | apply Kd.V_alloc | apply Kd.V_drewN | apply Kd.V_drew)); exact HO_113000.out) (Kd.N_base ho39) hb)
                have n1_ := Aside0.mk (Kd.V_elder' (by (with_reducible repeat (first | apply Kd.V_alloc | apply Kd.V_drewN | apply Kd.V_drew)); exact HO_114001.out) (Kd.N_base ho39) hb)
                have n2_ := Aside0.mk (Kd.N_elder' (by (with_reducible repeat (first | apply Kd.N_alloc | apply Kd.N_drewN | apply Kd.N_drew)); exact HO120.out) (Kd.N_base ho39) hb)
                have n3_ := Aside0.mk (Kd.N_lower ho39 (below_size (by repeat (first | (with_reducible first | exact HB.out | apply below_alloc | apply pw_below_drewN | apply below_drew1 | refine below_set ?_ GE112.out | refine below_set ?_ GE113.out | refine below_set ?_ GE114.out) | exact HB.out))))
                have n4_ := Aside0.mk (blk_below (g := gb112) (o := .cells #[.slice A0_0 l0_0.length c0_0] 29 (0, 0)) (by (with_reducible repeat (first | refine blk_drewN ?_ _ | refine blk_drew ?_ | refine blk_alloc ?_ _)); exact BK112.out) hb)
                have n5_ := Aside0.mk (blk_below (g := gb113) (o := .cells #[.int .i64 a1_0, .slice A1_1 l1_1.length c1_1, .bool a1_2] 37 (0, 0)) (by (with_reducible repeat (first | refine blk_drewN ?_ _ | refine blk_drew ?_ | refine blk_alloc ?_ _)); exact BK113.out) hb)
                have n6_ := Aside0.mk (blk_below (g := gb114) (o := .cells #[.slice none 0 0] 29 (0, 0)) (by (with_reducible repeat (first | refine blk_drewN ?_ _ | refine blk_drew ?_ | refine blk_alloc ?_ _)); exact BK114.out) hb)
                have n7_ := Aside0.mk (below_step (by repeat (first | (with_reducible first | exact HB.out | apply below_alloc | apply pw_below_drewN | apply below_drew1 | refine below_set ?_ GE112.out | refine below_set ?_ GE113.out | refine below_set ?_ GE114.out) | exact HB.out)) hb)
                clear HO_113000
                clear HO_114001
                clear HO120
                clear BK112
                clear BK113
                clear BK114
                clear HB
                have HO_113000 := n0_
                have HO_114001 := n1_
                have HO120 := n2_
                have HO123 := n3_
                have BK112 := n4_
                have BK113 := n5_
                have BK114 := n6_
                have HB := n7_
                clear n0_ n1_ n2_ n3_ n4_ n5_ n6_ n7_
                clear hb ho39
                refine hK.out _ _ ⟨(blk_cell BK112.out 0).trans rfl, (blk_cell BK113.out 0).trans rfl, (blk_cell BK113.out 1).trans rfl, (blk_cell BK113.out 2).trans rfl⟩ (fun hHeld => ?_)
                clear hK K
                refine norm_ (a' := ?_) ?_ ?_
                rotate_left
                · show Act.put _ (some 27) _ = _
                  simp only [Act.put, List.setIfInBounds_toArray, List.set_cons_zero, List.set_cons_succ, i64_w, i32_w]
                  rfl
                exact norm_ (by simp only [putAll, Act.put, List.setIfInBounds_toArray, List.set_cons_zero, List.set_cons_succ]) (hCont (v119, v122) _ ⟨hHeld, (by (with_reducible repeat (first | apply Kd.N_alloc | apply Kd.N_drewN | apply Kd.N_drew)); exact Kd.N_mono HO120.out (fun _ hk => ⟨hk.1.1, ⟨hk.2, ⟨hk.1.2.1, ⟨hk.1.2.2.1, hk.1.2.2.2⟩⟩⟩⟩)), (by (with_reducible repeat (first | apply Kd.N_alloc | apply Kd.N_drewN | apply Kd.N_drew)); exact HO123.out), (by (with_reducible repeat (first | apply Kd.V_alloc | apply Kd.V_drewN | apply Kd.V_drew)); exact Kd.V_mono HO_113000.out (fun _ hk => ⟨hk.1.1.1, ⟨hk.1.2, ⟨hk.2, ⟨hk.1.1.2.1, ⟨hk.1.1.2.2.1, hk.1.1.2.2.2⟩⟩⟩⟩⟩)), (by (with_reducible repeat (first | apply Kd.V_alloc | apply Kd.V_drewN | apply Kd.V_drew)); exact Kd.V_mono HO_114001.out (fun _ hk => ⟨hk.1.1.1, ⟨hk.1.2, ⟨hk.2, ⟨hk.1.1.2.1, ⟨hk.1.1.2.2.1, hk.1.1.2.2.2⟩⟩⟩⟩⟩)), (by (with_reducible repeat (first | refine blk_drewN ?_ _ | refine blk_drew ?_ | refine blk_alloc ?_ _)); exact BK112.out), (by (with_reducible repeat (first | refine blk_drewN ?_ _ | refine blk_drew ?_ | refine blk_alloc ?_ _)); exact BK113.out), (by (with_reducible repeat (first | refine blk_drewN ?_ _ | refine blk_drew ?_ | refine blk_alloc ?_ _)); exact BK114.out), (by repeat (first | (with_reducible first | exact HB.out | apply below_alloc | apply pw_below_drewN | apply below_drew1 | refine below_set ?_ GE112.out | refine below_set ?_ GE113.out | refine below_set ?_ GE114.out) | exact HB.out))⟩)
              · skip
                refine Kd.N_lit_step k37 _ 37 ?hg (N' := 27) ?hd (xs := ([(⟨a1_0, l1_1, a1_2⟩ : S37)] : List (S37))) (inner := [.int .i64 a1_0, .slice A1_1 l1_1.length c1_1, .bool a1_2]) (ok := (fun k_ => ((P0_0_ k_ ∨ P1_1_ k_) ∨ w.heap.size ≤ k_) ∧ k_ ≠ gb112 ∧ k_ ≠ gb113 ∧ k_ ≠ gb114)) (okp := (fun k_ => ((P0_0_ k_ ∨ P1_1_ k_) ∨ w.heap.size ≤ k_) ∧ k_ ≠ gb112 ∧ k_ ≠ gb113 ∧ k_ ≠ gb114)) ?hr ?hp (fun _ hk => hk) ((show ∀ k_, w36.heap.size ≤ k_ → (fun k_ => ((P0_0_ k_ ∨ P1_1_ k_) ∨ w.heap.size ≤ k_) ∧ k_ ≠ gb112 ∧ k_ ≠ gb113 ∧ k_ ≠ gb114) k_ from fun k_ hk => ⟨(.inr (Nat.le_trans (below_size (by repeat (first | (with_reducible first | exact HB.out | apply below_alloc | apply pw_below_drewN | apply below_drew1 | refine below_set ?_ GE112.out | refine below_set ?_ GE113.out | refine below_set ?_ GE114.out) | exact HB.out))) hk)), Kd.freshB (g := gb112) (o := .cells #[.slice A0_0 l0_0.length c0_0] 29 (0, 0)) (by (with_reducible repeat (first | refine blk_drewN ?_ _ | refine blk_drew ?_ | refine blk_alloc ?_ _)); exact BK112.out) k_ hk, Kd.freshB (g := gb113) (o := .cells #[.int .i64 a1_0, .slice A1_1 l1_1.length c1_1, .bool a1_2] 37 (0, 0)) (by (with_reducible repeat (first | refine blk_drewN ?_ _ | refine blk_drew ?_ | refine blk_alloc ?_ _)); exact BK113.out) k_ hk, Kd.freshB (g := gb114) (o := .cells #[.slice none 0 0] 29 (0, 0)) (by (with_reducible repeat (first | refine blk_drewN ?_ _ | refine blk_drew ?_ | refine blk_alloc ?_ _)); exact BK114.out) k_ hk⟩) _ (Nat.le_refl _)) (Below.refl _ _) (Nat.le_refl _) (by simp) ?_; (case hd => rfl); (case hg => rfl); (case hr => first | (go_simp; done) | (go_simp; rfl)); (case hp => exact (Reps.c3 (show Kd.FK k37 _ _ (⟨a1_0, l1_1, a1_2⟩ : S37) [.int .i64 a1_0, .slice A1_1 l1_1.length c1_1, .bool a1_2] from (k37_mkF _ _ (⟨a1_0, l1_1, a1_2⟩ : S37) (Kd.V_reads' (Kd.V_mono (ok' := (fun k_ => ((P0_0_ k_ ∨ P1_1_ k_) ∨ w.heap.size ≤ k_) ∧ k_ ≠ gb112 ∧ k_ ≠ gb113 ∧ k_ ≠ gb114)) (HO_114001.out) (fun k_ hk => ⟨hk.1, ⟨hk.2.1, ⟨hk.2.2.1, hk.2.2.2⟩⟩⟩))).2.1 (Kd.V_F (Kd.V_mono (ok' := (fun k_ => ((P0_0_ k_ ∨ P1_1_ k_) ∨ w.heap.size ≤ k_) ∧ k_ ≠ gb112 ∧ k_ ≠ gb113 ∧ k_ ≠ gb114)) (HO_114001.out) (fun k_ hk => ⟨hk.1, ⟨hk.2.1, ⟨hk.2.2.1, hk.2.2.2⟩⟩⟩))))) (Reps.none _ _)))
                intro v122 w37 ho38 hb hg_ hnew_
                clear hg_ hnew_
                (first | rw [← Ny121.out] at ho38 | (simp only [Int.reduceToNat] at ho38; rw [← Ny121.out] at ho38))
                have n0_ := Aside0.mk (Kd.V_elder' (by (with_reducible repeat (first | apply Kd.V_alloc | apply Kd.V_drewN | apply Kd.V_drew)); exact HO_113000.out) (Kd.N_base ho38) hb)
                have n1_ := Aside0.mk (Kd.V_elder' (by (with_reducible repeat (first | apply Kd.V_alloc | apply Kd.V_drewN | apply Kd.V_drew)); exact HO_114001.out) (Kd.N_base ho38) hb)
                have n2_ := Aside0.mk (Kd.N_lower ho38 (below_size (by repeat (first | (with_reducible first | exact HB.out | apply below_alloc | apply pw_below_drewN | apply below_drew1 | refine below_set ?_ GE112.out | refine below_set ?_ GE113.out | refine below_set ?_ GE114.out) | exact HB.out))))
                have n3_ := Aside0.mk (blk_below (g := gb112) (o := .cells #[.slice A0_0 l0_0.length c0_0] 29 (0, 0)) (by (with_reducible repeat (first | refine blk_drewN ?_ _ | refine blk_drew ?_ | refine blk_alloc ?_ _)); exact BK112.out) hb)
                have n4_ := Aside0.mk (blk_below (g := gb113) (o := .cells #[.int .i64 a1_0, .slice A1_1 l1_1.length c1_1, .bool a1_2] 37 (0, 0)) (by (with_reducible repeat (first | refine blk_drewN ?_ _ | refine blk_drew ?_ | refine blk_alloc ?_ _)); exact BK113.out) hb)
                have n5_ := Aside0.mk (blk_below (g := gb114) (o := .cells #[.slice none 0 0] 29 (0, 0)) (by (with_reducible repeat (first | refine blk_drewN ?_ _ | refine blk_drew ?_ | refine blk_alloc ?_ _)); exact BK114.out) hb)
                have n6_ := Aside0.mk (below_step (by repeat (first | (with_reducible first | exact HB.out | apply below_alloc | apply pw_below_drewN | apply below_drew1 | refine below_set ?_ GE112.out | refine below_set ?_ GE113.out | refine below_set ?_ GE114.out) | exact HB.out)) hb)
                clear HO_113000
                clear HO_114001
                clear BK112
                clear BK113
                clear BK114
                clear HB
                have HO_113000 := n0_
                have HO_114001 := n1_
                have HO123 := n2_
                have BK112 := n3_
                have BK113 := n4_
                have BK114 := n5_
                have HB := n6_
                clear n0_ n1_ n2_ n3_ n4_ n5_ n6_
                clear hb ho38
                refine hK.out _ _ ⟨(blk_cell BK112.out 0).trans rfl, (blk_cell BK113.out 0).trans rfl, (blk_cell BK113.out 1).trans rfl, (blk_cell BK113.out 2).trans rfl⟩ (fun hHeld => ?_)
                clear hK K
                refine norm_ (a' := ?_) ?_ ?_
                rotate_left
                · show Act.put _ (some 27) _ = _
                  simp only [Act.put, List.setIfInBounds_toArray, List.set_cons_zero, List.set_cons_succ, i64_w, i32_w]
                  rfl
                refine one_ (i := 2) (N := some 25) #[true, true, true, true, true, false, false, false, false] rfl rfl (one_of HT_.out (by kernel_rfl)) (by decide) (fun K hK => ?_)
                refine goes_ Try.func30 (by kernel_rfl) rfl #[.slice A0_0 l0_0.length c0_0] (by rfl) rfl rfl (by (try simp only [List.map_toArray, List.map_cons, List.map_nil]); first | done | rfl | (simp only [List.length_drop, List.length_take]; rfl)) ?_
                with_reducible refine (chain_Ver.calls (fun k_ => ((((P0_0_ k_ ∨ P1_1_ k_) ∨ w.heap.size ≤ k_) ∧ (k_ ≠ gb112 ∧ (k_ ≠ gb113 ∧ k_ ≠ gb114))) ∧ some k_ ≠ (v122 : Value).ownBlock)) _ _ l0_0 t118 _ ?side1 A32.out).mono ?_
                (case side1 => exact HO_113000.out)
                rintro e w39 ⟨v119, rfl, ho0, hb⟩
                refine ⟨_, rfl, ?_⟩
                have n0_ := Aside0.mk (Kd.V_elder' (by (with_reducible repeat (first | apply Kd.V_alloc | apply Kd.V_drewN | apply Kd.V_drew)); exact HO_113000.out) (Kd.N_base ho0) hb)
                have n1_ := Aside0.mk (Kd.V_elder' (by (with_reducible repeat (first | apply Kd.V_alloc | apply Kd.V_drewN | apply Kd.V_drew)); exact HO_114001.out) (Kd.N_base ho0) hb)
                have n2_ := Aside0.mk (Kd.N_elder' (by (with_reducible repeat (first | apply Kd.N_alloc | apply Kd.N_drewN | apply Kd.N_drew)); exact HO123.out) (Kd.N_base ho0) hb)
                have n3_ := Aside0.mk (Kd.N_lower (Kd.N_mono (ok' := fun k_ => ((P0_0_ k_ ∨ P1_1_ k_) ∨ w.heap.size ≤ k_) ∧ some k_ ≠ (v122 : Value).ownBlock ∧ k_ ≠ gb112 ∧ k_ ≠ gb113 ∧ k_ ≠ gb114) ho0 (fun k_ hk_ => ⟨Or.elim hk_ (fun hs_ => hs_.1.1) (fun hn_ => (.inr (Nat.le_trans (below_size (by repeat (first | (with_reducible first | exact HB.out | apply below_alloc | apply pw_below_drewN | apply below_drew1 | refine below_set ?_ GE112.out | refine below_set ?_ GE113.out | refine below_set ?_ GE114.out) | exact HB.out))) hn_))), Or.elim hk_ (fun hs_ => hs_.2) (fun hn_ => (Kd.fresh' (Kd.N_lt (by (with_reducible repeat (first | apply Kd.N_alloc | apply Kd.N_drewN | apply Kd.N_drew)); exact HO123.out)) k_ hn_)), Or.elim hk_ (fun hs_ => hs_.1.2.1) (fun hn_ => (Kd.freshB (g := gb112) (o := .cells #[.slice A0_0 l0_0.length c0_0] 29 (0, 0)) (by (with_reducible repeat (first | refine blk_drewN ?_ _ | refine blk_drew ?_ | refine blk_alloc ?_ _)); exact BK112.out) k_ hn_)), Or.elim hk_ (fun hs_ => hs_.1.2.2.1) (fun hn_ => (Kd.freshB (g := gb113) (o := .cells #[.int .i64 a1_0, .slice A1_1 l1_1.length c1_1, .bool a1_2] 37 (0, 0)) (by (with_reducible repeat (first | refine blk_drewN ?_ _ | refine blk_drew ?_ | refine blk_alloc ?_ _)); exact BK113.out) k_ hn_)), Or.elim hk_ (fun hs_ => hs_.1.2.2.2) (fun hn_ => (Kd.freshB (g := gb114) (o := .cells #[.slice none 0 0] 29 (0, 0)) (by (with_reducible repeat (first | refine blk_drewN ?_ _ | refine blk_drew ?_ | refine blk_alloc ?_ _)); exact BK114.out) k_ hn_))⟩)) (below_size (by repeat (first | (with_reducible first | exact HB.out | apply below_alloc | apply pw_below_drewN | apply below_drew1 | refine below_set ?_ GE112.out | refine below_set ?_ GE113.out | refine below_set ?_ GE114.out) | exact HB.out))))
                have n4_ := Aside0.mk (blk_below (g := gb112) (o := .cells #[.slice A0_0 l0_0.length c0_0] 29 (0, 0)) (by (with_reducible repeat (first | refine blk_drewN ?_ _ | refine blk_drew ?_ | refine blk_alloc ?_ _)); exact BK112.out) hb)
                have n5_ := Aside0.mk (blk_below (g := gb113) (o := .cells #[.int .i64 a1_0, .slice A1_1 l1_1.length c1_1, .bool a1_2] 37 (0, 0)) (by (with_reducible repeat (first | refine blk_drewN ?_ _ | refine blk_drew ?_ | refine blk_alloc ?_ _)); exact BK113.out) hb)
                have n6_ := Aside0.mk (blk_below (g := gb114) (o := .cells #[.slice none 0 0] 29 (0, 0)) (by (with_reducible repeat (first | refine blk_drewN ?_ _ | refine blk_drew ?_ | refine blk_alloc ?_ _)); exact BK114.out) hb)
                have n7_ := Aside0.mk (below_step (by repeat (first | (with_reducible first | exact HB.out | apply below_alloc | apply pw_below_drewN | apply below_drew1 | refine below_set ?_ GE112.out | refine below_set ?_ GE113.out | refine below_set ?_ GE114.out) | exact HB.out)) hb)
                clear HO_113000
                clear HO_114001
                clear HO123
                clear BK112
                clear BK113
                clear BK114
                clear HB
                have HO_113000 := n0_
                have HO_114001 := n1_
                have HO123 := n2_
                have HO120 := n3_
                have BK112 := n4_
                have BK113 := n5_
                have BK114 := n6_
                have HB := n7_
                clear n0_ n1_ n2_ n3_ n4_ n5_ n6_ n7_
                (try clear hb)
                (try clear hb2)
                (try clear hk)
                (try clear hi)
                (try clear ho0)
                refine hK.out _ _ ⟨(blk_cell BK112.out 0).trans rfl, (blk_cell BK113.out 0).trans rfl, (blk_cell BK113.out 1).trans rfl, (blk_cell BK113.out 2).trans rfl⟩ (fun hHeld => ?_)
                clear hK K
                refine norm_ (a' := ?_) ?_ ?_
                rotate_left
                · show Act.put _ (some 25) _ = _
                  simp only [Act.put, List.setIfInBounds_toArray, List.set_cons_zero, List.set_cons_succ, i64_w, i32_w]
                  rfl
                exact norm_ (by simp only [putAll, Act.put, List.setIfInBounds_toArray, List.set_cons_zero, List.set_cons_succ]) (hCont (v119, v122) _ ⟨hHeld, (by (with_reducible repeat (first | apply Kd.N_alloc | apply Kd.N_drewN | apply Kd.N_drew)); exact HO120.out), (by (with_reducible repeat (first | apply Kd.N_alloc | apply Kd.N_drewN | apply Kd.N_drew)); exact Kd.N_mono HO123.out (fun _ hk => ⟨hk.1.1, ⟨hk.2, ⟨hk.1.2.1, ⟨hk.1.2.2.1, hk.1.2.2.2⟩⟩⟩⟩)), (by (with_reducible repeat (first | apply Kd.V_alloc | apply Kd.V_drewN | apply Kd.V_drew)); exact Kd.V_mono HO_113000.out (fun _ hk => ⟨hk.1.1.1, ⟨hk.2, ⟨hk.1.2, ⟨hk.1.1.2.1, ⟨hk.1.1.2.2.1, hk.1.1.2.2.2⟩⟩⟩⟩⟩)), (by (with_reducible repeat (first | apply Kd.V_alloc | apply Kd.V_drewN | apply Kd.V_drew)); exact Kd.V_mono HO_114001.out (fun _ hk => ⟨hk.1.1.1, ⟨hk.2, ⟨hk.1.2, ⟨hk.1.1.2.1, ⟨hk.1.1.2.2.1, hk.1.1.2.2.2⟩⟩⟩⟩⟩)), (by (with_reducible repeat (first | refine blk_drewN ?_ _ | refine blk_drew ?_ | refine blk_alloc ?_ _)); exact BK112.out), (by (with_reducible repeat (first | refine blk_drewN ?_ _ | refine blk_drew ?_ | refine blk_alloc ?_ _)); exact BK113.out), (by (with_reducible repeat (first | refine blk_drewN ?_ _ | refine blk_drew ?_ | refine blk_alloc ?_ _)); exact BK114.out), (by repeat (first | (with_reducible first | exact HB.out | apply below_alloc | apply pw_below_drewN | apply below_drew1 | refine below_set ?_ GE112.out | refine below_set ?_ GE113.out | refine below_set ?_ GE114.out) | exact HB.out))⟩)
            rintro ⟨v119, v122⟩ w40 ⟨hS_, h0_, h1_, h2_, h3_, h4_, h5_, h6_, h7_⟩
            have n0_ : Aside0 (Kd.N k37 37 w40 w.heap.size (fun k_ => ((P0_0_ k_ ∨ P1_1_ k_) ∨ w.heap.size ≤ k_) ∧ some k_ ≠ (v122 : Value).ownBlock ∧ k_ ≠ gb112 ∧ k_ ≠ gb113 ∧ k_ ≠ gb114) v119 t118) := ⟨h0_⟩
            have n1_ : Aside0 (Kd.N k37 37 w40 w.heap.size (fun k_ => ((P0_0_ k_ ∨ P1_1_ k_) ∨ w.heap.size ≤ k_) ∧ some k_ ≠ (v119 : Value).ownBlock ∧ k_ ≠ gb112 ∧ k_ ≠ gb113 ∧ k_ ≠ gb114) v122 y121) := ⟨h1_⟩
            have n2_ : Aside0 (Kd.V k37 37 w40 w.heap.size (fun k_ => ((P0_0_ k_ ∨ P1_1_ k_) ∨ w.heap.size ≤ k_) ∧ some k_ ≠ (v119 : Value).ownBlock ∧ some k_ ≠ (v122 : Value).ownBlock ∧ k_ ≠ gb112 ∧ k_ ≠ gb113 ∧ k_ ≠ gb114) (.slice A0_0 l0_0.length c0_0) l0_0) := ⟨h2_⟩
            have n3_ : Aside0 (Kd.V (Kd.int .u8) 5 w40 w.heap.size (fun k_ => ((P0_0_ k_ ∨ P1_1_ k_) ∨ w.heap.size ≤ k_) ∧ some k_ ≠ (v119 : Value).ownBlock ∧ some k_ ≠ (v122 : Value).ownBlock ∧ k_ ≠ gb112 ∧ k_ ≠ gb113 ∧ k_ ≠ gb114) (.slice A1_1 l1_1.length c1_1) l1_1) := ⟨h3_⟩
            have n4_ : Aside0 (w40.heap[gb112]? = some (.cells #[.slice A0_0 l0_0.length c0_0] 29 (0, 0))) := ⟨h4_⟩
            have n5_ : Aside0 (w40.heap[gb113]? = some (.cells #[.int .i64 a1_0, .slice A1_1 l1_1.length c1_1, .bool a1_2] 37 (0, 0))) := ⟨h5_⟩
            have n6_ : Aside0 (w40.heap[gb114]? = some (.cells #[.slice none 0 0] 29 (0, 0))) := ⟨h6_⟩
            have n7_ : Aside0 (Below w.heap.size w w40) := ⟨h7_⟩
            clear HO_113000
            clear HO_114001
            clear BK112
            clear BK113
            clear BK114
            clear HB
            clear h0_ h1_ h2_ h3_ h4_ h5_ h6_ h7_
            have HO120 := n0_
            have HO123 := n1_
            have HO_113000 := n2_
            have HO_114001 := n3_
            have BK112 := n4_
            have BK113 := n5_
            have BK114 := n6_
            have HB := n7_
            clear n0_ n1_ n2_ n3_ n4_ n5_ n6_ n7_
            have hHeld : w40.cell? ⟨gb112, 0, none⟩ = some (.slice A0_0 l0_0.length c0_0) ∧ w40.cell? ⟨gb113, 0, none⟩ = some (.int .i64 a1_0) ∧ w40.cell? ⟨gb113, 1, none⟩ = some (.slice A1_1 l1_1.length c1_1) ∧ w40.cell? ⟨gb113, 2, none⟩ = some (.bool a1_2) := hS_
            obtain ⟨Ao42, co42, eo42⟩ := Kd.N_slice HO123.out
            (first | subst eo42 | (injection eo42 with f1_ f2_ f3_; have f4_ := f1_.symm; have f5_ := f3_.symm; clear f1_ f2_ f3_; subst f4_; subst f5_))
            refine norm_ (a' := ?_) ?_ ?_
            rotate_left
            · simp only [putAll, Act.put, List.setIfInBounds_toArray, List.set_cons_zero, List.set_cons_succ]
              rfl
            refine one_ (i := 5) (N := some 28) #[true, true, true, true, true, true, false, false, false] rfl rfl (one_of HT_.out (by kernel_rfl)) (by decide) (fun K hK => ?_)
            refine Kd.N_append_rows_step k37 (w0 := w) w.heap.size (by rfl) (.tmp 25) (.tmp 27) 27 37 (.agg #[(.int .i64 0), (.slice none 0 0), (.bool false)]) 40 rfl Try.underlying27 info37 rfl (by decide) (by omega) v119 t118 y121 _ _ _ (fun k_ => ((P0_0_ k_ ∨ P1_1_ k_) ∨ w.heap.size ≤ k_) ∧ k_ ≠ gb112 ∧ k_ ≠ gb113 ∧ k_ ≠ gb114) (fun k_ => ((fun k_ => ((P0_0_ k_ ∨ P1_1_ k_) ∨ w.heap.size ≤ k_) ∧ k_ ≠ gb112 ∧ k_ ≠ gb113 ∧ k_ ≠ gb114)) k_ ∧ some k_ ≠ (v119 : Value).ownBlock) rfl rfl ?aO ?aR (fun _ hk => hk) ?aF ?aB ?aS ?aL ?_
            (case aR => exact (by skip; exact Kd.N_F (Kd.N_mono (ok' := (fun k_ => ((fun k_ => ((P0_0_ k_ ∨ P1_1_ k_) ∨ w.heap.size ≤ k_) ∧ k_ ≠ gb112 ∧ k_ ≠ gb113 ∧ k_ ≠ gb114)) k_ ∧ some k_ ≠ (v119 : Value).ownBlock)) (HO123.out) (fun k_ hk => ⟨⟨hk.1, ⟨hk.2.2.1, ⟨hk.2.2.2.1, hk.2.2.2.2⟩⟩⟩, hk.2.1⟩))))
            (case aB => exact (by repeat (first | (with_reducible first | exact HB.out | apply below_alloc | apply pw_below_drewN | apply below_drew1 | refine below_set ?_ GE112.out | refine below_set ?_ GE113.out | refine below_set ?_ GE114.out) | exact HB.out)))
            (case aF => exact (fun k_ hk => ⟨(.inr (Nat.le_trans (below_size (by repeat (first | (with_reducible first | exact HB.out | apply below_alloc | apply pw_below_drewN | apply below_drew1 | refine below_set ?_ GE112.out | refine below_set ?_ GE113.out | refine below_set ?_ GE114.out) | exact HB.out))) hk)), Kd.freshB (g := gb112) (o := .cells #[.slice A0_0 l0_0.length c0_0] 29 (0, 0)) (by (with_reducible repeat (first | refine blk_drewN ?_ _ | refine blk_drew ?_ | refine blk_alloc ?_ _)); exact BK112.out) k_ hk, Kd.freshB (g := gb113) (o := .cells #[.int .i64 a1_0, .slice A1_1 l1_1.length c1_1, .bool a1_2] 37 (0, 0)) (by (with_reducible repeat (first | refine blk_drewN ?_ _ | refine blk_drew ?_ | refine blk_alloc ?_ _)); exact BK113.out) k_ hk, Kd.freshB (g := gb114) (o := .cells #[.slice none 0 0] 29 (0, 0)) (by (with_reducible repeat (first | refine blk_drewN ?_ _ | refine blk_drew ?_ | refine blk_alloc ?_ _)); exact BK114.out) k_ hk⟩))
            (case aO => exact (by (with_reducible repeat (first | apply Kd.N_alloc | apply Kd.N_drewN | apply Kd.N_drew)); exact Kd.N_mono HO120.out (fun _ hk => ⟨hk.1, ⟨hk.2.2.1, ⟨hk.2.2.2.1, hk.2.2.2.2⟩⟩⟩)))
            (case aS => exact (below_size (by repeat (first | (with_reducible first | exact HB.out | apply below_alloc | apply pw_below_drewN | apply below_drew1 | refine below_set ?_ GE112.out | refine below_set ?_ GE113.out | refine below_set ?_ GE114.out) | exact HB.out))))
            (case aL => have := LMc33.out; omega)
            intro v125 w41 ho hb hg hat
            rw [← Ny124.out] at ho
            have n0_ := Aside0.mk (Kd.V_afterv (ok := (fun k_ => ((P0_0_ k_ ∨ P1_1_ k_) ∨ w.heap.size ≤ k_) ∧ some k_ ≠ (.slice Ao42 y121.length co42 : Value).ownBlock ∧ k_ ≠ gb112 ∧ k_ ≠ gb113 ∧ k_ ≠ gb114)) (by (with_reducible repeat (first | apply Kd.V_alloc | apply Kd.V_drewN | apply Kd.V_drew)); exact Kd.V_mono HO_113000.out (fun _ hk => ⟨⟨hk.1, ⟨hk.2.2.1, ⟨hk.2.2.2.1, ⟨hk.2.2.2.2.1, hk.2.2.2.2.2⟩⟩⟩⟩, hk.2.1⟩)) hg hat)
            have n1_ := Aside0.mk (Kd.V_afterv (ok := (fun k_ => ((P0_0_ k_ ∨ P1_1_ k_) ∨ w.heap.size ≤ k_) ∧ some k_ ≠ (.slice Ao42 y121.length co42 : Value).ownBlock ∧ k_ ≠ gb112 ∧ k_ ≠ gb113 ∧ k_ ≠ gb114)) (by (with_reducible repeat (first | apply Kd.V_alloc | apply Kd.V_drewN | apply Kd.V_drew)); exact Kd.V_mono HO_114001.out (fun _ hk => ⟨⟨hk.1, ⟨hk.2.2.1, ⟨hk.2.2.2.1, ⟨hk.2.2.2.2.1, hk.2.2.2.2.2⟩⟩⟩⟩, hk.2.1⟩)) hg hat)
            have n2_ := Aside0.mk (blk_grown (g := gb112) (o := .cells #[.slice A0_0 l0_0.length c0_0] 29 (0, 0)) (by (with_reducible repeat (first | refine blk_drewN ?_ _ | refine blk_drew ?_ | refine blk_alloc ?_ _)); exact BK112.out) hg (Kd.N_ne HO120.out BK112.out (by decide)))
            have n3_ := Aside0.mk (blk_grown (g := gb113) (o := .cells #[.int .i64 a1_0, .slice A1_1 l1_1.length c1_1, .bool a1_2] 37 (0, 0)) (by (with_reducible repeat (first | refine blk_drewN ?_ _ | refine blk_drew ?_ | refine blk_alloc ?_ _)); exact BK113.out) hg (Kd.N_away HO120.out (fun _ hk => hk.2.2.2.1)))
            have n4_ := Aside0.mk (blk_grown (g := gb114) (o := .cells #[.slice none 0 0] 29 (0, 0)) (by (with_reducible repeat (first | refine blk_drewN ?_ _ | refine blk_drew ?_ | refine blk_alloc ?_ _)); exact BK114.out) hg (Kd.N_ne HO120.out BK114.out (by decide)))
            have n5_ := Aside0.mk (Kd.N_afterv (ok := (fun k_ => ((P0_0_ k_ ∨ P1_1_ k_) ∨ w.heap.size ≤ k_) ∧ k_ ≠ gb112 ∧ k_ ≠ gb113 ∧ k_ ≠ gb114)) (by (with_reducible repeat (first | apply Kd.N_alloc | apply Kd.N_drewN | apply Kd.N_drew)); exact Kd.N_mono HO123.out (fun _ hk => ⟨⟨hk.1, ⟨hk.2.2.1, ⟨hk.2.2.2.1, hk.2.2.2.2⟩⟩⟩, hk.2.1⟩)) hg hat)
            have n6_ := Aside0.mk (hb)
            have n7_ := Aside0.mk (ho)
            clear HO_113000
            clear HO_114001
            clear BK112
            clear BK113
            clear BK114
            clear HO123
            clear HB
            clear HO120
            have HO_113000 := n0_
            have HO_114001 := n1_
            have BK112 := n2_
            have BK113 := n3_
            have BK114 := n4_
            have HO123 := n5_
            have HB := n6_
            have HO126 := n7_
            clear n0_ n1_ n2_ n3_ n4_ n5_ n6_ n7_
            clear ho hb hg hat
            obtain ⟨Ao43, co43, eo43⟩ := Kd.N_slice HO126.out
            (first | subst eo43 | (injection eo43 with f1_ f2_ f3_; have f4_ := f1_.symm; have f5_ := f3_.symm; clear f1_ f2_ f3_; subst f4_; subst f5_))
            refine hK.out _ _ ⟨(blk_cell BK112.out 0).trans rfl, (blk_cell BK113.out 0).trans rfl, (blk_cell BK113.out 1).trans rfl, (blk_cell BK113.out 2).trans rfl⟩ (fun hHeld => ?_)
            clear hK K
            refine norm_ (a' := ?_) ?_ ?_
            rotate_left
            · show Act.put _ (some 28) _ = _
              simp only [Act.put, List.setIfInBounds_toArray, List.set_cons_zero, List.set_cons_succ, i64_w, i32_w]
              rfl
            refine pure_ (i := 6) (N := some 29) (v := ?_) (a' := ?_) #[true, true, true, true, true, true, true, false, false] rfl rfl (any_of HT_.out (by kernel_rfl)) (fun _ _ _ h => h) (Or.inl ⟨by rfl, ?_⟩) ?_ ?_
            rotate_left
            · intro w'
              go_simp
              with_reducible rfl
            rotate_left
            · simp only [Act.put, List.setIfInBounds_toArray, List.set_cons_zero, List.set_cons_succ, i64_w, i32_w]
              rfl
            refine one_ (i := 7) (N := none) #[true, true, true, true, true, true, true, true, false] rfl rfl (one_of HT_.out (by kernel_rfl)) (by decide) (fun K hK => ?_)
            have hs44 : w41.cell? ⟨gb114, 0, none⟩ = some (.slice none 0 0) := (blk_cell BK114.out 0).trans rfl
            have hfs44 := blk_frozen BK114.out 0
            have hns44_0 := NB112_114.out
            have hns44_1 := NB113_114.out
            have hms44_0 := NB114_112.out
            have hms44_1 := NB114_113.out
            refine skip_ (w1 := ?_) (by rfl) rfl ?_ ?_
            rotate_left
            · go_simp
              rfl
            refine hK.out _ _ ⟨((cell_far (p := ⟨gb114, _, none⟩) NB112_114.out _).trans (hHeld.1)), ((cell_far (p := ⟨gb114, _, none⟩) NB113_114.out _).trans (hHeld.2.1)), ((cell_far (p := ⟨gb114, _, none⟩) NB113_114.out _).trans (hHeld.2.2.1)), ((cell_far (p := ⟨gb114, _, none⟩) NB113_114.out _).trans (hHeld.2.2.2))⟩ (fun hHeld => ?_)
            clear hK K
            refine pure_ (i := 8) (N := some 5) (v := ?_) (a' := ?_) #[true, true, true, true, true, true, true, true, true] rfl rfl (any_of HT_.out (by kernel_rfl)) (fun _ _ _ h => h) (Or.inl ⟨by rfl, ?_⟩) ?_ ?_
            rotate_left
            · intro w'
              go_simp
              with_reducible rfl
            rotate_left
            · simp only [Act.put, List.setIfInBounds_toArray, List.set_cons_zero, List.set_cons_succ, i64_w, i32_w]
              rfl
            refine done_ (done_of HT_.out (by kernel_rfl)) ?_
            try go_wp2
            refine bodyPost_ret (results_ct rfl _ _ gb114 29 #[.slice Ao43 y124.length co43] (0, 0) _ rfl (by (with_reducible repeat (first | refine blk_drewN ?_ _ | refine blk_drew ?_ | refine blk_alloc ?_ _)); refine blk_put (cs := #[.slice none 0 0]) ?_ 0 _ rfl; (with_reducible repeat (first | refine blk_drewN ?_ _ | refine blk_drew ?_ | refine blk_alloc ?_ _)); exact BK114.out) Try.underlying29 rfl (by kernel_rfl)) rfl ?_
            first | (with_reducible exact (clash2 A32 A25).elim) | (with_reducible exact (clash2 A25 A32).elim) | exact ⟨_, by first | rfl | (simp [errW_none, errW_some] <;> rfl) | (simp [*, errW_none, errW_some] <;> rfl), by (with_reducible repeat (first | apply Kd.N_alloc | apply Kd.N_drewN | apply Kd.N_drew)); exact Kd.N_mono (Kd.N_far (p := ⟨gb114, 0, none⟩) (Kd.N_mono HO126.out (fun k_ hk => (⟨hk, hk.2.2.2⟩ : _ ∧ k_ ≠ gb114))) (fun _ hk => hk.2) (.slice Ao43 y124.length co43)) (fun _ hk => hk.1.1), by repeat (first | (with_reducible first | exact HB.out | apply below_alloc | apply pw_below_drewN | apply below_drew1 | refine below_set ?_ GE112.out | refine below_set ?_ GE113.out | refine below_set ?_ GE114.out) | exact HB.out)⟩
          · rw [if_neg c33] at H
            exact absurd H (by simp)

end Go.Proofs.Ytcinlddejdkjeaa.Q
