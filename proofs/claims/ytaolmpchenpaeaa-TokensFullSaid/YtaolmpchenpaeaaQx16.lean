-- written by a turned copy of the kit's printer (wip/tools/patch_print.py over print.py); contracts of given functions are this session's own
import Derived.Test.YtaolmpchenpaeaaQx0
import Derived.Test.YtaolmpchenpaeaaQx10
import Derived.Test.YtaolmpchenpaeaaQx11
import Derived.Test.YtaolmpchenpaeaaQx12
import Derived.Test.YtaolmpchenpaeaaQx15
namespace Go.Proofs.Ytaolmpchenpaeaa.Q
open Go.RowKit Go.Proofs.YtaolmpchenpaeaaW.PrintWords Go.Proofs.YtaolmpchenpaeaaW.PrintLast Go.Proofs.YtaolmpchenpaeaaW.PrintMore Go.Proofs.Ytaolmpchenpaeaa.G
attribute [local go_sem] max2_int min2_int max_two min_two max_three min_three max_four min_four   -- for this text's walks alone
set_option linter.unusedVariables false
set_option linter.unusedSimpArgs false

/-! ### godwitlaw12_did: function 8 -/
mutual
def godwitlaw12_did.j0 : Nat → Int → Int → Bool → List (S33) → Int → Int → Int → Option ((List (S33)) × Int)
  | 0, _, _, _, _, _, _, _ => none
  | k + 1, x2, x12, x13, x222000, x223000, x223001, x223002 => if x13 = true then ((tokens_Start.f k x222000 x223001 x223002).bind fun bt224 => (some (bt224.1, bt224.2))) else (if x12 = 2 then (godwitlaw12_did.j1 k x2 x12 (x12 == 2) x222000 x223000 x223001 x223002) else (godwitlaw12_did.j1 k x2 x12 (x12 == 3) x222000 x223000 x223001 x223002))
def godwitlaw12_did.j1 : Nat → Int → Int → Bool → List (S33) → Int → Int → Int → Option ((List (S33)) × Int)
  | 0, _, _, _, _, _, _, _ => none
  | k + 1, x2, x12, x24, x222000, x223000, x223001, x223002 => if x24 = true then ((tokens_Finish.f k x222000 x223001 x223002 x2).bind fun bt228 => (some (bt228.1, bt228.2))) else (if x12 = 4 then ((tokens_Fence.f k x222000 x223001 x223002).bind fun bt232 => (some (bt232.1, bt232.2.2))) else ((tokens_Release.f k x222000 x223001).bind fun bt238 => (some (bt238.1, bt238.2))))
end
def godwitlaw12_did.f (k : Nat) (l0_0 : List (S33)) (a1_0 : Int) (a1_1 : Int) (a1_2 : Int) (a2 : Int) : Option ((List (S33)) × Int) := if a1_0 = 0 then (godwitlaw12_did.j0 k a2 a1_0 (a1_0 == 0) l0_0 a1_0 a1_1 a1_2) else (godwitlaw12_did.j0 k a2 a1_0 (a1_0 == 1) l0_0 a1_0 a1_1 a1_2)
theorem godwitlaw12_did.mono_l : ∀ k, (∀ y0 y1 y2 y3 y4 y5 y6, LeO (godwitlaw12_did.j0 k y0 y1 y2 y3 y4 y5 y6) (godwitlaw12_did.j0 (k + 1) y0 y1 y2 y3 y4 y5 y6)) ∧ (∀ y0 y1 y2 y3 y4 y5 y6, LeO (godwitlaw12_did.j1 k y0 y1 y2 y3 y4 y5 y6) (godwitlaw12_did.j1 (k + 1) y0 y1 y2 y3 y4 y5 y6))
  | 0 => ⟨fun _ _ _ _ _ _ _ r h => by simp [godwitlaw12_did.j0] at h, fun _ _ _ _ _ _ _ r h => by simp [godwitlaw12_did.j1] at h⟩
  | k + 1 => by
    obtain ⟨ih0, ih1⟩ := godwitlaw12_did.mono_l k
    refine ⟨?_, ?_⟩
    · intro y0 y1 y2 y3 y4 y5 y6
      unfold godwitlaw12_did.j0
      repeat' first
      | (with_reducible exact ih0 _ _ _ _ _ _ _)
      | (with_reducible exact ih1 _ _ _ _ _ _ _)
      | (with_reducible exact tokens_Fence.mono _ _ _ _)
      | (with_reducible exact tokens_Finish.mono _ _ _ _ _)
      | (with_reducible exact tokens_Release.mono _ _ _)
      | (with_reducible exact tokens_Start.mono _ _ _ _)
      | (with_reducible exact LeO.refl _)
      | (with_reducible exact LeO.none _)
      | (with_reducible refine LeO.ite ?_ ?_)
      | (with_reducible refine LeO.bind ?_ (fun _ => ?_))
      | exact ih0 _ _ _ _ _ _ _
      | exact ih1 _ _ _ _ _ _ _
      | exact tokens_Fence.mono _ _ _ _
      | exact tokens_Finish.mono _ _ _ _ _
      | exact tokens_Release.mono _ _ _
      | exact tokens_Start.mono _ _ _ _
      | exact LeO.none _
      | refine LeO.ite ?_ ?_
      | refine LeO.bind ?_ (fun _ => ?_)
    · intro y0 y1 y2 y3 y4 y5 y6
      unfold godwitlaw12_did.j1
      repeat' first
      | (with_reducible exact ih0 _ _ _ _ _ _ _)
      | (with_reducible exact ih1 _ _ _ _ _ _ _)
      | (with_reducible exact tokens_Fence.mono _ _ _ _)
      | (with_reducible exact tokens_Finish.mono _ _ _ _ _)
      | (with_reducible exact tokens_Release.mono _ _ _)
      | (with_reducible exact tokens_Start.mono _ _ _ _)
      | (with_reducible exact LeO.refl _)
      | (with_reducible exact LeO.none _)
      | (with_reducible refine LeO.ite ?_ ?_)
      | (with_reducible refine LeO.bind ?_ (fun _ => ?_))
      | exact ih0 _ _ _ _ _ _ _
      | exact ih1 _ _ _ _ _ _ _
      | exact tokens_Fence.mono _ _ _ _
      | exact tokens_Finish.mono _ _ _ _ _
      | exact tokens_Release.mono _ _ _
      | exact tokens_Start.mono _ _ _ _
      | exact LeO.none _
      | refine LeO.ite ?_ ?_
      | refine LeO.bind ?_ (fun _ => ?_)
theorem godwitlaw12_did.mono : ∀ a0 a1 a2 a3 a4 k, LeO (godwitlaw12_did.f k a0 a1 a2 a3 a4) (godwitlaw12_did.f (k + 1) a0 a1 a2 a3 a4) := by
  intro a0 a1 a2 a3 a4 k
  obtain ⟨ih0, ih1⟩ := godwitlaw12_did.mono_l k
  unfold godwitlaw12_did.f
  repeat' first
      | (with_reducible exact ih0 _ _ _ _ _ _ _)
      | (with_reducible exact ih1 _ _ _ _ _ _ _)
      | (with_reducible exact tokens_Fence.mono _ _ _ _)
      | (with_reducible exact tokens_Finish.mono _ _ _ _ _)
      | (with_reducible exact tokens_Release.mono _ _ _)
      | (with_reducible exact tokens_Start.mono _ _ _ _)
      | (with_reducible exact LeO.refl _)
      | (with_reducible exact LeO.none _)
      | (with_reducible refine LeO.ite ?_ ?_)
      | (with_reducible refine LeO.bind ?_ (fun _ => ?_))
      | exact ih0 _ _ _ _ _ _ _
      | exact ih1 _ _ _ _ _ _ _
      | exact tokens_Fence.mono _ _ _ _
      | exact tokens_Finish.mono _ _ _ _ _
      | exact tokens_Release.mono _ _ _
      | exact tokens_Start.mono _ _ _ _
      | exact LeO.none _
      | refine LeO.ite ?_ ?_
      | refine LeO.bind ?_ (fun _ => ?_)
set_option maxHeartbeats 8000000 in
set_option maxRecDepth 100000 in
theorem godwitlaw12_did.calls (k : Nat) (P0_0_ : Nat → Prop) (A0_0 : Option Addr) (c0_0 : Nat) (l0_0 : List (S33)) (a1_0 : Int) (a1_1 : Int) (a1_2 : Int) (a2 : Int) (r1 : List (S33)) (r2 : Int) (w : World) (hs0_0 : Kd.V k33 33 w w.heap.size (fun k_ => P0_0_ k_) (.slice A0_0 l0_0.length c0_0) l0_0) (h : godwitlaw12_did.f k l0_0 a1_0 a1_1 a1_2 a2 = some (r1, r2)) :
    Calls Try.prog 8 #[.agg #[.slice A0_0 l0_0.length c0_0], .agg #[.int .i64 a1_0, .int .i64 a1_1, .int .i64 a1_2], .int .i64 a2] w fun e w' => ∃ v0_ : Value, e = .returned (.tuple #[.agg #[v0_], .int .i64 r2]) ∧ Kd.V k33 33 w' w.heap.size (fun k_ => (P0_0_ k_ ∨ w.heap.size ≤ k_)) v0_ r1 ∧ Below w.heap.size w w' := by
  have hu26 := Try.underlying26
  have hu28 := Try.underlying28
  have HO0_0 := Aside0.mk (show Kd.V k33 33 w w.heap.size (fun k_ => (P0_0_ k_ ∨ w.heap.size ≤ k_)) (.slice A0_0 l0_0.length c0_0) l0_0 from Kd.V_mono hs0_0 (fun k_ hk => .inl hk))
  have HB := Aside0.mk (Below.refl w.heap.size w)
  have H : (if a1_0 = 0 then (godwitlaw12_did.j0 k a2 a1_0 (a1_0 == 0) l0_0 a1_0 a1_1 a1_2) else (godwitlaw12_did.j0 k a2 a1_0 (a1_0 == 1) l0_0 a1_0 a1_1 a1_2)) = some (r1, r2) := h
  clear h
  have HC4 := Aside0.mk H
  clear H
  go_enter Try.func8, Try.ntmps8
  go_upto_if 13 with (first | ((with_reducible refine gate_dst (N := 3) rfl ?_); refine box_event ?hg (N := 3) ?hd (cs := #[.slice A0_0 l0_0.length c0_0]) (t := 26) ?hr ?_; (case hd => rfl); (case hg => rfl); (case hr => first | (go_simp; done) | (go_simp; rfl)); intro gb221 hg w5 hbox hb; have n0_ := Aside0.mk (Kd.V_below (Kd.V_elderB (by (with_reducible repeat (first | apply Kd.V_alloc | apply Kd.V_drewN | apply Kd.V_drew)); exact HO0_0.out) gb221 (Nat.le_of_eq hg.symm)) hb); have n1_ := Aside0.mk (below_step (by repeat (first | (with_reducible first | exact HB.out | apply below_alloc | apply pw_below_drewN | apply below_drew1) | exact HB.out)) hb); have n2_ := Aside0.mk (hbox); have n3_ := Aside0.mk ((by rw [hg]; exact (below_size (by repeat (first | (with_reducible first | exact HB.out | apply below_alloc | apply pw_below_drewN | apply below_drew1) | exact HB.out))) : w.heap.size ≤ gb221)); have n4_ := Aside0.mk ((by rw [hg]; exact (below_size (by repeat (first | (with_reducible first | exact HB.out | apply below_alloc | apply pw_below_drewN | apply below_drew1) | exact HB.out))) : w.heap.size ≤ gb221)); clear HO0_0; clear HB; have HO0_0 := n0_; have HB := n1_; have BK221 := n2_; have GW221 := n3_; have GE221 := n4_; clear n0_ n1_ n2_ n3_ n4_; clear hb hbox hg) | ((with_reducible refine gate_dst (N := 4) rfl ?_); refine box_event ?hg (N := 4) ?hd (cs := #[.int .i64 a1_0, .int .i64 a1_1, .int .i64 a1_2]) (t := 28) ?hr ?_; (case hd => rfl); (case hg => rfl); (case hr => first | (go_simp; done) | (go_simp; rfl)); intro gb222 hg w6 hbox hb; have n0_ := Aside0.mk (Kd.V_below (Kd.V_elderB (by (with_reducible repeat (first | apply Kd.V_alloc | apply Kd.V_drewN | apply Kd.V_drew)); exact HO0_0.out) gb222 (Nat.le_of_eq hg.symm)) hb); have n1_ := Aside0.mk (blk_below (g := gb221) (o := .cells #[.slice A0_0 l0_0.length c0_0] 26 (0, 0)) (by (with_reducible repeat (first | refine blk_drewN ?_ _ | refine blk_drew ?_ | refine blk_alloc ?_ _)); exact BK221.out) hb); have n2_ := Aside0.mk (below_step (by repeat (first | (with_reducible first | exact HB.out | apply below_alloc | apply pw_below_drewN | apply below_drew1 | refine below_set ?_ GE221.out) | exact HB.out)) hb); have n3_ := Aside0.mk (hbox); have n4_ := Aside0.mk ((by rw [hg]; exact (below_size (by repeat (first | (with_reducible first | exact HB.out | apply below_alloc | apply pw_below_drewN | apply below_drew1 | refine below_set ?_ GE221.out) | exact HB.out))) : w.heap.size ≤ gb222)); have n5_ := Aside0.mk ((by rw [hg]; exact (below_size (by repeat (first | (with_reducible first | exact HB.out | apply below_alloc | apply pw_below_drewN | apply below_drew1 | refine below_set ?_ GE221.out) | exact HB.out))) : w.heap.size ≤ gb222)); have n6_ := Aside0.mk ((by rw [hg]; exact Nat.ne_of_lt (blk_lt (g := gb221) (o := .cells #[.slice A0_0 l0_0.length c0_0] 26 (0, 0)) (by (with_reducible repeat (first | refine blk_drewN ?_ _ | refine blk_drew ?_ | refine blk_alloc ?_ _)); exact BK221.out)) : gb221 ≠ gb222)); have n7_ := Aside0.mk ((by rw [hg]; exact Nat.ne_of_gt (blk_lt (g := gb221) (o := .cells #[.slice A0_0 l0_0.length c0_0] 26 (0, 0)) (by (with_reducible repeat (first | refine blk_drewN ?_ _ | refine blk_drew ?_ | refine blk_alloc ?_ _)); exact BK221.out)) : gb222 ≠ gb221)); clear HO0_0; clear BK221; clear HB; have HO0_0 := n0_; have BK221 := n1_; have HB := n2_; have BK222 := n3_; have GW222 := n4_; have GE222 := n5_; have NB221_222 := n6_; have NB222_221 := n7_; clear n0_ n1_ n2_ n3_ n4_ n5_ n6_ n7_; clear hb hbox hg) | ((with_reducible refine gate_dst (N := 6) rfl ?_); refine box_event ?hg (N := 6) ?hd (cs := #[.slice none 0 0]) (t := 26) ?hr ?_; (case hd => rfl); (case hg => rfl); (case hr => first | (go_simp; done) | (go_simp; rfl)); intro gb223 hg w7 hbox hb; have n0_ := Aside0.mk (Kd.V_below (Kd.V_elderB (by (with_reducible repeat (first | apply Kd.V_alloc | apply Kd.V_drewN | apply Kd.V_drew)); exact HO0_0.out) gb223 (Nat.le_of_eq hg.symm)) hb); have n1_ := Aside0.mk (blk_below (g := gb221) (o := .cells #[.slice A0_0 l0_0.length c0_0] 26 (0, 0)) (by (with_reducible repeat (first | refine blk_drewN ?_ _ | refine blk_drew ?_ | refine blk_alloc ?_ _)); exact BK221.out) hb); have n2_ := Aside0.mk (blk_below (g := gb222) (o := .cells #[.int .i64 a1_0, .int .i64 a1_1, .int .i64 a1_2] 28 (0, 0)) (by (with_reducible repeat (first | refine blk_drewN ?_ _ | refine blk_drew ?_ | refine blk_alloc ?_ _)); exact BK222.out) hb); have n3_ := Aside0.mk (below_step (by repeat (first | (with_reducible first | exact HB.out | apply below_alloc | apply pw_below_drewN | apply below_drew1 | refine below_set ?_ GE221.out | refine below_set ?_ GE222.out) | exact HB.out)) hb); have n4_ := Aside0.mk (hbox); have n5_ := Aside0.mk ((by rw [hg]; exact (below_size (by repeat (first | (with_reducible first | exact HB.out | apply below_alloc | apply pw_below_drewN | apply below_drew1 | refine below_set ?_ GE221.out | refine below_set ?_ GE222.out) | exact HB.out))) : w.heap.size ≤ gb223)); have n6_ := Aside0.mk ((by rw [hg]; exact (below_size (by repeat (first | (with_reducible first | exact HB.out | apply below_alloc | apply pw_below_drewN | apply below_drew1 | refine below_set ?_ GE221.out | refine below_set ?_ GE222.out) | exact HB.out))) : w.heap.size ≤ gb223)); have n7_ := Aside0.mk ((by rw [hg]; exact Nat.ne_of_lt (blk_lt (g := gb221) (o := .cells #[.slice A0_0 l0_0.length c0_0] 26 (0, 0)) (by (with_reducible repeat (first | refine blk_drewN ?_ _ | refine blk_drew ?_ | refine blk_alloc ?_ _)); exact BK221.out)) : gb221 ≠ gb223)); have n8_ := Aside0.mk ((by rw [hg]; exact Nat.ne_of_gt (blk_lt (g := gb221) (o := .cells #[.slice A0_0 l0_0.length c0_0] 26 (0, 0)) (by (with_reducible repeat (first | refine blk_drewN ?_ _ | refine blk_drew ?_ | refine blk_alloc ?_ _)); exact BK221.out)) : gb223 ≠ gb221)); have n9_ := Aside0.mk ((by rw [hg]; exact Nat.ne_of_lt (blk_lt (g := gb222) (o := .cells #[.int .i64 a1_0, .int .i64 a1_1, .int .i64 a1_2] 28 (0, 0)) (by (with_reducible repeat (first | refine blk_drewN ?_ _ | refine blk_drew ?_ | refine blk_alloc ?_ _)); exact BK222.out)) : gb222 ≠ gb223)); have n10_ := Aside0.mk ((by rw [hg]; exact Nat.ne_of_gt (blk_lt (g := gb222) (o := .cells #[.int .i64 a1_0, .int .i64 a1_1, .int .i64 a1_2] 28 (0, 0)) (by (with_reducible repeat (first | refine blk_drewN ?_ _ | refine blk_drew ?_ | refine blk_alloc ?_ _)); exact BK222.out)) : gb223 ≠ gb222)); clear HO0_0; clear BK221; clear BK222; clear HB; have HO0_0 := n0_; have BK221 := n1_; have BK222 := n2_; have HB := n3_; have BK223 := n4_; have GW223 := n5_; have GE223 := n6_; have NB221_223 := n7_; have NB223_221 := n8_; have NB222_223 := n9_; have NB223_222 := n10_; clear n0_ n1_ n2_ n3_ n4_ n5_ n6_ n7_ n8_ n9_ n10_; clear hb hbox hg; have hnb8 := NB222_221.out; have hnc8 := NB221_222.out; have hnb9 := NB222_223.out; have hnc9 := NB223_222.out; have hcz10_0 : w7.cell? ⟨gb222, 0, none⟩ = some (.int .i64 a1_0) := (blk_cell BK222.out 0).trans rfl; have hcz10_1 : w7.cell? ⟨gb222, 1, none⟩ = some (.int .i64 a1_1) := (blk_cell BK222.out 1).trans rfl; have hcz10_2 : w7.cell? ⟨gb222, 2, none⟩ = some (.int .i64 a1_2) := (blk_cell BK222.out 2).trans rfl; have hfz10_0 := blk_frozen BK222.out 0; have hfz10_1 := blk_frozen BK222.out 1; have hfz10_2 := blk_frozen BK222.out 2))
  (try simp only [Act.put, List.setIfInBounds_toArray, List.set_cons_zero, List.set_cons_succ])
  go_cut [13] (fun v13 wc => ∃ (kq : Nat) (x13_3 : Bool), v13 = .bool x13_3 ∧ Aside0 (godwitlaw12_did.j0 kq a2 a1_0 x13_3 l0_0 a1_0 a1_1 a1_2 = some (r1, r2)) ∧ Aside0 (kq ≤ k) ∧ Aside0 (Kd.V k33 33 wc w.heap.size (fun k_ => (P0_0_ k_ ∨ w.heap.size ≤ k_) ∧ k_ ≠ gb221 ∧ k_ ≠ gb222 ∧ k_ ≠ gb223) (.slice A0_0 l0_0.length c0_0) l0_0) ∧ Aside0 (wc.heap[gb221]? = some (.cells #[(.slice A0_0 l0_0.length c0_0)] 26 (0, 0))) ∧ Aside0 (wc.heap[gb222]? = some (.cells #[.int .i64 a1_0, .int .i64 a1_1, .int .i64 a1_2] 28 (0, 0))) ∧ Aside0 (wc.heap[gb223]? = some (.cells #[(.slice none 0 0)] 26 (0, 0))) ∧ Aside0 (Below w.heap.size w wc))
  case first =>
    have H := HC4.out
    clear HC4
    by_cases c11 : a1_0 = 0
    · rw [if_pos c11] at H
      have c11b0 : (a1_0 == 0) = true := beq_iff_eq.mpr c11
      have c11b1 : (a1_0 != 0) = false := bne_eq_false_iff_eq.mpr c11
      clear c11
      (first | rw [c11b0] | (simp only [i64_w, i32_w]; rw [c11b0]) | skip)
      have H' := Aside0.mk H
      clear H
      go_wp2
      go_meet
      case rel => exact ⟨_, ((a1_0 == 0)), (by first | rfl | (simp; done) | (simp [*]; done)), H', ⟨by first | omega | exact Nat.le_refl _⟩, ⟨by (with_reducible repeat (first | apply Kd.V_alloc | apply Kd.V_drewN | apply Kd.V_drew)); exact Kd.V_mono HO0_0.out (fun _ hk => ⟨hk.1.1.1, ⟨hk.1.1.2, ⟨hk.1.2, hk.2⟩⟩⟩)⟩, ⟨by (with_reducible repeat (first | refine blk_drewN ?_ _ | refine blk_drew ?_ | refine blk_alloc ?_ _)); exact BK221.out⟩, ⟨by (with_reducible repeat (first | refine blk_drewN ?_ _ | refine blk_drew ?_ | refine blk_alloc ?_ _)); exact BK222.out⟩, ⟨by (with_reducible repeat (first | refine blk_drewN ?_ _ | refine blk_drew ?_ | refine blk_alloc ?_ _)); exact BK223.out⟩, ⟨by repeat (first | (with_reducible first | exact HB.out | apply below_alloc | apply pw_below_drewN | apply below_drew1 | refine below_set ?_ GE221.out | refine below_set ?_ GE222.out | refine below_set ?_ GE223.out) | exact HB.out)⟩⟩
    · rw [if_neg c11] at H
      have c11b0 : (a1_0 == 0) = false := beq_eq_false_iff_ne.mpr c11
      have c11b1 : (a1_0 != 0) = true := bne_iff_ne.mpr c11
      (first | rw [c11b0] | (simp only [i64_w, i32_w]; rw [c11b0]) | skip)
      have H' := Aside0.mk H
      clear H
      go_wp2
      go_meet
      case rel => exact ⟨_, ((a1_0 == 1)), (by first | rfl | (simp; done) | (simp [*]; done)), H', ⟨by first | omega | exact Nat.le_refl _⟩, ⟨by (with_reducible repeat (first | apply Kd.V_alloc | apply Kd.V_drewN | apply Kd.V_drew)); exact Kd.V_mono HO0_0.out (fun _ hk => ⟨hk.1.1.1, ⟨hk.1.1.2, ⟨hk.1.2, hk.2⟩⟩⟩)⟩, ⟨by (with_reducible repeat (first | refine blk_drewN ?_ _ | refine blk_drew ?_ | refine blk_alloc ?_ _)); exact BK221.out⟩, ⟨by (with_reducible repeat (first | refine blk_drewN ?_ _ | refine blk_drew ?_ | refine blk_alloc ?_ _)); exact BK222.out⟩, ⟨by (with_reducible repeat (first | refine blk_drewN ?_ _ | refine blk_drew ?_ | refine blk_alloc ?_ _)); exact BK223.out⟩, ⟨by repeat (first | (with_reducible first | exact HB.out | apply below_alloc | apply pw_below_drewN | apply below_drew1 | refine below_set ?_ GE221.out | refine below_set ?_ GE222.out | refine below_set ?_ GE223.out) | exact HB.out)⟩⟩
  case rest =>
    clear HC4
    try clear c1
    try clear p2
    try clear c8
    try clear c9
    try clear c11
    try clear c11b0
    try clear c11b1
    try clear hcz10_0
    try clear hcz10_1
    try clear hcz10_2
    try clear hfz10_0
    try clear hfz10_1
    try clear hfz10_2
    obtain ⟨kq, x13_3, rfl, HA, HJ3, HO_222000, BK221, BK222, BK223, HB⟩ := hcut
    cases kq with
    | zero => exact absurd HA.out (by simp [godwitlaw12_did.j0])
    | succ kj3 =>
      have H := HA.out
      clear HA
      simp only [godwitlaw12_did.j0] at H
      by_cases c12 : x13_3 = true
      · subst c12
        have H1 : ((tokens_Start.f kj3 l0_0 a1_1 a1_2).bind fun bt224 => (some (bt224.1, bt224.2))) = some (r1, r2) := by rw [if_pos rfl] at H; exact H
        clear H
        have H := H1
        clear H1
        replace H := Option.bind_eq_some_iff.mp H
        obtain ⟨⟨t224, t227⟩, A130, H⟩ := H
        replace H : (some (t224, t227)) = some (r1, r2) := H
        have A13 := Aside0.mk A130
        clear A130
        simp only [Option.some.injEq, Prod.mk.injEq] at H
        obtain ⟨rfl, rfl⟩ := H
        have hnb14 := NB221_222.out
        have hnc14 := NB222_221.out
        have hnb15 := NB221_223.out
        have hnc15 := NB223_221.out
        have hcz16_0 : wc.cell? ⟨gb221, 0, none⟩ = some (.slice A0_0 l0_0.length c0_0) := (blk_cell BK221.out 0).trans rfl
        have hfz16_0 := blk_frozen BK221.out 0
        have hnb17 := NB222_223.out
        have hnc17 := NB223_222.out
        have hcz18_0 : wc.cell? ⟨gb222, 0, none⟩ = some (.int .i64 a1_0) := (blk_cell BK222.out 0).trans rfl
        have hcz18_1 : wc.cell? ⟨gb222, 1, none⟩ = some (.int .i64 a1_1) := (blk_cell BK222.out 1).trans rfl
        have hcz18_2 : wc.cell? ⟨gb222, 2, none⟩ = some (.int .i64 a1_2) := (blk_cell BK222.out 2).trans rfl
        have hfz18_0 := blk_frozen BK222.out 0
        have hfz18_1 := blk_frozen BK222.out 1
        have hfz18_2 := blk_frozen BK222.out 2
        go_wp2_with (first | ((with_reducible refine gate_callee (f := 12) rfl ?_); refine goesL_ (some 21) rfl rfl Try.func12 (by kernel_rfl) rfl #[.agg #[.slice A0_0 l0_0.length c0_0], .int .i64 a1_1, .int .i64 a1_2] rfl (by (try simp only [List.map_toArray, List.map_cons, List.map_nil]); first | done | rfl | (simp only [List.length_drop, List.length_take]; rfl)) ?_; (with_reducible refine (tokens_Start.calls kj3 _ _ l0_0 a1_1 a1_2 t224 t227 _ ?side1 ?side2 A13.out).mono ?_); (case side1 => repeat (first | exact (Kd.V_reads' HO_222000.out).2.2 | (with_reducible refine Kd.C_alloc ?_ _) | (with_reducible refine Kd.C_drewN ?_ _) | (with_reducible refine Kd.C_drew ?_))); (case side2 => exact (Kd.V_reads' HO_222000.out).2.1); rintro e w19 ⟨v225, rfl, ho0, hb⟩; refine ⟨_, rfl, ?_⟩; have n0_ := Aside0.mk (Kd.V_elder' (by (with_reducible repeat (first | apply Kd.V_alloc | apply Kd.V_drewN | apply Kd.V_drew)); exact HO_222000.out) (Kd.R_base ho0) hb); have n1_ := Aside0.mk (Kd.R_lower (Kd.R_newM (M := fun k_ => (w.heap.size ≤ k_)) ho0 (below_size (by repeat (first | (with_reducible first | exact HB.out | apply below_alloc | apply pw_below_drewN | apply below_drew1 | refine below_set ?_ GE221.out | refine below_set ?_ GE222.out | refine below_set ?_ GE223.out) | exact HB.out))) (fun k_ h_ => h_)) (below_size (by repeat (first | (with_reducible first | exact HB.out | apply below_alloc | apply pw_below_drewN | apply below_drew1 | refine below_set ?_ GE221.out | refine below_set ?_ GE222.out | refine below_set ?_ GE223.out) | exact HB.out)))); have n2_ := Aside0.mk (blk_below (g := gb221) (o := .cells #[.slice A0_0 l0_0.length c0_0] 26 (0, 0)) (by (with_reducible repeat (first | refine blk_drewN ?_ _ | refine blk_drew ?_ | refine blk_alloc ?_ _)); exact BK221.out) hb); have n3_ := Aside0.mk (blk_below (g := gb222) (o := .cells #[.int .i64 a1_0, .int .i64 a1_1, .int .i64 a1_2] 28 (0, 0)) (by (with_reducible repeat (first | refine blk_drewN ?_ _ | refine blk_drew ?_ | refine blk_alloc ?_ _)); exact BK222.out) hb); have n4_ := Aside0.mk (blk_below (g := gb223) (o := .cells #[.slice none 0 0] 26 (0, 0)) (by (with_reducible repeat (first | refine blk_drewN ?_ _ | refine blk_drew ?_ | refine blk_alloc ?_ _)); exact BK223.out) hb); have n5_ := Aside0.mk (below_step (by repeat (first | (with_reducible first | exact HB.out | apply below_alloc | apply pw_below_drewN | apply below_drew1 | refine below_set ?_ GE221.out | refine below_set ?_ GE222.out | refine below_set ?_ GE223.out) | exact HB.out)) hb); clear HO_222000; clear BK221; clear BK222; clear BK223; clear HB; have HO_222000 := n0_; have HO226 := n1_; have BK221 := n2_; have BK222 := n3_; have BK223 := n4_; have HB := n5_; clear n0_ n1_ n2_ n3_ n4_ n5_; (try clear hb); (try clear hb2); (try clear hk); (try clear hi); (try clear ho0); obtain ⟨Ao20, co20, eo20⟩ := Kd.R_slice HO226.out; subst eo20; have hcz21_0 : w19.cell? ⟨gb223, 0, none⟩ = some (.slice none 0 0) := (blk_cell BK223.out 0).trans rfl; have hfz21_0 := blk_frozen BK223.out 0))
        refine bodyPost_ret (results_ct rfl _ _ gb223 26 #[.slice Ao20 t224.length co20] (0, 0) _ rfl (by (with_reducible repeat (first | refine blk_drewN ?_ _ | refine blk_drew ?_ | refine blk_alloc ?_ _)); refine blk_put (cs := #[.slice none 0 0]) ?_ 0 _ rfl; (with_reducible repeat (first | refine blk_drewN ?_ _ | refine blk_drew ?_ | refine blk_alloc ?_ _)); exact BK223.out) Try.underlying26 rfl (by kernel_rfl)) rfl ?_
        exact ⟨_, by first | rfl | (simp [errW_none, errW_some] <;> rfl) | (simp [*, errW_none, errW_some] <;> rfl), Kd.V_mono (Kd.R_V (by (with_reducible repeat (first | apply Kd.R_alloc | apply Kd.R_drewN | apply Kd.R_drew)); exact Kd.R_mono (Kd.R_far (p := ⟨gb223, 0, none⟩) (Kd.R_types HO226.out BK223.out (by decide)) (fun _ hk => hk.2) (.slice Ao20 t224.length co20)) (fun _ hk => hk.1.1))) (fun k_ hk => by first | exact ⟨(.inr (hk.1)), hk.2⟩ | exact (.inr (hk))), by repeat (first | (with_reducible first | exact HB.out | apply below_alloc | apply pw_below_drewN | apply below_drew1 | refine below_set ?_ GE221.out | refine below_set ?_ GE222.out | refine below_set ?_ GE223.out) | exact HB.out)⟩
      · replace c12 := Bool.eq_false_iff.mpr c12
        subst c12
        have H1 : (if a1_0 = 2 then (godwitlaw12_did.j1 kj3 a2 a1_0 (a1_0 == 2) l0_0 a1_0 a1_1 a1_2) else (godwitlaw12_did.j1 kj3 a2 a1_0 (a1_0 == 3) l0_0 a1_0 a1_1 a1_2)) = some (r1, r2) := by rw [if_neg (show ¬ (false = true) by decide)] at H; exact H
        clear H
        have H := H1
        clear H1
        have HC22 := Aside0.mk H
        clear H
        go_upto_if 24 with (fail)
        go_cut [24] (fun v24 wc => ∃ (kq : Nat) (x24_21 : Bool), v24 = .bool x24_21 ∧ Aside0 (godwitlaw12_did.j1 kq a2 a1_0 x24_21 l0_0 a1_0 a1_1 a1_2 = some (r1, r2)) ∧ Aside0 (kq ≤ kj3) ∧ Aside0 (Kd.V k33 33 wc w.heap.size (fun k_ => (P0_0_ k_ ∨ w.heap.size ≤ k_) ∧ k_ ≠ gb221 ∧ k_ ≠ gb222 ∧ k_ ≠ gb223) (.slice A0_0 l0_0.length c0_0) l0_0) ∧ Aside0 (wc.heap[gb221]? = some (.cells #[(.slice A0_0 l0_0.length c0_0)] 26 (0, 0))) ∧ Aside0 (wc.heap[gb222]? = some (.cells #[.int .i64 a1_0, .int .i64 a1_1, .int .i64 a1_2] 28 (0, 0))) ∧ Aside0 (wc.heap[gb223]? = some (.cells #[(.slice none 0 0)] 26 (0, 0))) ∧ Aside0 (Below w.heap.size w wc))
        case first =>
          have H := HC22.out
          clear HC22
          by_cases c23 : a1_0 = 2
          · rw [if_pos c23] at H
            have c23b0 : (a1_0 == 2) = true := beq_iff_eq.mpr c23
            have c23b1 : (a1_0 != 2) = false := bne_eq_false_iff_eq.mpr c23
            clear c23
            (first | rw [c23b0] | (simp only [i64_w, i32_w]; rw [c23b0]) | skip)
            have H' := Aside0.mk H
            clear H
            go_wp2
            go_meet
            case rel => exact ⟨_, ((a1_0 == 2)), (by first | rfl | (simp; done) | (simp [*]; done)), H', ⟨by have := HJ3.out; first | omega | exact Nat.le_refl _⟩, ⟨by (with_reducible repeat (first | apply Kd.V_alloc | apply Kd.V_drewN | apply Kd.V_drew)); exact HO_222000.out⟩, ⟨by (with_reducible repeat (first | refine blk_drewN ?_ _ | refine blk_drew ?_ | refine blk_alloc ?_ _)); exact BK221.out⟩, ⟨by (with_reducible repeat (first | refine blk_drewN ?_ _ | refine blk_drew ?_ | refine blk_alloc ?_ _)); exact BK222.out⟩, ⟨by (with_reducible repeat (first | refine blk_drewN ?_ _ | refine blk_drew ?_ | refine blk_alloc ?_ _)); exact BK223.out⟩, ⟨by repeat (first | (with_reducible first | exact HB.out | apply below_alloc | apply pw_below_drewN | apply below_drew1 | refine below_set ?_ GE221.out | refine below_set ?_ GE222.out | refine below_set ?_ GE223.out) | exact HB.out)⟩⟩
          · rw [if_neg c23] at H
            have c23b0 : (a1_0 == 2) = false := beq_eq_false_iff_ne.mpr c23
            have c23b1 : (a1_0 != 2) = true := bne_iff_ne.mpr c23
            (first | rw [c23b0] | (simp only [i64_w, i32_w]; rw [c23b0]) | skip)
            have H' := Aside0.mk H
            clear H
            go_wp2
            go_meet
            case rel => exact ⟨_, ((a1_0 == 3)), (by first | rfl | (simp; done) | (simp [*]; done)), H', ⟨by have := HJ3.out; first | omega | exact Nat.le_refl _⟩, ⟨by (with_reducible repeat (first | apply Kd.V_alloc | apply Kd.V_drewN | apply Kd.V_drew)); exact HO_222000.out⟩, ⟨by (with_reducible repeat (first | refine blk_drewN ?_ _ | refine blk_drew ?_ | refine blk_alloc ?_ _)); exact BK221.out⟩, ⟨by (with_reducible repeat (first | refine blk_drewN ?_ _ | refine blk_drew ?_ | refine blk_alloc ?_ _)); exact BK222.out⟩, ⟨by (with_reducible repeat (first | refine blk_drewN ?_ _ | refine blk_drew ?_ | refine blk_alloc ?_ _)); exact BK223.out⟩, ⟨by repeat (first | (with_reducible first | exact HB.out | apply below_alloc | apply pw_below_drewN | apply below_drew1 | refine below_set ?_ GE221.out | refine below_set ?_ GE222.out | refine below_set ?_ GE223.out) | exact HB.out)⟩⟩
        case rest =>
          clear HC22
          try clear c1
          try clear c2
          try clear p2
          try clear c8
          try clear c9
          try clear c11
          try clear c11b0
          try clear c11b1
          try clear c12
          try clear c14
          try clear c15
          try clear c17
          try clear c23
          try clear c23b0
          try clear c23b1
          try clear hcz10_0
          try clear hcz10_1
          try clear hcz10_2
          try clear hcz16_0
          try clear hcz18_0
          try clear hcz18_1
          try clear hcz18_2
          try clear hcz21_0
          try clear hfz10_0
          try clear hfz10_1
          try clear hfz10_2
          try clear hfz16_0
          try clear hfz18_0
          try clear hfz18_1
          try clear hfz18_2
          try clear hfz21_0
          try clear p2
          obtain ⟨kq, x24_21, rfl, HA, HJ21, HO_222000, BK221, BK222, BK223, HB⟩ := hcut
          cases kq with
          | zero => exact absurd HA.out (by simp [godwitlaw12_did.j1])
          | succ kj21 =>
            have H := HA.out
            clear HA
            simp only [godwitlaw12_did.j1] at H
            by_cases c24 : x24_21 = true
            · subst c24
              have H1 : ((tokens_Finish.f kj21 l0_0 a1_1 a1_2 a2).bind fun bt228 => (some (bt228.1, bt228.2))) = some (r1, r2) := by rw [if_pos rfl] at H; exact H
              clear H
              have H := H1
              clear H1
              replace H := Option.bind_eq_some_iff.mp H
              obtain ⟨⟨t228, t231⟩, A250, H⟩ := H
              replace H : (some (t228, t231)) = some (r1, r2) := H
              have A25 := Aside0.mk A250
              clear A250
              simp only [Option.some.injEq, Prod.mk.injEq] at H
              obtain ⟨rfl, rfl⟩ := H
              have hnb26 := NB221_222.out
              have hnc26 := NB222_221.out
              have hnb27 := NB221_223.out
              have hnc27 := NB223_221.out
              have hcz28_0 : wc.cell? ⟨gb221, 0, none⟩ = some (.slice A0_0 l0_0.length c0_0) := (blk_cell BK221.out 0).trans rfl
              have hfz28_0 := blk_frozen BK221.out 0
              have hnb29 := NB222_223.out
              have hnc29 := NB223_222.out
              have hcz30_0 : wc.cell? ⟨gb222, 0, none⟩ = some (.int .i64 a1_0) := (blk_cell BK222.out 0).trans rfl
              have hcz30_1 : wc.cell? ⟨gb222, 1, none⟩ = some (.int .i64 a1_1) := (blk_cell BK222.out 1).trans rfl
              have hcz30_2 : wc.cell? ⟨gb222, 2, none⟩ = some (.int .i64 a1_2) := (blk_cell BK222.out 2).trans rfl
              have hfz30_0 := blk_frozen BK222.out 0
              have hfz30_1 := blk_frozen BK222.out 1
              have hfz30_2 := blk_frozen BK222.out 2
              go_wp2_with (first | ((with_reducible refine gate_callee (f := 14) rfl ?_); refine goesL_ (some 33) rfl rfl Try.func14 (by kernel_rfl) rfl #[.agg #[.slice A0_0 l0_0.length c0_0], .int .i64 a1_1, .int .i64 a1_2, .int .i64 a2] rfl (by (try simp only [List.map_toArray, List.map_cons, List.map_nil]); first | done | rfl | (simp only [List.length_drop, List.length_take]; rfl)) ?_; (with_reducible refine (tokens_Finish.calls kj21 _ _ l0_0 a1_1 a1_2 a2 t228 t231 _ ?side1 ?side2 A25.out).mono ?_); (case side1 => repeat (first | exact (Kd.V_reads' HO_222000.out).2.2 | (with_reducible refine Kd.C_alloc ?_ _) | (with_reducible refine Kd.C_drewN ?_ _) | (with_reducible refine Kd.C_drew ?_))); (case side2 => exact (Kd.V_reads' HO_222000.out).2.1); rintro e w31 ⟨v229, rfl, ho0, hb⟩; refine ⟨_, rfl, ?_⟩; have n0_ := Aside0.mk (Kd.V_elder' (by (with_reducible repeat (first | apply Kd.V_alloc | apply Kd.V_drewN | apply Kd.V_drew)); exact HO_222000.out) (Kd.R_base ho0) hb); have n1_ := Aside0.mk (Kd.R_lower (Kd.R_newM (M := fun k_ => (w.heap.size ≤ k_)) ho0 (below_size (by repeat (first | (with_reducible first | exact HB.out | apply below_alloc | apply pw_below_drewN | apply below_drew1 | refine below_set ?_ GE221.out | refine below_set ?_ GE222.out | refine below_set ?_ GE223.out) | exact HB.out))) (fun k_ h_ => h_)) (below_size (by repeat (first | (with_reducible first | exact HB.out | apply below_alloc | apply pw_below_drewN | apply below_drew1 | refine below_set ?_ GE221.out | refine below_set ?_ GE222.out | refine below_set ?_ GE223.out) | exact HB.out)))); have n2_ := Aside0.mk (blk_below (g := gb221) (o := .cells #[.slice A0_0 l0_0.length c0_0] 26 (0, 0)) (by (with_reducible repeat (first | refine blk_drewN ?_ _ | refine blk_drew ?_ | refine blk_alloc ?_ _)); exact BK221.out) hb); have n3_ := Aside0.mk (blk_below (g := gb222) (o := .cells #[.int .i64 a1_0, .int .i64 a1_1, .int .i64 a1_2] 28 (0, 0)) (by (with_reducible repeat (first | refine blk_drewN ?_ _ | refine blk_drew ?_ | refine blk_alloc ?_ _)); exact BK222.out) hb); have n4_ := Aside0.mk (blk_below (g := gb223) (o := .cells #[.slice none 0 0] 26 (0, 0)) (by (with_reducible repeat (first | refine blk_drewN ?_ _ | refine blk_drew ?_ | refine blk_alloc ?_ _)); exact BK223.out) hb); have n5_ := Aside0.mk (below_step (by repeat (first | (with_reducible first | exact HB.out | apply below_alloc | apply pw_below_drewN | apply below_drew1 | refine below_set ?_ GE221.out | refine below_set ?_ GE222.out | refine below_set ?_ GE223.out) | exact HB.out)) hb); clear HO_222000; clear BK221; clear BK222; clear BK223; clear HB; have HO_222000 := n0_; have HO230 := n1_; have BK221 := n2_; have BK222 := n3_; have BK223 := n4_; have HB := n5_; clear n0_ n1_ n2_ n3_ n4_ n5_; (try clear hb); (try clear hb2); (try clear hk); (try clear hi); (try clear ho0); obtain ⟨Ao32, co32, eo32⟩ := Kd.R_slice HO230.out; subst eo32; have hcz33_0 : w31.cell? ⟨gb223, 0, none⟩ = some (.slice none 0 0) := (blk_cell BK223.out 0).trans rfl; have hfz33_0 := blk_frozen BK223.out 0))
              refine bodyPost_ret (results_ct rfl _ _ gb223 26 #[.slice Ao32 t228.length co32] (0, 0) _ rfl (by (with_reducible repeat (first | refine blk_drewN ?_ _ | refine blk_drew ?_ | refine blk_alloc ?_ _)); refine blk_put (cs := #[.slice none 0 0]) ?_ 0 _ rfl; (with_reducible repeat (first | refine blk_drewN ?_ _ | refine blk_drew ?_ | refine blk_alloc ?_ _)); exact BK223.out) Try.underlying26 rfl (by kernel_rfl)) rfl ?_
              exact ⟨_, by first | rfl | (simp [errW_none, errW_some] <;> rfl) | (simp [*, errW_none, errW_some] <;> rfl), Kd.V_mono (Kd.R_V (by (with_reducible repeat (first | apply Kd.R_alloc | apply Kd.R_drewN | apply Kd.R_drew)); exact Kd.R_mono (Kd.R_far (p := ⟨gb223, 0, none⟩) (Kd.R_types HO230.out BK223.out (by decide)) (fun _ hk => hk.2) (.slice Ao32 t228.length co32)) (fun _ hk => hk.1.1))) (fun k_ hk => by first | exact ⟨(.inr (hk.1)), hk.2⟩ | exact (.inr (hk))), by repeat (first | (with_reducible first | exact HB.out | apply below_alloc | apply pw_below_drewN | apply below_drew1 | refine below_set ?_ GE221.out | refine below_set ?_ GE222.out | refine below_set ?_ GE223.out) | exact HB.out)⟩
            · replace c24 := Bool.eq_false_iff.mpr c24
              subst c24
              have H1 : (if a1_0 = 4 then ((tokens_Fence.f kj21 l0_0 a1_1 a1_2).bind fun bt232 => (some (bt232.1, bt232.2.2))) else ((tokens_Release.f kj21 l0_0 a1_1).bind fun bt238 => (some (bt238.1, bt238.2)))) = some (r1, r2) := by rw [if_neg (show ¬ (false = true) by decide)] at H; exact H
              clear H
              have H := H1
              clear H1
              by_cases c34 : a1_0 = 4
              · rw [if_pos c34] at H
                have c34b0 : (a1_0 == 4) = true := beq_iff_eq.mpr c34
                have c34b1 : (a1_0 != 4) = false := bne_eq_false_iff_eq.mpr c34
                clear c34
                replace H := Option.bind_eq_some_iff.mp H
                obtain ⟨⟨t232, t235, t236⟩, A350, H⟩ := H
                replace H : (some (t232, t236)) = some (r1, r2) := H
                have A35 := Aside0.mk A350
                clear A350
                simp only [Option.some.injEq, Prod.mk.injEq] at H
                obtain ⟨rfl, rfl⟩ := H
                have hnb36 := NB221_222.out
                have hnc36 := NB222_221.out
                have hnb37 := NB221_223.out
                have hnc37 := NB223_221.out
                have hcz38_0 : wc.cell? ⟨gb221, 0, none⟩ = some (.slice A0_0 l0_0.length c0_0) := (blk_cell BK221.out 0).trans rfl
                have hfz38_0 := blk_frozen BK221.out 0
                have hnb39 := NB222_223.out
                have hnc39 := NB223_222.out
                have hcz40_0 : wc.cell? ⟨gb222, 0, none⟩ = some (.int .i64 a1_0) := (blk_cell BK222.out 0).trans rfl
                have hcz40_1 : wc.cell? ⟨gb222, 1, none⟩ = some (.int .i64 a1_1) := (blk_cell BK222.out 1).trans rfl
                have hcz40_2 : wc.cell? ⟨gb222, 2, none⟩ = some (.int .i64 a1_2) := (blk_cell BK222.out 2).trans rfl
                have hfz40_0 := blk_frozen BK222.out 0
                have hfz40_1 := blk_frozen BK222.out 1
                have hfz40_2 := blk_frozen BK222.out 2
                go_wp2_with (first | ((with_reducible refine gate_callee (f := 11) rfl ?_); refine goesL_ (some 44) rfl rfl Try.func11 (by kernel_rfl) rfl #[.agg #[.slice A0_0 l0_0.length c0_0], .int .i64 a1_1, .int .i64 a1_2] rfl (by (try simp only [List.map_toArray, List.map_cons, List.map_nil]); first | done | rfl | (simp only [List.length_drop, List.length_take]; rfl)) ?_; (with_reducible refine (tokens_Fence.calls kj21 (fun k_ => ((P0_0_ k_ ∨ w.heap.size ≤ k_) ∧ (k_ ≠ gb221 ∧ (k_ ≠ gb222 ∧ k_ ≠ gb223)))) _ _ l0_0 a1_1 a1_2 t232 t235 t236 _ ?side1 A35.out).mono ?_); (case side1 => exact HO_222000.out); rintro e w41 ⟨v233, rfl, ho0, hb⟩; refine ⟨_, rfl, ?_⟩; have n0_ := Aside0.mk (Kd.V_below (by (with_reducible repeat (first | apply Kd.V_alloc | apply Kd.V_drewN | apply Kd.V_drew)); exact HO_222000.out) hb); have n1_ := Aside0.mk (Kd.V_lower (Kd.V_mono (ok' := fun k_ => (P0_0_ k_ ∨ w.heap.size ≤ k_) ∧ k_ ≠ gb221 ∧ k_ ≠ gb222 ∧ k_ ≠ gb223) ho0 (fun k_ hk_ => ⟨Or.elim hk_ (fun hs_ => hs_.1) (fun hn_ => (.inr (Nat.le_trans (below_size (by repeat (first | (with_reducible first | exact HB.out | apply below_alloc | apply pw_below_drewN | apply below_drew1 | refine below_set ?_ GE221.out | refine below_set ?_ GE222.out | refine below_set ?_ GE223.out) | exact HB.out))) hn_))), Or.elim hk_ (fun hs_ => hs_.2.1) (fun hn_ => (Kd.freshB (g := gb221) (o := .cells #[.slice A0_0 l0_0.length c0_0] 26 (0, 0)) (by (with_reducible repeat (first | refine blk_drewN ?_ _ | refine blk_drew ?_ | refine blk_alloc ?_ _)); exact BK221.out) k_ hn_)), Or.elim hk_ (fun hs_ => hs_.2.2.1) (fun hn_ => (Kd.freshB (g := gb222) (o := .cells #[.int .i64 a1_0, .int .i64 a1_1, .int .i64 a1_2] 28 (0, 0)) (by (with_reducible repeat (first | refine blk_drewN ?_ _ | refine blk_drew ?_ | refine blk_alloc ?_ _)); exact BK222.out) k_ hn_)), Or.elim hk_ (fun hs_ => hs_.2.2.2) (fun hn_ => (Kd.freshB (g := gb223) (o := .cells #[.slice none 0 0] 26 (0, 0)) (by (with_reducible repeat (first | refine blk_drewN ?_ _ | refine blk_drew ?_ | refine blk_alloc ?_ _)); exact BK223.out) k_ hn_))⟩)) (below_size (by repeat (first | (with_reducible first | exact HB.out | apply below_alloc | apply pw_below_drewN | apply below_drew1 | refine below_set ?_ GE221.out | refine below_set ?_ GE222.out | refine below_set ?_ GE223.out) | exact HB.out)))); have n2_ := Aside0.mk (blk_below (g := gb221) (o := .cells #[.slice A0_0 l0_0.length c0_0] 26 (0, 0)) (by (with_reducible repeat (first | refine blk_drewN ?_ _ | refine blk_drew ?_ | refine blk_alloc ?_ _)); exact BK221.out) hb); have n3_ := Aside0.mk (blk_below (g := gb222) (o := .cells #[.int .i64 a1_0, .int .i64 a1_1, .int .i64 a1_2] 28 (0, 0)) (by (with_reducible repeat (first | refine blk_drewN ?_ _ | refine blk_drew ?_ | refine blk_alloc ?_ _)); exact BK222.out) hb); have n4_ := Aside0.mk (blk_below (g := gb223) (o := .cells #[.slice none 0 0] 26 (0, 0)) (by (with_reducible repeat (first | refine blk_drewN ?_ _ | refine blk_drew ?_ | refine blk_alloc ?_ _)); exact BK223.out) hb); have n5_ := Aside0.mk (below_step (by repeat (first | (with_reducible first | exact HB.out | apply below_alloc | apply pw_below_drewN | apply below_drew1 | refine below_set ?_ GE221.out | refine below_set ?_ GE222.out | refine below_set ?_ GE223.out) | exact HB.out)) hb); clear HO_222000; clear BK221; clear BK222; clear BK223; clear HB; have HO_222000 := n0_; have HO234 := n1_; have BK221 := n2_; have BK222 := n3_; have BK223 := n4_; have HB := n5_; clear n0_ n1_ n2_ n3_ n4_ n5_; (try clear hb); (try clear hb2); (try clear hk); (try clear hi); (try clear ho0)) | ((with_reducible refine gate_dst (N := 8) rfl ?_); refine box_event ?hg (N := 8) ?hd (cs := #[.slice none 0 0]) (t := 26) ?hr ?_; (case hd => rfl); (case hg => rfl); (case hr => first | (go_simp; done) | (go_simp; rfl)); intro gb237 hg w42 hbox hb; have n0_ := Aside0.mk (Kd.V_below (Kd.V_elderB (by (with_reducible repeat (first | apply Kd.V_alloc | apply Kd.V_drewN | apply Kd.V_drew)); exact HO_222000.out) gb237 (Nat.le_of_eq hg.symm)) hb); have n1_ := Aside0.mk (Kd.V_below (Kd.V_elderB (by (with_reducible repeat (first | apply Kd.V_alloc | apply Kd.V_drewN | apply Kd.V_drew)); exact HO234.out) gb237 (Nat.le_of_eq hg.symm)) hb); have n2_ := Aside0.mk (blk_below (g := gb221) (o := .cells #[.slice A0_0 l0_0.length c0_0] 26 (0, 0)) (by (with_reducible repeat (first | refine blk_drewN ?_ _ | refine blk_drew ?_ | refine blk_alloc ?_ _)); exact BK221.out) hb); have n3_ := Aside0.mk (blk_below (g := gb222) (o := .cells #[.int .i64 a1_0, .int .i64 a1_1, .int .i64 a1_2] 28 (0, 0)) (by (with_reducible repeat (first | refine blk_drewN ?_ _ | refine blk_drew ?_ | refine blk_alloc ?_ _)); exact BK222.out) hb); have n4_ := Aside0.mk (blk_below (g := gb223) (o := .cells #[.slice none 0 0] 26 (0, 0)) (by (with_reducible repeat (first | refine blk_drewN ?_ _ | refine blk_drew ?_ | refine blk_alloc ?_ _)); exact BK223.out) hb); have n5_ := Aside0.mk (below_step (by repeat (first | (with_reducible first | exact HB.out | apply below_alloc | apply pw_below_drewN | apply below_drew1 | refine below_set ?_ GE221.out | refine below_set ?_ GE222.out | refine below_set ?_ GE223.out) | exact HB.out)) hb); have n6_ := Aside0.mk (hbox); have n7_ := Aside0.mk ((by rw [hg]; exact (below_size (by repeat (first | (with_reducible first | exact HB.out | apply below_alloc | apply pw_below_drewN | apply below_drew1 | refine below_set ?_ GE221.out | refine below_set ?_ GE222.out | refine below_set ?_ GE223.out) | exact HB.out))) : w.heap.size ≤ gb237)); have n8_ := Aside0.mk ((by rw [hg]; exact (below_size (by repeat (first | (with_reducible first | exact HB.out | apply below_alloc | apply pw_below_drewN | apply below_drew1 | refine below_set ?_ GE221.out | refine below_set ?_ GE222.out | refine below_set ?_ GE223.out) | exact HB.out))) : w.heap.size ≤ gb237)); have n9_ := Aside0.mk ((by rw [hg]; exact Nat.ne_of_lt (blk_lt (g := gb221) (o := .cells #[.slice A0_0 l0_0.length c0_0] 26 (0, 0)) (by (with_reducible repeat (first | refine blk_drewN ?_ _ | refine blk_drew ?_ | refine blk_alloc ?_ _)); exact BK221.out)) : gb221 ≠ gb237)); have n10_ := Aside0.mk ((by rw [hg]; exact Nat.ne_of_gt (blk_lt (g := gb221) (o := .cells #[.slice A0_0 l0_0.length c0_0] 26 (0, 0)) (by (with_reducible repeat (first | refine blk_drewN ?_ _ | refine blk_drew ?_ | refine blk_alloc ?_ _)); exact BK221.out)) : gb237 ≠ gb221)); have n11_ := Aside0.mk ((by rw [hg]; exact Nat.ne_of_lt (blk_lt (g := gb222) (o := .cells #[.int .i64 a1_0, .int .i64 a1_1, .int .i64 a1_2] 28 (0, 0)) (by (with_reducible repeat (first | refine blk_drewN ?_ _ | refine blk_drew ?_ | refine blk_alloc ?_ _)); exact BK222.out)) : gb222 ≠ gb237)); have n12_ := Aside0.mk ((by rw [hg]; exact Nat.ne_of_gt (blk_lt (g := gb222) (o := .cells #[.int .i64 a1_0, .int .i64 a1_1, .int .i64 a1_2] 28 (0, 0)) (by (with_reducible repeat (first | refine blk_drewN ?_ _ | refine blk_drew ?_ | refine blk_alloc ?_ _)); exact BK222.out)) : gb237 ≠ gb222)); have n13_ := Aside0.mk ((by rw [hg]; exact Nat.ne_of_lt (blk_lt (g := gb223) (o := .cells #[.slice none 0 0] 26 (0, 0)) (by (with_reducible repeat (first | refine blk_drewN ?_ _ | refine blk_drew ?_ | refine blk_alloc ?_ _)); exact BK223.out)) : gb223 ≠ gb237)); have n14_ := Aside0.mk ((by rw [hg]; exact Nat.ne_of_gt (blk_lt (g := gb223) (o := .cells #[.slice none 0 0] 26 (0, 0)) (by (with_reducible repeat (first | refine blk_drewN ?_ _ | refine blk_drew ?_ | refine blk_alloc ?_ _)); exact BK223.out)) : gb237 ≠ gb223)); clear HO_222000; clear HO234; clear BK221; clear BK222; clear BK223; clear HB; have HO_222000 := n0_; have HO234 := n1_; have BK221 := n2_; have BK222 := n3_; have BK223 := n4_; have HB := n5_; have BK237 := n6_; have GW237 := n7_; have GE237 := n8_; have NB221_237 := n9_; have NB237_221 := n10_; have NB222_237 := n11_; have NB237_222 := n12_; have NB223_237 := n13_; have NB237_223 := n14_; clear n0_ n1_ n2_ n3_ n4_ n5_ n6_ n7_ n8_ n9_ n10_ n11_ n12_ n13_ n14_; clear hb hbox hg; obtain ⟨Ao43, co43, eo43⟩ := Kd.V_slice HO234.out; subst eo43; have hnb44 := NB237_221.out; have hnc44 := NB221_237.out; have hnb45 := NB237_222.out; have hnc45 := NB222_237.out; have hnb46 := NB237_223.out; have hnc46 := NB223_237.out; have hcz47_0 : w42.cell? ⟨gb237, 0, none⟩ = some (.slice none 0 0) := (blk_cell BK237.out 0).trans rfl; have hfz47_0 := blk_frozen BK237.out 0; have hcz48_0 : w42.cell? ⟨gb223, 0, none⟩ = some (.slice none 0 0) := (blk_cell BK223.out 0).trans rfl; have hfz48_0 := blk_frozen BK223.out 0))
                refine bodyPost_ret (results_ct rfl _ _ gb223 26 #[.slice Ao43 t232.length co43] (0, 0) _ rfl (by (with_reducible repeat (first | refine blk_drewN ?_ _ | refine blk_drew ?_ | refine blk_alloc ?_ _)); refine blk_put (cs := #[.slice none 0 0]) ?_ 0 _ rfl; (with_reducible repeat (first | refine blk_drewN ?_ _ | refine blk_drew ?_ | refine blk_alloc ?_ _)); refine blk_far ?_ NB223_237.out _; (with_reducible repeat (first | refine blk_drewN ?_ _ | refine blk_drew ?_ | refine blk_alloc ?_ _)); exact BK223.out) Try.underlying26 rfl (by kernel_rfl)) rfl ?_
                exact ⟨_, by first | rfl | (simp [errW_none, errW_some] <;> rfl) | (simp [*, errW_none, errW_some] <;> rfl), by (with_reducible repeat (first | apply Kd.V_alloc | apply Kd.V_drewN | apply Kd.V_drew)); exact Kd.V_mono (Kd.V_far (p := ⟨gb223, 0, none⟩) (Kd.V_far (p := ⟨gb237, 0, none⟩) (Kd.V_mono (Kd.V_mono HO234.out (fun k_ hk => (⟨hk, hk.2⟩ : _ ∧ k_ ≠ gb237))) (fun k_ hk => (⟨hk, hk.1.1.2.2.2⟩ : _ ∧ k_ ≠ gb223))) (fun _ hk => hk.1.2) (.slice Ao43 t232.length co43)) (fun _ hk => hk.2) (.slice Ao43 t232.length co43)) (fun _ hk => hk.1.1.1.1), by repeat (first | (with_reducible first | exact HB.out | apply below_alloc | apply pw_below_drewN | apply below_drew1 | refine below_set ?_ GE221.out | refine below_set ?_ GE222.out | refine below_set ?_ GE223.out | refine below_set ?_ GE237.out) | exact HB.out)⟩
              · rw [if_neg c34] at H
                have c34b0 : (a1_0 == 4) = false := beq_eq_false_iff_ne.mpr c34
                have c34b1 : (a1_0 != 4) = true := bne_iff_ne.mpr c34
                replace H := Option.bind_eq_some_iff.mp H
                obtain ⟨⟨t238, t241⟩, A490, H⟩ := H
                replace H : (some (t238, t241)) = some (r1, r2) := H
                have A49 := Aside0.mk A490
                clear A490
                simp only [Option.some.injEq, Prod.mk.injEq] at H
                obtain ⟨rfl, rfl⟩ := H
                have hnb50 := NB221_222.out
                have hnc50 := NB222_221.out
                have hnb51 := NB221_223.out
                have hnc51 := NB223_221.out
                have hcz52_0 : wc.cell? ⟨gb221, 0, none⟩ = some (.slice A0_0 l0_0.length c0_0) := (blk_cell BK221.out 0).trans rfl
                have hfz52_0 := blk_frozen BK221.out 0
                have hnb53 := NB222_223.out
                have hnc53 := NB223_222.out
                have hcz54_0 : wc.cell? ⟨gb222, 0, none⟩ = some (.int .i64 a1_0) := (blk_cell BK222.out 0).trans rfl
                have hcz54_1 : wc.cell? ⟨gb222, 1, none⟩ = some (.int .i64 a1_1) := (blk_cell BK222.out 1).trans rfl
                have hcz54_2 : wc.cell? ⟨gb222, 2, none⟩ = some (.int .i64 a1_2) := (blk_cell BK222.out 2).trans rfl
                have hfz54_0 := blk_frozen BK222.out 0
                have hfz54_1 := blk_frozen BK222.out 1
                have hfz54_2 := blk_frozen BK222.out 2
                go_wp2_with (first | ((with_reducible refine gate_callee (f := 13) rfl ?_); refine goesL_ (some 53) rfl rfl Try.func13 (by kernel_rfl) rfl #[.agg #[.slice A0_0 l0_0.length c0_0], .int .i64 a1_1] rfl (by (try simp only [List.map_toArray, List.map_cons, List.map_nil]); first | done | rfl | (simp only [List.length_drop, List.length_take]; rfl)) ?_; (with_reducible refine (tokens_Release.calls kj21 _ _ l0_0 a1_1 t238 t241 _ ?side1 ?side2 A49.out).mono ?_); (case side1 => repeat (first | exact (Kd.V_reads' HO_222000.out).2.2 | (with_reducible refine Kd.C_alloc ?_ _) | (with_reducible refine Kd.C_drewN ?_ _) | (with_reducible refine Kd.C_drew ?_))); (case side2 => exact (Kd.V_reads' HO_222000.out).2.1); rintro e w55 ⟨v239, rfl, ho0, hb⟩; refine ⟨_, rfl, ?_⟩; have n0_ := Aside0.mk (Kd.V_elder' (by (with_reducible repeat (first | apply Kd.V_alloc | apply Kd.V_drewN | apply Kd.V_drew)); exact HO_222000.out) (Kd.R_base ho0) hb); have n1_ := Aside0.mk (Kd.R_lower (Kd.R_newM (M := fun k_ => (w.heap.size ≤ k_)) ho0 (below_size (by repeat (first | (with_reducible first | exact HB.out | apply below_alloc | apply pw_below_drewN | apply below_drew1 | refine below_set ?_ GE221.out | refine below_set ?_ GE222.out | refine below_set ?_ GE223.out) | exact HB.out))) (fun k_ h_ => h_)) (below_size (by repeat (first | (with_reducible first | exact HB.out | apply below_alloc | apply pw_below_drewN | apply below_drew1 | refine below_set ?_ GE221.out | refine below_set ?_ GE222.out | refine below_set ?_ GE223.out) | exact HB.out)))); have n2_ := Aside0.mk (blk_below (g := gb221) (o := .cells #[.slice A0_0 l0_0.length c0_0] 26 (0, 0)) (by (with_reducible repeat (first | refine blk_drewN ?_ _ | refine blk_drew ?_ | refine blk_alloc ?_ _)); exact BK221.out) hb); have n3_ := Aside0.mk (blk_below (g := gb222) (o := .cells #[.int .i64 a1_0, .int .i64 a1_1, .int .i64 a1_2] 28 (0, 0)) (by (with_reducible repeat (first | refine blk_drewN ?_ _ | refine blk_drew ?_ | refine blk_alloc ?_ _)); exact BK222.out) hb); have n4_ := Aside0.mk (blk_below (g := gb223) (o := .cells #[.slice none 0 0] 26 (0, 0)) (by (with_reducible repeat (first | refine blk_drewN ?_ _ | refine blk_drew ?_ | refine blk_alloc ?_ _)); exact BK223.out) hb); have n5_ := Aside0.mk (below_step (by repeat (first | (with_reducible first | exact HB.out | apply below_alloc | apply pw_below_drewN | apply below_drew1 | refine below_set ?_ GE221.out | refine below_set ?_ GE222.out | refine below_set ?_ GE223.out) | exact HB.out)) hb); clear HO_222000; clear BK221; clear BK222; clear BK223; clear HB; have HO_222000 := n0_; have HO240 := n1_; have BK221 := n2_; have BK222 := n3_; have BK223 := n4_; have HB := n5_; clear n0_ n1_ n2_ n3_ n4_ n5_; (try clear hb); (try clear hb2); (try clear hk); (try clear hi); (try clear ho0); obtain ⟨Ao56, co56, eo56⟩ := Kd.R_slice HO240.out; subst eo56; have hcz57_0 : w55.cell? ⟨gb223, 0, none⟩ = some (.slice none 0 0) := (blk_cell BK223.out 0).trans rfl; have hfz57_0 := blk_frozen BK223.out 0))
                refine bodyPost_ret (results_ct rfl _ _ gb223 26 #[.slice Ao56 t238.length co56] (0, 0) _ rfl (by (with_reducible repeat (first | refine blk_drewN ?_ _ | refine blk_drew ?_ | refine blk_alloc ?_ _)); refine blk_put (cs := #[.slice none 0 0]) ?_ 0 _ rfl; (with_reducible repeat (first | refine blk_drewN ?_ _ | refine blk_drew ?_ | refine blk_alloc ?_ _)); exact BK223.out) Try.underlying26 rfl (by kernel_rfl)) rfl ?_
                exact ⟨_, by first | rfl | (simp [errW_none, errW_some] <;> rfl) | (simp [*, errW_none, errW_some] <;> rfl), Kd.V_mono (Kd.R_V (by (with_reducible repeat (first | apply Kd.R_alloc | apply Kd.R_drewN | apply Kd.R_drew)); exact Kd.R_mono (Kd.R_far (p := ⟨gb223, 0, none⟩) (Kd.R_types HO240.out BK223.out (by decide)) (fun _ hk => hk.2) (.slice Ao56 t238.length co56)) (fun _ hk => hk.1.1))) (fun k_ hk => by first | exact ⟨(.inr (hk.1)), hk.2⟩ | exact (.inr (hk))), by repeat (first | (with_reducible first | exact HB.out | apply below_alloc | apply pw_below_drewN | apply below_drew1 | refine below_set ?_ GE221.out | refine below_set ?_ GE222.out | refine below_set ?_ GE223.out) | exact HB.out)⟩

end Go.Proofs.Ytaolmpchenpaeaa.Q
