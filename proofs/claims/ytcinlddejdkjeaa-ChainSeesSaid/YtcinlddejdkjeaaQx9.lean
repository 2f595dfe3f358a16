-- written by a turned copy of the kit's printer (wip/tools/patch_print.py over print.py); contracts of given functions are this session's own
import Derived.Test.YtcinlddejdkjeaaQx0
namespace Go.Proofs.Ytcinlddejdkjeaa.Q
open Go.RowKit Go.Proofs.YtcinlddejdkjeaaW.PrintWords Go.Proofs.YtcinlddejdkjeaaW.PrintLast Go.Proofs.YtcinlddejdkjeaaW.PrintMore Go.Proofs.Ytcinlddejdkjeaa.G
attribute [local go_sem] max2_int min2_int max_two min_two max_three min_three max_four min_four   -- for this text's walks alone
set_option linter.unusedVariables false
set_option linter.unusedSimpArgs false

/-! ### godwitref07_Few: function 9 -/
def godwitref07_Few.l0 : Nat → Int → List (S46) → Option (Bool)
  | 0, _, _ => none
  | k + 1, x3, x157000 => if x3 < (x157000.length : Int) then (if 0 ≤ x3 then (if (((rd_T46 x157000 x3).f1).length : Int) > 100 then (some false) else (godwitref07_Few.l0 k (wrap64 (x3 + 1)) x157000)) else (none)) else (some true)
def godwitref07_Few.f (k : Nat) (l0_0 : List (S46)) : Option (Bool) := if (l0_0.length : Int) > 60 then (some false) else (godwitref07_Few.l0 k 0 l0_0)
theorem godwitref07_Few.mono_l : ∀ k, (∀ y0 y1, LeO (godwitref07_Few.l0 k y0 y1) (godwitref07_Few.l0 (k + 1) y0 y1))
  | 0 => fun _ _ r h => by simp [godwitref07_Few.l0] at h
  | k + 1 => by
    have ih0 := godwitref07_Few.mono_l k
    · intro y0 y1
      unfold godwitref07_Few.l0
      repeat' first
      | (with_reducible exact ih0 _ _)
      | (with_reducible exact LeO.refl _)
      | (with_reducible exact LeO.none _)
      | (with_reducible refine LeO.ite ?_ ?_)
      | (with_reducible refine LeO.bind ?_ (fun _ => ?_))
      | exact ih0 _ _
      | exact LeO.none _
      | refine LeO.ite ?_ ?_
      | refine LeO.bind ?_ (fun _ => ?_)
theorem godwitref07_Few.mono : ∀ a0 k, LeO (godwitref07_Few.f k a0) (godwitref07_Few.f (k + 1) a0) := by
  intro a0 k
  have ih0 := godwitref07_Few.mono_l k
  unfold godwitref07_Few.f
  repeat' first
      | (with_reducible exact ih0 _ _)
      | (with_reducible exact LeO.refl _)
      | (with_reducible exact LeO.none _)
      | (with_reducible refine LeO.ite ?_ ?_)
      | (with_reducible refine LeO.bind ?_ (fun _ => ?_))
      | exact ih0 _ _
      | exact LeO.none _
      | refine LeO.ite ?_ ?_
      | refine LeO.bind ?_ (fun _ => ?_)
set_option maxHeartbeats 8000000 in
set_option maxRecDepth 100000 in
theorem godwitref07_Few.calls (k : Nat) (A0_0 : Option Addr) (c0_0 : Nat) (l0_0 : List (S46)) (r : Bool) (w : World) (hr0_0 : Kd.C k46 w A0_0 l0_0.length l0_0) (hc0_0 : l0_0.length ≤ c0_0) (h : godwitref07_Few.f k l0_0 = some r) :
    Calls Try.prog 9 #[.agg #[.slice A0_0 l0_0.length c0_0]] w fun e w' => e = .returned (.bool r) ∧ Below w.heap.size w w' := by
  have hu26 := Try.underlying26
  have HR0_0 := Aside0.mk hr0_0
  have HC0_0 := Aside0.mk hc0_0
  clear hr0_0 hc0_0
  have HB := Aside0.mk (Below.refl w.heap.size w)
  have H : (if (l0_0.length : Int) > 60 then (some false) else (godwitref07_Few.l0 k 0 l0_0)) = some r := h
  clear h
  by_cases c2 : (l0_0.length : Int) > 60
  · rw [if_pos c2] at H
    have c2b0 : decide (60 < (l0_0.length : Int)) = true := decide_eq_true c2
    have c2b1 : decide (60 < l0_0.length) = true := decide_eq_true (by omega)
    clear c2
    obtain rfl := Option.some.inj H
    go_enter Try.func9, Try.ntmps9
    go_wp2_with (first | ((with_reducible refine gate_dst (N := 1) rfl ?_); refine box_event ?hg (N := 1) ?hd (cs := #[.slice A0_0 l0_0.length c0_0]) (t := 26) ?hr ?_; (case hd => rfl); (case hg => rfl); (case hr => first | (go_simp; done) | (go_simp; rfl)); intro gb156 hg w3 hbox hb; have n0_ := Aside0.mk (below_step (by repeat (first | (with_reducible first | exact HB.out | apply below_alloc | apply pw_below_drewN | apply below_drew1) | exact HB.out)) hb); have n1_ := Aside0.mk (hbox); have n2_ := Aside0.mk ((by rw [hg]; exact (below_size (by repeat (first | (with_reducible first | exact HB.out | apply below_alloc | apply pw_below_drewN | apply below_drew1) | exact HB.out))) : w.heap.size ≤ gb156)); have n3_ := Aside0.mk ((by rw [hg]; exact (below_size (by repeat (first | (with_reducible first | exact HB.out | apply below_alloc | apply pw_below_drewN | apply below_drew1) | exact HB.out))) : w.heap.size ≤ gb156)); clear HB; have HB := n0_; have BK156 := n1_; have GW156 := n2_; have GE156 := n3_; clear n0_ n1_ n2_ n3_; clear hb hbox hg; have hcz4_0 : w3.cell? ⟨gb156, 0, none⟩ = some (.slice A0_0 l0_0.length c0_0) := (blk_cell BK156.out 0).trans rfl; have hfz4_0 := blk_frozen BK156.out 0))
    go_ret
    exact ⟨by first | rfl | (simp [errW_none, errW_some] <;> rfl) | (simp [*, errW_none, errW_some] <;> rfl), by repeat (first | (with_reducible first | exact HB.out | apply below_alloc | apply pw_below_drewN | apply below_drew1 | refine below_set ?_ GE156.out) | exact HB.out)⟩
  · rw [if_neg c2] at H
    have c2b0 : decide (60 < (l0_0.length : Int)) = false := decide_eq_false c2
    have c2b1 : decide (60 < l0_0.length) = false := decide_eq_false (by omega)
    clear c2
    have H' := Aside0.mk H
    clear H
    go_enter Try.func9, Try.ntmps9
    go_wp2_with (first | ((with_reducible refine gate_dst (N := 1) rfl ?_); refine box_event ?hg (N := 1) ?hd (cs := #[.slice A0_0 l0_0.length c0_0]) (t := 26) ?hr ?_; (case hd => rfl); (case hg => rfl); (case hr => first | (go_simp; done) | (go_simp; rfl)); intro gb156 hg w5 hbox hb; have n0_ := Aside0.mk (below_step (by repeat (first | (with_reducible first | exact HB.out | apply below_alloc | apply pw_below_drewN | apply below_drew1) | exact HB.out)) hb); have n1_ := Aside0.mk (hbox); have n2_ := Aside0.mk ((by rw [hg]; exact (below_size (by repeat (first | (with_reducible first | exact HB.out | apply below_alloc | apply pw_below_drewN | apply below_drew1) | exact HB.out))) : w.heap.size ≤ gb156)); have n3_ := Aside0.mk ((by rw [hg]; exact (below_size (by repeat (first | (with_reducible first | exact HB.out | apply below_alloc | apply pw_below_drewN | apply below_drew1) | exact HB.out))) : w.heap.size ≤ gb156)); clear HB; have HB := n0_; have BK156 := n1_; have GW156 := n2_; have GE156 := n3_; clear n0_ n1_ n2_ n3_; clear hb hbox hg; have hcz6_0 : w5.cell? ⟨gb156, 0, none⟩ = some (.slice A0_0 l0_0.length c0_0) := (blk_cell BK156.out 0).trans rfl; have hfz6_0 := blk_frozen BK156.out 0))
    go_loopg [3] k (fun kq v3 w' => ∃ (x3_1 : Int), v3 = .int .i64 x3_1 ∧ Aside0 (godwitref07_Few.l0 kq x3_1 l0_0 = some r) ∧ Aside0 (kq ≤ k) ∧ Aside0 (w'.heap[gb156]? = some (.cells #[(.slice A0_0 l0_0.length c0_0)] 26 (0, 0))) ∧ Aside0 (Below w.heap.size w w'))
    case atStart => exact ⟨(0), (by first | rfl | (simp; done) | (simp [*]; done)), H', ⟨Nat.le_refl _⟩, ⟨by (with_reducible repeat (first | refine blk_drewN ?_ _ | refine blk_drew ?_ | refine blk_alloc ?_ _)); exact BK156.out⟩, ⟨by repeat (first | (with_reducible first | exact HB.out | apply below_alloc | apply pw_below_drewN | apply below_drew1 | refine below_set ?_ GE156.out) | exact HB.out)⟩⟩
    case round =>
      clear H'
      try clear c2
      try clear c2b0
      try clear c2b1
      try clear p2
      try clear hcz4_0
      try clear hcz6_0
      try clear hfz4_0
      try clear hfz6_0
      obtain ⟨x3_1, rfl, HA, HK1, BK156, HB⟩ := hrel
      cases gk with
      | zero => exact absurd HA.out (by simp [godwitref07_Few.l0])
      | succ k1 =>
        have H := HA.out
        clear HA
        simp only [godwitref07_Few.l0] at H
        by_cases c7 : x3_1 < (l0_0.length : Int)
        · rw [if_pos c7] at H
          have c7b0 : decide (x3_1 < (l0_0.length : Int)) = true := decide_eq_true c7
          clear c7
          by_cases c8 : 0 ≤ x3_1
          · rw [if_pos c8] at H
            have c8b0 : decide (0 ≤ x3_1) = true := decide_eq_true c8
            clear c8
            by_cases c9 : (((rd_T46 l0_0 x3_1).f1).length : Int) > 100
            · rw [if_pos c9] at H
              have c9b0 : decide (100 < (((rd_T46 l0_0 x3_1).f1).length : Int)) = true := decide_eq_true c9
              have c9b1 : decide (100 < ((rd_T46 l0_0 x3_1).f1).length) = true := decide_eq_true (by omega)
              clear c9
              obtain rfl := Option.some.inj H
              have hcz10_0 : wr.cell? ⟨gb156, 0, none⟩ = some (.slice A0_0 l0_0.length c0_0) := (blk_cell BK156.out 0).trans rfl
              have hfz10_0 := blk_frozen BK156.out 0
              have p157 : 0 ≤ (x3_1 : Int) := of_decide_eq_true (by first | (with_reducible assumption) | assumption)
              have q157 : x3_1 < (l0_0.length : Int) := of_decide_eq_true (by first | (with_reducible assumption) | assumption)
              obtain ⟨ad157, A157_1, c157_1, e157, hx157_0, hx157_1, hx157_2, hl157_1, hi157_1⟩ := at_T46 HR0_0.out x3_1 p157 q157
              cases e157
              replace hx157_0 := (HB.out.cell (World.block_lt_of_cell? w _ hx157_0)).trans hx157_0
              replace hx157_1 := (HB.out.cell (World.block_lt_of_cell? w _ hx157_1)).trans hx157_1
              replace hx157_2 := (HB.out.cell (World.block_lt_of_cell? w _ hx157_2)).trans hx157_2
              have HR157_1 := Aside0.mk hi157_1
              have HC157_1 := Aside0.mk hl157_1
              clear hi157_1 hl157_1
              replace p157 := eq_true p157
              replace q157 := eq_true q157
              go_wp2
              go_ret
              exact ⟨by first | rfl | (simp [errW_none, errW_some] <;> rfl) | (simp [*, errW_none, errW_some] <;> rfl), by repeat (first | (with_reducible first | exact HB.out | apply below_alloc | apply pw_below_drewN | apply below_drew1 | refine below_set ?_ GE156.out) | exact HB.out)⟩
            · rw [if_neg c9] at H
              have c9b0 : decide (100 < (((rd_T46 l0_0 x3_1).f1).length : Int)) = false := decide_eq_false c9
              have c9b1 : decide (100 < ((rd_T46 l0_0 x3_1).f1).length) = false := decide_eq_false (by omega)
              clear c9
              have H' := Aside0.mk H
              clear H
              have hcz11_0 : wr.cell? ⟨gb156, 0, none⟩ = some (.slice A0_0 l0_0.length c0_0) := (blk_cell BK156.out 0).trans rfl
              have hfz11_0 := blk_frozen BK156.out 0
              have p157 : 0 ≤ (x3_1 : Int) := of_decide_eq_true (by first | (with_reducible assumption) | assumption)
              have q157 : x3_1 < (l0_0.length : Int) := of_decide_eq_true (by first | (with_reducible assumption) | assumption)
              obtain ⟨ad157, A157_1, c157_1, e157, hx157_0, hx157_1, hx157_2, hl157_1, hi157_1⟩ := at_T46 HR0_0.out x3_1 p157 q157
              cases e157
              replace hx157_0 := (HB.out.cell (World.block_lt_of_cell? w _ hx157_0)).trans hx157_0
              replace hx157_1 := (HB.out.cell (World.block_lt_of_cell? w _ hx157_1)).trans hx157_1
              replace hx157_2 := (HB.out.cell (World.block_lt_of_cell? w _ hx157_2)).trans hx157_2
              have HR157_1 := Aside0.mk hi157_1
              have HC157_1 := Aside0.mk hl157_1
              clear hi157_1 hl157_1
              replace p157 := eq_true p157
              replace q157 := eq_true q157
              go_wp2
              go_roundg k1
              case measure => have := HK1.out; omega
              case rel => exact ⟨(wrap64 (x3_1 + 1)), (by first | rfl | (simp; done) | (simp [*]; done)), H', ⟨by have := HK1.out; omega⟩, ⟨by (with_reducible repeat (first | refine blk_drewN ?_ _ | refine blk_drew ?_ | refine blk_alloc ?_ _)); exact BK156.out⟩, ⟨by repeat (first | (with_reducible first | exact HB.out | apply below_alloc | apply pw_below_drewN | apply below_drew1 | refine below_set ?_ GE156.out) | exact HB.out)⟩⟩
          · rw [if_neg c8] at H
            exact absurd H (by simp)
        · rw [if_neg c7] at H
          have c7b0 : decide (x3_1 < (l0_0.length : Int)) = false := decide_eq_false c7
          clear c7
          obtain rfl := Option.some.inj H
          have hcz12_0 : wr.cell? ⟨gb156, 0, none⟩ = some (.slice A0_0 l0_0.length c0_0) := (blk_cell BK156.out 0).trans rfl
          have hfz12_0 := blk_frozen BK156.out 0
          go_wp2
          go_ret
          exact ⟨by first | rfl | (simp [errW_none, errW_some] <;> rfl) | (simp [*, errW_none, errW_some] <;> rfl), by repeat (first | (with_reducible first | exact HB.out | apply below_alloc | apply pw_below_drewN | apply below_drew1 | refine below_set ?_ GE156.out) | exact HB.out)⟩

end Go.Proofs.Ytcinlddejdkjeaa.Q
