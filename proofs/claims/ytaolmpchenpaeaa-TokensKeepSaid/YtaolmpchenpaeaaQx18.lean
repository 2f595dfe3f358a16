-- written by a turned copy of the kit's printer (wip/tools/patch_print.py over print.py); contracts of given functions are this session's own
import Derived.Test.YtaolmpchenpaeaaQx0
import Derived.Test.YtaolmpchenpaeaaQx1
import Derived.Test.YtaolmpchenpaeaaQx3
import Derived.Test.YtaolmpchenpaeaaQx10
import Derived.Test.YtaolmpchenpaeaaQx13
import Derived.Test.YtaolmpchenpaeaaQx16
namespace Go.Proofs.Ytaolmpchenpaeaa.Q
open Go.RowKit Go.Proofs.YtaolmpchenpaeaaW.PrintWords Go.Proofs.YtaolmpchenpaeaaW.PrintLast Go.Proofs.YtaolmpchenpaeaaW.PrintMore Go.Proofs.Ytaolmpchenpaeaa.G
attribute [local go_sem] max2_int min2_int max_two min_two max_three min_three max_four min_four   -- for this text's walks alone
set_option linter.unusedVariables false
set_option linter.unusedSimpArgs false

attribute [local go_sem high] eqA33
/-! ### godwitlaw12_TokensKeep: function 4 -/
mutual
def godwitlaw12_TokensKeep.l0 : Nat → List (S28) → Int → Int → Bool → Int → Int → Int → Int → List (S33) → Option (Bool)
  | 0, _, _, _, _, _, _, _, _, _ => none
  | k + 1, x0, x2, x3, x9, x11, x267000, x267001, x267002, x269000 => if x11 < (x0.length : Int) then (if 0 ≤ x11 then ((godwitlaw12_did.f k x269000 ((rd_T28 x0 x11).f0) ((rd_T28 x0 x11).f1) ((rd_T28 x0 x11).f2) (wrap64 (x11 + 1))).bind fun bt270 => (if bt270.2 = 0 then (godwitlaw12_TokensKeep.l0 k x0 x2 x3 x9 (wrap64 (x11 + 1)) x267000 x267001 x267002 bt270.1) else (godwitlaw12_TokensKeep.l0 k x0 x2 x3 x9 (wrap64 (x11 + 1)) x267000 x267001 x267002 x269000))) else (none)) else ((tokens_Find.f x269000 x2).bind fun bt275 => ((tokens_Fence.f k x269000 x2 x3).bind fun bt281 => (if bt275.2.2.2.2 = true then (if bt275.2.2.1 = 2 then (if bt281.2.2 = 0 then (if bt281.2.1 = bt275.2.2.2.1 then (godwitlaw12_TokensKeep.j1 k x2 x9 bt275.2.2.2.2 false x267000 x267001 x267002 x269000 bt275.1 bt275.2.1 bt275.2.2.1 bt275.2.2.2.1) else (godwitlaw12_TokensKeep.j1 k x2 x9 bt275.2.2.2.2 true x267000 x267001 x267002 x269000 bt275.1 bt275.2.1 bt275.2.2.1 bt275.2.2.2.1)) else (godwitlaw12_TokensKeep.j1 k x2 x9 bt275.2.2.2.2 (bt281.2.2 != 1) x267000 x267001 x267002 x269000 bt275.1 bt275.2.1 bt275.2.2.1 bt275.2.2.2.1)) else (godwitlaw12_TokensKeep.j1 k x2 x9 bt275.2.2.2.2 false x267000 x267001 x267002 x269000 bt275.1 bt275.2.1 bt275.2.2.1 bt275.2.2.2.1)) else (godwitlaw12_TokensKeep.j1 k x2 x9 bt275.2.2.2.2 false x267000 x267001 x267002 x269000 bt275.1 bt275.2.1 bt275.2.2.1 bt275.2.2.2.1))))
def godwitlaw12_TokensKeep.j1 : Nat → Int → Bool → Bool → Bool → Int → Int → Int → List (S33) → Int → Int → Int → Int → Option (Bool)
  | 0, _, _, _, _, _, _, _, _, _, _, _, _ => none
  | k + 1, x2, x9, x15, x86, x267000, x267001, x267002, x269000, x281000, x281001, x281002, x281003 => if x86 = true then (none) else ((godwitlaw12_did.f k x269000 x267000 x267001 x267002 500).bind fun bt287 => (if bt287.2 = 0 then ((tokens_Find.f bt287.1 x2).bind fun bt292 => (if x9 = true then (if x267001 = x2 then (some true) else (if (x15 == bt292.2.2.2.2) = true then (some (x281000 == bt292.1 && (x281001 == bt292.2.1 && (x281002 == bt292.2.2.1 && (x281003 == bt292.2.2.2.1))))) else (none))) else (none))) else (some x9)))
end
def godwitlaw12_TokensKeep.f (k : Nat) (l0 : List (S28)) (a1_0 : Int) (a1_1 : Int) (a1_2 : Int) (a2 : Int) (a3 : Int) : Option (Bool) := (godwitlaw12_awake.f k).bind fun t267 => (if (l0.length : Int) > 100 then (some t267) else (godwitlaw12_TokensKeep.l0 k l0 a2 a3 t267 0 a1_0 a1_1 a1_2 ([] : List (S33))))
theorem godwitlaw12_TokensKeep.mono_l : ∀ k, (∀ y0 y1 y2 y3 y4 y5 y6 y7 y8, LeO (godwitlaw12_TokensKeep.l0 k y0 y1 y2 y3 y4 y5 y6 y7 y8) (godwitlaw12_TokensKeep.l0 (k + 1) y0 y1 y2 y3 y4 y5 y6 y7 y8)) ∧ (∀ y0 y1 y2 y3 y4 y5 y6 y7 y8 y9 y10 y11, LeO (godwitlaw12_TokensKeep.j1 k y0 y1 y2 y3 y4 y5 y6 y7 y8 y9 y10 y11) (godwitlaw12_TokensKeep.j1 (k + 1) y0 y1 y2 y3 y4 y5 y6 y7 y8 y9 y10 y11))
  | 0 => ⟨fun _ _ _ _ _ _ _ _ _ r h => by simp [godwitlaw12_TokensKeep.l0] at h, fun _ _ _ _ _ _ _ _ _ _ _ _ r h => by simp [godwitlaw12_TokensKeep.j1] at h⟩
  | k + 1 => by
    obtain ⟨ih0, ih1⟩ := godwitlaw12_TokensKeep.mono_l k
    refine ⟨?_, ?_⟩
    · intro y0 y1 y2 y3 y4 y5 y6 y7 y8
      unfold godwitlaw12_TokensKeep.l0
      repeat' first
      | (with_reducible exact ih0 _ _ _ _ _ _ _ _ _)
      | (with_reducible exact ih1 _ _ _ _ _ _ _ _ _ _ _ _)
      | (with_reducible exact godwitlaw12_awake.mono _)
      | (with_reducible exact godwitlaw12_did.mono _ _ _ _ _ _)
      | (with_reducible exact tokens_Fence.mono _ _ _ _)
      | (with_reducible exact LeO.refl _)
      | (with_reducible exact LeO.none _)
      | (with_reducible refine LeO.ite ?_ ?_)
      | (with_reducible refine LeO.bind ?_ (fun _ => ?_))
      | exact ih0 _ _ _ _ _ _ _ _ _
      | exact ih1 _ _ _ _ _ _ _ _ _ _ _ _
      | exact godwitlaw12_awake.mono _
      | exact godwitlaw12_did.mono _ _ _ _ _ _
      | exact tokens_Fence.mono _ _ _ _
      | exact LeO.none _
      | refine LeO.ite ?_ ?_
      | refine LeO.bind ?_ (fun _ => ?_)
    · intro y0 y1 y2 y3 y4 y5 y6 y7 y8 y9 y10 y11
      unfold godwitlaw12_TokensKeep.j1
      repeat' first
      | (with_reducible exact ih0 _ _ _ _ _ _ _ _ _)
      | (with_reducible exact ih1 _ _ _ _ _ _ _ _ _ _ _ _)
      | (with_reducible exact godwitlaw12_awake.mono _)
      | (with_reducible exact godwitlaw12_did.mono _ _ _ _ _ _)
      | (with_reducible exact tokens_Fence.mono _ _ _ _)
      | (with_reducible exact LeO.refl _)
      | (with_reducible exact LeO.none _)
      | (with_reducible refine LeO.ite ?_ ?_)
      | (with_reducible refine LeO.bind ?_ (fun _ => ?_))
      | exact ih0 _ _ _ _ _ _ _ _ _
      | exact ih1 _ _ _ _ _ _ _ _ _ _ _ _
      | exact godwitlaw12_awake.mono _
      | exact godwitlaw12_did.mono _ _ _ _ _ _
      | exact tokens_Fence.mono _ _ _ _
      | exact LeO.none _
      | refine LeO.ite ?_ ?_
      | refine LeO.bind ?_ (fun _ => ?_)
theorem godwitlaw12_TokensKeep.mono : ∀ a0 a1 a2 a3 a4 a5 k, LeO (godwitlaw12_TokensKeep.f k a0 a1 a2 a3 a4 a5) (godwitlaw12_TokensKeep.f (k + 1) a0 a1 a2 a3 a4 a5) := by
  intro a0 a1 a2 a3 a4 a5 k
  obtain ⟨ih0, ih1⟩ := godwitlaw12_TokensKeep.mono_l k
  unfold godwitlaw12_TokensKeep.f
  repeat' first
      | (with_reducible exact ih0 _ _ _ _ _ _ _ _ _)
      | (with_reducible exact ih1 _ _ _ _ _ _ _ _ _ _ _ _)
      | (with_reducible exact godwitlaw12_awake.mono _)
      | (with_reducible exact godwitlaw12_did.mono _ _ _ _ _ _)
      | (with_reducible exact tokens_Fence.mono _ _ _ _)
      | (with_reducible exact LeO.refl _)
      | (with_reducible exact LeO.none _)
      | (with_reducible refine LeO.ite ?_ ?_)
      | (with_reducible refine LeO.bind ?_ (fun _ => ?_))
      | exact ih0 _ _ _ _ _ _ _ _ _
      | exact ih1 _ _ _ _ _ _ _ _ _ _ _ _
      | exact godwitlaw12_awake.mono _
      | exact godwitlaw12_did.mono _ _ _ _ _ _
      | exact tokens_Fence.mono _ _ _ _
      | exact LeO.none _
      | refine LeO.ite ?_ ?_
      | refine LeO.bind ?_ (fun _ => ?_)
def godwitlaw12_TokensKeep.T8 : Bool × List (List Nat × List Nat) := (true, [([], []), ([], []), ([], []), ([1, 2], [1, 2]), ([3], [3]), ([], []), ([5], [5]), ([0, 4, 6], [0, 4, 6]), ([7], [7]), ([8], [8]), ([8], [8]), ([], []), ([11, 9, 7, 0, 1, 2, 3, 4, 5, 6, 7, 8, 9, 11], [9, 11]), ([10, 12, 0, 1, 2, 3, 4, 5, 6, 7, 8, 9, 10, 11, 12], [10])])
def godwitlaw12_TokensKeep.B8 : List Nat := [0, 0, 0, 6, 14, 0, 32, 127, 255, 511, 511, 0, 3071, 8191]
theorem godwitlaw12_TokensKeep.tab8 : rtab .any (opsOf Try.f4 8) = godwitlaw12_TokensKeep.T8 := by kernel_rfl
theorem godwitlaw12_TokensKeep.bits8 : waitsOk godwitlaw12_TokensKeep.T8.2 godwitlaw12_TokensKeep.B8 = true := by kernel_rfl
set_option maxHeartbeats 8000000 in
set_option maxRecDepth 100000 in
theorem godwitlaw12_TokensKeep.calls (k : Nat) (A0 : Option Addr) (c0 : Nat) (l0 : List (S28)) (a1_0 : Int) (a1_1 : Int) (a1_2 : Int) (a2 : Int) (a3 : Int) (r : Bool) (w : World) (hr0 : Kd.C k28 w A0 l0.length l0) (hc0 : l0.length ≤ c0) (h : godwitlaw12_TokensKeep.f k l0 a1_0 a1_1 a1_2 a2 a3 = some r) :
    Calls Try.prog 4 #[.slice A0 l0.length c0, .agg #[.int .i64 a1_0, .int .i64 a1_1, .int .i64 a1_2], .int .i64 a2, .int .i64 a3] w fun e w' => e = .returned (.bool r) ∧ Below w.heap.size w w' := by
  have hu28 := Try.underlying28
  have hu26 := Try.underlying26
  have hu33 := Try.underlying33
  have HR0 := Aside0.mk hr0
  have HC0 := Aside0.mk hc0
  clear hr0 hc0
  have HB := Aside0.mk (Below.refl w.heap.size w)
  have H : ((godwitlaw12_awake.f k).bind fun t267 => (if (l0.length : Int) > 100 then (some t267) else (godwitlaw12_TokensKeep.l0 k l0 a2 a3 t267 0 a1_0 a1_1 a1_2 ([] : List (S33))))) = some r := h
  clear h
  replace H := Option.bind_eq_some_iff.mp H
  obtain ⟨t267, A50, H⟩ := H
  replace H : (if (l0.length : Int) > 100 then (some t267) else (godwitlaw12_TokensKeep.l0 k l0 a2 a3 t267 0 a1_0 a1_1 a1_2 ([] : List (S33)))) = some r := H
  have A5 := Aside0.mk A50
  clear A50
  by_cases c6 : (l0.length : Int) > 100
  · rw [if_pos c6] at H
    have c6b0 : decide (100 < (l0.length : Int)) = true := decide_eq_true c6
    have c6b1 : decide (100 < l0.length) = true := decide_eq_true (by omega)
    clear c6
    obtain rfl := Option.some.inj H
    go_enter Try.func4, Try.ntmps4
    go_wp2_with (first | ((with_reducible refine gate_dst (N := 5) rfl ?_); refine box_event ?hg (N := 5) ?hd (cs := #[.int .i64 a1_0, .int .i64 a1_1, .int .i64 a1_2]) (t := 28) ?hr ?_; (case hd => rfl); (case hg => rfl); (case hr => first | (go_simp; done) | (go_simp; rfl)); intro gb266 hg w7 hbox hb; have n0_ := Aside0.mk (below_step (by repeat (first | (with_reducible first | exact HB.out | apply below_alloc | apply pw_below_drewN | apply below_drew1) | exact HB.out)) hb); have n1_ := Aside0.mk (hbox); have n2_ := Aside0.mk ((by rw [hg]; exact (below_size (by repeat (first | (with_reducible first | exact HB.out | apply below_alloc | apply pw_below_drewN | apply below_drew1) | exact HB.out))) : w.heap.size ≤ gb266)); have n3_ := Aside0.mk ((by rw [hg]; exact (below_size (by repeat (first | (with_reducible first | exact HB.out | apply below_alloc | apply pw_below_drewN | apply below_drew1) | exact HB.out))) : w.heap.size ≤ gb266)); clear HB; have HB := n0_; have BK266 := n1_; have GW266 := n2_; have GE266 := n3_; clear n0_ n1_ n2_ n3_; clear hb hbox hg) | ((with_reducible refine gate_callee (f := 7) rfl ?_); refine goesL_ (some 23) rfl rfl Try.func7 (by kernel_rfl) rfl #[] rfl (by (try simp only [List.map_toArray, List.map_cons, List.map_nil]); first | done | rfl | (simp only [List.length_drop, List.length_take]; rfl)) ?_; (with_reducible refine (godwitlaw12_awake.calls k  t267 _ A5.out).mono ?_); rintro e w8 ⟨rfl, hb⟩; refine ⟨_, rfl, ?_⟩; have n0_ := Aside0.mk (blk_below (g := gb266) (o := .cells #[.int .i64 a1_0, .int .i64 a1_1, .int .i64 a1_2] 28 (0, 0)) (by (with_reducible repeat (first | refine blk_drewN ?_ _ | refine blk_drew ?_ | refine blk_alloc ?_ _)); exact BK266.out) hb); have n1_ := Aside0.mk (below_step (by repeat (first | (with_reducible first | exact HB.out | apply below_alloc | apply pw_below_drewN | apply below_drew1 | refine below_set ?_ GE266.out) | exact HB.out)) hb); clear BK266; clear HB; have BK266 := n0_; have HB := n1_; clear n0_ n1_; (try clear hb); (try clear hb2); (try clear hk); (try clear hi)))
    go_ret
    exact ⟨by first | rfl | (simp [errW_none, errW_some] <;> rfl) | (simp [*, errW_none, errW_some] <;> rfl), by repeat (first | (with_reducible first | exact HB.out | apply below_alloc | apply pw_below_drewN | apply below_drew1 | refine below_set ?_ GE266.out) | exact HB.out)⟩
  · rw [if_neg c6] at H
    have c6b0 : decide (100 < (l0.length : Int)) = false := decide_eq_false c6
    have c6b1 : decide (100 < l0.length) = false := decide_eq_false (by omega)
    clear c6
    have H' := Aside0.mk H
    clear H
    go_enter Try.func4, Try.ntmps4
    go_wp2_with (first | ((with_reducible refine gate_dst (N := 5) rfl ?_); refine box_event ?hg (N := 5) ?hd (cs := #[.int .i64 a1_0, .int .i64 a1_1, .int .i64 a1_2]) (t := 28) ?hr ?_; (case hd => rfl); (case hg => rfl); (case hr => first | (go_simp; done) | (go_simp; rfl)); intro gb266 hg w9 hbox hb; have n0_ := Aside0.mk (below_step (by repeat (first | (with_reducible first | exact HB.out | apply below_alloc | apply pw_below_drewN | apply below_drew1) | exact HB.out)) hb); have n1_ := Aside0.mk (hbox); have n2_ := Aside0.mk ((by rw [hg]; exact (below_size (by repeat (first | (with_reducible first | exact HB.out | apply below_alloc | apply pw_below_drewN | apply below_drew1) | exact HB.out))) : w.heap.size ≤ gb266)); have n3_ := Aside0.mk ((by rw [hg]; exact (below_size (by repeat (first | (with_reducible first | exact HB.out | apply below_alloc | apply pw_below_drewN | apply below_drew1) | exact HB.out))) : w.heap.size ≤ gb266)); clear HB; have HB := n0_; have BK266 := n1_; have GW266 := n2_; have GE266 := n3_; clear n0_ n1_ n2_ n3_; clear hb hbox hg) | ((with_reducible refine gate_callee (f := 7) rfl ?_); refine goesL_ (some 23) rfl rfl Try.func7 (by kernel_rfl) rfl #[] rfl (by (try simp only [List.map_toArray, List.map_cons, List.map_nil]); first | done | rfl | (simp only [List.length_drop, List.length_take]; rfl)) ?_; (with_reducible refine (godwitlaw12_awake.calls k  t267 _ A5.out).mono ?_); rintro e w10 ⟨rfl, hb⟩; refine ⟨_, rfl, ?_⟩; have n0_ := Aside0.mk (blk_below (g := gb266) (o := .cells #[.int .i64 a1_0, .int .i64 a1_1, .int .i64 a1_2] 28 (0, 0)) (by (with_reducible repeat (first | refine blk_drewN ?_ _ | refine blk_drew ?_ | refine blk_alloc ?_ _)); exact BK266.out) hb); have n1_ := Aside0.mk (below_step (by repeat (first | (with_reducible first | exact HB.out | apply below_alloc | apply pw_below_drewN | apply below_drew1 | refine below_set ?_ GE266.out) | exact HB.out)) hb); clear BK266; clear HB; have BK266 := n0_; have HB := n1_; clear n0_ n1_; (try clear hb); (try clear hb2); (try clear hk); (try clear hi)) | ((with_reducible refine gate_dst (N := 10) rfl ?_); refine box_event ?hg (N := 10) ?hd (cs := #[.slice none 0 0]) (t := 26) ?hr ?_; (case hd => rfl); (case hg => rfl); (case hr => first | (go_simp; done) | (go_simp; rfl)); intro gb268 hg w11 hbox hb; have n0_ := Aside0.mk (blk_below (g := gb266) (o := .cells #[.int .i64 a1_0, .int .i64 a1_1, .int .i64 a1_2] 28 (0, 0)) (by (with_reducible repeat (first | refine blk_drewN ?_ _ | refine blk_drew ?_ | refine blk_alloc ?_ _)); exact BK266.out) hb); have n1_ := Aside0.mk (below_step (by repeat (first | (with_reducible first | exact HB.out | apply below_alloc | apply pw_below_drewN | apply below_drew1 | refine below_set ?_ GE266.out) | exact HB.out)) hb); have n2_ := Aside0.mk (hbox); have n3_ := Aside0.mk ((by rw [hg]; exact (below_size (by repeat (first | (with_reducible first | exact HB.out | apply below_alloc | apply pw_below_drewN | apply below_drew1 | refine below_set ?_ GE266.out) | exact HB.out))) : w.heap.size ≤ gb268)); have n4_ := Aside0.mk ((by rw [hg]; exact (below_size (by repeat (first | (with_reducible first | exact HB.out | apply below_alloc | apply pw_below_drewN | apply below_drew1 | refine below_set ?_ GE266.out) | exact HB.out))) : w.heap.size ≤ gb268)); have n5_ := Aside0.mk ((by rw [hg]; exact Nat.ne_of_lt (blk_lt (g := gb266) (o := .cells #[.int .i64 a1_0, .int .i64 a1_1, .int .i64 a1_2] 28 (0, 0)) (by (with_reducible repeat (first | refine blk_drewN ?_ _ | refine blk_drew ?_ | refine blk_alloc ?_ _)); exact BK266.out)) : gb266 ≠ gb268)); have n6_ := Aside0.mk ((by rw [hg]; exact Nat.ne_of_gt (blk_lt (g := gb266) (o := .cells #[.int .i64 a1_0, .int .i64 a1_1, .int .i64 a1_2] 28 (0, 0)) (by (with_reducible repeat (first | refine blk_drewN ?_ _ | refine blk_drew ?_ | refine blk_alloc ?_ _)); exact BK266.out)) : gb268 ≠ gb266)); clear BK266; clear HB; have BK266 := n0_; have HB := n1_; have BK268 := n2_; have GW268 := n3_; have GE268 := n4_; have NB266_268 := n5_; have NB268_266 := n6_; clear n0_ n1_ n2_ n3_ n4_ n5_ n6_; clear hb hbox hg; have hnb12 := NB268_266.out; have hnc12 := NB266_268.out; have hcz13_0 : w11.cell? ⟨gb268, 0, none⟩ = some (.slice none 0 0) := (blk_cell BK268.out 0).trans rfl; have hfz13_0 := blk_frozen BK268.out 0))
    go_loopg [11] k (fun kq v11 w' => ∃ (x11_1 : Int) (x269000_1 : List (S33)) (u269000 : Value), v11 = .int .i64 x11_1 ∧ Aside0 (godwitlaw12_TokensKeep.l0 kq l0 a2 a3 t267 x11_1 a1_0 a1_1 a1_2 x269000_1 = some r) ∧ Aside0 (kq ≤ k) ∧ Aside0 (Kd.V k33 33 w' w.heap.size (fun k_ => k_ ≠ gb266 ∧ k_ ≠ gb268) u269000 x269000_1) ∧ Aside0 (w'.heap[gb266]? = some (.cells #[.int .i64 a1_0, .int .i64 a1_1, .int .i64 a1_2] 28 (0, 0))) ∧ Aside0 (w'.heap[gb268]? = some (.cells #[u269000] 26 (0, 0))) ∧ Aside0 (Below w.heap.size w w'))
    case atStart => exact ⟨(0), (([] : List (S33))), (.slice none 0 0), (by first | rfl | (simp; done) | (simp [*]; done)), H', ⟨Nat.le_refl _⟩, ⟨Kd.V_nil _ _ _ _ _⟩, ⟨by (with_reducible repeat (first | refine blk_drewN ?_ _ | refine blk_drew ?_ | refine blk_alloc ?_ _)); refine blk_far ?_ NB266_268.out _; (with_reducible repeat (first | refine blk_drewN ?_ _ | refine blk_drew ?_ | refine blk_alloc ?_ _)); exact BK266.out⟩, ⟨by (with_reducible repeat (first | refine blk_drewN ?_ _ | refine blk_drew ?_ | refine blk_alloc ?_ _)); refine blk_put (cs := #[.slice none 0 0]) ?_ 0 _ rfl; (with_reducible repeat (first | refine blk_drewN ?_ _ | refine blk_drew ?_ | refine blk_alloc ?_ _)); exact BK268.out⟩, ⟨by repeat (first | (with_reducible first | exact HB.out | apply below_alloc | apply pw_below_drewN | apply below_drew1 | refine below_set ?_ GE266.out | refine below_set ?_ GE268.out) | exact HB.out)⟩⟩
    case round =>
      clear H'
      try clear c1
      try clear p2
      try clear c4
      try clear c6
      try clear c6b0
      try clear c6b1
      try clear c7
      try clear c12
      try clear hcz13_0
      try clear hfz13_0
      obtain ⟨x11_1, x269000_1, u269000, rfl, HA, HK1, HO_269000, BK266, BK268, HB⟩ := hrel
      cases gk with
      | zero => exact absurd HA.out (by simp [godwitlaw12_TokensKeep.l0])
      | succ k1 =>
        have H := HA.out
        clear HA
        simp only [godwitlaw12_TokensKeep.l0] at H
        by_cases c14 : x11_1 < (l0.length : Int)
        · rw [if_pos c14] at H
          have c14b0 : decide (x11_1 < (l0.length : Int)) = true := decide_eq_true c14
          clear c14
          by_cases c15 : 0 ≤ x11_1
          · rw [if_pos c15] at H
            have c15b0 : decide (0 ≤ x11_1) = true := decide_eq_true c15
            clear c15
            replace H := Option.bind_eq_some_iff.mp H
            obtain ⟨⟨t270, t273⟩, A160, H⟩ := H
            replace H : (if t273 = 0 then (godwitlaw12_TokensKeep.l0 k1 l0 a2 a3 t267 (wrap64 (x11_1 + 1)) a1_0 a1_1 a1_2 t270) else (godwitlaw12_TokensKeep.l0 k1 l0 a2 a3 t267 (wrap64 (x11_1 + 1)) a1_0 a1_1 a1_2 x269000_1)) = some r := H
            have A16 := Aside0.mk A160
            clear A160
            by_cases c17 : t273 = 0
            · rw [if_pos c17] at H
              have c17b0 : (t273 == 0) = true := beq_iff_eq.mpr c17
              have c17b1 : (t273 != 0) = false := bne_eq_false_iff_eq.mpr c17
              clear c17
              have H' := Aside0.mk H
              clear H
              obtain ⟨Ao18, co18, eo18⟩ := Kd.V_slice HO_269000.out
              subst eo18
              try go_wp2
              have n0_ := Aside0.mk (Kd.V_drew HO_269000.out)
              have n1_ := Aside0.mk (blk_drew BK266.out)
              have n2_ := Aside0.mk (blk_drew BK268.out)
              have n3_ := Aside0.mk (below_drew1 HB.out)
              clear HO_269000
              clear BK266
              clear BK268
              clear HB
              have HO_269000 := n0_
              have BK266 := n1_
              have BK268 := n2_
              have HB := n3_
              clear n0_ n1_ n2_ n3_
              have p269 : 0 ≤ (x11_1 : Int) := of_decide_eq_true (by first | (with_reducible assumption) | assumption)
              have q269 : x11_1 < (l0.length : Int) := of_decide_eq_true (by first | (with_reducible assumption) | assumption)
              obtain ⟨ad269, e269, hx269_0, hx269_1, hx269_2⟩ := at_T28 HR0.out x11_1 p269 q269
              have hw269_2 := hx269_2
              have hw269_1 := hx269_1
              have hw269_0 := hx269_0
              cases e269
              replace hx269_0 := (HB.out.cell (World.block_lt_of_cell? w _ hx269_0)).trans hx269_0
              replace hx269_1 := (HB.out.cell (World.block_lt_of_cell? w _ hx269_1)).trans hx269_1
              replace hx269_2 := (HB.out.cell (World.block_lt_of_cell? w _ hx269_2)).trans hx269_2
              replace p269 := eq_true p269
              replace q269 := eq_true q269
              refine start_ (n := 14) (S := fun w' => w'.cell? ⟨gb268, 0, none⟩ = some (.slice Ao18 x269000_1.length co18) ∧ w'.cell? (ad269.add ((x11_1).toNat * 3)) = some (.int .i64 ((rd_T28 l0 x11_1).f0)) ∧ w'.cell? ⟨(ad269.add ((x11_1).toNat * 3)).block, (ad269.add ((x11_1).toNat * 3)).off + 1, none⟩ = some (.int .i64 ((rd_T28 l0 x11_1).f1)) ∧ w'.cell? ⟨(ad269.add ((x11_1).toNat * 3)).block, (ad269.add ((x11_1).toNat * 3)).off + 2, none⟩ = some (.int .i64 ((rd_T28 l0 x11_1).f2))) (ds := []) #[false, false, false, false, false, false, false, false, false, false, false, false, false, false] (by kernel_rfl) rfl rfl ⟨(blk_cell BK268.out 0).trans rfl, ((HB.out.cell (World.block_lt_of_cell? w _ hw269_0)).trans hw269_0), ((HB.out.cell (World.block_lt_of_cell? w _ hw269_1)).trans hw269_1), ((HB.out.cell (World.block_lt_of_cell? w _ hw269_2)).trans hw269_2)⟩ (fun hHeld => ?_); refine with_tabW godwitlaw12_TokensKeep.tab8 godwitlaw12_TokensKeep.bits8 (fun HT_ HW_ => ?_)
              generalize wr.drew = w19 at HO_269000 BK266 BK268 HB hx269_0 hx269_1 hx269_2 hHeld ⊢
              refine pure_ (i := 1) (N := some 37) (v := ?_) (a' := ?_) #[false, true, false, false, false, false, false, false, false, false, false, false, false, false] rfl rfl (any_of HT_.out (by kernel_rfl)) (fun _ _ _ h => h) (Or.inl ⟨by rfl, ?_⟩) ?_ ?_
              rotate_left
              · intro w'
                go_simp
                with_reducible rfl
              rotate_left
              · simp only [Act.put, List.setIfInBounds_toArray, List.set_cons_zero, List.set_cons_succ, i64_w, i32_w]
                rfl
              refine pure_ (i := 2) (N := some 38) (v := ?_) (a' := ?_) #[false, true, true, false, false, false, false, false, false, false, false, false, false, false] rfl rfl (any_of HT_.out (by kernel_rfl)) (fun _ _ _ h => h) (Or.inl ⟨by rfl, ?_⟩) ?_ ?_
              rotate_left
              · intro w'
                go_simp
                with_reducible rfl
              rotate_left
              · simp only [Act.put, List.setIfInBounds_toArray, List.set_cons_zero, List.set_cons_succ, i64_w, i32_w]
                rfl
              refine pure_ (i := 3) (N := some 39) (v := ?_) (a' := ?_) #[false, true, true, true, false, false, false, false, false, false, false, false, false, false] rfl rfl (any_of HT_.out (by kernel_rfl)) (fun _ _ _ h => h) (Or.inl ⟨by rfl, ?_⟩) ?_ ?_
              rotate_left
              · intro w'
                go_simp
                with_reducible rfl
              rotate_left
              · simp only [Act.put, List.setIfInBounds_toArray, List.set_cons_zero, List.set_cons_succ, i64_w, i32_w]
                rfl
              refine pure_ (i := 5) (N := some 41) (v := ?_) (a' := ?_) #[false, true, true, true, false, true, false, false, false, false, false, false, false, false] rfl rfl (any_of HT_.out (by kernel_rfl)) (fun _ _ _ h => h) (Or.inl ⟨by rfl, ?_⟩) ?_ ?_
              rotate_left
              · intro w'
                go_simp
                with_reducible rfl
              rotate_left
              · simp only [Act.put, List.setIfInBounds_toArray, List.set_cons_zero, List.set_cons_succ, i64_w, i32_w]
                rfl
              refine pure_ (i := 6) (N := some 42) (v := ?_) (a' := ?_) #[false, true, true, true, false, true, true, false, false, false, false, false, false, false] rfl rfl (any_of HT_.out (by kernel_rfl)) (fun _ _ _ h => h) (Or.inl ⟨by rfl, ?_⟩) ?_ ?_
              rotate_left
              · intro w'
                go_simp
                with_reducible rfl
              rotate_left
              · simp only [Act.put, List.setIfInBounds_toArray, List.set_cons_zero, List.set_cons_succ, i64_w, i32_w]
                rfl
              refine take_ (i := 0) (N := some 36) (v := ?_) (a' := ?_) #[true, true, true, true, false, true, true, false, false, false, false, false, false, false] rfl rfl (take_ofW HT_.out HW_.out (by kernel_rfl)) (fun _ _ _ h => h) (Or.inl ⟨by rfl, ?_⟩) hHeld ?_ ?_
              rotate_left
              · rintro w' ⟨s0, s1, s2, s3⟩
                go_simp
                with_reducible rfl
              rotate_left
              · simp only [Act.put, List.setIfInBounds_toArray, List.set_cons_zero, List.set_cons_succ, i64_w, i32_w]
                rfl
              refine take_ (i := 4) (N := some 40) (v := ?_) (a' := ?_) #[true, true, true, true, true, true, true, false, false, false, false, false, false, false] rfl rfl (take_ofW HT_.out HW_.out (by kernel_rfl)) (fun _ _ _ h => h) (Or.inl ⟨by rfl, ?_⟩) hHeld ?_ ?_
              rotate_left
              · rintro w' ⟨s0, s1, s2, s3⟩
                go_simp
                with_reducible rfl
              rotate_left
              · simp only [Act.put, List.setIfInBounds_toArray, List.set_cons_zero, List.set_cons_succ, i64_w, i32_w]
                rfl
              refine join_ (σ := Value × Nat) 2 #[true, true, true, true, true, true, true, true, true, true, true, true, false, false] (fun s_ => [(43, .tuple #[.agg #[s_.1], .int .i64 t273]), (12, .pointer (some ⟨s_.2, 0, none⟩)), (35, .tuple #[.agg #[s_.1], .int .i64 t273]), (44, .agg #[s_.1]), (45, .int .i64 t273)]) (fun s_ w' => (w'.cell? ⟨gb268, 0, none⟩ = some (.slice Ao18 x269000_1.length co18) ∧ w'.cell? (ad269.add ((x11_1).toNat * 3)) = some (.int .i64 ((rd_T28 l0 x11_1).f0)) ∧ w'.cell? ⟨(ad269.add ((x11_1).toNat * 3)).block, (ad269.add ((x11_1).toNat * 3)).off + 1, none⟩ = some (.int .i64 ((rd_T28 l0 x11_1).f1)) ∧ w'.cell? ⟨(ad269.add ((x11_1).toNat * 3)).block, (ad269.add ((x11_1).toNat * 3)).off + 2, none⟩ = some (.int .i64 ((rd_T28 l0 x11_1).f2))) ∧ (Kd.V k33 33 w' w.heap.size (fun k_ => k_ ≠ gb266 ∧ k_ ≠ gb268 ∧ k_ ≠ s_.2) s_.1 t270) ∧ (Kd.V k33 33 w' w.heap.size (fun k_ => k_ ≠ gb266 ∧ k_ ≠ gb268 ∧ k_ ≠ s_.2) (.slice Ao18 x269000_1.length co18) x269000_1) ∧ (w'.heap[gb266]? = some (.cells #[.int .i64 a1_0, .int .i64 a1_1, .int .i64 a1_2] 28 (0, 0))) ∧ (w'.heap[gb268]? = some (.cells #[.slice Ao18 x269000_1.length co18] 26 (0, 0))) ∧ (w'.heap[s_.2]? = some (.cells #[.slice none 0 0] 26 (0, 0))) ∧ (w.heap.size ≤ s_.2) ∧ (w.heap.size ≤ s_.2) ∧ (gb266 ≠ s_.2) ∧ (s_.2 ≠ gb266) ∧ (gb268 ≠ s_.2) ∧ (s_.2 ≠ gb268) ∧ (Below w.heap.size w w')) ?_ ?_
              rotate_left
              · intro hCont
                refine two_ (i := 7) (j := 11) (Ni := some 43) (Nj := some 12) #[true, true, true, true, true, true, true, true, false, false, false, false, false, false] #[true, true, true, true, true, true, true, false, false, false, false, true, false, false] rfl rfl rfl rfl (two_of HT_.out (by kernel_rfl)) (by decide) (by decide) (fun K hK => ?_) (fun K hK => ?_)
                · skip
                  refine goes_ Try.func8 (by kernel_rfl) rfl #[.agg #[.slice Ao18 x269000_1.length co18], .agg #[.int .i64 ((rd_T28 l0 x11_1).f0), .int .i64 ((rd_T28 l0 x11_1).f1), .int .i64 ((rd_T28 l0 x11_1).f2)], .int .i64 (wrap64 (x11_1 + 1))] (by rfl) rfl rfl (by (try simp only [List.map_toArray, List.map_cons, List.map_nil]); first | done | rfl | (simp only [List.length_drop, List.length_take]; rfl)) ?_
                  with_reducible refine (godwitlaw12_did.calls k1 (fun k_ => (k_ ≠ gb266 ∧ k_ ≠ gb268)) _ _ x269000_1 ((rd_T28 l0 x11_1).f0) ((rd_T28 l0 x11_1).f1) ((rd_T28 l0 x11_1).f2) (wrap64 (x11_1 + 1)) t270 t273 _ ?side1 A16.out).mono ?_
                  (case side1 => exact HO_269000.out)
                  rintro e w20 ⟨v271, rfl, ho0, hb⟩
                  refine ⟨_, rfl, ?_⟩
                  have n0_ := Aside0.mk (Kd.V_below (by (with_reducible repeat (first | apply Kd.V_alloc | apply Kd.V_drewN | apply Kd.V_drew)); exact HO_269000.out) hb)
                  have n1_ := Aside0.mk (Kd.V_lower (Kd.V_mono (ok' := fun k_ => k_ ≠ gb266 ∧ k_ ≠ gb268) ho0 (fun k_ hk_ => ⟨Or.elim hk_ (fun hs_ => hs_.1) (fun hn_ => (Kd.freshB (g := gb266) (o := .cells #[.int .i64 a1_0, .int .i64 a1_1, .int .i64 a1_2] 28 (0, 0)) (by (with_reducible repeat (first | refine blk_drewN ?_ _ | refine blk_drew ?_ | refine blk_alloc ?_ _)); exact BK266.out) k_ hn_)), Or.elim hk_ (fun hs_ => hs_.2) (fun hn_ => (Kd.freshB (g := gb268) (o := .cells #[.slice Ao18 x269000_1.length co18] 26 (0, 0)) (by (with_reducible repeat (first | refine blk_drewN ?_ _ | refine blk_drew ?_ | refine blk_alloc ?_ _)); exact BK268.out) k_ hn_))⟩)) (below_size (by repeat (first | (with_reducible first | exact HB.out | apply below_alloc | apply pw_below_drewN | apply below_drew1 | refine below_set ?_ GE266.out | refine below_set ?_ GE268.out) | exact HB.out))))
                  have n2_ := Aside0.mk (blk_below (g := gb266) (o := .cells #[.int .i64 a1_0, .int .i64 a1_1, .int .i64 a1_2] 28 (0, 0)) (by (with_reducible repeat (first | refine blk_drewN ?_ _ | refine blk_drew ?_ | refine blk_alloc ?_ _)); exact BK266.out) hb)
                  have n3_ := Aside0.mk (blk_below (g := gb268) (o := .cells #[.slice Ao18 x269000_1.length co18] 26 (0, 0)) (by (with_reducible repeat (first | refine blk_drewN ?_ _ | refine blk_drew ?_ | refine blk_alloc ?_ _)); exact BK268.out) hb)
                  have n4_ := Aside0.mk (below_step (by repeat (first | (with_reducible first | exact HB.out | apply below_alloc | apply pw_below_drewN | apply below_drew1 | refine below_set ?_ GE266.out | refine below_set ?_ GE268.out) | exact HB.out)) hb)
                  clear HO_269000
                  clear BK266
                  clear BK268
                  clear HB
                  have HO_269000 := n0_
                  have HO272 := n1_
                  have BK266 := n2_
                  have BK268 := n3_
                  have HB := n4_
                  clear n0_ n1_ n2_ n3_ n4_
                  (try clear hb)
                  (try clear hb2)
                  (try clear hk)
                  (try clear hi)
                  (try clear ho0)
                  refine hK.out _ _ ⟨(blk_cell BK268.out 0).trans rfl, ((HB.out.cell (World.block_lt_of_cell? w _ hw269_0)).trans hw269_0), ((HB.out.cell (World.block_lt_of_cell? w _ hw269_1)).trans hw269_1), ((HB.out.cell (World.block_lt_of_cell? w _ hw269_2)).trans hw269_2)⟩ (fun hHeld => ?_)
                  clear hK K
                  refine norm_ (a' := ?_) ?_ ?_
                  rotate_left
                  · show Act.put _ (some 43) _ = _
                    simp only [Act.put, List.setIfInBounds_toArray, List.set_cons_zero, List.set_cons_succ, i64_w, i32_w]
                    rfl
                  refine pure_ (i := 8) (N := some 35) (v := ?_) (a' := ?_) #[true, true, true, true, true, true, true, true, true, false, false, false, false, false] rfl rfl (any_of HT_.out (by kernel_rfl)) (fun _ _ _ h => h) (Or.inl ⟨by rfl, ?_⟩) ?_ ?_
                  rotate_left
                  · intro w'
                    go_simp
                    with_reducible rfl
                  rotate_left
                  · simp only [Act.put, List.setIfInBounds_toArray, List.set_cons_zero, List.set_cons_succ, i64_w, i32_w]
                    rfl
                  refine pure_ (i := 9) (N := some 44) (v := ?_) (a' := ?_) #[true, true, true, true, true, true, true, true, true, true, false, false, false, false] rfl rfl (any_of HT_.out (by kernel_rfl)) (fun _ _ _ h => h) (Or.inl ⟨by rfl, ?_⟩) ?_ ?_
                  rotate_left
                  · intro w'
                    go_simp
                    with_reducible rfl
                  rotate_left
                  · simp only [Act.put, List.setIfInBounds_toArray, List.set_cons_zero, List.set_cons_succ, i64_w, i32_w]
                    rfl
                  refine pure_ (i := 10) (N := some 45) (v := ?_) (a' := ?_) #[true, true, true, true, true, true, true, true, true, true, true, false, false, false] rfl rfl (any_of HT_.out (by kernel_rfl)) (fun _ _ _ h => h) (Or.inl ⟨by rfl, ?_⟩) ?_ ?_
                  rotate_left
                  · intro w'
                    go_simp
                    with_reducible rfl
                  rotate_left
                  · simp only [Act.put, List.setIfInBounds_toArray, List.set_cons_zero, List.set_cons_succ, i64_w, i32_w]
                    rfl
                  refine one_ (i := 11) (N := some 12) #[true, true, true, true, true, true, true, true, true, true, true, true, false, false] rfl rfl (one_of HT_.out (by kernel_rfl)) (by decide) (fun K hK => ?_)
                  refine box_step ?hg (N := 12) ?hd (cs := #[.slice none 0 0]) (t := 26) ?hr ?_; (case hd => rfl); (case hg => rfl); (case hr => first | (go_simp; done) | (go_simp; rfl))
                  intro gb274 hg w21 hbox hb
                  have n0_ := Aside0.mk (Kd.V_below (Kd.V_elderB (by (with_reducible repeat (first | apply Kd.V_alloc | apply Kd.V_drewN | apply Kd.V_drew)); exact HO_269000.out) gb274 (Nat.le_of_eq hg.symm)) hb)
                  have n1_ := Aside0.mk (Kd.V_below (Kd.V_elderB (by (with_reducible repeat (first | apply Kd.V_alloc | apply Kd.V_drewN | apply Kd.V_drew)); exact HO272.out) gb274 (Nat.le_of_eq hg.symm)) hb)
                  have n2_ := Aside0.mk (blk_below (g := gb266) (o := .cells #[.int .i64 a1_0, .int .i64 a1_1, .int .i64 a1_2] 28 (0, 0)) (by (with_reducible repeat (first | refine blk_drewN ?_ _ | refine blk_drew ?_ | refine blk_alloc ?_ _)); exact BK266.out) hb)
                  have n3_ := Aside0.mk (blk_below (g := gb268) (o := .cells #[.slice Ao18 x269000_1.length co18] 26 (0, 0)) (by (with_reducible repeat (first | refine blk_drewN ?_ _ | refine blk_drew ?_ | refine blk_alloc ?_ _)); exact BK268.out) hb)
                  have n4_ := Aside0.mk (below_step (by repeat (first | (with_reducible first | exact HB.out | apply below_alloc | apply pw_below_drewN | apply below_drew1 | refine below_set ?_ GE266.out | refine below_set ?_ GE268.out) | exact HB.out)) hb)
                  have n5_ := Aside0.mk (hbox)
                  have n6_ := Aside0.mk ((by rw [hg]; exact (below_size (by repeat (first | (with_reducible first | exact HB.out | apply below_alloc | apply pw_below_drewN | apply below_drew1 | refine below_set ?_ GE266.out | refine below_set ?_ GE268.out) | exact HB.out))) : w.heap.size ≤ gb274))
                  have n7_ := Aside0.mk ((by rw [hg]; exact (below_size (by repeat (first | (with_reducible first | exact HB.out | apply below_alloc | apply pw_below_drewN | apply below_drew1 | refine below_set ?_ GE266.out | refine below_set ?_ GE268.out) | exact HB.out))) : w.heap.size ≤ gb274))
                  have n8_ := Aside0.mk ((by rw [hg]; exact Nat.ne_of_lt (blk_lt (g := gb266) (o := .cells #[.int .i64 a1_0, .int .i64 a1_1, .int .i64 a1_2] 28 (0, 0)) (by (with_reducible repeat (first | refine blk_drewN ?_ _ | refine blk_drew ?_ | refine blk_alloc ?_ _)); exact BK266.out)) : gb266 ≠ gb274))
                  have n9_ := Aside0.mk ((by rw [hg]; exact Nat.ne_of_gt (blk_lt (g := gb266) (o := .cells #[.int .i64 a1_0, .int .i64 a1_1, .int .i64 a1_2] 28 (0, 0)) (by (with_reducible repeat (first | refine blk_drewN ?_ _ | refine blk_drew ?_ | refine blk_alloc ?_ _)); exact BK266.out)) : gb274 ≠ gb266))
                  have n10_ := Aside0.mk ((by rw [hg]; exact Nat.ne_of_lt (blk_lt (g := gb268) (o := .cells #[.slice Ao18 x269000_1.length co18] 26 (0, 0)) (by (with_reducible repeat (first | refine blk_drewN ?_ _ | refine blk_drew ?_ | refine blk_alloc ?_ _)); exact BK268.out)) : gb268 ≠ gb274))
                  have n11_ := Aside0.mk ((by rw [hg]; exact Nat.ne_of_gt (blk_lt (g := gb268) (o := .cells #[.slice Ao18 x269000_1.length co18] 26 (0, 0)) (by (with_reducible repeat (first | refine blk_drewN ?_ _ | refine blk_drew ?_ | refine blk_alloc ?_ _)); exact BK268.out)) : gb274 ≠ gb268))
                  clear HO_269000
                  clear HO272
                  clear BK266
                  clear BK268
                  clear HB
                  have HO_269000 := n0_
                  have HO272 := n1_
                  have BK266 := n2_
                  have BK268 := n3_
                  have HB := n4_
                  have BK274 := n5_
                  have GW274 := n6_
                  have GE274 := n7_
                  have NB266_274 := n8_
                  have NB274_266 := n9_
                  have NB268_274 := n10_
                  have NB274_268 := n11_
                  clear n0_ n1_ n2_ n3_ n4_ n5_ n6_ n7_ n8_ n9_ n10_ n11_
                  clear hb hbox hg
                  refine hK.out _ _ ⟨(blk_cell BK268.out 0).trans rfl, ((HB.out.cell (World.block_lt_of_cell? w _ hw269_0)).trans hw269_0), ((HB.out.cell (World.block_lt_of_cell? w _ hw269_1)).trans hw269_1), ((HB.out.cell (World.block_lt_of_cell? w _ hw269_2)).trans hw269_2)⟩ (fun hHeld => ?_)
                  clear hK K
                  refine norm_ (a' := ?_) ?_ ?_
                  rotate_left
                  · show Act.put _ (some 12) _ = _
                    simp only [Act.put, List.setIfInBounds_toArray, List.set_cons_zero, List.set_cons_succ, i64_w, i32_w]
                    rfl
                  exact norm_ (by simp only [putAll, Act.put, List.setIfInBounds_toArray, List.set_cons_zero, List.set_cons_succ]) (hCont (v271, gb274) _ ⟨hHeld, (by (with_reducible repeat (first | apply Kd.V_alloc | apply Kd.V_drewN | apply Kd.V_drew)); exact Kd.V_mono HO272.out (fun _ hk => ⟨hk.1.1, ⟨hk.1.2, hk.2⟩⟩)), (by (with_reducible repeat (first | apply Kd.V_alloc | apply Kd.V_drewN | apply Kd.V_drew)); exact Kd.V_mono HO_269000.out (fun _ hk => ⟨hk.1.1, ⟨hk.1.2, hk.2⟩⟩)), (by (with_reducible repeat (first | refine blk_drewN ?_ _ | refine blk_drew ?_ | refine blk_alloc ?_ _)); exact BK266.out), (by (with_reducible repeat (first | refine blk_drewN ?_ _ | refine blk_drew ?_ | refine blk_alloc ?_ _)); exact BK268.out), (by (with_reducible repeat (first | refine blk_drewN ?_ _ | refine blk_drew ?_ | refine blk_alloc ?_ _)); exact BK274.out), GW274.out, GE274.out, NB266_274.out, NB274_266.out, NB268_274.out, NB274_268.out, (by repeat (first | (with_reducible first | exact HB.out | apply below_alloc | apply pw_below_drewN | apply below_drew1 | refine below_set ?_ GE266.out | refine below_set ?_ GE268.out | refine below_set ?_ GE274.out) | exact HB.out))⟩)
                · skip
                  refine box_step ?hg (N := 12) ?hd (cs := #[.slice none 0 0]) (t := 26) ?hr ?_; (case hd => rfl); (case hg => rfl); (case hr => first | (go_simp; done) | (go_simp; rfl))
                  intro gb274 hg w20 hbox hb
                  have n0_ := Aside0.mk (Kd.V_below (Kd.V_elderB (by (with_reducible repeat (first | apply Kd.V_alloc | apply Kd.V_drewN | apply Kd.V_drew)); exact HO_269000.out) gb274 (Nat.le_of_eq hg.symm)) hb)
                  have n1_ := Aside0.mk (blk_below (g := gb266) (o := .cells #[.int .i64 a1_0, .int .i64 a1_1, .int .i64 a1_2] 28 (0, 0)) (by (with_reducible repeat (first | refine blk_drewN ?_ _ | refine blk_drew ?_ | refine blk_alloc ?_ _)); exact BK266.out) hb)
                  have n2_ := Aside0.mk (blk_below (g := gb268) (o := .cells #[.slice Ao18 x269000_1.length co18] 26 (0, 0)) (by (with_reducible repeat (first | refine blk_drewN ?_ _ | refine blk_drew ?_ | refine blk_alloc ?_ _)); exact BK268.out) hb)
                  have n3_ := Aside0.mk (below_step (by repeat (first | (with_reducible first | exact HB.out | apply below_alloc | apply pw_below_drewN | apply below_drew1 | refine below_set ?_ GE266.out | refine below_set ?_ GE268.out) | exact HB.out)) hb)
                  have n4_ := Aside0.mk (hbox)
                  have n5_ := Aside0.mk ((by rw [hg]; exact (below_size (by repeat (first | (with_reducible first | exact HB.out | apply below_alloc | apply pw_below_drewN | apply below_drew1 | refine below_set ?_ GE266.out | refine below_set ?_ GE268.out) | exact HB.out))) : w.heap.size ≤ gb274))
                  have n6_ := Aside0.mk ((by rw [hg]; exact (below_size (by repeat (first | (with_reducible first | exact HB.out | apply below_alloc | apply pw_below_drewN | apply below_drew1 | refine below_set ?_ GE266.out | refine below_set ?_ GE268.out) | exact HB.out))) : w.heap.size ≤ gb274))
                  have n7_ := Aside0.mk ((by rw [hg]; exact Nat.ne_of_lt (blk_lt (g := gb266) (o := .cells #[.int .i64 a1_0, .int .i64 a1_1, .int .i64 a1_2] 28 (0, 0)) (by (with_reducible repeat (first | refine blk_drewN ?_ _ | refine blk_drew ?_ | refine blk_alloc ?_ _)); exact BK266.out)) : gb266 ≠ gb274))
                  have n8_ := Aside0.mk ((by rw [hg]; exact Nat.ne_of_gt (blk_lt (g := gb266) (o := .cells #[.int .i64 a1_0, .int .i64 a1_1, .int .i64 a1_2] 28 (0, 0)) (by (with_reducible repeat (first | refine blk_drewN ?_ _ | refine blk_drew ?_ | refine blk_alloc ?_ _)); exact BK266.out)) : gb274 ≠ gb266))
                  have n9_ := Aside0.mk ((by rw [hg]; exact Nat.ne_of_lt (blk_lt (g := gb268) (o := .cells #[.slice Ao18 x269000_1.length co18] 26 (0, 0)) (by (with_reducible repeat (first | refine blk_drewN ?_ _ | refine blk_drew ?_ | refine blk_alloc ?_ _)); exact BK268.out)) : gb268 ≠ gb274))
                  have n10_ := Aside0.mk ((by rw [hg]; exact Nat.ne_of_gt (blk_lt (g := gb268) (o := .cells #[.slice Ao18 x269000_1.length co18] 26 (0, 0)) (by (with_reducible repeat (first | refine blk_drewN ?_ _ | refine blk_drew ?_ | refine blk_alloc ?_ _)); exact BK268.out)) : gb274 ≠ gb268))
                  clear HO_269000
                  clear BK266
                  clear BK268
                  clear HB
                  have HO_269000 := n0_
                  have BK266 := n1_
                  have BK268 := n2_
                  have HB := n3_
                  have BK274 := n4_
                  have GW274 := n5_
                  have GE274 := n6_
                  have NB266_274 := n7_
                  have NB274_266 := n8_
                  have NB268_274 := n9_
                  have NB274_268 := n10_
                  clear n0_ n1_ n2_ n3_ n4_ n5_ n6_ n7_ n8_ n9_ n10_
                  clear hb hbox hg
                  refine hK.out _ _ ⟨(blk_cell BK268.out 0).trans rfl, ((HB.out.cell (World.block_lt_of_cell? w _ hw269_0)).trans hw269_0), ((HB.out.cell (World.block_lt_of_cell? w _ hw269_1)).trans hw269_1), ((HB.out.cell (World.block_lt_of_cell? w _ hw269_2)).trans hw269_2)⟩ (fun hHeld => ?_)
                  clear hK K
                  refine norm_ (a' := ?_) ?_ ?_
                  rotate_left
                  · show Act.put _ (some 12) _ = _
                    simp only [Act.put, List.setIfInBounds_toArray, List.set_cons_zero, List.set_cons_succ, i64_w, i32_w]
                    rfl
                  refine one_ (i := 7) (N := some 43) #[true, true, true, true, true, true, true, true, false, false, false, true, false, false] rfl rfl (one_of HT_.out (by kernel_rfl)) (by decide) (fun K hK => ?_)
                  refine goes_ Try.func8 (by kernel_rfl) rfl #[.agg #[.slice Ao18 x269000_1.length co18], .agg #[.int .i64 ((rd_T28 l0 x11_1).f0), .int .i64 ((rd_T28 l0 x11_1).f1), .int .i64 ((rd_T28 l0 x11_1).f2)], .int .i64 (wrap64 (x11_1 + 1))] (by rfl) rfl rfl (by (try simp only [List.map_toArray, List.map_cons, List.map_nil]); first | done | rfl | (simp only [List.length_drop, List.length_take]; rfl)) ?_
                  with_reducible refine (godwitlaw12_did.calls k1 (fun k_ => ((k_ ≠ gb266 ∧ k_ ≠ gb268) ∧ k_ ≠ gb274)) _ _ x269000_1 ((rd_T28 l0 x11_1).f0) ((rd_T28 l0 x11_1).f1) ((rd_T28 l0 x11_1).f2) (wrap64 (x11_1 + 1)) t270 t273 _ ?side1 A16.out).mono ?_
                  (case side1 => exact HO_269000.out)
                  rintro e w21 ⟨v271, rfl, ho0, hb⟩
                  refine ⟨_, rfl, ?_⟩
                  have n0_ := Aside0.mk (Kd.V_below (by (with_reducible repeat (first | apply Kd.V_alloc | apply Kd.V_drewN | apply Kd.V_drew)); exact HO_269000.out) hb)
                  have n1_ := Aside0.mk (Kd.V_lower (Kd.V_mono (ok' := fun k_ => k_ ≠ gb266 ∧ k_ ≠ gb268 ∧ k_ ≠ gb274) ho0 (fun k_ hk_ => ⟨Or.elim hk_ (fun hs_ => hs_.1.1) (fun hn_ => (Kd.freshB (g := gb266) (o := .cells #[.int .i64 a1_0, .int .i64 a1_1, .int .i64 a1_2] 28 (0, 0)) (by (with_reducible repeat (first | refine blk_drewN ?_ _ | refine blk_drew ?_ | refine blk_alloc ?_ _)); exact BK266.out) k_ hn_)), Or.elim hk_ (fun hs_ => hs_.1.2) (fun hn_ => (Kd.freshB (g := gb268) (o := .cells #[.slice Ao18 x269000_1.length co18] 26 (0, 0)) (by (with_reducible repeat (first | refine blk_drewN ?_ _ | refine blk_drew ?_ | refine blk_alloc ?_ _)); exact BK268.out) k_ hn_)), Or.elim hk_ (fun hs_ => hs_.2) (fun hn_ => (Kd.freshB (g := gb274) (o := .cells #[.slice none 0 0] 26 (0, 0)) (by (with_reducible repeat (first | refine blk_drewN ?_ _ | refine blk_drew ?_ | refine blk_alloc ?_ _)); exact BK274.out) k_ hn_))⟩)) (below_size (by repeat (first | (with_reducible first | exact HB.out | apply below_alloc | apply pw_below_drewN | apply below_drew1 | refine below_set ?_ GE266.out | refine below_set ?_ GE268.out | refine below_set ?_ GE274.out) | exact HB.out))))
                  have n2_ := Aside0.mk (blk_below (g := gb266) (o := .cells #[.int .i64 a1_0, .int .i64 a1_1, .int .i64 a1_2] 28 (0, 0)) (by (with_reducible repeat (first | refine blk_drewN ?_ _ | refine blk_drew ?_ | refine blk_alloc ?_ _)); exact BK266.out) hb)
                  have n3_ := Aside0.mk (blk_below (g := gb268) (o := .cells #[.slice Ao18 x269000_1.length co18] 26 (0, 0)) (by (with_reducible repeat (first | refine blk_drewN ?_ _ | refine blk_drew ?_ | refine blk_alloc ?_ _)); exact BK268.out) hb)
                  have n4_ := Aside0.mk (blk_below (g := gb274) (o := .cells #[.slice none 0 0] 26 (0, 0)) (by (with_reducible repeat (first | refine blk_drewN ?_ _ | refine blk_drew ?_ | refine blk_alloc ?_ _)); exact BK274.out) hb)
                  have n5_ := Aside0.mk (below_step (by repeat (first | (with_reducible first | exact HB.out | apply below_alloc | apply pw_below_drewN | apply below_drew1 | refine below_set ?_ GE266.out | refine below_set ?_ GE268.out | refine below_set ?_ GE274.out) | exact HB.out)) hb)
                  clear HO_269000
                  clear BK266
                  clear BK268
                  clear BK274
                  clear HB
                  have HO_269000 := n0_
                  have HO272 := n1_
                  have BK266 := n2_
                  have BK268 := n3_
                  have BK274 := n4_
                  have HB := n5_
                  clear n0_ n1_ n2_ n3_ n4_ n5_
                  (try clear hb)
                  (try clear hb2)
                  (try clear hk)
                  (try clear hi)
                  (try clear ho0)
                  refine hK.out _ _ ⟨(blk_cell BK268.out 0).trans rfl, ((HB.out.cell (World.block_lt_of_cell? w _ hw269_0)).trans hw269_0), ((HB.out.cell (World.block_lt_of_cell? w _ hw269_1)).trans hw269_1), ((HB.out.cell (World.block_lt_of_cell? w _ hw269_2)).trans hw269_2)⟩ (fun hHeld => ?_)
                  clear hK K
                  refine norm_ (a' := ?_) ?_ ?_
                  rotate_left
                  · show Act.put _ (some 43) _ = _
                    simp only [Act.put, List.setIfInBounds_toArray, List.set_cons_zero, List.set_cons_succ, i64_w, i32_w]
                    rfl
                  refine pure_ (i := 8) (N := some 35) (v := ?_) (a' := ?_) #[true, true, true, true, true, true, true, true, true, false, false, true, false, false] rfl rfl (any_of HT_.out (by kernel_rfl)) (fun _ _ _ h => h) (Or.inl ⟨by rfl, ?_⟩) ?_ ?_
                  rotate_left
                  · intro w'
                    go_simp
                    with_reducible rfl
                  rotate_left
                  · simp only [Act.put, List.setIfInBounds_toArray, List.set_cons_zero, List.set_cons_succ, i64_w, i32_w]
                    rfl
                  refine pure_ (i := 9) (N := some 44) (v := ?_) (a' := ?_) #[true, true, true, true, true, true, true, true, true, true, false, true, false, false] rfl rfl (any_of HT_.out (by kernel_rfl)) (fun _ _ _ h => h) (Or.inl ⟨by rfl, ?_⟩) ?_ ?_
                  rotate_left
                  · intro w'
                    go_simp
                    with_reducible rfl
                  rotate_left
                  · simp only [Act.put, List.setIfInBounds_toArray, List.set_cons_zero, List.set_cons_succ, i64_w, i32_w]
                    rfl
                  refine pure_ (i := 10) (N := some 45) (v := ?_) (a' := ?_) #[true, true, true, true, true, true, true, true, true, true, true, true, false, false] rfl rfl (any_of HT_.out (by kernel_rfl)) (fun _ _ _ h => h) (Or.inl ⟨by rfl, ?_⟩) ?_ ?_
                  rotate_left
                  · intro w'
                    go_simp
                    with_reducible rfl
                  rotate_left
                  · simp only [Act.put, List.setIfInBounds_toArray, List.set_cons_zero, List.set_cons_succ, i64_w, i32_w]
                    rfl
                  exact norm_ (by simp only [putAll, Act.put, List.setIfInBounds_toArray, List.set_cons_zero, List.set_cons_succ]) (hCont (v271, gb274) _ ⟨hHeld, (by (with_reducible repeat (first | apply Kd.V_alloc | apply Kd.V_drewN | apply Kd.V_drew)); exact HO272.out), (by (with_reducible repeat (first | apply Kd.V_alloc | apply Kd.V_drewN | apply Kd.V_drew)); exact Kd.V_mono HO_269000.out (fun _ hk => ⟨hk.1.1, ⟨hk.1.2, hk.2⟩⟩)), (by (with_reducible repeat (first | refine blk_drewN ?_ _ | refine blk_drew ?_ | refine blk_alloc ?_ _)); exact BK266.out), (by (with_reducible repeat (first | refine blk_drewN ?_ _ | refine blk_drew ?_ | refine blk_alloc ?_ _)); exact BK268.out), (by (with_reducible repeat (first | refine blk_drewN ?_ _ | refine blk_drew ?_ | refine blk_alloc ?_ _)); exact BK274.out), GW274.out, GE274.out, NB266_274.out, NB274_266.out, NB268_274.out, NB274_268.out, (by repeat (first | (with_reducible first | exact HB.out | apply below_alloc | apply pw_below_drewN | apply below_drew1 | refine below_set ?_ GE266.out | refine below_set ?_ GE268.out | refine below_set ?_ GE274.out) | exact HB.out))⟩)
              rintro ⟨v271, gb274⟩ w22 ⟨hS_, h0_, h1_, h2_, h3_, h4_, h5_, h6_, h7_, h8_, h9_, h10_, h11_⟩
              have n0_ : Aside0 (Kd.V k33 33 w22 w.heap.size (fun k_ => k_ ≠ gb266 ∧ k_ ≠ gb268 ∧ k_ ≠ gb274) v271 t270) := ⟨h0_⟩
              have n1_ : Aside0 (Kd.V k33 33 w22 w.heap.size (fun k_ => k_ ≠ gb266 ∧ k_ ≠ gb268 ∧ k_ ≠ gb274) (.slice Ao18 x269000_1.length co18) x269000_1) := ⟨h1_⟩
              have n2_ : Aside0 (w22.heap[gb266]? = some (.cells #[.int .i64 a1_0, .int .i64 a1_1, .int .i64 a1_2] 28 (0, 0))) := ⟨h2_⟩
              have n3_ : Aside0 (w22.heap[gb268]? = some (.cells #[.slice Ao18 x269000_1.length co18] 26 (0, 0))) := ⟨h3_⟩
              have n4_ : Aside0 (w22.heap[gb274]? = some (.cells #[.slice none 0 0] 26 (0, 0))) := ⟨h4_⟩
              have n5_ : Aside0 (w.heap.size ≤ gb274) := ⟨h5_⟩
              have n6_ : Aside0 (w.heap.size ≤ gb274) := ⟨h6_⟩
              have n7_ : Aside0 (gb266 ≠ gb274) := ⟨h7_⟩
              have n8_ : Aside0 (gb274 ≠ gb266) := ⟨h8_⟩
              have n9_ : Aside0 (gb268 ≠ gb274) := ⟨h9_⟩
              have n10_ : Aside0 (gb274 ≠ gb268) := ⟨h10_⟩
              have n11_ : Aside0 (Below w.heap.size w w22) := ⟨h11_⟩
              clear HO_269000
              clear BK266
              clear BK268
              clear HB
              clear h0_ h1_ h2_ h3_ h4_ h5_ h6_ h7_ h8_ h9_ h10_ h11_
              have HO272 := n0_
              have HO_269000 := n1_
              have BK266 := n2_
              have BK268 := n3_
              have BK274 := n4_
              have GW274 := n5_
              have GE274 := n6_
              have NB266_274 := n7_
              have NB274_266 := n8_
              have NB268_274 := n9_
              have NB274_268 := n10_
              have HB := n11_
              clear n0_ n1_ n2_ n3_ n4_ n5_ n6_ n7_ n8_ n9_ n10_ n11_
              have hHeld : w22.cell? ⟨gb268, 0, none⟩ = some (.slice Ao18 x269000_1.length co18) ∧ w22.cell? (ad269.add ((x11_1).toNat * 3)) = some (.int .i64 ((rd_T28 l0 x11_1).f0)) ∧ w22.cell? ⟨(ad269.add ((x11_1).toNat * 3)).block, (ad269.add ((x11_1).toNat * 3)).off + 1, none⟩ = some (.int .i64 ((rd_T28 l0 x11_1).f1)) ∧ w22.cell? ⟨(ad269.add ((x11_1).toNat * 3)).block, (ad269.add ((x11_1).toNat * 3)).off + 2, none⟩ = some (.int .i64 ((rd_T28 l0 x11_1).f2)) := hS_
              obtain ⟨Ao23, co23, eo23⟩ := Kd.V_slice HO272.out
              (first | subst eo23 | (injection eo23 with f1_ f2_ f3_; have f4_ := f1_.symm; have f5_ := f3_.symm; clear f1_ f2_ f3_; subst f4_; subst f5_))
              refine norm_ (a' := ?_) ?_ ?_
              rotate_left
              · simp only [putAll, Act.put, List.setIfInBounds_toArray, List.set_cons_zero, List.set_cons_succ]
                rfl
              refine one_ (i := 12) (N := none) #[true, true, true, true, true, true, true, true, true, true, true, true, true, false] rfl rfl (one_of HT_.out (by kernel_rfl)) (by decide) (fun K hK => ?_)
              have hs24 : w22.cell? ⟨gb274, 0, none⟩ = some (.slice none 0 0) := (blk_cell BK274.out 0).trans rfl
              have hfs24 := blk_frozen BK274.out 0
              have hns24_0 := NB266_274.out
              have hns24_1 := NB268_274.out
              have hms24_0 := NB274_266.out
              have hms24_1 := NB274_268.out
              refine skip_ (w1 := ?_) (by rfl) rfl ?_ ?_
              rotate_left
              · go_simp
                rfl
              refine hK.out _ _ ⟨((cell_far (p := ⟨gb274, _, none⟩) NB268_274.out _).trans (hHeld.1)), ((cell_far (p := ⟨gb274, _, none⟩) (by first | exact Nat.ne_of_lt (Nat.lt_of_lt_of_le (by have := World.block_lt_of_cell? _ _ hw269_0; first | rwa [add_block] at this | exact this) GW274.out) | (rw [add_block]; exact Nat.ne_of_lt (Nat.lt_of_lt_of_le (by have := World.block_lt_of_cell? _ _ hw269_0; first | rwa [add_block] at this | exact this) GW274.out)) | (show (Addr.add _ _).block ≠ _; rw [add_block]; exact Nat.ne_of_lt (Nat.lt_of_lt_of_le (by have := World.block_lt_of_cell? _ _ hw269_0; first | rwa [add_block] at this | exact this) GW274.out)) | (dsimp only; exact Nat.ne_of_lt (Nat.lt_of_lt_of_le (by have := World.block_lt_of_cell? _ _ hw269_0; first | rwa [add_block] at this | exact this) GW274.out))) _).trans (hHeld.2.1)), ((cell_far (p := ⟨gb274, _, none⟩) (by first | exact Nat.ne_of_lt (Nat.lt_of_lt_of_le (by have := World.block_lt_of_cell? _ _ hw269_1; first | rwa [add_block] at this | exact this) GW274.out) | (rw [add_block]; exact Nat.ne_of_lt (Nat.lt_of_lt_of_le (by have := World.block_lt_of_cell? _ _ hw269_1; first | rwa [add_block] at this | exact this) GW274.out)) | (show (Addr.add _ _).block ≠ _; rw [add_block]; exact Nat.ne_of_lt (Nat.lt_of_lt_of_le (by have := World.block_lt_of_cell? _ _ hw269_1; first | rwa [add_block] at this | exact this) GW274.out)) | (dsimp only; exact Nat.ne_of_lt (Nat.lt_of_lt_of_le (by have := World.block_lt_of_cell? _ _ hw269_1; first | rwa [add_block] at this | exact this) GW274.out))) _).trans (hHeld.2.2.1)), ((cell_far (p := ⟨gb274, _, none⟩) (by first | exact Nat.ne_of_lt (Nat.lt_of_lt_of_le (by have := World.block_lt_of_cell? _ _ hw269_2; first | rwa [add_block] at this | exact this) GW274.out) | (rw [add_block]; exact Nat.ne_of_lt (Nat.lt_of_lt_of_le (by have := World.block_lt_of_cell? _ _ hw269_2; first | rwa [add_block] at this | exact this) GW274.out)) | (show (Addr.add _ _).block ≠ _; rw [add_block]; exact Nat.ne_of_lt (Nat.lt_of_lt_of_le (by have := World.block_lt_of_cell? _ _ hw269_2; first | rwa [add_block] at this | exact this) GW274.out)) | (dsimp only; exact Nat.ne_of_lt (Nat.lt_of_lt_of_le (by have := World.block_lt_of_cell? _ _ hw269_2; first | rwa [add_block] at this | exact this) GW274.out))) _).trans (hHeld.2.2.2))⟩ (fun hHeld => ?_)
              clear hK K
              refine pure_ (i := 13) (N := some 13) (v := ?_) (a' := ?_) #[true, true, true, true, true, true, true, true, true, true, true, true, true, true] rfl rfl (any_of HT_.out (by kernel_rfl)) (fun _ _ _ h => h) (Or.inl ⟨by rfl, ?_⟩) ?_ ?_
              rotate_left
              · intro w'
                go_simp
                with_reducible rfl
              rotate_left
              · simp only [Act.put, List.setIfInBounds_toArray, List.set_cons_zero, List.set_cons_succ, i64_w, i32_w]
                rfl
              refine done_ (done_of HT_.out (by kernel_rfl)) ?_
              have hnb25 := NB274_266.out
              have hnc25 := NB266_274.out
              have hnb26 := NB274_268.out
              have hnc26 := NB268_274.out
              have hcz27_0 : w22.cell? ⟨gb274, 0, none⟩ = some (.slice none 0 0) := (blk_cell BK274.out 0).trans rfl
              have hfz27_0 := blk_frozen BK274.out 0
              have hnb28 := NB268_266.out
              have hnc28 := NB266_268.out
              have hcz29_0 : w22.cell? ⟨gb268, 0, none⟩ = some (.slice Ao18 x269000_1.length co18) := (blk_cell BK268.out 0).trans rfl
              have hfz29_0 := blk_frozen BK268.out 0
              try go_wp2
              go_roundg k1
              case measure => have := HK1.out; omega
              case rel => exact ⟨(wrap64 (x11_1 + 1)), (t270), (.slice Ao23 t270.length co23), (by first | rfl | (simp; done) | (simp [*]; done)), H', ⟨by have := HK1.out; omega⟩, ⟨by (with_reducible repeat (first | apply Kd.V_alloc | apply Kd.V_drewN | apply Kd.V_drew)); exact Kd.V_mono (Kd.V_far (p := ⟨gb268, 0, none⟩) (Kd.V_far (p := ⟨gb274, 0, none⟩) (Kd.V_mono (Kd.V_mono HO272.out (fun k_ hk => (⟨hk, hk.2.2⟩ : _ ∧ k_ ≠ gb274))) (fun k_ hk => (⟨hk, hk.1.2.1⟩ : _ ∧ k_ ≠ gb268))) (fun _ hk => hk.1.2) (.slice Ao23 t270.length co23)) (fun _ hk => hk.2) (.slice Ao23 t270.length co23)) (fun _ hk => ⟨hk.1.1.1, hk.1.1.2.1⟩)⟩, ⟨by (with_reducible repeat (first | refine blk_drewN ?_ _ | refine blk_drew ?_ | refine blk_alloc ?_ _)); refine blk_far ?_ NB266_268.out _; (with_reducible repeat (first | refine blk_drewN ?_ _ | refine blk_drew ?_ | refine blk_alloc ?_ _)); refine blk_far ?_ NB266_274.out _; (with_reducible repeat (first | refine blk_drewN ?_ _ | refine blk_drew ?_ | refine blk_alloc ?_ _)); exact BK266.out⟩, ⟨by (with_reducible repeat (first | refine blk_drewN ?_ _ | refine blk_drew ?_ | refine blk_alloc ?_ _)); refine blk_put (cs := #[.slice Ao18 x269000_1.length co18]) ?_ 0 _ rfl; (with_reducible repeat (first | refine blk_drewN ?_ _ | refine blk_drew ?_ | refine blk_alloc ?_ _)); refine blk_far ?_ NB268_274.out _; (with_reducible repeat (first | refine blk_drewN ?_ _ | refine blk_drew ?_ | refine blk_alloc ?_ _)); exact BK268.out⟩, ⟨by repeat (first | (with_reducible first | exact HB.out | apply below_alloc | apply pw_below_drewN | apply below_drew1 | refine below_set ?_ GE266.out | refine below_set ?_ GE268.out | refine below_set ?_ GE274.out) | exact HB.out)⟩⟩
            · rw [if_neg c17] at H
              have c17b0 : (t273 == 0) = false := beq_eq_false_iff_ne.mpr c17
              have c17b1 : (t273 != 0) = true := bne_iff_ne.mpr c17
              have H' := Aside0.mk H
              clear H
              obtain ⟨Ao30, co30, eo30⟩ := Kd.V_slice HO_269000.out
              subst eo30
              try go_wp2
              have n0_ := Aside0.mk (Kd.V_drew HO_269000.out)
              have n1_ := Aside0.mk (blk_drew BK266.out)
              have n2_ := Aside0.mk (blk_drew BK268.out)
              have n3_ := Aside0.mk (below_drew1 HB.out)
              clear HO_269000
              clear BK266
              clear BK268
              clear HB
              have HO_269000 := n0_
              have BK266 := n1_
              have BK268 := n2_
              have HB := n3_
              clear n0_ n1_ n2_ n3_
              have p269 : 0 ≤ (x11_1 : Int) := of_decide_eq_true (by first | (with_reducible assumption) | assumption)
              have q269 : x11_1 < (l0.length : Int) := of_decide_eq_true (by first | (with_reducible assumption) | assumption)
              obtain ⟨ad269, e269, hx269_0, hx269_1, hx269_2⟩ := at_T28 HR0.out x11_1 p269 q269
              have hw269_2 := hx269_2
              have hw269_1 := hx269_1
              have hw269_0 := hx269_0
              cases e269
              replace hx269_0 := (HB.out.cell (World.block_lt_of_cell? w _ hx269_0)).trans hx269_0
              replace hx269_1 := (HB.out.cell (World.block_lt_of_cell? w _ hx269_1)).trans hx269_1
              replace hx269_2 := (HB.out.cell (World.block_lt_of_cell? w _ hx269_2)).trans hx269_2
              replace p269 := eq_true p269
              replace q269 := eq_true q269
              refine start_ (n := 14) (S := fun w' => w'.cell? ⟨gb268, 0, none⟩ = some (.slice Ao30 x269000_1.length co30) ∧ w'.cell? (ad269.add ((x11_1).toNat * 3)) = some (.int .i64 ((rd_T28 l0 x11_1).f0)) ∧ w'.cell? ⟨(ad269.add ((x11_1).toNat * 3)).block, (ad269.add ((x11_1).toNat * 3)).off + 1, none⟩ = some (.int .i64 ((rd_T28 l0 x11_1).f1)) ∧ w'.cell? ⟨(ad269.add ((x11_1).toNat * 3)).block, (ad269.add ((x11_1).toNat * 3)).off + 2, none⟩ = some (.int .i64 ((rd_T28 l0 x11_1).f2))) (ds := []) #[false, false, false, false, false, false, false, false, false, false, false, false, false, false] (by kernel_rfl) rfl rfl ⟨(blk_cell BK268.out 0).trans rfl, ((HB.out.cell (World.block_lt_of_cell? w _ hw269_0)).trans hw269_0), ((HB.out.cell (World.block_lt_of_cell? w _ hw269_1)).trans hw269_1), ((HB.out.cell (World.block_lt_of_cell? w _ hw269_2)).trans hw269_2)⟩ (fun hHeld => ?_); refine with_tabW godwitlaw12_TokensKeep.tab8 godwitlaw12_TokensKeep.bits8 (fun HT_ HW_ => ?_)
              generalize wr.drew = w31 at HO_269000 BK266 BK268 HB hx269_0 hx269_1 hx269_2 hHeld ⊢
              refine pure_ (i := 1) (N := some 37) (v := ?_) (a' := ?_) #[false, true, false, false, false, false, false, false, false, false, false, false, false, false] rfl rfl (any_of HT_.out (by kernel_rfl)) (fun _ _ _ h => h) (Or.inl ⟨by rfl, ?_⟩) ?_ ?_
              rotate_left
              · intro w'
                go_simp
                with_reducible rfl
              rotate_left
              · simp only [Act.put, List.setIfInBounds_toArray, List.set_cons_zero, List.set_cons_succ, i64_w, i32_w]
                rfl
              refine pure_ (i := 2) (N := some 38) (v := ?_) (a' := ?_) #[false, true, true, false, false, false, false, false, false, false, false, false, false, false] rfl rfl (any_of HT_.out (by kernel_rfl)) (fun _ _ _ h => h) (Or.inl ⟨by rfl, ?_⟩) ?_ ?_
              rotate_left
              · intro w'
                go_simp
                with_reducible rfl
              rotate_left
              · simp only [Act.put, List.setIfInBounds_toArray, List.set_cons_zero, List.set_cons_succ, i64_w, i32_w]
                rfl
              refine pure_ (i := 3) (N := some 39) (v := ?_) (a' := ?_) #[false, true, true, true, false, false, false, false, false, false, false, false, false, false] rfl rfl (any_of HT_.out (by kernel_rfl)) (fun _ _ _ h => h) (Or.inl ⟨by rfl, ?_⟩) ?_ ?_
              rotate_left
              · intro w'
                go_simp
                with_reducible rfl
              rotate_left
              · simp only [Act.put, List.setIfInBounds_toArray, List.set_cons_zero, List.set_cons_succ, i64_w, i32_w]
                rfl
              refine pure_ (i := 5) (N := some 41) (v := ?_) (a' := ?_) #[false, true, true, true, false, true, false, false, false, false, false, false, false, false] rfl rfl (any_of HT_.out (by kernel_rfl)) (fun _ _ _ h => h) (Or.inl ⟨by rfl, ?_⟩) ?_ ?_
              rotate_left
              · intro w'
                go_simp
                with_reducible rfl
              rotate_left
              · simp only [Act.put, List.setIfInBounds_toArray, List.set_cons_zero, List.set_cons_succ, i64_w, i32_w]
                rfl
              refine pure_ (i := 6) (N := some 42) (v := ?_) (a' := ?_) #[false, true, true, true, false, true, true, false, false, false, false, false, false, false] rfl rfl (any_of HT_.out (by kernel_rfl)) (fun _ _ _ h => h) (Or.inl ⟨by rfl, ?_⟩) ?_ ?_
              rotate_left
              · intro w'
                go_simp
                with_reducible rfl
              rotate_left
              · simp only [Act.put, List.setIfInBounds_toArray, List.set_cons_zero, List.set_cons_succ, i64_w, i32_w]
                rfl
              refine take_ (i := 0) (N := some 36) (v := ?_) (a' := ?_) #[true, true, true, true, false, true, true, false, false, false, false, false, false, false] rfl rfl (take_ofW HT_.out HW_.out (by kernel_rfl)) (fun _ _ _ h => h) (Or.inl ⟨by rfl, ?_⟩) hHeld ?_ ?_
              rotate_left
              · rintro w' ⟨s0, s1, s2, s3⟩
                go_simp
                with_reducible rfl
              rotate_left
              · simp only [Act.put, List.setIfInBounds_toArray, List.set_cons_zero, List.set_cons_succ, i64_w, i32_w]
                rfl
              refine take_ (i := 4) (N := some 40) (v := ?_) (a' := ?_) #[true, true, true, true, true, true, true, false, false, false, false, false, false, false] rfl rfl (take_ofW HT_.out HW_.out (by kernel_rfl)) (fun _ _ _ h => h) (Or.inl ⟨by rfl, ?_⟩) hHeld ?_ ?_
              rotate_left
              · rintro w' ⟨s0, s1, s2, s3⟩
                go_simp
                with_reducible rfl
              rotate_left
              · simp only [Act.put, List.setIfInBounds_toArray, List.set_cons_zero, List.set_cons_succ, i64_w, i32_w]
                rfl
              refine join_ (σ := Value × Nat) 2 #[true, true, true, true, true, true, true, true, true, true, true, true, false, false] (fun s_ => [(43, .tuple #[.agg #[s_.1], .int .i64 t273]), (12, .pointer (some ⟨s_.2, 0, none⟩)), (35, .tuple #[.agg #[s_.1], .int .i64 t273]), (44, .agg #[s_.1]), (45, .int .i64 t273)]) (fun s_ w' => (w'.cell? ⟨gb268, 0, none⟩ = some (.slice Ao30 x269000_1.length co30) ∧ w'.cell? (ad269.add ((x11_1).toNat * 3)) = some (.int .i64 ((rd_T28 l0 x11_1).f0)) ∧ w'.cell? ⟨(ad269.add ((x11_1).toNat * 3)).block, (ad269.add ((x11_1).toNat * 3)).off + 1, none⟩ = some (.int .i64 ((rd_T28 l0 x11_1).f1)) ∧ w'.cell? ⟨(ad269.add ((x11_1).toNat * 3)).block, (ad269.add ((x11_1).toNat * 3)).off + 2, none⟩ = some (.int .i64 ((rd_T28 l0 x11_1).f2))) ∧ (Kd.V k33 33 w' w.heap.size (fun k_ => k_ ≠ gb266 ∧ k_ ≠ gb268 ∧ k_ ≠ s_.2) s_.1 t270) ∧ (Kd.V k33 33 w' w.heap.size (fun k_ => k_ ≠ gb266 ∧ k_ ≠ gb268 ∧ k_ ≠ s_.2) (.slice Ao30 x269000_1.length co30) x269000_1) ∧ (w'.heap[gb266]? = some (.cells #[.int .i64 a1_0, .int .i64 a1_1, .int .i64 a1_2] 28 (0, 0))) ∧ (w'.heap[gb268]? = some (.cells #[.slice Ao30 x269000_1.length co30] 26 (0, 0))) ∧ (w'.heap[s_.2]? = some (.cells #[.slice none 0 0] 26 (0, 0))) ∧ (w.heap.size ≤ s_.2) ∧ (w.heap.size ≤ s_.2) ∧ (gb266 ≠ s_.2) ∧ (s_.2 ≠ gb266) ∧ (gb268 ≠ s_.2) ∧ (s_.2 ≠ gb268) ∧ (Below w.heap.size w w')) ?_ ?_
              rotate_left
              · intro hCont
                refine two_ (i := 7) (j := 11) (Ni := some 43) (Nj := some 12) #[true, true, true, true, true, true, true, true, false, false, false, false, false, false] #[true, true, true, true, true, true, true, false, false, false, false, true, false, false] rfl rfl rfl rfl (two_of HT_.out (by kernel_rfl)) (by decide) (by decide) (fun K hK => ?_) (fun K hK => ?_)
                · skip
                  refine goes_ Try.func8 (by kernel_rfl) rfl #[.agg #[.slice Ao30 x269000_1.length co30], .agg #[.int .i64 ((rd_T28 l0 x11_1).f0), .int .i64 ((rd_T28 l0 x11_1).f1), .int .i64 ((rd_T28 l0 x11_1).f2)], .int .i64 (wrap64 (x11_1 + 1))] (by rfl) rfl rfl (by (try simp only [List.map_toArray, List.map_cons, List.map_nil]); first | done | rfl | (simp only [List.length_drop, List.length_take]; rfl)) ?_
                  with_reducible refine (godwitlaw12_did.calls k1 (fun k_ => (k_ ≠ gb266 ∧ k_ ≠ gb268)) _ _ x269000_1 ((rd_T28 l0 x11_1).f0) ((rd_T28 l0 x11_1).f1) ((rd_T28 l0 x11_1).f2) (wrap64 (x11_1 + 1)) t270 t273 _ ?side1 A16.out).mono ?_
                  (case side1 => exact HO_269000.out)
                  rintro e w32 ⟨v271, rfl, ho0, hb⟩
                  refine ⟨_, rfl, ?_⟩
                  have n0_ := Aside0.mk (Kd.V_below (by (with_reducible repeat (first | apply Kd.V_alloc | apply Kd.V_drewN | apply Kd.V_drew)); exact HO_269000.out) hb)
                  have n1_ := Aside0.mk (Kd.V_lower (Kd.V_mono (ok' := fun k_ => k_ ≠ gb266 ∧ k_ ≠ gb268) ho0 (fun k_ hk_ => ⟨Or.elim hk_ (fun hs_ => hs_.1) (fun hn_ => (Kd.freshB (g := gb266) (o := .cells #[.int .i64 a1_0, .int .i64 a1_1, .int .i64 a1_2] 28 (0, 0)) (by (with_reducible repeat (first | refine blk_drewN ?_ _ | refine blk_drew ?_ | refine blk_alloc ?_ _)); exact BK266.out) k_ hn_)), Or.elim hk_ (fun hs_ => hs_.2) (fun hn_ => (Kd.freshB (g := gb268) (o := .cells #[.slice Ao30 x269000_1.length co30] 26 (0, 0)) (by (with_reducible repeat (first | refine blk_drewN ?_ _ | refine blk_drew ?_ | refine blk_alloc ?_ _)); exact BK268.out) k_ hn_))⟩)) (below_size (by repeat (first | (with_reducible first | exact HB.out | apply below_alloc | apply pw_below_drewN | apply below_drew1 | refine below_set ?_ GE266.out | refine below_set ?_ GE268.out) | exact HB.out))))
                  have n2_ := Aside0.mk (blk_below (g := gb266) (o := .cells #[.int .i64 a1_0, .int .i64 a1_1, .int .i64 a1_2] 28 (0, 0)) (by (with_reducible repeat (first | refine blk_drewN ?_ _ | refine blk_drew ?_ | refine blk_alloc ?_ _)); exact BK266.out) hb)
                  have n3_ := Aside0.mk (blk_below (g := gb268) (o := .cells #[.slice Ao30 x269000_1.length co30] 26 (0, 0)) (by (with_reducible repeat (first | refine blk_drewN ?_ _ | refine blk_drew ?_ | refine blk_alloc ?_ _)); exact BK268.out) hb)
                  have n4_ := Aside0.mk (below_step (by repeat (first | (with_reducible first | exact HB.out | apply below_alloc | apply pw_below_drewN | apply below_drew1 | refine below_set ?_ GE266.out | refine below_set ?_ GE268.out) | exact HB.out)) hb)
                  clear HO_269000
                  clear BK266
                  clear BK268
                  clear HB
                  have HO_269000 := n0_
                  have HO272 := n1_
                  have BK266 := n2_
                  have BK268 := n3_
                  have HB := n4_
                  clear n0_ n1_ n2_ n3_ n4_
                  (try clear hb)
                  (try clear hb2)
                  (try clear hk)
                  (try clear hi)
                  (try clear ho0)
                  refine hK.out _ _ ⟨(blk_cell BK268.out 0).trans rfl, ((HB.out.cell (World.block_lt_of_cell? w _ hw269_0)).trans hw269_0), ((HB.out.cell (World.block_lt_of_cell? w _ hw269_1)).trans hw269_1), ((HB.out.cell (World.block_lt_of_cell? w _ hw269_2)).trans hw269_2)⟩ (fun hHeld => ?_)
                  clear hK K
                  refine norm_ (a' := ?_) ?_ ?_
                  rotate_left
                  · show Act.put _ (some 43) _ = _
                    simp only [Act.put, List.setIfInBounds_toArray, List.set_cons_zero, List.set_cons_succ, i64_w, i32_w]
                    rfl
                  refine pure_ (i := 8) (N := some 35) (v := ?_) (a' := ?_) #[true, true, true, true, true, true, true, true, true, false, false, false, false, false] rfl rfl (any_of HT_.out (by kernel_rfl)) (fun _ _ _ h => h) (Or.inl ⟨by rfl, ?_⟩) ?_ ?_
                  rotate_left
                  · intro w'
                    go_simp
                    with_reducible rfl
                  rotate_left
                  · simp only [Act.put, List.setIfInBounds_toArray, List.set_cons_zero, List.set_cons_succ, i64_w, i32_w]
                    rfl
                  refine pure_ (i := 9) (N := some 44) (v := ?_) (a' := ?_) #[true, true, true, true, true, true, true, true, true, true, false, false, false, false] rfl rfl (any_of HT_.out (by kernel_rfl)) (fun _ _ _ h => h) (Or.inl ⟨by rfl, ?_⟩) ?_ ?_
                  rotate_left
                  · intro w'
                    go_simp
                    with_reducible rfl
                  rotate_left
                  · simp only [Act.put, List.setIfInBounds_toArray, List.set_cons_zero, List.set_cons_succ, i64_w, i32_w]
                    rfl
                  refine pure_ (i := 10) (N := some 45) (v := ?_) (a' := ?_) #[true, true, true, true, true, true, true, true, true, true, true, false, false, false] rfl rfl (any_of HT_.out (by kernel_rfl)) (fun _ _ _ h => h) (Or.inl ⟨by rfl, ?_⟩) ?_ ?_
                  rotate_left
                  · intro w'
                    go_simp
                    with_reducible rfl
                  rotate_left
                  · simp only [Act.put, List.setIfInBounds_toArray, List.set_cons_zero, List.set_cons_succ, i64_w, i32_w]
                    rfl
                  refine one_ (i := 11) (N := some 12) #[true, true, true, true, true, true, true, true, true, true, true, true, false, false] rfl rfl (one_of HT_.out (by kernel_rfl)) (by decide) (fun K hK => ?_)
                  refine box_step ?hg (N := 12) ?hd (cs := #[.slice none 0 0]) (t := 26) ?hr ?_; (case hd => rfl); (case hg => rfl); (case hr => first | (go_simp; done) | (go_simp; rfl))
                  intro gb274 hg w33 hbox hb
                  have n0_ := Aside0.mk (Kd.V_below (Kd.V_elderB (by (with_reducible repeat (first | apply Kd.V_alloc | apply Kd.V_drewN | apply Kd.V_drew)); exact HO_269000.out) gb274 (Nat.le_of_eq hg.symm)) hb)
                  have n1_ := Aside0.mk (Kd.V_below (Kd.V_elderB (by (with_reducible repeat (first | apply Kd.V_alloc | apply Kd.V_drewN | apply Kd.V_drew)); exact HO272.out) gb274 (Nat.le_of_eq hg.symm)) hb)
                  have n2_ := Aside0.mk (blk_below (g := gb266) (o := .cells #[.int .i64 a1_0, .int .i64 a1_1, .int .i64 a1_2] 28 (0, 0)) (by (with_reducible repeat (first | refine blk_drewN ?_ _ | refine blk_drew ?_ | refine blk_alloc ?_ _)); exact BK266.out) hb)
                  have n3_ := Aside0.mk (blk_below (g := gb268) (o := .cells #[.slice Ao30 x269000_1.length co30] 26 (0, 0)) (by (with_reducible repeat (first | refine blk_drewN ?_ _ | refine blk_drew ?_ | refine blk_alloc ?_ _)); exact BK268.out) hb)
                  have n4_ := Aside0.mk (below_step (by repeat (first | (with_reducible first | exact HB.out | apply below_alloc | apply pw_below_drewN | apply below_drew1 | refine below_set ?_ GE266.out | refine below_set ?_ GE268.out) | exact HB.out)) hb)
                  have n5_ := Aside0.mk (hbox)
                  have n6_ := Aside0.mk ((by rw [hg]; exact (below_size (by repeat (first | (with_reducible first | exact HB.out | apply below_alloc | apply pw_below_drewN | apply below_drew1 | refine below_set ?_ GE266.out | refine below_set ?_ GE268.out) | exact HB.out))) : w.heap.size ≤ gb274))
                  have n7_ := Aside0.mk ((by rw [hg]; exact (below_size (by repeat (first | (with_reducible first | exact HB.out | apply below_alloc | apply pw_below_drewN | apply below_drew1 | refine below_set ?_ GE266.out | refine below_set ?_ GE268.out) | exact HB.out))) : w.heap.size ≤ gb274))
                  have n8_ := Aside0.mk ((by rw [hg]; exact Nat.ne_of_lt (blk_lt (g := gb266) (o := .cells #[.int .i64 a1_0, .int .i64 a1_1, .int .i64 a1_2] 28 (0, 0)) (by (with_reducible repeat (first | refine blk_drewN ?_ _ | refine blk_drew ?_ | refine blk_alloc ?_ _)); exact BK266.out)) : gb266 ≠ gb274))
                  have n9_ := Aside0.mk ((by rw [hg]; exact Nat.ne_of_gt (blk_lt (g := gb266) (o := .cells #[.int .i64 a1_0, .int .i64 a1_1, .int .i64 a1_2] 28 (0, 0)) (by (with_reducible repeat (first | refine blk_drewN ?_ _ | refine blk_drew ?_ | refine blk_alloc ?_ _)); exact BK266.out)) : gb274 ≠ gb266))
                  have n10_ := Aside0.mk ((by rw [hg]; exact Nat.ne_of_lt (blk_lt (g := gb268) (o := .cells #[.slice Ao30 x269000_1.length co30] 26 (0, 0)) (by (with_reducible repeat (first | refine blk_drewN ?_ _ | refine blk_drew ?_ | refine blk_alloc ?_ _)); exact BK268.out)) : gb268 ≠ gb274))
                  have n11_ := Aside0.mk ((by rw [hg]; exact Nat.ne_of_gt (blk_lt (g := gb268) (o := .cells #[.slice Ao30 x269000_1.length co30] 26 (0, 0)) (by (with_reducible repeat (first | refine blk_drewN ?_ _ | refine blk_drew ?_ | refine blk_alloc ?_ _)); exact BK268.out)) : gb274 ≠ gb268))
                  clear HO_269000
                  clear HO272
                  clear BK266
                  clear BK268
                  clear HB
                  have HO_269000 := n0_
                  have HO272 := n1_
                  have BK266 := n2_
                  have BK268 := n3_
                  have HB := n4_
                  have BK274 := n5_
                  have GW274 := n6_
                  have GE274 := n7_
                  have NB266_274 := n8_
                  have NB274_266 := n9_
                  have NB268_274 := n10_
                  have NB274_268 := n11_
                  clear n0_ n1_ n2_ n3_ n4_ n5_ n6_ n7_ n8_ n9_ n10_ n11_
                  clear hb hbox hg
                  refine hK.out _ _ ⟨(blk_cell BK268.out 0).trans rfl, ((HB.out.cell (World.block_lt_of_cell? w _ hw269_0)).trans hw269_0), ((HB.out.cell (World.block_lt_of_cell? w _ hw269_1)).trans hw269_1), ((HB.out.cell (World.block_lt_of_cell? w _ hw269_2)).trans hw269_2)⟩ (fun hHeld => ?_)
                  clear hK K
                  refine norm_ (a' := ?_) ?_ ?_
                  rotate_left
                  · show Act.put _ (some 12) _ = _
                    simp only [Act.put, List.setIfInBounds_toArray, List.set_cons_zero, List.set_cons_succ, i64_w, i32_w]
                    rfl
                  exact norm_ (by simp only [putAll, Act.put, List.setIfInBounds_toArray, List.set_cons_zero, List.set_cons_succ]) (hCont (v271, gb274) _ ⟨hHeld, (by (with_reducible repeat (first | apply Kd.V_alloc | apply Kd.V_drewN | apply Kd.V_drew)); exact Kd.V_mono HO272.out (fun _ hk => ⟨hk.1.1, ⟨hk.1.2, hk.2⟩⟩)), (by (with_reducible repeat (first | apply Kd.V_alloc | apply Kd.V_drewN | apply Kd.V_drew)); exact Kd.V_mono HO_269000.out (fun _ hk => ⟨hk.1.1, ⟨hk.1.2, hk.2⟩⟩)), (by (with_reducible repeat (first | refine blk_drewN ?_ _ | refine blk_drew ?_ | refine blk_alloc ?_ _)); exact BK266.out), (by (with_reducible repeat (first | refine blk_drewN ?_ _ | refine blk_drew ?_ | refine blk_alloc ?_ _)); exact BK268.out), (by (with_reducible repeat (first | refine blk_drewN ?_ _ | refine blk_drew ?_ | refine blk_alloc ?_ _)); exact BK274.out), GW274.out, GE274.out, NB266_274.out, NB274_266.out, NB268_274.out, NB274_268.out, (by repeat (first | (with_reducible first | exact HB.out | apply below_alloc | apply pw_below_drewN | apply below_drew1 | refine below_set ?_ GE266.out | refine below_set ?_ GE268.out | refine below_set ?_ GE274.out) | exact HB.out))⟩)
                · skip
                  refine box_step ?hg (N := 12) ?hd (cs := #[.slice none 0 0]) (t := 26) ?hr ?_; (case hd => rfl); (case hg => rfl); (case hr => first | (go_simp; done) | (go_simp; rfl))
                  intro gb274 hg w32 hbox hb
                  have n0_ := Aside0.mk (Kd.V_below (Kd.V_elderB (by (with_reducible repeat (first | apply Kd.V_alloc | apply Kd.V_drewN | apply Kd.V_drew)); exact HO_269000.out) gb274 (Nat.le_of_eq hg.symm)) hb)
                  have n1_ := Aside0.mk (blk_below (g := gb266) (o := .cells #[.int .i64 a1_0, .int .i64 a1_1, .int .i64 a1_2] 28 (0, 0)) (by (with_reducible repeat (first | refine blk_drewN ?_ _ | refine blk_drew ?_ | refine blk_alloc ?_ _)); exact BK266.out) hb)
                  have n2_ := Aside0.mk (blk_below (g := gb268) (o := .cells #[.slice Ao30 x269000_1.length co30] 26 (0, 0)) (by (with_reducible repeat (first | refine blk_drewN ?_ _ | refine blk_drew ?_ | refine blk_alloc ?_ _)); exact BK268.out) hb)
                  have n3_ := Aside0.mk (below_step (by repeat (first | (with_reducible first | exact HB.out | apply below_alloc | apply pw_below_drewN | apply below_drew1 | refine below_set ?_ GE266.out | refine below_set ?_ GE268.out) | exact HB.out)) hb)
                  have n4_ := Aside0.mk (hbox)
                  have n5_ := Aside0.mk ((by rw [hg]; exact (below_size (by repeat (first | (with_reducible first | exact HB.out | apply below_alloc | apply pw_below_drewN | apply below_drew1 | refine below_set ?_ GE266.out | refine below_set ?_ GE268.out) | exact HB.out))) : w.heap.size ≤ gb274))
                  have n6_ := Aside0.mk ((by rw [hg]; exact (below_size (by repeat (first | (with_reducible first | exact HB.out | apply below_alloc | apply pw_below_drewN | apply below_drew1 | refine below_set ?_ GE266.out | refine below_set ?_ GE268.out) | exact HB.out))) : w.heap.size ≤ gb274))
                  have n7_ := Aside0.mk ((by rw [hg]; exact Nat.ne_of_lt (blk_lt (g := gb266) (o := .cells #[.int .i64 a1_0, .int .i64 a1_1, .int .i64 a1_2] 28 (0, 0)) (by (with_reducible repeat (first | refine blk_drewN ?_ _ | refine blk_drew ?_ | refine blk_alloc ?_ _)); exact BK266.out)) : gb266 ≠ gb274))
                  have n8_ := Aside0.mk ((by rw [hg]; exact Nat.ne_of_gt (blk_lt (g := gb266) (o := .cells #[.int .i64 a1_0, .int .i64 a1_1, .int .i64 a1_2] 28 (0, 0)) (by (with_reducible repeat (first | refine blk_drewN ?_ _ | refine blk_drew ?_ | refine blk_alloc ?_ _)); exact BK266.out)) : gb274 ≠ gb266))
                  have n9_ := Aside0.mk ((by rw [hg]; exact Nat.ne_of_lt (blk_lt (g := gb268) (o := .cells #[.slice Ao30 x269000_1.length co30] 26 (0, 0)) (by (with_reducible repeat (first | refine blk_drewN ?_ _ | refine blk_drew ?_ | refine blk_alloc ?_ _)); exact BK268.out)) : gb268 ≠ gb274))
                  have n10_ := Aside0.mk ((by rw [hg]; exact Nat.ne_of_gt (blk_lt (g := gb268) (o := .cells #[.slice Ao30 x269000_1.length co30] 26 (0, 0)) (by (with_reducible repeat (first | refine blk_drewN ?_ _ | refine blk_drew ?_ | refine blk_alloc ?_ _)); exact BK268.out)) : gb274 ≠ gb268))
                  clear HO_269000
                  clear BK266
                  clear BK268
                  clear HB
                  have HO_269000 := n0_
                  have BK266 := n1_
                  have BK268 := n2_
                  have HB := n3_
                  have BK274 := n4_
                  have GW274 := n5_
                  have GE274 := n6_
                  have NB266_274 := n7_
                  have NB274_266 := n8_
                  have NB268_274 := n9_
                  have NB274_268 := n10_
                  clear n0_ n1_ n2_ n3_ n4_ n5_ n6_ n7_ n8_ n9_ n10_
                  clear hb hbox hg
                  refine hK.out _ _ ⟨(blk_cell BK268.out 0).trans rfl, ((HB.out.cell (World.block_lt_of_cell? w _ hw269_0)).trans hw269_0), ((HB.out.cell (World.block_lt_of_cell? w _ hw269_1)).trans hw269_1), ((HB.out.cell (World.block_lt_of_cell? w _ hw269_2)).trans hw269_2)⟩ (fun hHeld => ?_)
                  clear hK K
                  refine norm_ (a' := ?_) ?_ ?_
                  rotate_left
                  · show Act.put _ (some 12) _ = _
                    simp only [Act.put, List.setIfInBounds_toArray, List.set_cons_zero, List.set_cons_succ, i64_w, i32_w]
                    rfl
                  refine one_ (i := 7) (N := some 43) #[true, true, true, true, true, true, true, true, false, false, false, true, false, false] rfl rfl (one_of HT_.out (by kernel_rfl)) (by decide) (fun K hK => ?_)
                  refine goes_ Try.func8 (by kernel_rfl) rfl #[.agg #[.slice Ao30 x269000_1.length co30], .agg #[.int .i64 ((rd_T28 l0 x11_1).f0), .int .i64 ((rd_T28 l0 x11_1).f1), .int .i64 ((rd_T28 l0 x11_1).f2)], .int .i64 (wrap64 (x11_1 + 1))] (by rfl) rfl rfl (by (try simp only [List.map_toArray, List.map_cons, List.map_nil]); first | done | rfl | (simp only [List.length_drop, List.length_take]; rfl)) ?_
                  with_reducible refine (godwitlaw12_did.calls k1 (fun k_ => ((k_ ≠ gb266 ∧ k_ ≠ gb268) ∧ k_ ≠ gb274)) _ _ x269000_1 ((rd_T28 l0 x11_1).f0) ((rd_T28 l0 x11_1).f1) ((rd_T28 l0 x11_1).f2) (wrap64 (x11_1 + 1)) t270 t273 _ ?side1 A16.out).mono ?_
                  (case side1 => exact HO_269000.out)
                  rintro e w33 ⟨v271, rfl, ho0, hb⟩
                  refine ⟨_, rfl, ?_⟩
                  have n0_ := Aside0.mk (Kd.V_below (by (with_reducible repeat (first | apply Kd.V_alloc | apply Kd.V_drewN | apply Kd.V_drew)); exact HO_269000.out) hb)
                  have n1_ := Aside0.mk (Kd.V_lower (Kd.V_mono (ok' := fun k_ => k_ ≠ gb266 ∧ k_ ≠ gb268 ∧ k_ ≠ gb274) ho0 (fun k_ hk_ => ⟨Or.elim hk_ (fun hs_ => hs_.1.1) (fun hn_ => (Kd.freshB (g := gb266) (o := .cells #[.int .i64 a1_0, .int .i64 a1_1, .int .i64 a1_2] 28 (0, 0)) (by (with_reducible repeat (first | refine blk_drewN ?_ _ | refine blk_drew ?_ | refine blk_alloc ?_ _)); exact BK266.out) k_ hn_)), Or.elim hk_ (fun hs_ => hs_.1.2) (fun hn_ => (Kd.freshB (g := gb268) (o := .cells #[.slice Ao30 x269000_1.length co30] 26 (0, 0)) (by (with_reducible repeat (first | refine blk_drewN ?_ _ | refine blk_drew ?_ | refine blk_alloc ?_ _)); exact BK268.out) k_ hn_)), Or.elim hk_ (fun hs_ => hs_.2) (fun hn_ => (Kd.freshB (g := gb274) (o := .cells #[.slice none 0 0] 26 (0, 0)) (by (with_reducible repeat (first | refine blk_drewN ?_ _ | refine blk_drew ?_ | refine blk_alloc ?_ _)); exact BK274.out) k_ hn_))⟩)) (below_size (by repeat (first | (with_reducible first | exact HB.out | apply below_alloc | apply pw_below_drewN | apply below_drew1 | refine below_set ?_ GE266.out | refine below_set ?_ GE268.out | refine below_set ?_ GE274.out) | exact HB.out))))
                  have n2_ := Aside0.mk (blk_below (g := gb266) (o := .cells #[.int .i64 a1_0, .int .i64 a1_1, .int .i64 a1_2] 28 (0, 0)) (by (with_reducible repeat (first | refine blk_drewN ?_ _ | refine blk_drew ?_ | refine blk_alloc ?_ _)); exact BK266.out) hb)
                  have n3_ := Aside0.mk (blk_below (g := gb268) (o := .cells #[.slice Ao30 x269000_1.length co30] 26 (0, 0)) (by (with_reducible repeat (first | refine blk_drewN ?_ _ | refine blk_drew ?_ | refine blk_alloc ?_ _)); exact BK268.out) hb)
                  have n4_ := Aside0.mk (blk_below (g := gb274) (o := .cells #[.slice none 0 0] 26 (0, 0)) (by (with_reducible repeat (first | refine blk_drewN ?_ _ | refine blk_drew ?_ | refine blk_alloc ?_ _)); exact BK274.out) hb)
                  have n5_ := Aside0.mk (below_step (by repeat (first | (with_reducible first | exact HB.out | apply below_alloc | apply pw_below_drewN | apply below_drew1 | refine below_set ?_ GE266.out | refine below_set ?_ GE268.out | refine below_set ?_ GE274.out) | exact HB.out)) hb)
                  clear HO_269000
                  clear BK266
                  clear BK268
                  clear BK274
                  clear HB
                  have HO_269000 := n0_
                  have HO272 := n1_
                  have BK266 := n2_
                  have BK268 := n3_
                  have BK274 := n4_
                  have HB := n5_
                  clear n0_ n1_ n2_ n3_ n4_ n5_
                  (try clear hb)
                  (try clear hb2)
                  (try clear hk)
                  (try clear hi)
                  (try clear ho0)
                  refine hK.out _ _ ⟨(blk_cell BK268.out 0).trans rfl, ((HB.out.cell (World.block_lt_of_cell? w _ hw269_0)).trans hw269_0), ((HB.out.cell (World.block_lt_of_cell? w _ hw269_1)).trans hw269_1), ((HB.out.cell (World.block_lt_of_cell? w _ hw269_2)).trans hw269_2)⟩ (fun hHeld => ?_)
                  clear hK K
                  refine norm_ (a' := ?_) ?_ ?_
                  rotate_left
                  · show Act.put _ (some 43) _ = _
                    simp only [Act.put, List.setIfInBounds_toArray, List.set_cons_zero, List.set_cons_succ, i64_w, i32_w]
                    rfl
                  refine pure_ (i := 8) (N := some 35) (v := ?_) (a' := ?_) #[true, true, true, true, true, true, true, true, true, false, false, true, false, false] rfl rfl (any_of HT_.out (by kernel_rfl)) (fun _ _ _ h => h) (Or.inl ⟨by rfl, ?_⟩) ?_ ?_
                  rotate_left
                  · intro w'
                    go_simp
                    with_reducible rfl
                  rotate_left
                  · simp only [Act.put, List.setIfInBounds_toArray, List.set_cons_zero, List.set_cons_succ, i64_w, i32_w]
                    rfl
                  refine pure_ (i := 9) (N := some 44) (v := ?_) (a' := ?_) #[true, true, true, true, true, true, true, true, true, true, false, true, false, false] rfl rfl (any_of HT_.out (by kernel_rfl)) (fun _ _ _ h => h) (Or.inl ⟨by rfl, ?_⟩) ?_ ?_
                  rotate_left
                  · intro w'
                    go_simp
                    with_reducible rfl
                  rotate_left
                  · simp only [Act.put, List.setIfInBounds_toArray, List.set_cons_zero, List.set_cons_succ, i64_w, i32_w]
                    rfl
                  refine pure_ (i := 10) (N := some 45) (v := ?_) (a' := ?_) #[true, true, true, true, true, true, true, true, true, true, true, true, false, false] rfl rfl (any_of HT_.out (by kernel_rfl)) (fun _ _ _ h => h) (Or.inl ⟨by rfl, ?_⟩) ?_ ?_
                  rotate_left
                  · intro w'
                    go_simp
                    with_reducible rfl
                  rotate_left
                  · simp only [Act.put, List.setIfInBounds_toArray, List.set_cons_zero, List.set_cons_succ, i64_w, i32_w]
                    rfl
                  exact norm_ (by simp only [putAll, Act.put, List.setIfInBounds_toArray, List.set_cons_zero, List.set_cons_succ]) (hCont (v271, gb274) _ ⟨hHeld, (by (with_reducible repeat (first | apply Kd.V_alloc | apply Kd.V_drewN | apply Kd.V_drew)); exact HO272.out), (by (with_reducible repeat (first | apply Kd.V_alloc | apply Kd.V_drewN | apply Kd.V_drew)); exact Kd.V_mono HO_269000.out (fun _ hk => ⟨hk.1.1, ⟨hk.1.2, hk.2⟩⟩)), (by (with_reducible repeat (first | refine blk_drewN ?_ _ | refine blk_drew ?_ | refine blk_alloc ?_ _)); exact BK266.out), (by (with_reducible repeat (first | refine blk_drewN ?_ _ | refine blk_drew ?_ | refine blk_alloc ?_ _)); exact BK268.out), (by (with_reducible repeat (first | refine blk_drewN ?_ _ | refine blk_drew ?_ | refine blk_alloc ?_ _)); exact BK274.out), GW274.out, GE274.out, NB266_274.out, NB274_266.out, NB268_274.out, NB274_268.out, (by repeat (first | (with_reducible first | exact HB.out | apply below_alloc | apply pw_below_drewN | apply below_drew1 | refine below_set ?_ GE266.out | refine below_set ?_ GE268.out | refine below_set ?_ GE274.out) | exact HB.out))⟩)
              rintro ⟨v271, gb274⟩ w34 ⟨hS_, h0_, h1_, h2_, h3_, h4_, h5_, h6_, h7_, h8_, h9_, h10_, h11_⟩
              have n0_ : Aside0 (Kd.V k33 33 w34 w.heap.size (fun k_ => k_ ≠ gb266 ∧ k_ ≠ gb268 ∧ k_ ≠ gb274) v271 t270) := ⟨h0_⟩
              have n1_ : Aside0 (Kd.V k33 33 w34 w.heap.size (fun k_ => k_ ≠ gb266 ∧ k_ ≠ gb268 ∧ k_ ≠ gb274) (.slice Ao30 x269000_1.length co30) x269000_1) := ⟨h1_⟩
              have n2_ : Aside0 (w34.heap[gb266]? = some (.cells #[.int .i64 a1_0, .int .i64 a1_1, .int .i64 a1_2] 28 (0, 0))) := ⟨h2_⟩
              have n3_ : Aside0 (w34.heap[gb268]? = some (.cells #[.slice Ao30 x269000_1.length co30] 26 (0, 0))) := ⟨h3_⟩
              have n4_ : Aside0 (w34.heap[gb274]? = some (.cells #[.slice none 0 0] 26 (0, 0))) := ⟨h4_⟩
              have n5_ : Aside0 (w.heap.size ≤ gb274) := ⟨h5_⟩
              have n6_ : Aside0 (w.heap.size ≤ gb274) := ⟨h6_⟩
              have n7_ : Aside0 (gb266 ≠ gb274) := ⟨h7_⟩
              have n8_ : Aside0 (gb274 ≠ gb266) := ⟨h8_⟩
              have n9_ : Aside0 (gb268 ≠ gb274) := ⟨h9_⟩
              have n10_ : Aside0 (gb274 ≠ gb268) := ⟨h10_⟩
              have n11_ : Aside0 (Below w.heap.size w w34) := ⟨h11_⟩
              clear HO_269000
              clear BK266
              clear BK268
              clear HB
              clear h0_ h1_ h2_ h3_ h4_ h5_ h6_ h7_ h8_ h9_ h10_ h11_
              have HO272 := n0_
              have HO_269000 := n1_
              have BK266 := n2_
              have BK268 := n3_
              have BK274 := n4_
              have GW274 := n5_
              have GE274 := n6_
              have NB266_274 := n7_
              have NB274_266 := n8_
              have NB268_274 := n9_
              have NB274_268 := n10_
              have HB := n11_
              clear n0_ n1_ n2_ n3_ n4_ n5_ n6_ n7_ n8_ n9_ n10_ n11_
              have hHeld : w34.cell? ⟨gb268, 0, none⟩ = some (.slice Ao30 x269000_1.length co30) ∧ w34.cell? (ad269.add ((x11_1).toNat * 3)) = some (.int .i64 ((rd_T28 l0 x11_1).f0)) ∧ w34.cell? ⟨(ad269.add ((x11_1).toNat * 3)).block, (ad269.add ((x11_1).toNat * 3)).off + 1, none⟩ = some (.int .i64 ((rd_T28 l0 x11_1).f1)) ∧ w34.cell? ⟨(ad269.add ((x11_1).toNat * 3)).block, (ad269.add ((x11_1).toNat * 3)).off + 2, none⟩ = some (.int .i64 ((rd_T28 l0 x11_1).f2)) := hS_
              obtain ⟨Ao35, co35, eo35⟩ := Kd.V_slice HO272.out
              (first | subst eo35 | (injection eo35 with f1_ f2_ f3_; have f4_ := f1_.symm; have f5_ := f3_.symm; clear f1_ f2_ f3_; subst f4_; subst f5_))
              refine norm_ (a' := ?_) ?_ ?_
              rotate_left
              · simp only [putAll, Act.put, List.setIfInBounds_toArray, List.set_cons_zero, List.set_cons_succ]
                rfl
              refine one_ (i := 12) (N := none) #[true, true, true, true, true, true, true, true, true, true, true, true, true, false] rfl rfl (one_of HT_.out (by kernel_rfl)) (by decide) (fun K hK => ?_)
              have hs36 : w34.cell? ⟨gb274, 0, none⟩ = some (.slice none 0 0) := (blk_cell BK274.out 0).trans rfl
              have hfs36 := blk_frozen BK274.out 0
              have hns36_0 := NB266_274.out
              have hns36_1 := NB268_274.out
              have hms36_0 := NB274_266.out
              have hms36_1 := NB274_268.out
              refine skip_ (w1 := ?_) (by rfl) rfl ?_ ?_
              rotate_left
              · go_simp
                rfl
              refine hK.out _ _ ⟨((cell_far (p := ⟨gb274, _, none⟩) NB268_274.out _).trans (hHeld.1)), ((cell_far (p := ⟨gb274, _, none⟩) (by first | exact Nat.ne_of_lt (Nat.lt_of_lt_of_le (by have := World.block_lt_of_cell? _ _ hw269_0; first | rwa [add_block] at this | exact this) GW274.out) | (rw [add_block]; exact Nat.ne_of_lt (Nat.lt_of_lt_of_le (by have := World.block_lt_of_cell? _ _ hw269_0; first | rwa [add_block] at this | exact this) GW274.out)) | (show (Addr.add _ _).block ≠ _; rw [add_block]; exact Nat.ne_of_lt (Nat.lt_of_lt_of_le (by have := World.block_lt_of_cell? _ _ hw269_0; first | rwa [add_block] at this | exact this) GW274.out)) | (dsimp only; exact Nat.ne_of_lt (Nat.lt_of_lt_of_le (by have := World.block_lt_of_cell? _ _ hw269_0; first | rwa [add_block] at this | exact this) GW274.out))) _).trans (hHeld.2.1)), ((cell_far (p := ⟨gb274, _, none⟩) (by first | exact Nat.ne_of_lt (Nat.lt_of_lt_of_le (by have := World.block_lt_of_cell? _ _ hw269_1; first | rwa [add_block] at this | exact this) GW274.out) | (rw [add_block]; exact Nat.ne_of_lt (Nat.lt_of_lt_of_le (by have := World.block_lt_of_cell? _ _ hw269_1; first | rwa [add_block] at this | exact this) GW274.out)) | (show (Addr.add _ _).block ≠ _; rw [add_block]; exact Nat.ne_of_lt (Nat.lt_of_lt_of_le (by have := World.block_lt_of_cell? _ _ hw269_1; first | rwa [add_block] at this | exact this) GW274.out)) | (dsimp only; exact Nat.ne_of_lt (Nat.lt_of_lt_of_le (by have := World.block_lt_of_cell? _ _ hw269_1; first | rwa [add_block] at this | exact this) GW274.out))) _).trans (hHeld.2.2.1)), ((cell_far (p := ⟨gb274, _, none⟩) (by first | exact Nat.ne_of_lt (Nat.lt_of_lt_of_le (by have := World.block_lt_of_cell? _ _ hw269_2; first | rwa [add_block] at this | exact this) GW274.out) | (rw [add_block]; exact Nat.ne_of_lt (Nat.lt_of_lt_of_le (by have := World.block_lt_of_cell? _ _ hw269_2; first | rwa [add_block] at this | exact this) GW274.out)) | (show (Addr.add _ _).block ≠ _; rw [add_block]; exact Nat.ne_of_lt (Nat.lt_of_lt_of_le (by have := World.block_lt_of_cell? _ _ hw269_2; first | rwa [add_block] at this | exact this) GW274.out)) | (dsimp only; exact Nat.ne_of_lt (Nat.lt_of_lt_of_le (by have := World.block_lt_of_cell? _ _ hw269_2; first | rwa [add_block] at this | exact this) GW274.out))) _).trans (hHeld.2.2.2))⟩ (fun hHeld => ?_)
              clear hK K
              refine pure_ (i := 13) (N := some 13) (v := ?_) (a' := ?_) #[true, true, true, true, true, true, true, true, true, true, true, true, true, true] rfl rfl (any_of HT_.out (by kernel_rfl)) (fun _ _ _ h => h) (Or.inl ⟨by rfl, ?_⟩) ?_ ?_
              rotate_left
              · intro w'
                go_simp
                with_reducible rfl
              rotate_left
              · simp only [Act.put, List.setIfInBounds_toArray, List.set_cons_zero, List.set_cons_succ, i64_w, i32_w]
                rfl
              refine done_ (done_of HT_.out (by kernel_rfl)) ?_
              try go_wp2
              go_roundg k1
              case measure => have := HK1.out; omega
              case rel => exact ⟨(wrap64 (x11_1 + 1)), (x269000_1), (.slice Ao30 x269000_1.length co30), (by first | rfl | (simp; done) | (simp [*]; done)), H', ⟨by have := HK1.out; omega⟩, ⟨by (with_reducible repeat (first | apply Kd.V_alloc | apply Kd.V_drewN | apply Kd.V_drew)); exact Kd.V_mono (Kd.V_far (p := ⟨gb274, 0, none⟩) (Kd.V_mono HO_269000.out (fun k_ hk => (⟨hk, hk.2.2⟩ : _ ∧ k_ ≠ gb274))) (fun _ hk => hk.2) (.slice Ao35 t270.length co35)) (fun _ hk => ⟨hk.1.1, hk.1.2.1⟩)⟩, ⟨by (with_reducible repeat (first | refine blk_drewN ?_ _ | refine blk_drew ?_ | refine blk_alloc ?_ _)); refine blk_far ?_ NB266_274.out _; (with_reducible repeat (first | refine blk_drewN ?_ _ | refine blk_drew ?_ | refine blk_alloc ?_ _)); exact BK266.out⟩, ⟨by (with_reducible repeat (first | refine blk_drewN ?_ _ | refine blk_drew ?_ | refine blk_alloc ?_ _)); refine blk_far ?_ NB268_274.out _; (with_reducible repeat (first | refine blk_drewN ?_ _ | refine blk_drew ?_ | refine blk_alloc ?_ _)); exact BK268.out⟩, ⟨by repeat (first | (with_reducible first | exact HB.out | apply below_alloc | apply pw_below_drewN | apply below_drew1 | refine below_set ?_ GE266.out | refine below_set ?_ GE268.out | refine below_set ?_ GE274.out) | exact HB.out)⟩⟩
          · rw [if_neg c15] at H
            exact absurd H (by simp)
        · rw [if_neg c14] at H
          have c14b0 : decide (x11_1 < (l0.length : Int)) = false := decide_eq_false c14
          clear c14
          replace H := Option.bind_eq_some_iff.mp H
          obtain ⟨⟨t275, t276, t277, t278, t279⟩, A370, H⟩ := H
          replace H : ((tokens_Fence.f k1 x269000_1 a2 a3).bind fun bt281 => (if t279 = true then (if t277 = 2 then (if bt281.2.2 = 0 then (if bt281.2.1 = t278 then (godwitlaw12_TokensKeep.j1 k1 a2 t267 t279 false a1_0 a1_1 a1_2 x269000_1 t275 t276 t277 t278) else (godwitlaw12_TokensKeep.j1 k1 a2 t267 t279 true a1_0 a1_1 a1_2 x269000_1 t275 t276 t277 t278)) else (godwitlaw12_TokensKeep.j1 k1 a2 t267 t279 (bt281.2.2 != 1) a1_0 a1_1 a1_2 x269000_1 t275 t276 t277 t278)) else (godwitlaw12_TokensKeep.j1 k1 a2 t267 t279 false a1_0 a1_1 a1_2 x269000_1 t275 t276 t277 t278)) else (godwitlaw12_TokensKeep.j1 k1 a2 t267 t279 false a1_0 a1_1 a1_2 x269000_1 t275 t276 t277 t278))) = some r := H
          have A37 := Aside0.mk A370
          clear A370
          replace H := Option.bind_eq_some_iff.mp H
          obtain ⟨⟨t281, t284, t285⟩, A380, H⟩ := H
          replace H : (if t279 = true then (if t277 = 2 then (if t285 = 0 then (if t284 = t278 then (godwitlaw12_TokensKeep.j1 k1 a2 t267 t279 false a1_0 a1_1 a1_2 x269000_1 t275 t276 t277 t278) else (godwitlaw12_TokensKeep.j1 k1 a2 t267 t279 true a1_0 a1_1 a1_2 x269000_1 t275 t276 t277 t278)) else (godwitlaw12_TokensKeep.j1 k1 a2 t267 t279 (t285 != 1) a1_0 a1_1 a1_2 x269000_1 t275 t276 t277 t278)) else (godwitlaw12_TokensKeep.j1 k1 a2 t267 t279 false a1_0 a1_1 a1_2 x269000_1 t275 t276 t277 t278)) else (godwitlaw12_TokensKeep.j1 k1 a2 t267 t279 false a1_0 a1_1 a1_2 x269000_1 t275 t276 t277 t278)) = some r := H
          have A38 := Aside0.mk A380
          clear A380
          have HC39 := Aside0.mk H
          clear H
          have hnb40 := NB268_266.out
          have hnc40 := NB266_268.out
          have hcz41_0 : wr.cell? ⟨gb268, 0, none⟩ = some (u269000) := (blk_cell BK268.out 0).trans rfl
          have hfz41_0 := blk_frozen BK268.out 0
          obtain ⟨Ao42, co42, eo42⟩ := Kd.V_slice HO_269000.out
          subst eo42
          go_upto_region 13 with (first | ((with_reducible refine gate_callee (f := 9) rfl ?_); refine goesL_ (some 52) rfl rfl Try.func9 (by kernel_rfl) rfl #[.agg #[.slice Ao42 x269000_1.length co42], .int .i64 a2] rfl (by (try simp only [List.map_toArray, List.map_cons, List.map_nil]); first | done | rfl | (simp only [List.length_drop, List.length_take]; rfl)) ?_; (with_reducible refine (tokens_Find.calls _ _ x269000_1 a2 t275 t276 t277 t278 t279 _ ?side1 ?side2 A37.out).mono ?_); (case side1 => repeat (first | exact (Kd.V_reads' HO_269000.out).2.2 | (with_reducible refine Kd.C_alloc ?_ _) | (with_reducible refine Kd.C_drewN ?_ _) | (with_reducible refine Kd.C_drew ?_))); (case side2 => exact (Kd.V_reads' HO_269000.out).2.1); rintro e w43 ⟨rfl, hb⟩; refine ⟨_, rfl, ?_⟩; have n0_ := Aside0.mk (Kd.V_below (by (with_reducible repeat (first | apply Kd.V_alloc | apply Kd.V_drewN | apply Kd.V_drew)); exact HO_269000.out) hb); have n1_ := Aside0.mk (blk_below (g := gb266) (o := .cells #[.int .i64 a1_0, .int .i64 a1_1, .int .i64 a1_2] 28 (0, 0)) (by (with_reducible repeat (first | refine blk_drewN ?_ _ | refine blk_drew ?_ | refine blk_alloc ?_ _)); exact BK266.out) hb); have n2_ := Aside0.mk (blk_below (g := gb268) (o := .cells #[.slice Ao42 x269000_1.length co42] 26 (0, 0)) (by (with_reducible repeat (first | refine blk_drewN ?_ _ | refine blk_drew ?_ | refine blk_alloc ?_ _)); exact BK268.out) hb); have n3_ := Aside0.mk (below_step (by repeat (first | (with_reducible first | exact HB.out | apply below_alloc | apply pw_below_drewN | apply below_drew1 | refine below_set ?_ GE266.out | refine below_set ?_ GE268.out) | exact HB.out)) hb); clear HO_269000; clear BK266; clear BK268; clear HB; have HO_269000 := n0_; have BK266 := n1_; have BK268 := n2_; have HB := n3_; clear n0_ n1_ n2_ n3_; (try clear hb); (try clear hb2); (try clear hk); (try clear hi)) | ((with_reducible refine gate_dst (N := 14) rfl ?_); refine box_event ?hg (N := 14) ?hd (cs := #[.int .i64 0, .int .i64 0, .int .i64 0, .int .i64 0]) (t := 33) ?hr ?_; (case hd => rfl); (case hg => rfl); (case hr => first | (go_simp; done) | (go_simp; rfl)); intro gb280 hg w44 hbox hb; have n0_ := Aside0.mk (Kd.V_below (Kd.V_elderB (by (with_reducible repeat (first | apply Kd.V_alloc | apply Kd.V_drewN | apply Kd.V_drew)); exact HO_269000.out) gb280 (Nat.le_of_eq hg.symm)) hb); have n1_ := Aside0.mk (blk_below (g := gb266) (o := .cells #[.int .i64 a1_0, .int .i64 a1_1, .int .i64 a1_2] 28 (0, 0)) (by (with_reducible repeat (first | refine blk_drewN ?_ _ | refine blk_drew ?_ | refine blk_alloc ?_ _)); exact BK266.out) hb); have n2_ := Aside0.mk (blk_below (g := gb268) (o := .cells #[.slice Ao42 x269000_1.length co42] 26 (0, 0)) (by (with_reducible repeat (first | refine blk_drewN ?_ _ | refine blk_drew ?_ | refine blk_alloc ?_ _)); exact BK268.out) hb); have n3_ := Aside0.mk (below_step (by repeat (first | (with_reducible first | exact HB.out | apply below_alloc | apply pw_below_drewN | apply below_drew1 | refine below_set ?_ GE266.out | refine below_set ?_ GE268.out) | exact HB.out)) hb); have n4_ := Aside0.mk (hbox); have n5_ := Aside0.mk ((by rw [hg]; exact (below_size (by repeat (first | (with_reducible first | exact HB.out | apply below_alloc | apply pw_below_drewN | apply below_drew1 | refine below_set ?_ GE266.out | refine below_set ?_ GE268.out) | exact HB.out))) : w.heap.size ≤ gb280)); have n6_ := Aside0.mk ((by rw [hg]; exact (below_size (by repeat (first | (with_reducible first | exact HB.out | apply below_alloc | apply pw_below_drewN | apply below_drew1 | refine below_set ?_ GE266.out | refine below_set ?_ GE268.out) | exact HB.out))) : w.heap.size ≤ gb280)); have n7_ := Aside0.mk ((by rw [hg]; exact Nat.ne_of_lt (blk_lt (g := gb266) (o := .cells #[.int .i64 a1_0, .int .i64 a1_1, .int .i64 a1_2] 28 (0, 0)) (by (with_reducible repeat (first | refine blk_drewN ?_ _ | refine blk_drew ?_ | refine blk_alloc ?_ _)); exact BK266.out)) : gb266 ≠ gb280)); have n8_ := Aside0.mk ((by rw [hg]; exact Nat.ne_of_gt (blk_lt (g := gb266) (o := .cells #[.int .i64 a1_0, .int .i64 a1_1, .int .i64 a1_2] 28 (0, 0)) (by (with_reducible repeat (first | refine blk_drewN ?_ _ | refine blk_drew ?_ | refine blk_alloc ?_ _)); exact BK266.out)) : gb280 ≠ gb266)); have n9_ := Aside0.mk ((by rw [hg]; exact Nat.ne_of_lt (blk_lt (g := gb268) (o := .cells #[.slice Ao42 x269000_1.length co42] 26 (0, 0)) (by (with_reducible repeat (first | refine blk_drewN ?_ _ | refine blk_drew ?_ | refine blk_alloc ?_ _)); exact BK268.out)) : gb268 ≠ gb280)); have n10_ := Aside0.mk ((by rw [hg]; exact Nat.ne_of_gt (blk_lt (g := gb268) (o := .cells #[.slice Ao42 x269000_1.length co42] 26 (0, 0)) (by (with_reducible repeat (first | refine blk_drewN ?_ _ | refine blk_drew ?_ | refine blk_alloc ?_ _)); exact BK268.out)) : gb280 ≠ gb268)); clear HO_269000; clear BK266; clear BK268; clear HB; have HO_269000 := n0_; have BK266 := n1_; have BK268 := n2_; have HB := n3_; have BK280 := n4_; have GW280 := n5_; have GE280 := n6_; have NB266_280 := n7_; have NB280_266 := n8_; have NB268_280 := n9_; have NB280_268 := n10_; clear n0_ n1_ n2_ n3_ n4_ n5_ n6_ n7_ n8_ n9_ n10_; clear hb hbox hg; have hnb45 := NB280_266.out; have hnc45 := NB266_280.out; have hnb46 := NB280_268.out; have hnc46 := NB268_280.out; have hcz47_0 : w44.cell? ⟨gb280, 0, none⟩ = some (.int .i64 0) := (blk_cell BK280.out 0).trans rfl; have hcz47_1 : w44.cell? ⟨gb280, 1, none⟩ = some (.int .i64 0) := (blk_cell BK280.out 1).trans rfl; have hcz47_2 : w44.cell? ⟨gb280, 2, none⟩ = some (.int .i64 0) := (blk_cell BK280.out 2).trans rfl; have hcz47_3 : w44.cell? ⟨gb280, 3, none⟩ = some (.int .i64 0) := (blk_cell BK280.out 3).trans rfl; have hfz47_0 := blk_frozen BK280.out 0; have hfz47_1 := blk_frozen BK280.out 1; have hfz47_2 := blk_frozen BK280.out 2; have hfz47_3 := blk_frozen BK280.out 3) | ((with_reducible refine gate_store (t := 33) (p := 14) rfl ?_); refine store_event (t := 33) (p := 14) (v := ?vo_w48) (w1 := ((((w44.setCell ⟨gb280, 0, none⟩ (.int .i64 t275)).setCell ⟨gb280, 1, none⟩ (.int .i64 t276)).setCell ⟨gb280, 2, none⟩ (.int .i64 t277)).setCell ⟨gb280, 3, none⟩ (.int .i64 t278))) ?hg ?ho ?hn ?hr ?_; (case ho => rfl); (case hg => rfl); (case hn => rfl); (case hr => first | (go_simp; done) | (go_simp; rfl)); intro w48 hw; have n0_ : Aside0 (Kd.V k33 33 w48 w.heap.size (fun k_ => k_ ≠ gb266 ∧ k_ ≠ gb268 ∧ k_ ≠ gb280) (.slice Ao42 x269000_1.length co42) x269000_1) := ⟨(by rw [hw]; exact (by (with_reducible repeat (first | apply Kd.V_alloc | apply Kd.V_drewN | apply Kd.V_drew)); exact Kd.V_mono (Kd.V_far (p := ⟨gb280, 3, none⟩) (Kd.V_far (p := ⟨gb280, 2, none⟩) (Kd.V_far (p := ⟨gb280, 1, none⟩) (Kd.V_far (p := ⟨gb280, 0, none⟩) (Kd.V_mono HO_269000.out (fun k_ hk => (⟨hk, hk.2⟩ : _ ∧ k_ ≠ gb280))) (fun _ hk => hk.2) (.int .i64 t275)) (fun _ hk => hk.2) (.int .i64 t276)) (fun _ hk => hk.2) (.int .i64 t277)) (fun _ hk => hk.2) (.int .i64 t278)) (fun _ hk => ⟨hk.1.1.1, ⟨hk.1.1.2, hk.1.2⟩⟩)))⟩; have n1_ : Aside0 (w48.heap[gb266]? = some (.cells #[.int .i64 a1_0, .int .i64 a1_1, .int .i64 a1_2] 28 (0, 0))) := ⟨(by rw [hw]; exact (by (with_reducible repeat (first | refine blk_drewN ?_ _ | refine blk_drew ?_ | refine blk_alloc ?_ _)); refine blk_far ?_ NB266_280.out _; (with_reducible repeat (first | refine blk_drewN ?_ _ | refine blk_drew ?_ | refine blk_alloc ?_ _)); refine blk_far ?_ NB266_280.out _; (with_reducible repeat (first | refine blk_drewN ?_ _ | refine blk_drew ?_ | refine blk_alloc ?_ _)); refine blk_far ?_ NB266_280.out _; (with_reducible repeat (first | refine blk_drewN ?_ _ | refine blk_drew ?_ | refine blk_alloc ?_ _)); refine blk_far ?_ NB266_280.out _; (with_reducible repeat (first | refine blk_drewN ?_ _ | refine blk_drew ?_ | refine blk_alloc ?_ _)); exact BK266.out))⟩; have n2_ : Aside0 (w48.heap[gb268]? = some (.cells #[.slice Ao42 x269000_1.length co42] 26 (0, 0))) := ⟨(by rw [hw]; exact (by (with_reducible repeat (first | refine blk_drewN ?_ _ | refine blk_drew ?_ | refine blk_alloc ?_ _)); refine blk_far ?_ NB268_280.out _; (with_reducible repeat (first | refine blk_drewN ?_ _ | refine blk_drew ?_ | refine blk_alloc ?_ _)); refine blk_far ?_ NB268_280.out _; (with_reducible repeat (first | refine blk_drewN ?_ _ | refine blk_drew ?_ | refine blk_alloc ?_ _)); refine blk_far ?_ NB268_280.out _; (with_reducible repeat (first | refine blk_drewN ?_ _ | refine blk_drew ?_ | refine blk_alloc ?_ _)); refine blk_far ?_ NB268_280.out _; (with_reducible repeat (first | refine blk_drewN ?_ _ | refine blk_drew ?_ | refine blk_alloc ?_ _)); exact BK268.out))⟩; have n3_ : Aside0 (w48.heap[gb280]? = some (.cells #[.int .i64 t275, .int .i64 t276, .int .i64 t277, .int .i64 t278] 33 (0, 0))) := ⟨(by rw [hw]; exact (by (with_reducible repeat (first | refine blk_drewN ?_ _ | refine blk_drew ?_ | refine blk_alloc ?_ _)); refine blk_put (cs := #[.int .i64 t275, .int .i64 t276, .int .i64 t277, .int .i64 0]) ?_ 3 _ rfl; (with_reducible repeat (first | refine blk_drewN ?_ _ | refine blk_drew ?_ | refine blk_alloc ?_ _)); refine blk_put (cs := #[.int .i64 t275, .int .i64 t276, .int .i64 0, .int .i64 0]) ?_ 2 _ rfl; (with_reducible repeat (first | refine blk_drewN ?_ _ | refine blk_drew ?_ | refine blk_alloc ?_ _)); refine blk_put (cs := #[.int .i64 t275, .int .i64 0, .int .i64 0, .int .i64 0]) ?_ 1 _ rfl; (with_reducible repeat (first | refine blk_drewN ?_ _ | refine blk_drew ?_ | refine blk_alloc ?_ _)); refine blk_put (cs := #[.int .i64 0, .int .i64 0, .int .i64 0, .int .i64 0]) ?_ 0 _ rfl; (with_reducible repeat (first | refine blk_drewN ?_ _ | refine blk_drew ?_ | refine blk_alloc ?_ _)); exact BK280.out))⟩; have n4_ : Aside0 (Below w.heap.size w w48) := ⟨(by rw [hw]; exact (by repeat (first | (with_reducible first | exact HB.out | apply below_alloc | apply pw_below_drewN | apply below_drew1 | refine below_set ?_ GE266.out | refine below_set ?_ GE268.out | refine below_set ?_ GE280.out) | exact HB.out)))⟩; clear hw; clear HO_269000; clear BK266; clear BK268; clear BK280; clear HB; have HO_269000 := n0_; have BK266 := n1_; have BK268 := n2_; have BK280 := n3_; have HB := n4_; clear n0_ n1_ n2_ n3_ n4_; have hcz49_0 : w48.cell? ⟨gb268, 0, none⟩ = some (.slice Ao42 x269000_1.length co42) := (blk_cell BK268.out 0).trans rfl; have hfz49_0 := blk_frozen BK268.out 0) | ((with_reducible refine gate_callee (f := 11) rfl ?_); refine goesL_ (some 59) rfl rfl Try.func11 (by kernel_rfl) rfl #[.agg #[.slice Ao42 x269000_1.length co42], .int .i64 a2, .int .i64 a3] rfl (by (try simp only [List.map_toArray, List.map_cons, List.map_nil]); first | done | rfl | (simp only [List.length_drop, List.length_take]; rfl)) ?_; (with_reducible refine (tokens_Fence.calls k1 (fun k_ => (k_ ≠ gb266 ∧ (k_ ≠ gb268 ∧ k_ ≠ gb280))) _ _ x269000_1 a2 a3 t281 t284 t285 _ ?side1 A38.out).mono ?_); (case side1 => exact HO_269000.out); rintro e w50 ⟨v282, rfl, ho0, hb⟩; refine ⟨_, rfl, ?_⟩; have n0_ := Aside0.mk (Kd.V_below (by (with_reducible repeat (first | apply Kd.V_alloc | apply Kd.V_drewN | apply Kd.V_drew)); exact HO_269000.out) hb); have n1_ := Aside0.mk (Kd.V_lower (Kd.V_mono (ok' := fun k_ => k_ ≠ gb266 ∧ k_ ≠ gb268 ∧ k_ ≠ gb280) ho0 (fun k_ hk_ => ⟨Or.elim hk_ (fun hs_ => hs_.1) (fun hn_ => (Kd.freshB (g := gb266) (o := .cells #[.int .i64 a1_0, .int .i64 a1_1, .int .i64 a1_2] 28 (0, 0)) (by (with_reducible repeat (first | refine blk_drewN ?_ _ | refine blk_drew ?_ | refine blk_alloc ?_ _)); exact BK266.out) k_ hn_)), Or.elim hk_ (fun hs_ => hs_.2.1) (fun hn_ => (Kd.freshB (g := gb268) (o := .cells #[.slice Ao42 x269000_1.length co42] 26 (0, 0)) (by (with_reducible repeat (first | refine blk_drewN ?_ _ | refine blk_drew ?_ | refine blk_alloc ?_ _)); exact BK268.out) k_ hn_)), Or.elim hk_ (fun hs_ => hs_.2.2) (fun hn_ => (Kd.freshB (g := gb280) (o := .cells #[.int .i64 t275, .int .i64 t276, .int .i64 t277, .int .i64 t278] 33 (0, 0)) (by (with_reducible repeat (first | refine blk_drewN ?_ _ | refine blk_drew ?_ | refine blk_alloc ?_ _)); exact BK280.out) k_ hn_))⟩)) (below_size (by repeat (first | (with_reducible first | exact HB.out | apply below_alloc | apply pw_below_drewN | apply below_drew1 | refine below_set ?_ GE266.out | refine below_set ?_ GE268.out | refine below_set ?_ GE280.out) | exact HB.out)))); have n2_ := Aside0.mk (blk_below (g := gb266) (o := .cells #[.int .i64 a1_0, .int .i64 a1_1, .int .i64 a1_2] 28 (0, 0)) (by (with_reducible repeat (first | refine blk_drewN ?_ _ | refine blk_drew ?_ | refine blk_alloc ?_ _)); exact BK266.out) hb); have n3_ := Aside0.mk (blk_below (g := gb268) (o := .cells #[.slice Ao42 x269000_1.length co42] 26 (0, 0)) (by (with_reducible repeat (first | refine blk_drewN ?_ _ | refine blk_drew ?_ | refine blk_alloc ?_ _)); exact BK268.out) hb); have n4_ := Aside0.mk (blk_below (g := gb280) (o := .cells #[.int .i64 t275, .int .i64 t276, .int .i64 t277, .int .i64 t278] 33 (0, 0)) (by (with_reducible repeat (first | refine blk_drewN ?_ _ | refine blk_drew ?_ | refine blk_alloc ?_ _)); exact BK280.out) hb); have n5_ := Aside0.mk (below_step (by repeat (first | (with_reducible first | exact HB.out | apply below_alloc | apply pw_below_drewN | apply below_drew1 | refine below_set ?_ GE266.out | refine below_set ?_ GE268.out | refine below_set ?_ GE280.out) | exact HB.out)) hb); clear HO_269000; clear BK266; clear BK268; clear BK280; clear HB; have HO_269000 := n0_; have HO283 := n1_; have BK266 := n2_; have BK268 := n3_; have BK280 := n4_; have HB := n5_; clear n0_ n1_ n2_ n3_ n4_ n5_; (try clear hb); (try clear hb2); (try clear hk); (try clear hi); (try clear ho0)) | ((with_reducible refine gate_dst (N := 16) rfl ?_); refine box_event ?hg (N := 16) ?hd (cs := #[.slice none 0 0]) (t := 26) ?hr ?_; (case hd => rfl); (case hg => rfl); (case hr => first | (go_simp; done) | (go_simp; rfl)); intro gb286 hg w51 hbox hb; have n0_ := Aside0.mk (Kd.V_below (Kd.V_elderB (by (with_reducible repeat (first | apply Kd.V_alloc | apply Kd.V_drewN | apply Kd.V_drew)); exact HO_269000.out) gb286 (Nat.le_of_eq hg.symm)) hb); have n1_ := Aside0.mk (Kd.V_below (Kd.V_elderB (by (with_reducible repeat (first | apply Kd.V_alloc | apply Kd.V_drewN | apply Kd.V_drew)); exact HO283.out) gb286 (Nat.le_of_eq hg.symm)) hb); have n2_ := Aside0.mk (blk_below (g := gb266) (o := .cells #[.int .i64 a1_0, .int .i64 a1_1, .int .i64 a1_2] 28 (0, 0)) (by (with_reducible repeat (first | refine blk_drewN ?_ _ | refine blk_drew ?_ | refine blk_alloc ?_ _)); exact BK266.out) hb); have n3_ := Aside0.mk (blk_below (g := gb268) (o := .cells #[.slice Ao42 x269000_1.length co42] 26 (0, 0)) (by (with_reducible repeat (first | refine blk_drewN ?_ _ | refine blk_drew ?_ | refine blk_alloc ?_ _)); exact BK268.out) hb); have n4_ := Aside0.mk (blk_below (g := gb280) (o := .cells #[.int .i64 t275, .int .i64 t276, .int .i64 t277, .int .i64 t278] 33 (0, 0)) (by (with_reducible repeat (first | refine blk_drewN ?_ _ | refine blk_drew ?_ | refine blk_alloc ?_ _)); exact BK280.out) hb); have n5_ := Aside0.mk (below_step (by repeat (first | (with_reducible first | exact HB.out | apply below_alloc | apply pw_below_drewN | apply below_drew1 | refine below_set ?_ GE266.out | refine below_set ?_ GE268.out | refine below_set ?_ GE280.out) | exact HB.out)) hb); have n6_ := Aside0.mk (hbox); have n7_ := Aside0.mk ((by rw [hg]; exact (below_size (by repeat (first | (with_reducible first | exact HB.out | apply below_alloc | apply pw_below_drewN | apply below_drew1 | refine below_set ?_ GE266.out | refine below_set ?_ GE268.out | refine below_set ?_ GE280.out) | exact HB.out))) : w.heap.size ≤ gb286)); have n8_ := Aside0.mk ((by rw [hg]; exact (below_size (by repeat (first | (with_reducible first | exact HB.out | apply below_alloc | apply pw_below_drewN | apply below_drew1 | refine below_set ?_ GE266.out | refine below_set ?_ GE268.out | refine below_set ?_ GE280.out) | exact HB.out))) : w.heap.size ≤ gb286)); have n9_ := Aside0.mk ((by rw [hg]; exact Nat.ne_of_lt (blk_lt (g := gb266) (o := .cells #[.int .i64 a1_0, .int .i64 a1_1, .int .i64 a1_2] 28 (0, 0)) (by (with_reducible repeat (first | refine blk_drewN ?_ _ | refine blk_drew ?_ | refine blk_alloc ?_ _)); exact BK266.out)) : gb266 ≠ gb286)); have n10_ := Aside0.mk ((by rw [hg]; exact Nat.ne_of_gt (blk_lt (g := gb266) (o := .cells #[.int .i64 a1_0, .int .i64 a1_1, .int .i64 a1_2] 28 (0, 0)) (by (with_reducible repeat (first | refine blk_drewN ?_ _ | refine blk_drew ?_ | refine blk_alloc ?_ _)); exact BK266.out)) : gb286 ≠ gb266)); have n11_ := Aside0.mk ((by rw [hg]; exact Nat.ne_of_lt (blk_lt (g := gb268) (o := .cells #[.slice Ao42 x269000_1.length co42] 26 (0, 0)) (by (with_reducible repeat (first | refine blk_drewN ?_ _ | refine blk_drew ?_ | refine blk_alloc ?_ _)); exact BK268.out)) : gb268 ≠ gb286)); have n12_ := Aside0.mk ((by rw [hg]; exact Nat.ne_of_gt (blk_lt (g := gb268) (o := .cells #[.slice Ao42 x269000_1.length co42] 26 (0, 0)) (by (with_reducible repeat (first | refine blk_drewN ?_ _ | refine blk_drew ?_ | refine blk_alloc ?_ _)); exact BK268.out)) : gb286 ≠ gb268)); have n13_ := Aside0.mk ((by rw [hg]; exact Nat.ne_of_lt (blk_lt (g := gb280) (o := .cells #[.int .i64 t275, .int .i64 t276, .int .i64 t277, .int .i64 t278] 33 (0, 0)) (by (with_reducible repeat (first | refine blk_drewN ?_ _ | refine blk_drew ?_ | refine blk_alloc ?_ _)); exact BK280.out)) : gb280 ≠ gb286)); have n14_ := Aside0.mk ((by rw [hg]; exact Nat.ne_of_gt (blk_lt (g := gb280) (o := .cells #[.int .i64 t275, .int .i64 t276, .int .i64 t277, .int .i64 t278] 33 (0, 0)) (by (with_reducible repeat (first | refine blk_drewN ?_ _ | refine blk_drew ?_ | refine blk_alloc ?_ _)); exact BK280.out)) : gb286 ≠ gb280)); clear HO_269000; clear HO283; clear BK266; clear BK268; clear BK280; clear HB; have HO_269000 := n0_; have HO283 := n1_; have BK266 := n2_; have BK268 := n3_; have BK280 := n4_; have HB := n5_; have BK286 := n6_; have GW286 := n7_; have GE286 := n8_; have NB266_286 := n9_; have NB286_266 := n10_; have NB268_286 := n11_; have NB286_268 := n12_; have NB280_286 := n13_; have NB286_280 := n14_; clear n0_ n1_ n2_ n3_ n4_ n5_ n6_ n7_ n8_ n9_ n10_ n11_ n12_ n13_ n14_; clear hb hbox hg; obtain ⟨Ao52, co52, eo52⟩ := Kd.V_slice HO283.out; subst eo52; have hnb53 := NB286_266.out; have hnc53 := NB266_286.out; have hnb54 := NB286_268.out; have hnc54 := NB268_286.out; have hnb55 := NB286_280.out; have hnc55 := NB280_286.out; have hcz56_0 : w51.cell? ⟨gb286, 0, none⟩ = some (.slice none 0 0) := (blk_cell BK286.out 0).trans rfl; have hfz56_0 := blk_frozen BK286.out 0))
          (try simp only [Act.put, List.setIfInBounds_toArray, List.set_cons_zero, List.set_cons_succ])
          go_cut [86] (fun v86 wc => ∃ (kq : Nat) (x86_38 : Bool), v86 = .bool x86_38 ∧ Aside0 (godwitlaw12_TokensKeep.j1 kq a2 t267 t279 x86_38 a1_0 a1_1 a1_2 x269000_1 t275 t276 t277 t278 = some r) ∧ Aside0 (kq ≤ k1) ∧ Aside0 (Kd.V k33 33 wc w.heap.size (fun k_ => k_ ≠ gb266 ∧ k_ ≠ gb268 ∧ k_ ≠ gb280 ∧ k_ ≠ gb286) (.slice Ao42 x269000_1.length co42) x269000_1) ∧ Aside0 (Kd.V k33 33 wc w.heap.size (fun k_ => k_ ≠ gb266 ∧ k_ ≠ gb268 ∧ k_ ≠ gb280 ∧ k_ ≠ gb286) (.slice Ao52 t281.length co52) t281) ∧ Aside0 (wc.heap[gb266]? = some (.cells #[.int .i64 a1_0, .int .i64 a1_1, .int .i64 a1_2] 28 (0, 0))) ∧ Aside0 (wc.heap[gb268]? = some (.cells #[(.slice Ao42 x269000_1.length co42)] 26 (0, 0))) ∧ Aside0 (wc.heap[gb280]? = some (.cells #[.int .i64 t275, .int .i64 t276, .int .i64 t277, .int .i64 t278] 33 (0, 0))) ∧ Aside0 (wc.heap[gb286]? = some (.cells #[(.slice Ao52 t281.length co52)] 26 (0, 0))) ∧ Aside0 (Below w.heap.size w wc))
          case first =>
            have H := HC39.out
            clear HC39
            by_cases c57 : t279 = true
            · subst c57
              have H1 : (if t277 = 2 then (if t285 = 0 then (if t284 = t278 then (godwitlaw12_TokensKeep.j1 k1 a2 t267 true false a1_0 a1_1 a1_2 x269000_1 t275 t276 t277 t278) else (godwitlaw12_TokensKeep.j1 k1 a2 t267 true true a1_0 a1_1 a1_2 x269000_1 t275 t276 t277 t278)) else (godwitlaw12_TokensKeep.j1 k1 a2 t267 true (t285 != 1) a1_0 a1_1 a1_2 x269000_1 t275 t276 t277 t278)) else (godwitlaw12_TokensKeep.j1 k1 a2 t267 true false a1_0 a1_1 a1_2 x269000_1 t275 t276 t277 t278)) = some r := by rw [if_pos rfl] at H; exact H
              clear H
              have H := H1
              clear H1
              by_cases c58 : t277 = 2
              · rw [if_pos c58] at H
                have c58b0 : (t277 == 2) = true := beq_iff_eq.mpr c58
                have c58b1 : (t277 != 2) = false := bne_eq_false_iff_eq.mpr c58
                clear c58
                (first | rw [c58b0] | (simp only [i64_w, i32_w]; rw [c58b0]) | skip)
                by_cases c59 : t285 = 0
                · rw [if_pos c59] at H
                  have c59b0 : (t285 == 0) = true := beq_iff_eq.mpr c59
                  have c59b1 : (t285 != 0) = false := bne_eq_false_iff_eq.mpr c59
                  clear c59
                  by_cases c60 : t284 = t278
                  · rw [if_pos c60] at H
                    have c60b0 : (t284 == t278) = true := beq_iff_eq.mpr c60
                    have c60b1 : (t284 != t278) = false := bne_eq_false_iff_eq.mpr c60
                    clear c60
                    have H' := Aside0.mk H
                    clear H
                    have hnb61 := NB280_266.out
                    have hnc61 := NB266_280.out
                    have hnb62 := NB280_268.out
                    have hnc62 := NB268_280.out
                    have hnb63 := NB280_286.out
                    have hnc63 := NB286_280.out
                    have hcz64_0 : w51.cell? ⟨gb280, 0, none⟩ = some (.int .i64 t275) := (blk_cell BK280.out 0).trans rfl
                    have hcz64_1 : w51.cell? ⟨gb280, 1, none⟩ = some (.int .i64 t276) := (blk_cell BK280.out 1).trans rfl
                    have hcz64_2 : w51.cell? ⟨gb280, 2, none⟩ = some (.int .i64 t277) := (blk_cell BK280.out 2).trans rfl
                    have hcz64_3 : w51.cell? ⟨gb280, 3, none⟩ = some (.int .i64 t278) := (blk_cell BK280.out 3).trans rfl
                    have hfz64_0 := blk_frozen BK280.out 0
                    have hfz64_1 := blk_frozen BK280.out 1
                    have hfz64_2 := blk_frozen BK280.out 2
                    have hfz64_3 := blk_frozen BK280.out 3
                    go_wp2
                    go_meet
                    case rel => exact ⟨_, (false), (by first | rfl | (simp; done) | (simp [*]; done)), H', ⟨by have := HK1.out; first | omega | exact Nat.le_refl _⟩, ⟨by (with_reducible repeat (first | apply Kd.V_alloc | apply Kd.V_drewN | apply Kd.V_drew)); exact Kd.V_mono (Kd.V_far (p := ⟨gb286, 0, none⟩) (Kd.V_mono HO_269000.out (fun k_ hk => (⟨hk, hk.2⟩ : _ ∧ k_ ≠ gb286))) (fun _ hk => hk.2) (.slice Ao52 t281.length co52)) (fun _ hk => ⟨hk.1.1.1, ⟨hk.1.1.2.1, ⟨hk.1.1.2.2, hk.1.2⟩⟩⟩)⟩, ⟨by (with_reducible repeat (first | apply Kd.V_alloc | apply Kd.V_drewN | apply Kd.V_drew)); exact Kd.V_mono (Kd.V_far (p := ⟨gb286, 0, none⟩) (Kd.V_mono HO283.out (fun k_ hk => (⟨hk, hk.2⟩ : _ ∧ k_ ≠ gb286))) (fun _ hk => hk.2) (.slice Ao52 t281.length co52)) (fun _ hk => ⟨hk.1.1.1, ⟨hk.1.1.2.1, ⟨hk.1.1.2.2, hk.1.2⟩⟩⟩)⟩, ⟨by (with_reducible repeat (first | refine blk_drewN ?_ _ | refine blk_drew ?_ | refine blk_alloc ?_ _)); refine blk_far ?_ NB266_286.out _; (with_reducible repeat (first | refine blk_drewN ?_ _ | refine blk_drew ?_ | refine blk_alloc ?_ _)); exact BK266.out⟩, ⟨by (with_reducible repeat (first | refine blk_drewN ?_ _ | refine blk_drew ?_ | refine blk_alloc ?_ _)); refine blk_far ?_ NB268_286.out _; (with_reducible repeat (first | refine blk_drewN ?_ _ | refine blk_drew ?_ | refine blk_alloc ?_ _)); exact BK268.out⟩, ⟨by (with_reducible repeat (first | refine blk_drewN ?_ _ | refine blk_drew ?_ | refine blk_alloc ?_ _)); refine blk_far ?_ NB280_286.out _; (with_reducible repeat (first | refine blk_drewN ?_ _ | refine blk_drew ?_ | refine blk_alloc ?_ _)); exact BK280.out⟩, ⟨by (with_reducible repeat (first | refine blk_drewN ?_ _ | refine blk_drew ?_ | refine blk_alloc ?_ _)); refine blk_put (cs := #[.slice none 0 0]) ?_ 0 _ rfl; (with_reducible repeat (first | refine blk_drewN ?_ _ | refine blk_drew ?_ | refine blk_alloc ?_ _)); exact BK286.out⟩, ⟨by repeat (first | (with_reducible first | exact HB.out | apply below_alloc | apply pw_below_drewN | apply below_drew1 | refine below_set ?_ GE266.out | refine below_set ?_ GE268.out | refine below_set ?_ GE280.out | refine below_set ?_ GE286.out) | exact HB.out)⟩⟩
                  · rw [if_neg c60] at H
                    have c60b0 : (t284 == t278) = false := beq_eq_false_iff_ne.mpr c60
                    have c60b1 : (t284 != t278) = true := bne_iff_ne.mpr c60
                    have H' := Aside0.mk H
                    clear H
                    have hnb65 := NB280_266.out
                    have hnc65 := NB266_280.out
                    have hnb66 := NB280_268.out
                    have hnc66 := NB268_280.out
                    have hnb67 := NB280_286.out
                    have hnc67 := NB286_280.out
                    have hcz68_0 : w51.cell? ⟨gb280, 0, none⟩ = some (.int .i64 t275) := (blk_cell BK280.out 0).trans rfl
                    have hcz68_1 : w51.cell? ⟨gb280, 1, none⟩ = some (.int .i64 t276) := (blk_cell BK280.out 1).trans rfl
                    have hcz68_2 : w51.cell? ⟨gb280, 2, none⟩ = some (.int .i64 t277) := (blk_cell BK280.out 2).trans rfl
                    have hcz68_3 : w51.cell? ⟨gb280, 3, none⟩ = some (.int .i64 t278) := (blk_cell BK280.out 3).trans rfl
                    have hfz68_0 := blk_frozen BK280.out 0
                    have hfz68_1 := blk_frozen BK280.out 1
                    have hfz68_2 := blk_frozen BK280.out 2
                    have hfz68_3 := blk_frozen BK280.out 3
                    go_wp2
                    go_meet
                    case rel => exact ⟨_, (true), (by first | rfl | (simp; done) | (simp [*]; done)), H', ⟨by have := HK1.out; first | omega | exact Nat.le_refl _⟩, ⟨by (with_reducible repeat (first | apply Kd.V_alloc | apply Kd.V_drewN | apply Kd.V_drew)); exact Kd.V_mono (Kd.V_far (p := ⟨gb286, 0, none⟩) (Kd.V_mono HO_269000.out (fun k_ hk => (⟨hk, hk.2⟩ : _ ∧ k_ ≠ gb286))) (fun _ hk => hk.2) (.slice Ao52 t281.length co52)) (fun _ hk => ⟨hk.1.1.1, ⟨hk.1.1.2.1, ⟨hk.1.1.2.2, hk.1.2⟩⟩⟩)⟩, ⟨by (with_reducible repeat (first | apply Kd.V_alloc | apply Kd.V_drewN | apply Kd.V_drew)); exact Kd.V_mono (Kd.V_far (p := ⟨gb286, 0, none⟩) (Kd.V_mono HO283.out (fun k_ hk => (⟨hk, hk.2⟩ : _ ∧ k_ ≠ gb286))) (fun _ hk => hk.2) (.slice Ao52 t281.length co52)) (fun _ hk => ⟨hk.1.1.1, ⟨hk.1.1.2.1, ⟨hk.1.1.2.2, hk.1.2⟩⟩⟩)⟩, ⟨by (with_reducible repeat (first | refine blk_drewN ?_ _ | refine blk_drew ?_ | refine blk_alloc ?_ _)); refine blk_far ?_ NB266_286.out _; (with_reducible repeat (first | refine blk_drewN ?_ _ | refine blk_drew ?_ | refine blk_alloc ?_ _)); exact BK266.out⟩, ⟨by (with_reducible repeat (first | refine blk_drewN ?_ _ | refine blk_drew ?_ | refine blk_alloc ?_ _)); refine blk_far ?_ NB268_286.out _; (with_reducible repeat (first | refine blk_drewN ?_ _ | refine blk_drew ?_ | refine blk_alloc ?_ _)); exact BK268.out⟩, ⟨by (with_reducible repeat (first | refine blk_drewN ?_ _ | refine blk_drew ?_ | refine blk_alloc ?_ _)); refine blk_far ?_ NB280_286.out _; (with_reducible repeat (first | refine blk_drewN ?_ _ | refine blk_drew ?_ | refine blk_alloc ?_ _)); exact BK280.out⟩, ⟨by (with_reducible repeat (first | refine blk_drewN ?_ _ | refine blk_drew ?_ | refine blk_alloc ?_ _)); refine blk_put (cs := #[.slice none 0 0]) ?_ 0 _ rfl; (with_reducible repeat (first | refine blk_drewN ?_ _ | refine blk_drew ?_ | refine blk_alloc ?_ _)); exact BK286.out⟩, ⟨by repeat (first | (with_reducible first | exact HB.out | apply below_alloc | apply pw_below_drewN | apply below_drew1 | refine below_set ?_ GE266.out | refine below_set ?_ GE268.out | refine below_set ?_ GE280.out | refine below_set ?_ GE286.out) | exact HB.out)⟩⟩
                · rw [if_neg c59] at H
                  have c59b0 : (t285 == 0) = false := beq_eq_false_iff_ne.mpr c59
                  have c59b1 : (t285 != 0) = true := bne_iff_ne.mpr c59
                  have H' := Aside0.mk H
                  clear H
                  have hnb69 := NB280_266.out
                  have hnc69 := NB266_280.out
                  have hnb70 := NB280_268.out
                  have hnc70 := NB268_280.out
                  have hnb71 := NB280_286.out
                  have hnc71 := NB286_280.out
                  have hcz72_0 : w51.cell? ⟨gb280, 0, none⟩ = some (.int .i64 t275) := (blk_cell BK280.out 0).trans rfl
                  have hcz72_1 : w51.cell? ⟨gb280, 1, none⟩ = some (.int .i64 t276) := (blk_cell BK280.out 1).trans rfl
                  have hcz72_2 : w51.cell? ⟨gb280, 2, none⟩ = some (.int .i64 t277) := (blk_cell BK280.out 2).trans rfl
                  have hcz72_3 : w51.cell? ⟨gb280, 3, none⟩ = some (.int .i64 t278) := (blk_cell BK280.out 3).trans rfl
                  have hfz72_0 := blk_frozen BK280.out 0
                  have hfz72_1 := blk_frozen BK280.out 1
                  have hfz72_2 := blk_frozen BK280.out 2
                  have hfz72_3 := blk_frozen BK280.out 3
                  go_wp2
                  go_meet
                  case rel => exact ⟨_, ((t285 != 1)), (by first | rfl | (simp; done) | (simp [*]; done)), H', ⟨by have := HK1.out; first | omega | exact Nat.le_refl _⟩, ⟨by (with_reducible repeat (first | apply Kd.V_alloc | apply Kd.V_drewN | apply Kd.V_drew)); exact Kd.V_mono (Kd.V_far (p := ⟨gb286, 0, none⟩) (Kd.V_mono HO_269000.out (fun k_ hk => (⟨hk, hk.2⟩ : _ ∧ k_ ≠ gb286))) (fun _ hk => hk.2) (.slice Ao52 t281.length co52)) (fun _ hk => ⟨hk.1.1.1, ⟨hk.1.1.2.1, ⟨hk.1.1.2.2, hk.1.2⟩⟩⟩)⟩, ⟨by (with_reducible repeat (first | apply Kd.V_alloc | apply Kd.V_drewN | apply Kd.V_drew)); exact Kd.V_mono (Kd.V_far (p := ⟨gb286, 0, none⟩) (Kd.V_mono HO283.out (fun k_ hk => (⟨hk, hk.2⟩ : _ ∧ k_ ≠ gb286))) (fun _ hk => hk.2) (.slice Ao52 t281.length co52)) (fun _ hk => ⟨hk.1.1.1, ⟨hk.1.1.2.1, ⟨hk.1.1.2.2, hk.1.2⟩⟩⟩)⟩, ⟨by (with_reducible repeat (first | refine blk_drewN ?_ _ | refine blk_drew ?_ | refine blk_alloc ?_ _)); refine blk_far ?_ NB266_286.out _; (with_reducible repeat (first | refine blk_drewN ?_ _ | refine blk_drew ?_ | refine blk_alloc ?_ _)); exact BK266.out⟩, ⟨by (with_reducible repeat (first | refine blk_drewN ?_ _ | refine blk_drew ?_ | refine blk_alloc ?_ _)); refine blk_far ?_ NB268_286.out _; (with_reducible repeat (first | refine blk_drewN ?_ _ | refine blk_drew ?_ | refine blk_alloc ?_ _)); exact BK268.out⟩, ⟨by (with_reducible repeat (first | refine blk_drewN ?_ _ | refine blk_drew ?_ | refine blk_alloc ?_ _)); refine blk_far ?_ NB280_286.out _; (with_reducible repeat (first | refine blk_drewN ?_ _ | refine blk_drew ?_ | refine blk_alloc ?_ _)); exact BK280.out⟩, ⟨by (with_reducible repeat (first | refine blk_drewN ?_ _ | refine blk_drew ?_ | refine blk_alloc ?_ _)); refine blk_put (cs := #[.slice none 0 0]) ?_ 0 _ rfl; (with_reducible repeat (first | refine blk_drewN ?_ _ | refine blk_drew ?_ | refine blk_alloc ?_ _)); exact BK286.out⟩, ⟨by repeat (first | (with_reducible first | exact HB.out | apply below_alloc | apply pw_below_drewN | apply below_drew1 | refine below_set ?_ GE266.out | refine below_set ?_ GE268.out | refine below_set ?_ GE280.out | refine below_set ?_ GE286.out) | exact HB.out)⟩⟩
              · rw [if_neg c58] at H
                have c58b0 : (t277 == 2) = false := beq_eq_false_iff_ne.mpr c58
                have c58b1 : (t277 != 2) = true := bne_iff_ne.mpr c58
                (first | rw [c58b0] | (simp only [i64_w, i32_w]; rw [c58b0]) | skip)
                have H' := Aside0.mk H
                clear H
                have hnb73 := NB280_266.out
                have hnc73 := NB266_280.out
                have hnb74 := NB280_268.out
                have hnc74 := NB268_280.out
                have hnb75 := NB280_286.out
                have hnc75 := NB286_280.out
                have hcz76_0 : w51.cell? ⟨gb280, 0, none⟩ = some (.int .i64 t275) := (blk_cell BK280.out 0).trans rfl
                have hcz76_1 : w51.cell? ⟨gb280, 1, none⟩ = some (.int .i64 t276) := (blk_cell BK280.out 1).trans rfl
                have hcz76_2 : w51.cell? ⟨gb280, 2, none⟩ = some (.int .i64 t277) := (blk_cell BK280.out 2).trans rfl
                have hcz76_3 : w51.cell? ⟨gb280, 3, none⟩ = some (.int .i64 t278) := (blk_cell BK280.out 3).trans rfl
                have hfz76_0 := blk_frozen BK280.out 0
                have hfz76_1 := blk_frozen BK280.out 1
                have hfz76_2 := blk_frozen BK280.out 2
                have hfz76_3 := blk_frozen BK280.out 3
                go_wp2
                go_meet
                case rel => exact ⟨_, (false), (by first | rfl | (simp; done) | (simp [*]; done)), H', ⟨by have := HK1.out; first | omega | exact Nat.le_refl _⟩, ⟨by (with_reducible repeat (first | apply Kd.V_alloc | apply Kd.V_drewN | apply Kd.V_drew)); exact Kd.V_mono (Kd.V_far (p := ⟨gb286, 0, none⟩) (Kd.V_mono HO_269000.out (fun k_ hk => (⟨hk, hk.2⟩ : _ ∧ k_ ≠ gb286))) (fun _ hk => hk.2) (.slice Ao52 t281.length co52)) (fun _ hk => ⟨hk.1.1.1, ⟨hk.1.1.2.1, ⟨hk.1.1.2.2, hk.1.2⟩⟩⟩)⟩, ⟨by (with_reducible repeat (first | apply Kd.V_alloc | apply Kd.V_drewN | apply Kd.V_drew)); exact Kd.V_mono (Kd.V_far (p := ⟨gb286, 0, none⟩) (Kd.V_mono HO283.out (fun k_ hk => (⟨hk, hk.2⟩ : _ ∧ k_ ≠ gb286))) (fun _ hk => hk.2) (.slice Ao52 t281.length co52)) (fun _ hk => ⟨hk.1.1.1, ⟨hk.1.1.2.1, ⟨hk.1.1.2.2, hk.1.2⟩⟩⟩)⟩, ⟨by (with_reducible repeat (first | refine blk_drewN ?_ _ | refine blk_drew ?_ | refine blk_alloc ?_ _)); refine blk_far ?_ NB266_286.out _; (with_reducible repeat (first | refine blk_drewN ?_ _ | refine blk_drew ?_ | refine blk_alloc ?_ _)); exact BK266.out⟩, ⟨by (with_reducible repeat (first | refine blk_drewN ?_ _ | refine blk_drew ?_ | refine blk_alloc ?_ _)); refine blk_far ?_ NB268_286.out _; (with_reducible repeat (first | refine blk_drewN ?_ _ | refine blk_drew ?_ | refine blk_alloc ?_ _)); exact BK268.out⟩, ⟨by (with_reducible repeat (first | refine blk_drewN ?_ _ | refine blk_drew ?_ | refine blk_alloc ?_ _)); refine blk_far ?_ NB280_286.out _; (with_reducible repeat (first | refine blk_drewN ?_ _ | refine blk_drew ?_ | refine blk_alloc ?_ _)); exact BK280.out⟩, ⟨by (with_reducible repeat (first | refine blk_drewN ?_ _ | refine blk_drew ?_ | refine blk_alloc ?_ _)); refine blk_put (cs := #[.slice none 0 0]) ?_ 0 _ rfl; (with_reducible repeat (first | refine blk_drewN ?_ _ | refine blk_drew ?_ | refine blk_alloc ?_ _)); exact BK286.out⟩, ⟨by repeat (first | (with_reducible first | exact HB.out | apply below_alloc | apply pw_below_drewN | apply below_drew1 | refine below_set ?_ GE266.out | refine below_set ?_ GE268.out | refine below_set ?_ GE280.out | refine below_set ?_ GE286.out) | exact HB.out)⟩⟩
            · replace c57 := Bool.eq_false_iff.mpr c57
              subst c57
              have H1 : (godwitlaw12_TokensKeep.j1 k1 a2 t267 false false a1_0 a1_1 a1_2 x269000_1 t275 t276 t277 t278) = some r := by rw [if_neg (show ¬ (false = true) by decide)] at H; exact H
              clear H
              have H := H1
              clear H1
              have H' := Aside0.mk H
              clear H
              go_wp2
              go_meet
              case rel => exact ⟨_, (false), (by first | rfl | (simp; done) | (simp [*]; done)), H', ⟨by have := HK1.out; first | omega | exact Nat.le_refl _⟩, ⟨by (with_reducible repeat (first | apply Kd.V_alloc | apply Kd.V_drewN | apply Kd.V_drew)); exact Kd.V_mono (Kd.V_far (p := ⟨gb286, 0, none⟩) (Kd.V_mono HO_269000.out (fun k_ hk => (⟨hk, hk.2⟩ : _ ∧ k_ ≠ gb286))) (fun _ hk => hk.2) (.slice Ao52 t281.length co52)) (fun _ hk => ⟨hk.1.1.1, ⟨hk.1.1.2.1, ⟨hk.1.1.2.2, hk.1.2⟩⟩⟩)⟩, ⟨by (with_reducible repeat (first | apply Kd.V_alloc | apply Kd.V_drewN | apply Kd.V_drew)); exact Kd.V_mono (Kd.V_far (p := ⟨gb286, 0, none⟩) (Kd.V_mono HO283.out (fun k_ hk => (⟨hk, hk.2⟩ : _ ∧ k_ ≠ gb286))) (fun _ hk => hk.2) (.slice Ao52 t281.length co52)) (fun _ hk => ⟨hk.1.1.1, ⟨hk.1.1.2.1, ⟨hk.1.1.2.2, hk.1.2⟩⟩⟩)⟩, ⟨by (with_reducible repeat (first | refine blk_drewN ?_ _ | refine blk_drew ?_ | refine blk_alloc ?_ _)); refine blk_far ?_ NB266_286.out _; (with_reducible repeat (first | refine blk_drewN ?_ _ | refine blk_drew ?_ | refine blk_alloc ?_ _)); exact BK266.out⟩, ⟨by (with_reducible repeat (first | refine blk_drewN ?_ _ | refine blk_drew ?_ | refine blk_alloc ?_ _)); refine blk_far ?_ NB268_286.out _; (with_reducible repeat (first | refine blk_drewN ?_ _ | refine blk_drew ?_ | refine blk_alloc ?_ _)); exact BK268.out⟩, ⟨by (with_reducible repeat (first | refine blk_drewN ?_ _ | refine blk_drew ?_ | refine blk_alloc ?_ _)); refine blk_far ?_ NB280_286.out _; (with_reducible repeat (first | refine blk_drewN ?_ _ | refine blk_drew ?_ | refine blk_alloc ?_ _)); exact BK280.out⟩, ⟨by (with_reducible repeat (first | refine blk_drewN ?_ _ | refine blk_drew ?_ | refine blk_alloc ?_ _)); refine blk_put (cs := #[.slice none 0 0]) ?_ 0 _ rfl; (with_reducible repeat (first | refine blk_drewN ?_ _ | refine blk_drew ?_ | refine blk_alloc ?_ _)); exact BK286.out⟩, ⟨by repeat (first | (with_reducible first | exact HB.out | apply below_alloc | apply pw_below_drewN | apply below_drew1 | refine below_set ?_ GE266.out | refine below_set ?_ GE268.out | refine below_set ?_ GE280.out | refine below_set ?_ GE286.out) | exact HB.out)⟩⟩
          case rest =>
            clear HC39
            try clear c1
            try clear c2
            try clear p2
            try clear q2
            try clear hx2
            try clear c4
            try clear c5
            try clear c6
            try clear p6
            try clear c7
            try clear c8
            try clear c9
            try clear c11
            try clear c14
            try clear c14b0
            try clear c15
            try clear c17
            try clear c17b0
            try clear c17b1
            try clear c25
            try clear c26
            try clear p26
            try clear q26
            try clear hx26
            try clear c28
            try clear c40
            try clear c45
            try clear c46
            try clear c53
            try clear c54
            try clear c55
            try clear c57
            try clear c58
            try clear c58b0
            try clear c58b1
            try clear c59
            try clear c59b0
            try clear c59b1
            try clear c60
            try clear c60b0
            try clear c60b1
            try clear c61
            try clear c62
            try clear c63
            try clear p64
            try clear c65
            try clear c66
            try clear c67
            try clear c69
            try clear c70
            try clear c71
            try clear c73
            try clear c74
            try clear c75
            try clear hcz27_0
            try clear hcz29_0
            try clear hcz41_0
            try clear hcz47_0
            try clear hcz47_1
            try clear hcz47_2
            try clear hcz47_3
            try clear hcz49_0
            try clear hcz56_0
            try clear hcz64_0
            try clear hcz64_1
            try clear hcz64_2
            try clear hcz64_3
            try clear hcz68_0
            try clear hcz68_1
            try clear hcz68_2
            try clear hcz68_3
            try clear hcz72_0
            try clear hcz72_1
            try clear hcz72_2
            try clear hcz72_3
            try clear hcz76_0
            try clear hcz76_1
            try clear hcz76_2
            try clear hcz76_3
            try clear hfz27_0
            try clear hfz29_0
            try clear hfz41_0
            try clear hfz47_0
            try clear hfz47_1
            try clear hfz47_2
            try clear hfz47_3
            try clear hfz49_0
            try clear hfz56_0
            try clear hfz64_0
            try clear hfz64_1
            try clear hfz64_2
            try clear hfz64_3
            try clear hfz68_0
            try clear hfz68_1
            try clear hfz68_2
            try clear hfz68_3
            try clear hfz72_0
            try clear hfz72_1
            try clear hfz72_2
            try clear hfz72_3
            try clear hfz76_0
            try clear hfz76_1
            try clear hfz76_2
            try clear hfz76_3
            try clear hx269_0
            try clear hx269_1
            try clear hx269_2
            try clear p269
            try clear q269
            obtain ⟨kq, x86_38, rfl, HA, HJ38, HO_269000, HO_287000, BK266, BK268, BK280, BK286, HB⟩ := hcut
            cases kq with
            | zero => exact absurd HA.out (by simp [godwitlaw12_TokensKeep.j1])
            | succ kj38 =>
              have H := HA.out
              clear HA
              simp only [godwitlaw12_TokensKeep.j1] at H
              by_cases c77 : x86_38 = true
              · subst c77
                have H1 : (none) = some r := by rw [if_pos rfl] at H; exact H
                clear H
                have H := H1
                clear H1
                exact absurd H (by simp)
              · replace c77 := Bool.eq_false_iff.mpr c77
                subst c77
                have H1 : ((godwitlaw12_did.f kj38 x269000_1 a1_0 a1_1 a1_2 500).bind fun bt287 => (if bt287.2 = 0 then ((tokens_Find.f bt287.1 a2).bind fun bt292 => (if t267 = true then (if a1_1 = a2 then (some true) else (if (t279 == bt292.2.2.2.2) = true then (some (t275 == bt292.1 && (t276 == bt292.2.1 && (t277 == bt292.2.2.1 && (t278 == bt292.2.2.2.1))))) else (none))) else (none))) else (some t267))) = some r := by rw [if_neg (show ¬ (false = true) by decide)] at H; exact H
                clear H
                have H := H1
                clear H1
                replace H := Option.bind_eq_some_iff.mp H
                obtain ⟨⟨t287, t290⟩, A780, H⟩ := H
                replace H : (if t290 = 0 then ((tokens_Find.f t287 a2).bind fun bt292 => (if t267 = true then (if a1_1 = a2 then (some true) else (if (t279 == bt292.2.2.2.2) = true then (some (t275 == bt292.1 && (t276 == bt292.2.1 && (t277 == bt292.2.2.1 && (t278 == bt292.2.2.2.1))))) else (none))) else (none))) else (some t267)) = some r := H
                have A78 := Aside0.mk A780
                clear A780
                by_cases c79 : t290 = 0
                · rw [if_pos c79] at H
                  have c79b0 : (t290 == 0) = true := beq_iff_eq.mpr c79
                  have c79b1 : (t290 != 0) = false := bne_eq_false_iff_eq.mpr c79
                  clear c79
                  replace H := Option.bind_eq_some_iff.mp H
                  obtain ⟨⟨t292, t293, t294, t295, t296⟩, A800, H⟩ := H
                  replace H : (if t267 = true then (if a1_1 = a2 then (some true) else (if (t279 == t296) = true then (some (t275 == t292 && (t276 == t293 && (t277 == t294 && (t278 == t295))))) else (none))) else (none)) = some r := H
                  have A80 := Aside0.mk A800
                  clear A800
                  by_cases c81 : t267 = true
                  · subst c81
                    have H1 : (if a1_1 = a2 then (some true) else (if (t279 == t296) = true then (some (t275 == t292 && (t276 == t293 && (t277 == t294 && (t278 == t295))))) else (none))) = some r := by rw [if_pos rfl] at H; exact H
                    clear H
                    have H := H1
                    clear H1
                    by_cases c82 : a1_1 = a2
                    · rw [if_pos c82] at H
                      have c82b0 : (a1_1 == a2) = true := beq_iff_eq.mpr c82
                      have c82b1 : (a1_1 != a2) = false := bne_eq_false_iff_eq.mpr c82
                      clear c82
                      obtain rfl := Option.some.inj H
                      have hnb83 := NB268_266.out
                      have hnc83 := NB266_268.out
                      have hnb84 := NB268_280.out
                      have hnc84 := NB280_268.out
                      have hnb85 := NB268_286.out
                      have hnc85 := NB286_268.out
                      have hcz86_0 : wc.cell? ⟨gb268, 0, none⟩ = some (.slice Ao42 x269000_1.length co42) := (blk_cell BK268.out 0).trans rfl
                      have hfz86_0 := blk_frozen BK268.out 0
                      have hnb87 := NB266_280.out
                      have hnc87 := NB280_266.out
                      have hnb88 := NB266_286.out
                      have hnc88 := NB286_266.out
                      have hcz89_0 : wc.cell? ⟨gb266, 0, none⟩ = some (.int .i64 a1_0) := (blk_cell BK266.out 0).trans rfl
                      have hcz89_1 : wc.cell? ⟨gb266, 1, none⟩ = some (.int .i64 a1_1) := (blk_cell BK266.out 1).trans rfl
                      have hcz89_2 : wc.cell? ⟨gb266, 2, none⟩ = some (.int .i64 a1_2) := (blk_cell BK266.out 2).trans rfl
                      have hfz89_0 := blk_frozen BK266.out 0
                      have hfz89_1 := blk_frozen BK266.out 1
                      have hfz89_2 := blk_frozen BK266.out 2
                      go_wp2_with (first | ((with_reducible refine gate_callee (f := 8) rfl ?_); refine goesL_ (some 90) rfl rfl Try.func8 (by kernel_rfl) rfl #[.agg #[.slice Ao42 x269000_1.length co42], .agg #[.int .i64 a1_0, .int .i64 a1_1, .int .i64 a1_2], .int .i64 500] rfl (by (try simp only [List.map_toArray, List.map_cons, List.map_nil]); first | done | rfl | (simp only [List.length_drop, List.length_take]; rfl)) ?_; (with_reducible refine (godwitlaw12_did.calls kj38 (fun k_ => (k_ ≠ gb266 ∧ (k_ ≠ gb268 ∧ (k_ ≠ gb280 ∧ k_ ≠ gb286)))) _ _ x269000_1 a1_0 a1_1 a1_2 500 t287 t290 _ ?side1 A78.out).mono ?_); (case side1 => exact HO_269000.out); rintro e w90 ⟨v288, rfl, ho0, hb⟩; refine ⟨_, rfl, ?_⟩; have n0_ := Aside0.mk (Kd.V_below (by (with_reducible repeat (first | apply Kd.V_alloc | apply Kd.V_drewN | apply Kd.V_drew)); exact HO_269000.out) hb); have n1_ := Aside0.mk (Kd.V_below (by (with_reducible repeat (first | apply Kd.V_alloc | apply Kd.V_drewN | apply Kd.V_drew)); exact HO_287000.out) hb); have n2_ := Aside0.mk (Kd.V_lower (Kd.V_mono (ok' := fun k_ => k_ ≠ gb266 ∧ k_ ≠ gb268 ∧ k_ ≠ gb280 ∧ k_ ≠ gb286) ho0 (fun k_ hk_ => ⟨Or.elim hk_ (fun hs_ => hs_.1) (fun hn_ => (Kd.freshB (g := gb266) (o := .cells #[.int .i64 a1_0, .int .i64 a1_1, .int .i64 a1_2] 28 (0, 0)) (by (with_reducible repeat (first | refine blk_drewN ?_ _ | refine blk_drew ?_ | refine blk_alloc ?_ _)); exact BK266.out) k_ hn_)), Or.elim hk_ (fun hs_ => hs_.2.1) (fun hn_ => (Kd.freshB (g := gb268) (o := .cells #[.slice Ao42 x269000_1.length co42] 26 (0, 0)) (by (with_reducible repeat (first | refine blk_drewN ?_ _ | refine blk_drew ?_ | refine blk_alloc ?_ _)); exact BK268.out) k_ hn_)), Or.elim hk_ (fun hs_ => hs_.2.2.1) (fun hn_ => (Kd.freshB (g := gb280) (o := .cells #[.int .i64 t275, .int .i64 t276, .int .i64 t277, .int .i64 t278] 33 (0, 0)) (by (with_reducible repeat (first | refine blk_drewN ?_ _ | refine blk_drew ?_ | refine blk_alloc ?_ _)); exact BK280.out) k_ hn_)), Or.elim hk_ (fun hs_ => hs_.2.2.2) (fun hn_ => (Kd.freshB (g := gb286) (o := .cells #[.slice Ao52 t281.length co52] 26 (0, 0)) (by (with_reducible repeat (first | refine blk_drewN ?_ _ | refine blk_drew ?_ | refine blk_alloc ?_ _)); exact BK286.out) k_ hn_))⟩)) (below_size (by repeat (first | (with_reducible first | exact HB.out | apply below_alloc | apply pw_below_drewN | apply below_drew1 | refine below_set ?_ GE266.out | refine below_set ?_ GE268.out | refine below_set ?_ GE280.out | refine below_set ?_ GE286.out) | exact HB.out)))); have n3_ := Aside0.mk (blk_below (g := gb266) (o := .cells #[.int .i64 a1_0, .int .i64 a1_1, .int .i64 a1_2] 28 (0, 0)) (by (with_reducible repeat (first | refine blk_drewN ?_ _ | refine blk_drew ?_ | refine blk_alloc ?_ _)); exact BK266.out) hb); have n4_ := Aside0.mk (blk_below (g := gb268) (o := .cells #[.slice Ao42 x269000_1.length co42] 26 (0, 0)) (by (with_reducible repeat (first | refine blk_drewN ?_ _ | refine blk_drew ?_ | refine blk_alloc ?_ _)); exact BK268.out) hb); have n5_ := Aside0.mk (blk_below (g := gb280) (o := .cells #[.int .i64 t275, .int .i64 t276, .int .i64 t277, .int .i64 t278] 33 (0, 0)) (by (with_reducible repeat (first | refine blk_drewN ?_ _ | refine blk_drew ?_ | refine blk_alloc ?_ _)); exact BK280.out) hb); have n6_ := Aside0.mk (blk_below (g := gb286) (o := .cells #[.slice Ao52 t281.length co52] 26 (0, 0)) (by (with_reducible repeat (first | refine blk_drewN ?_ _ | refine blk_drew ?_ | refine blk_alloc ?_ _)); exact BK286.out) hb); have n7_ := Aside0.mk (below_step (by repeat (first | (with_reducible first | exact HB.out | apply below_alloc | apply pw_below_drewN | apply below_drew1 | refine below_set ?_ GE266.out | refine below_set ?_ GE268.out | refine below_set ?_ GE280.out | refine below_set ?_ GE286.out) | exact HB.out)) hb); clear HO_269000; clear HO_287000; clear BK266; clear BK268; clear BK280; clear BK286; clear HB; have HO_269000 := n0_; have HO_287000 := n1_; have HO289 := n2_; have BK266 := n3_; have BK268 := n4_; have BK280 := n5_; have BK286 := n6_; have HB := n7_; clear n0_ n1_ n2_ n3_ n4_ n5_ n6_ n7_; (try clear hb); (try clear hb2); (try clear hk); (try clear hi); (try clear ho0)) | ((with_reducible refine gate_dst (N := 19) rfl ?_); refine box_event ?hg (N := 19) ?hd (cs := #[.slice none 0 0]) (t := 26) ?hr ?_; (case hd => rfl); (case hg => rfl); (case hr => first | (go_simp; done) | (go_simp; rfl)); intro gb291 hg w91 hbox hb; have n0_ := Aside0.mk (Kd.V_below (Kd.V_elderB (by (with_reducible repeat (first | apply Kd.V_alloc | apply Kd.V_drewN | apply Kd.V_drew)); exact HO_269000.out) gb291 (Nat.le_of_eq hg.symm)) hb); have n1_ := Aside0.mk (Kd.V_below (Kd.V_elderB (by (with_reducible repeat (first | apply Kd.V_alloc | apply Kd.V_drewN | apply Kd.V_drew)); exact HO_287000.out) gb291 (Nat.le_of_eq hg.symm)) hb); have n2_ := Aside0.mk (Kd.V_below (Kd.V_elderB (by (with_reducible repeat (first | apply Kd.V_alloc | apply Kd.V_drewN | apply Kd.V_drew)); exact HO289.out) gb291 (Nat.le_of_eq hg.symm)) hb); have n3_ := Aside0.mk (blk_below (g := gb266) (o := .cells #[.int .i64 a1_0, .int .i64 a1_1, .int .i64 a1_2] 28 (0, 0)) (by (with_reducible repeat (first | refine blk_drewN ?_ _ | refine blk_drew ?_ | refine blk_alloc ?_ _)); exact BK266.out) hb); have n4_ := Aside0.mk (blk_below (g := gb268) (o := .cells #[.slice Ao42 x269000_1.length co42] 26 (0, 0)) (by (with_reducible repeat (first | refine blk_drewN ?_ _ | refine blk_drew ?_ | refine blk_alloc ?_ _)); exact BK268.out) hb); have n5_ := Aside0.mk (blk_below (g := gb280) (o := .cells #[.int .i64 t275, .int .i64 t276, .int .i64 t277, .int .i64 t278] 33 (0, 0)) (by (with_reducible repeat (first | refine blk_drewN ?_ _ | refine blk_drew ?_ | refine blk_alloc ?_ _)); exact BK280.out) hb); have n6_ := Aside0.mk (blk_below (g := gb286) (o := .cells #[.slice Ao52 t281.length co52] 26 (0, 0)) (by (with_reducible repeat (first | refine blk_drewN ?_ _ | refine blk_drew ?_ | refine blk_alloc ?_ _)); exact BK286.out) hb); have n7_ := Aside0.mk (below_step (by repeat (first | (with_reducible first | exact HB.out | apply below_alloc | apply pw_below_drewN | apply below_drew1 | refine below_set ?_ GE266.out | refine below_set ?_ GE268.out | refine below_set ?_ GE280.out | refine below_set ?_ GE286.out) | exact HB.out)) hb); have n8_ := Aside0.mk (hbox); have n9_ := Aside0.mk ((by rw [hg]; exact (below_size (by repeat (first | (with_reducible first | exact HB.out | apply below_alloc | apply pw_below_drewN | apply below_drew1 | refine below_set ?_ GE266.out | refine below_set ?_ GE268.out | refine below_set ?_ GE280.out | refine below_set ?_ GE286.out) | exact HB.out))) : w.heap.size ≤ gb291)); have n10_ := Aside0.mk ((by rw [hg]; exact (below_size (by repeat (first | (with_reducible first | exact HB.out | apply below_alloc | apply pw_below_drewN | apply below_drew1 | refine below_set ?_ GE266.out | refine below_set ?_ GE268.out | refine below_set ?_ GE280.out | refine below_set ?_ GE286.out) | exact HB.out))) : w.heap.size ≤ gb291)); have n11_ := Aside0.mk ((by rw [hg]; exact Nat.ne_of_lt (blk_lt (g := gb266) (o := .cells #[.int .i64 a1_0, .int .i64 a1_1, .int .i64 a1_2] 28 (0, 0)) (by (with_reducible repeat (first | refine blk_drewN ?_ _ | refine blk_drew ?_ | refine blk_alloc ?_ _)); exact BK266.out)) : gb266 ≠ gb291)); have n12_ := Aside0.mk ((by rw [hg]; exact Nat.ne_of_gt (blk_lt (g := gb266) (o := .cells #[.int .i64 a1_0, .int .i64 a1_1, .int .i64 a1_2] 28 (0, 0)) (by (with_reducible repeat (first | refine blk_drewN ?_ _ | refine blk_drew ?_ | refine blk_alloc ?_ _)); exact BK266.out)) : gb291 ≠ gb266)); have n13_ := Aside0.mk ((by rw [hg]; exact Nat.ne_of_lt (blk_lt (g := gb268) (o := .cells #[.slice Ao42 x269000_1.length co42] 26 (0, 0)) (by (with_reducible repeat (first | refine blk_drewN ?_ _ | refine blk_drew ?_ | refine blk_alloc ?_ _)); exact BK268.out)) : gb268 ≠ gb291)); have n14_ := Aside0.mk ((by rw [hg]; exact Nat.ne_of_gt (blk_lt (g := gb268) (o := .cells #[.slice Ao42 x269000_1.length co42] 26 (0, 0)) (by (with_reducible repeat (first | refine blk_drewN ?_ _ | refine blk_drew ?_ | refine blk_alloc ?_ _)); exact BK268.out)) : gb291 ≠ gb268)); have n15_ := Aside0.mk ((by rw [hg]; exact Nat.ne_of_lt (blk_lt (g := gb280) (o := .cells #[.int .i64 t275, .int .i64 t276, .int .i64 t277, .int .i64 t278] 33 (0, 0)) (by (with_reducible repeat (first | refine blk_drewN ?_ _ | refine blk_drew ?_ | refine blk_alloc ?_ _)); exact BK280.out)) : gb280 ≠ gb291)); have n16_ := Aside0.mk ((by rw [hg]; exact Nat.ne_of_gt (blk_lt (g := gb280) (o := .cells #[.int .i64 t275, .int .i64 t276, .int .i64 t277, .int .i64 t278] 33 (0, 0)) (by (with_reducible repeat (first | refine blk_drewN ?_ _ | refine blk_drew ?_ | refine blk_alloc ?_ _)); exact BK280.out)) : gb291 ≠ gb280)); have n17_ := Aside0.mk ((by rw [hg]; exact Nat.ne_of_lt (blk_lt (g := gb286) (o := .cells #[.slice Ao52 t281.length co52] 26 (0, 0)) (by (with_reducible repeat (first | refine blk_drewN ?_ _ | refine blk_drew ?_ | refine blk_alloc ?_ _)); exact BK286.out)) : gb286 ≠ gb291)); have n18_ := Aside0.mk ((by rw [hg]; exact Nat.ne_of_gt (blk_lt (g := gb286) (o := .cells #[.slice Ao52 t281.length co52] 26 (0, 0)) (by (with_reducible repeat (first | refine blk_drewN ?_ _ | refine blk_drew ?_ | refine blk_alloc ?_ _)); exact BK286.out)) : gb291 ≠ gb286)); clear HO_269000; clear HO_287000; clear HO289; clear BK266; clear BK268; clear BK280; clear BK286; clear HB; have HO_269000 := n0_; have HO_287000 := n1_; have HO289 := n2_; have BK266 := n3_; have BK268 := n4_; have BK280 := n5_; have BK286 := n6_; have HB := n7_; have BK291 := n8_; have GW291 := n9_; have GE291 := n10_; have NB266_291 := n11_; have NB291_266 := n12_; have NB268_291 := n13_; have NB291_268 := n14_; have NB280_291 := n15_; have NB291_280 := n16_; have NB286_291 := n17_; have NB291_286 := n18_; clear n0_ n1_ n2_ n3_ n4_ n5_ n6_ n7_ n8_ n9_ n10_ n11_ n12_ n13_ n14_ n15_ n16_ n17_ n18_; clear hb hbox hg; obtain ⟨Ao92, co92, eo92⟩ := Kd.V_slice HO289.out; subst eo92; have hnb93 := NB291_266.out; have hnc93 := NB266_291.out; have hnb94 := NB291_268.out; have hnc94 := NB268_291.out; have hnb95 := NB291_280.out; have hnc95 := NB280_291.out; have hnb96 := NB291_286.out; have hnc96 := NB286_291.out; have hcz97_0 : w91.cell? ⟨gb291, 0, none⟩ = some (.slice none 0 0) := (blk_cell BK291.out 0).trans rfl; have hfz97_0 := blk_frozen BK291.out 0) | ((with_reducible refine gate_callee (f := 9) rfl ?_); refine goesL_ (some 99) rfl rfl Try.func9 (by kernel_rfl) rfl #[.agg #[.slice Ao92 t287.length co92], .int .i64 a2] rfl (by (try simp only [List.map_toArray, List.map_cons, List.map_nil]); first | done | rfl | (simp only [List.length_drop, List.length_take]; rfl)) ?_; (with_reducible refine (tokens_Find.calls _ _ t287 a2 t292 t293 t294 t295 t296 _ ?side1 ?side2 A80.out).mono ?_); (case side1 => refine (Kd.V_reads' (e := 33) (base := w.heap.size) (ok := fun k_ => ((k_ ≠ gb266 ∧ (k_ ≠ gb268 ∧ (k_ ≠ gb280 ∧ k_ ≠ gb286))) ∧ k_ ≠ gb291)) (n := t287.length) (c := co92) ?_).2.2; exact (by (with_reducible repeat (first | apply Kd.V_alloc | apply Kd.V_drewN | apply Kd.V_drew)); exact (Kd.V_mono (Kd.V_far (p := ⟨gb291, 0, none⟩) (Kd.V_mono HO289.out (fun k_ hk => (⟨hk, hk.2⟩ : _ ∧ k_ ≠ gb291))) (fun _ hk => hk.2) (.slice Ao92 t287.length co92)) (fun _ h_ => h_.1)))); (case side2 => exact (Kd.V_reads' HO289.out).2.1); rintro e w98 ⟨rfl, hb⟩; refine ⟨_, rfl, ?_⟩; have n0_ := Aside0.mk (Kd.V_below (by (with_reducible repeat (first | apply Kd.V_alloc | apply Kd.V_drewN | apply Kd.V_drew)); exact (Kd.V_mono (Kd.V_far (p := ⟨gb291, 0, none⟩) (Kd.V_mono HO_269000.out (fun k_ hk => (⟨hk, hk.2⟩ : _ ∧ k_ ≠ gb291))) (fun _ hk => hk.2) (.slice Ao92 t287.length co92)) (fun _ h_ => h_.1))) hb); have n1_ := Aside0.mk (Kd.V_below (by (with_reducible repeat (first | apply Kd.V_alloc | apply Kd.V_drewN | apply Kd.V_drew)); exact (Kd.V_mono (Kd.V_far (p := ⟨gb291, 0, none⟩) (Kd.V_mono HO_287000.out (fun k_ hk => (⟨hk, hk.2⟩ : _ ∧ k_ ≠ gb291))) (fun _ hk => hk.2) (.slice Ao92 t287.length co92)) (fun _ h_ => h_.1))) hb); have n2_ := Aside0.mk (Kd.V_below (by (with_reducible repeat (first | apply Kd.V_alloc | apply Kd.V_drewN | apply Kd.V_drew)); exact (Kd.V_mono (Kd.V_far (p := ⟨gb291, 0, none⟩) (Kd.V_mono HO289.out (fun k_ hk => (⟨hk, hk.2⟩ : _ ∧ k_ ≠ gb291))) (fun _ hk => hk.2) (.slice Ao92 t287.length co92)) (fun _ h_ => h_.1))) hb); have n3_ := Aside0.mk (blk_below (g := gb266) (o := .cells #[.int .i64 a1_0, .int .i64 a1_1, .int .i64 a1_2] 28 (0, 0)) (by (with_reducible repeat (first | refine blk_drewN ?_ _ | refine blk_drew ?_ | refine blk_alloc ?_ _)); refine blk_far ?_ NB266_291.out _; (with_reducible repeat (first | refine blk_drewN ?_ _ | refine blk_drew ?_ | refine blk_alloc ?_ _)); exact BK266.out) hb); have n4_ := Aside0.mk (blk_below (g := gb268) (o := .cells #[.slice Ao42 x269000_1.length co42] 26 (0, 0)) (by (with_reducible repeat (first | refine blk_drewN ?_ _ | refine blk_drew ?_ | refine blk_alloc ?_ _)); refine blk_far ?_ NB268_291.out _; (with_reducible repeat (first | refine blk_drewN ?_ _ | refine blk_drew ?_ | refine blk_alloc ?_ _)); exact BK268.out) hb); have n5_ := Aside0.mk (blk_below (g := gb280) (o := .cells #[.int .i64 t275, .int .i64 t276, .int .i64 t277, .int .i64 t278] 33 (0, 0)) (by (with_reducible repeat (first | refine blk_drewN ?_ _ | refine blk_drew ?_ | refine blk_alloc ?_ _)); refine blk_far ?_ NB280_291.out _; (with_reducible repeat (first | refine blk_drewN ?_ _ | refine blk_drew ?_ | refine blk_alloc ?_ _)); exact BK280.out) hb); have n6_ := Aside0.mk (blk_below (g := gb286) (o := .cells #[.slice Ao52 t281.length co52] 26 (0, 0)) (by (with_reducible repeat (first | refine blk_drewN ?_ _ | refine blk_drew ?_ | refine blk_alloc ?_ _)); refine blk_far ?_ NB286_291.out _; (with_reducible repeat (first | refine blk_drewN ?_ _ | refine blk_drew ?_ | refine blk_alloc ?_ _)); exact BK286.out) hb); have n7_ := Aside0.mk (blk_below (g := gb291) (o := .cells #[.slice Ao92 t287.length co92] 26 (0, 0)) (by (with_reducible repeat (first | refine blk_drewN ?_ _ | refine blk_drew ?_ | refine blk_alloc ?_ _)); refine blk_put (cs := #[.slice none 0 0]) ?_ 0 _ rfl; (with_reducible repeat (first | refine blk_drewN ?_ _ | refine blk_drew ?_ | refine blk_alloc ?_ _)); exact BK291.out) hb); have n8_ := Aside0.mk (below_step (by repeat (first | (with_reducible first | exact HB.out | apply below_alloc | apply pw_below_drewN | apply below_drew1 | refine below_set ?_ GE266.out | refine below_set ?_ GE268.out | refine below_set ?_ GE280.out | refine below_set ?_ GE286.out | refine below_set ?_ GE291.out) | exact HB.out)) hb); clear HO_269000; clear HO_287000; clear HO289; clear BK266; clear BK268; clear BK280; clear BK286; clear BK291; clear HB; have HO_269000 := n0_; have HO_287000 := n1_; have HO289 := n2_; have BK266 := n3_; have BK268 := n4_; have BK280 := n5_; have BK286 := n6_; have BK291 := n7_; have HB := n8_; clear n0_ n1_ n2_ n3_ n4_ n5_ n6_ n7_ n8_; (try clear hb); (try clear hb2); (try clear hk); (try clear hi)) | ((with_reducible refine gate_dst (N := 21) rfl ?_); refine box_event ?hg (N := 21) ?hd (cs := #[.int .i64 0, .int .i64 0, .int .i64 0, .int .i64 0]) (t := 33) ?hr ?_; (case hd => rfl); (case hg => rfl); (case hr => first | (go_simp; done) | (go_simp; rfl)); intro gb297 hg w99 hbox hb; have n0_ := Aside0.mk (Kd.V_below (Kd.V_elderB (by (with_reducible repeat (first | apply Kd.V_alloc | apply Kd.V_drewN | apply Kd.V_drew)); exact HO_269000.out) gb297 (Nat.le_of_eq hg.symm)) hb); have n1_ := Aside0.mk (Kd.V_below (Kd.V_elderB (by (with_reducible repeat (first | apply Kd.V_alloc | apply Kd.V_drewN | apply Kd.V_drew)); exact HO_287000.out) gb297 (Nat.le_of_eq hg.symm)) hb); have n2_ := Aside0.mk (Kd.V_below (Kd.V_elderB (by (with_reducible repeat (first | apply Kd.V_alloc | apply Kd.V_drewN | apply Kd.V_drew)); exact HO289.out) gb297 (Nat.le_of_eq hg.symm)) hb); have n3_ := Aside0.mk (blk_below (g := gb266) (o := .cells #[.int .i64 a1_0, .int .i64 a1_1, .int .i64 a1_2] 28 (0, 0)) (by (with_reducible repeat (first | refine blk_drewN ?_ _ | refine blk_drew ?_ | refine blk_alloc ?_ _)); exact BK266.out) hb); have n4_ := Aside0.mk (blk_below (g := gb268) (o := .cells #[.slice Ao42 x269000_1.length co42] 26 (0, 0)) (by (with_reducible repeat (first | refine blk_drewN ?_ _ | refine blk_drew ?_ | refine blk_alloc ?_ _)); exact BK268.out) hb); have n5_ := Aside0.mk (blk_below (g := gb280) (o := .cells #[.int .i64 t275, .int .i64 t276, .int .i64 t277, .int .i64 t278] 33 (0, 0)) (by (with_reducible repeat (first | refine blk_drewN ?_ _ | refine blk_drew ?_ | refine blk_alloc ?_ _)); exact BK280.out) hb); have n6_ := Aside0.mk (blk_below (g := gb286) (o := .cells #[.slice Ao52 t281.length co52] 26 (0, 0)) (by (with_reducible repeat (first | refine blk_drewN ?_ _ | refine blk_drew ?_ | refine blk_alloc ?_ _)); exact BK286.out) hb); have n7_ := Aside0.mk (blk_below (g := gb291) (o := .cells #[.slice Ao92 t287.length co92] 26 (0, 0)) (by (with_reducible repeat (first | refine blk_drewN ?_ _ | refine blk_drew ?_ | refine blk_alloc ?_ _)); exact BK291.out) hb); have n8_ := Aside0.mk (below_step (by repeat (first | (with_reducible first | exact HB.out | apply below_alloc | apply pw_below_drewN | apply below_drew1 | refine below_set ?_ GE266.out | refine below_set ?_ GE268.out | refine below_set ?_ GE280.out | refine below_set ?_ GE286.out | refine below_set ?_ GE291.out) | exact HB.out)) hb); have n9_ := Aside0.mk (hbox); have n10_ := Aside0.mk ((by rw [hg]; exact (below_size (by repeat (first | (with_reducible first | exact HB.out | apply below_alloc | apply pw_below_drewN | apply below_drew1 | refine below_set ?_ GE266.out | refine below_set ?_ GE268.out | refine below_set ?_ GE280.out | refine below_set ?_ GE286.out | refine below_set ?_ GE291.out) | exact HB.out))) : w.heap.size ≤ gb297)); have n11_ := Aside0.mk ((by rw [hg]; exact (below_size (by repeat (first | (with_reducible first | exact HB.out | apply below_alloc | apply pw_below_drewN | apply below_drew1 | refine below_set ?_ GE266.out | refine below_set ?_ GE268.out | refine below_set ?_ GE280.out | refine below_set ?_ GE286.out | refine below_set ?_ GE291.out) | exact HB.out))) : w.heap.size ≤ gb297)); have n12_ := Aside0.mk ((by rw [hg]; exact Nat.ne_of_lt (blk_lt (g := gb266) (o := .cells #[.int .i64 a1_0, .int .i64 a1_1, .int .i64 a1_2] 28 (0, 0)) (by (with_reducible repeat (first | refine blk_drewN ?_ _ | refine blk_drew ?_ | refine blk_alloc ?_ _)); exact BK266.out)) : gb266 ≠ gb297)); have n13_ := Aside0.mk ((by rw [hg]; exact Nat.ne_of_gt (blk_lt (g := gb266) (o := .cells #[.int .i64 a1_0, .int .i64 a1_1, .int .i64 a1_2] 28 (0, 0)) (by (with_reducible repeat (first | refine blk_drewN ?_ _ | refine blk_drew ?_ | refine blk_alloc ?_ _)); exact BK266.out)) : gb297 ≠ gb266)); have n14_ := Aside0.mk ((by rw [hg]; exact Nat.ne_of_lt (blk_lt (g := gb268) (o := .cells #[.slice Ao42 x269000_1.length co42] 26 (0, 0)) (by (with_reducible repeat (first | refine blk_drewN ?_ _ | refine blk_drew ?_ | refine blk_alloc ?_ _)); exact BK268.out)) : gb268 ≠ gb297)); have n15_ := Aside0.mk ((by rw [hg]; exact Nat.ne_of_gt (blk_lt (g := gb268) (o := .cells #[.slice Ao42 x269000_1.length co42] 26 (0, 0)) (by (with_reducible repeat (first | refine blk_drewN ?_ _ | refine blk_drew ?_ | refine blk_alloc ?_ _)); exact BK268.out)) : gb297 ≠ gb268)); have n16_ := Aside0.mk ((by rw [hg]; exact Nat.ne_of_lt (blk_lt (g := gb280) (o := .cells #[.int .i64 t275, .int .i64 t276, .int .i64 t277, .int .i64 t278] 33 (0, 0)) (by (with_reducible repeat (first | refine blk_drewN ?_ _ | refine blk_drew ?_ | refine blk_alloc ?_ _)); exact BK280.out)) : gb280 ≠ gb297)); have n17_ := Aside0.mk ((by rw [hg]; exact Nat.ne_of_gt (blk_lt (g := gb280) (o := .cells #[.int .i64 t275, .int .i64 t276, .int .i64 t277, .int .i64 t278] 33 (0, 0)) (by (with_reducible repeat (first | refine blk_drewN ?_ _ | refine blk_drew ?_ | refine blk_alloc ?_ _)); exact BK280.out)) : gb297 ≠ gb280)); have n18_ := Aside0.mk ((by rw [hg]; exact Nat.ne_of_lt (blk_lt (g := gb286) (o := .cells #[.slice Ao52 t281.length co52] 26 (0, 0)) (by (with_reducible repeat (first | refine blk_drewN ?_ _ | refine blk_drew ?_ | refine blk_alloc ?_ _)); exact BK286.out)) : gb286 ≠ gb297)); have n19_ := Aside0.mk ((by rw [hg]; exact Nat.ne_of_gt (blk_lt (g := gb286) (o := .cells #[.slice Ao52 t281.length co52] 26 (0, 0)) (by (with_reducible repeat (first | refine blk_drewN ?_ _ | refine blk_drew ?_ | refine blk_alloc ?_ _)); exact BK286.out)) : gb297 ≠ gb286)); have n20_ := Aside0.mk ((by rw [hg]; exact Nat.ne_of_lt (blk_lt (g := gb291) (o := .cells #[.slice Ao92 t287.length co92] 26 (0, 0)) (by (with_reducible repeat (first | refine blk_drewN ?_ _ | refine blk_drew ?_ | refine blk_alloc ?_ _)); exact BK291.out)) : gb291 ≠ gb297)); have n21_ := Aside0.mk ((by rw [hg]; exact Nat.ne_of_gt (blk_lt (g := gb291) (o := .cells #[.slice Ao92 t287.length co92] 26 (0, 0)) (by (with_reducible repeat (first | refine blk_drewN ?_ _ | refine blk_drew ?_ | refine blk_alloc ?_ _)); exact BK291.out)) : gb297 ≠ gb291)); clear HO_269000; clear HO_287000; clear HO289; clear BK266; clear BK268; clear BK280; clear BK286; clear BK291; clear HB; have HO_269000 := n0_; have HO_287000 := n1_; have HO289 := n2_; have BK266 := n3_; have BK268 := n4_; have BK280 := n5_; have BK286 := n6_; have BK291 := n7_; have HB := n8_; have BK297 := n9_; have GW297 := n10_; have GE297 := n11_; have NB266_297 := n12_; have NB297_266 := n13_; have NB268_297 := n14_; have NB297_268 := n15_; have NB280_297 := n16_; have NB297_280 := n17_; have NB286_297 := n18_; have NB297_286 := n19_; have NB291_297 := n20_; have NB297_291 := n21_; clear n0_ n1_ n2_ n3_ n4_ n5_ n6_ n7_ n8_ n9_ n10_ n11_ n12_ n13_ n14_ n15_ n16_ n17_ n18_ n19_ n20_ n21_; clear hb hbox hg; have hnb100 := NB297_266.out; have hnc100 := NB266_297.out; have hnb101 := NB297_268.out; have hnc101 := NB268_297.out; have hnb102 := NB297_280.out; have hnc102 := NB280_297.out; have hnb103 := NB297_286.out; have hnc103 := NB286_297.out; have hnb104 := NB297_291.out; have hnc104 := NB291_297.out; have hcz105_0 : w99.cell? ⟨gb297, 0, none⟩ = some (.int .i64 0) := (blk_cell BK297.out 0).trans rfl; have hcz105_1 : w99.cell? ⟨gb297, 1, none⟩ = some (.int .i64 0) := (blk_cell BK297.out 1).trans rfl; have hcz105_2 : w99.cell? ⟨gb297, 2, none⟩ = some (.int .i64 0) := (blk_cell BK297.out 2).trans rfl; have hcz105_3 : w99.cell? ⟨gb297, 3, none⟩ = some (.int .i64 0) := (blk_cell BK297.out 3).trans rfl; have hfz105_0 := blk_frozen BK297.out 0; have hfz105_1 := blk_frozen BK297.out 1; have hfz105_2 := blk_frozen BK297.out 2; have hfz105_3 := blk_frozen BK297.out 3; have hcz106_0 : w99.cell? ⟨gb266, 0, none⟩ = some (.int .i64 a1_0) := (blk_cell BK266.out 0).trans rfl; have hcz106_1 : w99.cell? ⟨gb266, 1, none⟩ = some (.int .i64 a1_1) := (blk_cell BK266.out 1).trans rfl; have hcz106_2 : w99.cell? ⟨gb266, 2, none⟩ = some (.int .i64 a1_2) := (blk_cell BK266.out 2).trans rfl; have hfz106_0 := blk_frozen BK266.out 0; have hfz106_1 := blk_frozen BK266.out 1; have hfz106_2 := blk_frozen BK266.out 2))
                      go_ret
                      first | (with_reducible exact (clash2 A80 A78).elim) | (with_reducible exact (clash2 A78 A80).elim) | (with_reducible exact (clash2 A80 A38).elim) | (with_reducible exact (clash2 A38 A80).elim) | (with_reducible exact (clash2 A80 A37).elim) | (with_reducible exact (clash2 A37 A80).elim) | (with_reducible exact (clash2 A80 A5).elim) | (with_reducible exact (clash2 A5 A80).elim) | (with_reducible exact (clash2 A78 A38).elim) | (with_reducible exact (clash2 A38 A78).elim) | (with_reducible exact (clash2 A78 A37).elim) | (with_reducible exact (clash2 A37 A78).elim) | (with_reducible exact (clash2 A78 A5).elim) | (with_reducible exact (clash2 A5 A78).elim) | (with_reducible exact (clash2 A38 A37).elim) | (with_reducible exact (clash2 A37 A38).elim) | (with_reducible exact (clash2 A38 A5).elim) | (with_reducible exact (clash2 A5 A38).elim) | (with_reducible exact (clash2 A37 A5).elim) | (with_reducible exact (clash2 A5 A37).elim) | exact ⟨by first | rfl | (simp [errW_none, errW_some] <;> rfl) | (simp [*, errW_none, errW_some] <;> rfl), by repeat (first | (with_reducible first | exact HB.out | apply below_alloc | apply pw_below_drewN | apply below_drew1 | refine below_set ?_ GE266.out | refine below_set ?_ GE268.out | refine below_set ?_ GE280.out | refine below_set ?_ GE286.out | refine below_set ?_ GE291.out | refine below_set ?_ GE297.out) | exact HB.out)⟩
                    · rw [if_neg c82] at H
                      have c82b0 : (a1_1 == a2) = false := beq_eq_false_iff_ne.mpr c82
                      have c82b1 : (a1_1 != a2) = true := bne_iff_ne.mpr c82
                      by_cases c107 : (t279 == t296) = true
                      · rw [if_pos c107] at H
                        have c107b0 : (t279 == t296) = true := c107
                        (try (have c107b1 : decide (t279 = t296) = true := by simpa using c107))
                        (try (have c107b2 : (t279 == t296) = true := by simpa using c107))
                        clear c107
                        obtain rfl := Option.some.inj H
                        have hnb108 := NB268_266.out
                        have hnc108 := NB266_268.out
                        have hnb109 := NB268_280.out
                        have hnc109 := NB280_268.out
                        have hnb110 := NB268_286.out
                        have hnc110 := NB286_268.out
                        have hcz111_0 : wc.cell? ⟨gb268, 0, none⟩ = some (.slice Ao42 x269000_1.length co42) := (blk_cell BK268.out 0).trans rfl
                        have hfz111_0 := blk_frozen BK268.out 0
                        have hnb112 := NB266_280.out
                        have hnc112 := NB280_266.out
                        have hnb113 := NB266_286.out
                        have hnc113 := NB286_266.out
                        have hcz114_0 : wc.cell? ⟨gb266, 0, none⟩ = some (.int .i64 a1_0) := (blk_cell BK266.out 0).trans rfl
                        have hcz114_1 : wc.cell? ⟨gb266, 1, none⟩ = some (.int .i64 a1_1) := (blk_cell BK266.out 1).trans rfl
                        have hcz114_2 : wc.cell? ⟨gb266, 2, none⟩ = some (.int .i64 a1_2) := (blk_cell BK266.out 2).trans rfl
                        have hfz114_0 := blk_frozen BK266.out 0
                        have hfz114_1 := blk_frozen BK266.out 1
                        have hfz114_2 := blk_frozen BK266.out 2
                        go_wp2_with (first | ((with_reducible refine gate_callee (f := 8) rfl ?_); refine goesL_ (some 90) rfl rfl Try.func8 (by kernel_rfl) rfl #[.agg #[.slice Ao42 x269000_1.length co42], .agg #[.int .i64 a1_0, .int .i64 a1_1, .int .i64 a1_2], .int .i64 500] rfl (by (try simp only [List.map_toArray, List.map_cons, List.map_nil]); first | done | rfl | (simp only [List.length_drop, List.length_take]; rfl)) ?_; (with_reducible refine (godwitlaw12_did.calls kj38 (fun k_ => (k_ ≠ gb266 ∧ (k_ ≠ gb268 ∧ (k_ ≠ gb280 ∧ k_ ≠ gb286)))) _ _ x269000_1 a1_0 a1_1 a1_2 500 t287 t290 _ ?side1 A78.out).mono ?_); (case side1 => exact HO_269000.out); rintro e w115 ⟨v288, rfl, ho0, hb⟩; refine ⟨_, rfl, ?_⟩; have n0_ := Aside0.mk (Kd.V_below (by (with_reducible repeat (first | apply Kd.V_alloc | apply Kd.V_drewN | apply Kd.V_drew)); exact HO_269000.out) hb); have n1_ := Aside0.mk (Kd.V_below (by (with_reducible repeat (first | apply Kd.V_alloc | apply Kd.V_drewN | apply Kd.V_drew)); exact HO_287000.out) hb); have n2_ := Aside0.mk (Kd.V_lower (Kd.V_mono (ok' := fun k_ => k_ ≠ gb266 ∧ k_ ≠ gb268 ∧ k_ ≠ gb280 ∧ k_ ≠ gb286) ho0 (fun k_ hk_ => ⟨Or.elim hk_ (fun hs_ => hs_.1) (fun hn_ => (Kd.freshB (g := gb266) (o := .cells #[.int .i64 a1_0, .int .i64 a1_1, .int .i64 a1_2] 28 (0, 0)) (by (with_reducible repeat (first | refine blk_drewN ?_ _ | refine blk_drew ?_ | refine blk_alloc ?_ _)); exact BK266.out) k_ hn_)), Or.elim hk_ (fun hs_ => hs_.2.1) (fun hn_ => (Kd.freshB (g := gb268) (o := .cells #[.slice Ao42 x269000_1.length co42] 26 (0, 0)) (by (with_reducible repeat (first | refine blk_drewN ?_ _ | refine blk_drew ?_ | refine blk_alloc ?_ _)); exact BK268.out) k_ hn_)), Or.elim hk_ (fun hs_ => hs_.2.2.1) (fun hn_ => (Kd.freshB (g := gb280) (o := .cells #[.int .i64 t275, .int .i64 t276, .int .i64 t277, .int .i64 t278] 33 (0, 0)) (by (with_reducible repeat (first | refine blk_drewN ?_ _ | refine blk_drew ?_ | refine blk_alloc ?_ _)); exact BK280.out) k_ hn_)), Or.elim hk_ (fun hs_ => hs_.2.2.2) (fun hn_ => (Kd.freshB (g := gb286) (o := .cells #[.slice Ao52 t281.length co52] 26 (0, 0)) (by (with_reducible repeat (first | refine blk_drewN ?_ _ | refine blk_drew ?_ | refine blk_alloc ?_ _)); exact BK286.out) k_ hn_))⟩)) (below_size (by repeat (first | (with_reducible first | exact HB.out | apply below_alloc | apply pw_below_drewN | apply below_drew1 | refine below_set ?_ GE266.out | refine below_set ?_ GE268.out | refine below_set ?_ GE280.out | refine below_set ?_ GE286.out) | exact HB.out)))); have n3_ := Aside0.mk (blk_below (g := gb266) (o := .cells #[.int .i64 a1_0, .int .i64 a1_1, .int .i64 a1_2] 28 (0, 0)) (by (with_reducible repeat (first | refine blk_drewN ?_ _ | refine blk_drew ?_ | refine blk_alloc ?_ _)); exact BK266.out) hb); have n4_ := Aside0.mk (blk_below (g := gb268) (o := .cells #[.slice Ao42 x269000_1.length co42] 26 (0, 0)) (by (with_reducible repeat (first | refine blk_drewN ?_ _ | refine blk_drew ?_ | refine blk_alloc ?_ _)); exact BK268.out) hb); have n5_ := Aside0.mk (blk_below (g := gb280) (o := .cells #[.int .i64 t275, .int .i64 t276, .int .i64 t277, .int .i64 t278] 33 (0, 0)) (by (with_reducible repeat (first | refine blk_drewN ?_ _ | refine blk_drew ?_ | refine blk_alloc ?_ _)); exact BK280.out) hb); have n6_ := Aside0.mk (blk_below (g := gb286) (o := .cells #[.slice Ao52 t281.length co52] 26 (0, 0)) (by (with_reducible repeat (first | refine blk_drewN ?_ _ | refine blk_drew ?_ | refine blk_alloc ?_ _)); exact BK286.out) hb); have n7_ := Aside0.mk (below_step (by repeat (first | (with_reducible first | exact HB.out | apply below_alloc | apply pw_below_drewN | apply below_drew1 | refine below_set ?_ GE266.out | refine below_set ?_ GE268.out | refine below_set ?_ GE280.out | refine below_set ?_ GE286.out) | exact HB.out)) hb); clear HO_269000; clear HO_287000; clear BK266; clear BK268; clear BK280; clear BK286; clear HB; have HO_269000 := n0_; have HO_287000 := n1_; have HO289 := n2_; have BK266 := n3_; have BK268 := n4_; have BK280 := n5_; have BK286 := n6_; have HB := n7_; clear n0_ n1_ n2_ n3_ n4_ n5_ n6_ n7_; (try clear hb); (try clear hb2); (try clear hk); (try clear hi); (try clear ho0)) | ((with_reducible refine gate_dst (N := 19) rfl ?_); refine box_event ?hg (N := 19) ?hd (cs := #[.slice none 0 0]) (t := 26) ?hr ?_; (case hd => rfl); (case hg => rfl); (case hr => first | (go_simp; done) | (go_simp; rfl)); intro gb291 hg w116 hbox hb; have n0_ := Aside0.mk (Kd.V_below (Kd.V_elderB (by (with_reducible repeat (first | apply Kd.V_alloc | apply Kd.V_drewN | apply Kd.V_drew)); exact HO_269000.out) gb291 (Nat.le_of_eq hg.symm)) hb); have n1_ := Aside0.mk (Kd.V_below (Kd.V_elderB (by (with_reducible repeat (first | apply Kd.V_alloc | apply Kd.V_drewN | apply Kd.V_drew)); exact HO_287000.out) gb291 (Nat.le_of_eq hg.symm)) hb); have n2_ := Aside0.mk (Kd.V_below (Kd.V_elderB (by (with_reducible repeat (first | apply Kd.V_alloc | apply Kd.V_drewN | apply Kd.V_drew)); exact HO289.out) gb291 (Nat.le_of_eq hg.symm)) hb); have n3_ := Aside0.mk (blk_below (g := gb266) (o := .cells #[.int .i64 a1_0, .int .i64 a1_1, .int .i64 a1_2] 28 (0, 0)) (by (with_reducible repeat (first | refine blk_drewN ?_ _ | refine blk_drew ?_ | refine blk_alloc ?_ _)); exact BK266.out) hb); have n4_ := Aside0.mk (blk_below (g := gb268) (o := .cells #[.slice Ao42 x269000_1.length co42] 26 (0, 0)) (by (with_reducible repeat (first | refine blk_drewN ?_ _ | refine blk_drew ?_ | refine blk_alloc ?_ _)); exact BK268.out) hb); have n5_ := Aside0.mk (blk_below (g := gb280) (o := .cells #[.int .i64 t275, .int .i64 t276, .int .i64 t277, .int .i64 t278] 33 (0, 0)) (by (with_reducible repeat (first | refine blk_drewN ?_ _ | refine blk_drew ?_ | refine blk_alloc ?_ _)); exact BK280.out) hb); have n6_ := Aside0.mk (blk_below (g := gb286) (o := .cells #[.slice Ao52 t281.length co52] 26 (0, 0)) (by (with_reducible repeat (first | refine blk_drewN ?_ _ | refine blk_drew ?_ | refine blk_alloc ?_ _)); exact BK286.out) hb); have n7_ := Aside0.mk (below_step (by repeat (first | (with_reducible first | exact HB.out | apply below_alloc | apply pw_below_drewN | apply below_drew1 | refine below_set ?_ GE266.out | refine below_set ?_ GE268.out | refine below_set ?_ GE280.out | refine below_set ?_ GE286.out) | exact HB.out)) hb); have n8_ := Aside0.mk (hbox); have n9_ := Aside0.mk ((by rw [hg]; exact (below_size (by repeat (first | (with_reducible first | exact HB.out | apply below_alloc | apply pw_below_drewN | apply below_drew1 | refine below_set ?_ GE266.out | refine below_set ?_ GE268.out | refine below_set ?_ GE280.out | refine below_set ?_ GE286.out) | exact HB.out))) : w.heap.size ≤ gb291)); have n10_ := Aside0.mk ((by rw [hg]; exact (below_size (by repeat (first | (with_reducible first | exact HB.out | apply below_alloc | apply pw_below_drewN | apply below_drew1 | refine below_set ?_ GE266.out | refine below_set ?_ GE268.out | refine below_set ?_ GE280.out | refine below_set ?_ GE286.out) | exact HB.out))) : w.heap.size ≤ gb291)); have n11_ := Aside0.mk ((by rw [hg]; exact Nat.ne_of_lt (blk_lt (g := gb266) (o := .cells #[.int .i64 a1_0, .int .i64 a1_1, .int .i64 a1_2] 28 (0, 0)) (by (with_reducible repeat (first | refine blk_drewN ?_ _ | refine blk_drew ?_ | refine blk_alloc ?_ _)); exact BK266.out)) : gb266 ≠ gb291)); have n12_ := Aside0.mk ((by rw [hg]; exact Nat.ne_of_gt (blk_lt (g := gb266) (o := .cells #[.int .i64 a1_0, .int .i64 a1_1, .int .i64 a1_2] 28 (0, 0)) (by (with_reducible repeat (first | refine blk_drewN ?_ _ | refine blk_drew ?_ | refine blk_alloc ?_ _)); exact BK266.out)) : gb291 ≠ gb266)); have n13_ := Aside0.mk ((by rw [hg]; exact Nat.ne_of_lt (blk_lt (g := gb268) (o := .cells #[.slice Ao42 x269000_1.length co42] 26 (0, 0)) (by (with_reducible repeat (first | refine blk_drewN ?_ _ | refine blk_drew ?_ | refine blk_alloc ?_ _)); exact BK268.out)) : gb268 ≠ gb291)); have n14_ := Aside0.mk ((by rw [hg]; exact Nat.ne_of_gt (blk_lt (g := gb268) (o := .cells #[.slice Ao42 x269000_1.length co42] 26 (0, 0)) (by (with_reducible repeat (first | refine blk_drewN ?_ _ | refine blk_drew ?_ | refine blk_alloc ?_ _)); exact BK268.out)) : gb291 ≠ gb268)); have n15_ := Aside0.mk ((by rw [hg]; exact Nat.ne_of_lt (blk_lt (g := gb280) (o := .cells #[.int .i64 t275, .int .i64 t276, .int .i64 t277, .int .i64 t278] 33 (0, 0)) (by (with_reducible repeat (first | refine blk_drewN ?_ _ | refine blk_drew ?_ | refine blk_alloc ?_ _)); exact BK280.out)) : gb280 ≠ gb291)); have n16_ := Aside0.mk ((by rw [hg]; exact Nat.ne_of_gt (blk_lt (g := gb280) (o := .cells #[.int .i64 t275, .int .i64 t276, .int .i64 t277, .int .i64 t278] 33 (0, 0)) (by (with_reducible repeat (first | refine blk_drewN ?_ _ | refine blk_drew ?_ | refine blk_alloc ?_ _)); exact BK280.out)) : gb291 ≠ gb280)); have n17_ := Aside0.mk ((by rw [hg]; exact Nat.ne_of_lt (blk_lt (g := gb286) (o := .cells #[.slice Ao52 t281.length co52] 26 (0, 0)) (by (with_reducible repeat (first | refine blk_drewN ?_ _ | refine blk_drew ?_ | refine blk_alloc ?_ _)); exact BK286.out)) : gb286 ≠ gb291)); have n18_ := Aside0.mk ((by rw [hg]; exact Nat.ne_of_gt (blk_lt (g := gb286) (o := .cells #[.slice Ao52 t281.length co52] 26 (0, 0)) (by (with_reducible repeat (first | refine blk_drewN ?_ _ | refine blk_drew ?_ | refine blk_alloc ?_ _)); exact BK286.out)) : gb291 ≠ gb286)); clear HO_269000; clear HO_287000; clear HO289; clear BK266; clear BK268; clear BK280; clear BK286; clear HB; have HO_269000 := n0_; have HO_287000 := n1_; have HO289 := n2_; have BK266 := n3_; have BK268 := n4_; have BK280 := n5_; have BK286 := n6_; have HB := n7_; have BK291 := n8_; have GW291 := n9_; have GE291 := n10_; have NB266_291 := n11_; have NB291_266 := n12_; have NB268_291 := n13_; have NB291_268 := n14_; have NB280_291 := n15_; have NB291_280 := n16_; have NB286_291 := n17_; have NB291_286 := n18_; clear n0_ n1_ n2_ n3_ n4_ n5_ n6_ n7_ n8_ n9_ n10_ n11_ n12_ n13_ n14_ n15_ n16_ n17_ n18_; clear hb hbox hg; obtain ⟨Ao117, co117, eo117⟩ := Kd.V_slice HO289.out; subst eo117; have hnb118 := NB291_266.out; have hnc118 := NB266_291.out; have hnb119 := NB291_268.out; have hnc119 := NB268_291.out; have hnb120 := NB291_280.out; have hnc120 := NB280_291.out; have hnb121 := NB291_286.out; have hnc121 := NB286_291.out; have hcz122_0 : w116.cell? ⟨gb291, 0, none⟩ = some (.slice none 0 0) := (blk_cell BK291.out 0).trans rfl; have hfz122_0 := blk_frozen BK291.out 0) | ((with_reducible refine gate_callee (f := 9) rfl ?_); refine goesL_ (some 99) rfl rfl Try.func9 (by kernel_rfl) rfl #[.agg #[.slice Ao117 t287.length co117], .int .i64 a2] rfl (by (try simp only [List.map_toArray, List.map_cons, List.map_nil]); first | done | rfl | (simp only [List.length_drop, List.length_take]; rfl)) ?_; (with_reducible refine (tokens_Find.calls _ _ t287 a2 t292 t293 t294 t295 t296 _ ?side1 ?side2 A80.out).mono ?_); (case side1 => refine (Kd.V_reads' (e := 33) (base := w.heap.size) (ok := fun k_ => ((k_ ≠ gb266 ∧ (k_ ≠ gb268 ∧ (k_ ≠ gb280 ∧ k_ ≠ gb286))) ∧ k_ ≠ gb291)) (n := t287.length) (c := co117) ?_).2.2; exact (by (with_reducible repeat (first | apply Kd.V_alloc | apply Kd.V_drewN | apply Kd.V_drew)); exact (Kd.V_mono (Kd.V_far (p := ⟨gb291, 0, none⟩) (Kd.V_mono HO289.out (fun k_ hk => (⟨hk, hk.2⟩ : _ ∧ k_ ≠ gb291))) (fun _ hk => hk.2) (.slice Ao117 t287.length co117)) (fun _ h_ => h_.1)))); (case side2 => exact (Kd.V_reads' HO289.out).2.1); rintro e w123 ⟨rfl, hb⟩; refine ⟨_, rfl, ?_⟩; have n0_ := Aside0.mk (Kd.V_below (by (with_reducible repeat (first | apply Kd.V_alloc | apply Kd.V_drewN | apply Kd.V_drew)); exact (Kd.V_mono (Kd.V_far (p := ⟨gb291, 0, none⟩) (Kd.V_mono HO_269000.out (fun k_ hk => (⟨hk, hk.2⟩ : _ ∧ k_ ≠ gb291))) (fun _ hk => hk.2) (.slice Ao117 t287.length co117)) (fun _ h_ => h_.1))) hb); have n1_ := Aside0.mk (Kd.V_below (by (with_reducible repeat (first | apply Kd.V_alloc | apply Kd.V_drewN | apply Kd.V_drew)); exact (Kd.V_mono (Kd.V_far (p := ⟨gb291, 0, none⟩) (Kd.V_mono HO_287000.out (fun k_ hk => (⟨hk, hk.2⟩ : _ ∧ k_ ≠ gb291))) (fun _ hk => hk.2) (.slice Ao117 t287.length co117)) (fun _ h_ => h_.1))) hb); have n2_ := Aside0.mk (Kd.V_below (by (with_reducible repeat (first | apply Kd.V_alloc | apply Kd.V_drewN | apply Kd.V_drew)); exact (Kd.V_mono (Kd.V_far (p := ⟨gb291, 0, none⟩) (Kd.V_mono HO289.out (fun k_ hk => (⟨hk, hk.2⟩ : _ ∧ k_ ≠ gb291))) (fun _ hk => hk.2) (.slice Ao117 t287.length co117)) (fun _ h_ => h_.1))) hb); have n3_ := Aside0.mk (blk_below (g := gb266) (o := .cells #[.int .i64 a1_0, .int .i64 a1_1, .int .i64 a1_2] 28 (0, 0)) (by (with_reducible repeat (first | refine blk_drewN ?_ _ | refine blk_drew ?_ | refine blk_alloc ?_ _)); refine blk_far ?_ NB266_291.out _; (with_reducible repeat (first | refine blk_drewN ?_ _ | refine blk_drew ?_ | refine blk_alloc ?_ _)); exact BK266.out) hb); have n4_ := Aside0.mk (blk_below (g := gb268) (o := .cells #[.slice Ao42 x269000_1.length co42] 26 (0, 0)) (by (with_reducible repeat (first | refine blk_drewN ?_ _ | refine blk_drew ?_ | refine blk_alloc ?_ _)); refine blk_far ?_ NB268_291.out _; (with_reducible repeat (first | refine blk_drewN ?_ _ | refine blk_drew ?_ | refine blk_alloc ?_ _)); exact BK268.out) hb); have n5_ := Aside0.mk (blk_below (g := gb280) (o := .cells #[.int .i64 t275, .int .i64 t276, .int .i64 t277, .int .i64 t278] 33 (0, 0)) (by (with_reducible repeat (first | refine blk_drewN ?_ _ | refine blk_drew ?_ | refine blk_alloc ?_ _)); refine blk_far ?_ NB280_291.out _; (with_reducible repeat (first | refine blk_drewN ?_ _ | refine blk_drew ?_ | refine blk_alloc ?_ _)); exact BK280.out) hb); have n6_ := Aside0.mk (blk_below (g := gb286) (o := .cells #[.slice Ao52 t281.length co52] 26 (0, 0)) (by (with_reducible repeat (first | refine blk_drewN ?_ _ | refine blk_drew ?_ | refine blk_alloc ?_ _)); refine blk_far ?_ NB286_291.out _; (with_reducible repeat (first | refine blk_drewN ?_ _ | refine blk_drew ?_ | refine blk_alloc ?_ _)); exact BK286.out) hb); have n7_ := Aside0.mk (blk_below (g := gb291) (o := .cells #[.slice Ao117 t287.length co117] 26 (0, 0)) (by (with_reducible repeat (first | refine blk_drewN ?_ _ | refine blk_drew ?_ | refine blk_alloc ?_ _)); refine blk_put (cs := #[.slice none 0 0]) ?_ 0 _ rfl; (with_reducible repeat (first | refine blk_drewN ?_ _ | refine blk_drew ?_ | refine blk_alloc ?_ _)); exact BK291.out) hb); have n8_ := Aside0.mk (below_step (by repeat (first | (with_reducible first | exact HB.out | apply below_alloc | apply pw_below_drewN | apply below_drew1 | refine below_set ?_ GE266.out | refine below_set ?_ GE268.out | refine below_set ?_ GE280.out | refine below_set ?_ GE286.out | refine below_set ?_ GE291.out) | exact HB.out)) hb); clear HO_269000; clear HO_287000; clear HO289; clear BK266; clear BK268; clear BK280; clear BK286; clear BK291; clear HB; have HO_269000 := n0_; have HO_287000 := n1_; have HO289 := n2_; have BK266 := n3_; have BK268 := n4_; have BK280 := n5_; have BK286 := n6_; have BK291 := n7_; have HB := n8_; clear n0_ n1_ n2_ n3_ n4_ n5_ n6_ n7_ n8_; (try clear hb); (try clear hb2); (try clear hk); (try clear hi)) | ((with_reducible refine gate_dst (N := 21) rfl ?_); refine box_event ?hg (N := 21) ?hd (cs := #[.int .i64 0, .int .i64 0, .int .i64 0, .int .i64 0]) (t := 33) ?hr ?_; (case hd => rfl); (case hg => rfl); (case hr => first | (go_simp; done) | (go_simp; rfl)); intro gb297 hg w124 hbox hb; have n0_ := Aside0.mk (Kd.V_below (Kd.V_elderB (by (with_reducible repeat (first | apply Kd.V_alloc | apply Kd.V_drewN | apply Kd.V_drew)); exact HO_269000.out) gb297 (Nat.le_of_eq hg.symm)) hb); have n1_ := Aside0.mk (Kd.V_below (Kd.V_elderB (by (with_reducible repeat (first | apply Kd.V_alloc | apply Kd.V_drewN | apply Kd.V_drew)); exact HO_287000.out) gb297 (Nat.le_of_eq hg.symm)) hb); have n2_ := Aside0.mk (Kd.V_below (Kd.V_elderB (by (with_reducible repeat (first | apply Kd.V_alloc | apply Kd.V_drewN | apply Kd.V_drew)); exact HO289.out) gb297 (Nat.le_of_eq hg.symm)) hb); have n3_ := Aside0.mk (blk_below (g := gb266) (o := .cells #[.int .i64 a1_0, .int .i64 a1_1, .int .i64 a1_2] 28 (0, 0)) (by (with_reducible repeat (first | refine blk_drewN ?_ _ | refine blk_drew ?_ | refine blk_alloc ?_ _)); exact BK266.out) hb); have n4_ := Aside0.mk (blk_below (g := gb268) (o := .cells #[.slice Ao42 x269000_1.length co42] 26 (0, 0)) (by (with_reducible repeat (first | refine blk_drewN ?_ _ | refine blk_drew ?_ | refine blk_alloc ?_ _)); exact BK268.out) hb); have n5_ := Aside0.mk (blk_below (g := gb280) (o := .cells #[.int .i64 t275, .int .i64 t276, .int .i64 t277, .int .i64 t278] 33 (0, 0)) (by (with_reducible repeat (first | refine blk_drewN ?_ _ | refine blk_drew ?_ | refine blk_alloc ?_ _)); exact BK280.out) hb); have n6_ := Aside0.mk (blk_below (g := gb286) (o := .cells #[.slice Ao52 t281.length co52] 26 (0, 0)) (by (with_reducible repeat (first | refine blk_drewN ?_ _ | refine blk_drew ?_ | refine blk_alloc ?_ _)); exact BK286.out) hb); have n7_ := Aside0.mk (blk_below (g := gb291) (o := .cells #[.slice Ao117 t287.length co117] 26 (0, 0)) (by (with_reducible repeat (first | refine blk_drewN ?_ _ | refine blk_drew ?_ | refine blk_alloc ?_ _)); exact BK291.out) hb); have n8_ := Aside0.mk (below_step (by repeat (first | (with_reducible first | exact HB.out | apply below_alloc | apply pw_below_drewN | apply below_drew1 | refine below_set ?_ GE266.out | refine below_set ?_ GE268.out | refine below_set ?_ GE280.out | refine below_set ?_ GE286.out | refine below_set ?_ GE291.out) | exact HB.out)) hb); have n9_ := Aside0.mk (hbox); have n10_ := Aside0.mk ((by rw [hg]; exact (below_size (by repeat (first | (with_reducible first | exact HB.out | apply below_alloc | apply pw_below_drewN | apply below_drew1 | refine below_set ?_ GE266.out | refine below_set ?_ GE268.out | refine below_set ?_ GE280.out | refine below_set ?_ GE286.out | refine below_set ?_ GE291.out) | exact HB.out))) : w.heap.size ≤ gb297)); have n11_ := Aside0.mk ((by rw [hg]; exact (below_size (by repeat (first | (with_reducible first | exact HB.out | apply below_alloc | apply pw_below_drewN | apply below_drew1 | refine below_set ?_ GE266.out | refine below_set ?_ GE268.out | refine below_set ?_ GE280.out | refine below_set ?_ GE286.out | refine below_set ?_ GE291.out) | exact HB.out))) : w.heap.size ≤ gb297)); have n12_ := Aside0.mk ((by rw [hg]; exact Nat.ne_of_lt (blk_lt (g := gb266) (o := .cells #[.int .i64 a1_0, .int .i64 a1_1, .int .i64 a1_2] 28 (0, 0)) (by (with_reducible repeat (first | refine blk_drewN ?_ _ | refine blk_drew ?_ | refine blk_alloc ?_ _)); exact BK266.out)) : gb266 ≠ gb297)); have n13_ := Aside0.mk ((by rw [hg]; exact Nat.ne_of_gt (blk_lt (g := gb266) (o := .cells #[.int .i64 a1_0, .int .i64 a1_1, .int .i64 a1_2] 28 (0, 0)) (by (with_reducible repeat (first | refine blk_drewN ?_ _ | refine blk_drew ?_ | refine blk_alloc ?_ _)); exact BK266.out)) : gb297 ≠ gb266)); have n14_ := Aside0.mk ((by rw [hg]; exact Nat.ne_of_lt (blk_lt (g := gb268) (o := .cells #[.slice Ao42 x269000_1.length co42] 26 (0, 0)) (by (with_reducible repeat (first | refine blk_drewN ?_ _ | refine blk_drew ?_ | refine blk_alloc ?_ _)); exact BK268.out)) : gb268 ≠ gb297)); have n15_ := Aside0.mk ((by rw [hg]; exact Nat.ne_of_gt (blk_lt (g := gb268) (o := .cells #[.slice Ao42 x269000_1.length co42] 26 (0, 0)) (by (with_reducible repeat (first | refine blk_drewN ?_ _ | refine blk_drew ?_ | refine blk_alloc ?_ _)); exact BK268.out)) : gb297 ≠ gb268)); have n16_ := Aside0.mk ((by rw [hg]; exact Nat.ne_of_lt (blk_lt (g := gb280) (o := .cells #[.int .i64 t275, .int .i64 t276, .int .i64 t277, .int .i64 t278] 33 (0, 0)) (by (with_reducible repeat (first | refine blk_drewN ?_ _ | refine blk_drew ?_ | refine blk_alloc ?_ _)); exact BK280.out)) : gb280 ≠ gb297)); have n17_ := Aside0.mk ((by rw [hg]; exact Nat.ne_of_gt (blk_lt (g := gb280) (o := .cells #[.int .i64 t275, .int .i64 t276, .int .i64 t277, .int .i64 t278] 33 (0, 0)) (by (with_reducible repeat (first | refine blk_drewN ?_ _ | refine blk_drew ?_ | refine blk_alloc ?_ _)); exact BK280.out)) : gb297 ≠ gb280)); have n18_ := Aside0.mk ((by rw [hg]; exact Nat.ne_of_lt (blk_lt (g := gb286) (o := .cells #[.slice Ao52 t281.length co52] 26 (0, 0)) (by (with_reducible repeat (first | refine blk_drewN ?_ _ | refine blk_drew ?_ | refine blk_alloc ?_ _)); exact BK286.out)) : gb286 ≠ gb297)); have n19_ := Aside0.mk ((by rw [hg]; exact Nat.ne_of_gt (blk_lt (g := gb286) (o := .cells #[.slice Ao52 t281.length co52] 26 (0, 0)) (by (with_reducible repeat (first | refine blk_drewN ?_ _ | refine blk_drew ?_ | refine blk_alloc ?_ _)); exact BK286.out)) : gb297 ≠ gb286)); have n20_ := Aside0.mk ((by rw [hg]; exact Nat.ne_of_lt (blk_lt (g := gb291) (o := .cells #[.slice Ao117 t287.length co117] 26 (0, 0)) (by (with_reducible repeat (first | refine blk_drewN ?_ _ | refine blk_drew ?_ | refine blk_alloc ?_ _)); exact BK291.out)) : gb291 ≠ gb297)); have n21_ := Aside0.mk ((by rw [hg]; exact Nat.ne_of_gt (blk_lt (g := gb291) (o := .cells #[.slice Ao117 t287.length co117] 26 (0, 0)) (by (with_reducible repeat (first | refine blk_drewN ?_ _ | refine blk_drew ?_ | refine blk_alloc ?_ _)); exact BK291.out)) : gb297 ≠ gb291)); clear HO_269000; clear HO_287000; clear HO289; clear BK266; clear BK268; clear BK280; clear BK286; clear BK291; clear HB; have HO_269000 := n0_; have HO_287000 := n1_; have HO289 := n2_; have BK266 := n3_; have BK268 := n4_; have BK280 := n5_; have BK286 := n6_; have BK291 := n7_; have HB := n8_; have BK297 := n9_; have GW297 := n10_; have GE297 := n11_; have NB266_297 := n12_; have NB297_266 := n13_; have NB268_297 := n14_; have NB297_268 := n15_; have NB280_297 := n16_; have NB297_280 := n17_; have NB286_297 := n18_; have NB297_286 := n19_; have NB291_297 := n20_; have NB297_291 := n21_; clear n0_ n1_ n2_ n3_ n4_ n5_ n6_ n7_ n8_ n9_ n10_ n11_ n12_ n13_ n14_ n15_ n16_ n17_ n18_ n19_ n20_ n21_; clear hb hbox hg; have hnb125 := NB297_266.out; have hnc125 := NB266_297.out; have hnb126 := NB297_268.out; have hnc126 := NB268_297.out; have hnb127 := NB297_280.out; have hnc127 := NB280_297.out; have hnb128 := NB297_286.out; have hnc128 := NB286_297.out; have hnb129 := NB297_291.out; have hnc129 := NB291_297.out; have hcz130_0 : w124.cell? ⟨gb297, 0, none⟩ = some (.int .i64 0) := (blk_cell BK297.out 0).trans rfl; have hcz130_1 : w124.cell? ⟨gb297, 1, none⟩ = some (.int .i64 0) := (blk_cell BK297.out 1).trans rfl; have hcz130_2 : w124.cell? ⟨gb297, 2, none⟩ = some (.int .i64 0) := (blk_cell BK297.out 2).trans rfl; have hcz130_3 : w124.cell? ⟨gb297, 3, none⟩ = some (.int .i64 0) := (blk_cell BK297.out 3).trans rfl; have hfz130_0 := blk_frozen BK297.out 0; have hfz130_1 := blk_frozen BK297.out 1; have hfz130_2 := blk_frozen BK297.out 2; have hfz130_3 := blk_frozen BK297.out 3; have hcz131_0 : w124.cell? ⟨gb266, 0, none⟩ = some (.int .i64 a1_0) := (blk_cell BK266.out 0).trans rfl; have hcz131_1 : w124.cell? ⟨gb266, 1, none⟩ = some (.int .i64 a1_1) := (blk_cell BK266.out 1).trans rfl; have hcz131_2 : w124.cell? ⟨gb266, 2, none⟩ = some (.int .i64 a1_2) := (blk_cell BK266.out 2).trans rfl; have hfz131_0 := blk_frozen BK266.out 0; have hfz131_1 := blk_frozen BK266.out 1; have hfz131_2 := blk_frozen BK266.out 2; have hnb132 := NB280_286.out; have hnc132 := NB286_280.out; have hcz133_0 : w124.cell? ⟨gb280, 0, none⟩ = some (.int .i64 t275) := (blk_cell BK280.out 0).trans rfl; have hcz133_1 : w124.cell? ⟨gb280, 1, none⟩ = some (.int .i64 t276) := (blk_cell BK280.out 1).trans rfl; have hcz133_2 : w124.cell? ⟨gb280, 2, none⟩ = some (.int .i64 t277) := (blk_cell BK280.out 2).trans rfl; have hcz133_3 : w124.cell? ⟨gb280, 3, none⟩ = some (.int .i64 t278) := (blk_cell BK280.out 3).trans rfl; have hfz133_0 := blk_frozen BK280.out 0; have hfz133_1 := blk_frozen BK280.out 1; have hfz133_2 := blk_frozen BK280.out 2; have hfz133_3 := blk_frozen BK280.out 3))
                        go_ret
                        first | (with_reducible exact (clash2 A80 A78).elim) | (with_reducible exact (clash2 A78 A80).elim) | (with_reducible exact (clash2 A80 A38).elim) | (with_reducible exact (clash2 A38 A80).elim) | (with_reducible exact (clash2 A80 A37).elim) | (with_reducible exact (clash2 A37 A80).elim) | (with_reducible exact (clash2 A80 A5).elim) | (with_reducible exact (clash2 A5 A80).elim) | (with_reducible exact (clash2 A78 A38).elim) | (with_reducible exact (clash2 A38 A78).elim) | (with_reducible exact (clash2 A78 A37).elim) | (with_reducible exact (clash2 A37 A78).elim) | (with_reducible exact (clash2 A78 A5).elim) | (with_reducible exact (clash2 A5 A78).elim) | (with_reducible exact (clash2 A38 A37).elim) | (with_reducible exact (clash2 A37 A38).elim) | (with_reducible exact (clash2 A38 A5).elim) | (with_reducible exact (clash2 A5 A38).elim) | (with_reducible exact (clash2 A37 A5).elim) | (with_reducible exact (clash2 A5 A37).elim) | exact ⟨by first | rfl | (simp [errW_none, errW_some] <;> rfl) | (simp [*, errW_none, errW_some] <;> rfl), by repeat (first | (with_reducible first | exact HB.out | apply below_alloc | apply pw_below_drewN | apply below_drew1 | refine below_set ?_ GE266.out | refine below_set ?_ GE268.out | refine below_set ?_ GE280.out | refine below_set ?_ GE286.out | refine below_set ?_ GE291.out | refine below_set ?_ GE297.out) | exact HB.out)⟩
                      · rw [if_neg c107] at H
                        exact absurd H (by simp)
                  · replace c81 := Bool.eq_false_iff.mpr c81
                    subst c81
                    have H1 : (none) = some r := by rw [if_neg (show ¬ (false = true) by decide)] at H; exact H
                    clear H
                    have H := H1
                    clear H1
                    exact absurd H (by simp)
                · rw [if_neg c79] at H
                  have c79b0 : (t290 == 0) = false := beq_eq_false_iff_ne.mpr c79
                  have c79b1 : (t290 != 0) = true := bne_iff_ne.mpr c79
                  obtain rfl := Option.some.inj H
                  have hnb134 := NB268_266.out
                  have hnc134 := NB266_268.out
                  have hnb135 := NB268_280.out
                  have hnc135 := NB280_268.out
                  have hnb136 := NB268_286.out
                  have hnc136 := NB286_268.out
                  have hcz137_0 : wc.cell? ⟨gb268, 0, none⟩ = some (.slice Ao42 x269000_1.length co42) := (blk_cell BK268.out 0).trans rfl
                  have hfz137_0 := blk_frozen BK268.out 0
                  have hnb138 := NB266_280.out
                  have hnc138 := NB280_266.out
                  have hnb139 := NB266_286.out
                  have hnc139 := NB286_266.out
                  have hcz140_0 : wc.cell? ⟨gb266, 0, none⟩ = some (.int .i64 a1_0) := (blk_cell BK266.out 0).trans rfl
                  have hcz140_1 : wc.cell? ⟨gb266, 1, none⟩ = some (.int .i64 a1_1) := (blk_cell BK266.out 1).trans rfl
                  have hcz140_2 : wc.cell? ⟨gb266, 2, none⟩ = some (.int .i64 a1_2) := (blk_cell BK266.out 2).trans rfl
                  have hfz140_0 := blk_frozen BK266.out 0
                  have hfz140_1 := blk_frozen BK266.out 1
                  have hfz140_2 := blk_frozen BK266.out 2
                  go_wp2_with (first | ((with_reducible refine gate_callee (f := 8) rfl ?_); refine goesL_ (some 90) rfl rfl Try.func8 (by kernel_rfl) rfl #[.agg #[.slice Ao42 x269000_1.length co42], .agg #[.int .i64 a1_0, .int .i64 a1_1, .int .i64 a1_2], .int .i64 500] rfl (by (try simp only [List.map_toArray, List.map_cons, List.map_nil]); first | done | rfl | (simp only [List.length_drop, List.length_take]; rfl)) ?_; (with_reducible refine (godwitlaw12_did.calls kj38 (fun k_ => (k_ ≠ gb266 ∧ (k_ ≠ gb268 ∧ (k_ ≠ gb280 ∧ k_ ≠ gb286)))) _ _ x269000_1 a1_0 a1_1 a1_2 500 t287 t290 _ ?side1 A78.out).mono ?_); (case side1 => exact HO_269000.out); rintro e w141 ⟨v288, rfl, ho0, hb⟩; refine ⟨_, rfl, ?_⟩; have n0_ := Aside0.mk (Kd.V_below (by (with_reducible repeat (first | apply Kd.V_alloc | apply Kd.V_drewN | apply Kd.V_drew)); exact HO_269000.out) hb); have n1_ := Aside0.mk (Kd.V_below (by (with_reducible repeat (first | apply Kd.V_alloc | apply Kd.V_drewN | apply Kd.V_drew)); exact HO_287000.out) hb); have n2_ := Aside0.mk (Kd.V_lower (Kd.V_mono (ok' := fun k_ => k_ ≠ gb266 ∧ k_ ≠ gb268 ∧ k_ ≠ gb280 ∧ k_ ≠ gb286) ho0 (fun k_ hk_ => ⟨Or.elim hk_ (fun hs_ => hs_.1) (fun hn_ => (Kd.freshB (g := gb266) (o := .cells #[.int .i64 a1_0, .int .i64 a1_1, .int .i64 a1_2] 28 (0, 0)) (by (with_reducible repeat (first | refine blk_drewN ?_ _ | refine blk_drew ?_ | refine blk_alloc ?_ _)); exact BK266.out) k_ hn_)), Or.elim hk_ (fun hs_ => hs_.2.1) (fun hn_ => (Kd.freshB (g := gb268) (o := .cells #[.slice Ao42 x269000_1.length co42] 26 (0, 0)) (by (with_reducible repeat (first | refine blk_drewN ?_ _ | refine blk_drew ?_ | refine blk_alloc ?_ _)); exact BK268.out) k_ hn_)), Or.elim hk_ (fun hs_ => hs_.2.2.1) (fun hn_ => (Kd.freshB (g := gb280) (o := .cells #[.int .i64 t275, .int .i64 t276, .int .i64 t277, .int .i64 t278] 33 (0, 0)) (by (with_reducible repeat (first | refine blk_drewN ?_ _ | refine blk_drew ?_ | refine blk_alloc ?_ _)); exact BK280.out) k_ hn_)), Or.elim hk_ (fun hs_ => hs_.2.2.2) (fun hn_ => (Kd.freshB (g := gb286) (o := .cells #[.slice Ao52 t281.length co52] 26 (0, 0)) (by (with_reducible repeat (first | refine blk_drewN ?_ _ | refine blk_drew ?_ | refine blk_alloc ?_ _)); exact BK286.out) k_ hn_))⟩)) (below_size (by repeat (first | (with_reducible first | exact HB.out | apply below_alloc | apply pw_below_drewN | apply below_drew1 | refine below_set ?_ GE266.out | refine below_set ?_ GE268.out | refine below_set ?_ GE280.out | refine below_set ?_ GE286.out) | exact HB.out)))); have n3_ := Aside0.mk (blk_below (g := gb266) (o := .cells #[.int .i64 a1_0, .int .i64 a1_1, .int .i64 a1_2] 28 (0, 0)) (by (with_reducible repeat (first | refine blk_drewN ?_ _ | refine blk_drew ?_ | refine blk_alloc ?_ _)); exact BK266.out) hb); have n4_ := Aside0.mk (blk_below (g := gb268) (o := .cells #[.slice Ao42 x269000_1.length co42] 26 (0, 0)) (by (with_reducible repeat (first | refine blk_drewN ?_ _ | refine blk_drew ?_ | refine blk_alloc ?_ _)); exact BK268.out) hb); have n5_ := Aside0.mk (blk_below (g := gb280) (o := .cells #[.int .i64 t275, .int .i64 t276, .int .i64 t277, .int .i64 t278] 33 (0, 0)) (by (with_reducible repeat (first | refine blk_drewN ?_ _ | refine blk_drew ?_ | refine blk_alloc ?_ _)); exact BK280.out) hb); have n6_ := Aside0.mk (blk_below (g := gb286) (o := .cells #[.slice Ao52 t281.length co52] 26 (0, 0)) (by (with_reducible repeat (first | refine blk_drewN ?_ _ | refine blk_drew ?_ | refine blk_alloc ?_ _)); exact BK286.out) hb); have n7_ := Aside0.mk (below_step (by repeat (first | (with_reducible first | exact HB.out | apply below_alloc | apply pw_below_drewN | apply below_drew1 | refine below_set ?_ GE266.out | refine below_set ?_ GE268.out | refine below_set ?_ GE280.out | refine below_set ?_ GE286.out) | exact HB.out)) hb); clear HO_269000; clear HO_287000; clear BK266; clear BK268; clear BK280; clear BK286; clear HB; have HO_269000 := n0_; have HO_287000 := n1_; have HO289 := n2_; have BK266 := n3_; have BK268 := n4_; have BK280 := n5_; have BK286 := n6_; have HB := n7_; clear n0_ n1_ n2_ n3_ n4_ n5_ n6_ n7_; (try clear hb); (try clear hb2); (try clear hk); (try clear hi); (try clear ho0)) | ((with_reducible refine gate_dst (N := 19) rfl ?_); refine box_event ?hg (N := 19) ?hd (cs := #[.slice none 0 0]) (t := 26) ?hr ?_; (case hd => rfl); (case hg => rfl); (case hr => first | (go_simp; done) | (go_simp; rfl)); intro gb291 hg w142 hbox hb; have n0_ := Aside0.mk (Kd.V_below (Kd.V_elderB (by (with_reducible repeat (first | apply Kd.V_alloc | apply Kd.V_drewN | apply Kd.V_drew)); exact HO_269000.out) gb291 (Nat.le_of_eq hg.symm)) hb); have n1_ := Aside0.mk (Kd.V_below (Kd.V_elderB (by (with_reducible repeat (first | apply Kd.V_alloc | apply Kd.V_drewN | apply Kd.V_drew)); exact HO_287000.out) gb291 (Nat.le_of_eq hg.symm)) hb); have n2_ := Aside0.mk (Kd.V_below (Kd.V_elderB (by (with_reducible repeat (first | apply Kd.V_alloc | apply Kd.V_drewN | apply Kd.V_drew)); exact HO289.out) gb291 (Nat.le_of_eq hg.symm)) hb); have n3_ := Aside0.mk (blk_below (g := gb266) (o := .cells #[.int .i64 a1_0, .int .i64 a1_1, .int .i64 a1_2] 28 (0, 0)) (by (with_reducible repeat (first | refine blk_drewN ?_ _ | refine blk_drew ?_ | refine blk_alloc ?_ _)); exact BK266.out) hb); have n4_ := Aside0.mk (blk_below (g := gb268) (o := .cells #[.slice Ao42 x269000_1.length co42] 26 (0, 0)) (by (with_reducible repeat (first | refine blk_drewN ?_ _ | refine blk_drew ?_ | refine blk_alloc ?_ _)); exact BK268.out) hb); have n5_ := Aside0.mk (blk_below (g := gb280) (o := .cells #[.int .i64 t275, .int .i64 t276, .int .i64 t277, .int .i64 t278] 33 (0, 0)) (by (with_reducible repeat (first | refine blk_drewN ?_ _ | refine blk_drew ?_ | refine blk_alloc ?_ _)); exact BK280.out) hb); have n6_ := Aside0.mk (blk_below (g := gb286) (o := .cells #[.slice Ao52 t281.length co52] 26 (0, 0)) (by (with_reducible repeat (first | refine blk_drewN ?_ _ | refine blk_drew ?_ | refine blk_alloc ?_ _)); exact BK286.out) hb); have n7_ := Aside0.mk (below_step (by repeat (first | (with_reducible first | exact HB.out | apply below_alloc | apply pw_below_drewN | apply below_drew1 | refine below_set ?_ GE266.out | refine below_set ?_ GE268.out | refine below_set ?_ GE280.out | refine below_set ?_ GE286.out) | exact HB.out)) hb); have n8_ := Aside0.mk (hbox); have n9_ := Aside0.mk ((by rw [hg]; exact (below_size (by repeat (first | (with_reducible first | exact HB.out | apply below_alloc | apply pw_below_drewN | apply below_drew1 | refine below_set ?_ GE266.out | refine below_set ?_ GE268.out | refine below_set ?_ GE280.out | refine below_set ?_ GE286.out) | exact HB.out))) : w.heap.size ≤ gb291)); have n10_ := Aside0.mk ((by rw [hg]; exact (below_size (by repeat (first | (with_reducible first | exact HB.out | apply below_alloc | apply pw_below_drewN | apply below_drew1 | refine below_set ?_ GE266.out | refine below_set ?_ GE268.out | refine below_set ?_ GE280.out | refine below_set ?_ GE286.out) | exact HB.out))) : w.heap.size ≤ gb291)); have n11_ := Aside0.mk ((by rw [hg]; exact Nat.ne_of_lt (blk_lt (g := gb266) (o := .cells #[.int .i64 a1_0, .int .i64 a1_1, .int .i64 a1_2] 28 (0, 0)) (by (with_reducible repeat (first | refine blk_drewN ?_ _ | refine blk_drew ?_ | refine blk_alloc ?_ _)); exact BK266.out)) : gb266 ≠ gb291)); have n12_ := Aside0.mk ((by rw [hg]; exact Nat.ne_of_gt (blk_lt (g := gb266) (o := .cells #[.int .i64 a1_0, .int .i64 a1_1, .int .i64 a1_2] 28 (0, 0)) (by (with_reducible repeat (first | refine blk_drewN ?_ _ | refine blk_drew ?_ | refine blk_alloc ?_ _)); exact BK266.out)) : gb291 ≠ gb266)); have n13_ := Aside0.mk ((by rw [hg]; exact Nat.ne_of_lt (blk_lt (g := gb268) (o := .cells #[.slice Ao42 x269000_1.length co42] 26 (0, 0)) (by (with_reducible repeat (first | refine blk_drewN ?_ _ | refine blk_drew ?_ | refine blk_alloc ?_ _)); exact BK268.out)) : gb268 ≠ gb291)); have n14_ := Aside0.mk ((by rw [hg]; exact Nat.ne_of_gt (blk_lt (g := gb268) (o := .cells #[.slice Ao42 x269000_1.length co42] 26 (0, 0)) (by (with_reducible repeat (first | refine blk_drewN ?_ _ | refine blk_drew ?_ | refine blk_alloc ?_ _)); exact BK268.out)) : gb291 ≠ gb268)); have n15_ := Aside0.mk ((by rw [hg]; exact Nat.ne_of_lt (blk_lt (g := gb280) (o := .cells #[.int .i64 t275, .int .i64 t276, .int .i64 t277, .int .i64 t278] 33 (0, 0)) (by (with_reducible repeat (first | refine blk_drewN ?_ _ | refine blk_drew ?_ | refine blk_alloc ?_ _)); exact BK280.out)) : gb280 ≠ gb291)); have n16_ := Aside0.mk ((by rw [hg]; exact Nat.ne_of_gt (blk_lt (g := gb280) (o := .cells #[.int .i64 t275, .int .i64 t276, .int .i64 t277, .int .i64 t278] 33 (0, 0)) (by (with_reducible repeat (first | refine blk_drewN ?_ _ | refine blk_drew ?_ | refine blk_alloc ?_ _)); exact BK280.out)) : gb291 ≠ gb280)); have n17_ := Aside0.mk ((by rw [hg]; exact Nat.ne_of_lt (blk_lt (g := gb286) (o := .cells #[.slice Ao52 t281.length co52] 26 (0, 0)) (by (with_reducible repeat (first | refine blk_drewN ?_ _ | refine blk_drew ?_ | refine blk_alloc ?_ _)); exact BK286.out)) : gb286 ≠ gb291)); have n18_ := Aside0.mk ((by rw [hg]; exact Nat.ne_of_gt (blk_lt (g := gb286) (o := .cells #[.slice Ao52 t281.length co52] 26 (0, 0)) (by (with_reducible repeat (first | refine blk_drewN ?_ _ | refine blk_drew ?_ | refine blk_alloc ?_ _)); exact BK286.out)) : gb291 ≠ gb286)); clear HO_269000; clear HO_287000; clear HO289; clear BK266; clear BK268; clear BK280; clear BK286; clear HB; have HO_269000 := n0_; have HO_287000 := n1_; have HO289 := n2_; have BK266 := n3_; have BK268 := n4_; have BK280 := n5_; have BK286 := n6_; have HB := n7_; have BK291 := n8_; have GW291 := n9_; have GE291 := n10_; have NB266_291 := n11_; have NB291_266 := n12_; have NB268_291 := n13_; have NB291_268 := n14_; have NB280_291 := n15_; have NB291_280 := n16_; have NB286_291 := n17_; have NB291_286 := n18_; clear n0_ n1_ n2_ n3_ n4_ n5_ n6_ n7_ n8_ n9_ n10_ n11_ n12_ n13_ n14_ n15_ n16_ n17_ n18_; clear hb hbox hg; obtain ⟨Ao143, co143, eo143⟩ := Kd.V_slice HO289.out; subst eo143; have hnb144 := NB291_266.out; have hnc144 := NB266_291.out; have hnb145 := NB291_268.out; have hnc145 := NB268_291.out; have hnb146 := NB291_280.out; have hnc146 := NB280_291.out; have hnb147 := NB291_286.out; have hnc147 := NB286_291.out; have hcz148_0 : w142.cell? ⟨gb291, 0, none⟩ = some (.slice none 0 0) := (blk_cell BK291.out 0).trans rfl; have hfz148_0 := blk_frozen BK291.out 0))
                  go_ret
                  first | (with_reducible exact (clash2 A78 A38).elim) | (with_reducible exact (clash2 A38 A78).elim) | (with_reducible exact (clash2 A78 A37).elim) | (with_reducible exact (clash2 A37 A78).elim) | (with_reducible exact (clash2 A78 A5).elim) | (with_reducible exact (clash2 A5 A78).elim) | (with_reducible exact (clash2 A38 A37).elim) | (with_reducible exact (clash2 A37 A38).elim) | (with_reducible exact (clash2 A38 A5).elim) | (with_reducible exact (clash2 A5 A38).elim) | (with_reducible exact (clash2 A37 A5).elim) | (with_reducible exact (clash2 A5 A37).elim) | exact ⟨by first | rfl | (simp [errW_none, errW_some] <;> rfl) | (simp [*, errW_none, errW_some] <;> rfl), by repeat (first | (with_reducible first | exact HB.out | apply below_alloc | apply pw_below_drewN | apply below_drew1 | refine below_set ?_ GE266.out | refine below_set ?_ GE268.out | refine below_set ?_ GE280.out | refine below_set ?_ GE286.out | refine below_set ?_ GE291.out) | exact HB.out)⟩

/-- THE ONE PURE STATEMENT of godwitlaw12_TokensKeep. -/
def godwitlaw12_TokensKeep.Pure : Prop := ∀ (l0 : List (S28)) (a1_0 : Int) (a1_1 : Int) (a1_2 : Int) (a2 : Int) (a3 : Int), (l0.length * 24 ≤ 140737488351232 ∧ ∀ y0_ ∈ l0, ((Lit.int .i64 y0_.f0).wf = true) ∧ ((Lit.int .i64 y0_.f1).wf = true) ∧ ((Lit.int .i64 y0_.f2).wf = true)) → (((Lit.int .i64 a1_0).wf = true) ∧ ((Lit.int .i64 a1_1).wf = true) ∧ ((Lit.int .i64 a1_2).wf = true)) → ((Lit.int .i64 a2).wf = true) → ((Lit.int .i64 a3).wf = true) → ∃ k, godwitlaw12_TokensKeep.f k l0 a1_0 a1_1 a1_2 a2 a3 = some true

end Go.Proofs.Ytaolmpchenpaeaa.Q
