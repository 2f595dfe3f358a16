-- written by a turned copy of the kit's printer (wip/tools/patch_print.py over print.py); contracts of given functions are this session's own
import Derived.Test.YtpdfccncfkejiaaDoorQx0
import Derived.Test.YtpdfccncfkejiaaDoorQx4
import Derived.Test.YtpdfccncfkejiaaDoorQx8
import Derived.Test.YtpdfccncfkejiaaDoorQx9
import Derived.Test.YtpdfccncfkejiaaDoorQx11
import Derived.Test.YtpdfccncfkejiaaDoorQx22
namespace Go.Proofs.YtpdfccncfkejiaaDoor.Q
open Go.RowKit Go.Proofs.YtpdfccncfkejiaaDoorW.PrintWords Go.Proofs.YtpdfccncfkejiaaDoorW.PrintLast Go.Proofs.YtpdfccncfkejiaaDoorW.PrintMore Go.Proofs.YtpdfccncfkejiaaDoor.G
attribute [local go_sem] max2_int min2_int max_two min_two max_three min_three max_four min_four   -- for this text's walks alone
set_option linter.unusedVariables false
set_option linter.unusedSimpArgs false

/-! ### godwitlaw15_SeqsEnds: function 7 -/
def godwitlaw15_SeqsEnds.l0 : Nat → Int → Bool → Int → Int → Int → Int → Int → Option (Bool)
  | 0, _, _, _, _, _, _, _ => none
  | k + 1, x1, x5, x6, x9, x10, x264000, x264001 => if x10 < x6 then ((seqs_Accept.f x264000 x264001 (wrap64 (4294967295 - x10))).bind fun bt268 => (if bt268.2.2 = 0 then (godwitlaw15_SeqsEnds.l0 k x1 x5 x6 x9 (wrap64 (x10 + 1)) bt268.1 bt268.2.1) else (none))) else ((seqs_Accept.f x264000 x264001 (wrap64 (4294967295 - (Go.bits .and .i64 x1 63)))).bind fun bt272 => (if x5 = true then ((seqs_Full.f x264000 x264001).bind fun t276 => (if t276 = true then (if x9 = 1 then (if bt272.2.2 = 7 then ((seqs_Missing.f k x264000 x264001 9).bind fun t277 => (if (t277.length : Int) = 0 then ((seqs_Sane.f x264000 x264001).bind fun t280 => (some t280)) else (none))) else (none)) else (none)) else (none))) else (none)))
def godwitlaw15_SeqsEnds.f (k : Nat) (a0 : Int) (a1 : Int) : Option (Bool) := (godwitlaw15_awake.f).bind fun t262 => ((seqs_Accept.f (wrap64 (4294967296 - (Go.bits .and .i64 a0 63))) 0 4294967296).bind fun bt264 => (godwitlaw15_SeqsEnds.l0 k a1 t262 (Go.bits .and .i64 a0 63) bt264.2.2 0 (wrap64 (4294967296 - (Go.bits .and .i64 a0 63))) 0))
theorem godwitlaw15_SeqsEnds.mono_l : ∀ k, (∀ y0 y1 y2 y3 y4 y5 y6, LeO (godwitlaw15_SeqsEnds.l0 k y0 y1 y2 y3 y4 y5 y6) (godwitlaw15_SeqsEnds.l0 (k + 1) y0 y1 y2 y3 y4 y5 y6))
  | 0 => fun _ _ _ _ _ _ _ r h => by simp [godwitlaw15_SeqsEnds.l0] at h
  | k + 1 => by
    have ih0 := godwitlaw15_SeqsEnds.mono_l k
    · intro y0 y1 y2 y3 y4 y5 y6
      unfold godwitlaw15_SeqsEnds.l0
      repeat' first
      | (with_reducible exact ih0 _ _ _ _ _ _ _)
      | (with_reducible exact seqs_Missing.mono _ _ _ _)
      | (with_reducible exact LeO.refl _)
      | (with_reducible exact LeO.none _)
      | (with_reducible refine LeO.ite ?_ ?_)
      | (with_reducible refine LeO.bind ?_ (fun _ => ?_))
      | exact ih0 _ _ _ _ _ _ _
      | exact seqs_Missing.mono _ _ _ _
      | exact LeO.none _
      | refine LeO.ite ?_ ?_
      | refine LeO.bind ?_ (fun _ => ?_)
theorem godwitlaw15_SeqsEnds.mono : ∀ a0 a1 k, LeO (godwitlaw15_SeqsEnds.f k a0 a1) (godwitlaw15_SeqsEnds.f (k + 1) a0 a1) := by
  intro a0 a1 k
  have ih0 := godwitlaw15_SeqsEnds.mono_l k
  unfold godwitlaw15_SeqsEnds.f
  repeat' first
      | (with_reducible exact ih0 _ _ _ _ _ _ _)
      | (with_reducible exact seqs_Missing.mono _ _ _ _)
      | (with_reducible exact LeO.refl _)
      | (with_reducible exact LeO.none _)
      | (with_reducible refine LeO.ite ?_ ?_)
      | (with_reducible refine LeO.bind ?_ (fun _ => ?_))
      | exact ih0 _ _ _ _ _ _ _
      | exact seqs_Missing.mono _ _ _ _
      | exact LeO.none _
      | refine LeO.ite ?_ ?_
      | refine LeO.bind ?_ (fun _ => ?_)
set_option maxHeartbeats 8000000 in
set_option maxRecDepth 100000 in
theorem godwitlaw15_SeqsEnds.calls (k : Nat) (a0 : Int) (a1 : Int) (r : Bool) (w : World) (hLD : LaidT w) (h : godwitlaw15_SeqsEnds.f k a0 a1 = some r) :
    Calls Tryd.prog 7 #[.int .i64 a0, .int .i64 a1] w fun e w' => e = .returned (.bool r) ∧ Below w.heap.size w w' := by
  have hu26 := Tryd.underlying26
  have HB := Aside0.mk (Below.refl w.heap.size w)
  have HLD := Aside0.mk hLD
  clear hLD
  have H : ((godwitlaw15_awake.f).bind fun t262 => ((seqs_Accept.f (wrap64 (4294967296 - (Go.bits .and .i64 a0 63))) 0 4294967296).bind fun bt264 => (godwitlaw15_SeqsEnds.l0 k a1 t262 (Go.bits .and .i64 a0 63) bt264.2.2 0 (wrap64 (4294967296 - (Go.bits .and .i64 a0 63))) 0))) = some r := h
  clear h
  replace H := Option.bind_eq_some_iff.mp H
  obtain ⟨t262, A30, H⟩ := H
  replace H : ((seqs_Accept.f (wrap64 (4294967296 - (Go.bits .and .i64 a0 63))) 0 4294967296).bind fun bt264 => (godwitlaw15_SeqsEnds.l0 k a1 t262 (Go.bits .and .i64 a0 63) bt264.2.2 0 (wrap64 (4294967296 - (Go.bits .and .i64 a0 63))) 0)) = some r := H
  have A3 := Aside0.mk A30
  clear A30
  replace H := Option.bind_eq_some_iff.mp H
  obtain ⟨⟨t264, t265, t266⟩, A40, H⟩ := H
  replace H : (godwitlaw15_SeqsEnds.l0 k a1 t262 (Go.bits .and .i64 a0 63) t266 0 (wrap64 (4294967296 - (Go.bits .and .i64 a0 63))) 0) = some r := H
  have A4 := Aside0.mk A40
  clear A40
  have H' := Aside0.mk H
  clear H
  go_enter Tryd.func7, Tryd.ntmps7
  go_wp2_with (first | ((with_reducible refine gate_callee (f := 8) rfl ?_); refine goesL_ (some 15) rfl rfl Tryd.func8 (by kernel_rfl) rfl #[] rfl (by (try simp only [List.map_toArray, List.map_cons, List.map_nil]); first | done | rfl | (simp only [List.length_drop, List.length_take]; rfl)) ?_; (with_reducible refine (godwitlaw15_awake.calls  t262 _ ?side1 A3.out).mono ?_); (case side1 => exact LaidT.below HLD.out (by repeat (first | (with_reducible first | exact HB.out | apply below_alloc | apply pw_below_drewN | apply below_drew1) | exact HB.out))); rintro e w5 ⟨rfl, hb⟩; refine ⟨_, rfl, ?_⟩; have n0_ := Aside0.mk (below_step (by repeat (first | (with_reducible first | exact HB.out | apply below_alloc | apply pw_below_drewN | apply below_drew1) | exact HB.out)) hb); clear HB; have HB := n0_; clear n0_; (try clear hb); (try clear hb2); (try clear hk); (try clear hi)) | ((with_reducible refine gate_dst (N := 7) rfl ?_); (try (refine gate_guard (by rfl) ?_; dsimp only)); refine box_event ?hg (N := 7) ?hd (cs := #[.int .i64 0, .int .u64 0]) (t := 26) ?hr ?_; (case hd => rfl); (case hg => rfl); (case hr => first | (go_simp; done) | (go_simp; rfl)); intro gb263 hg w6 hbox hb; have n0_ := Aside0.mk (below_step (by repeat (first | (with_reducible first | exact HB.out | apply below_alloc | apply pw_below_drewN | apply below_drew1) | exact HB.out)) hb); have n1_ := Aside0.mk (hbox); have n2_ := Aside0.mk ((by rw [hg]; exact (below_size (by repeat (first | (with_reducible first | exact HB.out | apply below_alloc | apply pw_below_drewN | apply below_drew1) | exact HB.out))) : w.heap.size ≤ gb263)); have n3_ := Aside0.mk ((by rw [hg]; exact (below_size (by repeat (first | (with_reducible first | exact HB.out | apply below_alloc | apply pw_below_drewN | apply below_drew1) | exact HB.out))) : w.heap.size ≤ gb263)); clear HB; have HB := n0_; have BK263 := n1_; have GW263 := n2_; have GE263 := n3_; clear n0_ n1_ n2_ n3_; clear hb hbox hg; have hcz7_0 : w6.cell? ⟨gb263, 0, none⟩ = some (.int .i64 0) := (blk_cell BK263.out 0).trans rfl; have hcz7_1 : w6.cell? ⟨gb263, 1, none⟩ = some (.int .u64 0) := (blk_cell BK263.out 1).trans rfl; have hfz7_0 := blk_frozen BK263.out 0; have hfz7_1 := blk_frozen BK263.out 1) | ((with_reducible refine gate_callee (f := 10) rfl ?_); refine goesL_ (some 23) rfl rfl Tryd.func10 (by kernel_rfl) rfl #[.agg #[.int .i64 (wrap64 (4294967296 - (Go.bits .and .i64 a0 63))), .int .u64 0], .int .i64 4294967296] rfl (by (try simp only [List.map_toArray, List.map_cons, List.map_nil]); first | done | rfl | (simp only [List.length_drop, List.length_take]; rfl)) ?_; (with_reducible refine (seqs_Accept.calls (wrap64 (4294967296 - (Go.bits .and .i64 a0 63))) 0 4294967296 t264 t265 t266 _ ?side1 A4.out).mono ?_); (case side1 => exact LaidT.below HLD.out (by repeat (first | (with_reducible first | exact HB.out | apply below_alloc | apply pw_below_drewN | apply below_drew1 | refine below_set ?_ GE263.out) | exact HB.out))); rintro e w8 ⟨rfl, hb⟩; refine ⟨_, rfl, ?_⟩; have n0_ := Aside0.mk (blk_below (g := gb263) (o := .cells #[.int .i64 (wrap64 (4294967296 - (Go.bits .and .i64 a0 63))), .int .u64 0] 26 (0, 0)) (by (with_reducible repeat (first | refine blk_drewN ?_ _ | refine blk_drew ?_ | refine blk_alloc ?_ _)); refine blk_put (cs := #[.int .i64 (wrap64 (4294967296 - (Go.bits .and .i64 a0 63))), .int .u64 0]) ?_ 1 _ rfl; (with_reducible repeat (first | refine blk_drewN ?_ _ | refine blk_drew ?_ | refine blk_alloc ?_ _)); refine blk_put (cs := #[.int .i64 0, .int .u64 0]) ?_ 0 _ rfl; (with_reducible repeat (first | refine blk_drewN ?_ _ | refine blk_drew ?_ | refine blk_alloc ?_ _)); exact BK263.out) hb); have n1_ := Aside0.mk (below_step (by repeat (first | (with_reducible first | exact HB.out | apply below_alloc | apply pw_below_drewN | apply below_drew1 | refine below_set ?_ GE263.out) | exact HB.out)) hb); clear BK263; clear HB; have BK263 := n0_; have HB := n1_; clear n0_ n1_; (try clear hb); (try clear hb2); (try clear hk); (try clear hi)) | ((with_reducible refine gate_dst (N := 8) rfl ?_); (try (refine gate_guard (by rfl) ?_; dsimp only)); refine box_event ?hg (N := 8) ?hd (cs := #[.int .i64 0, .int .u64 0]) (t := 26) ?hr ?_; (case hd => rfl); (case hg => rfl); (case hr => first | (go_simp; done) | (go_simp; rfl)); intro gb267 hg w9 hbox hb; have n0_ := Aside0.mk (blk_below (g := gb263) (o := .cells #[.int .i64 (wrap64 (4294967296 - (Go.bits .and .i64 a0 63))), .int .u64 0] 26 (0, 0)) (by (with_reducible repeat (first | refine blk_drewN ?_ _ | refine blk_drew ?_ | refine blk_alloc ?_ _)); exact BK263.out) hb); have n1_ := Aside0.mk (below_step (by repeat (first | (with_reducible first | exact HB.out | apply below_alloc | apply pw_below_drewN | apply below_drew1 | refine below_set ?_ GE263.out) | exact HB.out)) hb); have n2_ := Aside0.mk (hbox); have n3_ := Aside0.mk ((by rw [hg]; exact (below_size (by repeat (first | (with_reducible first | exact HB.out | apply below_alloc | apply pw_below_drewN | apply below_drew1 | refine below_set ?_ GE263.out) | exact HB.out))) : w.heap.size ≤ gb267)); have n4_ := Aside0.mk ((by rw [hg]; exact (below_size (by repeat (first | (with_reducible first | exact HB.out | apply below_alloc | apply pw_below_drewN | apply below_drew1 | refine below_set ?_ GE263.out) | exact HB.out))) : w.heap.size ≤ gb267)); have n5_ := Aside0.mk ((by rw [hg]; exact Nat.ne_of_lt (blk_lt (g := gb263) (o := .cells #[.int .i64 (wrap64 (4294967296 - (Go.bits .and .i64 a0 63))), .int .u64 0] 26 (0, 0)) (by (with_reducible repeat (first | refine blk_drewN ?_ _ | refine blk_drew ?_ | refine blk_alloc ?_ _)); exact BK263.out)) : gb263 ≠ gb267)); have n6_ := Aside0.mk ((by rw [hg]; exact Nat.ne_of_gt (blk_lt (g := gb263) (o := .cells #[.int .i64 (wrap64 (4294967296 - (Go.bits .and .i64 a0 63))), .int .u64 0] 26 (0, 0)) (by (with_reducible repeat (first | refine blk_drewN ?_ _ | refine blk_drew ?_ | refine blk_alloc ?_ _)); exact BK263.out)) : gb267 ≠ gb263)); clear BK263; clear HB; have BK263 := n0_; have HB := n1_; have BK267 := n2_; have GW267 := n3_; have GE267 := n4_; have NB263_267 := n5_; have NB267_263 := n6_; clear n0_ n1_ n2_ n3_ n4_ n5_ n6_; clear hb hbox hg; have hnb10 := NB267_263.out; have hnc10 := NB263_267.out; have hcz11_0 : w9.cell? ⟨gb267, 0, none⟩ = some (.int .i64 0) := (blk_cell BK267.out 0).trans rfl; have hcz11_1 : w9.cell? ⟨gb267, 1, none⟩ = some (.int .u64 0) := (blk_cell BK267.out 1).trans rfl; have hfz11_0 := blk_frozen BK267.out 0; have hfz11_1 := blk_frozen BK267.out 1))
  go_loopg [10] k (fun kq v10 w' => ∃ (x10_1 : Int) (x264000_1 : Int) (x264001_1 : Int), v10 = .int .i64 x10_1 ∧ Aside0 (godwitlaw15_SeqsEnds.l0 kq a1 t262 (Go.bits .and .i64 a0 63) t266 x10_1 x264000_1 x264001_1 = some r) ∧ Aside0 (kq ≤ k) ∧ Aside0 (w'.heap[gb263]? = some (.cells #[.int .i64 x264000_1, .int .u64 x264001_1] 26 (0, 0))) ∧ Aside0 (w'.heap[gb267]? = some (.cells #[.int .i64 t264, .int .u64 t265] 26 (0, 0))) ∧ Aside0 (Below w.heap.size w w'))
  case atStart => exact ⟨(0), (wrap64 (4294967296 - (Go.bits .and .i64 a0 63))), (0), (by first | rfl | (simp; done) | (simp [*]; done)), H', ⟨Nat.le_refl _⟩, ⟨by (with_reducible repeat (first | refine blk_drewN ?_ _ | refine blk_drew ?_ | refine blk_alloc ?_ _)); refine blk_far ?_ NB263_267.out _; (with_reducible repeat (first | refine blk_drewN ?_ _ | refine blk_drew ?_ | refine blk_alloc ?_ _)); refine blk_far ?_ NB263_267.out _; (with_reducible repeat (first | refine blk_drewN ?_ _ | refine blk_drew ?_ | refine blk_alloc ?_ _)); exact BK263.out⟩, ⟨by (with_reducible repeat (first | refine blk_drewN ?_ _ | refine blk_drew ?_ | refine blk_alloc ?_ _)); refine blk_put (cs := #[.int .i64 t264, .int .u64 0]) ?_ 1 _ rfl; (with_reducible repeat (first | refine blk_drewN ?_ _ | refine blk_drew ?_ | refine blk_alloc ?_ _)); refine blk_put (cs := #[.int .i64 0, .int .u64 0]) ?_ 0 _ rfl; (with_reducible repeat (first | refine blk_drewN ?_ _ | refine blk_drew ?_ | refine blk_alloc ?_ _)); exact BK267.out⟩, ⟨by repeat (first | (with_reducible first | exact HB.out | apply below_alloc | apply pw_below_drewN | apply below_drew1 | refine below_set ?_ GE263.out | refine below_set ?_ GE267.out) | exact HB.out)⟩⟩
  case round =>
    clear H'
    try clear c1
    try clear p2
    try clear p6
    try clear c7
    try clear c8
    try clear c10
    try clear hcz11_0
    try clear hcz11_1
    try clear hcz7_0
    try clear hcz7_1
    try clear hfz11_0
    try clear hfz11_1
    try clear hfz7_0
    try clear hfz7_1
    obtain ⟨x10_1, x264000_1, x264001_1, rfl, HA, HK1, BK263, BK267, HB⟩ := hrel
    cases gk with
    | zero => exact absurd HA.out (by simp [godwitlaw15_SeqsEnds.l0])
    | succ k1 =>
      have H := HA.out
      clear HA
      simp only [godwitlaw15_SeqsEnds.l0] at H
      by_cases c12 : x10_1 < (Go.bits .and .i64 a0 63)
      · rw [if_pos c12] at H
        have c12b0 : decide (x10_1 < (Go.bits .and .i64 a0 63)) = true := decide_eq_true c12
        clear c12
        replace H := Option.bind_eq_some_iff.mp H
        obtain ⟨⟨t268, t269, t270⟩, A130, H⟩ := H
        replace H : (if t270 = 0 then (godwitlaw15_SeqsEnds.l0 k1 a1 t262 (Go.bits .and .i64 a0 63) t266 (wrap64 (x10_1 + 1)) t268 t269) else (none)) = some r := H
        have A13 := Aside0.mk A130
        clear A130
        by_cases c14 : t270 = 0
        · rw [if_pos c14] at H
          have c14b0 : (t270 == 0) = true := beq_iff_eq.mpr c14
          have c14b1 : (t270 != 0) = false := bne_eq_false_iff_eq.mpr c14
          clear c14
          have H' := Aside0.mk H
          clear H
          have hnb15 := NB263_267.out
          have hnc15 := NB267_263.out
          have hcz16_0 : wr.cell? ⟨gb263, 0, none⟩ = some (.int .i64 x264000_1) := (blk_cell BK263.out 0).trans rfl
          have hcz16_1 : wr.cell? ⟨gb263, 1, none⟩ = some (.int .u64 x264001_1) := (blk_cell BK263.out 1).trans rfl
          have hfz16_0 := blk_frozen BK263.out 0
          have hfz16_1 := blk_frozen BK263.out 1
          go_wp2_with (first | ((with_reducible refine gate_callee (f := 10) rfl ?_); refine goesL_ (some 35) rfl rfl Tryd.func10 (by kernel_rfl) rfl #[.agg #[.int .i64 x264000_1, .int .u64 x264001_1], .int .i64 (wrap64 (4294967295 - x10_1))] rfl (by (try simp only [List.map_toArray, List.map_cons, List.map_nil]); first | done | rfl | (simp only [List.length_drop, List.length_take]; rfl)) ?_; (with_reducible refine (seqs_Accept.calls x264000_1 x264001_1 (wrap64 (4294967295 - x10_1)) t268 t269 t270 _ ?side1 A13.out).mono ?_); (case side1 => exact LaidT.below HLD.out (by repeat (first | (with_reducible first | exact HB.out | apply below_alloc | apply pw_below_drewN | apply below_drew1 | refine below_set ?_ GE263.out | refine below_set ?_ GE267.out) | exact HB.out))); rintro e w17 ⟨rfl, hb⟩; refine ⟨_, rfl, ?_⟩; have n0_ := Aside0.mk (blk_below (g := gb263) (o := .cells #[.int .i64 x264000_1, .int .u64 x264001_1] 26 (0, 0)) (by (with_reducible repeat (first | refine blk_drewN ?_ _ | refine blk_drew ?_ | refine blk_alloc ?_ _)); exact BK263.out) hb); have n1_ := Aside0.mk (blk_below (g := gb267) (o := .cells #[.int .i64 t264, .int .u64 t265] 26 (0, 0)) (by (with_reducible repeat (first | refine blk_drewN ?_ _ | refine blk_drew ?_ | refine blk_alloc ?_ _)); exact BK267.out) hb); have n2_ := Aside0.mk (below_step (by repeat (first | (with_reducible first | exact HB.out | apply below_alloc | apply pw_below_drewN | apply below_drew1 | refine below_set ?_ GE263.out | refine below_set ?_ GE267.out) | exact HB.out)) hb); clear BK263; clear BK267; clear HB; have BK263 := n0_; have BK267 := n1_; have HB := n2_; clear n0_ n1_ n2_; (try clear hb); (try clear hb2); (try clear hk); (try clear hi)) | ((with_reducible refine gate_dst (N := 11) rfl ?_); (try (refine gate_guard (by rfl) ?_; dsimp only)); refine box_event ?hg (N := 11) ?hd (cs := #[.int .i64 0, .int .u64 0]) (t := 26) ?hr ?_; (case hd => rfl); (case hg => rfl); (case hr => first | (go_simp; done) | (go_simp; rfl)); intro gb271 hg w18 hbox hb; have n0_ := Aside0.mk (blk_below (g := gb263) (o := .cells #[.int .i64 x264000_1, .int .u64 x264001_1] 26 (0, 0)) (by (with_reducible repeat (first | refine blk_drewN ?_ _ | refine blk_drew ?_ | refine blk_alloc ?_ _)); exact BK263.out) hb); have n1_ := Aside0.mk (blk_below (g := gb267) (o := .cells #[.int .i64 t264, .int .u64 t265] 26 (0, 0)) (by (with_reducible repeat (first | refine blk_drewN ?_ _ | refine blk_drew ?_ | refine blk_alloc ?_ _)); exact BK267.out) hb); have n2_ := Aside0.mk (below_step (by repeat (first | (with_reducible first | exact HB.out | apply below_alloc | apply pw_below_drewN | apply below_drew1 | refine below_set ?_ GE263.out | refine below_set ?_ GE267.out) | exact HB.out)) hb); have n3_ := Aside0.mk (hbox); have n4_ := Aside0.mk ((by rw [hg]; exact (below_size (by repeat (first | (with_reducible first | exact HB.out | apply below_alloc | apply pw_below_drewN | apply below_drew1 | refine below_set ?_ GE263.out | refine below_set ?_ GE267.out) | exact HB.out))) : w.heap.size ≤ gb271)); have n5_ := Aside0.mk ((by rw [hg]; exact (below_size (by repeat (first | (with_reducible first | exact HB.out | apply below_alloc | apply pw_below_drewN | apply below_drew1 | refine below_set ?_ GE263.out | refine below_set ?_ GE267.out) | exact HB.out))) : w.heap.size ≤ gb271)); have n6_ := Aside0.mk ((by rw [hg]; exact Nat.ne_of_lt (blk_lt (g := gb263) (o := .cells #[.int .i64 x264000_1, .int .u64 x264001_1] 26 (0, 0)) (by (with_reducible repeat (first | refine blk_drewN ?_ _ | refine blk_drew ?_ | refine blk_alloc ?_ _)); exact BK263.out)) : gb263 ≠ gb271)); have n7_ := Aside0.mk ((by rw [hg]; exact Nat.ne_of_gt (blk_lt (g := gb263) (o := .cells #[.int .i64 x264000_1, .int .u64 x264001_1] 26 (0, 0)) (by (with_reducible repeat (first | refine blk_drewN ?_ _ | refine blk_drew ?_ | refine blk_alloc ?_ _)); exact BK263.out)) : gb271 ≠ gb263)); have n8_ := Aside0.mk ((by rw [hg]; exact Nat.ne_of_lt (blk_lt (g := gb267) (o := .cells #[.int .i64 t264, .int .u64 t265] 26 (0, 0)) (by (with_reducible repeat (first | refine blk_drewN ?_ _ | refine blk_drew ?_ | refine blk_alloc ?_ _)); exact BK267.out)) : gb267 ≠ gb271)); have n9_ := Aside0.mk ((by rw [hg]; exact Nat.ne_of_gt (blk_lt (g := gb267) (o := .cells #[.int .i64 t264, .int .u64 t265] 26 (0, 0)) (by (with_reducible repeat (first | refine blk_drewN ?_ _ | refine blk_drew ?_ | refine blk_alloc ?_ _)); exact BK267.out)) : gb271 ≠ gb267)); clear BK263; clear BK267; clear HB; have BK263 := n0_; have BK267 := n1_; have HB := n2_; have BK271 := n3_; have GW271 := n4_; have GE271 := n5_; have NB263_271 := n6_; have NB271_263 := n7_; have NB267_271 := n8_; have NB271_267 := n9_; clear n0_ n1_ n2_ n3_ n4_ n5_ n6_ n7_ n8_ n9_; clear hb hbox hg; have hnb19 := NB271_263.out; have hnc19 := NB263_271.out; have hnb20 := NB271_267.out; have hnc20 := NB267_271.out; have hcz21_0 : w18.cell? ⟨gb271, 0, none⟩ = some (.int .i64 0) := (blk_cell BK271.out 0).trans rfl; have hcz21_1 : w18.cell? ⟨gb271, 1, none⟩ = some (.int .u64 0) := (blk_cell BK271.out 1).trans rfl; have hfz21_0 := blk_frozen BK271.out 0; have hfz21_1 := blk_frozen BK271.out 1; have hcz22_0 : w18.cell? ⟨gb263, 0, none⟩ = some (.int .i64 x264000_1) := (blk_cell BK263.out 0).trans rfl; have hcz22_1 : w18.cell? ⟨gb263, 1, none⟩ = some (.int .u64 x264001_1) := (blk_cell BK263.out 1).trans rfl; have hfz22_0 := blk_frozen BK263.out 0; have hfz22_1 := blk_frozen BK263.out 1))
          go_roundg k1
          case measure => have := HK1.out; omega
          case rel => exact ⟨(wrap64 (x10_1 + 1)), (t268), (t269), (by first | rfl | (simp; done) | (simp [*]; done)), H', ⟨by have := HK1.out; omega⟩, ⟨by (with_reducible repeat (first | refine blk_drewN ?_ _ | refine blk_drew ?_ | refine blk_alloc ?_ _)); refine blk_put (cs := #[.int .i64 t268, .int .u64 x264001_1]) ?_ 1 _ rfl; (with_reducible repeat (first | refine blk_drewN ?_ _ | refine blk_drew ?_ | refine blk_alloc ?_ _)); refine blk_put (cs := #[.int .i64 x264000_1, .int .u64 x264001_1]) ?_ 0 _ rfl; (with_reducible repeat (first | refine blk_drewN ?_ _ | refine blk_drew ?_ | refine blk_alloc ?_ _)); refine blk_far ?_ NB263_271.out _; (with_reducible repeat (first | refine blk_drewN ?_ _ | refine blk_drew ?_ | refine blk_alloc ?_ _)); refine blk_far ?_ NB263_271.out _; (with_reducible repeat (first | refine blk_drewN ?_ _ | refine blk_drew ?_ | refine blk_alloc ?_ _)); exact BK263.out⟩, ⟨by (with_reducible repeat (first | refine blk_drewN ?_ _ | refine blk_drew ?_ | refine blk_alloc ?_ _)); refine blk_far ?_ NB267_263.out _; (with_reducible repeat (first | refine blk_drewN ?_ _ | refine blk_drew ?_ | refine blk_alloc ?_ _)); refine blk_far ?_ NB267_263.out _; (with_reducible repeat (first | refine blk_drewN ?_ _ | refine blk_drew ?_ | refine blk_alloc ?_ _)); refine blk_far ?_ NB267_271.out _; (with_reducible repeat (first | refine blk_drewN ?_ _ | refine blk_drew ?_ | refine blk_alloc ?_ _)); refine blk_far ?_ NB267_271.out _; (with_reducible repeat (first | refine blk_drewN ?_ _ | refine blk_drew ?_ | refine blk_alloc ?_ _)); exact BK267.out⟩, ⟨by repeat (first | (with_reducible first | exact HB.out | apply below_alloc | apply pw_below_drewN | apply below_drew1 | refine below_set ?_ GE263.out | refine below_set ?_ GE267.out | refine below_set ?_ GE271.out) | exact HB.out)⟩⟩
        · rw [if_neg c14] at H
          exact absurd H (by simp)
      · rw [if_neg c12] at H
        have c12b0 : decide (x10_1 < (Go.bits .and .i64 a0 63)) = false := decide_eq_false c12
        clear c12
        replace H := Option.bind_eq_some_iff.mp H
        obtain ⟨⟨t272, t273, t274⟩, A230, H⟩ := H
        replace H : (if t262 = true then ((seqs_Full.f x264000_1 x264001_1).bind fun t276 => (if t276 = true then (if t266 = 1 then (if t274 = 7 then ((seqs_Missing.f k1 x264000_1 x264001_1 9).bind fun t277 => (if (t277.length : Int) = 0 then ((seqs_Sane.f x264000_1 x264001_1).bind fun t280 => (some t280)) else (none))) else (none)) else (none)) else (none))) else (none)) = some r := H
        have A23 := Aside0.mk A230
        clear A230
        by_cases c24 : t262 = true
        · subst c24
          have H1 : ((seqs_Full.f x264000_1 x264001_1).bind fun t276 => (if t276 = true then (if t266 = 1 then (if t274 = 7 then ((seqs_Missing.f k1 x264000_1 x264001_1 9).bind fun t277 => (if (t277.length : Int) = 0 then ((seqs_Sane.f x264000_1 x264001_1).bind fun t280 => (some t280)) else (none))) else (none)) else (none)) else (none))) = some r := by rw [if_pos rfl] at H; exact H
          clear H
          have H := H1
          clear H1
          replace H := Option.bind_eq_some_iff.mp H
          obtain ⟨t276, A250, H⟩ := H
          replace H : (if t276 = true then (if t266 = 1 then (if t274 = 7 then ((seqs_Missing.f k1 x264000_1 x264001_1 9).bind fun t277 => (if (t277.length : Int) = 0 then ((seqs_Sane.f x264000_1 x264001_1).bind fun t280 => (some t280)) else (none))) else (none)) else (none)) else (none)) = some r := H
          have A25 := Aside0.mk A250
          clear A250
          by_cases c26 : t276 = true
          · subst c26
            have H1 : (if t266 = 1 then (if t274 = 7 then ((seqs_Missing.f k1 x264000_1 x264001_1 9).bind fun t277 => (if (t277.length : Int) = 0 then ((seqs_Sane.f x264000_1 x264001_1).bind fun t280 => (some t280)) else (none))) else (none)) else (none)) = some r := by rw [if_pos rfl] at H; exact H
            clear H
            have H := H1
            clear H1
            by_cases c27 : t266 = 1
            · rw [if_pos c27] at H
              have c27b0 : (t266 == 1) = true := beq_iff_eq.mpr c27
              have c27b1 : (t266 != 1) = false := bne_eq_false_iff_eq.mpr c27
              clear c27
              by_cases c28 : t274 = 7
              · rw [if_pos c28] at H
                have c28b0 : (t274 == 7) = true := beq_iff_eq.mpr c28
                have c28b1 : (t274 != 7) = false := bne_eq_false_iff_eq.mpr c28
                clear c28
                replace H := Option.bind_eq_some_iff.mp H
                obtain ⟨t277, A290, H⟩ := H
                replace H : (if (t277.length : Int) = 0 then ((seqs_Sane.f x264000_1 x264001_1).bind fun t280 => (some t280)) else (none)) = some r := H
                have A29 := Aside0.mk A290
                clear A290
                by_cases c30 : (t277.length : Int) = 0
                · rw [if_pos c30] at H
                  have c30b0 : ((t277.length : Int) == 0) = true := beq_iff_eq.mpr c30
                  have c30b1 : ((t277.length : Int) != 0) = false := bne_eq_false_iff_eq.mpr c30
                  clear c30
                  replace H := Option.bind_eq_some_iff.mp H
                  obtain ⟨t280, A310, H⟩ := H
                  replace H : (some t280) = some r := H
                  have A31 := Aside0.mk A310
                  clear A310
                  obtain rfl := Option.some.inj H
                  have hnb32 := NB263_267.out
                  have hnc32 := NB267_263.out
                  have hcz33_0 : wr.cell? ⟨gb263, 0, none⟩ = some (.int .i64 x264000_1) := (blk_cell BK263.out 0).trans rfl
                  have hcz33_1 : wr.cell? ⟨gb263, 1, none⟩ = some (.int .u64 x264001_1) := (blk_cell BK263.out 1).trans rfl
                  have hfz33_0 := blk_frozen BK263.out 0
                  have hfz33_1 := blk_frozen BK263.out 1
                  go_wp2_with (first | ((with_reducible refine gate_callee (f := 10) rfl ?_); refine goesL_ (some 46) rfl rfl Tryd.func10 (by kernel_rfl) rfl #[.agg #[.int .i64 x264000_1, .int .u64 x264001_1], .int .i64 (wrap64 (4294967295 - (Go.bits .and .i64 a1 63)))] rfl (by (try simp only [List.map_toArray, List.map_cons, List.map_nil]); first | done | rfl | (simp only [List.length_drop, List.length_take]; rfl)) ?_; (with_reducible refine (seqs_Accept.calls x264000_1 x264001_1 (wrap64 (4294967295 - (Go.bits .and .i64 a1 63))) t272 t273 t274 _ ?side1 A23.out).mono ?_); (case side1 => exact LaidT.below HLD.out (by repeat (first | (with_reducible first | exact HB.out | apply below_alloc | apply pw_below_drewN | apply below_drew1 | refine below_set ?_ GE263.out | refine below_set ?_ GE267.out) | exact HB.out))); rintro e w34 ⟨rfl, hb⟩; refine ⟨_, rfl, ?_⟩; have n0_ := Aside0.mk (blk_below (g := gb263) (o := .cells #[.int .i64 x264000_1, .int .u64 x264001_1] 26 (0, 0)) (by (with_reducible repeat (first | refine blk_drewN ?_ _ | refine blk_drew ?_ | refine blk_alloc ?_ _)); exact BK263.out) hb); have n1_ := Aside0.mk (blk_below (g := gb267) (o := .cells #[.int .i64 t264, .int .u64 t265] 26 (0, 0)) (by (with_reducible repeat (first | refine blk_drewN ?_ _ | refine blk_drew ?_ | refine blk_alloc ?_ _)); exact BK267.out) hb); have n2_ := Aside0.mk (below_step (by repeat (first | (with_reducible first | exact HB.out | apply below_alloc | apply pw_below_drewN | apply below_drew1 | refine below_set ?_ GE263.out | refine below_set ?_ GE267.out) | exact HB.out)) hb); clear BK263; clear BK267; clear HB; have BK263 := n0_; have BK267 := n1_; have HB := n2_; clear n0_ n1_ n2_; (try clear hb); (try clear hb2); (try clear hk); (try clear hi)) | ((with_reducible refine gate_dst (N := 13) rfl ?_); (try (refine gate_guard (by rfl) ?_; dsimp only)); refine box_event ?hg (N := 13) ?hd (cs := #[.int .i64 0, .int .u64 0]) (t := 26) ?hr ?_; (case hd => rfl); (case hg => rfl); (case hr => first | (go_simp; done) | (go_simp; rfl)); intro gb275 hg w35 hbox hb; have n0_ := Aside0.mk (blk_below (g := gb263) (o := .cells #[.int .i64 x264000_1, .int .u64 x264001_1] 26 (0, 0)) (by (with_reducible repeat (first | refine blk_drewN ?_ _ | refine blk_drew ?_ | refine blk_alloc ?_ _)); exact BK263.out) hb); have n1_ := Aside0.mk (blk_below (g := gb267) (o := .cells #[.int .i64 t264, .int .u64 t265] 26 (0, 0)) (by (with_reducible repeat (first | refine blk_drewN ?_ _ | refine blk_drew ?_ | refine blk_alloc ?_ _)); exact BK267.out) hb); have n2_ := Aside0.mk (below_step (by repeat (first | (with_reducible first | exact HB.out | apply below_alloc | apply pw_below_drewN | apply below_drew1 | refine below_set ?_ GE263.out | refine below_set ?_ GE267.out) | exact HB.out)) hb); have n3_ := Aside0.mk (hbox); have n4_ := Aside0.mk ((by rw [hg]; exact (below_size (by repeat (first | (with_reducible first | exact HB.out | apply below_alloc | apply pw_below_drewN | apply below_drew1 | refine below_set ?_ GE263.out | refine below_set ?_ GE267.out) | exact HB.out))) : w.heap.size ≤ gb275)); have n5_ := Aside0.mk ((by rw [hg]; exact (below_size (by repeat (first | (with_reducible first | exact HB.out | apply below_alloc | apply pw_below_drewN | apply below_drew1 | refine below_set ?_ GE263.out | refine below_set ?_ GE267.out) | exact HB.out))) : w.heap.size ≤ gb275)); have n6_ := Aside0.mk ((by rw [hg]; exact Nat.ne_of_lt (blk_lt (g := gb263) (o := .cells #[.int .i64 x264000_1, .int .u64 x264001_1] 26 (0, 0)) (by (with_reducible repeat (first | refine blk_drewN ?_ _ | refine blk_drew ?_ | refine blk_alloc ?_ _)); exact BK263.out)) : gb263 ≠ gb275)); have n7_ := Aside0.mk ((by rw [hg]; exact Nat.ne_of_gt (blk_lt (g := gb263) (o := .cells #[.int .i64 x264000_1, .int .u64 x264001_1] 26 (0, 0)) (by (with_reducible repeat (first | refine blk_drewN ?_ _ | refine blk_drew ?_ | refine blk_alloc ?_ _)); exact BK263.out)) : gb275 ≠ gb263)); have n8_ := Aside0.mk ((by rw [hg]; exact Nat.ne_of_lt (blk_lt (g := gb267) (o := .cells #[.int .i64 t264, .int .u64 t265] 26 (0, 0)) (by (with_reducible repeat (first | refine blk_drewN ?_ _ | refine blk_drew ?_ | refine blk_alloc ?_ _)); exact BK267.out)) : gb267 ≠ gb275)); have n9_ := Aside0.mk ((by rw [hg]; exact Nat.ne_of_gt (blk_lt (g := gb267) (o := .cells #[.int .i64 t264, .int .u64 t265] 26 (0, 0)) (by (with_reducible repeat (first | refine blk_drewN ?_ _ | refine blk_drew ?_ | refine blk_alloc ?_ _)); exact BK267.out)) : gb275 ≠ gb267)); clear BK263; clear BK267; clear HB; have BK263 := n0_; have BK267 := n1_; have HB := n2_; have BK275 := n3_; have GW275 := n4_; have GE275 := n5_; have NB263_275 := n6_; have NB275_263 := n7_; have NB267_275 := n8_; have NB275_267 := n9_; clear n0_ n1_ n2_ n3_ n4_ n5_ n6_ n7_ n8_ n9_; clear hb hbox hg; have hnb36 := NB275_263.out; have hnc36 := NB263_275.out; have hnb37 := NB275_267.out; have hnc37 := NB267_275.out; have hcz38_0 : w35.cell? ⟨gb275, 0, none⟩ = some (.int .i64 0) := (blk_cell BK275.out 0).trans rfl; have hcz38_1 : w35.cell? ⟨gb275, 1, none⟩ = some (.int .u64 0) := (blk_cell BK275.out 1).trans rfl; have hfz38_0 := blk_frozen BK275.out 0; have hfz38_1 := blk_frozen BK275.out 1; have hcz39_0 : w35.cell? ⟨gb263, 0, none⟩ = some (.int .i64 x264000_1) := (blk_cell BK263.out 0).trans rfl; have hcz39_1 : w35.cell? ⟨gb263, 1, none⟩ = some (.int .u64 x264001_1) := (blk_cell BK263.out 1).trans rfl; have hfz39_0 := blk_frozen BK263.out 0; have hfz39_1 := blk_frozen BK263.out 1) | (go_at_call 20; (with_reducible refine (seqs_Full.calls x264000_1 x264001_1 true _ A25.out).mono ?_); rintro e w40 ⟨rfl, hb⟩; have n0_ := Aside0.mk (blk_below (g := gb263) (o := .cells #[.int .i64 x264000_1, .int .u64 x264001_1] 26 (0, 0)) (by (with_reducible repeat (first | refine blk_drewN ?_ _ | refine blk_drew ?_ | refine blk_alloc ?_ _)); refine blk_far ?_ NB263_275.out _; (with_reducible repeat (first | refine blk_drewN ?_ _ | refine blk_drew ?_ | refine blk_alloc ?_ _)); refine blk_far ?_ NB263_275.out _; (with_reducible repeat (first | refine blk_drewN ?_ _ | refine blk_drew ?_ | refine blk_alloc ?_ _)); exact BK263.out) hb); have n1_ := Aside0.mk (blk_below (g := gb267) (o := .cells #[.int .i64 t264, .int .u64 t265] 26 (0, 0)) (by (with_reducible repeat (first | refine blk_drewN ?_ _ | refine blk_drew ?_ | refine blk_alloc ?_ _)); refine blk_far ?_ NB267_275.out _; (with_reducible repeat (first | refine blk_drewN ?_ _ | refine blk_drew ?_ | refine blk_alloc ?_ _)); refine blk_far ?_ NB267_275.out _; (with_reducible repeat (first | refine blk_drewN ?_ _ | refine blk_drew ?_ | refine blk_alloc ?_ _)); exact BK267.out) hb); have n2_ := Aside0.mk (blk_below (g := gb275) (o := .cells #[.int .i64 t272, .int .u64 t273] 26 (0, 0)) (by (with_reducible repeat (first | refine blk_drewN ?_ _ | refine blk_drew ?_ | refine blk_alloc ?_ _)); refine blk_put (cs := #[.int .i64 t272, .int .u64 0]) ?_ 1 _ rfl; (with_reducible repeat (first | refine blk_drewN ?_ _ | refine blk_drew ?_ | refine blk_alloc ?_ _)); refine blk_put (cs := #[.int .i64 0, .int .u64 0]) ?_ 0 _ rfl; (with_reducible repeat (first | refine blk_drewN ?_ _ | refine blk_drew ?_ | refine blk_alloc ?_ _)); exact BK275.out) hb); have n3_ := Aside0.mk (below_step (by repeat (first | (with_reducible first | exact HB.out | apply below_alloc | apply pw_below_drewN | apply below_drew1 | refine below_set ?_ GE263.out | refine below_set ?_ GE267.out | refine below_set ?_ GE275.out) | exact HB.out)) hb); clear BK263; clear BK267; clear BK275; clear HB; have BK263 := n0_; have BK267 := n1_; have BK275 := n2_; have HB := n3_; clear n0_ n1_ n2_ n3_; (try clear hb); (try clear hb2); (try clear hk); (try clear hi); have hcz41_0 : w40.cell? ⟨gb263, 0, none⟩ = some (.int .i64 x264000_1) := (blk_cell BK263.out 0).trans rfl; have hcz41_1 : w40.cell? ⟨gb263, 1, none⟩ = some (.int .u64 x264001_1) := (blk_cell BK263.out 1).trans rfl; have hfz41_0 := blk_frozen BK263.out 0; have hfz41_1 := blk_frozen BK263.out 1) | (go_at_call 12; (with_reducible refine (seqs_Missing.calls k1 x264000_1 x264001_1 9 t277 _ A29.out).mono ?_); rintro e w42 ⟨v278, rfl, ho0, hb⟩; have n0_ := Aside0.mk (Kd.R_lower ho0 (below_size (by repeat (first | (with_reducible first | exact HB.out | apply below_alloc | apply pw_below_drewN | apply below_drew1 | refine below_set ?_ GE263.out | refine below_set ?_ GE267.out | refine below_set ?_ GE275.out) | exact HB.out)))); have n1_ := Aside0.mk (blk_below (g := gb263) (o := .cells #[.int .i64 x264000_1, .int .u64 x264001_1] 26 (0, 0)) (by (with_reducible repeat (first | refine blk_drewN ?_ _ | refine blk_drew ?_ | refine blk_alloc ?_ _)); exact BK263.out) hb); have n2_ := Aside0.mk (blk_below (g := gb267) (o := .cells #[.int .i64 t264, .int .u64 t265] 26 (0, 0)) (by (with_reducible repeat (first | refine blk_drewN ?_ _ | refine blk_drew ?_ | refine blk_alloc ?_ _)); exact BK267.out) hb); have n3_ := Aside0.mk (blk_below (g := gb275) (o := .cells #[.int .i64 t272, .int .u64 t273] 26 (0, 0)) (by (with_reducible repeat (first | refine blk_drewN ?_ _ | refine blk_drew ?_ | refine blk_alloc ?_ _)); exact BK275.out) hb); have n4_ := Aside0.mk (below_step (by repeat (first | (with_reducible first | exact HB.out | apply below_alloc | apply pw_below_drewN | apply below_drew1 | refine below_set ?_ GE263.out | refine below_set ?_ GE267.out | refine below_set ?_ GE275.out) | exact HB.out)) hb); clear BK263; clear BK267; clear BK275; clear HB; have HO279 := n0_; have BK263 := n1_; have BK267 := n2_; have BK275 := n3_; have HB := n4_; clear n0_ n1_ n2_ n3_ n4_; (try clear hb); (try clear hb2); (try clear hk); (try clear hi); (try clear ho0); obtain ⟨Ao43, co43, eo43⟩ := Kd.R_slice HO279.out; subst eo43; have hcz44_0 : w42.cell? ⟨gb263, 0, none⟩ = some (.int .i64 x264000_1) := (blk_cell BK263.out 0).trans rfl; have hcz44_1 : w42.cell? ⟨gb263, 1, none⟩ = some (.int .u64 x264001_1) := (blk_cell BK263.out 1).trans rfl; have hfz44_0 := blk_frozen BK263.out 0; have hfz44_1 := blk_frozen BK263.out 1) | (go_at_call 11; (with_reducible refine (seqs_Sane.calls x264000_1 x264001_1 t280 _ A31.out).mono ?_); rintro e w45 ⟨rfl, hb⟩; have n0_ := Aside0.mk (Kd.R_below (by (with_reducible repeat (first | apply Kd.R_alloc | apply Kd.R_drewN | apply Kd.R_drew)); exact HO279.out) hb); have n1_ := Aside0.mk (blk_below (g := gb263) (o := .cells #[.int .i64 x264000_1, .int .u64 x264001_1] 26 (0, 0)) (by (with_reducible repeat (first | refine blk_drewN ?_ _ | refine blk_drew ?_ | refine blk_alloc ?_ _)); exact BK263.out) hb); have n2_ := Aside0.mk (blk_below (g := gb267) (o := .cells #[.int .i64 t264, .int .u64 t265] 26 (0, 0)) (by (with_reducible repeat (first | refine blk_drewN ?_ _ | refine blk_drew ?_ | refine blk_alloc ?_ _)); exact BK267.out) hb); have n3_ := Aside0.mk (blk_below (g := gb275) (o := .cells #[.int .i64 t272, .int .u64 t273] 26 (0, 0)) (by (with_reducible repeat (first | refine blk_drewN ?_ _ | refine blk_drew ?_ | refine blk_alloc ?_ _)); exact BK275.out) hb); have n4_ := Aside0.mk (below_step (by repeat (first | (with_reducible first | exact HB.out | apply below_alloc | apply pw_below_drewN | apply below_drew1 | refine below_set ?_ GE263.out | refine below_set ?_ GE267.out | refine below_set ?_ GE275.out) | exact HB.out)) hb); clear HO279; clear BK263; clear BK267; clear BK275; clear HB; have HO279 := n0_; have BK263 := n1_; have BK267 := n2_; have BK275 := n3_; have HB := n4_; clear n0_ n1_ n2_ n3_ n4_; (try clear hb); (try clear hb2); (try clear hk); (try clear hi)))
                  go_ret
                  first | (with_reducible exact (clash2 A23 A4).elim) | (with_reducible exact (clash2 A4 A23).elim) | exact ⟨by first | rfl | (simp [errW_none, errW_some] <;> rfl) | (simp [*, errW_none, errW_some] <;> rfl), by repeat (first | (with_reducible first | exact HB.out | apply below_alloc | apply pw_below_drewN | apply below_drew1 | refine below_set ?_ GE263.out | refine below_set ?_ GE267.out | refine below_set ?_ GE275.out) | exact HB.out)⟩
                · rw [if_neg c30] at H
                  exact absurd H (by simp)
              · rw [if_neg c28] at H
                exact absurd H (by simp)
            · rw [if_neg c27] at H
              exact absurd H (by simp)
          · replace c26 := Bool.eq_false_iff.mpr c26
            subst c26
            have H1 : (none) = some r := by rw [if_neg (show ¬ (false = true) by decide)] at H; exact H
            clear H
            have H := H1
            clear H1
            exact absurd H (by simp)
        · replace c24 := Bool.eq_false_iff.mpr c24
          subst c24
          have H1 : (none) = some r := by rw [if_neg (show ¬ (false = true) by decide)] at H; exact H
          clear H
          have H := H1
          clear H1
          exact absurd H (by simp)

/-- THE ONE PURE STATEMENT of godwitlaw15_SeqsEnds. -/
def godwitlaw15_SeqsEnds.Pure : Prop := ∀ (a0 : Int) (a1 : Int), ((Lit.int .i64 a0).wf = true) → ((Lit.int .i64 a1).wf = true) → ∃ k, godwitlaw15_SeqsEnds.f k a0 a1 = some true

end Go.Proofs.YtpdfccncfkejiaaDoor.Q
