-- written by a turned copy of the kit's printer (wip/tools/patch_print.py over print.py); contracts of given functions are this session's own
import Derived.Test.YtaolmpchenpaeaaQx0
import Derived.Test.YtaolmpchenpaeaaQx3
import Derived.Test.YtaolmpchenpaeaaQx5
import Derived.Test.YtaolmpchenpaeaaQx6
import Derived.Test.YtaolmpchenpaeaaQx9
namespace Go.Proofs.Ytaolmpchenpaeaa.Q
open Go.RowKit Go.Proofs.YtaolmpchenpaeaaW.PrintWords Go.Proofs.YtaolmpchenpaeaaW.PrintLast Go.Proofs.YtaolmpchenpaeaaW.PrintMore Go.Proofs.Ytaolmpchenpaeaa.G
attribute [local go_sem] max2_int min2_int max_two min_two max_three min_three max_four min_four   -- for this text's walks alone
set_option linter.unusedVariables false
set_option linter.unusedSimpArgs false

/-! ### tokens_Finish: function 14 -/
mutual
def tokens_Finish.j0 : Nat → Int → Bool → List (S33) → Int → Int → Int → Int → Int → Int → Int → Int → Option ((List (S33)) × Int)
  | 0, _, _, _, _, _, _, _, _, _, _, _ => none
  | k + 1, x2, x23, x161000, x163000, x163001, x163002, x163003, x169000, x169001, x169002, x169003 => if x23 = true then (some (([] : List (S33)), 1)) else (if x169002 = 2 then (some (([] : List (S33)), 7)) else (if x169002 = 1 then (tokens_Finish.j1 k (x169001 != x2) x161000 x163000 x163001 x163002 x163003) else (tokens_Finish.j1 k true x161000 x163000 x163001 x163002 x163003)))
def tokens_Finish.j1 : Nat → Bool → List (S33) → Int → Int → Int → Int → Option ((List (S33)) × Int)
  | 0, _, _, _, _, _, _ => none
  | k + 1, x38, x161000, x163000, x163001, x163002, x163003 => if x38 = true then (some (([] : List (S33)), 14)) else ((tokens_Table_with.f k x161000 x163000 x163001 x163002 x163003).bind fun bt171 => (some (bt171.1, bt171.2)))
end
def tokens_Finish.f (k : Nat) (l0_0 : List (S33)) (a1 : Int) (a2 : Int) (a3 : Int) : Option ((List (S33)) × Int) := (tokens_Find.f l0_0 a1).bind fun bt163 => ((tokens_Sane.f k l0_0).bind fun t169 => (if t169 = true then ((tokens_Entry_sound.f k a1 a2 2 a3).bind fun t170 => (tokens_Finish.j0 k a2 (!t170) l0_0 a1 a2 2 a3 bt163.1 bt163.2.1 bt163.2.2.1 bt163.2.2.2.1)) else (tokens_Finish.j0 k a2 true l0_0 a1 a2 2 a3 bt163.1 bt163.2.1 bt163.2.2.1 bt163.2.2.2.1)))
theorem tokens_Finish.mono_l : ∀ k, (∀ y0 y1 y2 y3 y4 y5 y6 y7 y8 y9 y10, LeO (tokens_Finish.j0 k y0 y1 y2 y3 y4 y5 y6 y7 y8 y9 y10) (tokens_Finish.j0 (k + 1) y0 y1 y2 y3 y4 y5 y6 y7 y8 y9 y10)) ∧ (∀ y0 y1 y2 y3 y4 y5, LeO (tokens_Finish.j1 k y0 y1 y2 y3 y4 y5) (tokens_Finish.j1 (k + 1) y0 y1 y2 y3 y4 y5))
  | 0 => ⟨fun _ _ _ _ _ _ _ _ _ _ _ r h => by simp [tokens_Finish.j0] at h, fun _ _ _ _ _ _ r h => by simp [tokens_Finish.j1] at h⟩
  | k + 1 => by
    obtain ⟨ih0, ih1⟩ := tokens_Finish.mono_l k
    refine ⟨?_, ?_⟩
    · intro y0 y1 y2 y3 y4 y5 y6 y7 y8 y9 y10
      unfold tokens_Finish.j0
      repeat' first
      | (with_reducible exact ih0 _ _ _ _ _ _ _ _ _ _ _)
      | (with_reducible exact ih1 _ _ _ _ _ _)
      | (with_reducible exact tokens_Entry_sound.mono _ _ _ _ _)
      | (with_reducible exact tokens_Sane.mono _ _)
      | (with_reducible exact tokens_Table_with.mono _ _ _ _ _ _)
      | (with_reducible exact LeO.refl _)
      | (with_reducible exact LeO.none _)
      | (with_reducible refine LeO.ite ?_ ?_)
      | (with_reducible refine LeO.bind ?_ (fun _ => ?_))
      | exact ih0 _ _ _ _ _ _ _ _ _ _ _
      | exact ih1 _ _ _ _ _ _
      | exact tokens_Entry_sound.mono _ _ _ _ _
      | exact tokens_Sane.mono _ _
      | exact tokens_Table_with.mono _ _ _ _ _ _
      | exact LeO.none _
      | refine LeO.ite ?_ ?_
      | refine LeO.bind ?_ (fun _ => ?_)
    · intro y0 y1 y2 y3 y4 y5
      unfold tokens_Finish.j1
      repeat' first
      | (with_reducible exact ih0 _ _ _ _ _ _ _ _ _ _ _)
      | (with_reducible exact ih1 _ _ _ _ _ _)
      | (with_reducible exact tokens_Entry_sound.mono _ _ _ _ _)
      | (with_reducible exact tokens_Sane.mono _ _)
      | (with_reducible exact tokens_Table_with.mono _ _ _ _ _ _)
      | (with_reducible exact LeO.refl _)
      | (with_reducible exact LeO.none _)
      | (with_reducible refine LeO.ite ?_ ?_)
      | (with_reducible refine LeO.bind ?_ (fun _ => ?_))
      | exact ih0 _ _ _ _ _ _ _ _ _ _ _
      | exact ih1 _ _ _ _ _ _
      | exact tokens_Entry_sound.mono _ _ _ _ _
      | exact tokens_Sane.mono _ _
      | exact tokens_Table_with.mono _ _ _ _ _ _
      | exact LeO.none _
      | refine LeO.ite ?_ ?_
      | refine LeO.bind ?_ (fun _ => ?_)
theorem tokens_Finish.mono : ∀ a0 a1 a2 a3 k, LeO (tokens_Finish.f k a0 a1 a2 a3) (tokens_Finish.f (k + 1) a0 a1 a2 a3) := by
  intro a0 a1 a2 a3 k
  obtain ⟨ih0, ih1⟩ := tokens_Finish.mono_l k
  unfold tokens_Finish.f
  repeat' first
      | (with_reducible exact ih0 _ _ _ _ _ _ _ _ _ _ _)
      | (with_reducible exact ih1 _ _ _ _ _ _)
      | (with_reducible exact tokens_Entry_sound.mono _ _ _ _ _)
      | (with_reducible exact tokens_Sane.mono _ _)
      | (with_reducible exact tokens_Table_with.mono _ _ _ _ _ _)
      | (with_reducible exact LeO.refl _)
      | (with_reducible exact LeO.none _)
      | (with_reducible refine LeO.ite ?_ ?_)
      | (with_reducible refine LeO.bind ?_ (fun _ => ?_))
      | exact ih0 _ _ _ _ _ _ _ _ _ _ _
      | exact ih1 _ _ _ _ _ _
      | exact tokens_Entry_sound.mono _ _ _ _ _
      | exact tokens_Sane.mono _ _
      | exact tokens_Table_with.mono _ _ _ _ _ _
      | exact LeO.none _
      | refine LeO.ite ?_ ?_
      | refine LeO.bind ?_ (fun _ => ?_)
set_option maxHeartbeats 8000000 in
set_option maxRecDepth 100000 in
theorem tokens_Finish.calls (k : Nat) (A0_0 : Option Addr) (c0_0 : Nat) (l0_0 : List (S33)) (a1 : Int) (a2 : Int) (a3 : Int) (r1 : List (S33)) (r2 : Int) (w : World) (hr0_0 : Kd.C k33 w A0_0 l0_0.length l0_0) (hc0_0 : l0_0.length ≤ c0_0) (h : tokens_Finish.f k l0_0 a1 a2 a3 = some (r1, r2)) :
    Calls Try.prog 14 #[.agg #[.slice A0_0 l0_0.length c0_0], .int .i64 a1, .int .i64 a2, .int .i64 a3] w fun e w' => ∃ v0_ : Value, e = .returned (.tuple #[.agg #[v0_], .int .i64 r2]) ∧ Kd.R k33 33 w' w.heap.size (fun _ => True) v0_ r1 ∧ Below w.heap.size w w' := by
  have hu26 := Try.underlying26
  have hu33 := Try.underlying33
  have HR0_0 := Aside0.mk hr0_0
  have HC0_0 := Aside0.mk hc0_0
  clear hr0_0 hc0_0
  have HB := Aside0.mk (Below.refl w.heap.size w)
  have H : ((tokens_Find.f l0_0 a1).bind fun bt163 => ((tokens_Sane.f k l0_0).bind fun t169 => (if t169 = true then ((tokens_Entry_sound.f k a1 a2 2 a3).bind fun t170 => (tokens_Finish.j0 k a2 (!t170) l0_0 a1 a2 2 a3 bt163.1 bt163.2.1 bt163.2.2.1 bt163.2.2.2.1)) else (tokens_Finish.j0 k a2 true l0_0 a1 a2 2 a3 bt163.1 bt163.2.1 bt163.2.2.1 bt163.2.2.2.1)))) = some (r1, r2) := h
  clear h
  replace H := Option.bind_eq_some_iff.mp H
  obtain ⟨⟨t163, t164, t165, t166, t167⟩, A50, H⟩ := H
  replace H : ((tokens_Sane.f k l0_0).bind fun t169 => (if t169 = true then ((tokens_Entry_sound.f k a1 a2 2 a3).bind fun t170 => (tokens_Finish.j0 k a2 (!t170) l0_0 a1 a2 2 a3 t163 t164 t165 t166)) else (tokens_Finish.j0 k a2 true l0_0 a1 a2 2 a3 t163 t164 t165 t166))) = some (r1, r2) := H
  have A5 := Aside0.mk A50
  clear A50
  have HC6 := Aside0.mk H
  clear H
  go_enter Try.func14, Try.ntmps14
  go_upto_region 3 with (first | ((with_reducible refine gate_dst (N := 4) rfl ?_); refine box_event ?hg (N := 4) ?hd (cs := #[.slice A0_0 l0_0.length c0_0]) (t := 26) ?hr ?_; (case hd => rfl); (case hg => rfl); (case hr => first | (go_simp; done) | (go_simp; rfl)); intro gb160 hg w7 hbox hb; have n0_ := Aside0.mk (below_step (by repeat (first | (with_reducible first | exact HB.out | apply below_alloc | apply pw_below_drewN | apply below_drew1) | exact HB.out)) hb); have n1_ := Aside0.mk (hbox); have n2_ := Aside0.mk ((by rw [hg]; exact (below_size (by repeat (first | (with_reducible first | exact HB.out | apply below_alloc | apply pw_below_drewN | apply below_drew1) | exact HB.out))) : w.heap.size ≤ gb160)); have n3_ := Aside0.mk ((by rw [hg]; exact (below_size (by repeat (first | (with_reducible first | exact HB.out | apply below_alloc | apply pw_below_drewN | apply below_drew1) | exact HB.out))) : w.heap.size ≤ gb160)); clear HB; have HB := n0_; have BK160 := n1_; have GW160 := n2_; have GE160 := n3_; clear n0_ n1_ n2_ n3_; clear hb hbox hg) | ((with_reducible refine gate_dst (N := 8) rfl ?_); refine box_event ?hg (N := 8) ?hd (cs := #[.slice none 0 0]) (t := 26) ?hr ?_; (case hd => rfl); (case hg => rfl); (case hr => first | (go_simp; done) | (go_simp; rfl)); intro gb161 hg w8 hbox hb; have n0_ := Aside0.mk (blk_below (g := gb160) (o := .cells #[.slice A0_0 l0_0.length c0_0] 26 (0, 0)) (by (with_reducible repeat (first | refine blk_drewN ?_ _ | refine blk_drew ?_ | refine blk_alloc ?_ _)); exact BK160.out) hb); have n1_ := Aside0.mk (below_step (by repeat (first | (with_reducible first | exact HB.out | apply below_alloc | apply pw_below_drewN | apply below_drew1 | refine below_set ?_ GE160.out) | exact HB.out)) hb); have n2_ := Aside0.mk (hbox); have n3_ := Aside0.mk ((by rw [hg]; exact (below_size (by repeat (first | (with_reducible first | exact HB.out | apply below_alloc | apply pw_below_drewN | apply below_drew1 | refine below_set ?_ GE160.out) | exact HB.out))) : w.heap.size ≤ gb161)); have n4_ := Aside0.mk ((by rw [hg]; exact (below_size (by repeat (first | (with_reducible first | exact HB.out | apply below_alloc | apply pw_below_drewN | apply below_drew1 | refine below_set ?_ GE160.out) | exact HB.out))) : w.heap.size ≤ gb161)); have n5_ := Aside0.mk ((by rw [hg]; exact Nat.ne_of_lt (blk_lt (g := gb160) (o := .cells #[.slice A0_0 l0_0.length c0_0] 26 (0, 0)) (by (with_reducible repeat (first | refine blk_drewN ?_ _ | refine blk_drew ?_ | refine blk_alloc ?_ _)); exact BK160.out)) : gb160 ≠ gb161)); have n6_ := Aside0.mk ((by rw [hg]; exact Nat.ne_of_gt (blk_lt (g := gb160) (o := .cells #[.slice A0_0 l0_0.length c0_0] 26 (0, 0)) (by (with_reducible repeat (first | refine blk_drewN ?_ _ | refine blk_drew ?_ | refine blk_alloc ?_ _)); exact BK160.out)) : gb161 ≠ gb160)); clear BK160; clear HB; have BK160 := n0_; have HB := n1_; have BK161 := n2_; have GW161 := n3_; have GE161 := n4_; have NB160_161 := n5_; have NB161_160 := n6_; clear n0_ n1_ n2_ n3_ n4_ n5_ n6_; clear hb hbox hg) | ((with_reducible refine gate_dst (N := 10) rfl ?_); refine box_event ?hg (N := 10) ?hd (cs := #[.int .i64 0, .int .i64 0, .int .i64 0, .int .i64 0]) (t := 33) ?hr ?_; (case hd => rfl); (case hg => rfl); (case hr => first | (go_simp; done) | (go_simp; rfl)); intro gb162 hg w9 hbox hb; have n0_ := Aside0.mk (blk_below (g := gb160) (o := .cells #[.slice A0_0 l0_0.length c0_0] 26 (0, 0)) (by (with_reducible repeat (first | refine blk_drewN ?_ _ | refine blk_drew ?_ | refine blk_alloc ?_ _)); exact BK160.out) hb); have n1_ := Aside0.mk (blk_below (g := gb161) (o := .cells #[.slice none 0 0] 26 (0, 0)) (by (with_reducible repeat (first | refine blk_drewN ?_ _ | refine blk_drew ?_ | refine blk_alloc ?_ _)); exact BK161.out) hb); have n2_ := Aside0.mk (below_step (by repeat (first | (with_reducible first | exact HB.out | apply below_alloc | apply pw_below_drewN | apply below_drew1 | refine below_set ?_ GE160.out | refine below_set ?_ GE161.out) | exact HB.out)) hb); have n3_ := Aside0.mk (hbox); have n4_ := Aside0.mk ((by rw [hg]; exact (below_size (by repeat (first | (with_reducible first | exact HB.out | apply below_alloc | apply pw_below_drewN | apply below_drew1 | refine below_set ?_ GE160.out | refine below_set ?_ GE161.out) | exact HB.out))) : w.heap.size ≤ gb162)); have n5_ := Aside0.mk ((by rw [hg]; exact (below_size (by repeat (first | (with_reducible first | exact HB.out | apply below_alloc | apply pw_below_drewN | apply below_drew1 | refine below_set ?_ GE160.out | refine below_set ?_ GE161.out) | exact HB.out))) : w.heap.size ≤ gb162)); have n6_ := Aside0.mk ((by rw [hg]; exact Nat.ne_of_lt (blk_lt (g := gb160) (o := .cells #[.slice A0_0 l0_0.length c0_0] 26 (0, 0)) (by (with_reducible repeat (first | refine blk_drewN ?_ _ | refine blk_drew ?_ | refine blk_alloc ?_ _)); exact BK160.out)) : gb160 ≠ gb162)); have n7_ := Aside0.mk ((by rw [hg]; exact Nat.ne_of_gt (blk_lt (g := gb160) (o := .cells #[.slice A0_0 l0_0.length c0_0] 26 (0, 0)) (by (with_reducible repeat (first | refine blk_drewN ?_ _ | refine blk_drew ?_ | refine blk_alloc ?_ _)); exact BK160.out)) : gb162 ≠ gb160)); have n8_ := Aside0.mk ((by rw [hg]; exact Nat.ne_of_lt (blk_lt (g := gb161) (o := .cells #[.slice none 0 0] 26 (0, 0)) (by (with_reducible repeat (first | refine blk_drewN ?_ _ | refine blk_drew ?_ | refine blk_alloc ?_ _)); exact BK161.out)) : gb161 ≠ gb162)); have n9_ := Aside0.mk ((by rw [hg]; exact Nat.ne_of_gt (blk_lt (g := gb161) (o := .cells #[.slice none 0 0] 26 (0, 0)) (by (with_reducible repeat (first | refine blk_drewN ?_ _ | refine blk_drew ?_ | refine blk_alloc ?_ _)); exact BK161.out)) : gb162 ≠ gb161)); clear BK160; clear BK161; clear HB; have BK160 := n0_; have BK161 := n1_; have HB := n2_; have BK162 := n3_; have GW162 := n4_; have GE162 := n5_; have NB160_162 := n6_; have NB162_160 := n7_; have NB161_162 := n8_; have NB162_161 := n9_; clear n0_ n1_ n2_ n3_ n4_ n5_ n6_ n7_ n8_ n9_; clear hb hbox hg; have hnb10 := NB162_160.out; have hnc10 := NB160_162.out; have hnb11 := NB162_161.out; have hnc11 := NB161_162.out; have hcz12_0 : w9.cell? ⟨gb162, 0, none⟩ = some (.int .i64 0) := (blk_cell BK162.out 0).trans rfl; have hcz12_1 : w9.cell? ⟨gb162, 1, none⟩ = some (.int .i64 0) := (blk_cell BK162.out 1).trans rfl; have hcz12_2 : w9.cell? ⟨gb162, 2, none⟩ = some (.int .i64 0) := (blk_cell BK162.out 2).trans rfl; have hcz12_3 : w9.cell? ⟨gb162, 3, none⟩ = some (.int .i64 0) := (blk_cell BK162.out 3).trans rfl; have hfz12_0 := blk_frozen BK162.out 0; have hfz12_1 := blk_frozen BK162.out 1; have hfz12_2 := blk_frozen BK162.out 2; have hfz12_3 := blk_frozen BK162.out 3; have hnb13 := NB160_161.out; have hnc13 := NB161_160.out; have hcz14_0 : w9.cell? ⟨gb160, 0, none⟩ = some (.slice A0_0 l0_0.length c0_0) := (blk_cell BK160.out 0).trans rfl; have hfz14_0 := blk_frozen BK160.out 0) | ((with_reducible refine gate_callee (f := 9) rfl ?_); refine goesL_ (some 20) rfl rfl Try.func9 (by kernel_rfl) rfl #[.agg #[.slice A0_0 l0_0.length c0_0], .int .i64 a1] rfl (by (try simp only [List.map_toArray, List.map_cons, List.map_nil]); first | done | rfl | (simp only [List.length_drop, List.length_take]; rfl)) ?_; (with_reducible refine (tokens_Find.calls _ _ l0_0 a1 t163 t164 t165 t166 t167 _ ?side1 ?side2 A5.out).mono ?_); (case side1 => exact Kd.C_below HR0_0.out (by repeat (first | (with_reducible first | exact HB.out | apply below_alloc | apply pw_below_drewN | apply below_drew1 | refine below_set ?_ GE160.out | refine below_set ?_ GE161.out | refine below_set ?_ GE162.out) | exact HB.out))); (case side2 => exact HC0_0.out); rintro e w15 ⟨rfl, hb⟩; refine ⟨_, rfl, ?_⟩; have n0_ := Aside0.mk (blk_below (g := gb160) (o := .cells #[.slice A0_0 l0_0.length c0_0] 26 (0, 0)) (by (with_reducible repeat (first | refine blk_drewN ?_ _ | refine blk_drew ?_ | refine blk_alloc ?_ _)); refine blk_far ?_ NB160_162.out _; (with_reducible repeat (first | refine blk_drewN ?_ _ | refine blk_drew ?_ | refine blk_alloc ?_ _)); refine blk_far ?_ NB160_162.out _; (with_reducible repeat (first | refine blk_drewN ?_ _ | refine blk_drew ?_ | refine blk_alloc ?_ _)); refine blk_far ?_ NB160_162.out _; (with_reducible repeat (first | refine blk_drewN ?_ _ | refine blk_drew ?_ | refine blk_alloc ?_ _)); refine blk_far ?_ NB160_162.out _; (with_reducible repeat (first | refine blk_drewN ?_ _ | refine blk_drew ?_ | refine blk_alloc ?_ _)); exact BK160.out) hb); have n1_ := Aside0.mk (blk_below (g := gb161) (o := .cells #[.slice none 0 0] 26 (0, 0)) (by (with_reducible repeat (first | refine blk_drewN ?_ _ | refine blk_drew ?_ | refine blk_alloc ?_ _)); refine blk_far ?_ NB161_162.out _; (with_reducible repeat (first | refine blk_drewN ?_ _ | refine blk_drew ?_ | refine blk_alloc ?_ _)); refine blk_far ?_ NB161_162.out _; (with_reducible repeat (first | refine blk_drewN ?_ _ | refine blk_drew ?_ | refine blk_alloc ?_ _)); refine blk_far ?_ NB161_162.out _; (with_reducible repeat (first | refine blk_drewN ?_ _ | refine blk_drew ?_ | refine blk_alloc ?_ _)); refine blk_far ?_ NB161_162.out _; (with_reducible repeat (first | refine blk_drewN ?_ _ | refine blk_drew ?_ | refine blk_alloc ?_ _)); exact BK161.out) hb); have n2_ := Aside0.mk (blk_below (g := gb162) (o := .cells #[.int .i64 a1, .int .i64 a2, .int .i64 2, .int .i64 a3] 33 (0, 0)) (by (with_reducible repeat (first | refine blk_drewN ?_ _ | refine blk_drew ?_ | refine blk_alloc ?_ _)); refine blk_put (cs := #[.int .i64 a1, .int .i64 a2, .int .i64 2, .int .i64 0]) ?_ 3 _ rfl; (with_reducible repeat (first | refine blk_drewN ?_ _ | refine blk_drew ?_ | refine blk_alloc ?_ _)); refine blk_put (cs := #[.int .i64 a1, .int .i64 a2, .int .i64 0, .int .i64 0]) ?_ 2 _ rfl; (with_reducible repeat (first | refine blk_drewN ?_ _ | refine blk_drew ?_ | refine blk_alloc ?_ _)); refine blk_put (cs := #[.int .i64 a1, .int .i64 0, .int .i64 0, .int .i64 0]) ?_ 1 _ rfl; (with_reducible repeat (first | refine blk_drewN ?_ _ | refine blk_drew ?_ | refine blk_alloc ?_ _)); refine blk_put (cs := #[.int .i64 0, .int .i64 0, .int .i64 0, .int .i64 0]) ?_ 0 _ rfl; (with_reducible repeat (first | refine blk_drewN ?_ _ | refine blk_drew ?_ | refine blk_alloc ?_ _)); exact BK162.out) hb); have n3_ := Aside0.mk (below_step (by repeat (first | (with_reducible first | exact HB.out | apply below_alloc | apply pw_below_drewN | apply below_drew1 | refine below_set ?_ GE160.out | refine below_set ?_ GE161.out | refine below_set ?_ GE162.out) | exact HB.out)) hb); clear BK160; clear BK161; clear BK162; clear HB; have BK160 := n0_; have BK161 := n1_; have BK162 := n2_; have HB := n3_; clear n0_ n1_ n2_ n3_; (try clear hb); (try clear hb2); (try clear hk); (try clear hi)) | ((with_reducible refine gate_dst (N := 11) rfl ?_); refine box_event ?hg (N := 11) ?hd (cs := #[.int .i64 0, .int .i64 0, .int .i64 0, .int .i64 0]) (t := 33) ?hr ?_; (case hd => rfl); (case hg => rfl); (case hr => first | (go_simp; done) | (go_simp; rfl)); intro gb168 hg w16 hbox hb; have n0_ := Aside0.mk (blk_below (g := gb160) (o := .cells #[.slice A0_0 l0_0.length c0_0] 26 (0, 0)) (by (with_reducible repeat (first | refine blk_drewN ?_ _ | refine blk_drew ?_ | refine blk_alloc ?_ _)); exact BK160.out) hb); have n1_ := Aside0.mk (blk_below (g := gb161) (o := .cells #[.slice none 0 0] 26 (0, 0)) (by (with_reducible repeat (first | refine blk_drewN ?_ _ | refine blk_drew ?_ | refine blk_alloc ?_ _)); exact BK161.out) hb); have n2_ := Aside0.mk (blk_below (g := gb162) (o := .cells #[.int .i64 a1, .int .i64 a2, .int .i64 2, .int .i64 a3] 33 (0, 0)) (by (with_reducible repeat (first | refine blk_drewN ?_ _ | refine blk_drew ?_ | refine blk_alloc ?_ _)); exact BK162.out) hb); have n3_ := Aside0.mk (below_step (by repeat (first | (with_reducible first | exact HB.out | apply below_alloc | apply pw_below_drewN | apply below_drew1 | refine below_set ?_ GE160.out | refine below_set ?_ GE161.out | refine below_set ?_ GE162.out) | exact HB.out)) hb); have n4_ := Aside0.mk (hbox); have n5_ := Aside0.mk ((by rw [hg]; exact (below_size (by repeat (first | (with_reducible first | exact HB.out | apply below_alloc | apply pw_below_drewN | apply below_drew1 | refine below_set ?_ GE160.out | refine below_set ?_ GE161.out | refine below_set ?_ GE162.out) | exact HB.out))) : w.heap.size ≤ gb168)); have n6_ := Aside0.mk ((by rw [hg]; exact (below_size (by repeat (first | (with_reducible first | exact HB.out | apply below_alloc | apply pw_below_drewN | apply below_drew1 | refine below_set ?_ GE160.out | refine below_set ?_ GE161.out | refine below_set ?_ GE162.out) | exact HB.out))) : w.heap.size ≤ gb168)); have n7_ := Aside0.mk ((by rw [hg]; exact Nat.ne_of_lt (blk_lt (g := gb160) (o := .cells #[.slice A0_0 l0_0.length c0_0] 26 (0, 0)) (by (with_reducible repeat (first | refine blk_drewN ?_ _ | refine blk_drew ?_ | refine blk_alloc ?_ _)); exact BK160.out)) : gb160 ≠ gb168)); have n8_ := Aside0.mk ((by rw [hg]; exact Nat.ne_of_gt (blk_lt (g := gb160) (o := .cells #[.slice A0_0 l0_0.length c0_0] 26 (0, 0)) (by (with_reducible repeat (first | refine blk_drewN ?_ _ | refine blk_drew ?_ | refine blk_alloc ?_ _)); exact BK160.out)) : gb168 ≠ gb160)); have n9_ := Aside0.mk ((by rw [hg]; exact Nat.ne_of_lt (blk_lt (g := gb161) (o := .cells #[.slice none 0 0] 26 (0, 0)) (by (with_reducible repeat (first | refine blk_drewN ?_ _ | refine blk_drew ?_ | refine blk_alloc ?_ _)); exact BK161.out)) : gb161 ≠ gb168)); have n10_ := Aside0.mk ((by rw [hg]; exact Nat.ne_of_gt (blk_lt (g := gb161) (o := .cells #[.slice none 0 0] 26 (0, 0)) (by (with_reducible repeat (first | refine blk_drewN ?_ _ | refine blk_drew ?_ | refine blk_alloc ?_ _)); exact BK161.out)) : gb168 ≠ gb161)); have n11_ := Aside0.mk ((by rw [hg]; exact Nat.ne_of_lt (blk_lt (g := gb162) (o := .cells #[.int .i64 a1, .int .i64 a2, .int .i64 2, .int .i64 a3] 33 (0, 0)) (by (with_reducible repeat (first | refine blk_drewN ?_ _ | refine blk_drew ?_ | refine blk_alloc ?_ _)); exact BK162.out)) : gb162 ≠ gb168)); have n12_ := Aside0.mk ((by rw [hg]; exact Nat.ne_of_gt (blk_lt (g := gb162) (o := .cells #[.int .i64 a1, .int .i64 a2, .int .i64 2, .int .i64 a3] 33 (0, 0)) (by (with_reducible repeat (first | refine blk_drewN ?_ _ | refine blk_drew ?_ | refine blk_alloc ?_ _)); exact BK162.out)) : gb168 ≠ gb162)); clear BK160; clear BK161; clear BK162; clear HB; have BK160 := n0_; have BK161 := n1_; have BK162 := n2_; have HB := n3_; have BK168 := n4_; have GW168 := n5_; have GE168 := n6_; have NB160_168 := n7_; have NB168_160 := n8_; have NB161_168 := n9_; have NB168_161 := n10_; have NB162_168 := n11_; have NB168_162 := n12_; clear n0_ n1_ n2_ n3_ n4_ n5_ n6_ n7_ n8_ n9_ n10_ n11_ n12_; clear hb hbox hg; have hnb17 := NB168_160.out; have hnc17 := NB160_168.out; have hnb18 := NB168_161.out; have hnc18 := NB161_168.out; have hnb19 := NB168_162.out; have hnc19 := NB162_168.out; have hcz20_0 : w16.cell? ⟨gb168, 0, none⟩ = some (.int .i64 0) := (blk_cell BK168.out 0).trans rfl; have hcz20_1 : w16.cell? ⟨gb168, 1, none⟩ = some (.int .i64 0) := (blk_cell BK168.out 1).trans rfl; have hcz20_2 : w16.cell? ⟨gb168, 2, none⟩ = some (.int .i64 0) := (blk_cell BK168.out 2).trans rfl; have hcz20_3 : w16.cell? ⟨gb168, 3, none⟩ = some (.int .i64 0) := (blk_cell BK168.out 3).trans rfl; have hfz20_0 := blk_frozen BK168.out 0; have hfz20_1 := blk_frozen BK168.out 1; have hfz20_2 := blk_frozen BK168.out 2; have hfz20_3 := blk_frozen BK168.out 3))
  (try simp only [Act.put, List.setIfInBounds_toArray, List.set_cons_zero, List.set_cons_succ])
  go_cut [23] (fun v23 wc => ∃ (kq : Nat) (x23_5 : Bool), v23 = .bool x23_5 ∧ Aside0 (tokens_Finish.j0 kq a2 x23_5 l0_0 a1 a2 2 a3 t163 t164 t165 t166 = some (r1, r2)) ∧ Aside0 (kq ≤ k) ∧ Aside0 (wc.heap[gb160]? = some (.cells #[(.slice A0_0 l0_0.length c0_0)] 26 (0, 0))) ∧ Aside0 (wc.heap[gb161]? = some (.cells #[(.slice none 0 0)] 26 (0, 0))) ∧ Aside0 (wc.heap[gb162]? = some (.cells #[.int .i64 a1, .int .i64 a2, .int .i64 2, .int .i64 a3] 33 (0, 0))) ∧ Aside0 (wc.heap[gb168]? = some (.cells #[.int .i64 t163, .int .i64 t164, .int .i64 t165, .int .i64 t166] 33 (0, 0))) ∧ Aside0 (Below w.heap.size w wc))
  case first =>
    have H := HC6.out
    clear HC6
    replace H := Option.bind_eq_some_iff.mp H
    obtain ⟨t169, A210, H⟩ := H
    replace H : (if t169 = true then ((tokens_Entry_sound.f k a1 a2 2 a3).bind fun t170 => (tokens_Finish.j0 k a2 (!t170) l0_0 a1 a2 2 a3 t163 t164 t165 t166)) else (tokens_Finish.j0 k a2 true l0_0 a1 a2 2 a3 t163 t164 t165 t166)) = some (r1, r2) := H
    have A21 := Aside0.mk A210
    clear A210
    by_cases c22 : t169 = true
    · subst c22
      have H1 : ((tokens_Entry_sound.f k a1 a2 2 a3).bind fun t170 => (tokens_Finish.j0 k a2 (!t170) l0_0 a1 a2 2 a3 t163 t164 t165 t166)) = some (r1, r2) := by rw [if_pos rfl] at H; exact H
      clear H
      have H := H1
      clear H1
      replace H := Option.bind_eq_some_iff.mp H
      obtain ⟨t170, A230, H⟩ := H
      replace H : (tokens_Finish.j0 k a2 (!t170) l0_0 a1 a2 2 a3 t163 t164 t165 t166) = some (r1, r2) := H
      have A23 := Aside0.mk A230
      clear A230
      have H' := Aside0.mk H
      clear H
      have hnb24 := NB160_161.out
      have hnc24 := NB161_160.out
      have hnb25 := NB160_162.out
      have hnc25 := NB162_160.out
      have hnb26 := NB160_168.out
      have hnc26 := NB168_160.out
      have hcz27_0 : w16.cell? ⟨gb160, 0, none⟩ = some (.slice A0_0 l0_0.length c0_0) := (blk_cell BK160.out 0).trans rfl
      have hfz27_0 := blk_frozen BK160.out 0
      go_wp2_with (first | ((with_reducible refine gate_callee (f := 10) rfl ?_); refine goesL_ (some 25) rfl rfl Try.func10 (by kernel_rfl) rfl #[.agg #[.slice A0_0 l0_0.length c0_0]] rfl (by (try simp only [List.map_toArray, List.map_cons, List.map_nil]); first | done | rfl | (simp only [List.length_drop, List.length_take]; rfl)) ?_; (with_reducible refine (tokens_Sane.calls k _ _ l0_0 true _ ?side1 ?side2 A21.out).mono ?_); (case side1 => exact Kd.C_below HR0_0.out (by repeat (first | (with_reducible first | exact HB.out | apply below_alloc | apply pw_below_drewN | apply below_drew1 | refine below_set ?_ GE160.out | refine below_set ?_ GE161.out | refine below_set ?_ GE162.out | refine below_set ?_ GE168.out) | exact HB.out))); (case side2 => exact HC0_0.out); rintro e w28 ⟨rfl, hb⟩; refine ⟨_, rfl, ?_⟩; have n0_ := Aside0.mk (blk_below (g := gb160) (o := .cells #[.slice A0_0 l0_0.length c0_0] 26 (0, 0)) (by (with_reducible repeat (first | refine blk_drewN ?_ _ | refine blk_drew ?_ | refine blk_alloc ?_ _)); refine blk_far ?_ NB160_168.out _; (with_reducible repeat (first | refine blk_drewN ?_ _ | refine blk_drew ?_ | refine blk_alloc ?_ _)); refine blk_far ?_ NB160_168.out _; (with_reducible repeat (first | refine blk_drewN ?_ _ | refine blk_drew ?_ | refine blk_alloc ?_ _)); refine blk_far ?_ NB160_168.out _; (with_reducible repeat (first | refine blk_drewN ?_ _ | refine blk_drew ?_ | refine blk_alloc ?_ _)); refine blk_far ?_ NB160_168.out _; (with_reducible repeat (first | refine blk_drewN ?_ _ | refine blk_drew ?_ | refine blk_alloc ?_ _)); exact BK160.out) hb); have n1_ := Aside0.mk (blk_below (g := gb161) (o := .cells #[.slice none 0 0] 26 (0, 0)) (by (with_reducible repeat (first | refine blk_drewN ?_ _ | refine blk_drew ?_ | refine blk_alloc ?_ _)); refine blk_far ?_ NB161_168.out _; (with_reducible repeat (first | refine blk_drewN ?_ _ | refine blk_drew ?_ | refine blk_alloc ?_ _)); refine blk_far ?_ NB161_168.out _; (with_reducible repeat (first | refine blk_drewN ?_ _ | refine blk_drew ?_ | refine blk_alloc ?_ _)); refine blk_far ?_ NB161_168.out _; (with_reducible repeat (first | refine blk_drewN ?_ _ | refine blk_drew ?_ | refine blk_alloc ?_ _)); refine blk_far ?_ NB161_168.out _; (with_reducible repeat (first | refine blk_drewN ?_ _ | refine blk_drew ?_ | refine blk_alloc ?_ _)); exact BK161.out) hb); have n2_ := Aside0.mk (blk_below (g := gb162) (o := .cells #[.int .i64 a1, .int .i64 a2, .int .i64 2, .int .i64 a3] 33 (0, 0)) (by (with_reducible repeat (first | refine blk_drewN ?_ _ | refine blk_drew ?_ | refine blk_alloc ?_ _)); refine blk_far ?_ NB162_168.out _; (with_reducible repeat (first | refine blk_drewN ?_ _ | refine blk_drew ?_ | refine blk_alloc ?_ _)); refine blk_far ?_ NB162_168.out _; (with_reducible repeat (first | refine blk_drewN ?_ _ | refine blk_drew ?_ | refine blk_alloc ?_ _)); refine blk_far ?_ NB162_168.out _; (with_reducible repeat (first | refine blk_drewN ?_ _ | refine blk_drew ?_ | refine blk_alloc ?_ _)); refine blk_far ?_ NB162_168.out _; (with_reducible repeat (first | refine blk_drewN ?_ _ | refine blk_drew ?_ | refine blk_alloc ?_ _)); exact BK162.out) hb); have n3_ := Aside0.mk (blk_below (g := gb168) (o := .cells #[.int .i64 t163, .int .i64 t164, .int .i64 t165, .int .i64 t166] 33 (0, 0)) (by (with_reducible repeat (first | refine blk_drewN ?_ _ | refine blk_drew ?_ | refine blk_alloc ?_ _)); refine blk_put (cs := #[.int .i64 t163, .int .i64 t164, .int .i64 t165, .int .i64 0]) ?_ 3 _ rfl; (with_reducible repeat (first | refine blk_drewN ?_ _ | refine blk_drew ?_ | refine blk_alloc ?_ _)); refine blk_put (cs := #[.int .i64 t163, .int .i64 t164, .int .i64 0, .int .i64 0]) ?_ 2 _ rfl; (with_reducible repeat (first | refine blk_drewN ?_ _ | refine blk_drew ?_ | refine blk_alloc ?_ _)); refine blk_put (cs := #[.int .i64 t163, .int .i64 0, .int .i64 0, .int .i64 0]) ?_ 1 _ rfl; (with_reducible repeat (first | refine blk_drewN ?_ _ | refine blk_drew ?_ | refine blk_alloc ?_ _)); refine blk_put (cs := #[.int .i64 0, .int .i64 0, .int .i64 0, .int .i64 0]) ?_ 0 _ rfl; (with_reducible repeat (first | refine blk_drewN ?_ _ | refine blk_drew ?_ | refine blk_alloc ?_ _)); exact BK168.out) hb); have n4_ := Aside0.mk (below_step (by repeat (first | (with_reducible first | exact HB.out | apply below_alloc | apply pw_below_drewN | apply below_drew1 | refine below_set ?_ GE160.out | refine below_set ?_ GE161.out | refine below_set ?_ GE162.out | refine below_set ?_ GE168.out) | exact HB.out)) hb); clear BK160; clear BK161; clear BK162; clear BK168; clear HB; have BK160 := n0_; have BK161 := n1_; have BK162 := n2_; have BK168 := n3_; have HB := n4_; clear n0_ n1_ n2_ n3_ n4_; (try clear hb); (try clear hb2); (try clear hk); (try clear hi); have hnb29 := NB162_161.out; have hnc29 := NB161_162.out; have hnb30 := NB162_168.out; have hnc30 := NB168_162.out; have hcz31_0 : w28.cell? ⟨gb162, 0, none⟩ = some (.int .i64 a1) := (blk_cell BK162.out 0).trans rfl; have hcz31_1 : w28.cell? ⟨gb162, 1, none⟩ = some (.int .i64 a2) := (blk_cell BK162.out 1).trans rfl; have hcz31_2 : w28.cell? ⟨gb162, 2, none⟩ = some (.int .i64 2) := (blk_cell BK162.out 2).trans rfl; have hcz31_3 : w28.cell? ⟨gb162, 3, none⟩ = some (.int .i64 a3) := (blk_cell BK162.out 3).trans rfl; have hfz31_0 := blk_frozen BK162.out 0; have hfz31_1 := blk_frozen BK162.out 1; have hfz31_2 := blk_frozen BK162.out 2; have hfz31_3 := blk_frozen BK162.out 3) | (go_at_call 16; (with_reducible refine (tokens_Entry_sound.calls k a1 a2 2 a3 t170 _ A23.out).mono ?_); rintro e w32 ⟨rfl, hb⟩; have n0_ := Aside0.mk (blk_below (g := gb160) (o := .cells #[.slice A0_0 l0_0.length c0_0] 26 (0, 0)) (by (with_reducible repeat (first | refine blk_drewN ?_ _ | refine blk_drew ?_ | refine blk_alloc ?_ _)); exact BK160.out) hb); have n1_ := Aside0.mk (blk_below (g := gb161) (o := .cells #[.slice none 0 0] 26 (0, 0)) (by (with_reducible repeat (first | refine blk_drewN ?_ _ | refine blk_drew ?_ | refine blk_alloc ?_ _)); exact BK161.out) hb); have n2_ := Aside0.mk (blk_below (g := gb162) (o := .cells #[.int .i64 a1, .int .i64 a2, .int .i64 2, .int .i64 a3] 33 (0, 0)) (by (with_reducible repeat (first | refine blk_drewN ?_ _ | refine blk_drew ?_ | refine blk_alloc ?_ _)); exact BK162.out) hb); have n3_ := Aside0.mk (blk_below (g := gb168) (o := .cells #[.int .i64 t163, .int .i64 t164, .int .i64 t165, .int .i64 t166] 33 (0, 0)) (by (with_reducible repeat (first | refine blk_drewN ?_ _ | refine blk_drew ?_ | refine blk_alloc ?_ _)); exact BK168.out) hb); have n4_ := Aside0.mk (below_step (by repeat (first | (with_reducible first | exact HB.out | apply below_alloc | apply pw_below_drewN | apply below_drew1 | refine below_set ?_ GE160.out | refine below_set ?_ GE161.out | refine below_set ?_ GE162.out | refine below_set ?_ GE168.out) | exact HB.out)) hb); clear BK160; clear BK161; clear BK162; clear BK168; clear HB; have BK160 := n0_; have BK161 := n1_; have BK162 := n2_; have BK168 := n3_; have HB := n4_; clear n0_ n1_ n2_ n3_ n4_; (try clear hb); (try clear hb2); (try clear hk); (try clear hi)))
      go_meet
      case rel => exact ⟨_, (!t170), (by first | rfl | (simp; done) | (simp [*]; done)), H', ⟨by first | omega | exact Nat.le_refl _⟩, ⟨by (with_reducible repeat (first | refine blk_drewN ?_ _ | refine blk_drew ?_ | refine blk_alloc ?_ _)); exact BK160.out⟩, ⟨by (with_reducible repeat (first | refine blk_drewN ?_ _ | refine blk_drew ?_ | refine blk_alloc ?_ _)); exact BK161.out⟩, ⟨by (with_reducible repeat (first | refine blk_drewN ?_ _ | refine blk_drew ?_ | refine blk_alloc ?_ _)); exact BK162.out⟩, ⟨by (with_reducible repeat (first | refine blk_drewN ?_ _ | refine blk_drew ?_ | refine blk_alloc ?_ _)); exact BK168.out⟩, ⟨by repeat (first | (with_reducible first | exact HB.out | apply below_alloc | apply pw_below_drewN | apply below_drew1 | refine below_set ?_ GE160.out | refine below_set ?_ GE161.out | refine below_set ?_ GE162.out | refine below_set ?_ GE168.out) | exact HB.out)⟩⟩
    · replace c22 := Bool.eq_false_iff.mpr c22
      subst c22
      have H1 : (tokens_Finish.j0 k a2 true l0_0 a1 a2 2 a3 t163 t164 t165 t166) = some (r1, r2) := by rw [if_neg (show ¬ (false = true) by decide)] at H; exact H
      clear H
      have H := H1
      clear H1
      have H' := Aside0.mk H
      clear H
      have hnb33 := NB160_161.out
      have hnc33 := NB161_160.out
      have hnb34 := NB160_162.out
      have hnc34 := NB162_160.out
      have hnb35 := NB160_168.out
      have hnc35 := NB168_160.out
      have hcz36_0 : w16.cell? ⟨gb160, 0, none⟩ = some (.slice A0_0 l0_0.length c0_0) := (blk_cell BK160.out 0).trans rfl
      have hfz36_0 := blk_frozen BK160.out 0
      go_wp2_with (first | ((with_reducible refine gate_callee (f := 10) rfl ?_); refine goesL_ (some 25) rfl rfl Try.func10 (by kernel_rfl) rfl #[.agg #[.slice A0_0 l0_0.length c0_0]] rfl (by (try simp only [List.map_toArray, List.map_cons, List.map_nil]); first | done | rfl | (simp only [List.length_drop, List.length_take]; rfl)) ?_; (with_reducible refine (tokens_Sane.calls k _ _ l0_0 false _ ?side1 ?side2 A21.out).mono ?_); (case side1 => exact Kd.C_below HR0_0.out (by repeat (first | (with_reducible first | exact HB.out | apply below_alloc | apply pw_below_drewN | apply below_drew1 | refine below_set ?_ GE160.out | refine below_set ?_ GE161.out | refine below_set ?_ GE162.out | refine below_set ?_ GE168.out) | exact HB.out))); (case side2 => exact HC0_0.out); rintro e w37 ⟨rfl, hb⟩; refine ⟨_, rfl, ?_⟩; have n0_ := Aside0.mk (blk_below (g := gb160) (o := .cells #[.slice A0_0 l0_0.length c0_0] 26 (0, 0)) (by (with_reducible repeat (first | refine blk_drewN ?_ _ | refine blk_drew ?_ | refine blk_alloc ?_ _)); refine blk_far ?_ NB160_168.out _; (with_reducible repeat (first | refine blk_drewN ?_ _ | refine blk_drew ?_ | refine blk_alloc ?_ _)); refine blk_far ?_ NB160_168.out _; (with_reducible repeat (first | refine blk_drewN ?_ _ | refine blk_drew ?_ | refine blk_alloc ?_ _)); refine blk_far ?_ NB160_168.out _; (with_reducible repeat (first | refine blk_drewN ?_ _ | refine blk_drew ?_ | refine blk_alloc ?_ _)); refine blk_far ?_ NB160_168.out _; (with_reducible repeat (first | refine blk_drewN ?_ _ | refine blk_drew ?_ | refine blk_alloc ?_ _)); exact BK160.out) hb); have n1_ := Aside0.mk (blk_below (g := gb161) (o := .cells #[.slice none 0 0] 26 (0, 0)) (by (with_reducible repeat (first | refine blk_drewN ?_ _ | refine blk_drew ?_ | refine blk_alloc ?_ _)); refine blk_far ?_ NB161_168.out _; (with_reducible repeat (first | refine blk_drewN ?_ _ | refine blk_drew ?_ | refine blk_alloc ?_ _)); refine blk_far ?_ NB161_168.out _; (with_reducible repeat (first | refine blk_drewN ?_ _ | refine blk_drew ?_ | refine blk_alloc ?_ _)); refine blk_far ?_ NB161_168.out _; (with_reducible repeat (first | refine blk_drewN ?_ _ | refine blk_drew ?_ | refine blk_alloc ?_ _)); refine blk_far ?_ NB161_168.out _; (with_reducible repeat (first | refine blk_drewN ?_ _ | refine blk_drew ?_ | refine blk_alloc ?_ _)); exact BK161.out) hb); have n2_ := Aside0.mk (blk_below (g := gb162) (o := .cells #[.int .i64 a1, .int .i64 a2, .int .i64 2, .int .i64 a3] 33 (0, 0)) (by (with_reducible repeat (first | refine blk_drewN ?_ _ | refine blk_drew ?_ | refine blk_alloc ?_ _)); refine blk_far ?_ NB162_168.out _; (with_reducible repeat (first | refine blk_drewN ?_ _ | refine blk_drew ?_ | refine blk_alloc ?_ _)); refine blk_far ?_ NB162_168.out _; (with_reducible repeat (first | refine blk_drewN ?_ _ | refine blk_drew ?_ | refine blk_alloc ?_ _)); refine blk_far ?_ NB162_168.out _; (with_reducible repeat (first | refine blk_drewN ?_ _ | refine blk_drew ?_ | refine blk_alloc ?_ _)); refine blk_far ?_ NB162_168.out _; (with_reducible repeat (first | refine blk_drewN ?_ _ | refine blk_drew ?_ | refine blk_alloc ?_ _)); exact BK162.out) hb); have n3_ := Aside0.mk (blk_below (g := gb168) (o := .cells #[.int .i64 t163, .int .i64 t164, .int .i64 t165, .int .i64 t166] 33 (0, 0)) (by (with_reducible repeat (first | refine blk_drewN ?_ _ | refine blk_drew ?_ | refine blk_alloc ?_ _)); refine blk_put (cs := #[.int .i64 t163, .int .i64 t164, .int .i64 t165, .int .i64 0]) ?_ 3 _ rfl; (with_reducible repeat (first | refine blk_drewN ?_ _ | refine blk_drew ?_ | refine blk_alloc ?_ _)); refine blk_put (cs := #[.int .i64 t163, .int .i64 t164, .int .i64 0, .int .i64 0]) ?_ 2 _ rfl; (with_reducible repeat (first | refine blk_drewN ?_ _ | refine blk_drew ?_ | refine blk_alloc ?_ _)); refine blk_put (cs := #[.int .i64 t163, .int .i64 0, .int .i64 0, .int .i64 0]) ?_ 1 _ rfl; (with_reducible repeat (first | refine blk_drewN ?_ _ | refine blk_drew ?_ | refine blk_alloc ?_ _)); refine blk_put (cs := #[.int .i64 0, .int .i64 0, .int .i64 0, .int .i64 0]) ?_ 0 _ rfl; (with_reducible repeat (first | refine blk_drewN ?_ _ | refine blk_drew ?_ | refine blk_alloc ?_ _)); exact BK168.out) hb); have n4_ := Aside0.mk (below_step (by repeat (first | (with_reducible first | exact HB.out | apply below_alloc | apply pw_below_drewN | apply below_drew1 | refine below_set ?_ GE160.out | refine below_set ?_ GE161.out | refine below_set ?_ GE162.out | refine below_set ?_ GE168.out) | exact HB.out)) hb); clear BK160; clear BK161; clear BK162; clear BK168; clear HB; have BK160 := n0_; have BK161 := n1_; have BK162 := n2_; have BK168 := n3_; have HB := n4_; clear n0_ n1_ n2_ n3_ n4_; (try clear hb); (try clear hb2); (try clear hk); (try clear hi)))
      go_meet
      case rel => exact ⟨_, (true), (by first | rfl | (simp; done) | (simp [*]; done)), H', ⟨by first | omega | exact Nat.le_refl _⟩, ⟨by (with_reducible repeat (first | refine blk_drewN ?_ _ | refine blk_drew ?_ | refine blk_alloc ?_ _)); exact BK160.out⟩, ⟨by (with_reducible repeat (first | refine blk_drewN ?_ _ | refine blk_drew ?_ | refine blk_alloc ?_ _)); exact BK161.out⟩, ⟨by (with_reducible repeat (first | refine blk_drewN ?_ _ | refine blk_drew ?_ | refine blk_alloc ?_ _)); exact BK162.out⟩, ⟨by (with_reducible repeat (first | refine blk_drewN ?_ _ | refine blk_drew ?_ | refine blk_alloc ?_ _)); exact BK168.out⟩, ⟨by repeat (first | (with_reducible first | exact HB.out | apply below_alloc | apply pw_below_drewN | apply below_drew1 | refine below_set ?_ GE160.out | refine below_set ?_ GE161.out | refine below_set ?_ GE162.out | refine below_set ?_ GE168.out) | exact HB.out)⟩⟩
  case rest =>
    clear HC6
    try clear c1
    try clear c2
    try clear p2
    try clear c3
    try clear c9
    try clear c10
    try clear c11
    try clear c13
    try clear c14
    try clear c17
    try clear c18
    try clear c19
    try clear c22
    try clear c24
    try clear c25
    try clear c26
    try clear c29
    try clear c30
    try clear c33
    try clear c34
    try clear c35
    try clear hcz12_0
    try clear hcz12_1
    try clear hcz12_2
    try clear hcz12_3
    try clear hcz14_0
    try clear hcz20_0
    try clear hcz20_1
    try clear hcz20_2
    try clear hcz20_3
    try clear hcz27_0
    try clear hcz31_0
    try clear hcz31_1
    try clear hcz31_2
    try clear hcz31_3
    try clear hcz36_0
    try clear hfz12_0
    try clear hfz12_1
    try clear hfz12_2
    try clear hfz12_3
    try clear hfz14_0
    try clear hfz20_0
    try clear hfz20_1
    try clear hfz20_2
    try clear hfz20_3
    try clear hfz27_0
    try clear hfz31_0
    try clear hfz31_1
    try clear hfz31_2
    try clear hfz31_3
    try clear hfz36_0
    obtain ⟨kq, x23_5, rfl, HA, HJ5, BK160, BK161, BK162, BK168, HB⟩ := hcut
    cases kq with
    | zero => exact absurd HA.out (by simp [tokens_Finish.j0])
    | succ kj5 =>
      have H := HA.out
      clear HA
      simp only [tokens_Finish.j0] at H
      by_cases c38 : x23_5 = true
      · subst c38
        have H1 : (some (([] : List (S33)), 1)) = some (r1, r2) := by rw [if_pos rfl] at H; exact H
        clear H
        have H := H1
        clear H1
        simp only [Option.some.injEq, Prod.mk.injEq] at H
        obtain ⟨rfl, rfl⟩ := H
        have hnb39 := NB161_160.out
        have hnc39 := NB160_161.out
        have hnb40 := NB161_162.out
        have hnc40 := NB162_161.out
        have hnb41 := NB161_168.out
        have hnc41 := NB168_161.out
        have hcz42_0 : wc.cell? ⟨gb161, 0, none⟩ = some (.slice none 0 0) := (blk_cell BK161.out 0).trans rfl
        have hfz42_0 := blk_frozen BK161.out 0
        go_wp2
        refine bodyPost_ret (results_ct rfl _ _ gb161 26 #[.slice none 0 0] (0, 0) _ rfl (by (with_reducible repeat (first | refine blk_drewN ?_ _ | refine blk_drew ?_ | refine blk_alloc ?_ _)); refine blk_put (cs := #[.slice none 0 0]) ?_ 0 _ rfl; (with_reducible repeat (first | refine blk_drewN ?_ _ | refine blk_drew ?_ | refine blk_alloc ?_ _)); exact BK161.out) Try.underlying26 rfl (by kernel_rfl)) rfl ?_
        exact ⟨_, by first | rfl | (simp [errW_none, errW_some] <;> rfl) | (simp [*, errW_none, errW_some] <;> rfl), by first | exact Kd.R_nil _ _ _ _ _ | exact Kd.N_nil _ _ _ _ _ | exact Kd.V_nil _ _ _ _ _ | exact Kd.Q_nil _ _ _ _ _ | exact Kd.S_nil _ _ _ _ _, by repeat (first | (with_reducible first | exact HB.out | apply below_alloc | apply pw_below_drewN | apply below_drew1 | refine below_set ?_ GE160.out | refine below_set ?_ GE161.out | refine below_set ?_ GE162.out | refine below_set ?_ GE168.out) | exact HB.out)⟩
      · replace c38 := Bool.eq_false_iff.mpr c38
        subst c38
        have H1 : (if t165 = 2 then (some (([] : List (S33)), 7)) else (if t165 = 1 then (tokens_Finish.j1 kj5 (t164 != a2) l0_0 a1 a2 2 a3) else (tokens_Finish.j1 kj5 true l0_0 a1 a2 2 a3))) = some (r1, r2) := by rw [if_neg (show ¬ (false = true) by decide)] at H; exact H
        clear H
        have H := H1
        clear H1
        by_cases c43 : t165 = 2
        · rw [if_pos c43] at H
          have c43b0 : (t165 == 2) = true := beq_iff_eq.mpr c43
          have c43b1 : (t165 != 2) = false := bne_eq_false_iff_eq.mpr c43
          clear c43
          simp only [Option.some.injEq, Prod.mk.injEq] at H
          obtain ⟨rfl, rfl⟩ := H
          have hnb44 := NB168_160.out
          have hnc44 := NB160_168.out
          have hnb45 := NB168_161.out
          have hnc45 := NB161_168.out
          have hnb46 := NB168_162.out
          have hnc46 := NB162_168.out
          have hcz47_0 : wc.cell? ⟨gb168, 0, none⟩ = some (.int .i64 t163) := (blk_cell BK168.out 0).trans rfl
          have hcz47_1 : wc.cell? ⟨gb168, 1, none⟩ = some (.int .i64 t164) := (blk_cell BK168.out 1).trans rfl
          have hcz47_2 : wc.cell? ⟨gb168, 2, none⟩ = some (.int .i64 t165) := (blk_cell BK168.out 2).trans rfl
          have hcz47_3 : wc.cell? ⟨gb168, 3, none⟩ = some (.int .i64 t166) := (blk_cell BK168.out 3).trans rfl
          have hfz47_0 := blk_frozen BK168.out 0
          have hfz47_1 := blk_frozen BK168.out 1
          have hfz47_2 := blk_frozen BK168.out 2
          have hfz47_3 := blk_frozen BK168.out 3
          have hnb48 := NB161_160.out
          have hnc48 := NB160_161.out
          have hnb49 := NB161_162.out
          have hnc49 := NB162_161.out
          have hcz50_0 : wc.cell? ⟨gb161, 0, none⟩ = some (.slice none 0 0) := (blk_cell BK161.out 0).trans rfl
          have hfz50_0 := blk_frozen BK161.out 0
          go_wp2
          refine bodyPost_ret (results_ct rfl _ _ gb161 26 #[.slice none 0 0] (0, 0) _ rfl (by (with_reducible repeat (first | refine blk_drewN ?_ _ | refine blk_drew ?_ | refine blk_alloc ?_ _)); refine blk_put (cs := #[.slice none 0 0]) ?_ 0 _ rfl; (with_reducible repeat (first | refine blk_drewN ?_ _ | refine blk_drew ?_ | refine blk_alloc ?_ _)); exact BK161.out) Try.underlying26 rfl (by kernel_rfl)) rfl ?_
          exact ⟨_, by first | rfl | (simp [errW_none, errW_some] <;> rfl) | (simp [*, errW_none, errW_some] <;> rfl), by first | exact Kd.R_nil _ _ _ _ _ | exact Kd.N_nil _ _ _ _ _ | exact Kd.V_nil _ _ _ _ _ | exact Kd.Q_nil _ _ _ _ _ | exact Kd.S_nil _ _ _ _ _, by repeat (first | (with_reducible first | exact HB.out | apply below_alloc | apply pw_below_drewN | apply below_drew1 | refine below_set ?_ GE160.out | refine below_set ?_ GE161.out | refine below_set ?_ GE162.out | refine below_set ?_ GE168.out) | exact HB.out)⟩
        · rw [if_neg c43] at H
          have c43b0 : (t165 == 2) = false := beq_eq_false_iff_ne.mpr c43
          have c43b1 : (t165 != 2) = true := bne_iff_ne.mpr c43
          have HC51 := Aside0.mk H
          clear H
          have hnb52 := NB168_160.out
          have hnc52 := NB160_168.out
          have hnb53 := NB168_161.out
          have hnc53 := NB161_168.out
          have hnb54 := NB168_162.out
          have hnc54 := NB162_168.out
          have hcz55_0 : wc.cell? ⟨gb168, 0, none⟩ = some (.int .i64 t163) := (blk_cell BK168.out 0).trans rfl
          have hcz55_1 : wc.cell? ⟨gb168, 1, none⟩ = some (.int .i64 t164) := (blk_cell BK168.out 1).trans rfl
          have hcz55_2 : wc.cell? ⟨gb168, 2, none⟩ = some (.int .i64 t165) := (blk_cell BK168.out 2).trans rfl
          have hcz55_3 : wc.cell? ⟨gb168, 3, none⟩ = some (.int .i64 t166) := (blk_cell BK168.out 3).trans rfl
          have hfz55_0 := blk_frozen BK168.out 0
          have hfz55_1 := blk_frozen BK168.out 1
          have hfz55_2 := blk_frozen BK168.out 2
          have hfz55_3 := blk_frozen BK168.out 3
          go_upto_region 7 with (fail)
          go_cut [38] (fun v38 wc => ∃ (kq : Nat) (x38_50 : Bool), v38 = .bool x38_50 ∧ Aside0 (tokens_Finish.j1 kq x38_50 l0_0 a1 a2 2 a3 = some (r1, r2)) ∧ Aside0 (kq ≤ kj5) ∧ Aside0 (wc.heap[gb160]? = some (.cells #[(.slice A0_0 l0_0.length c0_0)] 26 (0, 0))) ∧ Aside0 (wc.heap[gb161]? = some (.cells #[(.slice none 0 0)] 26 (0, 0))) ∧ Aside0 (wc.heap[gb162]? = some (.cells #[.int .i64 a1, .int .i64 a2, .int .i64 2, .int .i64 a3] 33 (0, 0))) ∧ Aside0 (wc.heap[gb168]? = some (.cells #[.int .i64 t163, .int .i64 t164, .int .i64 t165, .int .i64 t166] 33 (0, 0))) ∧ Aside0 (Below w.heap.size w wc))
          case first =>
            have H := HC51.out
            clear HC51
            by_cases c56 : t165 = 1
            · rw [if_pos c56] at H
              have c56b0 : (t165 == 1) = true := beq_iff_eq.mpr c56
              have c56b1 : (t165 != 1) = false := bne_eq_false_iff_eq.mpr c56
              clear c56
              (first | rw [c56b0] | (simp only [i64_w, i32_w]; rw [c56b0]) | skip)
              have H' := Aside0.mk H
              clear H
              have hnb57 := NB168_160.out
              have hnc57 := NB160_168.out
              have hnb58 := NB168_161.out
              have hnc58 := NB161_168.out
              have hnb59 := NB168_162.out
              have hnc59 := NB162_168.out
              have hcz60_0 : wc.cell? ⟨gb168, 0, none⟩ = some (.int .i64 t163) := (blk_cell BK168.out 0).trans rfl
              have hcz60_1 : wc.cell? ⟨gb168, 1, none⟩ = some (.int .i64 t164) := (blk_cell BK168.out 1).trans rfl
              have hcz60_2 : wc.cell? ⟨gb168, 2, none⟩ = some (.int .i64 t165) := (blk_cell BK168.out 2).trans rfl
              have hcz60_3 : wc.cell? ⟨gb168, 3, none⟩ = some (.int .i64 t166) := (blk_cell BK168.out 3).trans rfl
              have hfz60_0 := blk_frozen BK168.out 0
              have hfz60_1 := blk_frozen BK168.out 1
              have hfz60_2 := blk_frozen BK168.out 2
              have hfz60_3 := blk_frozen BK168.out 3
              go_wp2
              go_meet
              case rel => exact ⟨_, ((t164 != a2)), (by first | rfl | (simp; done) | (simp [*]; done)), H', ⟨by have := HJ5.out; first | omega | exact Nat.le_refl _⟩, ⟨by (with_reducible repeat (first | refine blk_drewN ?_ _ | refine blk_drew ?_ | refine blk_alloc ?_ _)); exact BK160.out⟩, ⟨by (with_reducible repeat (first | refine blk_drewN ?_ _ | refine blk_drew ?_ | refine blk_alloc ?_ _)); exact BK161.out⟩, ⟨by (with_reducible repeat (first | refine blk_drewN ?_ _ | refine blk_drew ?_ | refine blk_alloc ?_ _)); exact BK162.out⟩, ⟨by (with_reducible repeat (first | refine blk_drewN ?_ _ | refine blk_drew ?_ | refine blk_alloc ?_ _)); exact BK168.out⟩, ⟨by repeat (first | (with_reducible first | exact HB.out | apply below_alloc | apply pw_below_drewN | apply below_drew1 | refine below_set ?_ GE160.out | refine below_set ?_ GE161.out | refine below_set ?_ GE162.out | refine below_set ?_ GE168.out) | exact HB.out)⟩⟩
            · rw [if_neg c56] at H
              have c56b0 : (t165 == 1) = false := beq_eq_false_iff_ne.mpr c56
              have c56b1 : (t165 != 1) = true := bne_iff_ne.mpr c56
              (first | rw [c56b0] | (simp only [i64_w, i32_w]; rw [c56b0]) | skip)
              have H' := Aside0.mk H
              clear H
              have hnb61 := NB168_160.out
              have hnc61 := NB160_168.out
              have hnb62 := NB168_161.out
              have hnc62 := NB161_168.out
              have hnb63 := NB168_162.out
              have hnc63 := NB162_168.out
              have hcz64_0 : wc.cell? ⟨gb168, 0, none⟩ = some (.int .i64 t163) := (blk_cell BK168.out 0).trans rfl
              have hcz64_1 : wc.cell? ⟨gb168, 1, none⟩ = some (.int .i64 t164) := (blk_cell BK168.out 1).trans rfl
              have hcz64_2 : wc.cell? ⟨gb168, 2, none⟩ = some (.int .i64 t165) := (blk_cell BK168.out 2).trans rfl
              have hcz64_3 : wc.cell? ⟨gb168, 3, none⟩ = some (.int .i64 t166) := (blk_cell BK168.out 3).trans rfl
              have hfz64_0 := blk_frozen BK168.out 0
              have hfz64_1 := blk_frozen BK168.out 1
              have hfz64_2 := blk_frozen BK168.out 2
              have hfz64_3 := blk_frozen BK168.out 3
              go_wp2
              go_meet
              case rel => exact ⟨_, (true), (by first | rfl | (simp; done) | (simp [*]; done)), H', ⟨by have := HJ5.out; first | omega | exact Nat.le_refl _⟩, ⟨by (with_reducible repeat (first | refine blk_drewN ?_ _ | refine blk_drew ?_ | refine blk_alloc ?_ _)); exact BK160.out⟩, ⟨by (with_reducible repeat (first | refine blk_drewN ?_ _ | refine blk_drew ?_ | refine blk_alloc ?_ _)); exact BK161.out⟩, ⟨by (with_reducible repeat (first | refine blk_drewN ?_ _ | refine blk_drew ?_ | refine blk_alloc ?_ _)); exact BK162.out⟩, ⟨by (with_reducible repeat (first | refine blk_drewN ?_ _ | refine blk_drew ?_ | refine blk_alloc ?_ _)); exact BK168.out⟩, ⟨by repeat (first | (with_reducible first | exact HB.out | apply below_alloc | apply pw_below_drewN | apply below_drew1 | refine below_set ?_ GE160.out | refine below_set ?_ GE161.out | refine below_set ?_ GE162.out | refine below_set ?_ GE168.out) | exact HB.out)⟩⟩
          case rest =>
            clear HC51
            try clear c1
            try clear c2
            try clear p2
            try clear c3
            try clear c4
            try clear c5
            try clear c6
            try clear c9
            try clear c10
            try clear c11
            try clear c13
            try clear c14
            try clear c17
            try clear c18
            try clear c19
            try clear c22
            try clear c24
            try clear c25
            try clear c26
            try clear c29
            try clear c30
            try clear c33
            try clear c34
            try clear c35
            try clear c38
            try clear c39
            try clear c40
            try clear c41
            try clear c43
            try clear c43b0
            try clear c43b1
            try clear c44
            try clear c45
            try clear c46
            try clear c48
            try clear c49
            try clear c52
            try clear c53
            try clear c54
            try clear c56
            try clear c56b0
            try clear c56b1
            try clear c57
            try clear c58
            try clear c59
            try clear c61
            try clear c62
            try clear c63
            try clear hcz12_0
            try clear hcz12_1
            try clear hcz12_2
            try clear hcz12_3
            try clear hcz14_0
            try clear hcz20_0
            try clear hcz20_1
            try clear hcz20_2
            try clear hcz20_3
            try clear hcz27_0
            try clear hcz31_0
            try clear hcz31_1
            try clear hcz31_2
            try clear hcz31_3
            try clear hcz36_0
            try clear hcz42_0
            try clear hcz47_0
            try clear hcz47_1
            try clear hcz47_2
            try clear hcz47_3
            try clear hcz50_0
            try clear hcz55_0
            try clear hcz55_1
            try clear hcz55_2
            try clear hcz55_3
            try clear hcz60_0
            try clear hcz60_1
            try clear hcz60_2
            try clear hcz60_3
            try clear hcz64_0
            try clear hcz64_1
            try clear hcz64_2
            try clear hcz64_3
            try clear hfz12_0
            try clear hfz12_1
            try clear hfz12_2
            try clear hfz12_3
            try clear hfz14_0
            try clear hfz20_0
            try clear hfz20_1
            try clear hfz20_2
            try clear hfz20_3
            try clear hfz27_0
            try clear hfz31_0
            try clear hfz31_1
            try clear hfz31_2
            try clear hfz31_3
            try clear hfz36_0
            try clear hfz42_0
            try clear hfz47_0
            try clear hfz47_1
            try clear hfz47_2
            try clear hfz47_3
            try clear hfz50_0
            try clear hfz55_0
            try clear hfz55_1
            try clear hfz55_2
            try clear hfz55_3
            try clear hfz60_0
            try clear hfz60_1
            try clear hfz60_2
            try clear hfz60_3
            try clear hfz64_0
            try clear hfz64_1
            try clear hfz64_2
            try clear hfz64_3
            try clear p2
            obtain ⟨kq, x38_50, rfl, HA, HJ50, BK160, BK161, BK162, BK168, HB⟩ := hcut
            cases kq with
            | zero => exact absurd HA.out (by simp [tokens_Finish.j1])
            | succ kj50 =>
              have H := HA.out
              clear HA
              simp only [tokens_Finish.j1] at H
              by_cases c65 : x38_50 = true
              · subst c65
                have H1 : (some (([] : List (S33)), 14)) = some (r1, r2) := by rw [if_pos rfl] at H; exact H
                clear H
                have H := H1
                clear H1
                simp only [Option.some.injEq, Prod.mk.injEq] at H
                obtain ⟨rfl, rfl⟩ := H
                have hnb66 := NB161_160.out
                have hnc66 := NB160_161.out
                have hnb67 := NB161_162.out
                have hnc67 := NB162_161.out
                have hnb68 := NB161_168.out
                have hnc68 := NB168_161.out
                have hcz69_0 : wc.cell? ⟨gb161, 0, none⟩ = some (.slice none 0 0) := (blk_cell BK161.out 0).trans rfl
                have hfz69_0 := blk_frozen BK161.out 0
                go_wp2
                refine bodyPost_ret (results_ct rfl _ _ gb161 26 #[.slice none 0 0] (0, 0) _ rfl (by (with_reducible repeat (first | refine blk_drewN ?_ _ | refine blk_drew ?_ | refine blk_alloc ?_ _)); refine blk_put (cs := #[.slice none 0 0]) ?_ 0 _ rfl; (with_reducible repeat (first | refine blk_drewN ?_ _ | refine blk_drew ?_ | refine blk_alloc ?_ _)); exact BK161.out) Try.underlying26 rfl (by kernel_rfl)) rfl ?_
                exact ⟨_, by first | rfl | (simp [errW_none, errW_some] <;> rfl) | (simp [*, errW_none, errW_some] <;> rfl), by first | exact Kd.R_nil _ _ _ _ _ | exact Kd.N_nil _ _ _ _ _ | exact Kd.V_nil _ _ _ _ _ | exact Kd.Q_nil _ _ _ _ _ | exact Kd.S_nil _ _ _ _ _, by repeat (first | (with_reducible first | exact HB.out | apply below_alloc | apply pw_below_drewN | apply below_drew1 | refine below_set ?_ GE160.out | refine below_set ?_ GE161.out | refine below_set ?_ GE162.out | refine below_set ?_ GE168.out) | exact HB.out)⟩
              · replace c65 := Bool.eq_false_iff.mpr c65
                subst c65
                have H1 : ((tokens_Table_with.f kj50 l0_0 a1 a2 2 a3).bind fun bt171 => (some (bt171.1, bt171.2))) = some (r1, r2) := by rw [if_neg (show ¬ (false = true) by decide)] at H; exact H
                clear H
                have H := H1
                clear H1
                replace H := Option.bind_eq_some_iff.mp H
                obtain ⟨⟨t171, t174⟩, A700, H⟩ := H
                replace H : (some (t171, t174)) = some (r1, r2) := H
                have A70 := Aside0.mk A700
                clear A700
                simp only [Option.some.injEq, Prod.mk.injEq] at H
                obtain ⟨rfl, rfl⟩ := H
                have hnb71 := NB160_161.out
                have hnc71 := NB161_160.out
                have hnb72 := NB160_162.out
                have hnc72 := NB162_160.out
                have hnb73 := NB160_168.out
                have hnc73 := NB168_160.out
                have hcz74_0 : wc.cell? ⟨gb160, 0, none⟩ = some (.slice A0_0 l0_0.length c0_0) := (blk_cell BK160.out 0).trans rfl
                have hfz74_0 := blk_frozen BK160.out 0
                have hnb75 := NB162_161.out
                have hnc75 := NB161_162.out
                have hnb76 := NB162_168.out
                have hnc76 := NB168_162.out
                have hcz77_0 : wc.cell? ⟨gb162, 0, none⟩ = some (.int .i64 a1) := (blk_cell BK162.out 0).trans rfl
                have hcz77_1 : wc.cell? ⟨gb162, 1, none⟩ = some (.int .i64 a2) := (blk_cell BK162.out 1).trans rfl
                have hcz77_2 : wc.cell? ⟨gb162, 2, none⟩ = some (.int .i64 2) := (blk_cell BK162.out 2).trans rfl
                have hcz77_3 : wc.cell? ⟨gb162, 3, none⟩ = some (.int .i64 a3) := (blk_cell BK162.out 3).trans rfl
                have hfz77_0 := blk_frozen BK162.out 0
                have hfz77_1 := blk_frozen BK162.out 1
                have hfz77_2 := blk_frozen BK162.out 2
                have hfz77_3 := blk_frozen BK162.out 3
                go_wp2_with (first | ((with_reducible refine gate_callee (f := 17) rfl ?_); refine goesL_ (some 51) rfl rfl Try.func17 (by kernel_rfl) rfl #[.agg #[.slice A0_0 l0_0.length c0_0], .agg #[.int .i64 a1, .int .i64 a2, .int .i64 2, .int .i64 a3]] rfl (by (try simp only [List.map_toArray, List.map_cons, List.map_nil]); first | done | rfl | (simp only [List.length_drop, List.length_take]; rfl)) ?_; (with_reducible refine (tokens_Table_with.calls kj50 _ _ l0_0 a1 a2 2 a3 t171 t174 _ ?side1 ?side2 A70.out).mono ?_); (case side1 => repeat (first | exact (Kd.C_below HR0_0.out HB.out) | (with_reducible refine Kd.C_alloc ?_ _) | (with_reducible refine Kd.C_drewN ?_ _) | (with_reducible refine Kd.C_drew ?_))); (case side2 => exact HC0_0.out); rintro e w78 ⟨v172, rfl, ho0, hb⟩; refine ⟨_, rfl, ?_⟩; have n0_ := Aside0.mk (Kd.R_lower (Kd.R_newB (Kd.R_newB ho0 (g := gb162) (o := .cells #[.int .i64 a1, .int .i64 a2, .int .i64 2, .int .i64 a3] 33 (0, 0)) (by (with_reducible repeat (first | refine blk_drewN ?_ _ | refine blk_drew ?_ | refine blk_alloc ?_ _)); exact BK162.out)) (g := gb168) (o := .cells #[.int .i64 t163, .int .i64 t164, .int .i64 t165, .int .i64 t166] 33 (0, 0)) (by (with_reducible repeat (first | refine blk_drewN ?_ _ | refine blk_drew ?_ | refine blk_alloc ?_ _)); exact BK168.out)) (below_size (by repeat (first | (with_reducible first | exact HB.out | apply below_alloc | apply pw_below_drewN | apply below_drew1 | refine below_set ?_ GE160.out | refine below_set ?_ GE161.out | refine below_set ?_ GE162.out | refine below_set ?_ GE168.out) | exact HB.out)))); have n1_ := Aside0.mk (blk_below (g := gb160) (o := .cells #[.slice A0_0 l0_0.length c0_0] 26 (0, 0)) (by (with_reducible repeat (first | refine blk_drewN ?_ _ | refine blk_drew ?_ | refine blk_alloc ?_ _)); exact BK160.out) hb); have n2_ := Aside0.mk (blk_below (g := gb161) (o := .cells #[.slice none 0 0] 26 (0, 0)) (by (with_reducible repeat (first | refine blk_drewN ?_ _ | refine blk_drew ?_ | refine blk_alloc ?_ _)); exact BK161.out) hb); have n3_ := Aside0.mk (blk_below (g := gb162) (o := .cells #[.int .i64 a1, .int .i64 a2, .int .i64 2, .int .i64 a3] 33 (0, 0)) (by (with_reducible repeat (first | refine blk_drewN ?_ _ | refine blk_drew ?_ | refine blk_alloc ?_ _)); exact BK162.out) hb); have n4_ := Aside0.mk (blk_below (g := gb168) (o := .cells #[.int .i64 t163, .int .i64 t164, .int .i64 t165, .int .i64 t166] 33 (0, 0)) (by (with_reducible repeat (first | refine blk_drewN ?_ _ | refine blk_drew ?_ | refine blk_alloc ?_ _)); exact BK168.out) hb); have n5_ := Aside0.mk (below_step (by repeat (first | (with_reducible first | exact HB.out | apply below_alloc | apply pw_below_drewN | apply below_drew1 | refine below_set ?_ GE160.out | refine below_set ?_ GE161.out | refine below_set ?_ GE162.out | refine below_set ?_ GE168.out) | exact HB.out)) hb); clear BK160; clear BK161; clear BK162; clear BK168; clear HB; have HO173 := n0_; have BK160 := n1_; have BK161 := n2_; have BK162 := n3_; have BK168 := n4_; have HB := n5_; clear n0_ n1_ n2_ n3_ n4_ n5_; (try clear hb); (try clear hb2); (try clear hk); (try clear hi); (try clear ho0); obtain ⟨Ao79, co79, eo79⟩ := Kd.R_slice HO173.out; subst eo79; have hnb80 := NB161_168.out; have hnc80 := NB168_161.out; have hcz81_0 : w78.cell? ⟨gb161, 0, none⟩ = some (.slice none 0 0) := (blk_cell BK161.out 0).trans rfl; have hfz81_0 := blk_frozen BK161.out 0))
                refine bodyPost_ret (results_ct rfl _ _ gb161 26 #[.slice Ao79 t171.length co79] (0, 0) _ rfl (by (with_reducible repeat (first | refine blk_drewN ?_ _ | refine blk_drew ?_ | refine blk_alloc ?_ _)); refine blk_put (cs := #[.slice none 0 0]) ?_ 0 _ rfl; (with_reducible repeat (first | refine blk_drewN ?_ _ | refine blk_drew ?_ | refine blk_alloc ?_ _)); exact BK161.out) Try.underlying26 rfl (by kernel_rfl)) rfl ?_
                first | (with_reducible exact (clash2 A70 A5).elim) | (with_reducible exact (clash2 A5 A70).elim) | exact ⟨_, by first | rfl | (simp [errW_none, errW_some] <;> rfl) | (simp [*, errW_none, errW_some] <;> rfl), by (with_reducible repeat (first | apply Kd.R_alloc | apply Kd.R_drewN | apply Kd.R_drew)); exact Kd.R_mono (Kd.R_far (p := ⟨gb161, 0, none⟩) (Kd.R_types HO173.out BK161.out (by decide)) (fun _ hk => hk.2) (.slice Ao79 t171.length co79)) (fun _ hk => trivial), by repeat (first | (with_reducible first | exact HB.out | apply below_alloc | apply pw_below_drewN | apply below_drew1 | refine below_set ?_ GE160.out | refine below_set ?_ GE161.out | refine below_set ?_ GE162.out | refine below_set ?_ GE168.out) | exact HB.out)⟩

end Go.Proofs.Ytaolmpchenpaeaa.Q
