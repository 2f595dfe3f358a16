-- written by a turned copy of the kit's printer (wip/tools/patch_print.py over print.py); contracts of given functions are this session's own
import Derived.Test.YtcinlddejdkjeaaQx0
import Derived.Test.YtcinlddejdkjeaaQx2
namespace Go.Proofs.Ytcinlddejdkjeaa.Q
open Go.RowKit Go.Proofs.YtcinlddejdkjeaaW.PrintWords Go.Proofs.YtcinlddejdkjeaaW.PrintLast Go.Proofs.YtcinlddejdkjeaaW.PrintMore Go.Proofs.Ytcinlddejdkjeaa.G
attribute [local go_sem] max2_int min2_int max_two min_two max_three min_three max_four min_four   -- for this text's walks alone
set_option linter.unusedVariables false
set_option linter.unusedSimpArgs false

/-! ### chain_Value: function 20 -/
def chain_Value.j0 : Nat → Bool → Int → List Int → Bool → Option (List Int × Bool)
  | 0, _, _, _, _ => none
  | k + 1, x19, x329000, x329001, x329002 => if x19 = true then (some (([] : List Int), false)) else (some (x329001, true))
def chain_Value.f (k : Nat) (l0_0 : List (S37)) (a1 : Int) : Option (List Int × Bool) := (chain_At.f l0_0 a1).bind fun bt322 => (if bt322.2.2.2 = true then (chain_Value.j0 k bt322.2.2.1 bt322.1 bt322.2.1 bt322.2.2.1) else (chain_Value.j0 k true bt322.1 bt322.2.1 bt322.2.2.1))
theorem chain_Value.mono_l : ∀ k, (∀ y0 y1 y2 y3, LeO (chain_Value.j0 k y0 y1 y2 y3) (chain_Value.j0 (k + 1) y0 y1 y2 y3))
  | 0 => fun _ _ _ _ r h => by simp [chain_Value.j0] at h
  | k + 1 => by
    have ih0 := chain_Value.mono_l k
    · intro y0 y1 y2 y3
      unfold chain_Value.j0
      repeat' first
      | (with_reducible exact ih0 _ _ _ _)
      | (with_reducible exact LeO.refl _)
      | (with_reducible exact LeO.none _)
      | (with_reducible refine LeO.ite ?_ ?_)
      | (with_reducible refine LeO.bind ?_ (fun _ => ?_))
      | exact ih0 _ _ _ _
      | exact LeO.none _
      | refine LeO.ite ?_ ?_
      | refine LeO.bind ?_ (fun _ => ?_)
theorem chain_Value.mono : ∀ a0 a1 k, LeO (chain_Value.f k a0 a1) (chain_Value.f (k + 1) a0 a1) := by
  intro a0 a1 k
  have ih0 := chain_Value.mono_l k
  unfold chain_Value.f
  repeat' first
      | (with_reducible exact ih0 _ _ _ _)
      | (with_reducible exact LeO.refl _)
      | (with_reducible exact LeO.none _)
      | (with_reducible refine LeO.ite ?_ ?_)
      | (with_reducible refine LeO.bind ?_ (fun _ => ?_))
      | exact ih0 _ _ _ _
      | exact LeO.none _
      | refine LeO.ite ?_ ?_
      | refine LeO.bind ?_ (fun _ => ?_)
set_option maxHeartbeats 8000000 in
set_option maxRecDepth 100000 in
theorem chain_Value.calls (k : Nat) (P0_0_ : Nat → Prop) (A0_0 : Option Addr) (c0_0 : Nat) (l0_0 : List (S37)) (a1 : Int) (r1 : List Int) (r2 : Bool) (w : World) (hs0_0 : Kd.V k37 37 w w.heap.size (fun k_ => P0_0_ k_) (.slice A0_0 l0_0.length c0_0) l0_0) (h : chain_Value.f k l0_0 a1 = some (r1, r2)) :
    Calls Try.prog 20 #[.agg #[.slice A0_0 l0_0.length c0_0], .int .i64 a1] w fun e w' => ∃ v0_ : Value, e = .returned (.tuple #[v0_, .bool r2]) ∧ Kd.V (Kd.int .u8) 5 w' w.heap.size (fun k_ => (P0_0_ k_ ∨ w.heap.size ≤ k_)) v0_ r1 ∧ Below w.heap.size w w' := by
  have hu29 := Try.underlying29
  have hu37 := Try.underlying37
  have HO0_0 := Aside0.mk (show Kd.V k37 37 w w.heap.size (fun k_ => (P0_0_ k_ ∨ w.heap.size ≤ k_)) (.slice A0_0 l0_0.length c0_0) l0_0 from Kd.V_mono hs0_0 (fun k_ hk => .inl hk))
  have HB := Aside0.mk (Below.refl w.heap.size w)
  have H : ((chain_At.f l0_0 a1).bind fun bt322 => (if bt322.2.2.2 = true then (chain_Value.j0 k bt322.2.2.1 bt322.1 bt322.2.1 bt322.2.2.1) else (chain_Value.j0 k true bt322.1 bt322.2.1 bt322.2.2.1))) = some (r1, r2) := h
  clear h
  replace H := Option.bind_eq_some_iff.mp H
  obtain ⟨⟨t322, t323, t326, t327⟩, A30, H⟩ := H
  replace H : (if t327 = true then (chain_Value.j0 k t326 t322 t323 t326) else (chain_Value.j0 k true t322 t323 t326)) = some (r1, r2) := H
  have A3 := Aside0.mk A30
  clear A30
  have HC4 := Aside0.mk H
  clear H
  go_enter Try.func20, Try.ntmps20
  go_upto_region 2 with (first | ((with_reducible refine gate_dst (N := 2) rfl ?_); refine box_event ?hg (N := 2) ?hd (cs := #[.slice A0_0 l0_0.length c0_0]) (t := 29) ?hr ?_; (case hd => rfl); (case hg => rfl); (case hr => first | (go_simp; done) | (go_simp; rfl)); intro gb321 hg w5 hbox hb; have n0_ := Aside0.mk (Kd.V_below (Kd.V_elderB (by (with_reducible repeat (first | apply Kd.V_alloc | apply Kd.V_drewN | apply Kd.V_drew)); exact HO0_0.out) gb321 (Nat.le_of_eq hg.symm)) hb); have n1_ := Aside0.mk (below_step (by repeat (first | (with_reducible first | exact HB.out | apply below_alloc | apply pw_below_drewN | apply below_drew1) | exact HB.out)) hb); have n2_ := Aside0.mk (hbox); have n3_ := Aside0.mk ((by rw [hg]; exact (below_size (by repeat (first | (with_reducible first | exact HB.out | apply below_alloc | apply pw_below_drewN | apply below_drew1) | exact HB.out))) : w.heap.size ≤ gb321)); have n4_ := Aside0.mk ((by rw [hg]; exact (below_size (by repeat (first | (with_reducible first | exact HB.out | apply below_alloc | apply pw_below_drewN | apply below_drew1) | exact HB.out))) : w.heap.size ≤ gb321)); clear HO0_0; clear HB; have HO0_0 := n0_; have HB := n1_; have BK321 := n2_; have GW321 := n3_; have GE321 := n4_; clear n0_ n1_ n2_ n3_ n4_; clear hb hbox hg; have hcz6_0 : w5.cell? ⟨gb321, 0, none⟩ = some (.slice A0_0 l0_0.length c0_0) := (blk_cell BK321.out 0).trans rfl; have hfz6_0 := blk_frozen BK321.out 0) | ((with_reducible refine gate_callee (f := 14) rfl ?_); refine goesL_ (some 11) rfl rfl Try.func14 (by kernel_rfl) rfl #[.agg #[.slice A0_0 l0_0.length c0_0], .int .i64 a1] rfl (by (try simp only [List.map_toArray, List.map_cons, List.map_nil]); first | done | rfl | (simp only [List.length_drop, List.length_take]; rfl)) ?_; (with_reducible refine (chain_At.calls (fun k_ => ((P0_0_ k_ ∨ w.heap.size ≤ k_) ∧ k_ ≠ gb321)) _ _ l0_0 a1 t322 t323 t326 t327 _ ?side1 A3.out).mono ?_); (case side1 => exact HO0_0.out); rintro e w7 ⟨v324, rfl, ho0, hb⟩; refine ⟨_, rfl, ?_⟩; have n0_ := Aside0.mk (Kd.V_below (by (with_reducible repeat (first | apply Kd.V_alloc | apply Kd.V_drewN | apply Kd.V_drew)); exact HO0_0.out) hb); have n1_ := Aside0.mk (Kd.V_lower (Kd.V_mono (ok' := fun k_ => (P0_0_ k_ ∨ w.heap.size ≤ k_) ∧ k_ ≠ gb321) ho0 (fun k_ hk_ => ⟨Or.elim hk_ (fun hs_ => hs_.1) (fun hn_ => (.inr (Nat.le_trans (below_size (by repeat (first | (with_reducible first | exact HB.out | apply below_alloc | apply pw_below_drewN | apply below_drew1 | refine below_set ?_ GE321.out) | exact HB.out))) hn_))), Or.elim hk_ (fun hs_ => hs_.2) (fun hn_ => (Kd.freshB (g := gb321) (o := .cells #[.slice A0_0 l0_0.length c0_0] 29 (0, 0)) (by (with_reducible repeat (first | refine blk_drewN ?_ _ | refine blk_drew ?_ | refine blk_alloc ?_ _)); exact BK321.out) k_ hn_))⟩)) (below_size (by repeat (first | (with_reducible first | exact HB.out | apply below_alloc | apply pw_below_drewN | apply below_drew1 | refine below_set ?_ GE321.out) | exact HB.out)))); have n2_ := Aside0.mk (blk_below (g := gb321) (o := .cells #[.slice A0_0 l0_0.length c0_0] 29 (0, 0)) (by (with_reducible repeat (first | refine blk_drewN ?_ _ | refine blk_drew ?_ | refine blk_alloc ?_ _)); exact BK321.out) hb); have n3_ := Aside0.mk (below_step (by repeat (first | (with_reducible first | exact HB.out | apply below_alloc | apply pw_below_drewN | apply below_drew1 | refine below_set ?_ GE321.out) | exact HB.out)) hb); clear HO0_0; clear BK321; clear HB; have HO0_0 := n0_; have HO325 := n1_; have BK321 := n2_; have HB := n3_; clear n0_ n1_ n2_ n3_; (try clear hb); (try clear hb2); (try clear hk); (try clear hi); (try clear ho0)) | ((with_reducible refine gate_dst (N := 6) rfl ?_); refine box_event ?hg (N := 6) ?hd (cs := #[.int .i64 0, .slice none 0 0, .bool false]) (t := 37) ?hr ?_; (case hd => rfl); (case hg => rfl); (case hr => first | (go_simp; done) | (go_simp; rfl)); intro gb328 hg w8 hbox hb; have n0_ := Aside0.mk (Kd.V_below (Kd.V_elderB (by (with_reducible repeat (first | apply Kd.V_alloc | apply Kd.V_drewN | apply Kd.V_drew)); exact HO0_0.out) gb328 (Nat.le_of_eq hg.symm)) hb); have n1_ := Aside0.mk (Kd.V_below (Kd.V_elderB (by (with_reducible repeat (first | apply Kd.V_alloc | apply Kd.V_drewN | apply Kd.V_drew)); exact HO325.out) gb328 (Nat.le_of_eq hg.symm)) hb); have n2_ := Aside0.mk (blk_below (g := gb321) (o := .cells #[.slice A0_0 l0_0.length c0_0] 29 (0, 0)) (by (with_reducible repeat (first | refine blk_drewN ?_ _ | refine blk_drew ?_ | refine blk_alloc ?_ _)); exact BK321.out) hb); have n3_ := Aside0.mk (below_step (by repeat (first | (with_reducible first | exact HB.out | apply below_alloc | apply pw_below_drewN | apply below_drew1 | refine below_set ?_ GE321.out) | exact HB.out)) hb); have n4_ := Aside0.mk (hbox); have n5_ := Aside0.mk ((by rw [hg]; exact (below_size (by repeat (first | (with_reducible first | exact HB.out | apply below_alloc | apply pw_below_drewN | apply below_drew1 | refine below_set ?_ GE321.out) | exact HB.out))) : w.heap.size ≤ gb328)); have n6_ := Aside0.mk ((by rw [hg]; exact (below_size (by repeat (first | (with_reducible first | exact HB.out | apply below_alloc | apply pw_below_drewN | apply below_drew1 | refine below_set ?_ GE321.out) | exact HB.out))) : w.heap.size ≤ gb328)); have n7_ := Aside0.mk ((by rw [hg]; exact Nat.ne_of_lt (blk_lt (g := gb321) (o := .cells #[.slice A0_0 l0_0.length c0_0] 29 (0, 0)) (by (with_reducible repeat (first | refine blk_drewN ?_ _ | refine blk_drew ?_ | refine blk_alloc ?_ _)); exact BK321.out)) : gb321 ≠ gb328)); have n8_ := Aside0.mk ((by rw [hg]; exact Nat.ne_of_gt (blk_lt (g := gb321) (o := .cells #[.slice A0_0 l0_0.length c0_0] 29 (0, 0)) (by (with_reducible repeat (first | refine blk_drewN ?_ _ | refine blk_drew ?_ | refine blk_alloc ?_ _)); exact BK321.out)) : gb328 ≠ gb321)); clear HO0_0; clear HO325; clear BK321; clear HB; have HO0_0 := n0_; have HO325 := n1_; have BK321 := n2_; have HB := n3_; have BK328 := n4_; have GW328 := n5_; have GE328 := n6_; have NB321_328 := n7_; have NB328_321 := n8_; clear n0_ n1_ n2_ n3_ n4_ n5_ n6_ n7_ n8_; clear hb hbox hg; have hnb9 := NB328_321.out; have hnc9 := NB321_328.out; have hcz10_0 : w8.cell? ⟨gb328, 0, none⟩ = some (.int .i64 0) := (blk_cell BK328.out 0).trans rfl; have hcz10_1 : w8.cell? ⟨gb328, 1, none⟩ = some (.slice none 0 0) := (blk_cell BK328.out 1).trans rfl; have hcz10_2 : w8.cell? ⟨gb328, 2, none⟩ = some (.bool false) := (blk_cell BK328.out 2).trans rfl; have hfz10_0 := blk_frozen BK328.out 0; have hfz10_1 := blk_frozen BK328.out 1; have hfz10_2 := blk_frozen BK328.out 2; obtain ⟨Ao11, co11, eo11⟩ := Kd.V_slice HO325.out; subst eo11))
  (try simp only [Act.put, List.setIfInBounds_toArray, List.set_cons_zero, List.set_cons_succ])
  go_cut [19] (fun v19 wc => ∃ (kq : Nat) (x19_3 : Bool), v19 = .bool x19_3 ∧ Aside0 (chain_Value.j0 kq x19_3 t322 t323 t326 = some (r1, r2)) ∧ Aside0 (kq ≤ k) ∧ Aside0 (Kd.V k37 37 wc w.heap.size (fun k_ => (P0_0_ k_ ∨ w.heap.size ≤ k_) ∧ k_ ≠ gb321 ∧ k_ ≠ gb328) (.slice A0_0 l0_0.length c0_0) l0_0) ∧ Aside0 (Kd.V (Kd.int .u8) 5 wc w.heap.size (fun k_ => (P0_0_ k_ ∨ w.heap.size ≤ k_) ∧ k_ ≠ gb321 ∧ k_ ≠ gb328) (.slice Ao11 t323.length co11) t323) ∧ Aside0 (wc.heap[gb321]? = some (.cells #[(.slice A0_0 l0_0.length c0_0)] 29 (0, 0))) ∧ Aside0 (wc.heap[gb328]? = some (.cells #[.int .i64 t322, (.slice Ao11 t323.length co11), .bool t326] 37 (0, 0))) ∧ Aside0 (Below w.heap.size w wc))
  case first =>
    have H := HC4.out
    clear HC4
    by_cases c12 : t327 = true
    · subst c12
      have H1 : (chain_Value.j0 k t326 t322 t323 t326) = some (r1, r2) := by rw [if_pos rfl] at H; exact H
      clear H
      have H := H1
      clear H1
      have H' := Aside0.mk H
      clear H
      have hnb13 := NB328_321.out
      have hnc13 := NB321_328.out
      have hcz14_0 : w8.cell? ⟨gb328, 0, none⟩ = some (.int .i64 0) := (blk_cell BK328.out 0).trans rfl
      have hcz14_1 : w8.cell? ⟨gb328, 1, none⟩ = some (.slice none 0 0) := (blk_cell BK328.out 1).trans rfl
      have hcz14_2 : w8.cell? ⟨gb328, 2, none⟩ = some (.bool false) := (blk_cell BK328.out 2).trans rfl
      have hfz14_0 := blk_frozen BK328.out 0
      have hfz14_1 := blk_frozen BK328.out 1
      have hfz14_2 := blk_frozen BK328.out 2
      go_wp2
      go_meet
      case rel => exact ⟨_, (t326), (by first | rfl | (simp; done) | (simp [*]; done)), H', ⟨by first | omega | exact Nat.le_refl _⟩, ⟨by (with_reducible repeat (first | apply Kd.V_alloc | apply Kd.V_drewN | apply Kd.V_drew)); exact Kd.V_mono (Kd.V_far (p := ⟨gb328, 2, none⟩) (Kd.V_far (p := ⟨gb328, 1, none⟩) (Kd.V_far (p := ⟨gb328, 0, none⟩) (Kd.V_mono HO0_0.out (fun k_ hk => (⟨hk, hk.2⟩ : _ ∧ k_ ≠ gb328))) (fun _ hk => hk.2) (.int .i64 t322)) (fun _ hk => hk.2) (.slice Ao11 t323.length co11)) (fun _ hk => hk.2) (.bool t326)) (fun _ hk => ⟨hk.1.1.1, ⟨hk.1.1.2, hk.1.2⟩⟩)⟩, ⟨by (with_reducible repeat (first | apply Kd.V_alloc | apply Kd.V_drewN | apply Kd.V_drew)); exact Kd.V_mono (Kd.V_far (p := ⟨gb328, 2, none⟩) (Kd.V_far (p := ⟨gb328, 1, none⟩) (Kd.V_far (p := ⟨gb328, 0, none⟩) (Kd.V_mono HO325.out (fun k_ hk => (⟨hk, hk.2⟩ : _ ∧ k_ ≠ gb328))) (fun _ hk => hk.2) (.int .i64 t322)) (fun _ hk => hk.2) (.slice Ao11 t323.length co11)) (fun _ hk => hk.2) (.bool t326)) (fun _ hk => ⟨hk.1.1.1, ⟨hk.1.1.2, hk.1.2⟩⟩)⟩, ⟨by (with_reducible repeat (first | refine blk_drewN ?_ _ | refine blk_drew ?_ | refine blk_alloc ?_ _)); refine blk_far ?_ NB321_328.out _; (with_reducible repeat (first | refine blk_drewN ?_ _ | refine blk_drew ?_ | refine blk_alloc ?_ _)); refine blk_far ?_ NB321_328.out _; (with_reducible repeat (first | refine blk_drewN ?_ _ | refine blk_drew ?_ | refine blk_alloc ?_ _)); refine blk_far ?_ NB321_328.out _; (with_reducible repeat (first | refine blk_drewN ?_ _ | refine blk_drew ?_ | refine blk_alloc ?_ _)); exact BK321.out⟩, ⟨by (with_reducible repeat (first | refine blk_drewN ?_ _ | refine blk_drew ?_ | refine blk_alloc ?_ _)); refine blk_put (cs := #[.int .i64 t322, .slice Ao11 t323.length co11, .bool false]) ?_ 2 _ rfl; (with_reducible repeat (first | refine blk_drewN ?_ _ | refine blk_drew ?_ | refine blk_alloc ?_ _)); refine blk_put (cs := #[.int .i64 t322, .slice none 0 0, .bool false]) ?_ 1 _ rfl; (with_reducible repeat (first | refine blk_drewN ?_ _ | refine blk_drew ?_ | refine blk_alloc ?_ _)); refine blk_put (cs := #[.int .i64 0, .slice none 0 0, .bool false]) ?_ 0 _ rfl; (with_reducible repeat (first | refine blk_drewN ?_ _ | refine blk_drew ?_ | refine blk_alloc ?_ _)); exact BK328.out⟩, ⟨by repeat (first | (with_reducible first | exact HB.out | apply below_alloc | apply pw_below_drewN | apply below_drew1 | refine below_set ?_ GE321.out | refine below_set ?_ GE328.out) | exact HB.out)⟩⟩
    · replace c12 := Bool.eq_false_iff.mpr c12
      subst c12
      have H1 : (chain_Value.j0 k true t322 t323 t326) = some (r1, r2) := by rw [if_neg (show ¬ (false = true) by decide)] at H; exact H
      clear H
      have H := H1
      clear H1
      have H' := Aside0.mk H
      clear H
      go_wp2
      go_meet
      case rel => exact ⟨_, (true), (by first | rfl | (simp; done) | (simp [*]; done)), H', ⟨by first | omega | exact Nat.le_refl _⟩, ⟨by (with_reducible repeat (first | apply Kd.V_alloc | apply Kd.V_drewN | apply Kd.V_drew)); exact Kd.V_mono (Kd.V_far (p := ⟨gb328, 2, none⟩) (Kd.V_far (p := ⟨gb328, 1, none⟩) (Kd.V_far (p := ⟨gb328, 0, none⟩) (Kd.V_mono HO0_0.out (fun k_ hk => (⟨hk, hk.2⟩ : _ ∧ k_ ≠ gb328))) (fun _ hk => hk.2) (.int .i64 t322)) (fun _ hk => hk.2) (.slice Ao11 t323.length co11)) (fun _ hk => hk.2) (.bool t326)) (fun _ hk => ⟨hk.1.1.1, ⟨hk.1.1.2, hk.1.2⟩⟩)⟩, ⟨by (with_reducible repeat (first | apply Kd.V_alloc | apply Kd.V_drewN | apply Kd.V_drew)); exact Kd.V_mono (Kd.V_far (p := ⟨gb328, 2, none⟩) (Kd.V_far (p := ⟨gb328, 1, none⟩) (Kd.V_far (p := ⟨gb328, 0, none⟩) (Kd.V_mono HO325.out (fun k_ hk => (⟨hk, hk.2⟩ : _ ∧ k_ ≠ gb328))) (fun _ hk => hk.2) (.int .i64 t322)) (fun _ hk => hk.2) (.slice Ao11 t323.length co11)) (fun _ hk => hk.2) (.bool t326)) (fun _ hk => ⟨hk.1.1.1, ⟨hk.1.1.2, hk.1.2⟩⟩)⟩, ⟨by (with_reducible repeat (first | refine blk_drewN ?_ _ | refine blk_drew ?_ | refine blk_alloc ?_ _)); refine blk_far ?_ NB321_328.out _; (with_reducible repeat (first | refine blk_drewN ?_ _ | refine blk_drew ?_ | refine blk_alloc ?_ _)); refine blk_far ?_ NB321_328.out _; (with_reducible repeat (first | refine blk_drewN ?_ _ | refine blk_drew ?_ | refine blk_alloc ?_ _)); refine blk_far ?_ NB321_328.out _; (with_reducible repeat (first | refine blk_drewN ?_ _ | refine blk_drew ?_ | refine blk_alloc ?_ _)); exact BK321.out⟩, ⟨by (with_reducible repeat (first | refine blk_drewN ?_ _ | refine blk_drew ?_ | refine blk_alloc ?_ _)); refine blk_put (cs := #[.int .i64 t322, .slice Ao11 t323.length co11, .bool false]) ?_ 2 _ rfl; (with_reducible repeat (first | refine blk_drewN ?_ _ | refine blk_drew ?_ | refine blk_alloc ?_ _)); refine blk_put (cs := #[.int .i64 t322, .slice none 0 0, .bool false]) ?_ 1 _ rfl; (with_reducible repeat (first | refine blk_drewN ?_ _ | refine blk_drew ?_ | refine blk_alloc ?_ _)); refine blk_put (cs := #[.int .i64 0, .slice none 0 0, .bool false]) ?_ 0 _ rfl; (with_reducible repeat (first | refine blk_drewN ?_ _ | refine blk_drew ?_ | refine blk_alloc ?_ _)); exact BK328.out⟩, ⟨by repeat (first | (with_reducible first | exact HB.out | apply below_alloc | apply pw_below_drewN | apply below_drew1 | refine below_set ?_ GE321.out | refine below_set ?_ GE328.out) | exact HB.out)⟩⟩
  case rest =>
    clear HC4
    try clear c1
    try clear c2
    try clear p2
    try clear c9
    try clear c12
    try clear c13
    try clear c14
    try clear hcz10_0
    try clear hcz10_1
    try clear hcz10_2
    try clear hcz14_0
    try clear hcz14_1
    try clear hcz14_2
    try clear hcz6_0
    try clear hfz10_0
    try clear hfz10_1
    try clear hfz10_2
    try clear hfz14_0
    try clear hfz14_1
    try clear hfz14_2
    try clear hfz6_0
    obtain ⟨kq, x19_3, rfl, HA, HJ3, HO_322000, HO_329001, BK321, BK328, HB⟩ := hcut
    cases kq with
    | zero => exact absurd HA.out (by simp [chain_Value.j0])
    | succ kj3 =>
      have H := HA.out
      clear HA
      simp only [chain_Value.j0] at H
      by_cases c15 : x19_3 = true
      · subst c15
        have H1 : (some (([] : List Int), false)) = some (r1, r2) := by rw [if_pos rfl] at H; exact H
        clear H
        have H := H1
        clear H1
        simp only [Option.some.injEq, Prod.mk.injEq] at H
        obtain ⟨rfl, rfl⟩ := H
        go_wp2
        go_ret2
        exact ⟨_, by first | rfl | (simp [errW_none, errW_some] <;> rfl) | (simp [*, errW_none, errW_some] <;> rfl), Kd.V_mono (Kd.V_nil _ _ _ _ _) (fun k_ hk => by first | exact ⟨(.inr (hk.1)), hk.2⟩ | exact (.inr (hk))), by repeat (first | (with_reducible first | exact HB.out | apply below_alloc | apply pw_below_drewN | apply below_drew1 | refine below_set ?_ GE321.out | refine below_set ?_ GE328.out) | exact HB.out)⟩
      · replace c15 := Bool.eq_false_iff.mpr c15
        subst c15
        have H1 : (some (t323, true)) = some (r1, r2) := by rw [if_neg (show ¬ (false = true) by decide)] at H; exact H
        clear H
        have H := H1
        clear H1
        simp only [Option.some.injEq, Prod.mk.injEq] at H
        obtain ⟨rfl, rfl⟩ := H
        have hnb16 := NB328_321.out
        have hnc16 := NB321_328.out
        have hcz17_0 : wc.cell? ⟨gb328, 0, none⟩ = some (.int .i64 t322) := (blk_cell BK328.out 0).trans rfl
        have hcz17_1 : wc.cell? ⟨gb328, 1, none⟩ = some (.slice Ao11 t323.length co11) := (blk_cell BK328.out 1).trans rfl
        have hcz17_2 : wc.cell? ⟨gb328, 2, none⟩ = some (.bool t326) := (blk_cell BK328.out 2).trans rfl
        have hfz17_0 := blk_frozen BK328.out 0
        have hfz17_1 := blk_frozen BK328.out 1
        have hfz17_2 := blk_frozen BK328.out 2
        go_wp2
        go_ret2
        exact ⟨_, by first | rfl | (simp [errW_none, errW_some] <;> rfl) | (simp [*, errW_none, errW_some] <;> rfl), by (with_reducible repeat (first | apply Kd.V_alloc | apply Kd.V_drewN | apply Kd.V_drew)); exact Kd.V_mono HO_329001.out (fun _ hk => hk.1), by repeat (first | (with_reducible first | exact HB.out | apply below_alloc | apply pw_below_drewN | apply below_drew1 | refine below_set ?_ GE321.out | refine below_set ?_ GE328.out) | exact HB.out)⟩

end Go.Proofs.Ytcinlddejdkjeaa.Q
