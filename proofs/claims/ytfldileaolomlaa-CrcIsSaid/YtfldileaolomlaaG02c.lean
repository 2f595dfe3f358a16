/- chapter 02: the document's table; any bytes' sum is what the document says. -/
import Derived.Test.YtfldileaolomlaaP02d
import Derived.Test.YtfldileaolomlaaG02b
import Derived.RegionTactic
namespace Go.Proofs.Ytfldileaolomlaa.G
open Go.RowKit Go.Proofs.YtfldileaolomlaaW.PrintWords Go.Proofs.YtfldileaolomlaaW.PrintLast Go.Proofs.Ytfldileaolomlaa.Q
set_option linter.unusedVariables false
set_option linter.unusedSimpArgs false
theorem I_nat (k : Nat) (h : k < 256) : I (BitVec.ofNat 32 k) = (k : Int) := by
  unfold I; rw [BitVec.toNat_ofNat, Nat.mod_eq_of_lt (by omega)]
theorem set_drewN (A : World) (cs : Array Value) (t : TypeId) (n k g : Nat) (v : Value) (hg : A.heap.size = g) : ((A.alloc (.cells cs t)).drewN n).setCell ⟨g, k, none⟩ v = (A.alloc (.cells (cs.setIfInBounds k v) t)).drewN n := by
  rw [← World.setCell_alloc_at _ _ _ _ _ hg.symm]
  rfl
theorem eight_calls (k : Nat) (h : k < 256) (w : World) : Calls Try.prog 22 #[.int .u32 (k : Int)] w fun e w' => e = .returned (.int .u32 (I (eightB (BitVec.ofNat 32 k)))) ∧ Drawn0 w w' := by
  have := Pure.eight_ge 9 (by omega) (BitVec.ofNat 32 k)
  rw [I_nat k h] at this
  exact godwitref02_eight.calls 9 k _ w this
set_option maxHeartbeats 2000000 in
set_option maxRecDepth 100000 in
theorem rtable_calls (w : World) : Calls Try.prog 15 #[] w fun e w' => e = .returned (.agg Tab) ∧ Below w.heap.size w w' := by
  obtain ⟨hz, hs⟩ := zero_of_info infoTab2
  have HS := Lib.hid hs
  clear hs
  go_enter Try.func15, Try.ntmps15
  go_wp2
  go_loopw [2] (fun i wr => ∃ k : Nat, k ≤ 256 ∧ i = .int .i64 k ∧ ∃ (cs : Array Value) (dn : Nat), Aside0 (cs.size = 256 ∧ ∀ j, j < k → cs[j]? = some (TCell j)) ∧ wr = ((w.alloc (.cells zrow 34)).alloc (.cells cs 34)).drewN dn) (fun i _ => 256 - (intOf i).toNat)
  case atStart => exact ⟨0, by omega, rfl, zrow, 0, ⟨by simp [zrow], fun j h => by omega⟩, rfl⟩
  case round =>
    obtain ⟨k, hk, rfl, cs, dn, HC, rfl⟩ := hrel
    by_cases hlt : k < 256
    · have hlt2 : (k : Int) < 256 := by omega
      obtain ⟨u0, hu0⟩ : ∃ u, cs[k]? = some u := by
        have := HC.out.1
        exact ⟨cs[k]'(by omega), Array.getElem?_eq_getElem _⟩
      go_wp2_with (go_at_call 22; refine (eight_calls k hlt _).mono ?_; rintro e w1 ⟨rfl, n1, rfl⟩)
      go_roundw
      case rel =>
        refine ⟨k + 1, by omega, by go_num, _, _, ⟨?_, ?_⟩, set_drewN _ _ _ _ _ _ _ (by simp)⟩
        · rw [Array.size_setIfInBounds]; exact HC.out.1
        · intro j hj
          have hc := HC.out.1
          rw [Array.getElem?_setIfInBounds]
          by_cases e : k = j
          · subst e; rw [if_pos rfl]; simp [hc, hlt]; rfl
          · rw [if_neg e]; exact HC.out.2 j (by omega)
      case measure => simp [intOf]; omega
    · obtain rfl : k = 256 := by omega
      have hT : cs = Tab := by
        apply Array.ext_getElem?
        intro j
        by_cases h : j < 256
        · rw [HC.out.2 j h]; simp [Tab, h]
        · have := HC.out.1
          rw [Array.getElem?_eq_none (by omega), Array.getElem?_eq_none (by simp [Tab]; omega)]
      subst hT
      clear hz
      go_wp2_with (first
        | (refine wpList_load_row rfl 34 (.tmp 1) rfl (w.heap.size + 1) rfl 34 Tab (0, 0) (.array 256 23) ?h1 Try.underlying34 rfl ?h2 ?_; (case h1 => exact heap_alloc2_new _ _ _); (case h2 => rw [HS.out, Tab_size]))
        | (refine wpList_store_row rfl 34 (.tmp 0) (.tmp 12) rfl w.heap.size Tab rfl rfl 34 zrow ?h1 ?h2 ?h3 Tab_one ?_; (case h1 => exact heap_alloc2_old _ _ _); (case h2 => rw [HS.out, Tab_size]); (case h3 => rw [Tab_size]; rfl)))
      refine bodyPost_ret (v := .agg Tab) (results_cell_row (fn := Try.f15) rfl _ _ w.heap.size 34 Tab (0, 0) (.array 256 23) rfl ?h1 Try.underlying34 rfl ?h2) rfl ⟨rfl, ?_⟩
      case h1 => exact setRow_heap _ _ _ _ _ _ (heap_alloc2_old _ _ _)
      case h2 => rw [HS.out, Tab_size]
      exact below_setRow (pw_below_drewN (((Below.refl _ _).alloc (Nat.le_refl _) _).alloc (by simp) _) _) (Nat.le_refl _) _
def HeldW (B : Nat) (w : World) (A : Option Addr) (xs : List Int) (W : World) : Prop := Below B w W ∧ Kd.C (Kd.int .u8) W A xs.length xs
theorem held_step {B : Nat} {w W W' : World} {A : Option Addr} {xs : List Int} (h : Aside0 (HeldW B w A xs W)) (hB : B ≤ W.heap.size) (hb : Below W.heap.size W W') : Aside0 (HeldW B w A xs W') :=
  ⟨h.out.1.trans (hb.mono hB), Kd.C_below h.out.2 hb⟩
theorem held_size {w W : World} {A : Option Addr} {xs : List Int} (h : Aside0 (HeldW w.heap.size w A xs W)) : w.heap.size ≤ W.heap.size := h.out.1.size
theorem held_drewN {B : Nat} {w W : World} {A : Option Addr} {xs : List Int} (h : Aside0 (HeldW B w A xs W)) (n : Nat) : Aside0 (HeldW B w A xs (W.drewN n)) :=
  ⟨pw_below_drewN h.out.1 n, Kd.C_drewN h.out.2 n⟩
theorem held_drew {B : Nat} {w W : World} {A : Option Addr} {xs : List Int} (h : Aside0 (HeldW B w A xs W)) : Aside0 (HeldW B w A xs W.drew) := held_drewN h 1

set_option maxHeartbeats 4000000 in
set_option maxRecDepth 100000 in
theorem is_calls (A : Option Addr) (c : Nat) (xs : List Int) (s a n : Int) (w : World) (hC : Kd.C (Kd.int .u8) w A xs.length xs) (hc : xs.length ≤ c) (hs0 : 0 ≤ s) (hs1 : s < 4294967296) :
    Calls Try.prog 8 #[.slice A xs.length c, .int .u32 s, .int .u32 a, .int .i64 n] w fun e w' => e = .returned (.bool true) ∧ Below w.heap.size w w' := by
  have hm : xs.length ≤ 9223372036854775807 := hC.2.1
  obtain ⟨hz, hsz⟩ := zero_of_info infoTab2
  have HS := Lib.hid hsz
  have HC := Aside0.mk hC
  clear hsz hC
  by_cases hl : (xs.length : Int) > 2000
  · clear hz
    go_enter Try.func8, Try.ntmps8
    go_wp2_with (go_at_call 9; refine (godwitlaw02_awake.calls true _ Pure.awake_true).mono ?_; rintro e w1 ⟨rfl, hb⟩; have HB1 := Aside0.mk hb; clear hb)
    go_ret
    exact ⟨rfl, HB1.out⟩
  have hl2 : xs.length ≤ 2000 := by omega
  go_enter Try.func8, Try.ntmps8
  go_wp2_with (first
    | (go_at_call 9; refine (godwitlaw02_awake.calls true _ Pure.awake_true).mono ?_; rintro e w1 ⟨rfl, hb⟩; have HB1 := Aside0.mk hb; clear hb)
    | (go_at_call 14; refine (table_calls _).mono ?_; rintro e w2 ⟨rfl, hb⟩; have HB2 := Aside0.mk (below_step HB1.out hb); clear hb)
    | (refine wpList_store_row rfl 34 (.tmp 11) (.tmp 21) rfl w2.heap.size Tab rfl rfl 34 zrow ?h1 ?h2 ?h3 Tab_one ?_; (case h1 => exact heap_alloc_last _ _); (case h2 => rw [HS.out, Tab_size]); (case h3 => rw [Tab_size]; rfl); rw [World.setRow_alloc_new])
    | (go_at_call 15; refine (rtable_calls _).mono ?_; rintro e w3 ⟨rfl, hb⟩; have HG1 := Aside0.mk ((hb.block w2.heap.size (by simp)).trans (heap_alloc_last w2 (.cells Tab 34))); have HB3 := Aside0.mk (below_step (HB2.out.alloc HB2.out.size _) hb); clear hb)
    | (refine wpList_store_row rfl 34 (.tmp 12) (.tmp 22) rfl w3.heap.size Tab rfl rfl 34 zrow ?h1 ?h2 ?h3 Tab_one ?_; (case h1 => exact heap_alloc_last _ _); (case h2 => rw [HS.out, Tab_size]); (case h3 => rw [Tab_size]; rfl); rw [World.setRow_alloc_new]))
  have HG2 := Aside0.mk (heap_alloc_last w3 (.cells Tab 34))
  have HG3 := Aside0.mk ((heap_alloc_old w3 (.cells Tab 34) (Array.getElem?_eq_some_iff.1 HG1.out).1).trans HG1.out)
  have HH : Aside0 (HeldW w.heap.size w A xs (w3.alloc (.cells Tab 34))) := ⟨HB3.out.alloc HB3.out.size _, Kd.C_below HC.out (HB3.out.alloc HB3.out.size _)⟩
  generalize hg1 : w2.heap.size = g1 at *
  generalize hg2 : w3.heap.size = g2 at *
  generalize w3.alloc (.cells Tab 34) = wx at *
  generalize hmin : min n 3000 = m at *
  have hm3 : m ≤ 3000 := by omega
  clear hg1 hg2 hz HB1 HB2 HB3 HG1 HC hmin HS
  have hcell : ∀ (g k : Nat), k < 256 → wx.heap[g]? = some (.cells Tab 34 (0, 0)) → wx.cell? ⟨g, k, none⟩ = some (.int .u32 (TI k)) := fun g k hk h => by rw [cell_of_row _ _ _ _ _ _ h, Tab_get k hk]; rfl
  have HCL := Lib.hid hcell
  clear hcell
  go_loopw [13] (fun i wr => ∃ k : Nat, k ≤ 256 ∧ i = .int .i64 k ∧ ∃ dn, wr = wx.drewN dn) (fun i _ => 256 - (intOf i).toNat)
  case atStart => exact ⟨0, by omega, rfl, 0, rfl⟩
  case round =>
    obtain ⟨k, hk, rfl, dn, rfl⟩ := hrel
    by_cases hlt : k < 256
    · have hlt2 : (k : Int) < 256 := by omega
      have c1 := HCL.out g1 k hlt HG3.out
      have c2 := HCL.out g2 k hlt HG2.out
      go_wp2
      go_region
      go_wp2
      go_roundw
      case rel => exact ⟨k + 1, by omega, by go_num, _, rfl⟩
      case measure => simp [intOf]; omega
    · obtain rfl : k = 256 := by omega
      have H0 := held_drewN HH dn
      have f1 := Pure.rof_pure xs hl2
      have f2 := Pure.rmore_pure s hs0 hs1 xs hl2
      have f3 := Pure.rshift_pure s m hs0 hs1 hm3
      have f4 := Pure.rjoin_pure s a m hs0 hs1 hm3
      have F1 := Lib.hid f1
      have F2 := Lib.hid f2
      have F3 := Lib.hid f3
      have F4 := Lib.hid f4
      clear f1 f2 f3 f4 HH
      go_wp2_with (first
        | (go_at_call 10; refine (of_calls A c xs _ H0.out.2).mono ?_; rintro e v1 ⟨rfl, hb⟩; have H1 := held_step H0 (held_size H0) hb; clear hb)
        | (go_at_call 16; refine (godwitref02_Of.calls 2010 A c xs _ _ H1.out.2 hc F1.out).mono ?_; rintro e v2 ⟨rfl, ⟨n2, rfl⟩⟩; have H2 := held_drewN H1 n2)
        | (go_at_call 12; refine (more_calls s A c xs _ H2.out.2).mono ?_; rintro e v3 ⟨rfl, hb⟩; have H3 := held_step H2 (held_size H2) hb; clear hb)
        | (go_at_call 17; refine (godwitref02_More.calls 2010 s A c xs _ _ H3.out.2 hc F2.out).mono ?_; rintro e v4 ⟨rfl, ⟨n4, rfl⟩⟩; have H4 := held_drewN H3 n4)
        | (go_at_call 11; refine (shift_calls s m hs0 hs1 _).mono ?_; rintro e v5 ⟨rfl, hb⟩; have H5 := held_step H4 (held_size H4) hb; clear hb)
        | (go_at_call 18; refine (godwitref02_Shift.calls 6100 s m _ _ F3.out).mono ?_; rintro e v6 ⟨rfl, ⟨n6, rfl⟩⟩; have H6 := held_drewN H5 n6)
        | (go_at_call 13; refine (join_calls s a m hs0 hs1 _).mono ?_; rintro e v7 ⟨rfl, hb⟩; have H7 := held_step H6 (held_size H6) hb; clear hb)
        | (go_at_call 19; refine (godwitref02_Join.calls 6100 s a m _ _ F4.out).mono ?_; rintro e v8 ⟨rfl, ⟨n8, rfl⟩⟩; have H8 := held_drewN H7 n8))
      go_ret
      exact ⟨rfl, H8.out.1⟩
end Go.Proofs.Ytfldileaolomlaa.G
