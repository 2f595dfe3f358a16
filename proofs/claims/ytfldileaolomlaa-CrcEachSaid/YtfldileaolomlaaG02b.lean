/- chapter 02: the laws that hold arrays: each byte's number once. -/
import Derived.Test.YtfldileaolomlaaQx2
import Derived.Test.YtfldileaolomlaaQx5
import Derived.Test.YtfldileaolomlaaP02c
import Derived.Deep.RegionHeld3
namespace Go.Proofs.Ytfldileaolomlaa.G
open Go.RowKit Go.Proofs.YtfldileaolomlaaW.PrintWords Go.Proofs.YtfldileaolomlaaW.PrintLast Go.Proofs.Ytfldileaolomlaa.Q
set_option linter.unusedVariables false
set_option linter.unusedSimpArgs false
def TI (k : Nat) : Int := I (eightB (BitVec.ofNat 32 k))
theorem byte_xor {a b : Nat} (ha : a < 256) (hb : b < 256) : a ^^^ b < 256 := Nat.xor_lt_two_pow (n := 8) ha hb
theorem ofNat_xor32 {a b : Nat} (ha : a < 256) (hb : b < 256) : BitVec.ofNat 32 (a ^^^ b) = BitVec.ofNat 32 a ^^^ BitVec.ofNat 32 b := by
  have := byte_xor ha hb
  apply BitVec.eq_of_toNat_eq
  rw [BitVec.toNat_xor, BitVec.toNat_ofNat, BitVec.toNat_ofNat, BitVec.toNat_ofNat, Nat.mod_eq_of_lt (by omega), Nat.mod_eq_of_lt (by omega), Nat.mod_eq_of_lt (by omega)]
theorem TI_xor {a b : Nat} (ha : a < 256) (hb : b < 256) : Go.bits .xor .u32 (TI a) (TI b) = TI (a ^^^ b) := by
  unfold TI
  rw [xor32, O_I, O_I, ← eight_xor, ofNat_xor32 ha hb]
theorem TI_inj {a b : Nat} (ha : a < 256) (hb : b < 256) (h : TI a = TI b) : a = b := by
  have h2 := eight_inj (I_inj h)
  have h3 := congrArg BitVec.toNat h2
  rw [BitVec.toNat_ofNat, BitVec.toNat_ofNat] at h3
  omega
theorem TI_shift (a : Nat) : shiftI (a : Int) 1 = TI a := by
  unfold shiftI TI
  rw [show (min (1 : Int) 65536).toNat = 1 from rfl, Pure.O_nat]
  rfl
theorem infoArr : (Try.prog.info? 34).map (fun i => (i.zero, i.size)) = some (some (.agg zrow), 256) := infoTab2

set_option maxHeartbeats 4000000 in
set_option maxRecDepth 100000 in
theorem each_calls (a b : Nat) (ha : a < 256) (hb : b < 256) (w : World) :
    Calls Try.prog 7 #[.int .u8 a, .int .u8 b] w fun e w' => e = .returned (.bool true) ∧ Below w.heap.size w w' := by
  obtain ⟨hz, hs⟩ := zero_of_info infoTab2
  have HS := Lib.hid hs
  have hc := byte_xor ha hb
  have e1 : Go.bits .xor .u8 (a : Int) (b : Int) = ((a ^^^ b : Nat) : Int) := Pure.xor8 (by omega) (by omega) (by omega) (by omega)
  have e2 := TI_xor ha hb
  have e3 : (TI a == TI b) = ((a : Int) == (b : Int)) := by
    by_cases e : a = b
    · subst e; simp
    · have h1 : (TI a == TI b) = false := by simpa using fun h => e (TI_inj ha hb h)
      have h2 : ((a : Int) == (b : Int)) = false := by simp; omega
      rw [h1, h2]
  have e4 := TI_shift a
  have E1 := Lib.hid e1
  have E2 := Lib.hid e2
  have E3 := Lib.hid e3
  have E4 := Lib.hid e4
  have a1 : (a : Int) < 256 := by omega
  have b1 : (b : Int) < 256 := by omega
  have c1 : ((a ^^^ b : Nat) : Int) < 256 := by omega
  generalize hcc : a ^^^ b = c at *
  clear hs e1 e2 e3 e4 hcc
  go_enter Try.func7, Try.ntmps7
  go_wp2_with (first
    | (go_at_call 9; refine (godwitlaw02_awake.calls true _ Pure.awake_true).mono ?_; rintro e w1 ⟨rfl, hb⟩; have HB1 := Aside0.mk hb; clear hb)
    | (go_at_call 14; refine (table_calls _).mono ?_; rintro e w2 ⟨rfl, hb⟩; have HB2 := Aside0.mk (below_step HB1.out hb); clear hb)
    | (refine wpList_store_row rfl 34 (.tmp 6) (.tmp 8) rfl w2.heap.size Tab rfl rfl 34 zrow ?h1 ?h2 ?h3 Tab_one ?_; (case h1 => exact heap_alloc_last _ _); (case h2 => rw [HS.out, Tab_size]); (case h3 => rw [Tab_size]; rfl); rw [World.setRow_alloc_new]))
  have HB3 := Aside0.mk (HB2.out.alloc HB2.out.size (.cells Tab 34))
  have HG := Aside0.mk (heap_alloc_last w2 (.cells Tab 34))
  generalize hg : w2.heap.size = g at *
  have hcell : ∀ (W : World) (k : Nat), k < 256 → W.heap[g]? = some (.cells Tab 34 (0, 0)) → W.cell? ⟨g, k, none⟩ = some (.int .u32 (TI k)) := fun W k hk h => by rw [cell_of_row _ _ _ _ _ _ h, Tab_get k hk]; rfl
  generalize w2.alloc (.cells Tab 34) = wx at *
  clear hg hz HB2 HB1
  have HC := Lib.hid hcell
  clear hcell
  have t1 : (Go.bits .xor .u32 (TI a) (TI b) == TI c) = true := by rw [E2.out]; simp
  have t2 := E3.out
  have t3 : (TI a == shiftI a 1) = true := by rw [E4.out]; simp
  have t4 := E1.out
  have t5 : IntKind.u32.wrap (a : Int) = (a : Int) := by
    show (a : Int) % ((2 : Int) ^ 32) = _
    omega
  have HL : Aside0 (g < wx.drew.heap.size) := ⟨(Array.getElem?_eq_some_iff.1 HG.out).1⟩
  go_region_held3 (fun w' => w'.cell? ⟨g, a, none⟩ = some (.int .u32 (TI a)) ∧ w'.cell? ⟨g, b, none⟩ = some (.int .u32 (TI b)) ∧ w'.cell? ⟨g, c, none⟩ = some (.int .u32 (TI c)) ∧ Aside0 (w'.heap[g]? = some (.cells Tab 34 (0, 0))) ∧ Aside0 (Below w.heap.size w w'))
    ((refine ⟨HC.out _ a ha ?g, HC.out _ b hb ?g, HC.out _ c hc ?g, ⟨?g⟩, ⟨?h⟩⟩; (case g => first | exact HG.out | assumption); (case h => first | exact below_drew1 HB3.out | assumption)))
    ((go_at_call 11; (with_reducible refine (shift_calls (a : Int) 1 ?k1 ?k2 _).mono ?_); (case k1 => omega); (case k2 => omega); rintro e w3 ⟨rfl, hb3⟩; have hg2 := (hb3.block g (HL.out)).trans HG.out; have hb4 := below_step (below_drew1 HB3.out) hb3; clear hb3))
  go_wp2
  go_ret
  exact ⟨rfl, by assumption⟩
end Go.Proofs.Ytfldileaolomlaa.G
