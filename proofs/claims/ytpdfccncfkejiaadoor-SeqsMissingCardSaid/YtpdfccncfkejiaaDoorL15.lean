/- A listed table of the library's (math/bits.deBruijn64tab): what it gives a walk; TrailingZeros64; a world that meets it. -/
import Derived.Test.YtpdfccncfkejiaaDoorRows
import Derived.Test.YtpdfccncfkejiaaDoorX0
import Derived.Lib.LaidTab
import Derived.Lib.TrailingZeros
import Derived.Laws.Bits64b
import Derived.LaidLaws
import Derived.LaidHandle
import Derived.Stop.Joined
import Derived.Outline
namespace Go.Proofs.YtpdfccncfkejiaaDoor.G
open Go.RowKit Go.Proofs.YtpdfccncfkejiaaDoorW.PrintWords
set_option linter.unusedVariables false
set_option linter.unusedSimpArgs false
abbrev laidL : List (String × DataW Unit) := [("math/bits.deBruijn64tab", Rows.laid_math_bits_deBruijn64tab)]
def dbInts : List Int := Lib.deBruijn64tab.map fun (n : Nat) => (n : Int)
theorem laid_is : (Rows.laid_math_bits_deBruijn64tab : DataW Unit) = Lib.tabData .u8 dbInts := by kernel_rfl
theorem dbGlobal : Tryd.prog.globalNamed "math/bits.deBruijn64tab" = some 0 := by kernel_rfl
/-- The table stands in its variable. -/
def LaidT (w : World) : Prop := ∀ j, j < 64 → w.cell? ⟨0, j, none⟩ = some (.int .u8 (Lib.deBruijn64tab.getD j 0 : Nat))
theorem LaidT.below {w w' : World} (h : LaidT w) (hb : Below w.heap.size w w') : LaidT w' := fun j hj => pw_cell_below hb (h j hj)
theorem laidT_of {W : World} (h : laidMetH Tryd.prog laidL W) : LaidT W := by
  have h1 : laidMet Tryd.prog laidL W := h
  unfold laidL at h1
  rw [laid_is] at h1
  have hT := Lib.tabIs_of_head (g := 0) (t := 50) (e := 5) (n := 64) dbGlobal (by kernel_rfl) Tryd.underlying50 Tryd.underlying5 (by kernel_rfl) (by kernel_rfl) h1
  intro j hj
  have hl : dbInts.length = 64 := rfl
  have := hT.cell dbGlobal j (by omega)
  rw [this]
  unfold dbInts
  simp only [List.getD_eq_getElem?_getD, List.getElem?_map]
  have hl2 : Lib.deBruijn64tab.length = 64 := rfl
  rw [List.getElem?_eq_getElem (by omega)]
  rfl
noncomputable def laidWorld (os : Os) : World :=
  let w0 := World.holding Tryd.prog os ⟨#[], #[], []⟩
  { w0 with heap := w0.heap.modify 0 fun
      | .cells _ t frozen => .cells (dbInts.map fun n => Value.int .u8 n).toArray t frozen
      | o => o }
theorem laidWorld_met (os : Os) (args : Array Value) : laidMetH Tryd.prog laidL ((laidWorld os).forCall (fun _ _ => 0) ⟨#[], args, []⟩).memory :=
  laidMetH_of_parts (laidMet_of_run' 8 (by kernel_rfl) (by kernel_rfl)) (by kernel_rfl)

theorem tz_key (x a : Nat) (hx : x < 18446744073709551616) (hx0 : x ≠ 0) (hlow : x &&& (18446744073709551616 - x) = a) :
    IntKind.u64.wrap (bits BinOp.and IntKind.u64 (x : Int) (IntKind.u64.wrap (-(x : Int))) * 285870213051353865) / 288230376151711744 = ((a * 285870213051353865 % 18446744073709551616 / 288230376151711744 : Nat) : Int) := by
  have e1 : IntKind.u64.wrap (-(x : Int)) = ((18446744073709551616 - x : Nat) : Int) := by rw [IntKind.wrap_u64]; omega
  rw [e1, bits_and_u64_nat x _ hx (by omega), hlow, IntKind.wrap_u64]
  omega
set_option maxHeartbeats 1000000 in
theorem tz_core (x k idx : Nat) (w : World) (hx0 : ((x : Int) == 0) = false)
    (key : IntKind.u64.wrap (bits BinOp.and IntKind.u64 (x : Int) (IntKind.u64.wrap (-(x : Int))) * 285870213051353865) / 288230376151711744 = (idx : Int))
    (hi : idx < 64) (hk : k < 64) (hcell : w.cell? ⟨0, idx, none⟩ = some (.int .u8 k)) :
    Calls Tryd.prog 23 #[.int .u64 x] w fun e w' => e = .returned (.int .i64 k) ∧ w' = w := by
  go_enter Tryd.func23, Tryd.ntmps23
  go_wp2_with (simp only [key])
  go_ret
  exact ⟨rfl, rfl⟩
theorem tz_zero (w : World) : Calls Tryd.prog 23 #[.int .u64 0] w fun e w' => e = .returned (.int .i64 64) ∧ w' = w := by
  go_enter Tryd.func23, Tryd.ntmps23
  go_wp2
  go_ret
  exact ⟨rfl, rfl⟩
theorem tz_calls (x : Nat) (hx : x < 18446744073709551616) (w : World) (hT : LaidT w) :
    Calls Tryd.prog 23 #[.int .u64 x] w fun e w' => e = .returned (.int .i64 (Lib.ctz 64 x : Nat)) ∧ w' = w := by
  by_cases hx0 : x = 0
  · subst hx0
    exact tz_zero w
  · obtain ⟨hlow, hk⟩ := Lib.lowest_bit 64 x hx0 hx
    obtain ⟨hi, htab⟩ := Lib.deBruijn64_at _ hk
    have hcell := hT _ hi
    rw [htab] at hcell
    exact tz_core x _ _ w (by simp; omega) (tz_key x _ hx hx0 hlow) hi hk hcell
theorem tz_f (a : Int) (h0 : 0 ≤ a) (h1 : a < 18446744073709551616) (w : World) (hT : LaidT w) :
    Calls Tryd.prog 23 #[.int .u64 a] w fun e w' => e = .returned (.int .i64 (Lib.ctz 64 a.toNat : Nat)) ∧ Below w.heap.size w w' := by
  obtain ⟨x, rfl⟩ := Int.eq_ofNat_of_zero_le h0
  exact (tz_calls x (by omega) w hT).mono fun e w' ⟨h1, h2⟩ => ⟨h1, h2 ▸ Below.refl _ _⟩
end Go.Proofs.YtpdfccncfkejiaaDoor.G
