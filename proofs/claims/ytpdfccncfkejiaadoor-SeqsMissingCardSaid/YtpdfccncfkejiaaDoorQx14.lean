-- written by a turned copy of the kit's printer (wip/tools/patch_print.py over print.py); contracts of given functions are this session's own
import Derived.Test.YtpdfccncfkejiaaDoorQx0
import Derived.Test.YtpdfccncfkejiaaDoorQx6
import Derived.Test.YtpdfccncfkejiaaDoorQx8
import Derived.Test.YtpdfccncfkejiaaDoorQx9
import Derived.Test.YtpdfccncfkejiaaDoorQx11
import Derived.Test.YtpdfccncfkejiaaDoorQx13
namespace Go.Proofs.YtpdfccncfkejiaaDoor.Q
open Go.RowKit Go.Proofs.YtpdfccncfkejiaaDoorW.PrintWords Go.Proofs.YtpdfccncfkejiaaDoorW.PrintLast Go.Proofs.YtpdfccncfkejiaaDoorW.PrintMore Go.Proofs.YtpdfccncfkejiaaDoor.G
attribute [local go_sem] max2_int min2_int max_two min_two max_three min_three max_four min_four   -- for this text's walks alone
set_option linter.unusedVariables false
set_option linter.unusedSimpArgs false

abbrev pd14 := @pw_below_drewN
abbrev pe14 := @below_drew1
abbrev pl14 := @World.block_lt_of_cell?
abbrev pa14 := @below_alloc

def ba14 : Nat → Nat → List Bool
 | 0, _ => []
 | n + 1, m => (m % 2 == 1) :: ba14 n (m / 2)
abbrev bA14 (n m : Nat) : Array Bool := (ba14 n m).toArray
theorem sI14 {α : Type} (l : List α) (i : Nat) (a : α) : l.toArray.setIfInBounds i a = (l.set i a).toArray := List.setIfInBounds_toArray l i a
theorem sZ14 {α : Type} (a b : α) (l : List α) : (a :: l).set 0 b = b :: l := List.set_cons_zero
theorem sS14 {α : Type} (a b : α) (l : List α) (n : Nat) : (a :: l).set (n + 1) b = a :: l.set n b := List.set_cons_succ

/-! ### godwitlaw15_SeqsMissing: function 5 -/
mutual
def godwitlaw15_SeqsMissing.l0 : Nat → List Int → Int → Bool → Int → Int → Int → Option (Bool)
 | 0, _, _, _, _, _, _ => none
 | k + 1, x0, x1, x5, x7, x174000, x174001 => if x7 < (x0.length : Int) then (if 0 ≤ x7 then ((seqs_Accept.f x174000 x174001 (rd x0 x7)).bind fun bt175 => (if bt175.2.2 = 0 then (godwitlaw15_SeqsMissing.l0 k x0 x1 x5 (wrap64 (x7 + 1)) bt175.1 bt175.2.1) else (godwitlaw15_SeqsMissing.l0 k x0 x1 x5 (wrap64 (x7 + 1)) x174000 x174001))) else (none)) else ((seqs_Missing.f k x174000 x174001 64).bind fun t179 => (godwitlaw15_SeqsMissing.l1 k x1 x5 t179 0 0 x174000 x174001))
def godwitlaw15_SeqsMissing.l1 : Nat → Int → Bool → List Int → Int → Int → Int → Int → Option (Bool)
 | 0, _, _, _, _, _, _, _ => none
 | k + 1, x1, x5, x10, x11, x12, x174000, x174001 => if x12 < 64 then ((seqs_Seen.f x174000 x174001 (wrap64 (x174000 + x12))).bind fun t182 => (if t182 = true then (godwitlaw15_SeqsMissing.j2 k x1 x5 x10 x11 x12 false x174000 x174001) else (godwitlaw15_SeqsMissing.j2 k x1 x5 x10 x11 x12 (decide ((wrap64 (x174000 + x12)) < 4294967296)) x174000 x174001))) else (if x11 = (x10.length : Int) then (godwitlaw15_SeqsMissing.j4 k x1 x5 x10 x11 (x11 == 0) x174000 x174001) else (godwitlaw15_SeqsMissing.j4 k x1 x5 x10 x11 true x174000 x174001))
def godwitlaw15_SeqsMissing.j2 : Nat → Int → Bool → List Int → Int → Int → Bool → Int → Int → Option (Bool)
 | 0, _, _, _, _, _, _, _, _ => none
 | k + 1, x1, x5, x10, x11, x12, x60, x174000, x174001 => if x60 = true then (if x11 ≥ (x10.length : Int) then (godwitlaw15_SeqsMissing.j3 k x1 x5 x10 x11 x12 true x174000 x174001) else (if 0 ≤ x11 then (if x11 < (x10.length : Int) then (godwitlaw15_SeqsMissing.j3 k x1 x5 x10 x11 x12 ((rd x10 x11) != (wrap64 (x174000 + x12))) x174000 x174001) else (none)) else (none))) else (godwitlaw15_SeqsMissing.l1 k x1 x5 x10 x11 (wrap64 (x12 + 1)) x174000 x174001)
def godwitlaw15_SeqsMissing.j3 : Nat → Int → Bool → List Int → Int → Int → Bool → Int → Int → Option (Bool)
 | 0, _, _, _, _, _, _, _, _ => none
 | k + 1, x1, x5, x10, x11, x12, x75, x174000, x174001 => if x75 = true then (none) else (godwitlaw15_SeqsMissing.l1 k x1 x5 x10 (wrap64 (x11 + 1)) (wrap64 (x12 + 1)) x174000 x174001)
def godwitlaw15_SeqsMissing.j4 : Nat → Int → Bool → List Int → Int → Bool → Int → Int → Option (Bool)
 | 0, _, _, _, _, _, _, _ => none
 | k + 1, x1, x5, x10, x11, x85, x174000, x174001 => if x85 = true then (if x5 = true then (some (x11 == (x10.length : Int))) else (none)) else (if x11 = 0 then (none) else (if 0 ≤ (Int.tmod (Go.bits .and .i64 x1 65535) x11) then (if (Int.tmod (Go.bits .and .i64 x1 65535) x11) < (x10.length : Int) then ((seqs_Accept.f x174000 x174001 (rd x10 (Int.tmod (Go.bits .and .i64 x1 65535) x11))).bind fun bt185 => ((seqs_Missing.f k bt185.1 bt185.2.1 1).bind fun t189 => (if x5 = true then (if bt185.2.2 = 0 then ((seqs_Seen.f bt185.1 bt185.2.1 (rd x10 (Int.tmod (Go.bits .and .i64 x1 65535) x11))).bind fun t193 => (if t193 = true then ((seqs_Seen.f x174000 x174001 (rd x10 (Int.tmod (Go.bits .and .i64 x1 65535) x11))).bind fun t195 => (if t195 = true then (none) else (if (Int.tmod (Go.bits .and .i64 x1 65535) x11) > 0 then ((seqs_Missing.f k x174000 x174001 0).bind fun t196 => ((godwitref10_Ints.f k t196 ([] : List Int)).bind fun t199 => (some t199))) else (if (t189.length : Int) = 0 then ((seqs_Missing.f k x174000 x174001 0).bind fun t200 => ((godwitref10_Ints.f k t200 ([] : List Int)).bind fun t203 => (some t203))) else (if 0 < (t189.length : Int) then (if 0 < (x10.length : Int) then (if (rd t189 0) > (rd x10 0) then ((seqs_Missing.f k x174000 x174001 0).bind fun t206 => ((godwitref10_Ints.f k t206 ([] : List Int)).bind fun t209 => (some t209))) else (none)) else (none)) else (none)))))) else (none))) else (none)) else (none)))) else (none)) else (none)))
end
def godwitlaw15_SeqsMissing.f (k : Nat) (l0 : List Int) (a1 : Int) : Option (Bool) := (godwitlaw15_awake.f).bind fun t172 => (if (l0.length : Int) > 100 then (some t172) else (godwitlaw15_SeqsMissing.l0 k l0 a1 t172 0 0 0))
theorem godwitlaw15_SeqsMissing.mono_l : ∀ k, (∀ y0 y1 y2 y3 y4 y5, LeO (godwitlaw15_SeqsMissing.l0 k y0 y1 y2 y3 y4 y5) (godwitlaw15_SeqsMissing.l0 (k + 1) y0 y1 y2 y3 y4 y5)) ∧ (∀ y0 y1 y2 y3 y4 y5 y6, LeO (godwitlaw15_SeqsMissing.l1 k y0 y1 y2 y3 y4 y5 y6) (godwitlaw15_SeqsMissing.l1 (k + 1) y0 y1 y2 y3 y4 y5 y6)) ∧ (∀ y0 y1 y2 y3 y4 y5 y6 y7, LeO (godwitlaw15_SeqsMissing.j2 k y0 y1 y2 y3 y4 y5 y6 y7) (godwitlaw15_SeqsMissing.j2 (k + 1) y0 y1 y2 y3 y4 y5 y6 y7)) ∧ (∀ y0 y1 y2 y3 y4 y5 y6 y7, LeO (godwitlaw15_SeqsMissing.j3 k y0 y1 y2 y3 y4 y5 y6 y7) (godwitlaw15_SeqsMissing.j3 (k + 1) y0 y1 y2 y3 y4 y5 y6 y7)) ∧ (∀ y0 y1 y2 y3 y4 y5 y6, LeO (godwitlaw15_SeqsMissing.j4 k y0 y1 y2 y3 y4 y5 y6) (godwitlaw15_SeqsMissing.j4 (k + 1) y0 y1 y2 y3 y4 y5 y6))
 | 0 => ⟨fun _ _ _ _ _ _ r h => by simp [godwitlaw15_SeqsMissing.l0] at h, fun _ _ _ _ _ _ _ r h => by simp [godwitlaw15_SeqsMissing.l1] at h, fun _ _ _ _ _ _ _ _ r h => by simp [godwitlaw15_SeqsMissing.j2] at h, fun _ _ _ _ _ _ _ _ r h => by simp [godwitlaw15_SeqsMissing.j3] at h, fun _ _ _ _ _ _ _ r h => by simp [godwitlaw15_SeqsMissing.j4] at h⟩
 | k + 1 => by
  obtain ⟨ih0, ih1, ih2, ih3, ih4⟩ := godwitlaw15_SeqsMissing.mono_l k
  refine ⟨?_, ?_, ?_, ?_, ?_⟩
  ·intro y0 y1 y2 y3 y4 y5
   unfold godwitlaw15_SeqsMissing.l0
   repeat' first
   | (with_reducible exact ih0 _ _ _ _ _ _)
   | (with_reducible exact ih1 _ _ _ _ _ _ _)
   | (with_reducible exact ih2 _ _ _ _ _ _ _ _)
   | (with_reducible exact ih3 _ _ _ _ _ _ _ _)
   | (with_reducible exact ih4 _ _ _ _ _ _ _)
   | (with_reducible exact godwitref10_Ints.mono _ _ _)
   | (with_reducible exact seqs_Missing.mono _ _ _ _)
   | (with_reducible exact LeO.refl _)
   | (with_reducible exact LeO.none _)
   | (with_reducible refine LeO.ite ?_ ?_)
   | (with_reducible refine LeO.bind ?_ (fun _ => ?_))
   | exact ih0 _ _ _ _ _ _
   | exact ih1 _ _ _ _ _ _ _
   | exact ih2 _ _ _ _ _ _ _ _
   | exact ih3 _ _ _ _ _ _ _ _
   | exact ih4 _ _ _ _ _ _ _
   | exact godwitref10_Ints.mono _ _ _
   | exact seqs_Missing.mono _ _ _ _
   | exact LeO.none _
   | refine LeO.ite ?_ ?_
   | refine LeO.bind ?_ (fun _ => ?_)
  ·intro y0 y1 y2 y3 y4 y5 y6
   unfold godwitlaw15_SeqsMissing.l1
   repeat' first
   | (with_reducible exact ih0 _ _ _ _ _ _)
   | (with_reducible exact ih1 _ _ _ _ _ _ _)
   | (with_reducible exact ih2 _ _ _ _ _ _ _ _)
   | (with_reducible exact ih3 _ _ _ _ _ _ _ _)
   | (with_reducible exact ih4 _ _ _ _ _ _ _)
   | (with_reducible exact godwitref10_Ints.mono _ _ _)
   | (with_reducible exact seqs_Missing.mono _ _ _ _)
   | (with_reducible exact LeO.refl _)
   | (with_reducible exact LeO.none _)
   | (with_reducible refine LeO.ite ?_ ?_)
   | (with_reducible refine LeO.bind ?_ (fun _ => ?_))
   | exact ih0 _ _ _ _ _ _
   | exact ih1 _ _ _ _ _ _ _
   | exact ih2 _ _ _ _ _ _ _ _
   | exact ih3 _ _ _ _ _ _ _ _
   | exact ih4 _ _ _ _ _ _ _
   | exact godwitref10_Ints.mono _ _ _
   | exact seqs_Missing.mono _ _ _ _
   | exact LeO.none _
   | refine LeO.ite ?_ ?_
   | refine LeO.bind ?_ (fun _ => ?_)
  ·intro y0 y1 y2 y3 y4 y5 y6 y7
   unfold godwitlaw15_SeqsMissing.j2
   repeat' first
   | (with_reducible exact ih0 _ _ _ _ _ _)
   | (with_reducible exact ih1 _ _ _ _ _ _ _)
   | (with_reducible exact ih2 _ _ _ _ _ _ _ _)
   | (with_reducible exact ih3 _ _ _ _ _ _ _ _)
   | (with_reducible exact ih4 _ _ _ _ _ _ _)
   | (with_reducible exact godwitref10_Ints.mono _ _ _)
   | (with_reducible exact seqs_Missing.mono _ _ _ _)
   | (with_reducible exact LeO.refl _)
   | (with_reducible exact LeO.none _)
   | (with_reducible refine LeO.ite ?_ ?_)
   | (with_reducible refine LeO.bind ?_ (fun _ => ?_))
   | exact ih0 _ _ _ _ _ _
   | exact ih1 _ _ _ _ _ _ _
   | exact ih2 _ _ _ _ _ _ _ _
   | exact ih3 _ _ _ _ _ _ _ _
   | exact ih4 _ _ _ _ _ _ _
   | exact godwitref10_Ints.mono _ _ _
   | exact seqs_Missing.mono _ _ _ _
   | exact LeO.none _
   | refine LeO.ite ?_ ?_
   | refine LeO.bind ?_ (fun _ => ?_)
  ·intro y0 y1 y2 y3 y4 y5 y6 y7
   unfold godwitlaw15_SeqsMissing.j3
   repeat' first
   | (with_reducible exact ih0 _ _ _ _ _ _)
   | (with_reducible exact ih1 _ _ _ _ _ _ _)
   | (with_reducible exact ih2 _ _ _ _ _ _ _ _)
   | (with_reducible exact ih3 _ _ _ _ _ _ _ _)
   | (with_reducible exact ih4 _ _ _ _ _ _ _)
   | (with_reducible exact godwitref10_Ints.mono _ _ _)
   | (with_reducible exact seqs_Missing.mono _ _ _ _)
   | (with_reducible exact LeO.refl _)
   | (with_reducible exact LeO.none _)
   | (with_reducible refine LeO.ite ?_ ?_)
   | (with_reducible refine LeO.bind ?_ (fun _ => ?_))
   | exact ih0 _ _ _ _ _ _
   | exact ih1 _ _ _ _ _ _ _
   | exact ih2 _ _ _ _ _ _ _ _
   | exact ih3 _ _ _ _ _ _ _ _
   | exact ih4 _ _ _ _ _ _ _
   | exact godwitref10_Ints.mono _ _ _
   | exact seqs_Missing.mono _ _ _ _
   | exact LeO.none _
   | refine LeO.ite ?_ ?_
   | refine LeO.bind ?_ (fun _ => ?_)
  ·intro y0 y1 y2 y3 y4 y5 y6
   unfold godwitlaw15_SeqsMissing.j4
   repeat' first
   | (with_reducible exact ih0 _ _ _ _ _ _)
   | (with_reducible exact ih1 _ _ _ _ _ _ _)
   | (with_reducible exact ih2 _ _ _ _ _ _ _ _)
   | (with_reducible exact ih3 _ _ _ _ _ _ _ _)
   | (with_reducible exact ih4 _ _ _ _ _ _ _)
   | (with_reducible exact godwitref10_Ints.mono _ _ _)
   | (with_reducible exact seqs_Missing.mono _ _ _ _)
   | (with_reducible exact LeO.refl _)
   | (with_reducible exact LeO.none _)
   | (with_reducible refine LeO.ite ?_ ?_)
   | (with_reducible refine LeO.bind ?_ (fun _ => ?_))
   | exact ih0 _ _ _ _ _ _
   | exact ih1 _ _ _ _ _ _ _
   | exact ih2 _ _ _ _ _ _ _ _
   | exact ih3 _ _ _ _ _ _ _ _
   | exact ih4 _ _ _ _ _ _ _
   | exact godwitref10_Ints.mono _ _ _
   | exact seqs_Missing.mono _ _ _ _
   | exact LeO.none _
   | refine LeO.ite ?_ ?_
   | refine LeO.bind ?_ (fun _ => ?_)
theorem godwitlaw15_SeqsMissing.mono : ∀ a0 a1 k, LeO (godwitlaw15_SeqsMissing.f k a0 a1) (godwitlaw15_SeqsMissing.f (k + 1) a0 a1) := by
 intro a0 a1 k
 obtain ⟨ih0, ih1, ih2, ih3, ih4⟩ := godwitlaw15_SeqsMissing.mono_l k
 unfold godwitlaw15_SeqsMissing.f
 repeat' first
   | (with_reducible exact ih0 _ _ _ _ _ _)
   | (with_reducible exact ih1 _ _ _ _ _ _ _)
   | (with_reducible exact ih2 _ _ _ _ _ _ _ _)
   | (with_reducible exact ih3 _ _ _ _ _ _ _ _)
   | (with_reducible exact ih4 _ _ _ _ _ _ _)
   | (with_reducible exact godwitref10_Ints.mono _ _ _)
   | (with_reducible exact seqs_Missing.mono _ _ _ _)
   | (with_reducible exact LeO.refl _)
   | (with_reducible exact LeO.none _)
   | (with_reducible refine LeO.ite ?_ ?_)
   | (with_reducible refine LeO.bind ?_ (fun _ => ?_))
   | exact ih0 _ _ _ _ _ _
   | exact ih1 _ _ _ _ _ _ _
   | exact ih2 _ _ _ _ _ _ _ _
   | exact ih3 _ _ _ _ _ _ _ _
   | exact ih4 _ _ _ _ _ _ _
   | exact godwitref10_Ints.mono _ _ _
   | exact seqs_Missing.mono _ _ _ _
   | exact LeO.none _
   | refine LeO.ite ?_ ?_
   | refine LeO.bind ?_ (fun _ => ?_)
def godwitlaw15_SeqsMissing.T8 : Bool × List (List Nat × List Nat) := (true, [([], []), ([], []), ([], []), ([1, 2], [1, 2]), ([3], [3]), ([0, 4], [0, 4]), ([5], [5]), ([6], [6]), ([6], [6]), ([], []), ([9, 7, 5, 0, 1, 2, 3, 4, 5, 6, 7, 9], [7, 9]), ([8, 10, 0, 1, 2, 3, 4, 5, 6, 7, 8, 9, 10], [8])])
def godwitlaw15_SeqsMissing.B8 : List Nat := [0, 0, 0, 6, 14, 31, 63, 127, 127, 0, 767, 2047]
theorem godwitlaw15_SeqsMissing.tab8 : rtab .any (opsOf Tryd.f5 8) = godwitlaw15_SeqsMissing.T8 := by kernel_rfl
theorem godwitlaw15_SeqsMissing.bits8 : waitsOk godwitlaw15_SeqsMissing.T8.2 godwitlaw15_SeqsMissing.B8 = true := by kernel_rfl
def godwitlaw15_SeqsMissing.T17 : Bool × List (List Nat × List Nat) := (true, [([], []), ([], []), ([1], [1]), ([0, 2], [0, 2]), ([3], [3]), ([4], [4]), ([4], [4]), ([5, 6, 4], [4, 5, 6]), ([7, 4], [4, 7]), ([4], [4]), ([9, 4], [4, 9]), ([4], [4]), ([10, 11, 4], [4, 10, 11]), ([8, 12, 4], [4, 8, 12]), ([4, 13], [4, 13])])
def godwitlaw15_SeqsMissing.B17 : List Nat := [0, 0, 2, 7, 15, 31, 31, 127, 255, 31, 543, 31, 3615, 8191, 16383]
theorem godwitlaw15_SeqsMissing.tab17 : rtab .any (opsOf Tryd.f5 17) = godwitlaw15_SeqsMissing.T17 := by kernel_rfl
theorem godwitlaw15_SeqsMissing.bits17 : waitsOk godwitlaw15_SeqsMissing.T17.2 godwitlaw15_SeqsMissing.B17 = true := by kernel_rfl
def godwitlaw15_SeqsMissing.T23 : Bool × List (List Nat × List Nat) := (true, [([], []), ([], []), ([], []), ([1, 2], [1, 2]), ([3], [3]), ([0, 4], [0, 4]), ([5], [5]), ([6], [6]), ([6], [6]), ([], []), ([9, 7, 5, 0, 1, 2, 3, 4, 5, 6, 7, 9], [7, 9]), ([8, 10, 0, 1, 2, 3, 4, 5, 6, 7, 8, 9, 10], [8])])
def godwitlaw15_SeqsMissing.B23 : List Nat := [0, 0, 0, 6, 14, 31, 63, 127, 127, 0, 767, 2047]
theorem godwitlaw15_SeqsMissing.tab23 : rtab .any (opsOf Tryd.f5 23) = godwitlaw15_SeqsMissing.T23 := by kernel_rfl
theorem godwitlaw15_SeqsMissing.bits23 : waitsOk godwitlaw15_SeqsMissing.T23.2 godwitlaw15_SeqsMissing.B23 = true := by kernel_rfl
def godwitlaw15_SeqsMissing.T25 : Bool × List (List Nat × List Nat) := (true, [([], []), ([0], [0]), ([1], [1]), ([2, 1], [1, 2]), ([1, 3], [1, 3]), ([4, 1], [4]), ([5], [5]), ([5], [5]), ([5], [5]), ([7, 8, 5], [5, 7, 8]), ([9, 5], [5, 9]), ([6, 10, 5, 5], [5, 6, 10]), ([5, 11], [5, 11]), ([12, 11], [12]), ([13], [13]), ([13], [13]), ([13], [13]), ([15, 16, 13], [13, 15, 16]), ([17, 13], [13, 17]), ([14, 18, 13, 13], [13, 14, 18]), ([19, 13], [13, 19]), ([13, 20], [13, 20]), ([21, 19], [21]), ([22], [22]), ([23, 22], [22, 23]), ([24, 22, 22], [22, 24]), ([25], [25]), ([26, 25], [25, 26]), ([27, 25], [25, 27]), ([25, 28, 22], [22, 25, 28]), ([29, 25, 22], [22, 29]), ([30], [30]), ([31, 30], [30, 31]), ([32, 30], [30, 32]), ([30], [30]), ([34, 30], [30, 34]), ([35, 30], [30, 35]), ([33, 36, 30], [30, 33, 36]), ([30, 37, 22], [22, 30, 37]), ([22, 38], [22, 38]), ([39, 30], [39]), ([40], [40]), ([41, 40, 40], [40, 41]), ([42, 42, 40], [40, 42]), ([40, 43], [40, 43]), ([44, 43, 0, 1, 2, 3, 4, 5, 6, 7, 8, 9, 10, 11, 12, 13, 14, 15, 16, 17, 18, 19, 20, 21, 22, 23, 24, 25, 26, 27, 28, 29, 30, 31, 32, 33, 34, 35, 36, 37, 38, 39, 40, 41, 42, 43, 44], [44])])
def godwitlaw15_SeqsMissing.B25 : List Nat := [0, 1, 3, 7, 15, 31, 63, 63, 63, 447, 959, 2047, 4095, 8191, 16383, 16383, 16383, 114687, 245759, 524287, 1048575, 2097151, 4194303, 8388607, 16777215, 33554431, 67108863, 134217727, 268435455, 536870911, 1073741823, 2147483647, 4294967295, 8589934591, 2147483647, 19327352831, 53687091199, 137438953471, 274877906943, 549755813887, 1099511627775, 2199023255551, 4398046511103, 8796093022207, 17592186044415, 35184372088831]
theorem godwitlaw15_SeqsMissing.tab25 : rtab .any (opsOf Tryd.f5 25) = godwitlaw15_SeqsMissing.T25 := by kernel_rfl
theorem godwitlaw15_SeqsMissing.bits25 : waitsOk godwitlaw15_SeqsMissing.T25.2 godwitlaw15_SeqsMissing.B25 = true := by kernel_rfl
set_option maxHeartbeats 8000000 in
set_option maxRecDepth 100000 in
theorem godwitlaw15_SeqsMissing.calls (k : Nat) (A0 : Option Addr) (c0 : Nat) (l0 : List Int) (a1 : Int) (r : Bool) (w : World) (hr0 : Kd.C (Kd.int .i64) w A0 l0.length l0) (hc0 : l0.length ≤ c0) (hLD : LaidT w) (h : godwitlaw15_SeqsMissing.f k l0 a1 = some r) :
  Calls Tryd.prog 5 #[.slice A0 l0.length c0, .int .i64 a1] w fun e w' => e = .returned (.bool r) ∧ Below w.heap.size w w' := by
 have hu26 := Tryd.underlying26
 have HR0 := Aside0.mk hr0
 have HC0 := Aside0.mk hc0
 clear hr0 hc0
 have HB := Aside0.mk (Below.refl w.heap.size w)
 have HLD := Aside0.mk hLD
 clear hLD
 have H : ((godwitlaw15_awake.f).bind fun t172 => (if (l0.length : Int) > 100 then (some t172) else (godwitlaw15_SeqsMissing.l0 k l0 a1 t172 0 0 0))) = some r := h
 clear h
 replace H := Option.bind_eq_some_iff.mp H
 obtain ⟨t172, A30, H⟩ := H
 replace H : (if (l0.length : Int) > 100 then (some t172) else (godwitlaw15_SeqsMissing.l0 k l0 a1 t172 0 0 0)) = some r := H
 have A3 := Aside0.mk A30
 clear A30
 by_cases c4 : (l0.length : Int) > 100
 ·rw [if_pos c4] at H
  have c4b0 : decide (100 < (l0.length : Int)) = true := decide_eq_true c4
  have c4b1 : decide (100 < l0.length) = true := decide_eq_true (by omega)
  clear c4
  obtain rfl := Option.some.inj H
  go_enter Tryd.func5, Tryd.ntmps5
  go_wp2_with (first | ((with_reducible refine gate_callee (f := 8) rfl ?_); refine goesL_ (some 17) rfl rfl Tryd.func8 (by kernel_rfl) rfl #[] rfl (by (try simp only [List.map_toArray, List.map_cons, List.map_nil]); first | done | rfl | (simp only [List.length_drop, List.length_take]; rfl)) ?_; (with_reducible refine (godwitlaw15_awake.calls  t172 _ ?side1 A3.1).mono ?_); (case side1 => exact LaidT.below HLD.1 (by repeat (first | (with_reducible first | exact HB.1 | apply pa14 | apply pd14 | apply pe14) | exact HB.1))); rintro e w5 ⟨rfl, hb⟩; refine ⟨_, rfl, ?_⟩; have n0_ := Aside0.mk (below_step (by repeat (first | (with_reducible first | exact HB.1 | apply pa14 | apply pd14 | apply pe14) | exact HB.1)) hb); clear HB; have HB := n0_; clear n0_; (try clear hb); (try clear hb2); (try clear hk); (try clear hi)))
  go_ret
  exact ⟨by first | rfl | (simp [errW_none, errW_some] <;> rfl) | (simp [*, errW_none, errW_some] <;> rfl), by repeat (first | (with_reducible first | exact HB.1 | apply pa14 | apply pd14 | apply pe14) | exact HB.1)⟩
 ·rw [if_neg c4] at H
  have c4b0 : decide (100 < (l0.length : Int)) = false := decide_eq_false c4
  have c4b1 : decide (100 < l0.length) = false := decide_eq_false (by omega)
  clear c4
  have H' := Aside0.mk H
  clear H
  go_enter Tryd.func5, Tryd.ntmps5
  go_wp2_with (first | ((with_reducible refine gate_callee (f := 8) rfl ?_); refine goesL_ (some 17) rfl rfl Tryd.func8 (by kernel_rfl) rfl #[] rfl (by (try simp only [List.map_toArray, List.map_cons, List.map_nil]); first | done | rfl | (simp only [List.length_drop, List.length_take]; rfl)) ?_; (with_reducible refine (godwitlaw15_awake.calls  t172 _ ?side1 A3.1).mono ?_); (case side1 => exact LaidT.below HLD.1 (by repeat (first | (with_reducible first | exact HB.1 | apply pa14 | apply pd14 | apply pe14) | exact HB.1))); rintro e w6 ⟨rfl, hb⟩; refine ⟨_, rfl, ?_⟩; have n0_ := Aside0.mk (below_step (by repeat (first | (with_reducible first | exact HB.1 | apply pa14 | apply pd14 | apply pe14) | exact HB.1)) hb); clear HB; have HB := n0_; clear n0_; (try clear hb); (try clear hb2); (try clear hk); (try clear hi)) | ((with_reducible refine gate_dst (N := 6) rfl ?_); (try (refine gate_guard (by rfl) ?_; dsimp only)); refine box_event ?hg (N := 6) ?hd (cs := #[.int .i64 0, .int .u64 0]) (t := 26) ?hr ?_; (case hd => rfl); (case hg => rfl); (case hr => first | (go_simp; done) | (go_simp; rfl)); intro gb173 hg w7 hbox hb; have n0_ := Aside0.mk (below_step (by repeat (first | (with_reducible first | exact HB.1 | apply pa14 | apply pd14 | apply pe14) | exact HB.1)) hb); have n1_ := Aside0.mk (hbox); have n2_ := Aside0.mk ((by rw [hg]; exact (below_size (by repeat (first | (with_reducible first | exact HB.1 | apply pa14 | apply pd14 | apply pe14) | exact HB.1))) : w.heap.size ≤ gb173)); have n3_ := Aside0.mk ((by rw [hg]; exact (below_size (by repeat (first | (with_reducible first | exact HB.1 | apply pa14 | apply pd14 | apply pe14) | exact HB.1))) : w.heap.size ≤ gb173)); clear HB; have HB := n0_; have BK173 := n1_; have GW173 := n2_; have GE173 := n3_; clear n0_ n1_ n2_ n3_; clear hb hbox hg; have hcz8_0 : w7.cell? ⟨gb173, 0, none⟩ = some (.int .i64 0) := (blk_cell BK173.1 0).trans rfl; have hcz8_1 : w7.cell? ⟨gb173, 1, none⟩ = some (.int .u64 0) := (blk_cell BK173.1 1).trans rfl; have hfz8_0 := blk_frozen BK173.1 0; have hfz8_1 := blk_frozen BK173.1 1))
  go_loopg [7] k (fun kq v7 w' => ∃ (x7_1 : Int) (x174000_1 : Int) (x174001_1 : Int), v7 = .int .i64 x7_1 ∧ Aside0 (godwitlaw15_SeqsMissing.l0 kq l0 a1 t172 x7_1 x174000_1 x174001_1 = some r) ∧ Aside0 (kq ≤ k) ∧ Aside0 (w'.heap[gb173]? = some (.cells #[.int .i64 x174000_1, .int .u64 x174001_1] 26 (0, 0))) ∧ Aside0 (Below w.heap.size w w'))
  case atStart => exact ⟨(0), (0), (0), (by first | rfl | (simp; done) | (simp [*]; done)), H', ⟨Nat.le_refl _⟩, ⟨by (with_reducible repeat (first | refine blk_drewN ?_ _ | refine blk_drew ?_ | refine blk_alloc ?_ _)); refine blk_put (cs := #[.int .i64 0, .int .u64 0]) ?_ 1 _ rfl; (with_reducible repeat (first | refine blk_drewN ?_ _ | refine blk_drew ?_ | refine blk_alloc ?_ _)); refine blk_put (cs := #[.int .i64 0, .int .u64 0]) ?_ 0 _ rfl; (with_reducible repeat (first | refine blk_drewN ?_ _ | refine blk_drew ?_ | refine blk_alloc ?_ _)); exact BK173.1⟩, ⟨by repeat (first | (with_reducible first | exact HB.1 | apply pa14 | apply pd14 | apply pe14 | refine below_set ?_ GE173.1) | exact HB.1)⟩⟩
  case round =>
   clear H'
   try clear p2
   try clear c4
   try clear c4b0
   try clear c4b1
   try clear c5
   try clear c8
   try clear hcz8_0
   try clear hcz8_1
   try clear hfz8_0
   try clear hfz8_1
   obtain ⟨x7_1, x174000_1, x174001_1, rfl, HA, HK1, BK173, HB⟩ := hrel
   cases gk with
   | zero => exact absurd HA.1 (by simp [godwitlaw15_SeqsMissing.l0])
   | succ k1 =>
    have H := HA.1
    clear HA
    simp only [godwitlaw15_SeqsMissing.l0] at H
    by_cases c9 : x7_1 < (l0.length : Int)
    ·rw [if_pos c9] at H
     have c9b0 : decide (x7_1 < (l0.length : Int)) = true := decide_eq_true c9
     clear c9
     by_cases c10 : 0 ≤ x7_1
     ·rw [if_pos c10] at H
      have c10b0 : decide (0 ≤ x7_1) = true := decide_eq_true c10
      clear c10
      replace H := Option.bind_eq_some_iff.mp H
      obtain ⟨⟨t175, t176, t177⟩, A110, H⟩ := H
      replace H : (if t177 = 0 then (godwitlaw15_SeqsMissing.l0 k1 l0 a1 t172 (wrap64 (x7_1 + 1)) t175 t176) else (godwitlaw15_SeqsMissing.l0 k1 l0 a1 t172 (wrap64 (x7_1 + 1)) x174000_1 x174001_1)) = some r := H
      have A11 := Aside0.mk A110
      clear A110
      by_cases c12 : t177 = 0
      ·rw [if_pos c12] at H
       have c12b0 : (t177 == 0) = true := beq_iff_eq.mpr c12
       have c12b1 : (t177 != 0) = false := bne_eq_false_iff_eq.mpr c12
       clear c12
       have H' := Aside0.mk H
       clear H
       try go_wp2
       have n0_ := Aside0.mk (blk_drew BK173.1)
       have n1_ := Aside0.mk (pe14 HB.1)
       clear BK173
       clear HB
       have BK173 := n0_
       have HB := n1_
       clear n0_ n1_
       have p174 : 0 ≤ (x7_1 : Int) := of_decide_eq_true (by first | (with_reducible assumption) | assumption)
       have q174 : x7_1 < (l0.length : Int) := of_decide_eq_true (by first | (with_reducible assumption) | assumption)
       obtain ⟨ad174, e174, hx174_0⟩ := Kd.at_int HR0.1 x7_1 p174 q174
       have hw174_0 := hx174_0
       cases e174
       replace hx174_0 := (HB.1.cell (pl14 w _ hx174_0)).trans hx174_0
       replace p174 := eq_true p174
       replace q174 := eq_true q174
       refine start_ (n := 12) (S := fun w' => w'.cell? ⟨gb173, 0, none⟩ = some (.int .i64 x174000_1) ∧ w'.cell? ⟨gb173, 1, none⟩ = some (.int .u64 x174001_1) ∧ w'.cell? (ad174.add (x7_1).toNat) = some (.int .i64 (rd l0 x7_1))) (ds := []) (bA14 12 0) (by kernel_rfl) rfl rfl ⟨(blk_cell BK173.1 0).trans rfl, (blk_cell BK173.1 1).trans rfl, ((HB.1.cell (pl14 w _ hw174_0)).trans hw174_0)⟩ (fun hHeld => ?_); refine with_tabW godwitlaw15_SeqsMissing.tab8 godwitlaw15_SeqsMissing.bits8 (fun HT_ HW_ => ?_)
       generalize wr.drew = w13 at BK173 HB hx174_0 hHeld ⊢
       refine pure_ (i := 1) (N := some 31) (v := ?_) (a' := ?_) (bA14 12 2) rfl rfl (any_of HT_.1 (by kernel_rfl)) (fun _ _ _ h => h) (Or.inl ⟨by rfl, ?_⟩) ?_ ?_
       rotate_left; (focus intro w'; go_simp; with_reducible rfl); rotate_left; focus (simp only [Act.put, sI14, sZ14, sS14, i64_w, i32_w] <;> rfl)
       refine pure_ (i := 2) (N := some 32) (v := ?_) (a' := ?_) (bA14 12 6) rfl rfl (any_of HT_.1 (by kernel_rfl)) (fun _ _ _ h => h) (Or.inl ⟨by rfl, ?_⟩) ?_ ?_
       rotate_left; (focus intro w'; go_simp; with_reducible rfl); rotate_left; focus (simp only [Act.put, sI14, sZ14, sS14, i64_w, i32_w] <;> rfl)
       refine pure_ (i := 3) (N := some 33) (v := ?_) (a' := ?_) (bA14 12 14) rfl rfl (any_of HT_.1 (by kernel_rfl)) (fun _ _ _ h => h) (Or.inl ⟨by rfl, ?_⟩) ?_ ?_
       rotate_left; (focus intro w'; go_simp; with_reducible rfl); rotate_left; focus (simp only [Act.put, sI14, sZ14, sS14, i64_w, i32_w] <;> rfl)
       refine take_ (i := 0) (N := some 30) (v := ?_) (a' := ?_) (bA14 12 15) rfl rfl (take_ofW HT_.1 HW_.1 (by kernel_rfl)) (fun _ _ _ h => h) (Or.inl ⟨by rfl, ?_⟩) hHeld ?_ ?_
       rotate_left
       ·rintro w' ⟨s0, s1, s2⟩
        go_simp
        with_reducible rfl
       rotate_left
       ·simp only [Act.put, sI14, sZ14, sS14, i64_w, i32_w]
        rfl
       refine take_ (i := 4) (N := some 34) (v := ?_) (a' := ?_) (bA14 12 31) rfl rfl (take_ofW HT_.1 HW_.1 (by kernel_rfl)) (fun _ _ _ h => h) (Or.inl ⟨by rfl, ?_⟩) hHeld ?_ ?_
       rotate_left
       ·rintro w' ⟨s0, s1, s2⟩
        go_simp
        with_reducible rfl
       rotate_left
       ·simp only [Act.put, sI14, sZ14, sS14, i64_w, i32_w]
        rfl
       refine join_ (σ := Nat) 2 (bA14 12 1023) (fun s_ => [(35, .tuple #[.agg #[.int .i64 t175, .int .u64 t176], .int .i64 t177]), (8, .pointer (some ⟨s_, 0, none⟩)), (29, .tuple #[.agg #[.int .i64 t175, .int .u64 t176], .int .i64 t177]), (36, .agg #[.int .i64 t175, .int .u64 t176]), (37, .int .i64 t177)]) (fun s_ w' => (w'.cell? ⟨gb173, 0, none⟩ = some (.int .i64 x174000_1) ∧ w'.cell? ⟨gb173, 1, none⟩ = some (.int .u64 x174001_1) ∧ w'.cell? (ad174.add (x7_1).toNat) = some (.int .i64 (rd l0 x7_1))) ∧ (w'.heap[gb173]? = some (.cells #[.int .i64 x174000_1, .int .u64 x174001_1] 26 (0, 0))) ∧ (w'.heap[s_]? = some (.cells #[.int .i64 0, .int .u64 0] 26 (0, 0))) ∧ (w.heap.size ≤ s_) ∧ (w.heap.size ≤ s_) ∧ (gb173 ≠ s_) ∧ (s_ ≠ gb173) ∧ (Below w.heap.size w w')) ?_ ?_
       rotate_left
       ·intro hCont
        refine two_ (i := 5) (j := 9) (Ni := some 35) (Nj := some 8) (bA14 12 63) (bA14 12 543) rfl rfl rfl rfl (two_of HT_.1 (by kernel_rfl)) (by decide) (by decide) (fun K hK => ?_) (fun K hK => ?_)
        ·skip
         refine goes_ Tryd.func10 (by kernel_rfl) rfl #[.agg #[.int .i64 x174000_1, .int .u64 x174001_1], .int .i64 (rd l0 x7_1)] (by rfl) rfl rfl (by (try simp only [List.map_toArray, List.map_cons, List.map_nil]); first | done | rfl | (simp only [List.length_drop, List.length_take]; rfl)) ?_
         with_reducible refine (seqs_Accept.calls x174000_1 x174001_1 (rd l0 x7_1) t175 t176 t177 _ ?side1 A11.1).mono ?_
         (case side1 => exact LaidT.below HLD.1 (by repeat (first | (with_reducible first | exact HB.1 | apply pa14 | apply pd14 | apply pe14 | refine below_set ?_ GE173.1) | exact HB.1)))
         rintro e w14 ⟨rfl, hb⟩
         refine ⟨_, rfl, ?_⟩
         have n0_ := Aside0.mk (blk_below (g := gb173) (o := .cells #[.int .i64 x174000_1, .int .u64 x174001_1] 26 (0, 0)) (by (with_reducible repeat (first | refine blk_drewN ?_ _ | refine blk_drew ?_ | refine blk_alloc ?_ _)); exact BK173.1) hb)
         have n1_ := Aside0.mk (below_step (by repeat (first | (with_reducible first | exact HB.1 | apply pa14 | apply pd14 | apply pe14 | refine below_set ?_ GE173.1) | exact HB.1)) hb)
         clear BK173
         clear HB
         have BK173 := n0_
         have HB := n1_
         clear n0_ n1_
         (try clear hb)
         (try clear hb2)
         (try clear hk)
         (try clear hi)
         refine hK.out _ _ ⟨(blk_cell BK173.1 0).trans rfl, (blk_cell BK173.1 1).trans rfl, ((HB.1.cell (pl14 w _ hw174_0)).trans hw174_0)⟩ (fun hHeld => ?_)
         clear hK K
         refine norm_ (a' := ?_) ?_ ?_
         rotate_left
         ·show Act.put _ (some 35) _ = _
          simp only [Act.put, sI14, sZ14, sS14, i64_w, i32_w]
          rfl
         refine pure_ (i := 6) (N := some 29) (v := ?_) (a' := ?_) (bA14 12 127) rfl rfl (any_of HT_.1 (by kernel_rfl)) (fun _ _ _ h => h) (Or.inl ⟨by rfl, ?_⟩) ?_ ?_
         rotate_left; (focus intro w'; go_simp; with_reducible rfl); rotate_left; focus (simp only [Act.put, sI14, sZ14, sS14, i64_w, i32_w] <;> rfl)
         refine pure_ (i := 7) (N := some 36) (v := ?_) (a' := ?_) (bA14 12 255) rfl rfl (any_of HT_.1 (by kernel_rfl)) (fun _ _ _ h => h) (Or.inl ⟨by rfl, ?_⟩) ?_ ?_
         rotate_left; (focus intro w'; go_simp; with_reducible rfl); rotate_left; focus (simp only [Act.put, sI14, sZ14, sS14, i64_w, i32_w] <;> rfl)
         refine pure_ (i := 8) (N := some 37) (v := ?_) (a' := ?_) (bA14 12 511) rfl rfl (any_of HT_.1 (by kernel_rfl)) (fun _ _ _ h => h) (Or.inl ⟨by rfl, ?_⟩) ?_ ?_
         rotate_left; (focus intro w'; go_simp; with_reducible rfl); rotate_left; focus (simp only [Act.put, sI14, sZ14, sS14, i64_w, i32_w] <;> rfl)
         refine one_ (i := 9) (N := some 8) (bA14 12 1023) rfl rfl (one_of HT_.1 (by kernel_rfl)) (by decide) (fun K hK => ?_)
         refine box_step ?hg (N := 8) ?hd (cs := #[.int .i64 0, .int .u64 0]) (t := 26) ?hr ?_; (case hd => rfl); (case hg => rfl); (case hr => first | (go_simp; done) | (go_simp; rfl))
         intro gb178 hg w15 hbox hb
         have n0_ := Aside0.mk (blk_below (g := gb173) (o := .cells #[.int .i64 x174000_1, .int .u64 x174001_1] 26 (0, 0)) (by (with_reducible repeat (first | refine blk_drewN ?_ _ | refine blk_drew ?_ | refine blk_alloc ?_ _)); exact BK173.1) hb)
         have n1_ := Aside0.mk (below_step (by repeat (first | (with_reducible first | exact HB.1 | apply pa14 | apply pd14 | apply pe14 | refine below_set ?_ GE173.1) | exact HB.1)) hb)
         have n2_ := Aside0.mk (hbox)
         have n3_ := Aside0.mk ((by rw [hg]; exact (below_size (by repeat (first | (with_reducible first | exact HB.1 | apply pa14 | apply pd14 | apply pe14 | refine below_set ?_ GE173.1) | exact HB.1))) : w.heap.size ≤ gb178))
         have n4_ := Aside0.mk ((by rw [hg]; exact (below_size (by repeat (first | (with_reducible first | exact HB.1 | apply pa14 | apply pd14 | apply pe14 | refine below_set ?_ GE173.1) | exact HB.1))) : w.heap.size ≤ gb178))
         have n5_ := Aside0.mk ((by rw [hg]; exact Nat.ne_of_lt (blk_lt (g := gb173) (o := .cells #[.int .i64 x174000_1, .int .u64 x174001_1] 26 (0, 0)) (by (with_reducible repeat (first | refine blk_drewN ?_ _ | refine blk_drew ?_ | refine blk_alloc ?_ _)); exact BK173.1)) : gb173 ≠ gb178))
         have n6_ := Aside0.mk ((by rw [hg]; exact Nat.ne_of_gt (blk_lt (g := gb173) (o := .cells #[.int .i64 x174000_1, .int .u64 x174001_1] 26 (0, 0)) (by (with_reducible repeat (first | refine blk_drewN ?_ _ | refine blk_drew ?_ | refine blk_alloc ?_ _)); exact BK173.1)) : gb178 ≠ gb173))
         clear BK173
         clear HB
         have BK173 := n0_
         have HB := n1_
         have BK178 := n2_
         have GW178 := n3_
         have GE178 := n4_
         have NB173_178 := n5_
         have NB178_173 := n6_
         clear n0_ n1_ n2_ n3_ n4_ n5_ n6_
         clear hb hbox hg
         refine hK.out _ _ ⟨(blk_cell BK173.1 0).trans rfl, (blk_cell BK173.1 1).trans rfl, ((HB.1.cell (pl14 w _ hw174_0)).trans hw174_0)⟩ (fun hHeld => ?_)
         clear hK K
         refine norm_ (a' := ?_) ?_ ?_
         rotate_left
         ·show Act.put _ (some 8) _ = _
          simp only [Act.put, sI14, sZ14, sS14, i64_w, i32_w]
          rfl
         exact norm_ (by simp only [putAll, Act.put, sI14, sZ14, sS14]) (hCont (gb178) _ ⟨hHeld, (by (with_reducible repeat (first | refine blk_drewN ?_ _ | refine blk_drew ?_ | refine blk_alloc ?_ _)); exact BK173.1), (by (with_reducible repeat (first | refine blk_drewN ?_ _ | refine blk_drew ?_ | refine blk_alloc ?_ _)); exact BK178.1), GW178.1, GE178.1, NB173_178.1, NB178_173.1, (by repeat (first | (with_reducible first | exact HB.1 | apply pa14 | apply pd14 | apply pe14 | refine below_set ?_ GE173.1 | refine below_set ?_ GE178.1) | exact HB.1))⟩)
        ·skip
         refine box_step ?hg (N := 8) ?hd (cs := #[.int .i64 0, .int .u64 0]) (t := 26) ?hr ?_; (case hd => rfl); (case hg => rfl); (case hr => first | (go_simp; done) | (go_simp; rfl))
         intro gb178 hg w14 hbox hb
         have n0_ := Aside0.mk (blk_below (g := gb173) (o := .cells #[.int .i64 x174000_1, .int .u64 x174001_1] 26 (0, 0)) (by (with_reducible repeat (first | refine blk_drewN ?_ _ | refine blk_drew ?_ | refine blk_alloc ?_ _)); exact BK173.1) hb)
         have n1_ := Aside0.mk (below_step (by repeat (first | (with_reducible first | exact HB.1 | apply pa14 | apply pd14 | apply pe14 | refine below_set ?_ GE173.1) | exact HB.1)) hb)
         have n2_ := Aside0.mk (hbox)
         have n3_ := Aside0.mk ((by rw [hg]; exact (below_size (by repeat (first | (with_reducible first | exact HB.1 | apply pa14 | apply pd14 | apply pe14 | refine below_set ?_ GE173.1) | exact HB.1))) : w.heap.size ≤ gb178))
         have n4_ := Aside0.mk ((by rw [hg]; exact (below_size (by repeat (first | (with_reducible first | exact HB.1 | apply pa14 | apply pd14 | apply pe14 | refine below_set ?_ GE173.1) | exact HB.1))) : w.heap.size ≤ gb178))
         have n5_ := Aside0.mk ((by rw [hg]; exact Nat.ne_of_lt (blk_lt (g := gb173) (o := .cells #[.int .i64 x174000_1, .int .u64 x174001_1] 26 (0, 0)) (by (with_reducible repeat (first | refine blk_drewN ?_ _ | refine blk_drew ?_ | refine blk_alloc ?_ _)); exact BK173.1)) : gb173 ≠ gb178))
         have n6_ := Aside0.mk ((by rw [hg]; exact Nat.ne_of_gt (blk_lt (g := gb173) (o := .cells #[.int .i64 x174000_1, .int .u64 x174001_1] 26 (0, 0)) (by (with_reducible repeat (first | refine blk_drewN ?_ _ | refine blk_drew ?_ | refine blk_alloc ?_ _)); exact BK173.1)) : gb178 ≠ gb173))
         clear BK173
         clear HB
         have BK173 := n0_
         have HB := n1_
         have BK178 := n2_
         have GW178 := n3_
         have GE178 := n4_
         have NB173_178 := n5_
         have NB178_173 := n6_
         clear n0_ n1_ n2_ n3_ n4_ n5_ n6_
         clear hb hbox hg
         refine hK.out _ _ ⟨(blk_cell BK173.1 0).trans rfl, (blk_cell BK173.1 1).trans rfl, ((HB.1.cell (pl14 w _ hw174_0)).trans hw174_0)⟩ (fun hHeld => ?_)
         clear hK K
         refine norm_ (a' := ?_) ?_ ?_
         rotate_left
         ·show Act.put _ (some 8) _ = _
          simp only [Act.put, sI14, sZ14, sS14, i64_w, i32_w]
          rfl
         refine one_ (i := 5) (N := some 35) (bA14 12 575) rfl rfl (one_of HT_.1 (by kernel_rfl)) (by decide) (fun K hK => ?_)
         refine goes_ Tryd.func10 (by kernel_rfl) rfl #[.agg #[.int .i64 x174000_1, .int .u64 x174001_1], .int .i64 (rd l0 x7_1)] (by rfl) rfl rfl (by (try simp only [List.map_toArray, List.map_cons, List.map_nil]); first | done | rfl | (simp only [List.length_drop, List.length_take]; rfl)) ?_
         with_reducible refine (seqs_Accept.calls x174000_1 x174001_1 (rd l0 x7_1) t175 t176 t177 _ ?side1 A11.1).mono ?_
         (case side1 => exact LaidT.below HLD.1 (by repeat (first | (with_reducible first | exact HB.1 | apply pa14 | apply pd14 | apply pe14 | refine below_set ?_ GE173.1 | refine below_set ?_ GE178.1) | exact HB.1)))
         rintro e w15 ⟨rfl, hb⟩
         refine ⟨_, rfl, ?_⟩
         have n0_ := Aside0.mk (blk_below (g := gb173) (o := .cells #[.int .i64 x174000_1, .int .u64 x174001_1] 26 (0, 0)) (by (with_reducible repeat (first | refine blk_drewN ?_ _ | refine blk_drew ?_ | refine blk_alloc ?_ _)); exact BK173.1) hb)
         have n1_ := Aside0.mk (blk_below (g := gb178) (o := .cells #[.int .i64 0, .int .u64 0] 26 (0, 0)) (by (with_reducible repeat (first | refine blk_drewN ?_ _ | refine blk_drew ?_ | refine blk_alloc ?_ _)); exact BK178.1) hb)
         have n2_ := Aside0.mk (below_step (by repeat (first | (with_reducible first | exact HB.1 | apply pa14 | apply pd14 | apply pe14 | refine below_set ?_ GE173.1 | refine below_set ?_ GE178.1) | exact HB.1)) hb)
         clear BK173
         clear BK178
         clear HB
         have BK173 := n0_
         have BK178 := n1_
         have HB := n2_
         clear n0_ n1_ n2_
         (try clear hb)
         (try clear hb2)
         (try clear hk)
         (try clear hi)
         refine hK.out _ _ ⟨(blk_cell BK173.1 0).trans rfl, (blk_cell BK173.1 1).trans rfl, ((HB.1.cell (pl14 w _ hw174_0)).trans hw174_0)⟩ (fun hHeld => ?_)
         clear hK K
         refine norm_ (a' := ?_) ?_ ?_
         rotate_left
         ·show Act.put _ (some 35) _ = _
          simp only [Act.put, sI14, sZ14, sS14, i64_w, i32_w]
          rfl
         refine pure_ (i := 6) (N := some 29) (v := ?_) (a' := ?_) (bA14 12 639) rfl rfl (any_of HT_.1 (by kernel_rfl)) (fun _ _ _ h => h) (Or.inl ⟨by rfl, ?_⟩) ?_ ?_
         rotate_left; (focus intro w'; go_simp; with_reducible rfl); rotate_left; focus (simp only [Act.put, sI14, sZ14, sS14, i64_w, i32_w] <;> rfl)
         refine pure_ (i := 7) (N := some 36) (v := ?_) (a' := ?_) (bA14 12 767) rfl rfl (any_of HT_.1 (by kernel_rfl)) (fun _ _ _ h => h) (Or.inl ⟨by rfl, ?_⟩) ?_ ?_
         rotate_left; (focus intro w'; go_simp; with_reducible rfl); rotate_left; focus (simp only [Act.put, sI14, sZ14, sS14, i64_w, i32_w] <;> rfl)
         refine pure_ (i := 8) (N := some 37) (v := ?_) (a' := ?_) (bA14 12 1023) rfl rfl (any_of HT_.1 (by kernel_rfl)) (fun _ _ _ h => h) (Or.inl ⟨by rfl, ?_⟩) ?_ ?_
         rotate_left; (focus intro w'; go_simp; with_reducible rfl); rotate_left; focus (simp only [Act.put, sI14, sZ14, sS14, i64_w, i32_w] <;> rfl)
         exact norm_ (by simp only [putAll, Act.put, sI14, sZ14, sS14]) (hCont (gb178) _ ⟨hHeld, (by (with_reducible repeat (first | refine blk_drewN ?_ _ | refine blk_drew ?_ | refine blk_alloc ?_ _)); exact BK173.1), (by (with_reducible repeat (first | refine blk_drewN ?_ _ | refine blk_drew ?_ | refine blk_alloc ?_ _)); exact BK178.1), GW178.1, GE178.1, NB173_178.1, NB178_173.1, (by repeat (first | (with_reducible first | exact HB.1 | apply pa14 | apply pd14 | apply pe14 | refine below_set ?_ GE173.1 | refine below_set ?_ GE178.1) | exact HB.1))⟩)
       rintro gb178 w16 ⟨hS_, h0_, h1_, h2_, h3_, h4_, h5_, h6_⟩
       have n0_ : Aside0 (w16.heap[gb173]? = some (.cells #[.int .i64 x174000_1, .int .u64 x174001_1] 26 (0, 0))) := ⟨h0_⟩
       have n1_ : Aside0 (w16.heap[gb178]? = some (.cells #[.int .i64 0, .int .u64 0] 26 (0, 0))) := ⟨h1_⟩
       have n2_ : Aside0 (w.heap.size ≤ gb178) := ⟨h2_⟩
       have n3_ : Aside0 (w.heap.size ≤ gb178) := ⟨h3_⟩
       have n4_ : Aside0 (gb173 ≠ gb178) := ⟨h4_⟩
       have n5_ : Aside0 (gb178 ≠ gb173) := ⟨h5_⟩
       have n6_ : Aside0 (Below w.heap.size w w16) := ⟨h6_⟩
       clear BK173
       clear HB
       clear h0_ h1_ h2_ h3_ h4_ h5_ h6_
       have BK173 := n0_
       have BK178 := n1_
       have GW178 := n2_
       have GE178 := n3_
       have NB173_178 := n4_
       have NB178_173 := n5_
       have HB := n6_
       clear n0_ n1_ n2_ n3_ n4_ n5_ n6_
       have hHeld : w16.cell? ⟨gb173, 0, none⟩ = some (.int .i64 x174000_1) ∧ w16.cell? ⟨gb173, 1, none⟩ = some (.int .u64 x174001_1) ∧ w16.cell? (ad174.add (x7_1).toNat) = some (.int .i64 (rd l0 x7_1)) := hS_
       refine norm_ (a' := ?_) ?_ ?_
       rotate_left
       ·simp only [putAll, Act.put, sI14, sZ14, sS14]
        rfl
       refine one_ (i := 10) (N := none) (bA14 12 2047) rfl rfl (one_of HT_.1 (by kernel_rfl)) (by decide) (fun K hK => ?_)
       have hs17 : w16.cell? ⟨gb178, 0, none⟩ = some (.int .i64 0) := (blk_cell BK178.1 0).trans rfl
       have hfs17 := blk_frozen BK178.1 0
       have hns17_0 := NB173_178.1
       have hms17_0 := NB178_173.1
       have hs18 : w16.cell? ⟨gb178, 1, none⟩ = some (.int .u64 0) := (blk_cell BK178.1 1).trans rfl
       have hfs18 := blk_frozen BK178.1 1
       have hns18_0 := NB173_178.1
       have hms18_0 := NB178_173.1
       refine skip_ (w1 := ?_) (by rfl) rfl ?_ ?_
       rotate_left
       ·go_simp
        rfl
       refine hK.out _ _ ⟨((cell_far (p := ⟨gb178, _, none⟩) NB173_178.1 _).trans (((cell_far (p := ⟨gb178, _, none⟩) NB173_178.1 _).trans (hHeld.1)))), ((cell_far (p := ⟨gb178, _, none⟩) NB173_178.1 _).trans (((cell_far (p := ⟨gb178, _, none⟩) NB173_178.1 _).trans (hHeld.2.1)))), ((cell_far (p := ⟨gb178, _, none⟩) (by first | exact Nat.ne_of_lt (Nat.lt_of_lt_of_le (by have := pl14 _ _ hw174_0; first | rwa [add_block] at this | exact this) GW178.1) | (rw [add_block]; exact Nat.ne_of_lt (Nat.lt_of_lt_of_le (by have := pl14 _ _ hw174_0; first | rwa [add_block] at this | exact this) GW178.1)) | (show (Addr.add _ _).block ≠ _; rw [add_block]; exact Nat.ne_of_lt (Nat.lt_of_lt_of_le (by have := pl14 _ _ hw174_0; first | rwa [add_block] at this | exact this) GW178.1)) | (dsimp only; exact Nat.ne_of_lt (Nat.lt_of_lt_of_le (by have := pl14 _ _ hw174_0; first | rwa [add_block] at this | exact this) GW178.1))) _).trans (((cell_far (p := ⟨gb178, _, none⟩) (by first | exact Nat.ne_of_lt (Nat.lt_of_lt_of_le (by have := pl14 _ _ hw174_0; first | rwa [add_block] at this | exact this) GW178.1) | (rw [add_block]; exact Nat.ne_of_lt (Nat.lt_of_lt_of_le (by have := pl14 _ _ hw174_0; first | rwa [add_block] at this | exact this) GW178.1)) | (show (Addr.add _ _).block ≠ _; rw [add_block]; exact Nat.ne_of_lt (Nat.lt_of_lt_of_le (by have := pl14 _ _ hw174_0; first | rwa [add_block] at this | exact this) GW178.1)) | (dsimp only; exact Nat.ne_of_lt (Nat.lt_of_lt_of_le (by have := pl14 _ _ hw174_0; first | rwa [add_block] at this | exact this) GW178.1))) _).trans (hHeld.2.2))))⟩ (fun hHeld => ?_)
       clear hK K
       refine pure_ (i := 11) (N := some 9) (v := ?_) (a' := ?_) (bA14 12 4095) rfl rfl (any_of HT_.1 (by kernel_rfl)) (fun _ _ _ h => h) (Or.inl ⟨by rfl, ?_⟩) ?_ ?_
       rotate_left; (focus intro w'; go_simp; with_reducible rfl); rotate_left; focus (simp only [Act.put, sI14, sZ14, sS14, i64_w, i32_w] <;> rfl)
       refine done_ (done_of HT_.1 (by kernel_rfl)) ?_
       have hnb19 := NB178_173.1
       have hnc19 := NB173_178.1
       have hcz20_0 : w16.cell? ⟨gb178, 0, none⟩ = some (.int .i64 0) := (blk_cell BK178.1 0).trans rfl
       have hcz20_1 : w16.cell? ⟨gb178, 1, none⟩ = some (.int .u64 0) := (blk_cell BK178.1 1).trans rfl
       have hfz20_0 := blk_frozen BK178.1 0
       have hfz20_1 := blk_frozen BK178.1 1
       have hcz21_0 : w16.cell? ⟨gb173, 0, none⟩ = some (.int .i64 x174000_1) := (blk_cell BK173.1 0).trans rfl
       have hcz21_1 : w16.cell? ⟨gb173, 1, none⟩ = some (.int .u64 x174001_1) := (blk_cell BK173.1 1).trans rfl
       have hfz21_0 := blk_frozen BK173.1 0
       have hfz21_1 := blk_frozen BK173.1 1
       try go_wp2
       go_roundg k1
       case measure => have := HK1.1; omega
       case rel => exact ⟨(wrap64 (x7_1 + 1)), (t175), (t176), (by first | rfl | (simp; done) | (simp [*]; done)), H', ⟨by have := HK1.1; omega⟩, ⟨by (with_reducible repeat (first | refine blk_drewN ?_ _ | refine blk_drew ?_ | refine blk_alloc ?_ _)); refine blk_put (cs := #[.int .i64 t175, .int .u64 x174001_1]) ?_ 1 _ rfl; (with_reducible repeat (first | refine blk_drewN ?_ _ | refine blk_drew ?_ | refine blk_alloc ?_ _)); refine blk_put (cs := #[.int .i64 x174000_1, .int .u64 x174001_1]) ?_ 0 _ rfl; (with_reducible repeat (first | refine blk_drewN ?_ _ | refine blk_drew ?_ | refine blk_alloc ?_ _)); refine blk_far ?_ NB173_178.1 _; (with_reducible repeat (first | refine blk_drewN ?_ _ | refine blk_drew ?_ | refine blk_alloc ?_ _)); refine blk_far ?_ NB173_178.1 _; (with_reducible repeat (first | refine blk_drewN ?_ _ | refine blk_drew ?_ | refine blk_alloc ?_ _)); exact BK173.1⟩, ⟨by repeat (first | (with_reducible first | exact HB.1 | apply pa14 | apply pd14 | apply pe14 | refine below_set ?_ GE173.1 | refine below_set ?_ GE178.1) | exact HB.1)⟩⟩
      ·rw [if_neg c12] at H
       have c12b0 : (t177 == 0) = false := beq_eq_false_iff_ne.mpr c12
       have c12b1 : (t177 != 0) = true := bne_iff_ne.mpr c12
       have H' := Aside0.mk H
       clear H
       try go_wp2
       have n0_ := Aside0.mk (blk_drew BK173.1)
       have n1_ := Aside0.mk (pe14 HB.1)
       clear BK173
       clear HB
       have BK173 := n0_
       have HB := n1_
       clear n0_ n1_
       have p174 : 0 ≤ (x7_1 : Int) := of_decide_eq_true (by first | (with_reducible assumption) | assumption)
       have q174 : x7_1 < (l0.length : Int) := of_decide_eq_true (by first | (with_reducible assumption) | assumption)
       obtain ⟨ad174, e174, hx174_0⟩ := Kd.at_int HR0.1 x7_1 p174 q174
       have hw174_0 := hx174_0
       cases e174
       replace hx174_0 := (HB.1.cell (pl14 w _ hx174_0)).trans hx174_0
       replace p174 := eq_true p174
       replace q174 := eq_true q174
       refine start_ (n := 12) (S := fun w' => w'.cell? ⟨gb173, 0, none⟩ = some (.int .i64 x174000_1) ∧ w'.cell? ⟨gb173, 1, none⟩ = some (.int .u64 x174001_1) ∧ w'.cell? (ad174.add (x7_1).toNat) = some (.int .i64 (rd l0 x7_1))) (ds := []) (bA14 12 0) (by kernel_rfl) rfl rfl ⟨(blk_cell BK173.1 0).trans rfl, (blk_cell BK173.1 1).trans rfl, ((HB.1.cell (pl14 w _ hw174_0)).trans hw174_0)⟩ (fun hHeld => ?_); refine with_tabW godwitlaw15_SeqsMissing.tab8 godwitlaw15_SeqsMissing.bits8 (fun HT_ HW_ => ?_)
       generalize wr.drew = w22 at BK173 HB hx174_0 hHeld ⊢
       refine pure_ (i := 1) (N := some 31) (v := ?_) (a' := ?_) (bA14 12 2) rfl rfl (any_of HT_.1 (by kernel_rfl)) (fun _ _ _ h => h) (Or.inl ⟨by rfl, ?_⟩) ?_ ?_
       rotate_left; (focus intro w'; go_simp; with_reducible rfl); rotate_left; focus (simp only [Act.put, sI14, sZ14, sS14, i64_w, i32_w] <;> rfl)
       refine pure_ (i := 2) (N := some 32) (v := ?_) (a' := ?_) (bA14 12 6) rfl rfl (any_of HT_.1 (by kernel_rfl)) (fun _ _ _ h => h) (Or.inl ⟨by rfl, ?_⟩) ?_ ?_
       rotate_left; (focus intro w'; go_simp; with_reducible rfl); rotate_left; focus (simp only [Act.put, sI14, sZ14, sS14, i64_w, i32_w] <;> rfl)
       refine pure_ (i := 3) (N := some 33) (v := ?_) (a' := ?_) (bA14 12 14) rfl rfl (any_of HT_.1 (by kernel_rfl)) (fun _ _ _ h => h) (Or.inl ⟨by rfl, ?_⟩) ?_ ?_
       rotate_left; (focus intro w'; go_simp; with_reducible rfl); rotate_left; focus (simp only [Act.put, sI14, sZ14, sS14, i64_w, i32_w] <;> rfl)
       refine take_ (i := 0) (N := some 30) (v := ?_) (a' := ?_) (bA14 12 15) rfl rfl (take_ofW HT_.1 HW_.1 (by kernel_rfl)) (fun _ _ _ h => h) (Or.inl ⟨by rfl, ?_⟩) hHeld ?_ ?_
       rotate_left
       ·rintro w' ⟨s0, s1, s2⟩
        go_simp
        with_reducible rfl
       rotate_left
       ·simp only [Act.put, sI14, sZ14, sS14, i64_w, i32_w]
        rfl
       refine take_ (i := 4) (N := some 34) (v := ?_) (a' := ?_) (bA14 12 31) rfl rfl (take_ofW HT_.1 HW_.1 (by kernel_rfl)) (fun _ _ _ h => h) (Or.inl ⟨by rfl, ?_⟩) hHeld ?_ ?_
       rotate_left
       ·rintro w' ⟨s0, s1, s2⟩
        go_simp
        with_reducible rfl
       rotate_left
       ·simp only [Act.put, sI14, sZ14, sS14, i64_w, i32_w]
        rfl
       refine join_ (σ := Nat) 2 (bA14 12 1023) (fun s_ => [(35, .tuple #[.agg #[.int .i64 t175, .int .u64 t176], .int .i64 t177]), (8, .pointer (some ⟨s_, 0, none⟩)), (29, .tuple #[.agg #[.int .i64 t175, .int .u64 t176], .int .i64 t177]), (36, .agg #[.int .i64 t175, .int .u64 t176]), (37, .int .i64 t177)]) (fun s_ w' => (w'.cell? ⟨gb173, 0, none⟩ = some (.int .i64 x174000_1) ∧ w'.cell? ⟨gb173, 1, none⟩ = some (.int .u64 x174001_1) ∧ w'.cell? (ad174.add (x7_1).toNat) = some (.int .i64 (rd l0 x7_1))) ∧ (w'.heap[gb173]? = some (.cells #[.int .i64 x174000_1, .int .u64 x174001_1] 26 (0, 0))) ∧ (w'.heap[s_]? = some (.cells #[.int .i64 0, .int .u64 0] 26 (0, 0))) ∧ (w.heap.size ≤ s_) ∧ (w.heap.size ≤ s_) ∧ (gb173 ≠ s_) ∧ (s_ ≠ gb173) ∧ (Below w.heap.size w w')) ?_ ?_
       rotate_left
       ·intro hCont
        refine two_ (i := 5) (j := 9) (Ni := some 35) (Nj := some 8) (bA14 12 63) (bA14 12 543) rfl rfl rfl rfl (two_of HT_.1 (by kernel_rfl)) (by decide) (by decide) (fun K hK => ?_) (fun K hK => ?_)
        ·skip
         refine goes_ Tryd.func10 (by kernel_rfl) rfl #[.agg #[.int .i64 x174000_1, .int .u64 x174001_1], .int .i64 (rd l0 x7_1)] (by rfl) rfl rfl (by (try simp only [List.map_toArray, List.map_cons, List.map_nil]); first | done | rfl | (simp only [List.length_drop, List.length_take]; rfl)) ?_
         with_reducible refine (seqs_Accept.calls x174000_1 x174001_1 (rd l0 x7_1) t175 t176 t177 _ ?side1 A11.1).mono ?_
         (case side1 => exact LaidT.below HLD.1 (by repeat (first | (with_reducible first | exact HB.1 | apply pa14 | apply pd14 | apply pe14 | refine below_set ?_ GE173.1) | exact HB.1)))
         rintro e w23 ⟨rfl, hb⟩
         refine ⟨_, rfl, ?_⟩
         have n0_ := Aside0.mk (blk_below (g := gb173) (o := .cells #[.int .i64 x174000_1, .int .u64 x174001_1] 26 (0, 0)) (by (with_reducible repeat (first | refine blk_drewN ?_ _ | refine blk_drew ?_ | refine blk_alloc ?_ _)); exact BK173.1) hb)
         have n1_ := Aside0.mk (below_step (by repeat (first | (with_reducible first | exact HB.1 | apply pa14 | apply pd14 | apply pe14 | refine below_set ?_ GE173.1) | exact HB.1)) hb)
         clear BK173
         clear HB
         have BK173 := n0_
         have HB := n1_
         clear n0_ n1_
         (try clear hb)
         (try clear hb2)
         (try clear hk)
         (try clear hi)
         refine hK.out _ _ ⟨(blk_cell BK173.1 0).trans rfl, (blk_cell BK173.1 1).trans rfl, ((HB.1.cell (pl14 w _ hw174_0)).trans hw174_0)⟩ (fun hHeld => ?_)
         clear hK K
         refine norm_ (a' := ?_) ?_ ?_
         rotate_left
         ·show Act.put _ (some 35) _ = _
          simp only [Act.put, sI14, sZ14, sS14, i64_w, i32_w]
          rfl
         refine pure_ (i := 6) (N := some 29) (v := ?_) (a' := ?_) (bA14 12 127) rfl rfl (any_of HT_.1 (by kernel_rfl)) (fun _ _ _ h => h) (Or.inl ⟨by rfl, ?_⟩) ?_ ?_
         rotate_left; (focus intro w'; go_simp; with_reducible rfl); rotate_left; focus (simp only [Act.put, sI14, sZ14, sS14, i64_w, i32_w] <;> rfl)
         refine pure_ (i := 7) (N := some 36) (v := ?_) (a' := ?_) (bA14 12 255) rfl rfl (any_of HT_.1 (by kernel_rfl)) (fun _ _ _ h => h) (Or.inl ⟨by rfl, ?_⟩) ?_ ?_
         rotate_left; (focus intro w'; go_simp; with_reducible rfl); rotate_left; focus (simp only [Act.put, sI14, sZ14, sS14, i64_w, i32_w] <;> rfl)
         refine pure_ (i := 8) (N := some 37) (v := ?_) (a' := ?_) (bA14 12 511) rfl rfl (any_of HT_.1 (by kernel_rfl)) (fun _ _ _ h => h) (Or.inl ⟨by rfl, ?_⟩) ?_ ?_
         rotate_left; (focus intro w'; go_simp; with_reducible rfl); rotate_left; focus (simp only [Act.put, sI14, sZ14, sS14, i64_w, i32_w] <;> rfl)
         refine one_ (i := 9) (N := some 8) (bA14 12 1023) rfl rfl (one_of HT_.1 (by kernel_rfl)) (by decide) (fun K hK => ?_)
         refine box_step ?hg (N := 8) ?hd (cs := #[.int .i64 0, .int .u64 0]) (t := 26) ?hr ?_; (case hd => rfl); (case hg => rfl); (case hr => first | (go_simp; done) | (go_simp; rfl))
         intro gb178 hg w24 hbox hb
         have n0_ := Aside0.mk (blk_below (g := gb173) (o := .cells #[.int .i64 x174000_1, .int .u64 x174001_1] 26 (0, 0)) (by (with_reducible repeat (first | refine blk_drewN ?_ _ | refine blk_drew ?_ | refine blk_alloc ?_ _)); exact BK173.1) hb)
         have n1_ := Aside0.mk (below_step (by repeat (first | (with_reducible first | exact HB.1 | apply pa14 | apply pd14 | apply pe14 | refine below_set ?_ GE173.1) | exact HB.1)) hb)
         have n2_ := Aside0.mk (hbox)
         have n3_ := Aside0.mk ((by rw [hg]; exact (below_size (by repeat (first | (with_reducible first | exact HB.1 | apply pa14 | apply pd14 | apply pe14 | refine below_set ?_ GE173.1) | exact HB.1))) : w.heap.size ≤ gb178))
         have n4_ := Aside0.mk ((by rw [hg]; exact (below_size (by repeat (first | (with_reducible first | exact HB.1 | apply pa14 | apply pd14 | apply pe14 | refine below_set ?_ GE173.1) | exact HB.1))) : w.heap.size ≤ gb178))
         have n5_ := Aside0.mk ((by rw [hg]; exact Nat.ne_of_lt (blk_lt (g := gb173) (o := .cells #[.int .i64 x174000_1, .int .u64 x174001_1] 26 (0, 0)) (by (with_reducible repeat (first | refine blk_drewN ?_ _ | refine blk_drew ?_ | refine blk_alloc ?_ _)); exact BK173.1)) : gb173 ≠ gb178))
         have n6_ := Aside0.mk ((by rw [hg]; exact Nat.ne_of_gt (blk_lt (g := gb173) (o := .cells #[.int .i64 x174000_1, .int .u64 x174001_1] 26 (0, 0)) (by (with_reducible repeat (first | refine blk_drewN ?_ _ | refine blk_drew ?_ | refine blk_alloc ?_ _)); exact BK173.1)) : gb178 ≠ gb173))
         clear BK173
         clear HB
         have BK173 := n0_
         have HB := n1_
         have BK178 := n2_
         have GW178 := n3_
         have GE178 := n4_
         have NB173_178 := n5_
         have NB178_173 := n6_
         clear n0_ n1_ n2_ n3_ n4_ n5_ n6_
         clear hb hbox hg
         refine hK.out _ _ ⟨(blk_cell BK173.1 0).trans rfl, (blk_cell BK173.1 1).trans rfl, ((HB.1.cell (pl14 w _ hw174_0)).trans hw174_0)⟩ (fun hHeld => ?_)
         clear hK K
         refine norm_ (a' := ?_) ?_ ?_
         rotate_left
         ·show Act.put _ (some 8) _ = _
          simp only [Act.put, sI14, sZ14, sS14, i64_w, i32_w]
          rfl
         exact norm_ (by simp only [putAll, Act.put, sI14, sZ14, sS14]) (hCont (gb178) _ ⟨hHeld, (by (with_reducible repeat (first | refine blk_drewN ?_ _ | refine blk_drew ?_ | refine blk_alloc ?_ _)); exact BK173.1), (by (with_reducible repeat (first | refine blk_drewN ?_ _ | refine blk_drew ?_ | refine blk_alloc ?_ _)); exact BK178.1), GW178.1, GE178.1, NB173_178.1, NB178_173.1, (by repeat (first | (with_reducible first | exact HB.1 | apply pa14 | apply pd14 | apply pe14 | refine below_set ?_ GE173.1 | refine below_set ?_ GE178.1) | exact HB.1))⟩)
        ·skip
         refine box_step ?hg (N := 8) ?hd (cs := #[.int .i64 0, .int .u64 0]) (t := 26) ?hr ?_; (case hd => rfl); (case hg => rfl); (case hr => first | (go_simp; done) | (go_simp; rfl))
         intro gb178 hg w23 hbox hb
         have n0_ := Aside0.mk (blk_below (g := gb173) (o := .cells #[.int .i64 x174000_1, .int .u64 x174001_1] 26 (0, 0)) (by (with_reducible repeat (first | refine blk_drewN ?_ _ | refine blk_drew ?_ | refine blk_alloc ?_ _)); exact BK173.1) hb)
         have n1_ := Aside0.mk (below_step (by repeat (first | (with_reducible first | exact HB.1 | apply pa14 | apply pd14 | apply pe14 | refine below_set ?_ GE173.1) | exact HB.1)) hb)
         have n2_ := Aside0.mk (hbox)
         have n3_ := Aside0.mk ((by rw [hg]; exact (below_size (by repeat (first | (with_reducible first | exact HB.1 | apply pa14 | apply pd14 | apply pe14 | refine below_set ?_ GE173.1) | exact HB.1))) : w.heap.size ≤ gb178))
         have n4_ := Aside0.mk ((by rw [hg]; exact (below_size (by repeat (first | (with_reducible first | exact HB.1 | apply pa14 | apply pd14 | apply pe14 | refine below_set ?_ GE173.1) | exact HB.1))) : w.heap.size ≤ gb178))
         have n5_ := Aside0.mk ((by rw [hg]; exact Nat.ne_of_lt (blk_lt (g := gb173) (o := .cells #[.int .i64 x174000_1, .int .u64 x174001_1] 26 (0, 0)) (by (with_reducible repeat (first | refine blk_drewN ?_ _ | refine blk_drew ?_ | refine blk_alloc ?_ _)); exact BK173.1)) : gb173 ≠ gb178))
         have n6_ := Aside0.mk ((by rw [hg]; exact Nat.ne_of_gt (blk_lt (g := gb173) (o := .cells #[.int .i64 x174000_1, .int .u64 x174001_1] 26 (0, 0)) (by (with_reducible repeat (first | refine blk_drewN ?_ _ | refine blk_drew ?_ | refine blk_alloc ?_ _)); exact BK173.1)) : gb178 ≠ gb173))
         clear BK173
         clear HB
         have BK173 := n0_
         have HB := n1_
         have BK178 := n2_
         have GW178 := n3_
         have GE178 := n4_
         have NB173_178 := n5_
         have NB178_173 := n6_
         clear n0_ n1_ n2_ n3_ n4_ n5_ n6_
         clear hb hbox hg
         refine hK.out _ _ ⟨(blk_cell BK173.1 0).trans rfl, (blk_cell BK173.1 1).trans rfl, ((HB.1.cell (pl14 w _ hw174_0)).trans hw174_0)⟩ (fun hHeld => ?_)
         clear hK K
         refine norm_ (a' := ?_) ?_ ?_
         rotate_left
         ·show Act.put _ (some 8) _ = _
          simp only [Act.put, sI14, sZ14, sS14, i64_w, i32_w]
          rfl
         refine one_ (i := 5) (N := some 35) (bA14 12 575) rfl rfl (one_of HT_.1 (by kernel_rfl)) (by decide) (fun K hK => ?_)
         refine goes_ Tryd.func10 (by kernel_rfl) rfl #[.agg #[.int .i64 x174000_1, .int .u64 x174001_1], .int .i64 (rd l0 x7_1)] (by rfl) rfl rfl (by (try simp only [List.map_toArray, List.map_cons, List.map_nil]); first | done | rfl | (simp only [List.length_drop, List.length_take]; rfl)) ?_
         with_reducible refine (seqs_Accept.calls x174000_1 x174001_1 (rd l0 x7_1) t175 t176 t177 _ ?side1 A11.1).mono ?_
         (case side1 => exact LaidT.below HLD.1 (by repeat (first | (with_reducible first | exact HB.1 | apply pa14 | apply pd14 | apply pe14 | refine below_set ?_ GE173.1 | refine below_set ?_ GE178.1) | exact HB.1)))
         rintro e w24 ⟨rfl, hb⟩
         refine ⟨_, rfl, ?_⟩
         have n0_ := Aside0.mk (blk_below (g := gb173) (o := .cells #[.int .i64 x174000_1, .int .u64 x174001_1] 26 (0, 0)) (by (with_reducible repeat (first | refine blk_drewN ?_ _ | refine blk_drew ?_ | refine blk_alloc ?_ _)); exact BK173.1) hb)
         have n1_ := Aside0.mk (blk_below (g := gb178) (o := .cells #[.int .i64 0, .int .u64 0] 26 (0, 0)) (by (with_reducible repeat (first | refine blk_drewN ?_ _ | refine blk_drew ?_ | refine blk_alloc ?_ _)); exact BK178.1) hb)
         have n2_ := Aside0.mk (below_step (by repeat (first | (with_reducible first | exact HB.1 | apply pa14 | apply pd14 | apply pe14 | refine below_set ?_ GE173.1 | refine below_set ?_ GE178.1) | exact HB.1)) hb)
         clear BK173
         clear BK178
         clear HB
         have BK173 := n0_
         have BK178 := n1_
         have HB := n2_
         clear n0_ n1_ n2_
         (try clear hb)
         (try clear hb2)
         (try clear hk)
         (try clear hi)
         refine hK.out _ _ ⟨(blk_cell BK173.1 0).trans rfl, (blk_cell BK173.1 1).trans rfl, ((HB.1.cell (pl14 w _ hw174_0)).trans hw174_0)⟩ (fun hHeld => ?_)
         clear hK K
         refine norm_ (a' := ?_) ?_ ?_
         rotate_left
         ·show Act.put _ (some 35) _ = _
          simp only [Act.put, sI14, sZ14, sS14, i64_w, i32_w]
          rfl
         refine pure_ (i := 6) (N := some 29) (v := ?_) (a' := ?_) (bA14 12 639) rfl rfl (any_of HT_.1 (by kernel_rfl)) (fun _ _ _ h => h) (Or.inl ⟨by rfl, ?_⟩) ?_ ?_
         rotate_left; (focus intro w'; go_simp; with_reducible rfl); rotate_left; focus (simp only [Act.put, sI14, sZ14, sS14, i64_w, i32_w] <;> rfl)
         refine pure_ (i := 7) (N := some 36) (v := ?_) (a' := ?_) (bA14 12 767) rfl rfl (any_of HT_.1 (by kernel_rfl)) (fun _ _ _ h => h) (Or.inl ⟨by rfl, ?_⟩) ?_ ?_
         rotate_left; (focus intro w'; go_simp; with_reducible rfl); rotate_left; focus (simp only [Act.put, sI14, sZ14, sS14, i64_w, i32_w] <;> rfl)
         refine pure_ (i := 8) (N := some 37) (v := ?_) (a' := ?_) (bA14 12 1023) rfl rfl (any_of HT_.1 (by kernel_rfl)) (fun _ _ _ h => h) (Or.inl ⟨by rfl, ?_⟩) ?_ ?_
         rotate_left; (focus intro w'; go_simp; with_reducible rfl); rotate_left; focus (simp only [Act.put, sI14, sZ14, sS14, i64_w, i32_w] <;> rfl)
         exact norm_ (by simp only [putAll, Act.put, sI14, sZ14, sS14]) (hCont (gb178) _ ⟨hHeld, (by (with_reducible repeat (first | refine blk_drewN ?_ _ | refine blk_drew ?_ | refine blk_alloc ?_ _)); exact BK173.1), (by (with_reducible repeat (first | refine blk_drewN ?_ _ | refine blk_drew ?_ | refine blk_alloc ?_ _)); exact BK178.1), GW178.1, GE178.1, NB173_178.1, NB178_173.1, (by repeat (first | (with_reducible first | exact HB.1 | apply pa14 | apply pd14 | apply pe14 | refine below_set ?_ GE173.1 | refine below_set ?_ GE178.1) | exact HB.1))⟩)
       rintro gb178 w25 ⟨hS_, h0_, h1_, h2_, h3_, h4_, h5_, h6_⟩
       have n0_ : Aside0 (w25.heap[gb173]? = some (.cells #[.int .i64 x174000_1, .int .u64 x174001_1] 26 (0, 0))) := ⟨h0_⟩
       have n1_ : Aside0 (w25.heap[gb178]? = some (.cells #[.int .i64 0, .int .u64 0] 26 (0, 0))) := ⟨h1_⟩
       have n2_ : Aside0 (w.heap.size ≤ gb178) := ⟨h2_⟩
       have n3_ : Aside0 (w.heap.size ≤ gb178) := ⟨h3_⟩
       have n4_ : Aside0 (gb173 ≠ gb178) := ⟨h4_⟩
       have n5_ : Aside0 (gb178 ≠ gb173) := ⟨h5_⟩
       have n6_ : Aside0 (Below w.heap.size w w25) := ⟨h6_⟩
       clear BK173
       clear HB
       clear h0_ h1_ h2_ h3_ h4_ h5_ h6_
       have BK173 := n0_
       have BK178 := n1_
       have GW178 := n2_
       have GE178 := n3_
       have NB173_178 := n4_
       have NB178_173 := n5_
       have HB := n6_
       clear n0_ n1_ n2_ n3_ n4_ n5_ n6_
       have hHeld : w25.cell? ⟨gb173, 0, none⟩ = some (.int .i64 x174000_1) ∧ w25.cell? ⟨gb173, 1, none⟩ = some (.int .u64 x174001_1) ∧ w25.cell? (ad174.add (x7_1).toNat) = some (.int .i64 (rd l0 x7_1)) := hS_
       refine norm_ (a' := ?_) ?_ ?_
       rotate_left
       ·simp only [putAll, Act.put, sI14, sZ14, sS14]
        rfl
       refine one_ (i := 10) (N := none) (bA14 12 2047) rfl rfl (one_of HT_.1 (by kernel_rfl)) (by decide) (fun K hK => ?_)
       have hs26 : w25.cell? ⟨gb178, 0, none⟩ = some (.int .i64 0) := (blk_cell BK178.1 0).trans rfl
       have hfs26 := blk_frozen BK178.1 0
       have hns26_0 := NB173_178.1
       have hms26_0 := NB178_173.1
       have hs27 : w25.cell? ⟨gb178, 1, none⟩ = some (.int .u64 0) := (blk_cell BK178.1 1).trans rfl
       have hfs27 := blk_frozen BK178.1 1
       have hns27_0 := NB173_178.1
       have hms27_0 := NB178_173.1
       refine skip_ (w1 := ?_) (by rfl) rfl ?_ ?_
       rotate_left
       ·go_simp
        rfl
       refine hK.out _ _ ⟨((cell_far (p := ⟨gb178, _, none⟩) NB173_178.1 _).trans (((cell_far (p := ⟨gb178, _, none⟩) NB173_178.1 _).trans (hHeld.1)))), ((cell_far (p := ⟨gb178, _, none⟩) NB173_178.1 _).trans (((cell_far (p := ⟨gb178, _, none⟩) NB173_178.1 _).trans (hHeld.2.1)))), ((cell_far (p := ⟨gb178, _, none⟩) (by first | exact Nat.ne_of_lt (Nat.lt_of_lt_of_le (by have := pl14 _ _ hw174_0; first | rwa [add_block] at this | exact this) GW178.1) | (rw [add_block]; exact Nat.ne_of_lt (Nat.lt_of_lt_of_le (by have := pl14 _ _ hw174_0; first | rwa [add_block] at this | exact this) GW178.1)) | (show (Addr.add _ _).block ≠ _; rw [add_block]; exact Nat.ne_of_lt (Nat.lt_of_lt_of_le (by have := pl14 _ _ hw174_0; first | rwa [add_block] at this | exact this) GW178.1)) | (dsimp only; exact Nat.ne_of_lt (Nat.lt_of_lt_of_le (by have := pl14 _ _ hw174_0; first | rwa [add_block] at this | exact this) GW178.1))) _).trans (((cell_far (p := ⟨gb178, _, none⟩) (by first | exact Nat.ne_of_lt (Nat.lt_of_lt_of_le (by have := pl14 _ _ hw174_0; first | rwa [add_block] at this | exact this) GW178.1) | (rw [add_block]; exact Nat.ne_of_lt (Nat.lt_of_lt_of_le (by have := pl14 _ _ hw174_0; first | rwa [add_block] at this | exact this) GW178.1)) | (show (Addr.add _ _).block ≠ _; rw [add_block]; exact Nat.ne_of_lt (Nat.lt_of_lt_of_le (by have := pl14 _ _ hw174_0; first | rwa [add_block] at this | exact this) GW178.1)) | (dsimp only; exact Nat.ne_of_lt (Nat.lt_of_lt_of_le (by have := pl14 _ _ hw174_0; first | rwa [add_block] at this | exact this) GW178.1))) _).trans (hHeld.2.2))))⟩ (fun hHeld => ?_)
       clear hK K
       refine pure_ (i := 11) (N := some 9) (v := ?_) (a' := ?_) (bA14 12 4095) rfl rfl (any_of HT_.1 (by kernel_rfl)) (fun _ _ _ h => h) (Or.inl ⟨by rfl, ?_⟩) ?_ ?_
       rotate_left; (focus intro w'; go_simp; with_reducible rfl); rotate_left; focus (simp only [Act.put, sI14, sZ14, sS14, i64_w, i32_w] <;> rfl)
       refine done_ (done_of HT_.1 (by kernel_rfl)) ?_
       try go_wp2
       go_roundg k1
       case measure => have := HK1.1; omega
       case rel => exact ⟨(wrap64 (x7_1 + 1)), (x174000_1), (x174001_1), (by first | rfl | (simp; done) | (simp [*]; done)), H', ⟨by have := HK1.1; omega⟩, ⟨by (with_reducible repeat (first | refine blk_drewN ?_ _ | refine blk_drew ?_ | refine blk_alloc ?_ _)); refine blk_far ?_ NB173_178.1 _; (with_reducible repeat (first | refine blk_drewN ?_ _ | refine blk_drew ?_ | refine blk_alloc ?_ _)); refine blk_far ?_ NB173_178.1 _; (with_reducible repeat (first | refine blk_drewN ?_ _ | refine blk_drew ?_ | refine blk_alloc ?_ _)); exact BK173.1⟩, ⟨by repeat (first | (with_reducible first | exact HB.1 | apply pa14 | apply pd14 | apply pe14 | refine below_set ?_ GE173.1 | refine below_set ?_ GE178.1) | exact HB.1)⟩⟩
     ·rw [if_neg c10] at H
      exact absurd H (by simp)
    ·rw [if_neg c9] at H
     have c9b0 : decide (x7_1 < (l0.length : Int)) = false := decide_eq_false c9
     clear c9
     replace H := Option.bind_eq_some_iff.mp H
     obtain ⟨t179, A280, H⟩ := H
     replace H : (godwitlaw15_SeqsMissing.l1 k1 a1 t172 t179 0 0 x174000_1 x174001_1) = some r := H
     have A28 := Aside0.mk A280
     clear A280
     have H' := Aside0.mk H
     clear H
     have hcz29_0 : wr.cell? ⟨gb173, 0, none⟩ = some (.int .i64 x174000_1) := (blk_cell BK173.1 0).trans rfl
     have hcz29_1 : wr.cell? ⟨gb173, 1, none⟩ = some (.int .u64 x174001_1) := (blk_cell BK173.1 1).trans rfl
     have hfz29_0 := blk_frozen BK173.1 0
     have hfz29_1 := blk_frozen BK173.1 1
     go_wp2_with (first | ((with_reducible refine gate_callee (f := 12) rfl ?_); refine goesL_ (some 42) rfl rfl Tryd.func12 (by kernel_rfl) rfl #[.agg #[.int .i64 x174000_1, .int .u64 x174001_1], .int .i64 64] rfl (by (try simp only [List.map_toArray, List.map_cons, List.map_nil]); first | done | rfl | (simp only [List.length_drop, List.length_take]; rfl)) ?_; (with_reducible refine (seqs_Missing.calls k1 x174000_1 x174001_1 64 t179 _ A28.1).mono ?_); rintro e w30 ⟨v180, rfl, ho0, hb⟩; refine ⟨_, rfl, ?_⟩; have n0_ := Aside0.mk (Kd.R_lower ho0 (below_size (by repeat (first | (with_reducible first | exact HB.1 | apply pa14 | apply pd14 | apply pe14 | refine below_set ?_ GE173.1) | exact HB.1)))); have n1_ := Aside0.mk (blk_below (g := gb173) (o := .cells #[.int .i64 x174000_1, .int .u64 x174001_1] 26 (0, 0)) (by (with_reducible repeat (first | refine blk_drewN ?_ _ | refine blk_drew ?_ | refine blk_alloc ?_ _)); exact BK173.1) hb); have n2_ := Aside0.mk (below_step (by repeat (first | (with_reducible first | exact HB.1 | apply pa14 | apply pd14 | apply pe14 | refine below_set ?_ GE173.1) | exact HB.1)) hb); clear BK173; clear HB; have HO181 := n0_; have BK173 := n1_; have HB := n2_; clear n0_ n1_ n2_; (try clear hb); (try clear hb2); (try clear hk); (try clear hi); (try clear ho0)))
     go_loopg [11, 12] k1 (fun kq v11 v12 w' => ∃ (x11_2 : Int) (x12_2 : Int), v11 = .int .i64 x11_2 ∧ v12 = .int .i64 x12_2 ∧ Aside0 (godwitlaw15_SeqsMissing.l1 kq a1 t172 t179 x11_2 x12_2 x174000_1 x174001_1 = some r) ∧ Aside0 (kq ≤ k1) ∧ Aside0 (Kd.R (Kd.int .i64) 3 w' w.heap.size (fun _ => True) v180 t179) ∧ Aside0 (w'.heap[gb173]? = some (.cells #[.int .i64 x174000_1, .int .u64 x174001_1] 26 (0, 0))) ∧ Aside0 (Below w.heap.size w w'))
     case atStart => exact ⟨(0), (0), (by first | rfl | (simp; done) | (simp [*]; done)), (by first | rfl | (simp; done) | (simp [*]; done)), H', ⟨Nat.le_refl _⟩, ⟨by (with_reducible repeat (first | apply Kd.R_alloc | apply Kd.R_drewN | apply Kd.R_drew)); exact HO181.1⟩, ⟨by (with_reducible repeat (first | refine blk_drewN ?_ _ | refine blk_drew ?_ | refine blk_alloc ?_ _)); exact BK173.1⟩, ⟨by repeat (first | (with_reducible first | exact HB.1 | apply pa14 | apply pd14 | apply pe14 | refine below_set ?_ GE173.1) | exact HB.1)⟩⟩
     case round =>
      clear H'
      try clear c1
      try clear p1
      try clear q1
      try clear hx1
      try clear p2
      try clear p6
      try clear c9
      try clear c9b0
      try clear c10
      try clear c10b0
      try clear c12
      try clear c12b0
      try clear c12b1
      try clear p17
      try clear q17
      try clear hx17
      try clear c19
      try clear hcz20_0
      try clear hcz20_1
      try clear hcz21_0
      try clear hcz21_1
      try clear hcz29_0
      try clear hcz29_1
      try clear hfz20_0
      try clear hfz20_1
      try clear hfz21_0
      try clear hfz21_1
      try clear hfz29_0
      try clear hfz29_1
      try clear hx174_0
      try clear p174
      try clear q174
      obtain ⟨x11_2, x12_2, rfl, rfl, HA, HK2, HO_10, BK173, HB⟩ := hrel
      cases gk with
      | zero => exact absurd HA.1 (by simp [godwitlaw15_SeqsMissing.l1])
      | succ k2 =>
       have H := HA.1
       clear HA
       simp only [godwitlaw15_SeqsMissing.l1] at H
       by_cases c31 : x12_2 < 64
       ·rw [if_pos c31] at H
        have c31b0 : decide (x12_2 < 64) = true := decide_eq_true c31
        clear c31
        have HC32 := Aside0.mk H
        clear H
        go_upto_region 16 with (fail)
        go_cut [60] (fun v60 wc => ∃ (kq : Nat) (x60_31 : Bool), v60 = .bool x60_31 ∧ Aside0 (godwitlaw15_SeqsMissing.j2 kq a1 t172 t179 x11_2 x12_2 x60_31 x174000_1 x174001_1 = some r) ∧ Aside0 (kq ≤ k2) ∧ Aside0 (Kd.R (Kd.int .i64) 3 wc w.heap.size (fun _ => True) v180 t179) ∧ Aside0 (wc.heap[gb173]? = some (.cells #[.int .i64 x174000_1, .int .u64 x174001_1] 26 (0, 0))) ∧ Aside0 (Below w.heap.size w wc))
        case first =>
         have H := HC32.1
         clear HC32
         replace H := Option.bind_eq_some_iff.mp H
         obtain ⟨t182, A330, H⟩ := H
         replace H : (if t182 = true then (godwitlaw15_SeqsMissing.j2 k2 a1 t172 t179 x11_2 x12_2 false x174000_1 x174001_1) else (godwitlaw15_SeqsMissing.j2 k2 a1 t172 t179 x11_2 x12_2 (decide ((wrap64 (x174000_1 + x12_2)) < 4294967296)) x174000_1 x174001_1)) = some r := H
         have A33 := Aside0.mk A330
         clear A330
         by_cases c34 : t182 = true
         ·subst c34
          have H1 : (godwitlaw15_SeqsMissing.j2 k2 a1 t172 t179 x11_2 x12_2 false x174000_1 x174001_1) = some r := by rw [if_pos rfl] at H; exact H
          clear H
          have H := H1
          clear H1
          have H' := Aside0.mk H
          clear H
          have hcz35_0 : wr.cell? ⟨gb173, 0, none⟩ = some (.int .i64 x174000_1) := (blk_cell BK173.1 0).trans rfl
          have hcz35_1 : wr.cell? ⟨gb173, 1, none⟩ = some (.int .u64 x174001_1) := (blk_cell BK173.1 1).trans rfl
          have hfz35_0 := blk_frozen BK173.1 0
          have hfz35_1 := blk_frozen BK173.1 1
          go_wp2_with (first | ((with_reducible refine gate_callee (f := 9) rfl ?_); refine goesL_ (some 52) rfl rfl Tryd.func9 (by kernel_rfl) rfl #[.agg #[.int .i64 x174000_1, .int .u64 x174001_1], .int .i64 (wrap64 (x174000_1 + x12_2))] rfl (by (try simp only [List.map_toArray, List.map_cons, List.map_nil]); first | done | rfl | (simp only [List.length_drop, List.length_take]; rfl)) ?_; (with_reducible refine (seqs_Seen.calls x174000_1 x174001_1 (wrap64 (x174000_1 + x12_2)) true _ A33.1).mono ?_); rintro e w36 ⟨rfl, hb⟩; refine ⟨_, rfl, ?_⟩; have n0_ := Aside0.mk (Kd.R_below (by (with_reducible repeat (first | apply Kd.R_alloc | apply Kd.R_drewN | apply Kd.R_drew)); exact HO_10.1) hb); have n1_ := Aside0.mk (blk_below (g := gb173) (o := .cells #[.int .i64 x174000_1, .int .u64 x174001_1] 26 (0, 0)) (by (with_reducible repeat (first | refine blk_drewN ?_ _ | refine blk_drew ?_ | refine blk_alloc ?_ _)); exact BK173.1) hb); have n2_ := Aside0.mk (below_step (by repeat (first | (with_reducible first | exact HB.1 | apply pa14 | apply pd14 | apply pe14 | refine below_set ?_ GE173.1) | exact HB.1)) hb); clear HO_10; clear BK173; clear HB; have HO_10 := n0_; have BK173 := n1_; have HB := n2_; clear n0_ n1_ n2_; (try clear hb); (try clear hb2); (try clear hk); (try clear hi)))
          go_meet
          case rel => exact ⟨_, (false), (by first | rfl | (simp; done) | (simp [*]; done)), H', ⟨by have := HK1.1; have := HK2.1; first | omega | exact Nat.le_refl _⟩, ⟨by (with_reducible repeat (first | apply Kd.R_alloc | apply Kd.R_drewN | apply Kd.R_drew)); exact HO_10.1⟩, ⟨by (with_reducible repeat (first | refine blk_drewN ?_ _ | refine blk_drew ?_ | refine blk_alloc ?_ _)); exact BK173.1⟩, ⟨by repeat (first | (with_reducible first | exact HB.1 | apply pa14 | apply pd14 | apply pe14 | refine below_set ?_ GE173.1) | exact HB.1)⟩⟩
         ·replace c34 := Bool.eq_false_iff.mpr c34
          subst c34
          have H1 : (godwitlaw15_SeqsMissing.j2 k2 a1 t172 t179 x11_2 x12_2 (decide ((wrap64 (x174000_1 + x12_2)) < 4294967296)) x174000_1 x174001_1) = some r := by rw [if_neg (show ¬ (false = true) by decide)] at H; exact H
          clear H
          have H := H1
          clear H1
          have H' := Aside0.mk H
          clear H
          have hcz37_0 : wr.cell? ⟨gb173, 0, none⟩ = some (.int .i64 x174000_1) := (blk_cell BK173.1 0).trans rfl
          have hcz37_1 : wr.cell? ⟨gb173, 1, none⟩ = some (.int .u64 x174001_1) := (blk_cell BK173.1 1).trans rfl
          have hfz37_0 := blk_frozen BK173.1 0
          have hfz37_1 := blk_frozen BK173.1 1
          go_wp2_with (first | ((with_reducible refine gate_callee (f := 9) rfl ?_); refine goesL_ (some 52) rfl rfl Tryd.func9 (by kernel_rfl) rfl #[.agg #[.int .i64 x174000_1, .int .u64 x174001_1], .int .i64 (wrap64 (x174000_1 + x12_2))] rfl (by (try simp only [List.map_toArray, List.map_cons, List.map_nil]); first | done | rfl | (simp only [List.length_drop, List.length_take]; rfl)) ?_; (with_reducible refine (seqs_Seen.calls x174000_1 x174001_1 (wrap64 (x174000_1 + x12_2)) false _ A33.1).mono ?_); rintro e w38 ⟨rfl, hb⟩; refine ⟨_, rfl, ?_⟩; have n0_ := Aside0.mk (Kd.R_below (by (with_reducible repeat (first | apply Kd.R_alloc | apply Kd.R_drewN | apply Kd.R_drew)); exact HO_10.1) hb); have n1_ := Aside0.mk (blk_below (g := gb173) (o := .cells #[.int .i64 x174000_1, .int .u64 x174001_1] 26 (0, 0)) (by (with_reducible repeat (first | refine blk_drewN ?_ _ | refine blk_drew ?_ | refine blk_alloc ?_ _)); exact BK173.1) hb); have n2_ := Aside0.mk (below_step (by repeat (first | (with_reducible first | exact HB.1 | apply pa14 | apply pd14 | apply pe14 | refine below_set ?_ GE173.1) | exact HB.1)) hb); clear HO_10; clear BK173; clear HB; have HO_10 := n0_; have BK173 := n1_; have HB := n2_; clear n0_ n1_ n2_; (try clear hb); (try clear hb2); (try clear hk); (try clear hi); have hcz39_0 : w38.cell? ⟨gb173, 0, none⟩ = some (.int .i64 x174000_1) := (blk_cell BK173.1 0).trans rfl; have hcz39_1 : w38.cell? ⟨gb173, 1, none⟩ = some (.int .u64 x174001_1) := (blk_cell BK173.1 1).trans rfl; have hfz39_0 := blk_frozen BK173.1 0; have hfz39_1 := blk_frozen BK173.1 1))
          go_meet
          case rel => exact ⟨_, (decide ((wrap64 (x174000_1 + x12_2)) < 4294967296)), (by first | rfl | (simp; done) | (simp [*]; done)), H', ⟨by have := HK1.1; have := HK2.1; first | omega | exact Nat.le_refl _⟩, ⟨by (with_reducible repeat (first | apply Kd.R_alloc | apply Kd.R_drewN | apply Kd.R_drew)); exact HO_10.1⟩, ⟨by (with_reducible repeat (first | refine blk_drewN ?_ _ | refine blk_drew ?_ | refine blk_alloc ?_ _)); exact BK173.1⟩, ⟨by repeat (first | (with_reducible first | exact HB.1 | apply pa14 | apply pd14 | apply pe14 | refine below_set ?_ GE173.1) | exact HB.1)⟩⟩
        case rest =>
         clear HC32
         try clear c1
         try clear p1
         try clear q1
         try clear hx1
         try clear p2
         try clear c3
         try clear p6
         try clear c9
         try clear c9b0
         try clear c10
         try clear c10b0
         try clear c12
         try clear c12b0
         try clear c12b1
         try clear p17
         try clear q17
         try clear hx17
         try clear c19
         try clear c31
         try clear c31b0
         try clear c34
         try clear hcz20_0
         try clear hcz20_1
         try clear hcz21_0
         try clear hcz21_1
         try clear hcz29_0
         try clear hcz29_1
         try clear hcz35_0
         try clear hcz35_1
         try clear hcz37_0
         try clear hcz37_1
         try clear hcz39_0
         try clear hcz39_1
         try clear hfz20_0
         try clear hfz20_1
         try clear hfz21_0
         try clear hfz21_1
         try clear hfz29_0
         try clear hfz29_1
         try clear hfz35_0
         try clear hfz35_1
         try clear hfz37_0
         try clear hfz37_1
         try clear hfz39_0
         try clear hfz39_1
         try clear hx174_0
         try clear p1
         try clear p17
         try clear p174
         try clear p2
         try clear p6
         try clear q1
         try clear q17
         try clear q174
         obtain ⟨kq, x60_31, rfl, HA, HJ31, HO_10, BK173, HB⟩ := hcut
         cases kq with
         | zero => exact absurd HA.1 (by simp [godwitlaw15_SeqsMissing.j2])
         | succ kj31 =>
          have H := HA.1
          clear HA
          simp only [godwitlaw15_SeqsMissing.j2] at H
          by_cases c40 : x60_31 = true
          ·subst c40
           have H1 : (if x11_2 ≥ (t179.length : Int) then (godwitlaw15_SeqsMissing.j3 kj31 a1 t172 t179 x11_2 x12_2 true x174000_1 x174001_1) else (if 0 ≤ x11_2 then (if x11_2 < (t179.length : Int) then (godwitlaw15_SeqsMissing.j3 kj31 a1 t172 t179 x11_2 x12_2 ((rd t179 x11_2) != (wrap64 (x174000_1 + x12_2))) x174000_1 x174001_1) else (none)) else (none))) = some r := by rw [if_pos rfl] at H; exact H
           clear H
           have H := H1
           clear H1
           have HC41 := Aside0.mk H
           clear H
           go_upto_region 17 with (fail)
           go_cut [75] (fun v75 wc => ∃ (kq : Nat) (x75_40 : Bool), v75 = .bool x75_40 ∧ Aside0 (godwitlaw15_SeqsMissing.j3 kq a1 t172 t179 x11_2 x12_2 x75_40 x174000_1 x174001_1 = some r) ∧ Aside0 (kq ≤ kj31) ∧ Aside0 (Kd.R (Kd.int .i64) 3 wc w.heap.size (fun _ => True) v180 t179) ∧ Aside0 (wc.heap[gb173]? = some (.cells #[.int .i64 x174000_1, .int .u64 x174001_1] 26 (0, 0))) ∧ Aside0 (Below w.heap.size w wc))
           case first =>
            have H := HC41.1
            clear HC41
            by_cases c42 : x11_2 ≥ (t179.length : Int)
            ·rw [if_pos c42] at H
             have c42b0 : decide ((t179.length : Int) ≤ x11_2) = true := decide_eq_true c42
             clear c42
             (first | rw [c42b0] | (simp only [i64_w, i32_w]; rw [c42b0]) | skip)
             have H' := Aside0.mk H
             clear H
             try go_wp2
             have n0_ := Aside0.mk (Kd.R_drew HO_10.1)
             have n1_ := Aside0.mk (blk_drew BK173.1)
             have n2_ := Aside0.mk (pe14 HB.1)
             clear HO_10
             clear BK173
             clear HB
             have HO_10 := n0_
             have BK173 := n1_
             have HB := n2_
             clear n0_ n1_ n2_
             obtain ⟨Ao44, co44, eo44⟩ := Kd.R_slice HO_10.1
             (first | subst eo44 | (injection eo44 with f1_ f2_ f3_; have f4_ := f1_.symm; have f5_ := f3_.symm; clear f1_ f2_ f3_; subst f4_; subst f5_))
             refine start_ (n := 15) (S := fun w' => True) (ds := []) (bA14 15 0) (by kernel_rfl) rfl rfl trivial (fun hHeld => ?_); refine with_tabW godwitlaw15_SeqsMissing.tab17 godwitlaw15_SeqsMissing.bits17 (fun HT_ HW_ => ?_)
             generalize wc.drew = w43 at HO_10 BK173 HB hHeld ⊢
             refine pure_ (i := 0) (N := some 61) (v := ?_) (a' := ?_) (bA14 15 1) rfl rfl (any_of HT_.1 (by kernel_rfl)) (fun _ _ _ h => h) (Or.inl ⟨by rfl, ?_⟩) ?_ ?_
             rotate_left; (focus intro w'; go_simp; with_reducible rfl); rotate_left; focus (simp only [Act.put, sI14, sZ14, sS14, i64_w, i32_w] <;> rfl)
             refine pure_ (i := 1) (N := some 62) (v := ?_) (a' := ?_) (bA14 15 3) rfl rfl (any_of HT_.1 (by kernel_rfl)) (fun _ _ _ h => h) (Or.inl ⟨by rfl, ?_⟩) ?_ ?_
             rotate_left; (focus intro w'; go_simp; with_reducible rfl); rotate_left; focus (simp only [Act.put, sI14, sZ14, sS14, i64_w, i32_w] <;> rfl)
             refine pure_ (i := 2) (N := some 63) (v := ?_) (a' := ?_) (bA14 15 7) rfl rfl (any_of HT_.1 (by kernel_rfl)) (fun _ _ _ h => h) (Or.inl ⟨by rfl, ?_⟩) ?_ ?_
             rotate_left; (focus intro w'; go_simp; with_reducible rfl); rotate_left; focus (simp only [Act.put, sI14, sZ14, sS14, i64_w, i32_w] <;> rfl)
             refine pure_ (i := 3) (N := some 64) (v := ?_) (a' := ?_) (bA14 15 15) rfl rfl (any_of HT_.1 (by kernel_rfl)) (fun _ _ _ h => h) (Or.inl ⟨by rfl, ?_⟩) ?_ ?_
             rotate_left; (focus intro w'; go_simp; with_reducible rfl); rotate_left; focus (simp only [Act.put, sI14, sZ14, sS14, i64_w, i32_w] <;> rfl)
             refine pure_ (i := 4) (N := some 65) (v := ?_) (a' := ?_) (bA14 15 31) rfl rfl (any_of HT_.1 (by kernel_rfl)) (fun _ _ _ h => h) (Or.inl ⟨by rfl, ?_⟩) ?_ ?_
             rotate_left; (focus intro w'; go_simp; with_reducible rfl); rotate_left; focus (simp only [Act.put, sI14, sZ14, sS14, i64_w, i32_w] <;> rfl)
             refine pure_ (i := 5) (N := some 66) (v := undef) (a' := ?_) (bA14 15 63) rfl rfl (any_of HT_.1 (by kernel_rfl)) (fun _ _ _ h => h) (Or.inr ⟨by rfl, rfl⟩) ?_ ?_
             rotate_left
             ·simp only [Act.put, sI14, sZ14, sS14, i64_w, i32_w]
              rfl
             refine pure_ (i := 6) (N := some 67) (v := undef) (a' := ?_) (bA14 15 127) rfl rfl (any_of HT_.1 (by kernel_rfl)) (fun _ _ _ h => h) (Or.inr ⟨by rfl, rfl⟩) ?_ ?_
             rotate_left
             ·simp only [Act.put, sI14, sZ14, sS14, i64_w, i32_w]
              rfl
             refine pure_ (i := 7) (N := some 68) (v := undef) (a' := ?_) (bA14 15 255) rfl rfl (any_of HT_.1 (by kernel_rfl)) (fun _ _ _ h => h) (Or.inr ⟨by rfl, rfl⟩) ?_ ?_
             rotate_left
             ·simp only [Act.put, sI14, sZ14, sS14, i64_w, i32_w]
              rfl
             refine pure_ (i := 8) (N := some 69) (v := undef) (a' := ?_) (bA14 15 511) rfl rfl (any_of HT_.1 (by kernel_rfl)) (fun _ _ _ h => h) (Or.inr ⟨by rfl, rfl⟩) ?_ ?_
             rotate_left
             ·simp only [Act.put, sI14, sZ14, sS14, i64_w, i32_w]
              rfl
             refine pure_ (i := 9) (N := some 70) (v := undef) (a' := ?_) (bA14 15 1023) rfl rfl (any_of HT_.1 (by kernel_rfl)) (fun _ _ _ h => h) (Or.inr ⟨by rfl, rfl⟩) ?_ ?_
             rotate_left
             ·simp only [Act.put, sI14, sZ14, sS14, i64_w, i32_w]
              rfl
             refine pure_ (i := 10) (N := some 71) (v := undef) (a' := ?_) (bA14 15 2047) rfl rfl (any_of HT_.1 (by kernel_rfl)) (fun _ _ _ h => h) (Or.inr ⟨by rfl, rfl⟩) ?_ ?_
             rotate_left
             ·simp only [Act.put, sI14, sZ14, sS14, i64_w, i32_w]
              rfl
             refine pure_ (i := 11) (N := some 72) (v := undef) (a' := ?_) (bA14 15 4095) rfl rfl (any_of HT_.1 (by kernel_rfl)) (fun _ _ _ h => h) (Or.inr ⟨by rfl, rfl⟩) ?_ ?_
             rotate_left
             ·simp only [Act.put, sI14, sZ14, sS14, i64_w, i32_w]
              rfl
             refine pure_ (i := 12) (N := some 73) (v := undef) (a' := ?_) (bA14 15 8191) rfl rfl (any_of HT_.1 (by kernel_rfl)) (fun _ _ _ h => h) (Or.inr ⟨by rfl, rfl⟩) ?_ ?_
             rotate_left
             ·simp only [Act.put, sI14, sZ14, sS14, i64_w, i32_w]
              rfl
             refine pure_ (i := 13) (N := some 74) (v := undef) (a' := ?_) (bA14 15 16383) rfl rfl (any_of HT_.1 (by kernel_rfl)) (fun _ _ _ h => h) (Or.inr ⟨by rfl, rfl⟩) ?_ ?_
             rotate_left
             ·simp only [Act.put, sI14, sZ14, sS14, i64_w, i32_w]
              rfl
             refine pure_ (i := 14) (N := some 75) (v := ?_) (a' := ?_) (bA14 15 32767) rfl rfl (any_of HT_.1 (by kernel_rfl)) (fun _ _ _ h => h) (Or.inl ⟨by rfl, ?_⟩) ?_ ?_
             rotate_left; (focus intro w'; go_simp; with_reducible rfl); rotate_left; focus (simp only [Act.put, sI14, sZ14, sS14, i64_w, i32_w] <;> rfl)
             refine done_ (done_of HT_.1 (by kernel_rfl)) ?_
             try go_wp2
             go_meet
             case rel => exact ⟨_, (true), (by first | rfl | (simp; done) | (simp [*]; done)), H', ⟨by have := HK1.1; have := HK2.1; have := HJ31.1; first | omega | exact Nat.le_refl _⟩, ⟨by (with_reducible repeat (first | apply Kd.R_alloc | apply Kd.R_drewN | apply Kd.R_drew)); exact HO_10.1⟩, ⟨by (with_reducible repeat (first | refine blk_drewN ?_ _ | refine blk_drew ?_ | refine blk_alloc ?_ _)); exact BK173.1⟩, ⟨by repeat (first | (with_reducible first | exact HB.1 | apply pa14 | apply pd14 | apply pe14 | refine below_set ?_ GE173.1) | exact HB.1)⟩⟩
            ·rw [if_neg c42] at H
             have c42b0 : decide ((t179.length : Int) ≤ x11_2) = false := decide_eq_false c42
             clear c42
             (first | rw [c42b0] | (simp only [i64_w, i32_w]; rw [c42b0]) | skip)
             by_cases c45 : 0 ≤ x11_2
             ·rw [if_pos c45] at H
              have c45b0 : decide (0 ≤ x11_2) = true := decide_eq_true c45
              clear c45
              by_cases c46 : x11_2 < (t179.length : Int)
              ·rw [if_pos c46] at H
               have c46b0 : decide (x11_2 < (t179.length : Int)) = true := decide_eq_true c46
               clear c46
               have H' := Aside0.mk H
               clear H
               try go_wp2
               have n0_ := Aside0.mk (Kd.R_drew HO_10.1)
               have n1_ := Aside0.mk (blk_drew BK173.1)
               have n2_ := Aside0.mk (pe14 HB.1)
               clear HO_10
               clear BK173
               clear HB
               have HO_10 := n0_
               have BK173 := n1_
               have HB := n2_
               clear n0_ n1_ n2_
               obtain ⟨Ao48, co48, eo48⟩ := Kd.R_slice HO_10.1
               (first | subst eo48 | (injection eo48 with f1_ f2_ f3_; have f4_ := f1_.symm; have f5_ := f3_.symm; clear f1_ f2_ f3_; subst f4_; subst f5_))
               have p183 : 0 ≤ (x11_2 : Int) := of_decide_eq_true (by first | (with_reducible assumption) | assumption)
               have q183 : x11_2 < (t179.length : Int) := of_decide_eq_true (by first | (with_reducible assumption) | assumption)
               (try (obtain ⟨A_s, c_s, e_s⟩ := Kd.R_slice HO_10.1; subst e_s))
               obtain ⟨ad183, e183, hx183_0⟩ := Kd.at_int (Kd.R_reads' HO_10.1).2.2 x11_2 p183 q183
               cases e183
               replace p183 := eq_true p183
               replace q183 := eq_true q183
               refine start_ (n := 15) (S := fun w' => w'.cell? ⟨gb173, 0, none⟩ = some (.int .i64 x174000_1) ∧ w'.cell? ⟨gb173, 1, none⟩ = some (.int .u64 x174001_1) ∧ w'.cell? (ad183.add (x11_2).toNat) = some (.int .i64 (rd t179 x11_2))) (ds := []) (bA14 15 0) (by kernel_rfl) rfl rfl ⟨(blk_cell BK173.1 0).trans rfl, (blk_cell BK173.1 1).trans rfl, hx183_0⟩ (fun hHeld => ?_); refine with_tabW godwitlaw15_SeqsMissing.tab17 godwitlaw15_SeqsMissing.bits17 (fun HT_ HW_ => ?_)
               generalize wc.drew = w47 at HO_10 BK173 HB hx183_0 hHeld ⊢
               refine pure_ (i := 0) (N := some 61) (v := ?_) (a' := ?_) (bA14 15 1) rfl rfl (any_of HT_.1 (by kernel_rfl)) (fun _ _ _ h => h) (Or.inl ⟨by rfl, ?_⟩) ?_ ?_
               rotate_left; (focus intro w'; go_simp; with_reducible rfl); rotate_left; focus (simp only [Act.put, sI14, sZ14, sS14, i64_w, i32_w] <;> rfl)
               refine pure_ (i := 1) (N := some 62) (v := ?_) (a' := ?_) (bA14 15 3) rfl rfl (any_of HT_.1 (by kernel_rfl)) (fun _ _ _ h => h) (Or.inl ⟨by rfl, ?_⟩) ?_ ?_
               rotate_left; (focus intro w'; go_simp; with_reducible rfl); rotate_left; focus (simp only [Act.put, sI14, sZ14, sS14, i64_w, i32_w] <;> rfl)
               refine pure_ (i := 2) (N := some 63) (v := ?_) (a' := ?_) (bA14 15 7) rfl rfl (any_of HT_.1 (by kernel_rfl)) (fun _ _ _ h => h) (Or.inl ⟨by rfl, ?_⟩) ?_ ?_
               rotate_left; (focus intro w'; go_simp; with_reducible rfl); rotate_left; focus (simp only [Act.put, sI14, sZ14, sS14, i64_w, i32_w] <;> rfl)
               refine pure_ (i := 3) (N := some 64) (v := ?_) (a' := ?_) (bA14 15 15) rfl rfl (any_of HT_.1 (by kernel_rfl)) (fun _ _ _ h => h) (Or.inl ⟨by rfl, ?_⟩) ?_ ?_
               rotate_left; (focus intro w'; go_simp; with_reducible rfl); rotate_left; focus (simp only [Act.put, sI14, sZ14, sS14, i64_w, i32_w] <;> rfl)
               refine pure_ (i := 4) (N := some 65) (v := ?_) (a' := ?_) (bA14 15 31) rfl rfl (any_of HT_.1 (by kernel_rfl)) (fun _ _ _ h => h) (Or.inl ⟨by rfl, ?_⟩) ?_ ?_
               rotate_left; (focus intro w'; go_simp; with_reducible rfl); rotate_left; focus (simp only [Act.put, sI14, sZ14, sS14, i64_w, i32_w] <;> rfl)
               refine pure_ (i := 5) (N := some 66) (v := ?_) (a' := ?_) (bA14 15 63) rfl rfl (any_of HT_.1 (by kernel_rfl)) (fun _ _ _ h => h) (Or.inl ⟨by rfl, ?_⟩) ?_ ?_
               rotate_left; (focus intro w'; go_simp; with_reducible rfl); rotate_left; focus (simp only [Act.put, sI14, sZ14, sS14, i64_w, i32_w] <;> rfl)
               refine pure_ (i := 6) (N := some 67) (v := ?_) (a' := ?_) (bA14 15 127) rfl rfl (any_of HT_.1 (by kernel_rfl)) (fun _ _ _ h => h) (Or.inl ⟨by rfl, ?_⟩) ?_ ?_
               rotate_left; (focus intro w'; go_simp; with_reducible rfl); rotate_left; focus (simp only [Act.put, sI14, sZ14, sS14, i64_w, i32_w] <;> rfl)
               refine pure_ (i := 7) (N := some 68) (v := ?_) (a' := ?_) (bA14 15 255) rfl rfl (any_of HT_.1 (by kernel_rfl)) (fun _ _ _ h => h) (Or.inl ⟨by rfl, ?_⟩) ?_ ?_
               rotate_left; (focus intro w'; go_simp; with_reducible rfl); rotate_left; focus (simp only [Act.put, sI14, sZ14, sS14, i64_w, i32_w] <;> rfl)
               refine pure_ (i := 9) (N := some 70) (v := ?_) (a' := ?_) (bA14 15 767) rfl rfl (any_of HT_.1 (by kernel_rfl)) (fun _ _ _ h => h) (Or.inl ⟨by rfl, ?_⟩) ?_ ?_
               rotate_left; (focus intro w'; go_simp; with_reducible rfl); rotate_left; focus (simp only [Act.put, sI14, sZ14, sS14, i64_w, i32_w] <;> rfl)
               refine pure_ (i := 11) (N := some 72) (v := ?_) (a' := ?_) (bA14 15 2815) rfl rfl (any_of HT_.1 (by kernel_rfl)) (fun _ _ _ h => h) (Or.inl ⟨by rfl, ?_⟩) ?_ ?_
               rotate_left; (focus intro w'; go_simp; with_reducible rfl); rotate_left; focus (simp only [Act.put, sI14, sZ14, sS14, i64_w, i32_w] <;> rfl)
               refine take_ (i := 8) (N := some 69) (v := ?_) (a' := ?_) (bA14 15 3071) rfl rfl (take_ofW HT_.1 HW_.1 (by kernel_rfl)) (fun _ _ _ h => h) (Or.inl ⟨by rfl, ?_⟩) hHeld ?_ ?_
               rotate_left
               ·rintro w' ⟨s0, s1, s2⟩
                go_simp
                with_reducible rfl
               rotate_left
               ·simp only [Act.put, sI14, sZ14, sS14, i64_w, i32_w]
                rfl
               refine take_ (i := 10) (N := some 71) (v := ?_) (a' := ?_) (bA14 15 4095) rfl rfl (take_ofW HT_.1 HW_.1 (by kernel_rfl)) (fun _ _ _ h => h) (Or.inl ⟨by rfl, ?_⟩) hHeld ?_ ?_
               rotate_left
               ·rintro w' ⟨s0, s1, s2⟩
                go_simp
                with_reducible rfl
               rotate_left
               ·simp only [Act.put, sI14, sZ14, sS14, i64_w, i32_w]
                rfl
               refine pure_ (i := 12) (N := some 73) (v := ?_) (a' := ?_) (bA14 15 8191) rfl rfl (any_of HT_.1 (by kernel_rfl)) (fun _ _ _ h => h) (Or.inl ⟨by rfl, ?_⟩) ?_ ?_
               rotate_left; (focus intro w'; go_simp; with_reducible rfl); rotate_left; focus (simp only [Act.put, sI14, sZ14, sS14, i64_w, i32_w] <;> rfl)
               refine pure_ (i := 13) (N := some 74) (v := ?_) (a' := ?_) (bA14 15 16383) rfl rfl (any_of HT_.1 (by kernel_rfl)) (fun _ _ _ h => h) (Or.inl ⟨by rfl, ?_⟩) ?_ ?_
               rotate_left; (focus intro w'; go_simp; with_reducible rfl); rotate_left; focus (simp only [Act.put, sI14, sZ14, sS14, i64_w, i32_w] <;> rfl)
               refine pure_ (i := 14) (N := some 75) (v := ?_) (a' := ?_) (bA14 15 32767) rfl rfl (any_of HT_.1 (by kernel_rfl)) (fun _ _ _ h => h) (Or.inl ⟨by rfl, ?_⟩) ?_ ?_
               rotate_left; (focus intro w'; go_simp; with_reducible rfl); rotate_left; focus (simp only [Act.put, sI14, sZ14, sS14, i64_w, i32_w] <;> rfl)
               refine done_ (done_of HT_.1 (by kernel_rfl)) ?_
               try go_wp2
               go_meet
               case rel => exact ⟨_, (((rd t179 x11_2) != (wrap64 (x174000_1 + x12_2)))), (by first | rfl | (simp; done) | (simp [*]; done)), H', ⟨by have := HK1.1; have := HK2.1; have := HJ31.1; first | omega | exact Nat.le_refl _⟩, ⟨by (with_reducible repeat (first | apply Kd.R_alloc | apply Kd.R_drewN | apply Kd.R_drew)); exact HO_10.1⟩, ⟨by (with_reducible repeat (first | refine blk_drewN ?_ _ | refine blk_drew ?_ | refine blk_alloc ?_ _)); exact BK173.1⟩, ⟨by repeat (first | (with_reducible first | exact HB.1 | apply pa14 | apply pd14 | apply pe14 | refine below_set ?_ GE173.1) | exact HB.1)⟩⟩
              ·rw [if_neg c46] at H
               exact absurd H (by simp)
             ·rw [if_neg c45] at H
              exact absurd H (by simp)
           case rest =>
            clear HC41
            try clear c1
            try clear p1
            try clear q1
            try clear hx1
            try clear p2
            try clear c3
            try clear c4
            try clear p6
            try clear c9
            try clear c9b0
            try clear c10
            try clear c10b0
            try clear c12
            try clear c12b0
            try clear c12b1
            try clear p17
            try clear q17
            try clear hx17
            try clear p18
            try clear q18
            try clear hx18
            try clear c19
            try clear c31
            try clear c31b0
            try clear c34
            try clear c40
            try clear c42
            try clear c42b0
            try clear c45
            try clear c45b0
            try clear c46
            try clear c46b0
            try clear hcz20_0
            try clear hcz20_1
            try clear hcz21_0
            try clear hcz21_1
            try clear hcz29_0
            try clear hcz29_1
            try clear hcz35_0
            try clear hcz35_1
            try clear hcz37_0
            try clear hcz37_1
            try clear hcz39_0
            try clear hcz39_1
            try clear hfz20_0
            try clear hfz20_1
            try clear hfz21_0
            try clear hfz21_1
            try clear hfz29_0
            try clear hfz29_1
            try clear hfz35_0
            try clear hfz35_1
            try clear hfz37_0
            try clear hfz37_1
            try clear hfz39_0
            try clear hfz39_1
            try clear hx174_0
            try clear hx183_0
            try clear p1
            try clear p17
            try clear p174
            try clear p183
            try clear p2
            try clear p6
            try clear q1
            try clear q17
            try clear q174
            try clear q183
            obtain ⟨kq, x75_40, rfl, HA, HJ40, HO_10, BK173, HB⟩ := hcut
            cases kq with
            | zero => exact absurd HA.1 (by simp [godwitlaw15_SeqsMissing.j3])
            | succ kj40 =>
             have H := HA.1
             clear HA
             simp only [godwitlaw15_SeqsMissing.j3] at H
             by_cases c49 : x75_40 = true
             ·subst c49
              have H1 : (none) = some r := by rw [if_pos rfl] at H; exact H
              clear H
              have H := H1
              clear H1
              exact absurd H (by simp)
             ·replace c49 := Bool.eq_false_iff.mpr c49
              subst c49
              have H1 : (godwitlaw15_SeqsMissing.l1 kj40 a1 t172 t179 (wrap64 (x11_2 + 1)) (wrap64 (x12_2 + 1)) x174000_1 x174001_1) = some r := by rw [if_neg (show ¬ (false = true) by decide)] at H; exact H
              clear H
              have H := H1
              clear H1
              have H' := Aside0.mk H
              clear H
              go_wp2
              go_roundg kj40
              case measure => have := HK1.1; have := HK2.1; have := HJ31.1; have := HJ40.1; omega
              case rel => exact ⟨(wrap64 (x11_2 + 1)), (wrap64 (x12_2 + 1)), (by first | rfl | (simp; done) | (simp [*]; done)), (by first | rfl | (simp; done) | (simp [*]; done)), H', ⟨by have := HK1.1; have := HK2.1; have := HJ31.1; have := HJ40.1; omega⟩, ⟨by (with_reducible repeat (first | apply Kd.R_alloc | apply Kd.R_drewN | apply Kd.R_drew)); exact HO_10.1⟩, ⟨by (with_reducible repeat (first | refine blk_drewN ?_ _ | refine blk_drew ?_ | refine blk_alloc ?_ _)); exact BK173.1⟩, ⟨by repeat (first | (with_reducible first | exact HB.1 | apply pa14 | apply pd14 | apply pe14 | refine below_set ?_ GE173.1) | exact HB.1)⟩⟩
          ·replace c40 := Bool.eq_false_iff.mpr c40
           subst c40
           have H1 : (godwitlaw15_SeqsMissing.l1 kj31 a1 t172 t179 x11_2 (wrap64 (x12_2 + 1)) x174000_1 x174001_1) = some r := by rw [if_neg (show ¬ (false = true) by decide)] at H; exact H
           clear H
           have H := H1
           clear H1
           have H' := Aside0.mk H
           clear H
           go_wp2
           go_roundg kj31
           case measure => have := HK1.1; have := HK2.1; have := HJ31.1; omega
           case rel => exact ⟨(x11_2), (wrap64 (x12_2 + 1)), (by first | rfl | (simp; done) | (simp [*]; done)), (by first | rfl | (simp; done) | (simp [*]; done)), H', ⟨by have := HK1.1; have := HK2.1; have := HJ31.1; omega⟩, ⟨by (with_reducible repeat (first | apply Kd.R_alloc | apply Kd.R_drewN | apply Kd.R_drew)); exact HO_10.1⟩, ⟨by (with_reducible repeat (first | refine blk_drewN ?_ _ | refine blk_drew ?_ | refine blk_alloc ?_ _)); exact BK173.1⟩, ⟨by repeat (first | (with_reducible first | exact HB.1 | apply pa14 | apply pd14 | apply pe14 | refine below_set ?_ GE173.1) | exact HB.1)⟩⟩
       ·rw [if_neg c31] at H
        have c31b0 : decide (x12_2 < 64) = false := decide_eq_false c31
        clear c31
        have HC50 := Aside0.mk H
        clear H
        go_upto_region 20 with (fail)
        go_cut [85] (fun v85 wc => ∃ (kq : Nat) (x85_49 : Bool), v85 = .bool x85_49 ∧ Aside0 (godwitlaw15_SeqsMissing.j4 kq a1 t172 t179 x11_2 x85_49 x174000_1 x174001_1 = some r) ∧ Aside0 (kq ≤ k2) ∧ Aside0 (Kd.R (Kd.int .i64) 3 wc w.heap.size (fun _ => True) v180 t179) ∧ Aside0 (wc.heap[gb173]? = some (.cells #[.int .i64 x174000_1, .int .u64 x174001_1] 26 (0, 0))) ∧ Aside0 (Below w.heap.size w wc))
        case first =>
         have H := HC50.1
         clear HC50
         by_cases c51 : x11_2 = (t179.length : Int)
         ·rw [if_pos c51] at H
          have c51b0 : (x11_2 == (t179.length : Int)) = true := beq_iff_eq.mpr c51
          have c51b1 : (x11_2 != (t179.length : Int)) = false := bne_eq_false_iff_eq.mpr c51
          clear c51
          (first | rw [c51b0] | (simp only [i64_w, i32_w]; rw [c51b0]) | skip)
          have H' := Aside0.mk H
          clear H
          obtain ⟨Ao52, co52, eo52⟩ := Kd.R_slice HO_10.1
          subst eo52
          go_wp2
          go_meet
          case rel => exact ⟨_, ((x11_2 == 0)), (by first | rfl | (simp; done) | (simp [*]; done)), H', ⟨by have := HK1.1; have := HK2.1; first | omega | exact Nat.le_refl _⟩, ⟨by (with_reducible repeat (first | apply Kd.R_alloc | apply Kd.R_drewN | apply Kd.R_drew)); exact HO_10.1⟩, ⟨by (with_reducible repeat (first | refine blk_drewN ?_ _ | refine blk_drew ?_ | refine blk_alloc ?_ _)); exact BK173.1⟩, ⟨by repeat (first | (with_reducible first | exact HB.1 | apply pa14 | apply pd14 | apply pe14 | refine below_set ?_ GE173.1) | exact HB.1)⟩⟩
         ·rw [if_neg c51] at H
          have c51b0 : (x11_2 == (t179.length : Int)) = false := beq_eq_false_iff_ne.mpr c51
          have c51b1 : (x11_2 != (t179.length : Int)) = true := bne_iff_ne.mpr c51
          (first | rw [c51b0] | (simp only [i64_w, i32_w]; rw [c51b0]) | skip)
          have H' := Aside0.mk H
          clear H
          obtain ⟨Ao53, co53, eo53⟩ := Kd.R_slice HO_10.1
          subst eo53
          go_wp2
          go_meet
          case rel => exact ⟨_, (true), (by first | rfl | (simp; done) | (simp [*]; done)), H', ⟨by have := HK1.1; have := HK2.1; first | omega | exact Nat.le_refl _⟩, ⟨by (with_reducible repeat (first | apply Kd.R_alloc | apply Kd.R_drewN | apply Kd.R_drew)); exact HO_10.1⟩, ⟨by (with_reducible repeat (first | refine blk_drewN ?_ _ | refine blk_drew ?_ | refine blk_alloc ?_ _)); exact BK173.1⟩, ⟨by repeat (first | (with_reducible first | exact HB.1 | apply pa14 | apply pd14 | apply pe14 | refine below_set ?_ GE173.1) | exact HB.1)⟩⟩
        case rest =>
         clear HC50
         try clear c1
         try clear p1
         try clear q1
         try clear hx1
         try clear p2
         try clear c3
         try clear c4
         try clear c5
         try clear p6
         try clear c9
         try clear c9b0
         try clear c10
         try clear c10b0
         try clear c12
         try clear c12b0
         try clear c12b1
         try clear p17
         try clear q17
         try clear hx17
         try clear p18
         try clear q18
         try clear hx18
         try clear c19
         try clear c31
         try clear c31b0
         try clear c34
         try clear c40
         try clear c42
         try clear c42b0
         try clear c45
         try clear c45b0
         try clear c46
         try clear c46b0
         try clear c49
         try clear c51
         try clear c51b0
         try clear c51b1
         try clear hcz20_0
         try clear hcz20_1
         try clear hcz21_0
         try clear hcz21_1
         try clear hcz29_0
         try clear hcz29_1
         try clear hcz35_0
         try clear hcz35_1
         try clear hcz37_0
         try clear hcz37_1
         try clear hcz39_0
         try clear hcz39_1
         try clear hfz20_0
         try clear hfz20_1
         try clear hfz21_0
         try clear hfz21_1
         try clear hfz29_0
         try clear hfz29_1
         try clear hfz35_0
         try clear hfz35_1
         try clear hfz37_0
         try clear hfz37_1
         try clear hfz39_0
         try clear hfz39_1
         try clear hx174_0
         try clear hx183_0
         try clear p1
         try clear p17
         try clear p174
         try clear p18
         try clear p183
         try clear p2
         try clear p6
         try clear q1
         try clear q17
         try clear q174
         try clear q18
         try clear q183
         obtain ⟨kq, x85_49, rfl, HA, HJ49, HO_10, BK173, HB⟩ := hcut
         cases kq with
         | zero => exact absurd HA.1 (by simp [godwitlaw15_SeqsMissing.j4])
         | succ kj49 =>
          have H := HA.1
          clear HA
          simp only [godwitlaw15_SeqsMissing.j4] at H
          by_cases c54 : x85_49 = true
          ·subst c54
           have H1 : (if t172 = true then (some (x11_2 == (t179.length : Int))) else (none)) = some r := by rw [if_pos rfl] at H; exact H
           clear H
           have H := H1
           clear H1
           by_cases c55 : t172 = true
           ·subst c55
            have H1 : (some (x11_2 == (t179.length : Int))) = some r := by rw [if_pos rfl] at H; exact H
            clear H
            have H := H1
            clear H1
            obtain rfl := Option.some.inj H
            obtain ⟨Ao56, co56, eo56⟩ := Kd.R_slice HO_10.1
            subst eo56
            go_wp2
            go_ret
            exact ⟨by first | rfl | (simp [errW_none, errW_some] <;> rfl) | (simp [*, errW_none, errW_some] <;> rfl), by repeat (first | (with_reducible first | exact HB.1 | apply pa14 | apply pd14 | apply pe14 | refine below_set ?_ GE173.1) | exact HB.1)⟩
           ·replace c55 := Bool.eq_false_iff.mpr c55
            subst c55
            have H1 : (none) = some r := by rw [if_neg (show ¬ (false = true) by decide)] at H; exact H
            clear H
            have H := H1
            clear H1
            exact absurd H (by simp)
          ·replace c54 := Bool.eq_false_iff.mpr c54
           subst c54
           have H1 : (if x11_2 = 0 then (none) else (if 0 ≤ (Int.tmod (Go.bits .and .i64 a1 65535) x11_2) then (if (Int.tmod (Go.bits .and .i64 a1 65535) x11_2) < (t179.length : Int) then ((seqs_Accept.f x174000_1 x174001_1 (rd t179 (Int.tmod (Go.bits .and .i64 a1 65535) x11_2))).bind fun bt185 => ((seqs_Missing.f kj49 bt185.1 bt185.2.1 1).bind fun t189 => (if t172 = true then (if bt185.2.2 = 0 then ((seqs_Seen.f bt185.1 bt185.2.1 (rd t179 (Int.tmod (Go.bits .and .i64 a1 65535) x11_2))).bind fun t193 => (if t193 = true then ((seqs_Seen.f x174000_1 x174001_1 (rd t179 (Int.tmod (Go.bits .and .i64 a1 65535) x11_2))).bind fun t195 => (if t195 = true then (none) else (if (Int.tmod (Go.bits .and .i64 a1 65535) x11_2) > 0 then ((seqs_Missing.f kj49 x174000_1 x174001_1 0).bind fun t196 => ((godwitref10_Ints.f kj49 t196 ([] : List Int)).bind fun t199 => (some t199))) else (if (t189.length : Int) = 0 then ((seqs_Missing.f kj49 x174000_1 x174001_1 0).bind fun t200 => ((godwitref10_Ints.f kj49 t200 ([] : List Int)).bind fun t203 => (some t203))) else (if 0 < (t189.length : Int) then (if 0 < (t179.length : Int) then (if (rd t189 0) > (rd t179 0) then ((seqs_Missing.f kj49 x174000_1 x174001_1 0).bind fun t206 => ((godwitref10_Ints.f kj49 t206 ([] : List Int)).bind fun t209 => (some t209))) else (none)) else (none)) else (none)))))) else (none))) else (none)) else (none)))) else (none)) else (none))) = some r := by rw [if_neg (show ¬ (false = true) by decide)] at H; exact H
           clear H
           have H := H1
           clear H1
           by_cases c57 : x11_2 = 0
           ·rw [if_pos c57] at H
            exact absurd H (by simp)
           ·rw [if_neg c57] at H
            have c57b0 : (x11_2 == 0) = false := beq_eq_false_iff_ne.mpr c57
            have c57b1 : (x11_2 != 0) = true := bne_iff_ne.mpr c57
            obtain ⟨ji58, hji58⟩ : ∃ j_ : Int, (Int.tmod (Go.bits .and .i64 a1 65535) x11_2) = j_ := ⟨_, rfl⟩
            replace H : (if 0 ≤ (ji58) then (if (ji58) < (t179.length : Int) then ((seqs_Accept.f x174000_1 x174001_1 (rd t179 (ji58))).bind fun bt185 => ((seqs_Missing.f kj49 bt185.1 bt185.2.1 1).bind fun t189 => (if t172 = true then (if bt185.2.2 = 0 then ((seqs_Seen.f bt185.1 bt185.2.1 (rd t179 (ji58))).bind fun t193 => (if t193 = true then ((seqs_Seen.f x174000_1 x174001_1 (rd t179 (ji58))).bind fun t195 => (if t195 = true then (none) else (if (ji58) > 0 then ((seqs_Missing.f kj49 x174000_1 x174001_1 0).bind fun t196 => ((godwitref10_Ints.f kj49 t196 ([] : List Int)).bind fun t199 => (some t199))) else (if (t189.length : Int) = 0 then ((seqs_Missing.f kj49 x174000_1 x174001_1 0).bind fun t200 => ((godwitref10_Ints.f kj49 t200 ([] : List Int)).bind fun t203 => (some t203))) else (if 0 < (t189.length : Int) then (if 0 < (t179.length : Int) then (if (rd t189 0) > (rd t179 0) then ((seqs_Missing.f kj49 x174000_1 x174001_1 0).bind fun t206 => ((godwitref10_Ints.f kj49 t206 ([] : List Int)).bind fun t209 => (some t209))) else (none)) else (none)) else (none)))))) else (none))) else (none)) else (none)))) else (none)) else (none)) = some r := by first | (rw [hji58] at H; exact H) | (simp only [hji58] at H ⊢; exact H)
            by_cases c59 : 0 ≤ (ji58)
            ·rw [if_pos c59] at H
             have c59b0 : decide (0 ≤ (ji58)) = true := decide_eq_true c59
             clear c59
             by_cases c60 : (ji58) < (t179.length : Int)
             ·rw [if_pos c60] at H
              have c60b0 : decide ((ji58) < (t179.length : Int)) = true := decide_eq_true c60
              clear c60
              replace H := Option.bind_eq_some_iff.mp H
              obtain ⟨⟨t185, t186, t187⟩, A610, H⟩ := H
              replace H : ((seqs_Missing.f kj49 t185 t186 1).bind fun t189 => (if t172 = true then (if t187 = 0 then ((seqs_Seen.f t185 t186 (rd t179 (ji58))).bind fun t193 => (if t193 = true then ((seqs_Seen.f x174000_1 x174001_1 (rd t179 (ji58))).bind fun t195 => (if t195 = true then (none) else (if (ji58) > 0 then ((seqs_Missing.f kj49 x174000_1 x174001_1 0).bind fun t196 => ((godwitref10_Ints.f kj49 t196 ([] : List Int)).bind fun t199 => (some t199))) else (if (t189.length : Int) = 0 then ((seqs_Missing.f kj49 x174000_1 x174001_1 0).bind fun t200 => ((godwitref10_Ints.f kj49 t200 ([] : List Int)).bind fun t203 => (some t203))) else (if 0 < (t189.length : Int) then (if 0 < (t179.length : Int) then (if (rd t189 0) > (rd t179 0) then ((seqs_Missing.f kj49 x174000_1 x174001_1 0).bind fun t206 => ((godwitref10_Ints.f kj49 t206 ([] : List Int)).bind fun t209 => (some t209))) else (none)) else (none)) else (none)))))) else (none))) else (none)) else (none))) = some r := H
              have A61 := Aside0.mk A610
              clear A610
              replace H := Option.bind_eq_some_iff.mp H
              obtain ⟨t189, A620, H⟩ := H
              replace H : (if t172 = true then (if t187 = 0 then ((seqs_Seen.f t185 t186 (rd t179 (ji58))).bind fun t193 => (if t193 = true then ((seqs_Seen.f x174000_1 x174001_1 (rd t179 (ji58))).bind fun t195 => (if t195 = true then (none) else (if (ji58) > 0 then ((seqs_Missing.f kj49 x174000_1 x174001_1 0).bind fun t196 => ((godwitref10_Ints.f kj49 t196 ([] : List Int)).bind fun t199 => (some t199))) else (if (t189.length : Int) = 0 then ((seqs_Missing.f kj49 x174000_1 x174001_1 0).bind fun t200 => ((godwitref10_Ints.f kj49 t200 ([] : List Int)).bind fun t203 => (some t203))) else (if 0 < (t189.length : Int) then (if 0 < (t179.length : Int) then (if (rd t189 0) > (rd t179 0) then ((seqs_Missing.f kj49 x174000_1 x174001_1 0).bind fun t206 => ((godwitref10_Ints.f kj49 t206 ([] : List Int)).bind fun t209 => (some t209))) else (none)) else (none)) else (none)))))) else (none))) else (none)) else (none)) = some r := H
              have A62 := Aside0.mk A620
              clear A620
              by_cases c63 : t172 = true
              ·subst c63
               have H1 : (if t187 = 0 then ((seqs_Seen.f t185 t186 (rd t179 (ji58))).bind fun t193 => (if t193 = true then ((seqs_Seen.f x174000_1 x174001_1 (rd t179 (ji58))).bind fun t195 => (if t195 = true then (none) else (if (ji58) > 0 then ((seqs_Missing.f kj49 x174000_1 x174001_1 0).bind fun t196 => ((godwitref10_Ints.f kj49 t196 ([] : List Int)).bind fun t199 => (some t199))) else (if (t189.length : Int) = 0 then ((seqs_Missing.f kj49 x174000_1 x174001_1 0).bind fun t200 => ((godwitref10_Ints.f kj49 t200 ([] : List Int)).bind fun t203 => (some t203))) else (if 0 < (t189.length : Int) then (if 0 < (t179.length : Int) then (if (rd t189 0) > (rd t179 0) then ((seqs_Missing.f kj49 x174000_1 x174001_1 0).bind fun t206 => ((godwitref10_Ints.f kj49 t206 ([] : List Int)).bind fun t209 => (some t209))) else (none)) else (none)) else (none)))))) else (none))) else (none)) = some r := by rw [if_pos rfl] at H; exact H
               clear H
               have H := H1
               clear H1
               by_cases c64 : t187 = 0
               ·rw [if_pos c64] at H
                have c64b0 : (t187 == 0) = true := beq_iff_eq.mpr c64
                have c64b1 : (t187 != 0) = false := bne_eq_false_iff_eq.mpr c64
                clear c64
                replace H := Option.bind_eq_some_iff.mp H
                obtain ⟨t193, A650, H⟩ := H
                replace H : (if t193 = true then ((seqs_Seen.f x174000_1 x174001_1 (rd t179 (ji58))).bind fun t195 => (if t195 = true then (none) else (if (ji58) > 0 then ((seqs_Missing.f kj49 x174000_1 x174001_1 0).bind fun t196 => ((godwitref10_Ints.f kj49 t196 ([] : List Int)).bind fun t199 => (some t199))) else (if (t189.length : Int) = 0 then ((seqs_Missing.f kj49 x174000_1 x174001_1 0).bind fun t200 => ((godwitref10_Ints.f kj49 t200 ([] : List Int)).bind fun t203 => (some t203))) else (if 0 < (t189.length : Int) then (if 0 < (t179.length : Int) then (if (rd t189 0) > (rd t179 0) then ((seqs_Missing.f kj49 x174000_1 x174001_1 0).bind fun t206 => ((godwitref10_Ints.f kj49 t206 ([] : List Int)).bind fun t209 => (some t209))) else (none)) else (none)) else (none)))))) else (none)) = some r := H
                have A65 := Aside0.mk A650
                clear A650
                by_cases c66 : t193 = true
                ·subst c66
                 have H1 : ((seqs_Seen.f x174000_1 x174001_1 (rd t179 (ji58))).bind fun t195 => (if t195 = true then (none) else (if (ji58) > 0 then ((seqs_Missing.f kj49 x174000_1 x174001_1 0).bind fun t196 => ((godwitref10_Ints.f kj49 t196 ([] : List Int)).bind fun t199 => (some t199))) else (if (t189.length : Int) = 0 then ((seqs_Missing.f kj49 x174000_1 x174001_1 0).bind fun t200 => ((godwitref10_Ints.f kj49 t200 ([] : List Int)).bind fun t203 => (some t203))) else (if 0 < (t189.length : Int) then (if 0 < (t179.length : Int) then (if (rd t189 0) > (rd t179 0) then ((seqs_Missing.f kj49 x174000_1 x174001_1 0).bind fun t206 => ((godwitref10_Ints.f kj49 t206 ([] : List Int)).bind fun t209 => (some t209))) else (none)) else (none)) else (none)))))) = some r := by rw [if_pos rfl] at H; exact H
                 clear H
                 have H := H1
                 clear H1
                 replace H := Option.bind_eq_some_iff.mp H
                 obtain ⟨t195, A670, H⟩ := H
                 replace H : (if t195 = true then (none) else (if (ji58) > 0 then ((seqs_Missing.f kj49 x174000_1 x174001_1 0).bind fun t196 => ((godwitref10_Ints.f kj49 t196 ([] : List Int)).bind fun t199 => (some t199))) else (if (t189.length : Int) = 0 then ((seqs_Missing.f kj49 x174000_1 x174001_1 0).bind fun t200 => ((godwitref10_Ints.f kj49 t200 ([] : List Int)).bind fun t203 => (some t203))) else (if 0 < (t189.length : Int) then (if 0 < (t179.length : Int) then (if (rd t189 0) > (rd t179 0) then ((seqs_Missing.f kj49 x174000_1 x174001_1 0).bind fun t206 => ((godwitref10_Ints.f kj49 t206 ([] : List Int)).bind fun t209 => (some t209))) else (none)) else (none)) else (none))))) = some r := H
                 have A67 := Aside0.mk A670
                 clear A670
                 by_cases c68 : t195 = true
                 ·subst c68
                  have H1 : (none) = some r := by rw [if_pos rfl] at H; exact H
                  clear H
                  have H := H1
                  clear H1
                  exact absurd H (by simp)
                 ·replace c68 := Bool.eq_false_iff.mpr c68
                  subst c68
                  have H1 : (if (ji58) > 0 then ((seqs_Missing.f kj49 x174000_1 x174001_1 0).bind fun t196 => ((godwitref10_Ints.f kj49 t196 ([] : List Int)).bind fun t199 => (some t199))) else (if (t189.length : Int) = 0 then ((seqs_Missing.f kj49 x174000_1 x174001_1 0).bind fun t200 => ((godwitref10_Ints.f kj49 t200 ([] : List Int)).bind fun t203 => (some t203))) else (if 0 < (t189.length : Int) then (if 0 < (t179.length : Int) then (if (rd t189 0) > (rd t179 0) then ((seqs_Missing.f kj49 x174000_1 x174001_1 0).bind fun t206 => ((godwitref10_Ints.f kj49 t206 ([] : List Int)).bind fun t209 => (some t209))) else (none)) else (none)) else (none)))) = some r := by rw [if_neg (show ¬ (false = true) by decide)] at H; exact H
                  clear H
                  have H := H1
                  clear H1
                  by_cases c69 : (ji58) > 0
                  ·rw [if_pos c69] at H
                   have c69b0 : decide (0 < (ji58)) = true := decide_eq_true c69
                   clear c69
                   replace H := Option.bind_eq_some_iff.mp H
                   obtain ⟨t196, A700, H⟩ := H
                   replace H : ((godwitref10_Ints.f kj49 t196 ([] : List Int)).bind fun t199 => (some t199)) = some r := H
                   have A70 := Aside0.mk A700
                   clear A700
                   replace H := Option.bind_eq_some_iff.mp H
                   obtain ⟨t199, A710, H⟩ := H
                   replace H : (some t199) = some r := H
                   have A71 := Aside0.mk A710
                   clear A710
                   obtain rfl := Option.some.inj H
                   try go_wp2
                   have n0_ := Aside0.mk (Kd.R_drew HO_10.1)
                   have n1_ := Aside0.mk (blk_drew BK173.1)
                   have n2_ := Aside0.mk (pe14 HB.1)
                   clear HO_10
                   clear BK173
                   clear HB
                   have HO_10 := n0_
                   have BK173 := n1_
                   have HB := n2_
                   clear n0_ n1_ n2_
                   obtain ⟨Ao73, co73, eo73⟩ := Kd.R_slice HO_10.1
                   (first | subst eo73 | (injection eo73 with f1_ f2_ f3_; have f4_ := f1_.symm; have f5_ := f3_.symm; clear f1_ f2_ f3_; subst f4_; subst f5_))
                   have p184 : 0 ≤ ((ji58) : Int) := of_decide_eq_true (by first | (with_reducible assumption) | assumption)
                   have q184 : (ji58) < (t179.length : Int) := of_decide_eq_true (by first | (with_reducible assumption) | assumption)
                   (try (obtain ⟨A_s, c_s, e_s⟩ := Kd.R_slice HO_10.1; subst e_s))
                   obtain ⟨ad184, e184, hx184_0⟩ := Kd.at_int (Kd.R_reads' HO_10.1).2.2 (ji58) p184 q184
                   cases e184
                   replace p184 := eq_true p184
                   replace q184 := eq_true q184
                   refine start_ (n := 12) (S := fun w' => w'.cell? ⟨gb173, 0, none⟩ = some (.int .i64 x174000_1) ∧ w'.cell? ⟨gb173, 1, none⟩ = some (.int .u64 x174001_1) ∧ w'.cell? (ad184.add ((ji58)).toNat) = some (.int .i64 (rd t179 (ji58)))) (ds := []) (bA14 12 0) (by kernel_rfl) rfl rfl ⟨(blk_cell BK173.1 0).trans rfl, (blk_cell BK173.1 1).trans rfl, hx184_0⟩ (fun hHeld => ?_); refine with_tabW godwitlaw15_SeqsMissing.tab23 godwitlaw15_SeqsMissing.bits23 (fun HT_ HW_ => ?_)
                   generalize wc.drew = w72 at HO_10 BK173 HB hx184_0 hHeld ⊢
                   refine pure_ (i := 1) (N := some 99) (v := ?_) (a' := ?_) (bA14 12 2) rfl rfl (any_of HT_.1 (by kernel_rfl)) (fun _ _ _ h => h) (Or.inl ⟨by rfl, ?_⟩) ?_ ?_
                   rotate_left; (focus intro w'; go_simp; with_reducible rfl); rotate_left; focus (simp only [Act.put, sI14, sZ14, sS14, i64_w, i32_w] <;> rfl)
                   refine pure_ (i := 2) (N := some 100) (v := ?_) (a' := ?_) (bA14 12 6) rfl rfl (any_of HT_.1 (by kernel_rfl)) (fun _ _ _ h => h) (Or.inl ⟨by rfl, ?_⟩) ?_ ?_
                   rotate_left; (focus intro w'; go_simp; with_reducible rfl); rotate_left; focus (simp only [Act.put, sI14, sZ14, sS14, i64_w, i32_w] <;> rfl)
                   refine pure_ (i := 3) (N := some 101) (v := ?_) (a' := ?_) (bA14 12 14) rfl rfl (any_of HT_.1 (by kernel_rfl)) (fun _ _ _ h => h) (Or.inl ⟨by rfl, ?_⟩) ?_ ?_
                   rotate_left; (focus intro w'; go_simp; with_reducible rfl); rotate_left; focus (simp only [Act.put, sI14, sZ14, sS14, i64_w, i32_w] <;> rfl)
                   refine take_ (i := 0) (N := some 98) (v := ?_) (a' := ?_) (bA14 12 15) rfl rfl (take_ofW HT_.1 HW_.1 (by kernel_rfl)) (fun _ _ _ h => h) (Or.inl ⟨by rfl, ?_⟩) hHeld ?_ ?_
                   rotate_left
                   ·rintro w' ⟨s0, s1, s2⟩
                    go_simp
                    with_reducible rfl
                   rotate_left
                   ·simp only [Act.put, sI14, sZ14, sS14, i64_w, i32_w]
                    rfl
                   refine take_ (i := 4) (N := some 102) (v := ?_) (a' := ?_) (bA14 12 31) rfl rfl (take_ofW HT_.1 HW_.1 (by kernel_rfl)) (fun _ _ _ h => h) (Or.inl ⟨by rfl, ?_⟩) hHeld ?_ ?_
                   rotate_left
                   ·rintro w' ⟨s0, s1, s2⟩
                    go_simp
                    with_reducible rfl
                   rotate_left
                   ·simp only [Act.put, sI14, sZ14, sS14, i64_w, i32_w]
                    rfl
                   refine join_ (σ := Nat) 2 (bA14 12 1023) (fun s_ => [(103, .tuple #[.agg #[.int .i64 t185, .int .u64 t186], .int .i64 t187]), (14, .pointer (some ⟨s_, 0, none⟩)), (97, .tuple #[.agg #[.int .i64 t185, .int .u64 t186], .int .i64 t187]), (104, .agg #[.int .i64 t185, .int .u64 t186]), (105, .int .i64 t187)]) (fun s_ w' => (w'.cell? ⟨gb173, 0, none⟩ = some (.int .i64 x174000_1) ∧ w'.cell? ⟨gb173, 1, none⟩ = some (.int .u64 x174001_1) ∧ w'.cell? (ad184.add ((ji58)).toNat) = some (.int .i64 (rd t179 (ji58)))) ∧ (Kd.R (Kd.int .i64) 3 w' w.heap.size (fun _ => True) (.slice (some ad184) t179.length co73) t179) ∧ (w'.heap[gb173]? = some (.cells #[.int .i64 x174000_1, .int .u64 x174001_1] 26 (0, 0))) ∧ (w'.heap[s_]? = some (.cells #[.int .i64 0, .int .u64 0] 26 (0, 0))) ∧ (w.heap.size ≤ s_) ∧ (w.heap.size ≤ s_) ∧ (gb173 ≠ s_) ∧ (s_ ≠ gb173) ∧ (Below w.heap.size w w')) ?_ ?_
                   rotate_left
                   ·intro hCont
                    refine two_ (i := 5) (j := 9) (Ni := some 103) (Nj := some 14) (bA14 12 63) (bA14 12 543) rfl rfl rfl rfl (two_of HT_.1 (by kernel_rfl)) (by decide) (by decide) (fun K hK => ?_) (fun K hK => ?_)
                    ·skip
                     refine goes_ Tryd.func10 (by kernel_rfl) rfl #[.agg #[.int .i64 x174000_1, .int .u64 x174001_1], .int .i64 (rd t179 (ji58))] (by rfl) rfl rfl (by (try simp only [List.map_toArray, List.map_cons, List.map_nil]); first | done | (simp only [hji58]; rfl) | rfl | (simp only [List.length_drop, List.length_take]; rfl)) ?_
                     with_reducible refine (seqs_Accept.calls x174000_1 x174001_1 (rd t179 (ji58)) t185 t186 t187 _ ?side1 A61.1).mono ?_
                     (case side1 => exact LaidT.below HLD.1 (by repeat (first | (with_reducible first | exact HB.1 | apply pa14 | apply pd14 | apply pe14 | refine below_set ?_ GE173.1) | exact HB.1)))
                     rintro e w74 ⟨rfl, hb⟩
                     have HS2_ := (hb.cell (pl14 _ _ (hHeld.2.2))).trans (hHeld.2.2)
                     refine ⟨_, rfl, ?_⟩
                     have n0_ := Aside0.mk (Kd.R_below (by (with_reducible repeat (first | apply Kd.R_alloc | apply Kd.R_drewN | apply Kd.R_drew)); exact HO_10.1) hb)
                     have n1_ := Aside0.mk (blk_below (g := gb173) (o := .cells #[.int .i64 x174000_1, .int .u64 x174001_1] 26 (0, 0)) (by (with_reducible repeat (first | refine blk_drewN ?_ _ | refine blk_drew ?_ | refine blk_alloc ?_ _)); exact BK173.1) hb)
                     have n2_ := Aside0.mk (below_step (by repeat (first | (with_reducible first | exact HB.1 | apply pa14 | apply pd14 | apply pe14 | refine below_set ?_ GE173.1) | exact HB.1)) hb)
                     clear HO_10
                     clear BK173
                     clear HB
                     have HO_10 := n0_
                     have BK173 := n1_
                     have HB := n2_
                     clear n0_ n1_ n2_
                     (try clear hb)
                     (try clear hb2)
                     (try clear hk)
                     (try clear hi)
                     refine hK.out _ _ ⟨(blk_cell BK173.1 0).trans rfl, (blk_cell BK173.1 1).trans rfl, HS2_⟩ (fun hHeld => ?_)
                     clear hK K
                     refine norm_ (a' := ?_) ?_ ?_
                     rotate_left
                     ·show Act.put _ (some 103) _ = _
                      simp only [Act.put, sI14, sZ14, sS14, i64_w, i32_w]
                      rfl
                     refine pure_ (i := 6) (N := some 97) (v := ?_) (a' := ?_) (bA14 12 127) rfl rfl (any_of HT_.1 (by kernel_rfl)) (fun _ _ _ h => h) (Or.inl ⟨by rfl, ?_⟩) ?_ ?_
                     rotate_left; (focus intro w'; go_simp; with_reducible rfl); rotate_left; focus (simp only [Act.put, sI14, sZ14, sS14, i64_w, i32_w] <;> rfl)
                     refine pure_ (i := 7) (N := some 104) (v := ?_) (a' := ?_) (bA14 12 255) rfl rfl (any_of HT_.1 (by kernel_rfl)) (fun _ _ _ h => h) (Or.inl ⟨by rfl, ?_⟩) ?_ ?_
                     rotate_left; (focus intro w'; go_simp; with_reducible rfl); rotate_left; focus (simp only [Act.put, sI14, sZ14, sS14, i64_w, i32_w] <;> rfl)
                     refine pure_ (i := 8) (N := some 105) (v := ?_) (a' := ?_) (bA14 12 511) rfl rfl (any_of HT_.1 (by kernel_rfl)) (fun _ _ _ h => h) (Or.inl ⟨by rfl, ?_⟩) ?_ ?_
                     rotate_left; (focus intro w'; go_simp; with_reducible rfl); rotate_left; focus (simp only [Act.put, sI14, sZ14, sS14, i64_w, i32_w] <;> rfl)
                     refine one_ (i := 9) (N := some 14) (bA14 12 1023) rfl rfl (one_of HT_.1 (by kernel_rfl)) (by decide) (fun K hK => ?_)
                     refine box_step ?hg (N := 14) ?hd (cs := #[.int .i64 0, .int .u64 0]) (t := 26) ?hr ?_; (case hd => rfl); (case hg => rfl); (case hr => first | (go_simp; done) | (go_simp; rfl))
                     intro gb188 hg w75 hbox hb
                     have HS2_ := (hb.cell (pl14 _ _ (hHeld.2.2))).trans (hHeld.2.2)
                     have n0_ := Aside0.mk (Kd.R_below (by (with_reducible repeat (first | apply Kd.R_alloc | apply Kd.R_drewN | apply Kd.R_drew)); exact HO_10.1) hb)
                     have n1_ := Aside0.mk (blk_below (g := gb173) (o := .cells #[.int .i64 x174000_1, .int .u64 x174001_1] 26 (0, 0)) (by (with_reducible repeat (first | refine blk_drewN ?_ _ | refine blk_drew ?_ | refine blk_alloc ?_ _)); exact BK173.1) hb)
                     have n2_ := Aside0.mk (below_step (by repeat (first | (with_reducible first | exact HB.1 | apply pa14 | apply pd14 | apply pe14 | refine below_set ?_ GE173.1) | exact HB.1)) hb)
                     have n3_ := Aside0.mk (hbox)
                     have n4_ := Aside0.mk ((by rw [hg]; exact (below_size (by repeat (first | (with_reducible first | exact HB.1 | apply pa14 | apply pd14 | apply pe14 | refine below_set ?_ GE173.1) | exact HB.1))) : w.heap.size ≤ gb188))
                     have n5_ := Aside0.mk ((by rw [hg]; exact (below_size (by repeat (first | (with_reducible first | exact HB.1 | apply pa14 | apply pd14 | apply pe14 | refine below_set ?_ GE173.1) | exact HB.1))) : w.heap.size ≤ gb188))
                     have n6_ := Aside0.mk ((by rw [hg]; exact Nat.ne_of_lt (blk_lt (g := gb173) (o := .cells #[.int .i64 x174000_1, .int .u64 x174001_1] 26 (0, 0)) (by (with_reducible repeat (first | refine blk_drewN ?_ _ | refine blk_drew ?_ | refine blk_alloc ?_ _)); exact BK173.1)) : gb173 ≠ gb188))
                     have n7_ := Aside0.mk ((by rw [hg]; exact Nat.ne_of_gt (blk_lt (g := gb173) (o := .cells #[.int .i64 x174000_1, .int .u64 x174001_1] 26 (0, 0)) (by (with_reducible repeat (first | refine blk_drewN ?_ _ | refine blk_drew ?_ | refine blk_alloc ?_ _)); exact BK173.1)) : gb188 ≠ gb173))
                     clear HO_10
                     clear BK173
                     clear HB
                     have HO_10 := n0_
                     have BK173 := n1_
                     have HB := n2_
                     have BK188 := n3_
                     have GW188 := n4_
                     have GE188 := n5_
                     have NB173_188 := n6_
                     have NB188_173 := n7_
                     clear n0_ n1_ n2_ n3_ n4_ n5_ n6_ n7_
                     clear hb hbox hg
                     refine hK.out _ _ ⟨(blk_cell BK173.1 0).trans rfl, (blk_cell BK173.1 1).trans rfl, HS2_⟩ (fun hHeld => ?_)
                     clear hK K
                     refine norm_ (a' := ?_) ?_ ?_
                     rotate_left
                     ·show Act.put _ (some 14) _ = _
                      simp only [Act.put, sI14, sZ14, sS14, i64_w, i32_w]
                      rfl
                     exact norm_ (by simp only [putAll, Act.put, sI14, sZ14, sS14]) (hCont (gb188) _ ⟨hHeld, (by (with_reducible repeat (first | apply Kd.R_alloc | apply Kd.R_drewN | apply Kd.R_drew)); exact HO_10.1), (by (with_reducible repeat (first | refine blk_drewN ?_ _ | refine blk_drew ?_ | refine blk_alloc ?_ _)); exact BK173.1), (by (with_reducible repeat (first | refine blk_drewN ?_ _ | refine blk_drew ?_ | refine blk_alloc ?_ _)); exact BK188.1), GW188.1, GE188.1, NB173_188.1, NB188_173.1, (by repeat (first | (with_reducible first | exact HB.1 | apply pa14 | apply pd14 | apply pe14 | refine below_set ?_ GE173.1 | refine below_set ?_ GE188.1) | exact HB.1))⟩)
                    ·skip
                     refine box_step ?hg (N := 14) ?hd (cs := #[.int .i64 0, .int .u64 0]) (t := 26) ?hr ?_; (case hd => rfl); (case hg => rfl); (case hr => first | (go_simp; done) | (go_simp; rfl))
                     intro gb188 hg w74 hbox hb
                     have HS2_ := (hb.cell (pl14 _ _ (hHeld.2.2))).trans (hHeld.2.2)
                     have n0_ := Aside0.mk (Kd.R_below (by (with_reducible repeat (first | apply Kd.R_alloc | apply Kd.R_drewN | apply Kd.R_drew)); exact HO_10.1) hb)
                     have n1_ := Aside0.mk (blk_below (g := gb173) (o := .cells #[.int .i64 x174000_1, .int .u64 x174001_1] 26 (0, 0)) (by (with_reducible repeat (first | refine blk_drewN ?_ _ | refine blk_drew ?_ | refine blk_alloc ?_ _)); exact BK173.1) hb)
                     have n2_ := Aside0.mk (below_step (by repeat (first | (with_reducible first | exact HB.1 | apply pa14 | apply pd14 | apply pe14 | refine below_set ?_ GE173.1) | exact HB.1)) hb)
                     have n3_ := Aside0.mk (hbox)
                     have n4_ := Aside0.mk ((by rw [hg]; exact (below_size (by repeat (first | (with_reducible first | exact HB.1 | apply pa14 | apply pd14 | apply pe14 | refine below_set ?_ GE173.1) | exact HB.1))) : w.heap.size ≤ gb188))
                     have n5_ := Aside0.mk ((by rw [hg]; exact (below_size (by repeat (first | (with_reducible first | exact HB.1 | apply pa14 | apply pd14 | apply pe14 | refine below_set ?_ GE173.1) | exact HB.1))) : w.heap.size ≤ gb188))
                     have n6_ := Aside0.mk ((by rw [hg]; exact Nat.ne_of_lt (blk_lt (g := gb173) (o := .cells #[.int .i64 x174000_1, .int .u64 x174001_1] 26 (0, 0)) (by (with_reducible repeat (first | refine blk_drewN ?_ _ | refine blk_drew ?_ | refine blk_alloc ?_ _)); exact BK173.1)) : gb173 ≠ gb188))
                     have n7_ := Aside0.mk ((by rw [hg]; exact Nat.ne_of_gt (blk_lt (g := gb173) (o := .cells #[.int .i64 x174000_1, .int .u64 x174001_1] 26 (0, 0)) (by (with_reducible repeat (first | refine blk_drewN ?_ _ | refine blk_drew ?_ | refine blk_alloc ?_ _)); exact BK173.1)) : gb188 ≠ gb173))
                     clear HO_10
                     clear BK173
                     clear HB
                     have HO_10 := n0_
                     have BK173 := n1_
                     have HB := n2_
                     have BK188 := n3_
                     have GW188 := n4_
                     have GE188 := n5_
                     have NB173_188 := n6_
                     have NB188_173 := n7_
                     clear n0_ n1_ n2_ n3_ n4_ n5_ n6_ n7_
                     clear hb hbox hg
                     refine hK.out _ _ ⟨(blk_cell BK173.1 0).trans rfl, (blk_cell BK173.1 1).trans rfl, HS2_⟩ (fun hHeld => ?_)
                     clear hK K
                     refine norm_ (a' := ?_) ?_ ?_
                     rotate_left
                     ·show Act.put _ (some 14) _ = _
                      simp only [Act.put, sI14, sZ14, sS14, i64_w, i32_w]
                      rfl
                     refine one_ (i := 5) (N := some 103) (bA14 12 575) rfl rfl (one_of HT_.1 (by kernel_rfl)) (by decide) (fun K hK => ?_)
                     refine goes_ Tryd.func10 (by kernel_rfl) rfl #[.agg #[.int .i64 x174000_1, .int .u64 x174001_1], .int .i64 (rd t179 (ji58))] (by rfl) rfl rfl (by (try simp only [List.map_toArray, List.map_cons, List.map_nil]); first | done | (simp only [hji58]; rfl) | rfl | (simp only [List.length_drop, List.length_take]; rfl)) ?_
                     with_reducible refine (seqs_Accept.calls x174000_1 x174001_1 (rd t179 (ji58)) t185 t186 t187 _ ?side1 A61.1).mono ?_
                     (case side1 => exact LaidT.below HLD.1 (by repeat (first | (with_reducible first | exact HB.1 | apply pa14 | apply pd14 | apply pe14 | refine below_set ?_ GE173.1 | refine below_set ?_ GE188.1) | exact HB.1)))
                     rintro e w75 ⟨rfl, hb⟩
                     have HS2_ := (hb.cell (pl14 _ _ (hHeld.2.2))).trans (hHeld.2.2)
                     refine ⟨_, rfl, ?_⟩
                     have n0_ := Aside0.mk (Kd.R_below (by (with_reducible repeat (first | apply Kd.R_alloc | apply Kd.R_drewN | apply Kd.R_drew)); exact HO_10.1) hb)
                     have n1_ := Aside0.mk (blk_below (g := gb173) (o := .cells #[.int .i64 x174000_1, .int .u64 x174001_1] 26 (0, 0)) (by (with_reducible repeat (first | refine blk_drewN ?_ _ | refine blk_drew ?_ | refine blk_alloc ?_ _)); exact BK173.1) hb)
                     have n2_ := Aside0.mk (blk_below (g := gb188) (o := .cells #[.int .i64 0, .int .u64 0] 26 (0, 0)) (by (with_reducible repeat (first | refine blk_drewN ?_ _ | refine blk_drew ?_ | refine blk_alloc ?_ _)); exact BK188.1) hb)
                     have n3_ := Aside0.mk (below_step (by repeat (first | (with_reducible first | exact HB.1 | apply pa14 | apply pd14 | apply pe14 | refine below_set ?_ GE173.1 | refine below_set ?_ GE188.1) | exact HB.1)) hb)
                     clear HO_10
                     clear BK173
                     clear BK188
                     clear HB
                     have HO_10 := n0_
                     have BK173 := n1_
                     have BK188 := n2_
                     have HB := n3_
                     clear n0_ n1_ n2_ n3_
                     (try clear hb)
                     (try clear hb2)
                     (try clear hk)
                     (try clear hi)
                     refine hK.out _ _ ⟨(blk_cell BK173.1 0).trans rfl, (blk_cell BK173.1 1).trans rfl, HS2_⟩ (fun hHeld => ?_)
                     clear hK K
                     refine norm_ (a' := ?_) ?_ ?_
                     rotate_left
                     ·show Act.put _ (some 103) _ = _
                      simp only [Act.put, sI14, sZ14, sS14, i64_w, i32_w]
                      rfl
                     refine pure_ (i := 6) (N := some 97) (v := ?_) (a' := ?_) (bA14 12 639) rfl rfl (any_of HT_.1 (by kernel_rfl)) (fun _ _ _ h => h) (Or.inl ⟨by rfl, ?_⟩) ?_ ?_
                     rotate_left; (focus intro w'; go_simp; with_reducible rfl); rotate_left; focus (simp only [Act.put, sI14, sZ14, sS14, i64_w, i32_w] <;> rfl)
                     refine pure_ (i := 7) (N := some 104) (v := ?_) (a' := ?_) (bA14 12 767) rfl rfl (any_of HT_.1 (by kernel_rfl)) (fun _ _ _ h => h) (Or.inl ⟨by rfl, ?_⟩) ?_ ?_
                     rotate_left; (focus intro w'; go_simp; with_reducible rfl); rotate_left; focus (simp only [Act.put, sI14, sZ14, sS14, i64_w, i32_w] <;> rfl)
                     refine pure_ (i := 8) (N := some 105) (v := ?_) (a' := ?_) (bA14 12 1023) rfl rfl (any_of HT_.1 (by kernel_rfl)) (fun _ _ _ h => h) (Or.inl ⟨by rfl, ?_⟩) ?_ ?_
                     rotate_left; (focus intro w'; go_simp; with_reducible rfl); rotate_left; focus (simp only [Act.put, sI14, sZ14, sS14, i64_w, i32_w] <;> rfl)
                     exact norm_ (by simp only [putAll, Act.put, sI14, sZ14, sS14]) (hCont (gb188) _ ⟨hHeld, (by (with_reducible repeat (first | apply Kd.R_alloc | apply Kd.R_drewN | apply Kd.R_drew)); exact HO_10.1), (by (with_reducible repeat (first | refine blk_drewN ?_ _ | refine blk_drew ?_ | refine blk_alloc ?_ _)); exact BK173.1), (by (with_reducible repeat (first | refine blk_drewN ?_ _ | refine blk_drew ?_ | refine blk_alloc ?_ _)); exact BK188.1), GW188.1, GE188.1, NB173_188.1, NB188_173.1, (by repeat (first | (with_reducible first | exact HB.1 | apply pa14 | apply pd14 | apply pe14 | refine below_set ?_ GE173.1 | refine below_set ?_ GE188.1) | exact HB.1))⟩)
                   rintro gb188 w76 ⟨hS_, h0_, h1_, h2_, h3_, h4_, h5_, h6_, h7_⟩
                   have n0_ : Aside0 (Kd.R (Kd.int .i64) 3 w76 w.heap.size (fun _ => True) (.slice (some ad184) t179.length co73) t179) := ⟨h0_⟩
                   have n1_ : Aside0 (w76.heap[gb173]? = some (.cells #[.int .i64 x174000_1, .int .u64 x174001_1] 26 (0, 0))) := ⟨h1_⟩
                   have n2_ : Aside0 (w76.heap[gb188]? = some (.cells #[.int .i64 0, .int .u64 0] 26 (0, 0))) := ⟨h2_⟩
                   have n3_ : Aside0 (w.heap.size ≤ gb188) := ⟨h3_⟩
                   have n4_ : Aside0 (w.heap.size ≤ gb188) := ⟨h4_⟩
                   have n5_ : Aside0 (gb173 ≠ gb188) := ⟨h5_⟩
                   have n6_ : Aside0 (gb188 ≠ gb173) := ⟨h6_⟩
                   have n7_ : Aside0 (Below w.heap.size w w76) := ⟨h7_⟩
                   clear HO_10
                   clear BK173
                   clear HB
                   clear h0_ h1_ h2_ h3_ h4_ h5_ h6_ h7_
                   have HO_10 := n0_
                   have BK173 := n1_
                   have BK188 := n2_
                   have GW188 := n3_
                   have GE188 := n4_
                   have NB173_188 := n5_
                   have NB188_173 := n6_
                   have HB := n7_
                   clear n0_ n1_ n2_ n3_ n4_ n5_ n6_ n7_
                   have hHeld : w76.cell? ⟨gb173, 0, none⟩ = some (.int .i64 x174000_1) ∧ w76.cell? ⟨gb173, 1, none⟩ = some (.int .u64 x174001_1) ∧ w76.cell? (ad184.add ((ji58)).toNat) = some (.int .i64 (rd t179 (ji58))) := hS_
                   refine norm_ (a' := ?_) ?_ ?_
                   rotate_left
                   ·simp only [putAll, Act.put, sI14, sZ14, sS14]
                    rfl
                   refine one_ (i := 10) (N := none) (bA14 12 2047) rfl rfl (one_of HT_.1 (by kernel_rfl)) (by decide) (fun K hK => ?_)
                   have hs77 : w76.cell? ⟨gb188, 0, none⟩ = some (.int .i64 0) := (blk_cell BK188.1 0).trans rfl
                   have hfs77 := blk_frozen BK188.1 0
                   have hns77_0 := NB173_188.1
                   have hms77_0 := NB188_173.1
                   have hs78 : w76.cell? ⟨gb188, 1, none⟩ = some (.int .u64 0) := (blk_cell BK188.1 1).trans rfl
                   have hfs78 := blk_frozen BK188.1 1
                   have hns78_0 := NB173_188.1
                   have hms78_0 := NB188_173.1
                   refine skip_ (w1 := ?_) (by rfl) rfl ?_ ?_
                   rotate_left
                   ·go_simp
                    rfl
                   refine hK.out _ _ ⟨((cell_far (p := ⟨gb188, _, none⟩) NB173_188.1 _).trans (((cell_far (p := ⟨gb188, _, none⟩) NB173_188.1 _).trans (hHeld.1)))), ((cell_far (p := ⟨gb188, _, none⟩) NB173_188.1 _).trans (((cell_far (p := ⟨gb188, _, none⟩) NB173_188.1 _).trans (hHeld.2.1)))), ((cell_far (p := ⟨gb188, _, none⟩) (by first | exact Kd.own_blk (Kd.R_ne HO_10.1 BK188.1 (by decide)) | (rw [add_block]; exact Kd.own_blk (Kd.R_ne HO_10.1 BK188.1 (by decide))) | (show (Addr.add _ _).block ≠ _; rw [add_block]; exact Kd.own_blk (Kd.R_ne HO_10.1 BK188.1 (by decide))) | (dsimp only; exact Kd.own_blk (Kd.R_ne HO_10.1 BK188.1 (by decide)))) _).trans (((cell_far (p := ⟨gb188, _, none⟩) (by first | exact Kd.own_blk (Kd.R_ne HO_10.1 BK188.1 (by decide)) | (rw [add_block]; exact Kd.own_blk (Kd.R_ne HO_10.1 BK188.1 (by decide))) | (show (Addr.add _ _).block ≠ _; rw [add_block]; exact Kd.own_blk (Kd.R_ne HO_10.1 BK188.1 (by decide))) | (dsimp only; exact Kd.own_blk (Kd.R_ne HO_10.1 BK188.1 (by decide)))) _).trans (hHeld.2.2))))⟩ (fun hHeld => ?_)
                   clear hK K
                   refine pure_ (i := 11) (N := some 15) (v := ?_) (a' := ?_) (bA14 12 4095) rfl rfl (any_of HT_.1 (by kernel_rfl)) (fun _ _ _ h => h) (Or.inl ⟨by rfl, ?_⟩) ?_ ?_
                   rotate_left; (focus intro w'; go_simp; with_reducible rfl); rotate_left; focus (simp only [Act.put, sI14, sZ14, sS14, i64_w, i32_w] <;> rfl)
                   refine done_ (done_of HT_.1 (by kernel_rfl)) ?_
                   have hnb79 := NB188_173.1
                   have hnc79 := NB173_188.1
                   have hcz80_0 : w76.cell? ⟨gb188, 0, none⟩ = some (.int .i64 0) := (blk_cell BK188.1 0).trans rfl
                   have hcz80_1 : w76.cell? ⟨gb188, 1, none⟩ = some (.int .u64 0) := (blk_cell BK188.1 1).trans rfl
                   have hfz80_0 := blk_frozen BK188.1 0
                   have hfz80_1 := blk_frozen BK188.1 1
                   try go_wp2_with (first | ((with_reducible refine gate_callee (f := 12) rfl ?_); refine goesL_ (some 107) rfl rfl Tryd.func12 (by kernel_rfl) rfl #[.agg #[.int .i64 t185, .int .u64 t186], .int .i64 1] rfl (by (try simp only [List.map_toArray, List.map_cons, List.map_nil]); first | done | rfl | (simp only [List.length_drop, List.length_take]; rfl)) ?_; (with_reducible refine (seqs_Missing.calls kj49 t185 t186 1 t189 _ A62.1).mono ?_); rintro e w81 ⟨v190, rfl, ho0, hb⟩; refine ⟨_, rfl, ?_⟩; have n0_ := Aside0.mk (Kd.R_elder' (by (with_reducible repeat (first | apply Kd.R_alloc | apply Kd.R_drewN | apply Kd.R_drew)); exact (Kd.R_mono (Kd.R_far (p := ⟨gb188, 1, none⟩) (Kd.R_far (p := ⟨gb188, 0, none⟩) (Kd.R_types HO_10.1 BK188.1 (by decide)) (fun _ hk => hk.2) (.int .i64 t185)) (fun _ hk => hk.2) (.int .u64 t186)) (fun _ h_ => h_.1))) (Kd.R_base ho0) hb); have n1_ := Aside0.mk (Kd.R_lower (Kd.R_new' ho0 (Kd.R_lt (by (with_reducible repeat (first | apply Kd.R_alloc | apply Kd.R_drewN | apply Kd.R_drew)); exact (Kd.R_mono (Kd.R_far (p := ⟨gb188, 1, none⟩) (Kd.R_far (p := ⟨gb188, 0, none⟩) (Kd.R_types HO_10.1 BK188.1 (by decide)) (fun _ hk => hk.2) (.int .i64 t185)) (fun _ hk => hk.2) (.int .u64 t186)) (fun _ h_ => h_.1))))) (below_size (by repeat (first | (with_reducible first | exact HB.1 | apply pa14 | apply pd14 | apply pe14 | refine below_set ?_ GE173.1 | refine below_set ?_ GE188.1) | exact HB.1)))); have n2_ := Aside0.mk (blk_below (g := gb173) (o := .cells #[.int .i64 x174000_1, .int .u64 x174001_1] 26 (0, 0)) (by (with_reducible repeat (first | refine blk_drewN ?_ _ | refine blk_drew ?_ | refine blk_alloc ?_ _)); refine blk_far ?_ NB173_188.1 _; (with_reducible repeat (first | refine blk_drewN ?_ _ | refine blk_drew ?_ | refine blk_alloc ?_ _)); refine blk_far ?_ NB173_188.1 _; (with_reducible repeat (first | refine blk_drewN ?_ _ | refine blk_drew ?_ | refine blk_alloc ?_ _)); exact BK173.1) hb); have n3_ := Aside0.mk (blk_below (g := gb188) (o := .cells #[.int .i64 t185, .int .u64 t186] 26 (0, 0)) (by (with_reducible repeat (first | refine blk_drewN ?_ _ | refine blk_drew ?_ | refine blk_alloc ?_ _)); refine blk_put (cs := #[.int .i64 t185, .int .u64 0]) ?_ 1 _ rfl; (with_reducible repeat (first | refine blk_drewN ?_ _ | refine blk_drew ?_ | refine blk_alloc ?_ _)); refine blk_put (cs := #[.int .i64 0, .int .u64 0]) ?_ 0 _ rfl; (with_reducible repeat (first | refine blk_drewN ?_ _ | refine blk_drew ?_ | refine blk_alloc ?_ _)); exact BK188.1) hb); have n4_ := Aside0.mk (below_step (by repeat (first | (with_reducible first | exact HB.1 | apply pa14 | apply pd14 | apply pe14 | refine below_set ?_ GE173.1 | refine below_set ?_ GE188.1) | exact HB.1)) hb); clear HO_10; clear BK173; clear BK188; clear HB; have HO_10 := n0_; have HO191 := n1_; have BK173 := n2_; have BK188 := n3_; have HB := n4_; clear n0_ n1_ n2_ n3_ n4_; (try clear hb); (try clear hb2); (try clear hk); (try clear hi); (try clear ho0)))
                   have n0_ := Aside0.mk (Kd.R_drew HO_10.1)
                   have n1_ := Aside0.mk (Kd.R_drew HO191.1)
                   have n2_ := Aside0.mk (blk_drew BK173.1)
                   have n3_ := Aside0.mk (blk_drew BK188.1)
                   have n4_ := Aside0.mk (pe14 HB.1)
                   clear HO_10
                   clear HO191
                   clear BK173
                   clear BK188
                   clear HB
                   have HO_10 := n0_
                   have HO191 := n1_
                   have BK173 := n2_
                   have BK188 := n3_
                   have HB := n4_
                   clear n0_ n1_ n2_ n3_ n4_
                   have p192 : 0 ≤ ((ji58) : Int) := of_decide_eq_true (by first | (with_reducible assumption) | assumption)
                   have q192 : (ji58) < (t179.length : Int) := of_decide_eq_true (by first | (with_reducible assumption) | assumption)
                   obtain ⟨ad192, e192, hx192_0⟩ := Kd.at_int (Kd.R_reads' HO_10.1).2.2 (ji58) p192 q192
                   obtain rfl : ad184 = ad192 := (by injection e192)
                   replace p192 := eq_true p192
                   replace q192 := eq_true q192
                   have p194 : 0 ≤ ((ji58) : Int) := of_decide_eq_true (by first | (with_reducible assumption) | assumption)
                   have q194 : (ji58) < (t179.length : Int) := of_decide_eq_true (by first | (with_reducible assumption) | assumption)
                   obtain ⟨ad194, e194, hx194_0⟩ := Kd.at_int (Kd.R_reads' HO_10.1).2.2 (ji58) p194 q194
                   obtain rfl : ad184 = ad194 := (by injection e194)
                   replace p194 := eq_true p194
                   replace q194 := eq_true q194
                   refine start_ (n := 46) (S := fun w' => w'.cell? ⟨gb188, 0, none⟩ = some (.int .i64 t185) ∧ w'.cell? ⟨gb188, 1, none⟩ = some (.int .u64 t186) ∧ w'.cell? ⟨gb173, 0, none⟩ = some (.int .i64 x174000_1) ∧ w'.cell? ⟨gb173, 1, none⟩ = some (.int .u64 x174001_1) ∧ w'.cell? (ad184.add ((ji58)).toNat) = some (.int .i64 (rd t179 (ji58))) ∧ w'.cell? (ad184.add ((ji58)).toNat) = some (.int .i64 (rd t179 (ji58)))) (ds := []) (bA14 46 0) (by kernel_rfl) rfl rfl ⟨(blk_cell BK188.1 0).trans rfl, (blk_cell BK188.1 1).trans rfl, (blk_cell BK173.1 0).trans rfl, (blk_cell BK173.1 1).trans rfl, hx192_0, hx194_0⟩ (fun hHeld => ?_); refine with_tabW godwitlaw15_SeqsMissing.tab25 godwitlaw15_SeqsMissing.bits25 (fun HT_ HW_ => ?_)
                   generalize w81.drew = w82 at HO_10 HO191 BK173 BK188 HB hx192_0 hx194_0 hHeld ⊢
                   refine pure_ (i := 0) (N := some 108) (v := ?_) (a' := ?_) (bA14 46 1) rfl rfl (any_of HT_.1 (by kernel_rfl)) (fun _ _ _ h => h) (Or.inl ⟨by rfl, ?_⟩) ?_ ?_
                   rotate_left; (focus intro w'; go_simp; with_reducible rfl); rotate_left; focus (simp only [Act.put, sI14, sZ14, sS14, i64_w, i32_w] <;> rfl)
                   refine pure_ (i := 1) (N := some 109) (v := ?_) (a' := ?_) (bA14 46 3) rfl rfl (any_of HT_.1 (by kernel_rfl)) (fun _ _ _ h => h) (Or.inl ⟨by rfl, ?_⟩) ?_ ?_
                   rotate_left; (focus intro w'; go_simp; with_reducible rfl); rotate_left; focus (simp only [Act.put, sI14, sZ14, sS14, i64_w, i32_w] <;> rfl)
                   refine pure_ (i := 2) (N := some 110) (v := ?_) (a' := ?_) (bA14 46 7) rfl rfl (any_of HT_.1 (by kernel_rfl)) (fun _ _ _ h => h) (Or.inl ⟨by rfl, ?_⟩) ?_ ?_
                   rotate_left; (focus intro w'; go_simp; with_reducible rfl); rotate_left; focus (simp only [Act.put, sI14, sZ14, sS14, i64_w, i32_w] <;> rfl)
                   refine pure_ (i := 3) (N := some 111) (v := ?_) (a' := ?_) (bA14 46 15) rfl rfl (any_of HT_.1 (by kernel_rfl)) (fun _ _ _ h => h) (Or.inl ⟨by rfl, ?_⟩) ?_ ?_
                   rotate_left; (focus intro w'; go_simp; with_reducible rfl); rotate_left; focus (simp only [Act.put, sI14, sZ14, sS14, i64_w, i32_w] <;> rfl)
                   refine pure_ (i := 4) (N := some 112) (v := ?_) (a' := ?_) (bA14 46 31) rfl rfl (any_of HT_.1 (by kernel_rfl)) (fun _ _ _ h => h) (Or.inl ⟨by rfl, ?_⟩) ?_ ?_
                   rotate_left; (focus intro w'; go_simp; with_reducible rfl); rotate_left; focus (simp only [Act.put, sI14, sZ14, sS14, i64_w, i32_w] <;> rfl)
                   refine pure_ (i := 5) (N := some 113) (v := ?_) (a' := ?_) (bA14 46 63) rfl rfl (any_of HT_.1 (by kernel_rfl)) (fun _ _ _ h => h) (Or.inl ⟨by rfl, ?_⟩) ?_ ?_
                   rotate_left; (focus intro w'; go_simp; with_reducible rfl); rotate_left; focus (simp only [Act.put, sI14, sZ14, sS14, i64_w, i32_w] <;> rfl)
                   refine pure_ (i := 7) (N := some 115) (v := ?_) (a' := ?_) (bA14 46 191) rfl rfl (any_of HT_.1 (by kernel_rfl)) (fun _ _ _ h => h) (Or.inl ⟨by rfl, ?_⟩) ?_ ?_
                   rotate_left; (focus intro w'; go_simp; with_reducible rfl); rotate_left; focus (simp only [Act.put, sI14, sZ14, sS14, i64_w, i32_w] <;> rfl)
                   refine pure_ (i := 8) (N := some 116) (v := ?_) (a' := ?_) (bA14 46 447) rfl rfl (any_of HT_.1 (by kernel_rfl)) (fun _ _ _ h => h) (Or.inl ⟨by rfl, ?_⟩) ?_ ?_
                   rotate_left; (focus intro w'; go_simp; with_reducible rfl); rotate_left; focus (simp only [Act.put, sI14, sZ14, sS14, i64_w, i32_w] <;> rfl)
                   refine pure_ (i := 9) (N := some 117) (v := ?_) (a' := ?_) (bA14 46 959) rfl rfl (any_of HT_.1 (by kernel_rfl)) (fun _ _ _ h => h) (Or.inl ⟨by rfl, ?_⟩) ?_ ?_
                   rotate_left; (focus intro w'; go_simp; with_reducible rfl); rotate_left; focus (simp only [Act.put, sI14, sZ14, sS14, i64_w, i32_w] <;> rfl)
                   refine take_ (i := 6) (N := some 114) (v := ?_) (a' := ?_) (bA14 46 1023) rfl rfl (take_ofW HT_.1 HW_.1 (by kernel_rfl)) (fun _ _ _ h => h) (Or.inl ⟨by rfl, ?_⟩) hHeld ?_ ?_
                   rotate_left
                   ·rintro w' ⟨s0, s1, s2, s3, s4, s5⟩
                    go_simp
                    with_reducible rfl
                   rotate_left
                   ·simp only [Act.put, sI14, sZ14, sS14, i64_w, i32_w]
                    rfl
                   refine take_ (i := 10) (N := some 118) (v := ?_) (a' := ?_) (bA14 46 2047) rfl rfl (take_ofW HT_.1 HW_.1 (by kernel_rfl)) (fun _ _ _ h => h) (Or.inl ⟨by rfl, ?_⟩) hHeld ?_ ?_
                   rotate_left
                   ·rintro w' ⟨s0, s1, s2, s3, s4, s5⟩
                    go_simp
                    with_reducible rfl
                   rotate_left
                   ·simp only [Act.put, sI14, sZ14, sS14, i64_w, i32_w]
                    rfl
                   refine one_ (i := 11) (N := some 119) (bA14 46 4095) rfl rfl (one_of HT_.1 (by kernel_rfl)) (by decide) (fun K hK => ?_)
                   refine goes_ Tryd.func9 (by kernel_rfl) rfl #[.agg #[.int .i64 t185, .int .u64 t186], .int .i64 (rd t179 (ji58))] (by rfl) rfl rfl (by (try simp only [List.map_toArray, List.map_cons, List.map_nil]); first | done | (simp only [hji58]; rfl) | rfl | (simp only [List.length_drop, List.length_take]; rfl)) ?_
                   with_reducible refine (seqs_Seen.calls t185 t186 (rd t179 (ji58)) true _ A65.1).mono ?_
                   rintro e w83 ⟨rfl, hb⟩
                   have HS4_ := (hb.cell (pl14 _ _ (hHeld.2.2.2.2.1))).trans (hHeld.2.2.2.2.1)
                   have HS5_ := (hb.cell (pl14 _ _ (hHeld.2.2.2.2.2))).trans (hHeld.2.2.2.2.2)
                   refine ⟨_, rfl, ?_⟩
                   have n0_ := Aside0.mk (Kd.R_below (by (with_reducible repeat (first | apply Kd.R_alloc | apply Kd.R_drewN | apply Kd.R_drew)); exact HO_10.1) hb)
                   have n1_ := Aside0.mk (Kd.R_below (by (with_reducible repeat (first | apply Kd.R_alloc | apply Kd.R_drewN | apply Kd.R_drew)); exact HO191.1) hb)
                   have n2_ := Aside0.mk (blk_below (g := gb173) (o := .cells #[.int .i64 x174000_1, .int .u64 x174001_1] 26 (0, 0)) (by (with_reducible repeat (first | refine blk_drewN ?_ _ | refine blk_drew ?_ | refine blk_alloc ?_ _)); exact BK173.1) hb)
                   have n3_ := Aside0.mk (blk_below (g := gb188) (o := .cells #[.int .i64 t185, .int .u64 t186] 26 (0, 0)) (by (with_reducible repeat (first | refine blk_drewN ?_ _ | refine blk_drew ?_ | refine blk_alloc ?_ _)); exact BK188.1) hb)
                   have n4_ := Aside0.mk (below_step (by repeat (first | (with_reducible first | exact HB.1 | apply pa14 | apply pd14 | apply pe14 | refine below_set ?_ GE173.1 | refine below_set ?_ GE188.1) | exact HB.1)) hb)
                   clear HO_10
                   clear HO191
                   clear BK173
                   clear BK188
                   clear HB
                   have HO_10 := n0_
                   have HO191 := n1_
                   have BK173 := n2_
                   have BK188 := n3_
                   have HB := n4_
                   clear n0_ n1_ n2_ n3_ n4_
                   (try clear hb)
                   (try clear hb2)
                   (try clear hk)
                   (try clear hi)
                   refine hK.out _ _ ⟨(blk_cell BK188.1 0).trans rfl, (blk_cell BK188.1 1).trans rfl, (blk_cell BK173.1 0).trans rfl, (blk_cell BK173.1 1).trans rfl, HS4_, HS5_⟩ (fun hHeld => ?_)
                   clear hK K
                   refine norm_ (a' := ?_) ?_ ?_
                   rotate_left
                   ·show Act.put _ (some 119) _ = _
                    simp only [Act.put, sI14, sZ14, sS14, i64_w, i32_w]
                    rfl
                   refine pure_ (i := 12) (N := some 120) (v := ?_) (a' := ?_) (bA14 46 8191) rfl rfl (any_of HT_.1 (by kernel_rfl)) (fun _ _ _ h => h) (Or.inl ⟨by rfl, ?_⟩) ?_ ?_
                   rotate_left; (focus intro w'; go_simp; with_reducible rfl); rotate_left; focus (simp only [Act.put, sI14, sZ14, sS14, i64_w, i32_w] <;> rfl)
                   refine pure_ (i := 13) (N := some 121) (v := ?_) (a' := ?_) (bA14 46 16383) rfl rfl (any_of HT_.1 (by kernel_rfl)) (fun _ _ _ h => h) (Or.inl ⟨by rfl, ?_⟩) ?_ ?_
                   rotate_left; (focus intro w'; go_simp; with_reducible rfl); rotate_left; focus (simp only [Act.put, sI14, sZ14, sS14, i64_w, i32_w] <;> rfl)
                   refine pure_ (i := 15) (N := some 123) (v := ?_) (a' := ?_) (bA14 46 49151) rfl rfl (any_of HT_.1 (by kernel_rfl)) (fun _ _ _ h => h) (Or.inl ⟨by rfl, ?_⟩) ?_ ?_
                   rotate_left; (focus intro w'; go_simp; with_reducible rfl); rotate_left; focus (simp only [Act.put, sI14, sZ14, sS14, i64_w, i32_w] <;> rfl)
                   refine pure_ (i := 16) (N := some 124) (v := ?_) (a' := ?_) (bA14 46 114687) rfl rfl (any_of HT_.1 (by kernel_rfl)) (fun _ _ _ h => h) (Or.inl ⟨by rfl, ?_⟩) ?_ ?_
                   rotate_left; (focus intro w'; go_simp; with_reducible rfl); rotate_left; focus (simp only [Act.put, sI14, sZ14, sS14, i64_w, i32_w] <;> rfl)
                   refine pure_ (i := 17) (N := some 125) (v := ?_) (a' := ?_) (bA14 46 245759) rfl rfl (any_of HT_.1 (by kernel_rfl)) (fun _ _ _ h => h) (Or.inl ⟨by rfl, ?_⟩) ?_ ?_
                   rotate_left; (focus intro w'; go_simp; with_reducible rfl); rotate_left; focus (simp only [Act.put, sI14, sZ14, sS14, i64_w, i32_w] <;> rfl)
                   refine take_ (i := 14) (N := some 122) (v := ?_) (a' := ?_) (bA14 46 262143) rfl rfl (take_ofW HT_.1 HW_.1 (by kernel_rfl)) (fun _ _ _ h => h) (Or.inl ⟨by rfl, ?_⟩) hHeld ?_ ?_
                   rotate_left
                   ·rintro w' ⟨s0, s1, s2, s3, s4, s5⟩
                    go_simp
                    with_reducible rfl
                   rotate_left
                   ·simp only [Act.put, sI14, sZ14, sS14, i64_w, i32_w]
                    rfl
                   refine take_ (i := 18) (N := some 126) (v := ?_) (a' := ?_) (bA14 46 524287) rfl rfl (take_ofW HT_.1 HW_.1 (by kernel_rfl)) (fun _ _ _ h => h) (Or.inl ⟨by rfl, ?_⟩) hHeld ?_ ?_
                   rotate_left
                   ·rintro w' ⟨s0, s1, s2, s3, s4, s5⟩
                    go_simp
                    with_reducible rfl
                   rotate_left
                   ·simp only [Act.put, sI14, sZ14, sS14, i64_w, i32_w]
                    rfl
                   refine one_ (i := 19) (N := some 127) (bA14 46 1048575) rfl rfl (one_of HT_.1 (by kernel_rfl)) (by decide) (fun K hK => ?_)
                   refine goes_ Tryd.func9 (by kernel_rfl) rfl #[.agg #[.int .i64 x174000_1, .int .u64 x174001_1], .int .i64 (rd t179 (ji58))] (by rfl) rfl rfl (by (try simp only [List.map_toArray, List.map_cons, List.map_nil]); first | done | (simp only [hji58]; rfl) | rfl | (simp only [List.length_drop, List.length_take]; rfl)) ?_
                   with_reducible refine (seqs_Seen.calls x174000_1 x174001_1 (rd t179 (ji58)) false _ A67.1).mono ?_
                   rintro e w84 ⟨rfl, hb⟩
                   have HS4_ := (hb.cell (pl14 _ _ (hHeld.2.2.2.2.1))).trans (hHeld.2.2.2.2.1)
                   have HS5_ := (hb.cell (pl14 _ _ (hHeld.2.2.2.2.2))).trans (hHeld.2.2.2.2.2)
                   refine ⟨_, rfl, ?_⟩
                   have n0_ := Aside0.mk (Kd.R_below (by (with_reducible repeat (first | apply Kd.R_alloc | apply Kd.R_drewN | apply Kd.R_drew)); exact HO_10.1) hb)
                   have n1_ := Aside0.mk (Kd.R_below (by (with_reducible repeat (first | apply Kd.R_alloc | apply Kd.R_drewN | apply Kd.R_drew)); exact HO191.1) hb)
                   have n2_ := Aside0.mk (blk_below (g := gb173) (o := .cells #[.int .i64 x174000_1, .int .u64 x174001_1] 26 (0, 0)) (by (with_reducible repeat (first | refine blk_drewN ?_ _ | refine blk_drew ?_ | refine blk_alloc ?_ _)); exact BK173.1) hb)
                   have n3_ := Aside0.mk (blk_below (g := gb188) (o := .cells #[.int .i64 t185, .int .u64 t186] 26 (0, 0)) (by (with_reducible repeat (first | refine blk_drewN ?_ _ | refine blk_drew ?_ | refine blk_alloc ?_ _)); exact BK188.1) hb)
                   have n4_ := Aside0.mk (below_step (by repeat (first | (with_reducible first | exact HB.1 | apply pa14 | apply pd14 | apply pe14 | refine below_set ?_ GE173.1 | refine below_set ?_ GE188.1) | exact HB.1)) hb)
                   clear HO_10
                   clear HO191
                   clear BK173
                   clear BK188
                   clear HB
                   have HO_10 := n0_
                   have HO191 := n1_
                   have BK173 := n2_
                   have BK188 := n3_
                   have HB := n4_
                   clear n0_ n1_ n2_ n3_ n4_
                   (try clear hb)
                   (try clear hb2)
                   (try clear hk)
                   (try clear hi)
                   refine hK.out _ _ ⟨(blk_cell BK188.1 0).trans rfl, (blk_cell BK188.1 1).trans rfl, (blk_cell BK173.1 0).trans rfl, (blk_cell BK173.1 1).trans rfl, HS4_, HS5_⟩ (fun hHeld => ?_)
                   clear hK K
                   refine norm_ (a' := ?_) ?_ ?_
                   rotate_left
                   ·show Act.put _ (some 127) _ = _
                    simp only [Act.put, sI14, sZ14, sS14, i64_w, i32_w]
                    rfl
                   refine pure_ (i := 20) (N := some 128) (v := ?_) (a' := ?_) (bA14 46 2097151) rfl rfl (any_of HT_.1 (by kernel_rfl)) (fun _ _ _ h => h) (Or.inl ⟨by rfl, ?_⟩) ?_ ?_
                   rotate_left; (focus intro w'; go_simp; with_reducible rfl); rotate_left; focus (simp only [Act.put, sI14, sZ14, sS14, i64_w, i32_w] <;> rfl)
                   refine pure_ (i := 21) (N := some 129) (v := ?_) (a' := ?_) (bA14 46 4194303) rfl rfl (any_of HT_.1 (by kernel_rfl)) (fun _ _ _ h => h) (Or.inl ⟨by rfl, ?_⟩) ?_ ?_
                   rotate_left; (focus intro w'; go_simp; with_reducible rfl); rotate_left; focus (simp only [Act.put, sI14, sZ14, sS14, i64_w, i32_w] <;> rfl)
                   refine pure_ (i := 22) (N := some 130) (v := ?_) (a' := ?_) (bA14 46 8388607) rfl rfl (any_of HT_.1 (by kernel_rfl)) (fun _ _ _ h => h) (Or.inl ⟨by rfl, ?_⟩) ?_ ?_
                   rotate_left; (focus intro w'; go_simp; with_reducible rfl); rotate_left; focus (simp only [Act.put, sI14, sZ14, sS14, i64_w, i32_w] <;> rfl)
                   refine pure_ (i := 23) (N := some 131) (v := ?_) (a' := ?_) (bA14 46 16777215) rfl rfl (any_of HT_.1 (by kernel_rfl)) (fun _ _ _ h => h) (Or.inl ⟨by rfl, ?_⟩) ?_ ?_
                   rotate_left; (focus intro w'; go_simp; with_reducible rfl); rotate_left; focus (simp only [Act.put, sI14, sZ14, sS14, i64_w, i32_w] <;> rfl)
                   refine pure_ (i := 24) (N := some 132) (v := ?_) (a' := ?_) (bA14 46 33554431) rfl rfl (any_of HT_.1 (by kernel_rfl)) (fun _ _ _ h => h) (Or.inl ⟨by rfl, ?_⟩) ?_ ?_
                   rotate_left; (focus intro w'; go_simp; with_reducible rfl); rotate_left; focus (simp only [Act.put, sI14, sZ14, sS14, i64_w, i32_w] <;> rfl)
                   refine pure_ (i := 25) (N := some 133) (v := ?_) (a' := ?_) (bA14 46 67108863) rfl rfl (any_of HT_.1 (by kernel_rfl)) (fun _ _ _ h => h) (Or.inl ⟨by rfl, ?_⟩) ?_ ?_
                   rotate_left; (focus intro w'; go_simp; with_reducible rfl); rotate_left; focus (simp only [Act.put, sI14, sZ14, sS14, i64_w, i32_w] <;> rfl)
                   refine pure_ (i := 26) (N := some 134) (v := undef) (a' := ?_) (bA14 46 134217727) rfl rfl (any_of HT_.1 (by kernel_rfl)) (fun _ _ _ h => h) (Or.inr ⟨by rfl, rfl⟩) ?_ ?_
                   rotate_left
                   ·simp only [Act.put, sI14, sZ14, sS14, i64_w, i32_w]
                    rfl
                   refine pure_ (i := 27) (N := some 135) (v := undef) (a' := ?_) (bA14 46 268435455) rfl rfl (any_of HT_.1 (by kernel_rfl)) (fun _ _ _ h => h) (Or.inr ⟨by rfl, rfl⟩) ?_ ?_
                   rotate_left
                   ·simp only [Act.put, sI14, sZ14, sS14, i64_w, i32_w]
                    rfl
                   refine pure_ (i := 28) (N := some 136) (v := undef) (a' := ?_) (bA14 46 536870911) rfl rfl (any_of HT_.1 (by kernel_rfl)) (fun _ _ _ h => h) (Or.inr ⟨by rfl, rfl⟩) ?_ ?_
                   rotate_left
                   ·simp only [Act.put, sI14, sZ14, sS14, i64_w, i32_w]
                    rfl
                   refine pure_ (i := 29) (N := some 137) (v := ?_) (a' := ?_) (bA14 46 1073741823) rfl rfl (any_of HT_.1 (by kernel_rfl)) (fun _ _ _ h => h) (Or.inl ⟨by rfl, ?_⟩) ?_ ?_
                   rotate_left; (focus intro w'; go_simp; with_reducible rfl); rotate_left; focus (simp only [Act.put, sI14, sZ14, sS14, i64_w, i32_w] <;> rfl)
                   refine pure_ (i := 30) (N := some 138) (v := ?_) (a' := ?_) (bA14 46 2147483647) rfl rfl (any_of HT_.1 (by kernel_rfl)) (fun _ _ _ h => h) (Or.inl ⟨by rfl, ?_⟩) ?_ ?_
                   rotate_left; (focus intro w'; go_simp; with_reducible rfl); rotate_left; focus (simp only [Act.put, sI14, sZ14, sS14, i64_w, i32_w] <;> rfl)
                   refine pure_ (i := 31) (N := some 139) (v := undef) (a' := ?_) (bA14 46 4294967295) rfl rfl (any_of HT_.1 (by kernel_rfl)) (fun _ _ _ h => h) (Or.inr ⟨by rfl, rfl⟩) ?_ ?_
                   rotate_left
                   ·simp only [Act.put, sI14, sZ14, sS14, i64_w, i32_w]
                    rfl
                   refine pure_ (i := 32) (N := some 140) (v := undef) (a' := ?_) (bA14 46 8589934591) rfl rfl (any_of HT_.1 (by kernel_rfl)) (fun _ _ _ h => h) (Or.inr ⟨by rfl, rfl⟩) ?_ ?_
                   rotate_left
                   ·simp only [Act.put, sI14, sZ14, sS14, i64_w, i32_w]
                    rfl
                   refine pure_ (i := 33) (N := some 141) (v := undef) (a' := ?_) (bA14 46 17179869183) rfl rfl (any_of HT_.1 (by kernel_rfl)) (fun _ _ _ h => h) (Or.inr ⟨by rfl, rfl⟩) ?_ ?_
                   rotate_left
                   ·simp only [Act.put, sI14, sZ14, sS14, i64_w, i32_w]
                    rfl
                   refine pure_ (i := 34) (N := some 142) (v := undef) (a' := ?_) (bA14 46 34359738367) rfl rfl (any_of HT_.1 (by kernel_rfl)) (fun _ _ _ h => h) (Or.inr ⟨by rfl, rfl⟩) ?_ ?_
                   rotate_left
                   ·simp only [Act.put, sI14, sZ14, sS14, i64_w, i32_w]
                    rfl
                   refine pure_ (i := 35) (N := some 143) (v := undef) (a' := ?_) (bA14 46 68719476735) rfl rfl (any_of HT_.1 (by kernel_rfl)) (fun _ _ _ h => h) (Or.inr ⟨by rfl, rfl⟩) ?_ ?_
                   rotate_left
                   ·simp only [Act.put, sI14, sZ14, sS14, i64_w, i32_w]
                    rfl
                   refine pure_ (i := 36) (N := some 144) (v := undef) (a' := ?_) (bA14 46 137438953471) rfl rfl (any_of HT_.1 (by kernel_rfl)) (fun _ _ _ h => h) (Or.inr ⟨by rfl, rfl⟩) ?_ ?_
                   rotate_left
                   ·simp only [Act.put, sI14, sZ14, sS14, i64_w, i32_w]
                    rfl
                   refine pure_ (i := 37) (N := some 145) (v := undef) (a' := ?_) (bA14 46 274877906943) rfl rfl (any_of HT_.1 (by kernel_rfl)) (fun _ _ _ h => h) (Or.inr ⟨by rfl, rfl⟩) ?_ ?_
                   rotate_left
                   ·simp only [Act.put, sI14, sZ14, sS14, i64_w, i32_w]
                    rfl
                   refine pure_ (i := 38) (N := some 146) (v := ?_) (a' := ?_) (bA14 46 549755813887) rfl rfl (any_of HT_.1 (by kernel_rfl)) (fun _ _ _ h => h) (Or.inl ⟨by rfl, ?_⟩) ?_ ?_
                   rotate_left; (focus intro w'; go_simp; with_reducible rfl); rotate_left; focus (simp only [Act.put, sI14, sZ14, sS14, i64_w, i32_w] <;> rfl)
                   refine pure_ (i := 39) (N := some 147) (v := ?_) (a' := ?_) (bA14 46 1099511627775) rfl rfl (any_of HT_.1 (by kernel_rfl)) (fun _ _ _ h => h) (Or.inl ⟨by rfl, ?_⟩) ?_ ?_
                   rotate_left; (focus intro w'; go_simp; with_reducible rfl); rotate_left; focus (simp only [Act.put, sI14, sZ14, sS14, i64_w, i32_w] <;> rfl)
                   refine pure_ (i := 40) (N := some 148) (v := ?_) (a' := ?_) (bA14 46 2199023255551) rfl rfl (any_of HT_.1 (by kernel_rfl)) (fun _ _ _ h => h) (Or.inl ⟨by rfl, ?_⟩) ?_ ?_
                   rotate_left; (focus intro w'; go_simp; with_reducible rfl); rotate_left; focus (simp only [Act.put, sI14, sZ14, sS14, i64_w, i32_w] <;> rfl)
                   refine take_ (i := 41) (N := some 149) (v := ?_) (a' := ?_) (bA14 46 4398046511103) rfl rfl (take_ofW HT_.1 HW_.1 (by kernel_rfl)) (fun _ _ _ h => h) (Or.inl ⟨by rfl, ?_⟩) hHeld ?_ ?_
                   rotate_left
                   ·rintro w' ⟨s0, s1, s2, s3, s4, s5⟩
                    go_simp
                    with_reducible rfl
                   rotate_left
                   ·simp only [Act.put, sI14, sZ14, sS14, i64_w, i32_w]
                    rfl
                   refine one_ (i := 42) (N := some 150) (bA14 46 8796093022207) rfl rfl (one_of HT_.1 (by kernel_rfl)) (by decide) (fun K hK => ?_)
                   refine goes_ Tryd.func12 (by kernel_rfl) rfl #[.agg #[.int .i64 x174000_1, .int .u64 x174001_1], .int .i64 0] (by rfl) rfl rfl (by (try simp only [List.map_toArray, List.map_cons, List.map_nil]); first | done | rfl | (simp only [List.length_drop, List.length_take]; rfl)) ?_
                   with_reducible refine (seqs_Missing.calls kj49 x174000_1 x174001_1 0 t196 _ A70.1).mono ?_
                   rintro e w85 ⟨v197, rfl, ho0, hb⟩
                   have HS4_ := (hb.cell (pl14 _ _ (hHeld.2.2.2.2.1))).trans (hHeld.2.2.2.2.1)
                   have HS5_ := (hb.cell (pl14 _ _ (hHeld.2.2.2.2.2))).trans (hHeld.2.2.2.2.2)
                   refine ⟨_, rfl, ?_⟩
                   have n0_ := Aside0.mk (Kd.R_elder' (by (with_reducible repeat (first | apply Kd.R_alloc | apply Kd.R_drewN | apply Kd.R_drew)); exact HO_10.1) (Kd.R_base ho0) hb)
                   have n1_ := Aside0.mk (Kd.R_elder' (by (with_reducible repeat (first | apply Kd.R_alloc | apply Kd.R_drewN | apply Kd.R_drew)); exact HO191.1) (Kd.R_base ho0) hb)
                   have n2_ := Aside0.mk (Kd.R_lower (Kd.R_new' (Kd.R_new' ho0 (Kd.R_lt (by (with_reducible repeat (first | apply Kd.R_alloc | apply Kd.R_drewN | apply Kd.R_drew)); exact HO_10.1))) (Kd.R_lt (by (with_reducible repeat (first | apply Kd.R_alloc | apply Kd.R_drewN | apply Kd.R_drew)); exact HO191.1))) (below_size (by repeat (first | (with_reducible first | exact HB.1 | apply pa14 | apply pd14 | apply pe14 | refine below_set ?_ GE173.1 | refine below_set ?_ GE188.1) | exact HB.1))))
                   have n3_ := Aside0.mk (blk_below (g := gb173) (o := .cells #[.int .i64 x174000_1, .int .u64 x174001_1] 26 (0, 0)) (by (with_reducible repeat (first | refine blk_drewN ?_ _ | refine blk_drew ?_ | refine blk_alloc ?_ _)); exact BK173.1) hb)
                   have n4_ := Aside0.mk (blk_below (g := gb188) (o := .cells #[.int .i64 t185, .int .u64 t186] 26 (0, 0)) (by (with_reducible repeat (first | refine blk_drewN ?_ _ | refine blk_drew ?_ | refine blk_alloc ?_ _)); exact BK188.1) hb)
                   have n5_ := Aside0.mk (below_step (by repeat (first | (with_reducible first | exact HB.1 | apply pa14 | apply pd14 | apply pe14 | refine below_set ?_ GE173.1 | refine below_set ?_ GE188.1) | exact HB.1)) hb)
                   clear HO_10
                   clear HO191
                   clear BK173
                   clear BK188
                   clear HB
                   have HO_10 := n0_
                   have HO191 := n1_
                   have HO198 := n2_
                   have BK173 := n3_
                   have BK188 := n4_
                   have HB := n5_
                   clear n0_ n1_ n2_ n3_ n4_ n5_
                   (try clear hb)
                   (try clear hb2)
                   (try clear hk)
                   (try clear hi)
                   (try clear ho0)
                   obtain ⟨Ao86, co86, eo86⟩ := Kd.R_slice HO198.1
                   (first | subst eo86 | (injection eo86 with f1_ f2_ f3_; have f4_ := f1_.symm; have f5_ := f3_.symm; clear f1_ f2_ f3_; subst f4_; subst f5_))
                   refine hK.out _ _ ⟨(blk_cell BK188.1 0).trans rfl, (blk_cell BK188.1 1).trans rfl, (blk_cell BK173.1 0).trans rfl, (blk_cell BK173.1 1).trans rfl, HS4_, HS5_⟩ (fun hHeld => ?_)
                   clear hK K
                   refine norm_ (a' := ?_) ?_ ?_
                   rotate_left
                   ·show Act.put _ (some 150) _ = _
                    simp only [Act.put, sI14, sZ14, sS14, i64_w, i32_w]
                    rfl
                   refine one_ (i := 43) (N := some 151) (bA14 46 17592186044415) rfl rfl (one_of HT_.1 (by kernel_rfl)) (by decide) (fun K hK => ?_)
                   refine goes_ Tryd.func13 (by kernel_rfl) rfl #[.slice Ao86 t196.length co86, .slice none 0 0] (by rfl) rfl rfl (by (try simp only [List.map_toArray, List.map_cons, List.map_nil]); first | done | rfl | (simp only [List.length_drop, List.length_take]; rfl)) ?_
                   refine (godwitref10_Ints.calls kj49 _ _ t196 _ _ ([] : List Int) t199 _ ?side1 ?side2 ?side3 ?side4 A71.1).mono ?_
                   (case side1 => repeat (first | exact (Kd.R_reads' HO198.1).2.2 | (with_reducible refine Kd.C_alloc ?_ _) | (with_reducible refine Kd.C_drewN ?_ _) | (with_reducible refine Kd.C_drew ?_)))
                   (case side2 => exact (Kd.R_reads' HO198.1).2.1)
                   (case side3 => exact Kd.C_nil _ _)
                   (case side4 => exact Nat.le_refl _)
                   rintro e w' ⟨rfl, ⟨nd, rfl⟩⟩
                   refine ⟨_, rfl, ?_⟩
                   refine hK.out _ _ ⟨(blk_cell BK188.1 0).trans rfl, (blk_cell BK188.1 1).trans rfl, (blk_cell BK173.1 0).trans rfl, (blk_cell BK173.1 1).trans rfl, hHeld.2.2.2.2.1, hHeld.2.2.2.2.2⟩ (fun hHeld => ?_)
                   clear hK K
                   refine norm_ (a' := ?_) ?_ ?_
                   rotate_left
                   ·show Act.put _ (some 151) _ = _
                    simp only [Act.put, sI14, sZ14, sS14, i64_w, i32_w]
                    rfl
                   refine pure_ (i := 44) (N := some 152) (v := ?_) (a' := ?_) (bA14 46 35184372088831) rfl rfl (any_of HT_.1 (by kernel_rfl)) (fun _ _ _ h => h) (Or.inl ⟨by rfl, ?_⟩) ?_ ?_
                   rotate_left; (focus intro w'; go_simp; with_reducible rfl); rotate_left; focus (simp only [Act.put, sI14, sZ14, sS14, i64_w, i32_w] <;> rfl)
                   refine pure_ (i := 45) (N := some 4) (v := ?_) (a' := ?_) (bA14 46 70368744177663) rfl rfl (any_of HT_.1 (by kernel_rfl)) (fun _ _ _ h => h) (Or.inl ⟨by rfl, ?_⟩) ?_ ?_
                   rotate_left; (focus intro w'; go_simp; with_reducible rfl); rotate_left; focus (simp only [Act.put, sI14, sZ14, sS14, i64_w, i32_w] <;> rfl)
                   refine done_ (done_of HT_.1 (by kernel_rfl)) ?_
                   try go_wp2
                   go_ret
                   first | (with_reducible exact (clash2 A70 A62).elim) | (with_reducible exact (clash2 A62 A70).elim) | (with_reducible exact (clash2 A67 A65).elim) | (with_reducible exact (clash2 A65 A67).elim) | (with_reducible exact (clash2 A61 A28).elim) | (with_reducible exact (clash2 A28 A61).elim) | exact ⟨by first | rfl | (simp [errW_none, errW_some] <;> rfl) | (simp only [← hji58]; first | rfl | (simp [errW_none, errW_some] <;> rfl)) | (simp [*, errW_none, errW_some] <;> rfl), by repeat (first | (with_reducible first | exact HB.1 | apply pa14 | apply pd14 | apply pe14 | refine below_set ?_ GE173.1 | refine below_set ?_ GE188.1) | exact HB.1)⟩
                  ·rw [if_neg c69] at H
                   have c69b0 : decide (0 < (ji58)) = false := decide_eq_false c69
                   clear c69
                   by_cases c87 : (t189.length : Int) = 0
                   ·rw [if_pos c87] at H
                    have c87b0 : ((t189.length : Int) == 0) = true := beq_iff_eq.mpr c87
                    have c87b1 : ((t189.length : Int) != 0) = false := bne_eq_false_iff_eq.mpr c87
                    clear c87
                    replace H := Option.bind_eq_some_iff.mp H
                    obtain ⟨t200, A880, H⟩ := H
                    replace H : ((godwitref10_Ints.f kj49 t200 ([] : List Int)).bind fun t203 => (some t203)) = some r := H
                    have A88 := Aside0.mk A880
                    clear A880
                    replace H := Option.bind_eq_some_iff.mp H
                    obtain ⟨t203, A890, H⟩ := H
                    replace H : (some t203) = some r := H
                    have A89 := Aside0.mk A890
                    clear A890
                    obtain rfl := Option.some.inj H
                    try go_wp2
                    have n0_ := Aside0.mk (Kd.R_drew HO_10.1)
                    have n1_ := Aside0.mk (blk_drew BK173.1)
                    have n2_ := Aside0.mk (pe14 HB.1)
                    clear HO_10
                    clear BK173
                    clear HB
                    have HO_10 := n0_
                    have BK173 := n1_
                    have HB := n2_
                    clear n0_ n1_ n2_
                    obtain ⟨Ao91, co91, eo91⟩ := Kd.R_slice HO_10.1
                    (first | subst eo91 | (injection eo91 with f1_ f2_ f3_; have f4_ := f1_.symm; have f5_ := f3_.symm; clear f1_ f2_ f3_; subst f4_; subst f5_))
                    have p184 : 0 ≤ ((ji58) : Int) := of_decide_eq_true (by first | (with_reducible assumption) | assumption)
                    have q184 : (ji58) < (t179.length : Int) := of_decide_eq_true (by first | (with_reducible assumption) | assumption)
                    (try (obtain ⟨A_s, c_s, e_s⟩ := Kd.R_slice HO_10.1; subst e_s))
                    obtain ⟨ad184, e184, hx184_0⟩ := Kd.at_int (Kd.R_reads' HO_10.1).2.2 (ji58) p184 q184
                    cases e184
                    replace p184 := eq_true p184
                    replace q184 := eq_true q184
                    refine start_ (n := 12) (S := fun w' => w'.cell? ⟨gb173, 0, none⟩ = some (.int .i64 x174000_1) ∧ w'.cell? ⟨gb173, 1, none⟩ = some (.int .u64 x174001_1) ∧ w'.cell? (ad184.add ((ji58)).toNat) = some (.int .i64 (rd t179 (ji58)))) (ds := []) (bA14 12 0) (by kernel_rfl) rfl rfl ⟨(blk_cell BK173.1 0).trans rfl, (blk_cell BK173.1 1).trans rfl, hx184_0⟩ (fun hHeld => ?_); refine with_tabW godwitlaw15_SeqsMissing.tab23 godwitlaw15_SeqsMissing.bits23 (fun HT_ HW_ => ?_)
                    generalize wc.drew = w90 at HO_10 BK173 HB hx184_0 hHeld ⊢
                    refine pure_ (i := 1) (N := some 99) (v := ?_) (a' := ?_) (bA14 12 2) rfl rfl (any_of HT_.1 (by kernel_rfl)) (fun _ _ _ h => h) (Or.inl ⟨by rfl, ?_⟩) ?_ ?_
                    rotate_left; (focus intro w'; go_simp; with_reducible rfl); rotate_left; focus (simp only [Act.put, sI14, sZ14, sS14, i64_w, i32_w] <;> rfl)
                    refine pure_ (i := 2) (N := some 100) (v := ?_) (a' := ?_) (bA14 12 6) rfl rfl (any_of HT_.1 (by kernel_rfl)) (fun _ _ _ h => h) (Or.inl ⟨by rfl, ?_⟩) ?_ ?_
                    rotate_left; (focus intro w'; go_simp; with_reducible rfl); rotate_left; focus (simp only [Act.put, sI14, sZ14, sS14, i64_w, i32_w] <;> rfl)
                    refine pure_ (i := 3) (N := some 101) (v := ?_) (a' := ?_) (bA14 12 14) rfl rfl (any_of HT_.1 (by kernel_rfl)) (fun _ _ _ h => h) (Or.inl ⟨by rfl, ?_⟩) ?_ ?_
                    rotate_left; (focus intro w'; go_simp; with_reducible rfl); rotate_left; focus (simp only [Act.put, sI14, sZ14, sS14, i64_w, i32_w] <;> rfl)
                    refine take_ (i := 0) (N := some 98) (v := ?_) (a' := ?_) (bA14 12 15) rfl rfl (take_ofW HT_.1 HW_.1 (by kernel_rfl)) (fun _ _ _ h => h) (Or.inl ⟨by rfl, ?_⟩) hHeld ?_ ?_
                    rotate_left
                    ·rintro w' ⟨s0, s1, s2⟩
                     go_simp
                     with_reducible rfl
                    rotate_left
                    ·simp only [Act.put, sI14, sZ14, sS14, i64_w, i32_w]
                     rfl
                    refine take_ (i := 4) (N := some 102) (v := ?_) (a' := ?_) (bA14 12 31) rfl rfl (take_ofW HT_.1 HW_.1 (by kernel_rfl)) (fun _ _ _ h => h) (Or.inl ⟨by rfl, ?_⟩) hHeld ?_ ?_
                    rotate_left
                    ·rintro w' ⟨s0, s1, s2⟩
                     go_simp
                     with_reducible rfl
                    rotate_left
                    ·simp only [Act.put, sI14, sZ14, sS14, i64_w, i32_w]
                     rfl
                    refine join_ (σ := Nat) 2 (bA14 12 1023) (fun s_ => [(103, .tuple #[.agg #[.int .i64 t185, .int .u64 t186], .int .i64 t187]), (14, .pointer (some ⟨s_, 0, none⟩)), (97, .tuple #[.agg #[.int .i64 t185, .int .u64 t186], .int .i64 t187]), (104, .agg #[.int .i64 t185, .int .u64 t186]), (105, .int .i64 t187)]) (fun s_ w' => (w'.cell? ⟨gb173, 0, none⟩ = some (.int .i64 x174000_1) ∧ w'.cell? ⟨gb173, 1, none⟩ = some (.int .u64 x174001_1) ∧ w'.cell? (ad184.add ((ji58)).toNat) = some (.int .i64 (rd t179 (ji58)))) ∧ (Kd.R (Kd.int .i64) 3 w' w.heap.size (fun _ => True) (.slice (some ad184) t179.length co91) t179) ∧ (w'.heap[gb173]? = some (.cells #[.int .i64 x174000_1, .int .u64 x174001_1] 26 (0, 0))) ∧ (w'.heap[s_]? = some (.cells #[.int .i64 0, .int .u64 0] 26 (0, 0))) ∧ (w.heap.size ≤ s_) ∧ (w.heap.size ≤ s_) ∧ (gb173 ≠ s_) ∧ (s_ ≠ gb173) ∧ (Below w.heap.size w w')) ?_ ?_
                    rotate_left
                    ·intro hCont
                     refine two_ (i := 5) (j := 9) (Ni := some 103) (Nj := some 14) (bA14 12 63) (bA14 12 543) rfl rfl rfl rfl (two_of HT_.1 (by kernel_rfl)) (by decide) (by decide) (fun K hK => ?_) (fun K hK => ?_)
                     ·skip
                      refine goes_ Tryd.func10 (by kernel_rfl) rfl #[.agg #[.int .i64 x174000_1, .int .u64 x174001_1], .int .i64 (rd t179 (ji58))] (by rfl) rfl rfl (by (try simp only [List.map_toArray, List.map_cons, List.map_nil]); first | done | (simp only [hji58]; rfl) | rfl | (simp only [List.length_drop, List.length_take]; rfl)) ?_
                      with_reducible refine (seqs_Accept.calls x174000_1 x174001_1 (rd t179 (ji58)) t185 t186 t187 _ ?side1 A61.1).mono ?_
                      (case side1 => exact LaidT.below HLD.1 (by repeat (first | (with_reducible first | exact HB.1 | apply pa14 | apply pd14 | apply pe14 | refine below_set ?_ GE173.1) | exact HB.1)))
                      rintro e w92 ⟨rfl, hb⟩
                      have HS2_ := (hb.cell (pl14 _ _ (hHeld.2.2))).trans (hHeld.2.2)
                      refine ⟨_, rfl, ?_⟩
                      have n0_ := Aside0.mk (Kd.R_below (by (with_reducible repeat (first | apply Kd.R_alloc | apply Kd.R_drewN | apply Kd.R_drew)); exact HO_10.1) hb)
                      have n1_ := Aside0.mk (blk_below (g := gb173) (o := .cells #[.int .i64 x174000_1, .int .u64 x174001_1] 26 (0, 0)) (by (with_reducible repeat (first | refine blk_drewN ?_ _ | refine blk_drew ?_ | refine blk_alloc ?_ _)); exact BK173.1) hb)
                      have n2_ := Aside0.mk (below_step (by repeat (first | (with_reducible first | exact HB.1 | apply pa14 | apply pd14 | apply pe14 | refine below_set ?_ GE173.1) | exact HB.1)) hb)
                      clear HO_10
                      clear BK173
                      clear HB
                      have HO_10 := n0_
                      have BK173 := n1_
                      have HB := n2_
                      clear n0_ n1_ n2_
                      (try clear hb)
                      (try clear hb2)
                      (try clear hk)
                      (try clear hi)
                      refine hK.out _ _ ⟨(blk_cell BK173.1 0).trans rfl, (blk_cell BK173.1 1).trans rfl, HS2_⟩ (fun hHeld => ?_)
                      clear hK K
                      refine norm_ (a' := ?_) ?_ ?_
                      rotate_left
                      ·show Act.put _ (some 103) _ = _
                       simp only [Act.put, sI14, sZ14, sS14, i64_w, i32_w]
                       rfl
                      refine pure_ (i := 6) (N := some 97) (v := ?_) (a' := ?_) (bA14 12 127) rfl rfl (any_of HT_.1 (by kernel_rfl)) (fun _ _ _ h => h) (Or.inl ⟨by rfl, ?_⟩) ?_ ?_
                      rotate_left; (focus intro w'; go_simp; with_reducible rfl); rotate_left; focus (simp only [Act.put, sI14, sZ14, sS14, i64_w, i32_w] <;> rfl)
                      refine pure_ (i := 7) (N := some 104) (v := ?_) (a' := ?_) (bA14 12 255) rfl rfl (any_of HT_.1 (by kernel_rfl)) (fun _ _ _ h => h) (Or.inl ⟨by rfl, ?_⟩) ?_ ?_
                      rotate_left; (focus intro w'; go_simp; with_reducible rfl); rotate_left; focus (simp only [Act.put, sI14, sZ14, sS14, i64_w, i32_w] <;> rfl)
                      refine pure_ (i := 8) (N := some 105) (v := ?_) (a' := ?_) (bA14 12 511) rfl rfl (any_of HT_.1 (by kernel_rfl)) (fun _ _ _ h => h) (Or.inl ⟨by rfl, ?_⟩) ?_ ?_
                      rotate_left; (focus intro w'; go_simp; with_reducible rfl); rotate_left; focus (simp only [Act.put, sI14, sZ14, sS14, i64_w, i32_w] <;> rfl)
                      refine one_ (i := 9) (N := some 14) (bA14 12 1023) rfl rfl (one_of HT_.1 (by kernel_rfl)) (by decide) (fun K hK => ?_)
                      refine box_step ?hg (N := 14) ?hd (cs := #[.int .i64 0, .int .u64 0]) (t := 26) ?hr ?_; (case hd => rfl); (case hg => rfl); (case hr => first | (go_simp; done) | (go_simp; rfl))
                      intro gb188 hg w93 hbox hb
                      have HS2_ := (hb.cell (pl14 _ _ (hHeld.2.2))).trans (hHeld.2.2)
                      have n0_ := Aside0.mk (Kd.R_below (by (with_reducible repeat (first | apply Kd.R_alloc | apply Kd.R_drewN | apply Kd.R_drew)); exact HO_10.1) hb)
                      have n1_ := Aside0.mk (blk_below (g := gb173) (o := .cells #[.int .i64 x174000_1, .int .u64 x174001_1] 26 (0, 0)) (by (with_reducible repeat (first | refine blk_drewN ?_ _ | refine blk_drew ?_ | refine blk_alloc ?_ _)); exact BK173.1) hb)
                      have n2_ := Aside0.mk (below_step (by repeat (first | (with_reducible first | exact HB.1 | apply pa14 | apply pd14 | apply pe14 | refine below_set ?_ GE173.1) | exact HB.1)) hb)
                      have n3_ := Aside0.mk (hbox)
                      have n4_ := Aside0.mk ((by rw [hg]; exact (below_size (by repeat (first | (with_reducible first | exact HB.1 | apply pa14 | apply pd14 | apply pe14 | refine below_set ?_ GE173.1) | exact HB.1))) : w.heap.size ≤ gb188))
                      have n5_ := Aside0.mk ((by rw [hg]; exact (below_size (by repeat (first | (with_reducible first | exact HB.1 | apply pa14 | apply pd14 | apply pe14 | refine below_set ?_ GE173.1) | exact HB.1))) : w.heap.size ≤ gb188))
                      have n6_ := Aside0.mk ((by rw [hg]; exact Nat.ne_of_lt (blk_lt (g := gb173) (o := .cells #[.int .i64 x174000_1, .int .u64 x174001_1] 26 (0, 0)) (by (with_reducible repeat (first | refine blk_drewN ?_ _ | refine blk_drew ?_ | refine blk_alloc ?_ _)); exact BK173.1)) : gb173 ≠ gb188))
                      have n7_ := Aside0.mk ((by rw [hg]; exact Nat.ne_of_gt (blk_lt (g := gb173) (o := .cells #[.int .i64 x174000_1, .int .u64 x174001_1] 26 (0, 0)) (by (with_reducible repeat (first | refine blk_drewN ?_ _ | refine blk_drew ?_ | refine blk_alloc ?_ _)); exact BK173.1)) : gb188 ≠ gb173))
                      clear HO_10
                      clear BK173
                      clear HB
                      have HO_10 := n0_
                      have BK173 := n1_
                      have HB := n2_
                      have BK188 := n3_
                      have GW188 := n4_
                      have GE188 := n5_
                      have NB173_188 := n6_
                      have NB188_173 := n7_
                      clear n0_ n1_ n2_ n3_ n4_ n5_ n6_ n7_
                      clear hb hbox hg
                      refine hK.out _ _ ⟨(blk_cell BK173.1 0).trans rfl, (blk_cell BK173.1 1).trans rfl, HS2_⟩ (fun hHeld => ?_)
                      clear hK K
                      refine norm_ (a' := ?_) ?_ ?_
                      rotate_left
                      ·show Act.put _ (some 14) _ = _
                       simp only [Act.put, sI14, sZ14, sS14, i64_w, i32_w]
                       rfl
                      exact norm_ (by simp only [putAll, Act.put, sI14, sZ14, sS14]) (hCont (gb188) _ ⟨hHeld, (by (with_reducible repeat (first | apply Kd.R_alloc | apply Kd.R_drewN | apply Kd.R_drew)); exact HO_10.1), (by (with_reducible repeat (first | refine blk_drewN ?_ _ | refine blk_drew ?_ | refine blk_alloc ?_ _)); exact BK173.1), (by (with_reducible repeat (first | refine blk_drewN ?_ _ | refine blk_drew ?_ | refine blk_alloc ?_ _)); exact BK188.1), GW188.1, GE188.1, NB173_188.1, NB188_173.1, (by repeat (first | (with_reducible first | exact HB.1 | apply pa14 | apply pd14 | apply pe14 | refine below_set ?_ GE173.1 | refine below_set ?_ GE188.1) | exact HB.1))⟩)
                     ·skip
                      refine box_step ?hg (N := 14) ?hd (cs := #[.int .i64 0, .int .u64 0]) (t := 26) ?hr ?_; (case hd => rfl); (case hg => rfl); (case hr => first | (go_simp; done) | (go_simp; rfl))
                      intro gb188 hg w92 hbox hb
                      have HS2_ := (hb.cell (pl14 _ _ (hHeld.2.2))).trans (hHeld.2.2)
                      have n0_ := Aside0.mk (Kd.R_below (by (with_reducible repeat (first | apply Kd.R_alloc | apply Kd.R_drewN | apply Kd.R_drew)); exact HO_10.1) hb)
                      have n1_ := Aside0.mk (blk_below (g := gb173) (o := .cells #[.int .i64 x174000_1, .int .u64 x174001_1] 26 (0, 0)) (by (with_reducible repeat (first | refine blk_drewN ?_ _ | refine blk_drew ?_ | refine blk_alloc ?_ _)); exact BK173.1) hb)
                      have n2_ := Aside0.mk (below_step (by repeat (first | (with_reducible first | exact HB.1 | apply pa14 | apply pd14 | apply pe14 | refine below_set ?_ GE173.1) | exact HB.1)) hb)
                      have n3_ := Aside0.mk (hbox)
                      have n4_ := Aside0.mk ((by rw [hg]; exact (below_size (by repeat (first | (with_reducible first | exact HB.1 | apply pa14 | apply pd14 | apply pe14 | refine below_set ?_ GE173.1) | exact HB.1))) : w.heap.size ≤ gb188))
                      have n5_ := Aside0.mk ((by rw [hg]; exact (below_size (by repeat (first | (with_reducible first | exact HB.1 | apply pa14 | apply pd14 | apply pe14 | refine below_set ?_ GE173.1) | exact HB.1))) : w.heap.size ≤ gb188))
                      have n6_ := Aside0.mk ((by rw [hg]; exact Nat.ne_of_lt (blk_lt (g := gb173) (o := .cells #[.int .i64 x174000_1, .int .u64 x174001_1] 26 (0, 0)) (by (with_reducible repeat (first | refine blk_drewN ?_ _ | refine blk_drew ?_ | refine blk_alloc ?_ _)); exact BK173.1)) : gb173 ≠ gb188))
                      have n7_ := Aside0.mk ((by rw [hg]; exact Nat.ne_of_gt (blk_lt (g := gb173) (o := .cells #[.int .i64 x174000_1, .int .u64 x174001_1] 26 (0, 0)) (by (with_reducible repeat (first | refine blk_drewN ?_ _ | refine blk_drew ?_ | refine blk_alloc ?_ _)); exact BK173.1)) : gb188 ≠ gb173))
                      clear HO_10
                      clear BK173
                      clear HB
                      have HO_10 := n0_
                      have BK173 := n1_
                      have HB := n2_
                      have BK188 := n3_
                      have GW188 := n4_
                      have GE188 := n5_
                      have NB173_188 := n6_
                      have NB188_173 := n7_
                      clear n0_ n1_ n2_ n3_ n4_ n5_ n6_ n7_
                      clear hb hbox hg
                      refine hK.out _ _ ⟨(blk_cell BK173.1 0).trans rfl, (blk_cell BK173.1 1).trans rfl, HS2_⟩ (fun hHeld => ?_)
                      clear hK K
                      refine norm_ (a' := ?_) ?_ ?_
                      rotate_left
                      ·show Act.put _ (some 14) _ = _
                       simp only [Act.put, sI14, sZ14, sS14, i64_w, i32_w]
                       rfl
                      refine one_ (i := 5) (N := some 103) (bA14 12 575) rfl rfl (one_of HT_.1 (by kernel_rfl)) (by decide) (fun K hK => ?_)
                      refine goes_ Tryd.func10 (by kernel_rfl) rfl #[.agg #[.int .i64 x174000_1, .int .u64 x174001_1], .int .i64 (rd t179 (ji58))] (by rfl) rfl rfl (by (try simp only [List.map_toArray, List.map_cons, List.map_nil]); first | done | (simp only [hji58]; rfl) | rfl | (simp only [List.length_drop, List.length_take]; rfl)) ?_
                      with_reducible refine (seqs_Accept.calls x174000_1 x174001_1 (rd t179 (ji58)) t185 t186 t187 _ ?side1 A61.1).mono ?_
                      (case side1 => exact LaidT.below HLD.1 (by repeat (first | (with_reducible first | exact HB.1 | apply pa14 | apply pd14 | apply pe14 | refine below_set ?_ GE173.1 | refine below_set ?_ GE188.1) | exact HB.1)))
                      rintro e w93 ⟨rfl, hb⟩
                      have HS2_ := (hb.cell (pl14 _ _ (hHeld.2.2))).trans (hHeld.2.2)
                      refine ⟨_, rfl, ?_⟩
                      have n0_ := Aside0.mk (Kd.R_below (by (with_reducible repeat (first | apply Kd.R_alloc | apply Kd.R_drewN | apply Kd.R_drew)); exact HO_10.1) hb)
                      have n1_ := Aside0.mk (blk_below (g := gb173) (o := .cells #[.int .i64 x174000_1, .int .u64 x174001_1] 26 (0, 0)) (by (with_reducible repeat (first | refine blk_drewN ?_ _ | refine blk_drew ?_ | refine blk_alloc ?_ _)); exact BK173.1) hb)
                      have n2_ := Aside0.mk (blk_below (g := gb188) (o := .cells #[.int .i64 0, .int .u64 0] 26 (0, 0)) (by (with_reducible repeat (first | refine blk_drewN ?_ _ | refine blk_drew ?_ | refine blk_alloc ?_ _)); exact BK188.1) hb)
                      have n3_ := Aside0.mk (below_step (by repeat (first | (with_reducible first | exact HB.1 | apply pa14 | apply pd14 | apply pe14 | refine below_set ?_ GE173.1 | refine below_set ?_ GE188.1) | exact HB.1)) hb)
                      clear HO_10
                      clear BK173
                      clear BK188
                      clear HB
                      have HO_10 := n0_
                      have BK173 := n1_
                      have BK188 := n2_
                      have HB := n3_
                      clear n0_ n1_ n2_ n3_
                      (try clear hb)
                      (try clear hb2)
                      (try clear hk)
                      (try clear hi)
                      refine hK.out _ _ ⟨(blk_cell BK173.1 0).trans rfl, (blk_cell BK173.1 1).trans rfl, HS2_⟩ (fun hHeld => ?_)
                      clear hK K
                      refine norm_ (a' := ?_) ?_ ?_
                      rotate_left
                      ·show Act.put _ (some 103) _ = _
                       simp only [Act.put, sI14, sZ14, sS14, i64_w, i32_w]
                       rfl
                      refine pure_ (i := 6) (N := some 97) (v := ?_) (a' := ?_) (bA14 12 639) rfl rfl (any_of HT_.1 (by kernel_rfl)) (fun _ _ _ h => h) (Or.inl ⟨by rfl, ?_⟩) ?_ ?_
                      rotate_left; (focus intro w'; go_simp; with_reducible rfl); rotate_left; focus (simp only [Act.put, sI14, sZ14, sS14, i64_w, i32_w] <;> rfl)
                      refine pure_ (i := 7) (N := some 104) (v := ?_) (a' := ?_) (bA14 12 767) rfl rfl (any_of HT_.1 (by kernel_rfl)) (fun _ _ _ h => h) (Or.inl ⟨by rfl, ?_⟩) ?_ ?_
                      rotate_left; (focus intro w'; go_simp; with_reducible rfl); rotate_left; focus (simp only [Act.put, sI14, sZ14, sS14, i64_w, i32_w] <;> rfl)
                      refine pure_ (i := 8) (N := some 105) (v := ?_) (a' := ?_) (bA14 12 1023) rfl rfl (any_of HT_.1 (by kernel_rfl)) (fun _ _ _ h => h) (Or.inl ⟨by rfl, ?_⟩) ?_ ?_
                      rotate_left; (focus intro w'; go_simp; with_reducible rfl); rotate_left; focus (simp only [Act.put, sI14, sZ14, sS14, i64_w, i32_w] <;> rfl)
                      exact norm_ (by simp only [putAll, Act.put, sI14, sZ14, sS14]) (hCont (gb188) _ ⟨hHeld, (by (with_reducible repeat (first | apply Kd.R_alloc | apply Kd.R_drewN | apply Kd.R_drew)); exact HO_10.1), (by (with_reducible repeat (first | refine blk_drewN ?_ _ | refine blk_drew ?_ | refine blk_alloc ?_ _)); exact BK173.1), (by (with_reducible repeat (first | refine blk_drewN ?_ _ | refine blk_drew ?_ | refine blk_alloc ?_ _)); exact BK188.1), GW188.1, GE188.1, NB173_188.1, NB188_173.1, (by repeat (first | (with_reducible first | exact HB.1 | apply pa14 | apply pd14 | apply pe14 | refine below_set ?_ GE173.1 | refine below_set ?_ GE188.1) | exact HB.1))⟩)
                    rintro gb188 w94 ⟨hS_, h0_, h1_, h2_, h3_, h4_, h5_, h6_, h7_⟩
                    have n0_ : Aside0 (Kd.R (Kd.int .i64) 3 w94 w.heap.size (fun _ => True) (.slice (some ad184) t179.length co91) t179) := ⟨h0_⟩
                    have n1_ : Aside0 (w94.heap[gb173]? = some (.cells #[.int .i64 x174000_1, .int .u64 x174001_1] 26 (0, 0))) := ⟨h1_⟩
                    have n2_ : Aside0 (w94.heap[gb188]? = some (.cells #[.int .i64 0, .int .u64 0] 26 (0, 0))) := ⟨h2_⟩
                    have n3_ : Aside0 (w.heap.size ≤ gb188) := ⟨h3_⟩
                    have n4_ : Aside0 (w.heap.size ≤ gb188) := ⟨h4_⟩
                    have n5_ : Aside0 (gb173 ≠ gb188) := ⟨h5_⟩
                    have n6_ : Aside0 (gb188 ≠ gb173) := ⟨h6_⟩
                    have n7_ : Aside0 (Below w.heap.size w w94) := ⟨h7_⟩
                    clear HO_10
                    clear BK173
                    clear HB
                    clear h0_ h1_ h2_ h3_ h4_ h5_ h6_ h7_
                    have HO_10 := n0_
                    have BK173 := n1_
                    have BK188 := n2_
                    have GW188 := n3_
                    have GE188 := n4_
                    have NB173_188 := n5_
                    have NB188_173 := n6_
                    have HB := n7_
                    clear n0_ n1_ n2_ n3_ n4_ n5_ n6_ n7_
                    have hHeld : w94.cell? ⟨gb173, 0, none⟩ = some (.int .i64 x174000_1) ∧ w94.cell? ⟨gb173, 1, none⟩ = some (.int .u64 x174001_1) ∧ w94.cell? (ad184.add ((ji58)).toNat) = some (.int .i64 (rd t179 (ji58))) := hS_
                    refine norm_ (a' := ?_) ?_ ?_
                    rotate_left
                    ·simp only [putAll, Act.put, sI14, sZ14, sS14]
                     rfl
                    refine one_ (i := 10) (N := none) (bA14 12 2047) rfl rfl (one_of HT_.1 (by kernel_rfl)) (by decide) (fun K hK => ?_)
                    have hs95 : w94.cell? ⟨gb188, 0, none⟩ = some (.int .i64 0) := (blk_cell BK188.1 0).trans rfl
                    have hfs95 := blk_frozen BK188.1 0
                    have hns95_0 := NB173_188.1
                    have hms95_0 := NB188_173.1
                    have hs96 : w94.cell? ⟨gb188, 1, none⟩ = some (.int .u64 0) := (blk_cell BK188.1 1).trans rfl
                    have hfs96 := blk_frozen BK188.1 1
                    have hns96_0 := NB173_188.1
                    have hms96_0 := NB188_173.1
                    refine skip_ (w1 := ?_) (by rfl) rfl ?_ ?_
                    rotate_left
                    ·go_simp
                     rfl
                    refine hK.out _ _ ⟨((cell_far (p := ⟨gb188, _, none⟩) NB173_188.1 _).trans (((cell_far (p := ⟨gb188, _, none⟩) NB173_188.1 _).trans (hHeld.1)))), ((cell_far (p := ⟨gb188, _, none⟩) NB173_188.1 _).trans (((cell_far (p := ⟨gb188, _, none⟩) NB173_188.1 _).trans (hHeld.2.1)))), ((cell_far (p := ⟨gb188, _, none⟩) (by first | exact Kd.own_blk (Kd.R_ne HO_10.1 BK188.1 (by decide)) | (rw [add_block]; exact Kd.own_blk (Kd.R_ne HO_10.1 BK188.1 (by decide))) | (show (Addr.add _ _).block ≠ _; rw [add_block]; exact Kd.own_blk (Kd.R_ne HO_10.1 BK188.1 (by decide))) | (dsimp only; exact Kd.own_blk (Kd.R_ne HO_10.1 BK188.1 (by decide)))) _).trans (((cell_far (p := ⟨gb188, _, none⟩) (by first | exact Kd.own_blk (Kd.R_ne HO_10.1 BK188.1 (by decide)) | (rw [add_block]; exact Kd.own_blk (Kd.R_ne HO_10.1 BK188.1 (by decide))) | (show (Addr.add _ _).block ≠ _; rw [add_block]; exact Kd.own_blk (Kd.R_ne HO_10.1 BK188.1 (by decide))) | (dsimp only; exact Kd.own_blk (Kd.R_ne HO_10.1 BK188.1 (by decide)))) _).trans (hHeld.2.2))))⟩ (fun hHeld => ?_)
                    clear hK K
                    refine pure_ (i := 11) (N := some 15) (v := ?_) (a' := ?_) (bA14 12 4095) rfl rfl (any_of HT_.1 (by kernel_rfl)) (fun _ _ _ h => h) (Or.inl ⟨by rfl, ?_⟩) ?_ ?_
                    rotate_left; (focus intro w'; go_simp; with_reducible rfl); rotate_left; focus (simp only [Act.put, sI14, sZ14, sS14, i64_w, i32_w] <;> rfl)
                    refine done_ (done_of HT_.1 (by kernel_rfl)) ?_
                    have hnb97 := NB188_173.1
                    have hnc97 := NB173_188.1
                    have hcz98_0 : w94.cell? ⟨gb188, 0, none⟩ = some (.int .i64 0) := (blk_cell BK188.1 0).trans rfl
                    have hcz98_1 : w94.cell? ⟨gb188, 1, none⟩ = some (.int .u64 0) := (blk_cell BK188.1 1).trans rfl
                    have hfz98_0 := blk_frozen BK188.1 0
                    have hfz98_1 := blk_frozen BK188.1 1
                    try go_wp2_with (first | ((with_reducible refine gate_callee (f := 12) rfl ?_); refine goesL_ (some 107) rfl rfl Tryd.func12 (by kernel_rfl) rfl #[.agg #[.int .i64 t185, .int .u64 t186], .int .i64 1] rfl (by (try simp only [List.map_toArray, List.map_cons, List.map_nil]); first | done | rfl | (simp only [List.length_drop, List.length_take]; rfl)) ?_; (with_reducible refine (seqs_Missing.calls kj49 t185 t186 1 t189 _ A62.1).mono ?_); rintro e w99 ⟨v190, rfl, ho0, hb⟩; refine ⟨_, rfl, ?_⟩; have n0_ := Aside0.mk (Kd.R_elder' (by (with_reducible repeat (first | apply Kd.R_alloc | apply Kd.R_drewN | apply Kd.R_drew)); exact (Kd.R_mono (Kd.R_far (p := ⟨gb188, 1, none⟩) (Kd.R_far (p := ⟨gb188, 0, none⟩) (Kd.R_types HO_10.1 BK188.1 (by decide)) (fun _ hk => hk.2) (.int .i64 t185)) (fun _ hk => hk.2) (.int .u64 t186)) (fun _ h_ => h_.1))) (Kd.R_base ho0) hb); have n1_ := Aside0.mk (Kd.R_lower (Kd.R_new' ho0 (Kd.R_lt (by (with_reducible repeat (first | apply Kd.R_alloc | apply Kd.R_drewN | apply Kd.R_drew)); exact (Kd.R_mono (Kd.R_far (p := ⟨gb188, 1, none⟩) (Kd.R_far (p := ⟨gb188, 0, none⟩) (Kd.R_types HO_10.1 BK188.1 (by decide)) (fun _ hk => hk.2) (.int .i64 t185)) (fun _ hk => hk.2) (.int .u64 t186)) (fun _ h_ => h_.1))))) (below_size (by repeat (first | (with_reducible first | exact HB.1 | apply pa14 | apply pd14 | apply pe14 | refine below_set ?_ GE173.1 | refine below_set ?_ GE188.1) | exact HB.1)))); have n2_ := Aside0.mk (blk_below (g := gb173) (o := .cells #[.int .i64 x174000_1, .int .u64 x174001_1] 26 (0, 0)) (by (with_reducible repeat (first | refine blk_drewN ?_ _ | refine blk_drew ?_ | refine blk_alloc ?_ _)); refine blk_far ?_ NB173_188.1 _; (with_reducible repeat (first | refine blk_drewN ?_ _ | refine blk_drew ?_ | refine blk_alloc ?_ _)); refine blk_far ?_ NB173_188.1 _; (with_reducible repeat (first | refine blk_drewN ?_ _ | refine blk_drew ?_ | refine blk_alloc ?_ _)); exact BK173.1) hb); have n3_ := Aside0.mk (blk_below (g := gb188) (o := .cells #[.int .i64 t185, .int .u64 t186] 26 (0, 0)) (by (with_reducible repeat (first | refine blk_drewN ?_ _ | refine blk_drew ?_ | refine blk_alloc ?_ _)); refine blk_put (cs := #[.int .i64 t185, .int .u64 0]) ?_ 1 _ rfl; (with_reducible repeat (first | refine blk_drewN ?_ _ | refine blk_drew ?_ | refine blk_alloc ?_ _)); refine blk_put (cs := #[.int .i64 0, .int .u64 0]) ?_ 0 _ rfl; (with_reducible repeat (first | refine blk_drewN ?_ _ | refine blk_drew ?_ | refine blk_alloc ?_ _)); exact BK188.1) hb); have n4_ := Aside0.mk (below_step (by repeat (first | (with_reducible first | exact HB.1 | apply pa14 | apply pd14 | apply pe14 | refine below_set ?_ GE173.1 | refine below_set ?_ GE188.1) | exact HB.1)) hb); clear HO_10; clear BK173; clear BK188; clear HB; have HO_10 := n0_; have HO191 := n1_; have BK173 := n2_; have BK188 := n3_; have HB := n4_; clear n0_ n1_ n2_ n3_ n4_; (try clear hb); (try clear hb2); (try clear hk); (try clear hi); (try clear ho0)))
                    have n0_ := Aside0.mk (Kd.R_drew HO_10.1)
                    have n1_ := Aside0.mk (Kd.R_drew HO191.1)
                    have n2_ := Aside0.mk (blk_drew BK173.1)
                    have n3_ := Aside0.mk (blk_drew BK188.1)
                    have n4_ := Aside0.mk (pe14 HB.1)
                    clear HO_10
                    clear HO191
                    clear BK173
                    clear BK188
                    clear HB
                    have HO_10 := n0_
                    have HO191 := n1_
                    have BK173 := n2_
                    have BK188 := n3_
                    have HB := n4_
                    clear n0_ n1_ n2_ n3_ n4_
                    have p192 : 0 ≤ ((ji58) : Int) := of_decide_eq_true (by first | (with_reducible assumption) | assumption)
                    have q192 : (ji58) < (t179.length : Int) := of_decide_eq_true (by first | (with_reducible assumption) | assumption)
                    obtain ⟨ad192, e192, hx192_0⟩ := Kd.at_int (Kd.R_reads' HO_10.1).2.2 (ji58) p192 q192
                    obtain rfl : ad184 = ad192 := (by injection e192)
                    replace p192 := eq_true p192
                    replace q192 := eq_true q192
                    have p194 : 0 ≤ ((ji58) : Int) := of_decide_eq_true (by first | (with_reducible assumption) | assumption)
                    have q194 : (ji58) < (t179.length : Int) := of_decide_eq_true (by first | (with_reducible assumption) | assumption)
                    obtain ⟨ad194, e194, hx194_0⟩ := Kd.at_int (Kd.R_reads' HO_10.1).2.2 (ji58) p194 q194
                    obtain rfl : ad184 = ad194 := (by injection e194)
                    replace p194 := eq_true p194
                    replace q194 := eq_true q194
                    refine start_ (n := 46) (S := fun w' => w'.cell? ⟨gb188, 0, none⟩ = some (.int .i64 t185) ∧ w'.cell? ⟨gb188, 1, none⟩ = some (.int .u64 t186) ∧ w'.cell? ⟨gb173, 0, none⟩ = some (.int .i64 x174000_1) ∧ w'.cell? ⟨gb173, 1, none⟩ = some (.int .u64 x174001_1) ∧ w'.cell? (ad184.add ((ji58)).toNat) = some (.int .i64 (rd t179 (ji58))) ∧ w'.cell? (ad184.add ((ji58)).toNat) = some (.int .i64 (rd t179 (ji58)))) (ds := []) (bA14 46 0) (by kernel_rfl) rfl rfl ⟨(blk_cell BK188.1 0).trans rfl, (blk_cell BK188.1 1).trans rfl, (blk_cell BK173.1 0).trans rfl, (blk_cell BK173.1 1).trans rfl, hx192_0, hx194_0⟩ (fun hHeld => ?_); refine with_tabW godwitlaw15_SeqsMissing.tab25 godwitlaw15_SeqsMissing.bits25 (fun HT_ HW_ => ?_)
                    generalize w99.drew = w100 at HO_10 HO191 BK173 BK188 HB hx192_0 hx194_0 hHeld ⊢
                    refine pure_ (i := 0) (N := some 108) (v := ?_) (a' := ?_) (bA14 46 1) rfl rfl (any_of HT_.1 (by kernel_rfl)) (fun _ _ _ h => h) (Or.inl ⟨by rfl, ?_⟩) ?_ ?_
                    rotate_left; (focus intro w'; go_simp; with_reducible rfl); rotate_left; focus (simp only [Act.put, sI14, sZ14, sS14, i64_w, i32_w] <;> rfl)
                    refine pure_ (i := 1) (N := some 109) (v := ?_) (a' := ?_) (bA14 46 3) rfl rfl (any_of HT_.1 (by kernel_rfl)) (fun _ _ _ h => h) (Or.inl ⟨by rfl, ?_⟩) ?_ ?_
                    rotate_left; (focus intro w'; go_simp; with_reducible rfl); rotate_left; focus (simp only [Act.put, sI14, sZ14, sS14, i64_w, i32_w] <;> rfl)
                    refine pure_ (i := 2) (N := some 110) (v := ?_) (a' := ?_) (bA14 46 7) rfl rfl (any_of HT_.1 (by kernel_rfl)) (fun _ _ _ h => h) (Or.inl ⟨by rfl, ?_⟩) ?_ ?_
                    rotate_left; (focus intro w'; go_simp; with_reducible rfl); rotate_left; focus (simp only [Act.put, sI14, sZ14, sS14, i64_w, i32_w] <;> rfl)
                    refine pure_ (i := 3) (N := some 111) (v := ?_) (a' := ?_) (bA14 46 15) rfl rfl (any_of HT_.1 (by kernel_rfl)) (fun _ _ _ h => h) (Or.inl ⟨by rfl, ?_⟩) ?_ ?_
                    rotate_left; (focus intro w'; go_simp; with_reducible rfl); rotate_left; focus (simp only [Act.put, sI14, sZ14, sS14, i64_w, i32_w] <;> rfl)
                    refine pure_ (i := 4) (N := some 112) (v := ?_) (a' := ?_) (bA14 46 31) rfl rfl (any_of HT_.1 (by kernel_rfl)) (fun _ _ _ h => h) (Or.inl ⟨by rfl, ?_⟩) ?_ ?_
                    rotate_left; (focus intro w'; go_simp; with_reducible rfl); rotate_left; focus (simp only [Act.put, sI14, sZ14, sS14, i64_w, i32_w] <;> rfl)
                    refine pure_ (i := 5) (N := some 113) (v := ?_) (a' := ?_) (bA14 46 63) rfl rfl (any_of HT_.1 (by kernel_rfl)) (fun _ _ _ h => h) (Or.inl ⟨by rfl, ?_⟩) ?_ ?_
                    rotate_left; (focus intro w'; go_simp; with_reducible rfl); rotate_left; focus (simp only [Act.put, sI14, sZ14, sS14, i64_w, i32_w] <;> rfl)
                    refine pure_ (i := 7) (N := some 115) (v := ?_) (a' := ?_) (bA14 46 191) rfl rfl (any_of HT_.1 (by kernel_rfl)) (fun _ _ _ h => h) (Or.inl ⟨by rfl, ?_⟩) ?_ ?_
                    rotate_left; (focus intro w'; go_simp; with_reducible rfl); rotate_left; focus (simp only [Act.put, sI14, sZ14, sS14, i64_w, i32_w] <;> rfl)
                    refine pure_ (i := 8) (N := some 116) (v := ?_) (a' := ?_) (bA14 46 447) rfl rfl (any_of HT_.1 (by kernel_rfl)) (fun _ _ _ h => h) (Or.inl ⟨by rfl, ?_⟩) ?_ ?_
                    rotate_left; (focus intro w'; go_simp; with_reducible rfl); rotate_left; focus (simp only [Act.put, sI14, sZ14, sS14, i64_w, i32_w] <;> rfl)
                    refine pure_ (i := 9) (N := some 117) (v := ?_) (a' := ?_) (bA14 46 959) rfl rfl (any_of HT_.1 (by kernel_rfl)) (fun _ _ _ h => h) (Or.inl ⟨by rfl, ?_⟩) ?_ ?_
                    rotate_left; (focus intro w'; go_simp; with_reducible rfl); rotate_left; focus (simp only [Act.put, sI14, sZ14, sS14, i64_w, i32_w] <;> rfl)
                    refine take_ (i := 6) (N := some 114) (v := ?_) (a' := ?_) (bA14 46 1023) rfl rfl (take_ofW HT_.1 HW_.1 (by kernel_rfl)) (fun _ _ _ h => h) (Or.inl ⟨by rfl, ?_⟩) hHeld ?_ ?_
                    rotate_left
                    ·rintro w' ⟨s0, s1, s2, s3, s4, s5⟩
                     go_simp
                     with_reducible rfl
                    rotate_left
                    ·simp only [Act.put, sI14, sZ14, sS14, i64_w, i32_w]
                     rfl
                    refine take_ (i := 10) (N := some 118) (v := ?_) (a' := ?_) (bA14 46 2047) rfl rfl (take_ofW HT_.1 HW_.1 (by kernel_rfl)) (fun _ _ _ h => h) (Or.inl ⟨by rfl, ?_⟩) hHeld ?_ ?_
                    rotate_left
                    ·rintro w' ⟨s0, s1, s2, s3, s4, s5⟩
                     go_simp
                     with_reducible rfl
                    rotate_left
                    ·simp only [Act.put, sI14, sZ14, sS14, i64_w, i32_w]
                     rfl
                    refine one_ (i := 11) (N := some 119) (bA14 46 4095) rfl rfl (one_of HT_.1 (by kernel_rfl)) (by decide) (fun K hK => ?_)
                    refine goes_ Tryd.func9 (by kernel_rfl) rfl #[.agg #[.int .i64 t185, .int .u64 t186], .int .i64 (rd t179 (ji58))] (by rfl) rfl rfl (by (try simp only [List.map_toArray, List.map_cons, List.map_nil]); first | done | (simp only [hji58]; rfl) | rfl | (simp only [List.length_drop, List.length_take]; rfl)) ?_
                    with_reducible refine (seqs_Seen.calls t185 t186 (rd t179 (ji58)) true _ A65.1).mono ?_
                    rintro e w101 ⟨rfl, hb⟩
                    have HS4_ := (hb.cell (pl14 _ _ (hHeld.2.2.2.2.1))).trans (hHeld.2.2.2.2.1)
                    have HS5_ := (hb.cell (pl14 _ _ (hHeld.2.2.2.2.2))).trans (hHeld.2.2.2.2.2)
                    refine ⟨_, rfl, ?_⟩
                    have n0_ := Aside0.mk (Kd.R_below (by (with_reducible repeat (first | apply Kd.R_alloc | apply Kd.R_drewN | apply Kd.R_drew)); exact HO_10.1) hb)
                    have n1_ := Aside0.mk (Kd.R_below (by (with_reducible repeat (first | apply Kd.R_alloc | apply Kd.R_drewN | apply Kd.R_drew)); exact HO191.1) hb)
                    have n2_ := Aside0.mk (blk_below (g := gb173) (o := .cells #[.int .i64 x174000_1, .int .u64 x174001_1] 26 (0, 0)) (by (with_reducible repeat (first | refine blk_drewN ?_ _ | refine blk_drew ?_ | refine blk_alloc ?_ _)); exact BK173.1) hb)
                    have n3_ := Aside0.mk (blk_below (g := gb188) (o := .cells #[.int .i64 t185, .int .u64 t186] 26 (0, 0)) (by (with_reducible repeat (first | refine blk_drewN ?_ _ | refine blk_drew ?_ | refine blk_alloc ?_ _)); exact BK188.1) hb)
                    have n4_ := Aside0.mk (below_step (by repeat (first | (with_reducible first | exact HB.1 | apply pa14 | apply pd14 | apply pe14 | refine below_set ?_ GE173.1 | refine below_set ?_ GE188.1) | exact HB.1)) hb)
                    clear HO_10
                    clear HO191
                    clear BK173
                    clear BK188
                    clear HB
                    have HO_10 := n0_
                    have HO191 := n1_
                    have BK173 := n2_
                    have BK188 := n3_
                    have HB := n4_
                    clear n0_ n1_ n2_ n3_ n4_
                    (try clear hb)
                    (try clear hb2)
                    (try clear hk)
                    (try clear hi)
                    refine hK.out _ _ ⟨(blk_cell BK188.1 0).trans rfl, (blk_cell BK188.1 1).trans rfl, (blk_cell BK173.1 0).trans rfl, (blk_cell BK173.1 1).trans rfl, HS4_, HS5_⟩ (fun hHeld => ?_)
                    clear hK K
                    refine norm_ (a' := ?_) ?_ ?_
                    rotate_left
                    ·show Act.put _ (some 119) _ = _
                     simp only [Act.put, sI14, sZ14, sS14, i64_w, i32_w]
                     rfl
                    refine pure_ (i := 12) (N := some 120) (v := ?_) (a' := ?_) (bA14 46 8191) rfl rfl (any_of HT_.1 (by kernel_rfl)) (fun _ _ _ h => h) (Or.inl ⟨by rfl, ?_⟩) ?_ ?_
                    rotate_left; (focus intro w'; go_simp; with_reducible rfl); rotate_left; focus (simp only [Act.put, sI14, sZ14, sS14, i64_w, i32_w] <;> rfl)
                    refine pure_ (i := 13) (N := some 121) (v := ?_) (a' := ?_) (bA14 46 16383) rfl rfl (any_of HT_.1 (by kernel_rfl)) (fun _ _ _ h => h) (Or.inl ⟨by rfl, ?_⟩) ?_ ?_
                    rotate_left; (focus intro w'; go_simp; with_reducible rfl); rotate_left; focus (simp only [Act.put, sI14, sZ14, sS14, i64_w, i32_w] <;> rfl)
                    refine pure_ (i := 15) (N := some 123) (v := ?_) (a' := ?_) (bA14 46 49151) rfl rfl (any_of HT_.1 (by kernel_rfl)) (fun _ _ _ h => h) (Or.inl ⟨by rfl, ?_⟩) ?_ ?_
                    rotate_left; (focus intro w'; go_simp; with_reducible rfl); rotate_left; focus (simp only [Act.put, sI14, sZ14, sS14, i64_w, i32_w] <;> rfl)
                    refine pure_ (i := 16) (N := some 124) (v := ?_) (a' := ?_) (bA14 46 114687) rfl rfl (any_of HT_.1 (by kernel_rfl)) (fun _ _ _ h => h) (Or.inl ⟨by rfl, ?_⟩) ?_ ?_
                    rotate_left; (focus intro w'; go_simp; with_reducible rfl); rotate_left; focus (simp only [Act.put, sI14, sZ14, sS14, i64_w, i32_w] <;> rfl)
                    refine pure_ (i := 17) (N := some 125) (v := ?_) (a' := ?_) (bA14 46 245759) rfl rfl (any_of HT_.1 (by kernel_rfl)) (fun _ _ _ h => h) (Or.inl ⟨by rfl, ?_⟩) ?_ ?_
                    rotate_left; (focus intro w'; go_simp; with_reducible rfl); rotate_left; focus (simp only [Act.put, sI14, sZ14, sS14, i64_w, i32_w] <;> rfl)
                    refine take_ (i := 14) (N := some 122) (v := ?_) (a' := ?_) (bA14 46 262143) rfl rfl (take_ofW HT_.1 HW_.1 (by kernel_rfl)) (fun _ _ _ h => h) (Or.inl ⟨by rfl, ?_⟩) hHeld ?_ ?_
                    rotate_left
                    ·rintro w' ⟨s0, s1, s2, s3, s4, s5⟩
                     go_simp
                     with_reducible rfl
                    rotate_left
                    ·simp only [Act.put, sI14, sZ14, sS14, i64_w, i32_w]
                     rfl
                    refine take_ (i := 18) (N := some 126) (v := ?_) (a' := ?_) (bA14 46 524287) rfl rfl (take_ofW HT_.1 HW_.1 (by kernel_rfl)) (fun _ _ _ h => h) (Or.inl ⟨by rfl, ?_⟩) hHeld ?_ ?_
                    rotate_left
                    ·rintro w' ⟨s0, s1, s2, s3, s4, s5⟩
                     go_simp
                     with_reducible rfl
                    rotate_left
                    ·simp only [Act.put, sI14, sZ14, sS14, i64_w, i32_w]
                     rfl
                    refine one_ (i := 19) (N := some 127) (bA14 46 1048575) rfl rfl (one_of HT_.1 (by kernel_rfl)) (by decide) (fun K hK => ?_)
                    refine goes_ Tryd.func9 (by kernel_rfl) rfl #[.agg #[.int .i64 x174000_1, .int .u64 x174001_1], .int .i64 (rd t179 (ji58))] (by rfl) rfl rfl (by (try simp only [List.map_toArray, List.map_cons, List.map_nil]); first | done | (simp only [hji58]; rfl) | rfl | (simp only [List.length_drop, List.length_take]; rfl)) ?_
                    with_reducible refine (seqs_Seen.calls x174000_1 x174001_1 (rd t179 (ji58)) false _ A67.1).mono ?_
                    rintro e w102 ⟨rfl, hb⟩
                    have HS4_ := (hb.cell (pl14 _ _ (hHeld.2.2.2.2.1))).trans (hHeld.2.2.2.2.1)
                    have HS5_ := (hb.cell (pl14 _ _ (hHeld.2.2.2.2.2))).trans (hHeld.2.2.2.2.2)
                    refine ⟨_, rfl, ?_⟩
                    have n0_ := Aside0.mk (Kd.R_below (by (with_reducible repeat (first | apply Kd.R_alloc | apply Kd.R_drewN | apply Kd.R_drew)); exact HO_10.1) hb)
                    have n1_ := Aside0.mk (Kd.R_below (by (with_reducible repeat (first | apply Kd.R_alloc | apply Kd.R_drewN | apply Kd.R_drew)); exact HO191.1) hb)
                    have n2_ := Aside0.mk (blk_below (g := gb173) (o := .cells #[.int .i64 x174000_1, .int .u64 x174001_1] 26 (0, 0)) (by (with_reducible repeat (first | refine blk_drewN ?_ _ | refine blk_drew ?_ | refine blk_alloc ?_ _)); exact BK173.1) hb)
                    have n3_ := Aside0.mk (blk_below (g := gb188) (o := .cells #[.int .i64 t185, .int .u64 t186] 26 (0, 0)) (by (with_reducible repeat (first | refine blk_drewN ?_ _ | refine blk_drew ?_ | refine blk_alloc ?_ _)); exact BK188.1) hb)
                    have n4_ := Aside0.mk (below_step (by repeat (first | (with_reducible first | exact HB.1 | apply pa14 | apply pd14 | apply pe14 | refine below_set ?_ GE173.1 | refine below_set ?_ GE188.1) | exact HB.1)) hb)
                    clear HO_10
                    clear HO191
                    clear BK173
                    clear BK188
                    clear HB
                    have HO_10 := n0_
                    have HO191 := n1_
                    have BK173 := n2_
                    have BK188 := n3_
                    have HB := n4_
                    clear n0_ n1_ n2_ n3_ n4_
                    (try clear hb)
                    (try clear hb2)
                    (try clear hk)
                    (try clear hi)
                    obtain ⟨Ao103, co103, eo103⟩ := Kd.R_slice HO191.1
                    (first | subst eo103 | (injection eo103 with f1_ f2_ f3_; have f4_ := f1_.symm; have f5_ := f3_.symm; clear f1_ f2_ f3_; subst f4_; subst f5_))
                    refine hK.out _ _ ⟨(blk_cell BK188.1 0).trans rfl, (blk_cell BK188.1 1).trans rfl, (blk_cell BK173.1 0).trans rfl, (blk_cell BK173.1 1).trans rfl, HS4_, HS5_⟩ (fun hHeld => ?_)
                    clear hK K
                    refine norm_ (a' := ?_) ?_ ?_
                    rotate_left
                    ·show Act.put _ (some 127) _ = _
                     simp only [Act.put, sI14, sZ14, sS14, i64_w, i32_w]
                     rfl
                    refine pure_ (i := 20) (N := some 128) (v := ?_) (a' := ?_) (bA14 46 2097151) rfl rfl (any_of HT_.1 (by kernel_rfl)) (fun _ _ _ h => h) (Or.inl ⟨by rfl, ?_⟩) ?_ ?_
                    rotate_left; (focus intro w'; go_simp; with_reducible rfl); rotate_left; focus (simp only [Act.put, sI14, sZ14, sS14, i64_w, i32_w] <;> rfl)
                    refine pure_ (i := 21) (N := some 129) (v := ?_) (a' := ?_) (bA14 46 4194303) rfl rfl (any_of HT_.1 (by kernel_rfl)) (fun _ _ _ h => h) (Or.inl ⟨by rfl, ?_⟩) ?_ ?_
                    rotate_left; (focus intro w'; go_simp; with_reducible rfl); rotate_left; focus (simp only [Act.put, sI14, sZ14, sS14, i64_w, i32_w] <;> rfl)
                    refine pure_ (i := 22) (N := some 130) (v := ?_) (a' := ?_) (bA14 46 8388607) rfl rfl (any_of HT_.1 (by kernel_rfl)) (fun _ _ _ h => h) (Or.inl ⟨by rfl, ?_⟩) ?_ ?_
                    rotate_left; (focus intro w'; go_simp; with_reducible rfl); rotate_left; focus (simp only [Act.put, sI14, sZ14, sS14, i64_w, i32_w] <;> rfl)
                    refine pure_ (i := 23) (N := some 131) (v := ?_) (a' := ?_) (bA14 46 16777215) rfl rfl (any_of HT_.1 (by kernel_rfl)) (fun _ _ _ h => h) (Or.inl ⟨by rfl, ?_⟩) ?_ ?_
                    rotate_left; (focus intro w'; go_simp; with_reducible rfl); rotate_left; focus (simp only [Act.put, sI14, sZ14, sS14, i64_w, i32_w] <;> rfl)
                    refine pure_ (i := 24) (N := some 132) (v := ?_) (a' := ?_) (bA14 46 33554431) rfl rfl (any_of HT_.1 (by kernel_rfl)) (fun _ _ _ h => h) (Or.inl ⟨by rfl, ?_⟩) ?_ ?_
                    rotate_left; (focus intro w'; go_simp; with_reducible rfl); rotate_left; focus (simp only [Act.put, sI14, sZ14, sS14, i64_w, i32_w] <;> rfl)
                    refine pure_ (i := 25) (N := some 133) (v := ?_) (a' := ?_) (bA14 46 67108863) rfl rfl (any_of HT_.1 (by kernel_rfl)) (fun _ _ _ h => h) (Or.inl ⟨by rfl, ?_⟩) ?_ ?_
                    rotate_left; (focus intro w'; go_simp; with_reducible rfl); rotate_left; focus (simp only [Act.put, sI14, sZ14, sS14, i64_w, i32_w] <;> rfl)
                    refine pure_ (i := 26) (N := some 134) (v := ?_) (a' := ?_) (bA14 46 134217727) rfl rfl (any_of HT_.1 (by kernel_rfl)) (fun _ _ _ h => h) (Or.inl ⟨by rfl, ?_⟩) ?_ ?_
                    rotate_left; (focus intro w'; go_simp; with_reducible rfl); rotate_left; focus (simp only [Act.put, sI14, sZ14, sS14, i64_w, i32_w] <;> rfl)
                    refine pure_ (i := 27) (N := some 135) (v := ?_) (a' := ?_) (bA14 46 268435455) rfl rfl (any_of HT_.1 (by kernel_rfl)) (fun _ _ _ h => h) (Or.inl ⟨by rfl, ?_⟩) ?_ ?_
                    rotate_left; (focus intro w'; go_simp; with_reducible rfl); rotate_left; focus (simp only [Act.put, sI14, sZ14, sS14, i64_w, i32_w] <;> rfl)
                    refine pure_ (i := 28) (N := some 136) (v := ?_) (a' := ?_) (bA14 46 536870911) rfl rfl (any_of HT_.1 (by kernel_rfl)) (fun _ _ _ h => h) (Or.inl ⟨by rfl, ?_⟩) ?_ ?_
                    rotate_left; (focus intro w'; go_simp; with_reducible rfl); rotate_left; focus (simp only [Act.put, sI14, sZ14, sS14, i64_w, i32_w] <;> rfl)
                    refine pure_ (i := 29) (N := some 137) (v := ?_) (a' := ?_) (bA14 46 1073741823) rfl rfl (any_of HT_.1 (by kernel_rfl)) (fun _ _ _ h => h) (Or.inl ⟨by rfl, ?_⟩) ?_ ?_
                    rotate_left; (focus intro w'; go_simp; with_reducible rfl); rotate_left; focus (simp only [Act.put, sI14, sZ14, sS14, i64_w, i32_w] <;> rfl)
                    refine pure_ (i := 30) (N := some 138) (v := ?_) (a' := ?_) (bA14 46 2147483647) rfl rfl (any_of HT_.1 (by kernel_rfl)) (fun _ _ _ h => h) (Or.inl ⟨by rfl, ?_⟩) ?_ ?_
                    rotate_left; (focus intro w'; go_simp; with_reducible rfl); rotate_left; focus (simp only [Act.put, sI14, sZ14, sS14, i64_w, i32_w] <;> rfl)
                    refine pure_ (i := 31) (N := some 139) (v := undef) (a' := ?_) (bA14 46 4294967295) rfl rfl (any_of HT_.1 (by kernel_rfl)) (fun _ _ _ h => h) (Or.inr ⟨by rfl, rfl⟩) ?_ ?_
                    rotate_left
                    ·simp only [Act.put, sI14, sZ14, sS14, i64_w, i32_w]
                     rfl
                    refine pure_ (i := 32) (N := some 140) (v := undef) (a' := ?_) (bA14 46 8589934591) rfl rfl (any_of HT_.1 (by kernel_rfl)) (fun _ _ _ h => h) (Or.inr ⟨by rfl, rfl⟩) ?_ ?_
                    rotate_left
                    ·simp only [Act.put, sI14, sZ14, sS14, i64_w, i32_w]
                     rfl
                    refine pure_ (i := 33) (N := some 141) (v := undef) (a' := ?_) (bA14 46 17179869183) rfl rfl (any_of HT_.1 (by kernel_rfl)) (fun _ _ _ h => h) (Or.inr ⟨by rfl, rfl⟩) ?_ ?_
                    rotate_left
                    ·simp only [Act.put, sI14, sZ14, sS14, i64_w, i32_w]
                     rfl
                    refine pure_ (i := 34) (N := some 142) (v := undef) (a' := ?_) (bA14 46 34359738367) rfl rfl (any_of HT_.1 (by kernel_rfl)) (fun _ _ _ h => h) (Or.inr ⟨by rfl, rfl⟩) ?_ ?_
                    rotate_left
                    ·simp only [Act.put, sI14, sZ14, sS14, i64_w, i32_w]
                     rfl
                    refine pure_ (i := 35) (N := some 143) (v := undef) (a' := ?_) (bA14 46 68719476735) rfl rfl (any_of HT_.1 (by kernel_rfl)) (fun _ _ _ h => h) (Or.inr ⟨by rfl, rfl⟩) ?_ ?_
                    rotate_left
                    ·simp only [Act.put, sI14, sZ14, sS14, i64_w, i32_w]
                     rfl
                    refine pure_ (i := 36) (N := some 144) (v := undef) (a' := ?_) (bA14 46 137438953471) rfl rfl (any_of HT_.1 (by kernel_rfl)) (fun _ _ _ h => h) (Or.inr ⟨by rfl, rfl⟩) ?_ ?_
                    rotate_left
                    ·simp only [Act.put, sI14, sZ14, sS14, i64_w, i32_w]
                     rfl
                    refine pure_ (i := 37) (N := some 145) (v := undef) (a' := ?_) (bA14 46 274877906943) rfl rfl (any_of HT_.1 (by kernel_rfl)) (fun _ _ _ h => h) (Or.inr ⟨by rfl, rfl⟩) ?_ ?_
                    rotate_left
                    ·simp only [Act.put, sI14, sZ14, sS14, i64_w, i32_w]
                     rfl
                    refine pure_ (i := 38) (N := some 146) (v := ?_) (a' := ?_) (bA14 46 549755813887) rfl rfl (any_of HT_.1 (by kernel_rfl)) (fun _ _ _ h => h) (Or.inl ⟨by rfl, ?_⟩) ?_ ?_
                    rotate_left; (focus intro w'; go_simp; with_reducible rfl); rotate_left; focus (simp only [Act.put, sI14, sZ14, sS14, i64_w, i32_w] <;> rfl)
                    refine pure_ (i := 39) (N := some 147) (v := ?_) (a' := ?_) (bA14 46 1099511627775) rfl rfl (any_of HT_.1 (by kernel_rfl)) (fun _ _ _ h => h) (Or.inl ⟨by rfl, ?_⟩) ?_ ?_
                    rotate_left; (focus intro w'; go_simp; with_reducible rfl); rotate_left; focus (simp only [Act.put, sI14, sZ14, sS14, i64_w, i32_w] <;> rfl)
                    refine pure_ (i := 40) (N := some 148) (v := ?_) (a' := ?_) (bA14 46 2199023255551) rfl rfl (any_of HT_.1 (by kernel_rfl)) (fun _ _ _ h => h) (Or.inl ⟨by rfl, ?_⟩) ?_ ?_
                    rotate_left; (focus intro w'; go_simp; with_reducible rfl); rotate_left; focus (simp only [Act.put, sI14, sZ14, sS14, i64_w, i32_w] <;> rfl)
                    refine take_ (i := 41) (N := some 149) (v := ?_) (a' := ?_) (bA14 46 4398046511103) rfl rfl (take_ofW HT_.1 HW_.1 (by kernel_rfl)) (fun _ _ _ h => h) (Or.inl ⟨by rfl, ?_⟩) hHeld ?_ ?_
                    rotate_left
                    ·rintro w' ⟨s0, s1, s2, s3, s4, s5⟩
                     go_simp
                     with_reducible rfl
                    rotate_left
                    ·simp only [Act.put, sI14, sZ14, sS14, i64_w, i32_w]
                     rfl
                    refine one_ (i := 42) (N := some 150) (bA14 46 8796093022207) rfl rfl (one_of HT_.1 (by kernel_rfl)) (by decide) (fun K hK => ?_)
                    refine goes_ Tryd.func12 (by kernel_rfl) rfl #[.agg #[.int .i64 x174000_1, .int .u64 x174001_1], .int .i64 0] (by rfl) rfl rfl (by (try simp only [List.map_toArray, List.map_cons, List.map_nil]); first | done | rfl | (simp only [List.length_drop, List.length_take]; rfl)) ?_
                    with_reducible refine (seqs_Missing.calls kj49 x174000_1 x174001_1 0 t200 _ A88.1).mono ?_
                    rintro e w104 ⟨v201, rfl, ho0, hb⟩
                    have HS4_ := (hb.cell (pl14 _ _ (hHeld.2.2.2.2.1))).trans (hHeld.2.2.2.2.1)
                    have HS5_ := (hb.cell (pl14 _ _ (hHeld.2.2.2.2.2))).trans (hHeld.2.2.2.2.2)
                    refine ⟨_, rfl, ?_⟩
                    have n0_ := Aside0.mk (Kd.R_elder' (by (with_reducible repeat (first | apply Kd.R_alloc | apply Kd.R_drewN | apply Kd.R_drew)); exact HO_10.1) (Kd.R_base ho0) hb)
                    have n1_ := Aside0.mk (Kd.R_elder' (by (with_reducible repeat (first | apply Kd.R_alloc | apply Kd.R_drewN | apply Kd.R_drew)); exact HO191.1) (Kd.R_base ho0) hb)
                    have n2_ := Aside0.mk (Kd.R_lower (Kd.R_new' (Kd.R_new' ho0 (Kd.R_lt (by (with_reducible repeat (first | apply Kd.R_alloc | apply Kd.R_drewN | apply Kd.R_drew)); exact HO_10.1))) (Kd.R_lt (by (with_reducible repeat (first | apply Kd.R_alloc | apply Kd.R_drewN | apply Kd.R_drew)); exact HO191.1))) (below_size (by repeat (first | (with_reducible first | exact HB.1 | apply pa14 | apply pd14 | apply pe14 | refine below_set ?_ GE173.1 | refine below_set ?_ GE188.1) | exact HB.1))))
                    have n3_ := Aside0.mk (blk_below (g := gb173) (o := .cells #[.int .i64 x174000_1, .int .u64 x174001_1] 26 (0, 0)) (by (with_reducible repeat (first | refine blk_drewN ?_ _ | refine blk_drew ?_ | refine blk_alloc ?_ _)); exact BK173.1) hb)
                    have n4_ := Aside0.mk (blk_below (g := gb188) (o := .cells #[.int .i64 t185, .int .u64 t186] 26 (0, 0)) (by (with_reducible repeat (first | refine blk_drewN ?_ _ | refine blk_drew ?_ | refine blk_alloc ?_ _)); exact BK188.1) hb)
                    have n5_ := Aside0.mk (below_step (by repeat (first | (with_reducible first | exact HB.1 | apply pa14 | apply pd14 | apply pe14 | refine below_set ?_ GE173.1 | refine below_set ?_ GE188.1) | exact HB.1)) hb)
                    clear HO_10
                    clear HO191
                    clear BK173
                    clear BK188
                    clear HB
                    have HO_10 := n0_
                    have HO191 := n1_
                    have HO202 := n2_
                    have BK173 := n3_
                    have BK188 := n4_
                    have HB := n5_
                    clear n0_ n1_ n2_ n3_ n4_ n5_
                    (try clear hb)
                    (try clear hb2)
                    (try clear hk)
                    (try clear hi)
                    (try clear ho0)
                    obtain ⟨Ao105, co105, eo105⟩ := Kd.R_slice HO202.1
                    (first | subst eo105 | (injection eo105 with f1_ f2_ f3_; have f4_ := f1_.symm; have f5_ := f3_.symm; clear f1_ f2_ f3_; subst f4_; subst f5_))
                    refine hK.out _ _ ⟨(blk_cell BK188.1 0).trans rfl, (blk_cell BK188.1 1).trans rfl, (blk_cell BK173.1 0).trans rfl, (blk_cell BK173.1 1).trans rfl, HS4_, HS5_⟩ (fun hHeld => ?_)
                    clear hK K
                    refine norm_ (a' := ?_) ?_ ?_
                    rotate_left
                    ·show Act.put _ (some 150) _ = _
                     simp only [Act.put, sI14, sZ14, sS14, i64_w, i32_w]
                     rfl
                    refine one_ (i := 43) (N := some 151) (bA14 46 17592186044415) rfl rfl (one_of HT_.1 (by kernel_rfl)) (by decide) (fun K hK => ?_)
                    refine goes_ Tryd.func13 (by kernel_rfl) rfl #[.slice Ao105 t200.length co105, .slice none 0 0] (by rfl) rfl rfl (by (try simp only [List.map_toArray, List.map_cons, List.map_nil]); first | done | rfl | (simp only [List.length_drop, List.length_take]; rfl)) ?_
                    refine (godwitref10_Ints.calls kj49 _ _ t200 _ _ ([] : List Int) t203 _ ?side1 ?side2 ?side3 ?side4 A89.1).mono ?_
                    (case side1 => repeat (first | exact (Kd.R_reads' HO202.1).2.2 | (with_reducible refine Kd.C_alloc ?_ _) | (with_reducible refine Kd.C_drewN ?_ _) | (with_reducible refine Kd.C_drew ?_)))
                    (case side2 => exact (Kd.R_reads' HO202.1).2.1)
                    (case side3 => exact Kd.C_nil _ _)
                    (case side4 => exact Nat.le_refl _)
                    rintro e w' ⟨rfl, ⟨nd, rfl⟩⟩
                    refine ⟨_, rfl, ?_⟩
                    refine hK.out _ _ ⟨(blk_cell BK188.1 0).trans rfl, (blk_cell BK188.1 1).trans rfl, (blk_cell BK173.1 0).trans rfl, (blk_cell BK173.1 1).trans rfl, hHeld.2.2.2.2.1, hHeld.2.2.2.2.2⟩ (fun hHeld => ?_)
                    clear hK K
                    refine norm_ (a' := ?_) ?_ ?_
                    rotate_left
                    ·show Act.put _ (some 151) _ = _
                     simp only [Act.put, sI14, sZ14, sS14, i64_w, i32_w]
                     rfl
                    refine pure_ (i := 44) (N := some 152) (v := ?_) (a' := ?_) (bA14 46 35184372088831) rfl rfl (any_of HT_.1 (by kernel_rfl)) (fun _ _ _ h => h) (Or.inl ⟨by rfl, ?_⟩) ?_ ?_
                    rotate_left; (focus intro w'; go_simp; with_reducible rfl); rotate_left; focus (simp only [Act.put, sI14, sZ14, sS14, i64_w, i32_w] <;> rfl)
                    refine pure_ (i := 45) (N := some 4) (v := ?_) (a' := ?_) (bA14 46 70368744177663) rfl rfl (any_of HT_.1 (by kernel_rfl)) (fun _ _ _ h => h) (Or.inl ⟨by rfl, ?_⟩) ?_ ?_
                    rotate_left; (focus intro w'; go_simp; with_reducible rfl); rotate_left; focus (simp only [Act.put, sI14, sZ14, sS14, i64_w, i32_w] <;> rfl)
                    refine done_ (done_of HT_.1 (by kernel_rfl)) ?_
                    try go_wp2
                    go_ret
                    first | (with_reducible exact (clash2 A88 A62).elim) | (with_reducible exact (clash2 A62 A88).elim) | (with_reducible exact (clash2 A67 A65).elim) | (with_reducible exact (clash2 A65 A67).elim) | (with_reducible exact (clash2 A61 A28).elim) | (with_reducible exact (clash2 A28 A61).elim) | exact ⟨by first | rfl | (simp [errW_none, errW_some] <;> rfl) | (simp only [← hji58]; first | rfl | (simp [errW_none, errW_some] <;> rfl)) | (simp [*, errW_none, errW_some] <;> rfl), by repeat (first | (with_reducible first | exact HB.1 | apply pa14 | apply pd14 | apply pe14 | refine below_set ?_ GE173.1 | refine below_set ?_ GE188.1) | exact HB.1)⟩
                   ·rw [if_neg c87] at H
                    have c87b0 : ((t189.length : Int) == 0) = false := beq_eq_false_iff_ne.mpr c87
                    have c87b1 : ((t189.length : Int) != 0) = true := bne_iff_ne.mpr c87
                    have c87b2 : ¬ (t189 = []) := fun h_ => c87 (by rw [h_]; rfl)
                    by_cases c106 : 0 < (t189.length : Int)
                    ·rw [if_pos c106] at H
                     have c106b0 : decide (0 < (t189.length : Int)) = true := decide_eq_true c106
                     have c106b1 : decide (0 < t189.length) = true := decide_eq_true (by omega)
                     clear c106
                     by_cases c107 : 0 < (t179.length : Int)
                     ·rw [if_pos c107] at H
                      have c107b0 : decide (0 < (t179.length : Int)) = true := decide_eq_true c107
                      have c107b1 : decide (0 < t179.length) = true := decide_eq_true (by omega)
                      clear c107
                      by_cases c108 : (rd t189 0) > (rd t179 0)
                      ·rw [if_pos c108] at H
                       have c108b0 : decide ((rd t179 0) < (rd t189 0)) = true := decide_eq_true c108
                       clear c108
                       replace H := Option.bind_eq_some_iff.mp H
                       obtain ⟨t206, A1090, H⟩ := H
                       replace H : ((godwitref10_Ints.f kj49 t206 ([] : List Int)).bind fun t209 => (some t209)) = some r := H
                       have A109 := Aside0.mk A1090
                       clear A1090
                       replace H := Option.bind_eq_some_iff.mp H
                       obtain ⟨t209, A1100, H⟩ := H
                       replace H : (some t209) = some r := H
                       have A110 := Aside0.mk A1100
                       clear A1100
                       obtain rfl := Option.some.inj H
                       try go_wp2
                       have n0_ := Aside0.mk (Kd.R_drew HO_10.1)
                       have n1_ := Aside0.mk (blk_drew BK173.1)
                       have n2_ := Aside0.mk (pe14 HB.1)
                       clear HO_10
                       clear BK173
                       clear HB
                       have HO_10 := n0_
                       have BK173 := n1_
                       have HB := n2_
                       clear n0_ n1_ n2_
                       obtain ⟨Ao112, co112, eo112⟩ := Kd.R_slice HO_10.1
                       (first | subst eo112 | (injection eo112 with f1_ f2_ f3_; have f4_ := f1_.symm; have f5_ := f3_.symm; clear f1_ f2_ f3_; subst f4_; subst f5_))
                       have p184 : 0 ≤ ((ji58) : Int) := of_decide_eq_true (by first | (with_reducible assumption) | assumption)
                       have q184 : (ji58) < (t179.length : Int) := of_decide_eq_true (by first | (with_reducible assumption) | assumption)
                       (try (obtain ⟨A_s, c_s, e_s⟩ := Kd.R_slice HO_10.1; subst e_s))
                       obtain ⟨ad184, e184, hx184_0⟩ := Kd.at_int (Kd.R_reads' HO_10.1).2.2 (ji58) p184 q184
                       cases e184
                       replace p184 := eq_true p184
                       replace q184 := eq_true q184
                       refine start_ (n := 12) (S := fun w' => w'.cell? ⟨gb173, 0, none⟩ = some (.int .i64 x174000_1) ∧ w'.cell? ⟨gb173, 1, none⟩ = some (.int .u64 x174001_1) ∧ w'.cell? (ad184.add ((ji58)).toNat) = some (.int .i64 (rd t179 (ji58)))) (ds := []) (bA14 12 0) (by kernel_rfl) rfl rfl ⟨(blk_cell BK173.1 0).trans rfl, (blk_cell BK173.1 1).trans rfl, hx184_0⟩ (fun hHeld => ?_); refine with_tabW godwitlaw15_SeqsMissing.tab23 godwitlaw15_SeqsMissing.bits23 (fun HT_ HW_ => ?_)
                       generalize wc.drew = w111 at HO_10 BK173 HB hx184_0 hHeld ⊢
                       refine pure_ (i := 1) (N := some 99) (v := ?_) (a' := ?_) (bA14 12 2) rfl rfl (any_of HT_.1 (by kernel_rfl)) (fun _ _ _ h => h) (Or.inl ⟨by rfl, ?_⟩) ?_ ?_
                       rotate_left; (focus intro w'; go_simp; with_reducible rfl); rotate_left; focus (simp only [Act.put, sI14, sZ14, sS14, i64_w, i32_w] <;> rfl)
                       refine pure_ (i := 2) (N := some 100) (v := ?_) (a' := ?_) (bA14 12 6) rfl rfl (any_of HT_.1 (by kernel_rfl)) (fun _ _ _ h => h) (Or.inl ⟨by rfl, ?_⟩) ?_ ?_
                       rotate_left; (focus intro w'; go_simp; with_reducible rfl); rotate_left; focus (simp only [Act.put, sI14, sZ14, sS14, i64_w, i32_w] <;> rfl)
                       refine pure_ (i := 3) (N := some 101) (v := ?_) (a' := ?_) (bA14 12 14) rfl rfl (any_of HT_.1 (by kernel_rfl)) (fun _ _ _ h => h) (Or.inl ⟨by rfl, ?_⟩) ?_ ?_
                       rotate_left; (focus intro w'; go_simp; with_reducible rfl); rotate_left; focus (simp only [Act.put, sI14, sZ14, sS14, i64_w, i32_w] <;> rfl)
                       refine take_ (i := 0) (N := some 98) (v := ?_) (a' := ?_) (bA14 12 15) rfl rfl (take_ofW HT_.1 HW_.1 (by kernel_rfl)) (fun _ _ _ h => h) (Or.inl ⟨by rfl, ?_⟩) hHeld ?_ ?_
                       rotate_left
                       ·rintro w' ⟨s0, s1, s2⟩
                        go_simp
                        with_reducible rfl
                       rotate_left
                       ·simp only [Act.put, sI14, sZ14, sS14, i64_w, i32_w]
                        rfl
                       refine take_ (i := 4) (N := some 102) (v := ?_) (a' := ?_) (bA14 12 31) rfl rfl (take_ofW HT_.1 HW_.1 (by kernel_rfl)) (fun _ _ _ h => h) (Or.inl ⟨by rfl, ?_⟩) hHeld ?_ ?_
                       rotate_left
                       ·rintro w' ⟨s0, s1, s2⟩
                        go_simp
                        with_reducible rfl
                       rotate_left
                       ·simp only [Act.put, sI14, sZ14, sS14, i64_w, i32_w]
                        rfl
                       refine join_ (σ := Nat) 2 (bA14 12 1023) (fun s_ => [(103, .tuple #[.agg #[.int .i64 t185, .int .u64 t186], .int .i64 t187]), (14, .pointer (some ⟨s_, 0, none⟩)), (97, .tuple #[.agg #[.int .i64 t185, .int .u64 t186], .int .i64 t187]), (104, .agg #[.int .i64 t185, .int .u64 t186]), (105, .int .i64 t187)]) (fun s_ w' => (w'.cell? ⟨gb173, 0, none⟩ = some (.int .i64 x174000_1) ∧ w'.cell? ⟨gb173, 1, none⟩ = some (.int .u64 x174001_1) ∧ w'.cell? (ad184.add ((ji58)).toNat) = some (.int .i64 (rd t179 (ji58)))) ∧ (Kd.R (Kd.int .i64) 3 w' w.heap.size (fun _ => True) (.slice (some ad184) t179.length co112) t179) ∧ (w'.heap[gb173]? = some (.cells #[.int .i64 x174000_1, .int .u64 x174001_1] 26 (0, 0))) ∧ (w'.heap[s_]? = some (.cells #[.int .i64 0, .int .u64 0] 26 (0, 0))) ∧ (w.heap.size ≤ s_) ∧ (w.heap.size ≤ s_) ∧ (gb173 ≠ s_) ∧ (s_ ≠ gb173) ∧ (Below w.heap.size w w')) ?_ ?_
                       rotate_left
                       ·intro hCont
                        refine two_ (i := 5) (j := 9) (Ni := some 103) (Nj := some 14) (bA14 12 63) (bA14 12 543) rfl rfl rfl rfl (two_of HT_.1 (by kernel_rfl)) (by decide) (by decide) (fun K hK => ?_) (fun K hK => ?_)
                        ·skip
                         refine goes_ Tryd.func10 (by kernel_rfl) rfl #[.agg #[.int .i64 x174000_1, .int .u64 x174001_1], .int .i64 (rd t179 (ji58))] (by rfl) rfl rfl (by (try simp only [List.map_toArray, List.map_cons, List.map_nil]); first | done | (simp only [hji58]; rfl) | rfl | (simp only [List.length_drop, List.length_take]; rfl)) ?_
                         with_reducible refine (seqs_Accept.calls x174000_1 x174001_1 (rd t179 (ji58)) t185 t186 t187 _ ?side1 A61.1).mono ?_
                         (case side1 => exact LaidT.below HLD.1 (by repeat (first | (with_reducible first | exact HB.1 | apply pa14 | apply pd14 | apply pe14 | refine below_set ?_ GE173.1) | exact HB.1)))
                         rintro e w113 ⟨rfl, hb⟩
                         have HS2_ := (hb.cell (pl14 _ _ (hHeld.2.2))).trans (hHeld.2.2)
                         refine ⟨_, rfl, ?_⟩
                         have n0_ := Aside0.mk (Kd.R_below (by (with_reducible repeat (first | apply Kd.R_alloc | apply Kd.R_drewN | apply Kd.R_drew)); exact HO_10.1) hb)
                         have n1_ := Aside0.mk (blk_below (g := gb173) (o := .cells #[.int .i64 x174000_1, .int .u64 x174001_1] 26 (0, 0)) (by (with_reducible repeat (first | refine blk_drewN ?_ _ | refine blk_drew ?_ | refine blk_alloc ?_ _)); exact BK173.1) hb)
                         have n2_ := Aside0.mk (below_step (by repeat (first | (with_reducible first | exact HB.1 | apply pa14 | apply pd14 | apply pe14 | refine below_set ?_ GE173.1) | exact HB.1)) hb)
                         clear HO_10
                         clear BK173
                         clear HB
                         have HO_10 := n0_
                         have BK173 := n1_
                         have HB := n2_
                         clear n0_ n1_ n2_
                         (try clear hb)
                         (try clear hb2)
                         (try clear hk)
                         (try clear hi)
                         refine hK.out _ _ ⟨(blk_cell BK173.1 0).trans rfl, (blk_cell BK173.1 1).trans rfl, HS2_⟩ (fun hHeld => ?_)
                         clear hK K
                         refine norm_ (a' := ?_) ?_ ?_
                         rotate_left
                         ·show Act.put _ (some 103) _ = _
                          simp only [Act.put, sI14, sZ14, sS14, i64_w, i32_w]
                          rfl
                         refine pure_ (i := 6) (N := some 97) (v := ?_) (a' := ?_) (bA14 12 127) rfl rfl (any_of HT_.1 (by kernel_rfl)) (fun _ _ _ h => h) (Or.inl ⟨by rfl, ?_⟩) ?_ ?_
                         rotate_left; (focus intro w'; go_simp; with_reducible rfl); rotate_left; focus (simp only [Act.put, sI14, sZ14, sS14, i64_w, i32_w] <;> rfl)
                         refine pure_ (i := 7) (N := some 104) (v := ?_) (a' := ?_) (bA14 12 255) rfl rfl (any_of HT_.1 (by kernel_rfl)) (fun _ _ _ h => h) (Or.inl ⟨by rfl, ?_⟩) ?_ ?_
                         rotate_left; (focus intro w'; go_simp; with_reducible rfl); rotate_left; focus (simp only [Act.put, sI14, sZ14, sS14, i64_w, i32_w] <;> rfl)
                         refine pure_ (i := 8) (N := some 105) (v := ?_) (a' := ?_) (bA14 12 511) rfl rfl (any_of HT_.1 (by kernel_rfl)) (fun _ _ _ h => h) (Or.inl ⟨by rfl, ?_⟩) ?_ ?_
                         rotate_left; (focus intro w'; go_simp; with_reducible rfl); rotate_left; focus (simp only [Act.put, sI14, sZ14, sS14, i64_w, i32_w] <;> rfl)
                         refine one_ (i := 9) (N := some 14) (bA14 12 1023) rfl rfl (one_of HT_.1 (by kernel_rfl)) (by decide) (fun K hK => ?_)
                         refine box_step ?hg (N := 14) ?hd (cs := #[.int .i64 0, .int .u64 0]) (t := 26) ?hr ?_; (case hd => rfl); (case hg => rfl); (case hr => first | (go_simp; done) | (go_simp; rfl))
                         intro gb188 hg w114 hbox hb
                         have HS2_ := (hb.cell (pl14 _ _ (hHeld.2.2))).trans (hHeld.2.2)
                         have n0_ := Aside0.mk (Kd.R_below (by (with_reducible repeat (first | apply Kd.R_alloc | apply Kd.R_drewN | apply Kd.R_drew)); exact HO_10.1) hb)
                         have n1_ := Aside0.mk (blk_below (g := gb173) (o := .cells #[.int .i64 x174000_1, .int .u64 x174001_1] 26 (0, 0)) (by (with_reducible repeat (first | refine blk_drewN ?_ _ | refine blk_drew ?_ | refine blk_alloc ?_ _)); exact BK173.1) hb)
                         have n2_ := Aside0.mk (below_step (by repeat (first | (with_reducible first | exact HB.1 | apply pa14 | apply pd14 | apply pe14 | refine below_set ?_ GE173.1) | exact HB.1)) hb)
                         have n3_ := Aside0.mk (hbox)
                         have n4_ := Aside0.mk ((by rw [hg]; exact (below_size (by repeat (first | (with_reducible first | exact HB.1 | apply pa14 | apply pd14 | apply pe14 | refine below_set ?_ GE173.1) | exact HB.1))) : w.heap.size ≤ gb188))
                         have n5_ := Aside0.mk ((by rw [hg]; exact (below_size (by repeat (first | (with_reducible first | exact HB.1 | apply pa14 | apply pd14 | apply pe14 | refine below_set ?_ GE173.1) | exact HB.1))) : w.heap.size ≤ gb188))
                         have n6_ := Aside0.mk ((by rw [hg]; exact Nat.ne_of_lt (blk_lt (g := gb173) (o := .cells #[.int .i64 x174000_1, .int .u64 x174001_1] 26 (0, 0)) (by (with_reducible repeat (first | refine blk_drewN ?_ _ | refine blk_drew ?_ | refine blk_alloc ?_ _)); exact BK173.1)) : gb173 ≠ gb188))
                         have n7_ := Aside0.mk ((by rw [hg]; exact Nat.ne_of_gt (blk_lt (g := gb173) (o := .cells #[.int .i64 x174000_1, .int .u64 x174001_1] 26 (0, 0)) (by (with_reducible repeat (first | refine blk_drewN ?_ _ | refine blk_drew ?_ | refine blk_alloc ?_ _)); exact BK173.1)) : gb188 ≠ gb173))
                         clear HO_10
                         clear BK173
                         clear HB
                         have HO_10 := n0_
                         have BK173 := n1_
                         have HB := n2_
                         have BK188 := n3_
                         have GW188 := n4_
                         have GE188 := n5_
                         have NB173_188 := n6_
                         have NB188_173 := n7_
                         clear n0_ n1_ n2_ n3_ n4_ n5_ n6_ n7_
                         clear hb hbox hg
                         refine hK.out _ _ ⟨(blk_cell BK173.1 0).trans rfl, (blk_cell BK173.1 1).trans rfl, HS2_⟩ (fun hHeld => ?_)
                         clear hK K
                         refine norm_ (a' := ?_) ?_ ?_
                         rotate_left
                         ·show Act.put _ (some 14) _ = _
                          simp only [Act.put, sI14, sZ14, sS14, i64_w, i32_w]
                          rfl
                         exact norm_ (by simp only [putAll, Act.put, sI14, sZ14, sS14]) (hCont (gb188) _ ⟨hHeld, (by (with_reducible repeat (first | apply Kd.R_alloc | apply Kd.R_drewN | apply Kd.R_drew)); exact HO_10.1), (by (with_reducible repeat (first | refine blk_drewN ?_ _ | refine blk_drew ?_ | refine blk_alloc ?_ _)); exact BK173.1), (by (with_reducible repeat (first | refine blk_drewN ?_ _ | refine blk_drew ?_ | refine blk_alloc ?_ _)); exact BK188.1), GW188.1, GE188.1, NB173_188.1, NB188_173.1, (by repeat (first | (with_reducible first | exact HB.1 | apply pa14 | apply pd14 | apply pe14 | refine below_set ?_ GE173.1 | refine below_set ?_ GE188.1) | exact HB.1))⟩)
                        ·skip
                         refine box_step ?hg (N := 14) ?hd (cs := #[.int .i64 0, .int .u64 0]) (t := 26) ?hr ?_; (case hd => rfl); (case hg => rfl); (case hr => first | (go_simp; done) | (go_simp; rfl))
                         intro gb188 hg w113 hbox hb
                         have HS2_ := (hb.cell (pl14 _ _ (hHeld.2.2))).trans (hHeld.2.2)
                         have n0_ := Aside0.mk (Kd.R_below (by (with_reducible repeat (first | apply Kd.R_alloc | apply Kd.R_drewN | apply Kd.R_drew)); exact HO_10.1) hb)
                         have n1_ := Aside0.mk (blk_below (g := gb173) (o := .cells #[.int .i64 x174000_1, .int .u64 x174001_1] 26 (0, 0)) (by (with_reducible repeat (first | refine blk_drewN ?_ _ | refine blk_drew ?_ | refine blk_alloc ?_ _)); exact BK173.1) hb)
                         have n2_ := Aside0.mk (below_step (by repeat (first | (with_reducible first | exact HB.1 | apply pa14 | apply pd14 | apply pe14 | refine below_set ?_ GE173.1) | exact HB.1)) hb)
                         have n3_ := Aside0.mk (hbox)
                         have n4_ := Aside0.mk ((by rw [hg]; exact (below_size (by repeat (first | (with_reducible first | exact HB.1 | apply pa14 | apply pd14 | apply pe14 | refine below_set ?_ GE173.1) | exact HB.1))) : w.heap.size ≤ gb188))
                         have n5_ := Aside0.mk ((by rw [hg]; exact (below_size (by repeat (first | (with_reducible first | exact HB.1 | apply pa14 | apply pd14 | apply pe14 | refine below_set ?_ GE173.1) | exact HB.1))) : w.heap.size ≤ gb188))
                         have n6_ := Aside0.mk ((by rw [hg]; exact Nat.ne_of_lt (blk_lt (g := gb173) (o := .cells #[.int .i64 x174000_1, .int .u64 x174001_1] 26 (0, 0)) (by (with_reducible repeat (first | refine blk_drewN ?_ _ | refine blk_drew ?_ | refine blk_alloc ?_ _)); exact BK173.1)) : gb173 ≠ gb188))
                         have n7_ := Aside0.mk ((by rw [hg]; exact Nat.ne_of_gt (blk_lt (g := gb173) (o := .cells #[.int .i64 x174000_1, .int .u64 x174001_1] 26 (0, 0)) (by (with_reducible repeat (first | refine blk_drewN ?_ _ | refine blk_drew ?_ | refine blk_alloc ?_ _)); exact BK173.1)) : gb188 ≠ gb173))
                         clear HO_10
                         clear BK173
                         clear HB
                         have HO_10 := n0_
                         have BK173 := n1_
                         have HB := n2_
                         have BK188 := n3_
                         have GW188 := n4_
                         have GE188 := n5_
                         have NB173_188 := n6_
                         have NB188_173 := n7_
                         clear n0_ n1_ n2_ n3_ n4_ n5_ n6_ n7_
                         clear hb hbox hg
                         refine hK.out _ _ ⟨(blk_cell BK173.1 0).trans rfl, (blk_cell BK173.1 1).trans rfl, HS2_⟩ (fun hHeld => ?_)
                         clear hK K
                         refine norm_ (a' := ?_) ?_ ?_
                         rotate_left
                         ·show Act.put _ (some 14) _ = _
                          simp only [Act.put, sI14, sZ14, sS14, i64_w, i32_w]
                          rfl
                         refine one_ (i := 5) (N := some 103) (bA14 12 575) rfl rfl (one_of HT_.1 (by kernel_rfl)) (by decide) (fun K hK => ?_)
                         refine goes_ Tryd.func10 (by kernel_rfl) rfl #[.agg #[.int .i64 x174000_1, .int .u64 x174001_1], .int .i64 (rd t179 (ji58))] (by rfl) rfl rfl (by (try simp only [List.map_toArray, List.map_cons, List.map_nil]); first | done | (simp only [hji58]; rfl) | rfl | (simp only [List.length_drop, List.length_take]; rfl)) ?_
                         with_reducible refine (seqs_Accept.calls x174000_1 x174001_1 (rd t179 (ji58)) t185 t186 t187 _ ?side1 A61.1).mono ?_
                         (case side1 => exact LaidT.below HLD.1 (by repeat (first | (with_reducible first | exact HB.1 | apply pa14 | apply pd14 | apply pe14 | refine below_set ?_ GE173.1 | refine below_set ?_ GE188.1) | exact HB.1)))
                         rintro e w114 ⟨rfl, hb⟩
                         have HS2_ := (hb.cell (pl14 _ _ (hHeld.2.2))).trans (hHeld.2.2)
                         refine ⟨_, rfl, ?_⟩
                         have n0_ := Aside0.mk (Kd.R_below (by (with_reducible repeat (first | apply Kd.R_alloc | apply Kd.R_drewN | apply Kd.R_drew)); exact HO_10.1) hb)
                         have n1_ := Aside0.mk (blk_below (g := gb173) (o := .cells #[.int .i64 x174000_1, .int .u64 x174001_1] 26 (0, 0)) (by (with_reducible repeat (first | refine blk_drewN ?_ _ | refine blk_drew ?_ | refine blk_alloc ?_ _)); exact BK173.1) hb)
                         have n2_ := Aside0.mk (blk_below (g := gb188) (o := .cells #[.int .i64 0, .int .u64 0] 26 (0, 0)) (by (with_reducible repeat (first | refine blk_drewN ?_ _ | refine blk_drew ?_ | refine blk_alloc ?_ _)); exact BK188.1) hb)
                         have n3_ := Aside0.mk (below_step (by repeat (first | (with_reducible first | exact HB.1 | apply pa14 | apply pd14 | apply pe14 | refine below_set ?_ GE173.1 | refine below_set ?_ GE188.1) | exact HB.1)) hb)
                         clear HO_10
                         clear BK173
                         clear BK188
                         clear HB
                         have HO_10 := n0_
                         have BK173 := n1_
                         have BK188 := n2_
                         have HB := n3_
                         clear n0_ n1_ n2_ n3_
                         (try clear hb)
                         (try clear hb2)
                         (try clear hk)
                         (try clear hi)
                         refine hK.out _ _ ⟨(blk_cell BK173.1 0).trans rfl, (blk_cell BK173.1 1).trans rfl, HS2_⟩ (fun hHeld => ?_)
                         clear hK K
                         refine norm_ (a' := ?_) ?_ ?_
                         rotate_left
                         ·show Act.put _ (some 103) _ = _
                          simp only [Act.put, sI14, sZ14, sS14, i64_w, i32_w]
                          rfl
                         refine pure_ (i := 6) (N := some 97) (v := ?_) (a' := ?_) (bA14 12 639) rfl rfl (any_of HT_.1 (by kernel_rfl)) (fun _ _ _ h => h) (Or.inl ⟨by rfl, ?_⟩) ?_ ?_
                         rotate_left; (focus intro w'; go_simp; with_reducible rfl); rotate_left; focus (simp only [Act.put, sI14, sZ14, sS14, i64_w, i32_w] <;> rfl)
                         refine pure_ (i := 7) (N := some 104) (v := ?_) (a' := ?_) (bA14 12 767) rfl rfl (any_of HT_.1 (by kernel_rfl)) (fun _ _ _ h => h) (Or.inl ⟨by rfl, ?_⟩) ?_ ?_
                         rotate_left; (focus intro w'; go_simp; with_reducible rfl); rotate_left; focus (simp only [Act.put, sI14, sZ14, sS14, i64_w, i32_w] <;> rfl)
                         refine pure_ (i := 8) (N := some 105) (v := ?_) (a' := ?_) (bA14 12 1023) rfl rfl (any_of HT_.1 (by kernel_rfl)) (fun _ _ _ h => h) (Or.inl ⟨by rfl, ?_⟩) ?_ ?_
                         rotate_left; (focus intro w'; go_simp; with_reducible rfl); rotate_left; focus (simp only [Act.put, sI14, sZ14, sS14, i64_w, i32_w] <;> rfl)
                         exact norm_ (by simp only [putAll, Act.put, sI14, sZ14, sS14]) (hCont (gb188) _ ⟨hHeld, (by (with_reducible repeat (first | apply Kd.R_alloc | apply Kd.R_drewN | apply Kd.R_drew)); exact HO_10.1), (by (with_reducible repeat (first | refine blk_drewN ?_ _ | refine blk_drew ?_ | refine blk_alloc ?_ _)); exact BK173.1), (by (with_reducible repeat (first | refine blk_drewN ?_ _ | refine blk_drew ?_ | refine blk_alloc ?_ _)); exact BK188.1), GW188.1, GE188.1, NB173_188.1, NB188_173.1, (by repeat (first | (with_reducible first | exact HB.1 | apply pa14 | apply pd14 | apply pe14 | refine below_set ?_ GE173.1 | refine below_set ?_ GE188.1) | exact HB.1))⟩)
                       rintro gb188 w115 ⟨hS_, h0_, h1_, h2_, h3_, h4_, h5_, h6_, h7_⟩
                       have n0_ : Aside0 (Kd.R (Kd.int .i64) 3 w115 w.heap.size (fun _ => True) (.slice (some ad184) t179.length co112) t179) := ⟨h0_⟩
                       have n1_ : Aside0 (w115.heap[gb173]? = some (.cells #[.int .i64 x174000_1, .int .u64 x174001_1] 26 (0, 0))) := ⟨h1_⟩
                       have n2_ : Aside0 (w115.heap[gb188]? = some (.cells #[.int .i64 0, .int .u64 0] 26 (0, 0))) := ⟨h2_⟩
                       have n3_ : Aside0 (w.heap.size ≤ gb188) := ⟨h3_⟩
                       have n4_ : Aside0 (w.heap.size ≤ gb188) := ⟨h4_⟩
                       have n5_ : Aside0 (gb173 ≠ gb188) := ⟨h5_⟩
                       have n6_ : Aside0 (gb188 ≠ gb173) := ⟨h6_⟩
                       have n7_ : Aside0 (Below w.heap.size w w115) := ⟨h7_⟩
                       clear HO_10
                       clear BK173
                       clear HB
                       clear h0_ h1_ h2_ h3_ h4_ h5_ h6_ h7_
                       have HO_10 := n0_
                       have BK173 := n1_
                       have BK188 := n2_
                       have GW188 := n3_
                       have GE188 := n4_
                       have NB173_188 := n5_
                       have NB188_173 := n6_
                       have HB := n7_
                       clear n0_ n1_ n2_ n3_ n4_ n5_ n6_ n7_
                       have hHeld : w115.cell? ⟨gb173, 0, none⟩ = some (.int .i64 x174000_1) ∧ w115.cell? ⟨gb173, 1, none⟩ = some (.int .u64 x174001_1) ∧ w115.cell? (ad184.add ((ji58)).toNat) = some (.int .i64 (rd t179 (ji58))) := hS_
                       refine norm_ (a' := ?_) ?_ ?_
                       rotate_left
                       ·simp only [putAll, Act.put, sI14, sZ14, sS14]
                        rfl
                       refine one_ (i := 10) (N := none) (bA14 12 2047) rfl rfl (one_of HT_.1 (by kernel_rfl)) (by decide) (fun K hK => ?_)
                       have hs116 : w115.cell? ⟨gb188, 0, none⟩ = some (.int .i64 0) := (blk_cell BK188.1 0).trans rfl
                       have hfs116 := blk_frozen BK188.1 0
                       have hns116_0 := NB173_188.1
                       have hms116_0 := NB188_173.1
                       have hs117 : w115.cell? ⟨gb188, 1, none⟩ = some (.int .u64 0) := (blk_cell BK188.1 1).trans rfl
                       have hfs117 := blk_frozen BK188.1 1
                       have hns117_0 := NB173_188.1
                       have hms117_0 := NB188_173.1
                       refine skip_ (w1 := ?_) (by rfl) rfl ?_ ?_
                       rotate_left
                       ·go_simp
                        rfl
                       refine hK.out _ _ ⟨((cell_far (p := ⟨gb188, _, none⟩) NB173_188.1 _).trans (((cell_far (p := ⟨gb188, _, none⟩) NB173_188.1 _).trans (hHeld.1)))), ((cell_far (p := ⟨gb188, _, none⟩) NB173_188.1 _).trans (((cell_far (p := ⟨gb188, _, none⟩) NB173_188.1 _).trans (hHeld.2.1)))), ((cell_far (p := ⟨gb188, _, none⟩) (by first | exact Kd.own_blk (Kd.R_ne HO_10.1 BK188.1 (by decide)) | (rw [add_block]; exact Kd.own_blk (Kd.R_ne HO_10.1 BK188.1 (by decide))) | (show (Addr.add _ _).block ≠ _; rw [add_block]; exact Kd.own_blk (Kd.R_ne HO_10.1 BK188.1 (by decide))) | (dsimp only; exact Kd.own_blk (Kd.R_ne HO_10.1 BK188.1 (by decide)))) _).trans (((cell_far (p := ⟨gb188, _, none⟩) (by first | exact Kd.own_blk (Kd.R_ne HO_10.1 BK188.1 (by decide)) | (rw [add_block]; exact Kd.own_blk (Kd.R_ne HO_10.1 BK188.1 (by decide))) | (show (Addr.add _ _).block ≠ _; rw [add_block]; exact Kd.own_blk (Kd.R_ne HO_10.1 BK188.1 (by decide))) | (dsimp only; exact Kd.own_blk (Kd.R_ne HO_10.1 BK188.1 (by decide)))) _).trans (hHeld.2.2))))⟩ (fun hHeld => ?_)
                       clear hK K
                       refine pure_ (i := 11) (N := some 15) (v := ?_) (a' := ?_) (bA14 12 4095) rfl rfl (any_of HT_.1 (by kernel_rfl)) (fun _ _ _ h => h) (Or.inl ⟨by rfl, ?_⟩) ?_ ?_
                       rotate_left; (focus intro w'; go_simp; with_reducible rfl); rotate_left; focus (simp only [Act.put, sI14, sZ14, sS14, i64_w, i32_w] <;> rfl)
                       refine done_ (done_of HT_.1 (by kernel_rfl)) ?_
                       have hnb118 := NB188_173.1
                       have hnc118 := NB173_188.1
                       have hcz119_0 : w115.cell? ⟨gb188, 0, none⟩ = some (.int .i64 0) := (blk_cell BK188.1 0).trans rfl
                       have hcz119_1 : w115.cell? ⟨gb188, 1, none⟩ = some (.int .u64 0) := (blk_cell BK188.1 1).trans rfl
                       have hfz119_0 := blk_frozen BK188.1 0
                       have hfz119_1 := blk_frozen BK188.1 1
                       try go_wp2_with (first | ((with_reducible refine gate_callee (f := 12) rfl ?_); refine goesL_ (some 107) rfl rfl Tryd.func12 (by kernel_rfl) rfl #[.agg #[.int .i64 t185, .int .u64 t186], .int .i64 1] rfl (by (try simp only [List.map_toArray, List.map_cons, List.map_nil]); first | done | rfl | (simp only [List.length_drop, List.length_take]; rfl)) ?_; (with_reducible refine (seqs_Missing.calls kj49 t185 t186 1 t189 _ A62.1).mono ?_); rintro e w120 ⟨v190, rfl, ho0, hb⟩; refine ⟨_, rfl, ?_⟩; have n0_ := Aside0.mk (Kd.R_elder' (by (with_reducible repeat (first | apply Kd.R_alloc | apply Kd.R_drewN | apply Kd.R_drew)); exact (Kd.R_mono (Kd.R_far (p := ⟨gb188, 1, none⟩) (Kd.R_far (p := ⟨gb188, 0, none⟩) (Kd.R_types HO_10.1 BK188.1 (by decide)) (fun _ hk => hk.2) (.int .i64 t185)) (fun _ hk => hk.2) (.int .u64 t186)) (fun _ h_ => h_.1))) (Kd.R_base ho0) hb); have n1_ := Aside0.mk (Kd.R_lower (Kd.R_new' ho0 (Kd.R_lt (by (with_reducible repeat (first | apply Kd.R_alloc | apply Kd.R_drewN | apply Kd.R_drew)); exact (Kd.R_mono (Kd.R_far (p := ⟨gb188, 1, none⟩) (Kd.R_far (p := ⟨gb188, 0, none⟩) (Kd.R_types HO_10.1 BK188.1 (by decide)) (fun _ hk => hk.2) (.int .i64 t185)) (fun _ hk => hk.2) (.int .u64 t186)) (fun _ h_ => h_.1))))) (below_size (by repeat (first | (with_reducible first | exact HB.1 | apply pa14 | apply pd14 | apply pe14 | refine below_set ?_ GE173.1 | refine below_set ?_ GE188.1) | exact HB.1)))); have n2_ := Aside0.mk (blk_below (g := gb173) (o := .cells #[.int .i64 x174000_1, .int .u64 x174001_1] 26 (0, 0)) (by (with_reducible repeat (first | refine blk_drewN ?_ _ | refine blk_drew ?_ | refine blk_alloc ?_ _)); refine blk_far ?_ NB173_188.1 _; (with_reducible repeat (first | refine blk_drewN ?_ _ | refine blk_drew ?_ | refine blk_alloc ?_ _)); refine blk_far ?_ NB173_188.1 _; (with_reducible repeat (first | refine blk_drewN ?_ _ | refine blk_drew ?_ | refine blk_alloc ?_ _)); exact BK173.1) hb); have n3_ := Aside0.mk (blk_below (g := gb188) (o := .cells #[.int .i64 t185, .int .u64 t186] 26 (0, 0)) (by (with_reducible repeat (first | refine blk_drewN ?_ _ | refine blk_drew ?_ | refine blk_alloc ?_ _)); refine blk_put (cs := #[.int .i64 t185, .int .u64 0]) ?_ 1 _ rfl; (with_reducible repeat (first | refine blk_drewN ?_ _ | refine blk_drew ?_ | refine blk_alloc ?_ _)); refine blk_put (cs := #[.int .i64 0, .int .u64 0]) ?_ 0 _ rfl; (with_reducible repeat (first | refine blk_drewN ?_ _ | refine blk_drew ?_ | refine blk_alloc ?_ _)); exact BK188.1) hb); have n4_ := Aside0.mk (below_step (by repeat (first | (with_reducible first | exact HB.1 | apply pa14 | apply pd14 | apply pe14 | refine below_set ?_ GE173.1 | refine below_set ?_ GE188.1) | exact HB.1)) hb); clear HO_10; clear BK173; clear BK188; clear HB; have HO_10 := n0_; have HO191 := n1_; have BK173 := n2_; have BK188 := n3_; have HB := n4_; clear n0_ n1_ n2_ n3_ n4_; (try clear hb); (try clear hb2); (try clear hk); (try clear hi); (try clear ho0)))
                       have n0_ := Aside0.mk (Kd.R_drew HO_10.1)
                       have n1_ := Aside0.mk (Kd.R_drew HO191.1)
                       have n2_ := Aside0.mk (blk_drew BK173.1)
                       have n3_ := Aside0.mk (blk_drew BK188.1)
                       have n4_ := Aside0.mk (pe14 HB.1)
                       clear HO_10
                       clear HO191
                       clear BK173
                       clear BK188
                       clear HB
                       have HO_10 := n0_
                       have HO191 := n1_
                       have BK173 := n2_
                       have BK188 := n3_
                       have HB := n4_
                       clear n0_ n1_ n2_ n3_ n4_
                       have p192 : 0 ≤ ((ji58) : Int) := of_decide_eq_true (by first | (with_reducible assumption) | assumption)
                       have q192 : (ji58) < (t179.length : Int) := of_decide_eq_true (by first | (with_reducible assumption) | assumption)
                       obtain ⟨ad192, e192, hx192_0⟩ := Kd.at_int (Kd.R_reads' HO_10.1).2.2 (ji58) p192 q192
                       obtain rfl : ad184 = ad192 := (by injection e192)
                       replace p192 := eq_true p192
                       replace q192 := eq_true q192
                       have p194 : 0 ≤ ((ji58) : Int) := of_decide_eq_true (by first | (with_reducible assumption) | assumption)
                       have q194 : (ji58) < (t179.length : Int) := of_decide_eq_true (by first | (with_reducible assumption) | assumption)
                       obtain ⟨ad194, e194, hx194_0⟩ := Kd.at_int (Kd.R_reads' HO_10.1).2.2 (ji58) p194 q194
                       obtain rfl : ad184 = ad194 := (by injection e194)
                       replace p194 := eq_true p194
                       replace q194 := eq_true q194
                       have p204 : 0 ≤ (0 : Int) := (by omega)
                       have q204 : 0 < (t189.length : Int) := of_decide_eq_true (by first | (with_reducible assumption) | assumption)
                       (try (obtain ⟨A_s, c_s, e_s⟩ := Kd.R_slice HO191.1; subst e_s))
                       obtain ⟨ad204, e204, hx204_0⟩ := Kd.at_int (Kd.R_reads' HO191.1).2.2 0 p204 q204
                       cases e204
                       have qi204 : (0 < t189.length) = True := eq_true (by omega)
                       (try rw [show ((0 : Int)).toNat = 0 from rfl] at hx204_0)
                       (try rw [Addr.add_zero'] at hx204_0)
                       replace p204 := eq_true p204
                       replace q204 := eq_true q204
                       have p205 : 0 ≤ (0 : Int) := (by omega)
                       have q205 : 0 < (t179.length : Int) := of_decide_eq_true (by first | (with_reducible assumption) | assumption)
                       obtain ⟨ad205, e205, hx205_0⟩ := Kd.at_int (Kd.R_reads' HO_10.1).2.2 0 p205 q205
                       obtain rfl : ad184 = ad205 := (by injection e205)
                       have qi205 : (0 < t179.length) = True := eq_true (by omega)
                       (try rw [show ((0 : Int)).toNat = 0 from rfl] at hx205_0)
                       (try rw [Addr.add_zero'] at hx205_0)
                       replace p205 := eq_true p205
                       replace q205 := eq_true q205
                       refine start_ (n := 46) (S := fun w' => w'.cell? ⟨gb188, 0, none⟩ = some (.int .i64 t185) ∧ w'.cell? ⟨gb188, 1, none⟩ = some (.int .u64 t186) ∧ w'.cell? ⟨gb173, 0, none⟩ = some (.int .i64 x174000_1) ∧ w'.cell? ⟨gb173, 1, none⟩ = some (.int .u64 x174001_1) ∧ w'.cell? (ad184.add ((ji58)).toNat) = some (.int .i64 (rd t179 (ji58))) ∧ w'.cell? (ad184.add ((ji58)).toNat) = some (.int .i64 (rd t179 (ji58))) ∧ w'.cell? ad204 = some (.int .i64 (rd t189 0)) ∧ w'.cell? ad184 = some (.int .i64 (rd t179 0))) (ds := []) (bA14 46 0) (by kernel_rfl) rfl rfl ⟨(blk_cell BK188.1 0).trans rfl, (blk_cell BK188.1 1).trans rfl, (blk_cell BK173.1 0).trans rfl, (blk_cell BK173.1 1).trans rfl, hx192_0, hx194_0, hx204_0, hx205_0⟩ (fun hHeld => ?_); refine with_tabW godwitlaw15_SeqsMissing.tab25 godwitlaw15_SeqsMissing.bits25 (fun HT_ HW_ => ?_)
                       generalize w120.drew = w121 at HO_10 HO191 BK173 BK188 HB hx192_0 hx194_0 hx204_0 hx205_0 hHeld ⊢
                       refine pure_ (i := 0) (N := some 108) (v := ?_) (a' := ?_) (bA14 46 1) rfl rfl (any_of HT_.1 (by kernel_rfl)) (fun _ _ _ h => h) (Or.inl ⟨by rfl, ?_⟩) ?_ ?_
                       rotate_left; (focus intro w'; go_simp; with_reducible rfl); rotate_left; focus (simp only [Act.put, sI14, sZ14, sS14, i64_w, i32_w] <;> rfl)
                       refine pure_ (i := 1) (N := some 109) (v := ?_) (a' := ?_) (bA14 46 3) rfl rfl (any_of HT_.1 (by kernel_rfl)) (fun _ _ _ h => h) (Or.inl ⟨by rfl, ?_⟩) ?_ ?_
                       rotate_left; (focus intro w'; go_simp; with_reducible rfl); rotate_left; focus (simp only [Act.put, sI14, sZ14, sS14, i64_w, i32_w] <;> rfl)
                       refine pure_ (i := 2) (N := some 110) (v := ?_) (a' := ?_) (bA14 46 7) rfl rfl (any_of HT_.1 (by kernel_rfl)) (fun _ _ _ h => h) (Or.inl ⟨by rfl, ?_⟩) ?_ ?_
                       rotate_left; (focus intro w'; go_simp; with_reducible rfl); rotate_left; focus (simp only [Act.put, sI14, sZ14, sS14, i64_w, i32_w] <;> rfl)
                       refine pure_ (i := 3) (N := some 111) (v := ?_) (a' := ?_) (bA14 46 15) rfl rfl (any_of HT_.1 (by kernel_rfl)) (fun _ _ _ h => h) (Or.inl ⟨by rfl, ?_⟩) ?_ ?_
                       rotate_left; (focus intro w'; go_simp; with_reducible rfl); rotate_left; focus (simp only [Act.put, sI14, sZ14, sS14, i64_w, i32_w] <;> rfl)
                       refine pure_ (i := 4) (N := some 112) (v := ?_) (a' := ?_) (bA14 46 31) rfl rfl (any_of HT_.1 (by kernel_rfl)) (fun _ _ _ h => h) (Or.inl ⟨by rfl, ?_⟩) ?_ ?_
                       rotate_left; (focus intro w'; go_simp; with_reducible rfl); rotate_left; focus (simp only [Act.put, sI14, sZ14, sS14, i64_w, i32_w] <;> rfl)
                       refine pure_ (i := 5) (N := some 113) (v := ?_) (a' := ?_) (bA14 46 63) rfl rfl (any_of HT_.1 (by kernel_rfl)) (fun _ _ _ h => h) (Or.inl ⟨by rfl, ?_⟩) ?_ ?_
                       rotate_left; (focus intro w'; go_simp; with_reducible rfl); rotate_left; focus (simp only [Act.put, sI14, sZ14, sS14, i64_w, i32_w] <;> rfl)
                       refine pure_ (i := 7) (N := some 115) (v := ?_) (a' := ?_) (bA14 46 191) rfl rfl (any_of HT_.1 (by kernel_rfl)) (fun _ _ _ h => h) (Or.inl ⟨by rfl, ?_⟩) ?_ ?_
                       rotate_left; (focus intro w'; go_simp; with_reducible rfl); rotate_left; focus (simp only [Act.put, sI14, sZ14, sS14, i64_w, i32_w] <;> rfl)
                       refine pure_ (i := 8) (N := some 116) (v := ?_) (a' := ?_) (bA14 46 447) rfl rfl (any_of HT_.1 (by kernel_rfl)) (fun _ _ _ h => h) (Or.inl ⟨by rfl, ?_⟩) ?_ ?_
                       rotate_left; (focus intro w'; go_simp; with_reducible rfl); rotate_left; focus (simp only [Act.put, sI14, sZ14, sS14, i64_w, i32_w] <;> rfl)
                       refine pure_ (i := 9) (N := some 117) (v := ?_) (a' := ?_) (bA14 46 959) rfl rfl (any_of HT_.1 (by kernel_rfl)) (fun _ _ _ h => h) (Or.inl ⟨by rfl, ?_⟩) ?_ ?_
                       rotate_left; (focus intro w'; go_simp; with_reducible rfl); rotate_left; focus (simp only [Act.put, sI14, sZ14, sS14, i64_w, i32_w] <;> rfl)
                       refine take_ (i := 6) (N := some 114) (v := ?_) (a' := ?_) (bA14 46 1023) rfl rfl (take_ofW HT_.1 HW_.1 (by kernel_rfl)) (fun _ _ _ h => h) (Or.inl ⟨by rfl, ?_⟩) hHeld ?_ ?_
                       rotate_left
                       ·rintro w' ⟨s0, s1, s2, s3, s4, s5, s6, s7⟩
                        go_simp
                        with_reducible rfl
                       rotate_left
                       ·simp only [Act.put, sI14, sZ14, sS14, i64_w, i32_w]
                        rfl
                       refine take_ (i := 10) (N := some 118) (v := ?_) (a' := ?_) (bA14 46 2047) rfl rfl (take_ofW HT_.1 HW_.1 (by kernel_rfl)) (fun _ _ _ h => h) (Or.inl ⟨by rfl, ?_⟩) hHeld ?_ ?_
                       rotate_left
                       ·rintro w' ⟨s0, s1, s2, s3, s4, s5, s6, s7⟩
                        go_simp
                        with_reducible rfl
                       rotate_left
                       ·simp only [Act.put, sI14, sZ14, sS14, i64_w, i32_w]
                        rfl
                       refine one_ (i := 11) (N := some 119) (bA14 46 4095) rfl rfl (one_of HT_.1 (by kernel_rfl)) (by decide) (fun K hK => ?_)
                       refine goes_ Tryd.func9 (by kernel_rfl) rfl #[.agg #[.int .i64 t185, .int .u64 t186], .int .i64 (rd t179 (ji58))] (by rfl) rfl rfl (by (try simp only [List.map_toArray, List.map_cons, List.map_nil]); first | done | (simp only [hji58]; rfl) | rfl | (simp only [List.length_drop, List.length_take]; rfl)) ?_
                       with_reducible refine (seqs_Seen.calls t185 t186 (rd t179 (ji58)) true _ A65.1).mono ?_
                       rintro e w122 ⟨rfl, hb⟩
                       have HS4_ := (hb.cell (pl14 _ _ (hHeld.2.2.2.2.1))).trans (hHeld.2.2.2.2.1)
                       have HS5_ := (hb.cell (pl14 _ _ (hHeld.2.2.2.2.2.1))).trans (hHeld.2.2.2.2.2.1)
                       have HS6_ := (hb.cell (pl14 _ _ (hHeld.2.2.2.2.2.2.1))).trans (hHeld.2.2.2.2.2.2.1)
                       have HS7_ := (hb.cell (pl14 _ _ (hHeld.2.2.2.2.2.2.2))).trans (hHeld.2.2.2.2.2.2.2)
                       refine ⟨_, rfl, ?_⟩
                       have n0_ := Aside0.mk (Kd.R_below (by (with_reducible repeat (first | apply Kd.R_alloc | apply Kd.R_drewN | apply Kd.R_drew)); exact HO_10.1) hb)
                       have n1_ := Aside0.mk (Kd.R_below (by (with_reducible repeat (first | apply Kd.R_alloc | apply Kd.R_drewN | apply Kd.R_drew)); exact HO191.1) hb)
                       have n2_ := Aside0.mk (blk_below (g := gb173) (o := .cells #[.int .i64 x174000_1, .int .u64 x174001_1] 26 (0, 0)) (by (with_reducible repeat (first | refine blk_drewN ?_ _ | refine blk_drew ?_ | refine blk_alloc ?_ _)); exact BK173.1) hb)
                       have n3_ := Aside0.mk (blk_below (g := gb188) (o := .cells #[.int .i64 t185, .int .u64 t186] 26 (0, 0)) (by (with_reducible repeat (first | refine blk_drewN ?_ _ | refine blk_drew ?_ | refine blk_alloc ?_ _)); exact BK188.1) hb)
                       have n4_ := Aside0.mk (below_step (by repeat (first | (with_reducible first | exact HB.1 | apply pa14 | apply pd14 | apply pe14 | refine below_set ?_ GE173.1 | refine below_set ?_ GE188.1) | exact HB.1)) hb)
                       clear HO_10
                       clear HO191
                       clear BK173
                       clear BK188
                       clear HB
                       have HO_10 := n0_
                       have HO191 := n1_
                       have BK173 := n2_
                       have BK188 := n3_
                       have HB := n4_
                       clear n0_ n1_ n2_ n3_ n4_
                       (try clear hb)
                       (try clear hb2)
                       (try clear hk)
                       (try clear hi)
                       refine hK.out _ _ ⟨(blk_cell BK188.1 0).trans rfl, (blk_cell BK188.1 1).trans rfl, (blk_cell BK173.1 0).trans rfl, (blk_cell BK173.1 1).trans rfl, HS4_, HS5_, HS6_, HS7_⟩ (fun hHeld => ?_)
                       clear hK K
                       refine norm_ (a' := ?_) ?_ ?_
                       rotate_left
                       ·show Act.put _ (some 119) _ = _
                        simp only [Act.put, sI14, sZ14, sS14, i64_w, i32_w]
                        rfl
                       refine pure_ (i := 12) (N := some 120) (v := ?_) (a' := ?_) (bA14 46 8191) rfl rfl (any_of HT_.1 (by kernel_rfl)) (fun _ _ _ h => h) (Or.inl ⟨by rfl, ?_⟩) ?_ ?_
                       rotate_left; (focus intro w'; go_simp; with_reducible rfl); rotate_left; focus (simp only [Act.put, sI14, sZ14, sS14, i64_w, i32_w] <;> rfl)
                       refine pure_ (i := 13) (N := some 121) (v := ?_) (a' := ?_) (bA14 46 16383) rfl rfl (any_of HT_.1 (by kernel_rfl)) (fun _ _ _ h => h) (Or.inl ⟨by rfl, ?_⟩) ?_ ?_
                       rotate_left; (focus intro w'; go_simp; with_reducible rfl); rotate_left; focus (simp only [Act.put, sI14, sZ14, sS14, i64_w, i32_w] <;> rfl)
                       refine pure_ (i := 15) (N := some 123) (v := ?_) (a' := ?_) (bA14 46 49151) rfl rfl (any_of HT_.1 (by kernel_rfl)) (fun _ _ _ h => h) (Or.inl ⟨by rfl, ?_⟩) ?_ ?_
                       rotate_left; (focus intro w'; go_simp; with_reducible rfl); rotate_left; focus (simp only [Act.put, sI14, sZ14, sS14, i64_w, i32_w] <;> rfl)
                       refine pure_ (i := 16) (N := some 124) (v := ?_) (a' := ?_) (bA14 46 114687) rfl rfl (any_of HT_.1 (by kernel_rfl)) (fun _ _ _ h => h) (Or.inl ⟨by rfl, ?_⟩) ?_ ?_
                       rotate_left; (focus intro w'; go_simp; with_reducible rfl); rotate_left; focus (simp only [Act.put, sI14, sZ14, sS14, i64_w, i32_w] <;> rfl)
                       refine pure_ (i := 17) (N := some 125) (v := ?_) (a' := ?_) (bA14 46 245759) rfl rfl (any_of HT_.1 (by kernel_rfl)) (fun _ _ _ h => h) (Or.inl ⟨by rfl, ?_⟩) ?_ ?_
                       rotate_left; (focus intro w'; go_simp; with_reducible rfl); rotate_left; focus (simp only [Act.put, sI14, sZ14, sS14, i64_w, i32_w] <;> rfl)
                       refine take_ (i := 14) (N := some 122) (v := ?_) (a' := ?_) (bA14 46 262143) rfl rfl (take_ofW HT_.1 HW_.1 (by kernel_rfl)) (fun _ _ _ h => h) (Or.inl ⟨by rfl, ?_⟩) hHeld ?_ ?_
                       rotate_left
                       ·rintro w' ⟨s0, s1, s2, s3, s4, s5, s6, s7⟩
                        go_simp
                        with_reducible rfl
                       rotate_left
                       ·simp only [Act.put, sI14, sZ14, sS14, i64_w, i32_w]
                        rfl
                       refine take_ (i := 18) (N := some 126) (v := ?_) (a' := ?_) (bA14 46 524287) rfl rfl (take_ofW HT_.1 HW_.1 (by kernel_rfl)) (fun _ _ _ h => h) (Or.inl ⟨by rfl, ?_⟩) hHeld ?_ ?_
                       rotate_left
                       ·rintro w' ⟨s0, s1, s2, s3, s4, s5, s6, s7⟩
                        go_simp
                        with_reducible rfl
                       rotate_left
                       ·simp only [Act.put, sI14, sZ14, sS14, i64_w, i32_w]
                        rfl
                       refine one_ (i := 19) (N := some 127) (bA14 46 1048575) rfl rfl (one_of HT_.1 (by kernel_rfl)) (by decide) (fun K hK => ?_)
                       refine goes_ Tryd.func9 (by kernel_rfl) rfl #[.agg #[.int .i64 x174000_1, .int .u64 x174001_1], .int .i64 (rd t179 (ji58))] (by rfl) rfl rfl (by (try simp only [List.map_toArray, List.map_cons, List.map_nil]); first | done | (simp only [hji58]; rfl) | rfl | (simp only [List.length_drop, List.length_take]; rfl)) ?_
                       with_reducible refine (seqs_Seen.calls x174000_1 x174001_1 (rd t179 (ji58)) false _ A67.1).mono ?_
                       rintro e w123 ⟨rfl, hb⟩
                       have HS4_ := (hb.cell (pl14 _ _ (hHeld.2.2.2.2.1))).trans (hHeld.2.2.2.2.1)
                       have HS5_ := (hb.cell (pl14 _ _ (hHeld.2.2.2.2.2.1))).trans (hHeld.2.2.2.2.2.1)
                       have HS6_ := (hb.cell (pl14 _ _ (hHeld.2.2.2.2.2.2.1))).trans (hHeld.2.2.2.2.2.2.1)
                       have HS7_ := (hb.cell (pl14 _ _ (hHeld.2.2.2.2.2.2.2))).trans (hHeld.2.2.2.2.2.2.2)
                       refine ⟨_, rfl, ?_⟩
                       have n0_ := Aside0.mk (Kd.R_below (by (with_reducible repeat (first | apply Kd.R_alloc | apply Kd.R_drewN | apply Kd.R_drew)); exact HO_10.1) hb)
                       have n1_ := Aside0.mk (Kd.R_below (by (with_reducible repeat (first | apply Kd.R_alloc | apply Kd.R_drewN | apply Kd.R_drew)); exact HO191.1) hb)
                       have n2_ := Aside0.mk (blk_below (g := gb173) (o := .cells #[.int .i64 x174000_1, .int .u64 x174001_1] 26 (0, 0)) (by (with_reducible repeat (first | refine blk_drewN ?_ _ | refine blk_drew ?_ | refine blk_alloc ?_ _)); exact BK173.1) hb)
                       have n3_ := Aside0.mk (blk_below (g := gb188) (o := .cells #[.int .i64 t185, .int .u64 t186] 26 (0, 0)) (by (with_reducible repeat (first | refine blk_drewN ?_ _ | refine blk_drew ?_ | refine blk_alloc ?_ _)); exact BK188.1) hb)
                       have n4_ := Aside0.mk (below_step (by repeat (first | (with_reducible first | exact HB.1 | apply pa14 | apply pd14 | apply pe14 | refine below_set ?_ GE173.1 | refine below_set ?_ GE188.1) | exact HB.1)) hb)
                       clear HO_10
                       clear HO191
                       clear BK173
                       clear BK188
                       clear HB
                       have HO_10 := n0_
                       have HO191 := n1_
                       have BK173 := n2_
                       have BK188 := n3_
                       have HB := n4_
                       clear n0_ n1_ n2_ n3_ n4_
                       (try clear hb)
                       (try clear hb2)
                       (try clear hk)
                       (try clear hi)
                       obtain ⟨Ao124, co124, eo124⟩ := Kd.R_slice HO191.1
                       (first | subst eo124 | (injection eo124 with f1_ f2_ f3_; have f4_ := f1_.symm; have f5_ := f3_.symm; clear f1_ f2_ f3_; subst f4_; subst f5_))
                       refine hK.out _ _ ⟨(blk_cell BK188.1 0).trans rfl, (blk_cell BK188.1 1).trans rfl, (blk_cell BK173.1 0).trans rfl, (blk_cell BK173.1 1).trans rfl, HS4_, HS5_, HS6_, HS7_⟩ (fun hHeld => ?_)
                       clear hK K
                       refine norm_ (a' := ?_) ?_ ?_
                       rotate_left
                       ·show Act.put _ (some 127) _ = _
                        simp only [Act.put, sI14, sZ14, sS14, i64_w, i32_w]
                        rfl
                       refine pure_ (i := 20) (N := some 128) (v := ?_) (a' := ?_) (bA14 46 2097151) rfl rfl (any_of HT_.1 (by kernel_rfl)) (fun _ _ _ h => h) (Or.inl ⟨by rfl, ?_⟩) ?_ ?_
                       rotate_left; (focus intro w'; go_simp; with_reducible rfl); rotate_left; focus (simp only [Act.put, sI14, sZ14, sS14, i64_w, i32_w] <;> rfl)
                       refine pure_ (i := 21) (N := some 129) (v := ?_) (a' := ?_) (bA14 46 4194303) rfl rfl (any_of HT_.1 (by kernel_rfl)) (fun _ _ _ h => h) (Or.inl ⟨by rfl, ?_⟩) ?_ ?_
                       rotate_left; (focus intro w'; go_simp; with_reducible rfl); rotate_left; focus (simp only [Act.put, sI14, sZ14, sS14, i64_w, i32_w] <;> rfl)
                       refine pure_ (i := 22) (N := some 130) (v := ?_) (a' := ?_) (bA14 46 8388607) rfl rfl (any_of HT_.1 (by kernel_rfl)) (fun _ _ _ h => h) (Or.inl ⟨by rfl, ?_⟩) ?_ ?_
                       rotate_left; (focus intro w'; go_simp; with_reducible rfl); rotate_left; focus (simp only [Act.put, sI14, sZ14, sS14, i64_w, i32_w] <;> rfl)
                       refine pure_ (i := 23) (N := some 131) (v := ?_) (a' := ?_) (bA14 46 16777215) rfl rfl (any_of HT_.1 (by kernel_rfl)) (fun _ _ _ h => h) (Or.inl ⟨by rfl, ?_⟩) ?_ ?_
                       rotate_left; (focus intro w'; go_simp; with_reducible rfl); rotate_left; focus (simp only [Act.put, sI14, sZ14, sS14, i64_w, i32_w] <;> rfl)
                       refine pure_ (i := 24) (N := some 132) (v := ?_) (a' := ?_) (bA14 46 33554431) rfl rfl (any_of HT_.1 (by kernel_rfl)) (fun _ _ _ h => h) (Or.inl ⟨by rfl, ?_⟩) ?_ ?_
                       rotate_left; (focus intro w'; go_simp; with_reducible rfl); rotate_left; focus (simp only [Act.put, sI14, sZ14, sS14, i64_w, i32_w] <;> rfl)
                       refine pure_ (i := 25) (N := some 133) (v := ?_) (a' := ?_) (bA14 46 67108863) rfl rfl (any_of HT_.1 (by kernel_rfl)) (fun _ _ _ h => h) (Or.inl ⟨by rfl, ?_⟩) ?_ ?_
                       rotate_left; (focus intro w'; go_simp; with_reducible rfl); rotate_left; focus (simp only [Act.put, sI14, sZ14, sS14, i64_w, i32_w] <;> rfl)
                       refine pure_ (i := 26) (N := some 134) (v := ?_) (a' := ?_) (bA14 46 134217727) rfl rfl (any_of HT_.1 (by kernel_rfl)) (fun _ _ _ h => h) (Or.inl ⟨by rfl, ?_⟩) ?_ ?_
                       rotate_left; (focus intro w'; go_simp; with_reducible rfl); rotate_left; focus (simp only [Act.put, sI14, sZ14, sS14, i64_w, i32_w] <;> rfl)
                       refine pure_ (i := 27) (N := some 135) (v := ?_) (a' := ?_) (bA14 46 268435455) rfl rfl (any_of HT_.1 (by kernel_rfl)) (fun _ _ _ h => h) (Or.inl ⟨by rfl, ?_⟩) ?_ ?_
                       rotate_left; (focus intro w'; go_simp; with_reducible rfl); rotate_left; focus (simp only [Act.put, sI14, sZ14, sS14, i64_w, i32_w] <;> rfl)
                       refine pure_ (i := 28) (N := some 136) (v := ?_) (a' := ?_) (bA14 46 536870911) rfl rfl (any_of HT_.1 (by kernel_rfl)) (fun _ _ _ h => h) (Or.inl ⟨by rfl, ?_⟩) ?_ ?_
                       rotate_left; (focus intro w'; go_simp; with_reducible rfl); rotate_left; focus (simp only [Act.put, sI14, sZ14, sS14, i64_w, i32_w] <;> rfl)
                       refine pure_ (i := 29) (N := some 137) (v := ?_) (a' := ?_) (bA14 46 1073741823) rfl rfl (any_of HT_.1 (by kernel_rfl)) (fun _ _ _ h => h) (Or.inl ⟨by rfl, ?_⟩) ?_ ?_
                       rotate_left; (focus intro w'; go_simp; with_reducible rfl); rotate_left; focus (simp only [Act.put, sI14, sZ14, sS14, i64_w, i32_w] <;> rfl)
                       refine pure_ (i := 30) (N := some 138) (v := ?_) (a' := ?_) (bA14 46 2147483647) rfl rfl (any_of HT_.1 (by kernel_rfl)) (fun _ _ _ h => h) (Or.inl ⟨by rfl, ?_⟩) ?_ ?_
                       rotate_left; (focus intro w'; go_simp; with_reducible rfl); rotate_left; focus (simp only [Act.put, sI14, sZ14, sS14, i64_w, i32_w] <;> rfl)
                       refine pure_ (i := 31) (N := some 139) (v := ?_) (a' := ?_) (bA14 46 4294967295) rfl rfl (any_of HT_.1 (by kernel_rfl)) (fun _ _ _ h => h) (Or.inl ⟨by rfl, ?_⟩) ?_ ?_
                       rotate_left; (focus intro w'; go_simp; with_reducible rfl); rotate_left; focus (simp only [Act.put, sI14, sZ14, sS14, i64_w, i32_w] <;> rfl)
                       refine pure_ (i := 32) (N := some 140) (v := ?_) (a' := ?_) (bA14 46 8589934591) rfl rfl (any_of HT_.1 (by kernel_rfl)) (fun _ _ _ h => h) (Or.inl ⟨by rfl, ?_⟩) ?_ ?_
                       rotate_left; (focus intro w'; go_simp; with_reducible rfl); rotate_left; focus (simp only [Act.put, sI14, sZ14, sS14, i64_w, i32_w] <;> rfl)
                       refine pure_ (i := 34) (N := some 142) (v := ?_) (a' := ?_) (bA14 46 25769803775) rfl rfl (any_of HT_.1 (by kernel_rfl)) (fun _ _ _ h => h) (Or.inl ⟨by rfl, ?_⟩) ?_ ?_
                       rotate_left; (focus intro w'; go_simp; with_reducible rfl); rotate_left; focus (simp only [Act.put, sI14, sZ14, sS14, i64_w, i32_w] <;> rfl)
                       refine pure_ (i := 35) (N := some 143) (v := ?_) (a' := ?_) (bA14 46 60129542143) rfl rfl (any_of HT_.1 (by kernel_rfl)) (fun _ _ _ h => h) (Or.inl ⟨by rfl, ?_⟩) ?_ ?_
                       rotate_left; (focus intro w'; go_simp; with_reducible rfl); rotate_left; focus (simp only [Act.put, sI14, sZ14, sS14, i64_w, i32_w] <;> rfl)
                       refine take_ (i := 33) (N := some 141) (v := ?_) (a' := ?_) (bA14 46 68719476735) rfl rfl (take_ofW HT_.1 HW_.1 (by kernel_rfl)) (fun _ _ _ h => h) (Or.inl ⟨by rfl, ?_⟩) hHeld ?_ ?_
                       rotate_left
                       ·rintro w' ⟨s0, s1, s2, s3, s4, s5, s6, s7⟩
                        go_simp
                        with_reducible rfl
                       rotate_left
                       ·simp only [Act.put, sI14, sZ14, sS14, i64_w, i32_w]
                        rfl
                       refine take_ (i := 36) (N := some 144) (v := ?_) (a' := ?_) (bA14 46 137438953471) rfl rfl (take_ofW HT_.1 HW_.1 (by kernel_rfl)) (fun _ _ _ h => h) (Or.inl ⟨by rfl, ?_⟩) hHeld ?_ ?_
                       rotate_left
                       ·rintro w' ⟨s0, s1, s2, s3, s4, s5, s6, s7⟩
                        go_simp
                        with_reducible rfl
                       rotate_left
                       ·simp only [Act.put, sI14, sZ14, sS14, i64_w, i32_w]
                        rfl
                       refine pure_ (i := 37) (N := some 145) (v := ?_) (a' := ?_) (bA14 46 274877906943) rfl rfl (any_of HT_.1 (by kernel_rfl)) (fun _ _ _ h => h) (Or.inl ⟨by rfl, ?_⟩) ?_ ?_
                       rotate_left; (focus intro w'; go_simp; with_reducible rfl); rotate_left; focus (simp only [Act.put, sI14, sZ14, sS14, i64_w, i32_w] <;> rfl)
                       refine pure_ (i := 38) (N := some 146) (v := ?_) (a' := ?_) (bA14 46 549755813887) rfl rfl (any_of HT_.1 (by kernel_rfl)) (fun _ _ _ h => h) (Or.inl ⟨by rfl, ?_⟩) ?_ ?_
                       rotate_left; (focus intro w'; go_simp; with_reducible rfl); rotate_left; focus (simp only [Act.put, sI14, sZ14, sS14, i64_w, i32_w] <;> rfl)
                       refine pure_ (i := 39) (N := some 147) (v := ?_) (a' := ?_) (bA14 46 1099511627775) rfl rfl (any_of HT_.1 (by kernel_rfl)) (fun _ _ _ h => h) (Or.inl ⟨by rfl, ?_⟩) ?_ ?_
                       rotate_left; (focus intro w'; go_simp; with_reducible rfl); rotate_left; focus (simp only [Act.put, sI14, sZ14, sS14, i64_w, i32_w] <;> rfl)
                       refine pure_ (i := 40) (N := some 148) (v := ?_) (a' := ?_) (bA14 46 2199023255551) rfl rfl (any_of HT_.1 (by kernel_rfl)) (fun _ _ _ h => h) (Or.inl ⟨by rfl, ?_⟩) ?_ ?_
                       rotate_left; (focus intro w'; go_simp; with_reducible rfl); rotate_left; focus (simp only [Act.put, sI14, sZ14, sS14, i64_w, i32_w] <;> rfl)
                       refine take_ (i := 41) (N := some 149) (v := ?_) (a' := ?_) (bA14 46 4398046511103) rfl rfl (take_ofW HT_.1 HW_.1 (by kernel_rfl)) (fun _ _ _ h => h) (Or.inl ⟨by rfl, ?_⟩) hHeld ?_ ?_
                       rotate_left
                       ·rintro w' ⟨s0, s1, s2, s3, s4, s5, s6, s7⟩
                        go_simp
                        with_reducible rfl
                       rotate_left
                       ·simp only [Act.put, sI14, sZ14, sS14, i64_w, i32_w]
                        rfl
                       refine one_ (i := 42) (N := some 150) (bA14 46 8796093022207) rfl rfl (one_of HT_.1 (by kernel_rfl)) (by decide) (fun K hK => ?_)
                       refine goes_ Tryd.func12 (by kernel_rfl) rfl #[.agg #[.int .i64 x174000_1, .int .u64 x174001_1], .int .i64 0] (by rfl) rfl rfl (by (try simp only [List.map_toArray, List.map_cons, List.map_nil]); first | done | rfl | (simp only [List.length_drop, List.length_take]; rfl)) ?_
                       with_reducible refine (seqs_Missing.calls kj49 x174000_1 x174001_1 0 t206 _ A109.1).mono ?_
                       rintro e w125 ⟨v207, rfl, ho0, hb⟩
                       have HS4_ := (hb.cell (pl14 _ _ (hHeld.2.2.2.2.1))).trans (hHeld.2.2.2.2.1)
                       have HS5_ := (hb.cell (pl14 _ _ (hHeld.2.2.2.2.2.1))).trans (hHeld.2.2.2.2.2.1)
                       have HS6_ := (hb.cell (pl14 _ _ (hHeld.2.2.2.2.2.2.1))).trans (hHeld.2.2.2.2.2.2.1)
                       have HS7_ := (hb.cell (pl14 _ _ (hHeld.2.2.2.2.2.2.2))).trans (hHeld.2.2.2.2.2.2.2)
                       refine ⟨_, rfl, ?_⟩
                       have n0_ := Aside0.mk (Kd.R_elder' (by (with_reducible repeat (first | apply Kd.R_alloc | apply Kd.R_drewN | apply Kd.R_drew)); exact HO_10.1) (Kd.R_base ho0) hb)
                       have n1_ := Aside0.mk (Kd.R_elder' (by (with_reducible repeat (first | apply Kd.R_alloc | apply Kd.R_drewN | apply Kd.R_drew)); exact HO191.1) (Kd.R_base ho0) hb)
                       have n2_ := Aside0.mk (Kd.R_lower (Kd.R_new' (Kd.R_new' ho0 (Kd.R_lt (by (with_reducible repeat (first | apply Kd.R_alloc | apply Kd.R_drewN | apply Kd.R_drew)); exact HO_10.1))) (Kd.R_lt (by (with_reducible repeat (first | apply Kd.R_alloc | apply Kd.R_drewN | apply Kd.R_drew)); exact HO191.1))) (below_size (by repeat (first | (with_reducible first | exact HB.1 | apply pa14 | apply pd14 | apply pe14 | refine below_set ?_ GE173.1 | refine below_set ?_ GE188.1) | exact HB.1))))
                       have n3_ := Aside0.mk (blk_below (g := gb173) (o := .cells #[.int .i64 x174000_1, .int .u64 x174001_1] 26 (0, 0)) (by (with_reducible repeat (first | refine blk_drewN ?_ _ | refine blk_drew ?_ | refine blk_alloc ?_ _)); exact BK173.1) hb)
                       have n4_ := Aside0.mk (blk_below (g := gb188) (o := .cells #[.int .i64 t185, .int .u64 t186] 26 (0, 0)) (by (with_reducible repeat (first | refine blk_drewN ?_ _ | refine blk_drew ?_ | refine blk_alloc ?_ _)); exact BK188.1) hb)
                       have n5_ := Aside0.mk (below_step (by repeat (first | (with_reducible first | exact HB.1 | apply pa14 | apply pd14 | apply pe14 | refine below_set ?_ GE173.1 | refine below_set ?_ GE188.1) | exact HB.1)) hb)
                       clear HO_10
                       clear HO191
                       clear BK173
                       clear BK188
                       clear HB
                       have HO_10 := n0_
                       have HO191 := n1_
                       have HO208 := n2_
                       have BK173 := n3_
                       have BK188 := n4_
                       have HB := n5_
                       clear n0_ n1_ n2_ n3_ n4_ n5_
                       (try clear hb)
                       (try clear hb2)
                       (try clear hk)
                       (try clear hi)
                       (try clear ho0)
                       obtain ⟨Ao126, co126, eo126⟩ := Kd.R_slice HO208.1
                       (first | subst eo126 | (injection eo126 with f1_ f2_ f3_; have f4_ := f1_.symm; have f5_ := f3_.symm; clear f1_ f2_ f3_; subst f4_; subst f5_))
                       refine hK.out _ _ ⟨(blk_cell BK188.1 0).trans rfl, (blk_cell BK188.1 1).trans rfl, (blk_cell BK173.1 0).trans rfl, (blk_cell BK173.1 1).trans rfl, HS4_, HS5_, HS6_, HS7_⟩ (fun hHeld => ?_)
                       clear hK K
                       refine norm_ (a' := ?_) ?_ ?_
                       rotate_left
                       ·show Act.put _ (some 150) _ = _
                        simp only [Act.put, sI14, sZ14, sS14, i64_w, i32_w]
                        rfl
                       refine one_ (i := 43) (N := some 151) (bA14 46 17592186044415) rfl rfl (one_of HT_.1 (by kernel_rfl)) (by decide) (fun K hK => ?_)
                       refine goes_ Tryd.func13 (by kernel_rfl) rfl #[.slice Ao126 t206.length co126, .slice none 0 0] (by rfl) rfl rfl (by (try simp only [List.map_toArray, List.map_cons, List.map_nil]); first | done | rfl | (simp only [List.length_drop, List.length_take]; rfl)) ?_
                       refine (godwitref10_Ints.calls kj49 _ _ t206 _ _ ([] : List Int) t209 _ ?side1 ?side2 ?side3 ?side4 A110.1).mono ?_
                       (case side1 => repeat (first | exact (Kd.R_reads' HO208.1).2.2 | (with_reducible refine Kd.C_alloc ?_ _) | (with_reducible refine Kd.C_drewN ?_ _) | (with_reducible refine Kd.C_drew ?_)))
                       (case side2 => exact (Kd.R_reads' HO208.1).2.1)
                       (case side3 => exact Kd.C_nil _ _)
                       (case side4 => exact Nat.le_refl _)
                       rintro e w' ⟨rfl, ⟨nd, rfl⟩⟩
                       refine ⟨_, rfl, ?_⟩
                       refine hK.out _ _ ⟨(blk_cell BK188.1 0).trans rfl, (blk_cell BK188.1 1).trans rfl, (blk_cell BK173.1 0).trans rfl, (blk_cell BK173.1 1).trans rfl, hHeld.2.2.2.2.1, hHeld.2.2.2.2.2.1, hHeld.2.2.2.2.2.2.1, hHeld.2.2.2.2.2.2.2⟩ (fun hHeld => ?_)
                       clear hK K
                       refine norm_ (a' := ?_) ?_ ?_
                       rotate_left
                       ·show Act.put _ (some 151) _ = _
                        simp only [Act.put, sI14, sZ14, sS14, i64_w, i32_w]
                        rfl
                       refine pure_ (i := 44) (N := some 152) (v := ?_) (a' := ?_) (bA14 46 35184372088831) rfl rfl (any_of HT_.1 (by kernel_rfl)) (fun _ _ _ h => h) (Or.inl ⟨by rfl, ?_⟩) ?_ ?_
                       rotate_left; (focus intro w'; go_simp; with_reducible rfl); rotate_left; focus (simp only [Act.put, sI14, sZ14, sS14, i64_w, i32_w] <;> rfl)
                       refine pure_ (i := 45) (N := some 4) (v := ?_) (a' := ?_) (bA14 46 70368744177663) rfl rfl (any_of HT_.1 (by kernel_rfl)) (fun _ _ _ h => h) (Or.inl ⟨by rfl, ?_⟩) ?_ ?_
                       rotate_left; (focus intro w'; go_simp; with_reducible rfl); rotate_left; focus (simp only [Act.put, sI14, sZ14, sS14, i64_w, i32_w] <;> rfl)
                       refine done_ (done_of HT_.1 (by kernel_rfl)) ?_
                       try go_wp2
                       go_ret
                       first | (with_reducible exact (clash2 A109 A62).elim) | (with_reducible exact (clash2 A62 A109).elim) | (with_reducible exact (clash2 A67 A65).elim) | (with_reducible exact (clash2 A65 A67).elim) | (with_reducible exact (clash2 A61 A28).elim) | (with_reducible exact (clash2 A28 A61).elim) | exact ⟨by first | rfl | (simp [errW_none, errW_some] <;> rfl) | (simp only [← hji58]; first | rfl | (simp [errW_none, errW_some] <;> rfl)) | (simp [*, errW_none, errW_some] <;> rfl), by repeat (first | (with_reducible first | exact HB.1 | apply pa14 | apply pd14 | apply pe14 | refine below_set ?_ GE173.1 | refine below_set ?_ GE188.1) | exact HB.1)⟩
                      ·rw [if_neg c108] at H
                       exact absurd H (by simp)
                     ·rw [if_neg c107] at H
                      exact absurd H (by simp)
                    ·rw [if_neg c106] at H
                     exact absurd H (by simp)
                ·replace c66 := Bool.eq_false_iff.mpr c66
                 subst c66
                 have H1 : (none) = some r := by rw [if_neg (show ¬ (false = true) by decide)] at H; exact H
                 clear H
                 have H := H1
                 clear H1
                 exact absurd H (by simp)
               ·rw [if_neg c64] at H
                exact absurd H (by simp)
              ·replace c63 := Bool.eq_false_iff.mpr c63
               subst c63
               have H1 : (none) = some r := by rw [if_neg (show ¬ (false = true) by decide)] at H; exact H
               clear H
               have H := H1
               clear H1
               exact absurd H (by simp)
             ·rw [if_neg c60] at H
              exact absurd H (by simp)
            ·rw [if_neg c59] at H
             exact absurd H (by simp)

/-- THE ONE PURE STATEMENT of godwitlaw15_SeqsMissing. -/
def godwitlaw15_SeqsMissing.Pure : Prop := ∀ (l0 : List Int) (a1 : Int), (l0.length * 8 ≤ 140737488351232 ∧ ∀ y0_ ∈ l0, (Lit.int .i64 y0_).wf = true) → ((Lit.int .i64 a1).wf = true) → ∃ k, godwitlaw15_SeqsMissing.f k l0 a1 = some true

end Go.Proofs.YtpdfccncfkejiaaDoor.Q
