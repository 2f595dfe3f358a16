/- chain: the contract of place (a loop over slices.Backward). -/
import Derived.Test.YtcinlddejdkjeaaQx0
import Derived.Test.YtcinlddejdkjeaaX0
import Derived.Test.YtcinlddejdkjeaaWKept
import Derived.RangeFuncNested
import Derived.RangeFuncBound
import Derived.RangeFuncCalls
import Derived.RangeFuncLeaves
import Derived.RangeFuncBox
import Derived.Shelf.Abstract
import Derived.WalkKit
import Derived.OwnWalkIn
import Derived.TacticsInMore
import Derived.LoopNIn
import Derived.LoopIn
namespace Go.Proofs.Ytcinlddejdkjeaa.G
open Go.RowKit Go.Shelf Go.Proofs.YtcinlddejdkjeaaW.PrintWords Go.Proofs.YtcinlddejdkjeaaW.PrintLast Go.Proofs.Ytcinlddejdkjeaa.Q
attribute [local go_sem] Oper.semAt_some
set_option linter.unusedVariables false
set_option linter.unusedSimpArgs false

/-- Where the last one is of which it is so; -1: nowhere. -/
def lastF {α : Type} (p : α → Bool) : List α → Int
  | [] => -1
  | x :: l => if 0 ≤ lastF p l then lastF p l + 1 else if p x then 0 else -1
theorem lastF_none {α : Type} (p : α → Bool) : ∀ (l : List α), (∀ j (hj : j < l.length), p l[j] = false) → lastF p l = -1
  | [], _ => rfl
  | x :: l, h => by
    have e := lastF_none p l (fun j hj => h (j + 1) (by simp; omega))
    have h0 : p x = false := h 0 (by simp)
    simp [lastF, e, h0]
theorem lastF_found {α : Type} (p : α → Bool) : ∀ (l : List α) (k : Nat) (hk : k < l.length), p l[k] = true → (∀ j (hj : j < l.length), k < j → p l[j] = false) → lastF p l = k
  | x :: l, 0, hk, h, hb => by
    have e := lastF_none p l (fun j hj => hb (j + 1) (by simp; omega) (by omega))
    have h0 : p x = true := h
    simp [lastF, e, h0]
  | x :: l, k + 1, hk, h, hb => by
    have e := lastF_found p l k (by simpa using hk) h (fun j hj hlt => hb (j + 1) (by simp; omega) (by omega))
    simp only [lastF, e]
    rw [if_pos (by omega)]; rfl

/-- What has come when k rounds are over. -/
def upto {α : Type} (f : Nat → α) (k : Nat) : List α := (List.range k).map f
theorem upto_succ {α : Type} (f : Nat → α) (k : Nat) : upto f (k + 1) = upto f k ++ [f k] := by simp [upto, List.range_succ]
theorem upto_length {α : Type} (f : Nat → α) (k : Nat) : (upto f k).length = k := by simp [upto]

/-- A version as it lies: its time, its value's slice, whether it is a deletion. -/
structure VV where
  ts : Int
  A : Option Addr
  n : Nat
  c : Nat
  b : Bool
def VV.v (x : VV) : Value := .agg #[.int .i64 x.ts, .slice x.A x.n x.c, .bool x.b]
/-- The versions lie there. -/
def Lies (n₀ : Nat) (W : World) (ad : Addr) (len : Nat) (vv : Nat → VV) : Prop :=
  ∀ j, j < len → (ad.add (j * 3)).block < n₀ ∧ W.cell? (ad.add (j * 3)) = some (.int .i64 (vv j).ts) ∧ W.cell? ⟨(ad.add (j * 3)).block, (ad.add (j * 3)).off + 1, none⟩ = some (.slice (vv j).A (vv j).n (vv j).c) ∧ W.cell? ⟨(ad.add (j * 3)).block, (ad.add (j * 3)).off + 2, none⟩ = some (.bool (vv j).b)
theorem Lies.below {n₀ : Nat} {W W' : World} {ad : Addr} {len : Nat} {vv : Nat → VV} (h : Lies n₀ W ad len vv) (hB : Below n₀ W W') : Lies n₀ W' ad len vv := fun j hj => by
  obtain ⟨h0, h1, h2, h3⟩ := h j hj
  exact ⟨h0, (hB.cell h0).trans h1, (hB.cell (p := ⟨(ad.add (j * 3)).block, (ad.add (j * 3)).off + 1, none⟩) h0).trans h2, (hB.cell (p := ⟨(ad.add (j * 3)).block, (ad.add (j * 3)).off + 2, none⟩) h0).trans h3⟩
theorem lies_of {w : World} {A : Option Addr} {xs : List S37} (hC : Kd.C k37 w A xs.length xs) (hne : 0 < xs.length) : ∃ ad vv, A = some ad ∧ Lies w.heap.size w ad xs.length vv ∧ ∀ j (hj : j < xs.length), (vv j).ts = xs[j].f0 := by
  have key : ∀ j : Nat, ∃ x : VV, ∀ (hj : j < xs.length), x.ts = xs[j].f0 ∧ ∀ ad, A = some ad → (ad.add (j * 3)).block < w.heap.size ∧ w.cell? (ad.add (j * 3)) = some (.int .i64 x.ts) ∧ w.cell? ⟨(ad.add (j * 3)).block, (ad.add (j * 3)).off + 1, none⟩ = some (.slice x.A x.n x.c) ∧ w.cell? ⟨(ad.add (j * 3)).block, (ad.add (j * 3)).off + 2, none⟩ = some (.bool x.b) := fun j => by
    by_cases hj : j < xs.length
    · obtain ⟨ad, A1, c1, e, h0, h1, h2, _, _⟩ := at_T37 hC (j : Int) (by omega) (by omega)
      have e0 : rd_T37 xs (j : Int) = xs[j] := by simp [rd_T37, List.getD_eq_getElem?_getD, hj]
      rw [e0] at h0 h1 h2
      simp only [Int.toNat_natCast] at h0 h1 h2
      exact ⟨⟨xs[j].f0, A1, xs[j].f1.length, c1, xs[j].f2⟩, fun _ => ⟨rfl, fun ad' e' => by rw [e] at e'; cases e'; exact ⟨World.block_lt_of_cell? w _ h0, h0, h1, h2⟩⟩⟩
    · exact ⟨⟨0, none, 0, 0, false⟩, fun h => absurd h hj⟩
  obtain ⟨ad, _, _, e, _⟩ := at_T37 hC 0 (by omega) (by omega)
  refine ⟨ad, fun j => (key j).choose, e, fun j hj => ((key j).choose_spec hj).2 ad e, fun j hj => ((key j).choose_spec hj).1⟩

def down (vv : Nat → VV) (len : Nat) (k : Nat) : Nat × VV := (len - 1 - k, vv (len - 1 - k))
set_option maxRecDepth 100000 in
set_option maxHeartbeats 2000000 in
theorem back1_in (F : Fence) (n : Nat) (h8 : F.fn 38) (hro : F.round = none) (hn : 1 ≤ n) (l Bs n₀ : Nat) (ad : Addr) (len cap : Nat) (vv : Nat → VV) (hlen : len ≤ 9223372036854775807) (J Jx : List (Nat × VV) → World → Prop)
    (hY : ∀ pre x W, J pre W → pre.length < len → YieldAt F (n - 1) Try.prog l #[.int .i64 (x.1 : Int), .agg #[.int .i64 x.2.ts, .slice x.2.A x.2.n x.2.c, .bool x.2.b]] W fun e W' =>
      (e = .returned (.bool true) ∧ J (pre ++ [x]) W' ∧ Below n₀ W W') ∨ (e = .returned (.bool false) ∧ Jx (pre ++ [x]) W'))
    (W : World) (hb : Bs < n₀) (hBs : W.cell? ⟨Bs, 0, none⟩ = some (.slice (some ad) len cap)) (hc : Lies n₀ W ad len vv) (h0 : J [] W) :
    CallsIn F n Try.prog 38 #[.func (.yield l) #[] #[], .pointer (some ⟨Bs, 0, none⟩)] W fun e W' => (∃ v, e = .returned v) ∧
      ((∃ ys, ys = upto (down vv len) len ∧ J ys W') ∨ (∃ pre, (∃ k, k ≤ len ∧ pre = upto (down vv len) k) ∧ Jx pre W')) := by
  have hu := Try.underlying37
  refine callsIn_of_wp Try.func38 rfl h8 ?_ hro
  simp only [Try.ntmps38, List.size_toArray, List.length_cons, List.length_nil, Nat.reduceAdd, Nat.reduceSub, Array.replicate_succ, Array.replicate_zero, List.push_toArray, List.append_toArray, List.nil_append, List.cons_append]
  gi_wp2
  gi_loopw [3] (fun i wr => ∃ k : Nat, k ≤ len ∧ i = .int .i64 ((len : Int) - 1 - k) ∧ J (upto (down vv len) k) wr ∧ Below n₀ W wr)
    (fun i _ => (intOf i + 1).toNat)
  case atStart => exact ⟨0, Nat.zero_le _, by go_num, h0, Below.refl _ _⟩
  case round =>
    obtain ⟨k, hk, rfl, hJs, hnx⟩ := hrel
    have hcs := (hnx.cell (p := ⟨Bs, 0, none⟩) hb).trans hBs
    by_cases hlt : k < len
    · obtain ⟨fn, tmps, assign, body, hy, hR⟩ := hY _ (down vv len k) wr hJs (by rw [upto_length]; exact hlt)
      obtain ⟨_, c0, c1, c2⟩ := (hc.below hnx) (len - 1 - k) (by omega)
      have hp : (0 : Int) ≤ (len : Int) - 1 - k := by omega
      have hq : (len : Int) - 1 - k < (len : Int) := by omega
      have hi : ((len : Int) - 1 - k).toNat = len - 1 - k := by omega
      have hj : ((down vv len k).1 : Int) = (len : Int) - 1 - k := by simp only [down]; omega
      rw [hj] at hy
      simp only [down] at hy
      have d0 := c0
      have d1 := c1
      have d2 := c2
      rw [← hi] at d0 d1 d2
      gi_wp2
      refine hR.mono ?_
      rintro e W3 (⟨rfl, hJ3, hk3⟩ | ⟨rfl, hJx3⟩)
      · gi_wp2
        go_roundw
        case rel => exact ⟨k + 1, by omega, by go_num, by rw [upto_succ]; exact hJ3, hnx.trans hk3⟩
        case measure => simp [intOf]; omega
      · gi_wp2
        refine bodyPost_ret (results_none rfl _ _ _) rfl ?_
        exact ⟨⟨_, rfl⟩, .inr ⟨_, ⟨k + 1, by omega, (upto_succ _ _).symm⟩, hJx3⟩⟩
    · obtain rfl : k = len := by omega
      have hp : ¬ (0 : Int) ≤ (k : Int) - 1 - k := by omega
      gi_wp2
      go_end0
      exact ⟨⟨_, rfl⟩, .inl (by simpa using hJs)⟩

set_option maxRecDepth 100000 in
set_option maxHeartbeats 1000000 in
theorem back1_nil_in (F : Fence) (n : Nat) (h8 : F.fn 38) (hro : F.round = none) (l Bs : Nat) (A : Option Addr) (cap : Nat) (J : List (Nat × VV) → World → Prop) (W : World) (hBs : W.cell? ⟨Bs, 0, none⟩ = some (.slice A 0 cap)) (h0 : J [] W) :
    CallsIn F n Try.prog 38 #[.func (.yield l) #[] #[], .pointer (some ⟨Bs, 0, none⟩)] W fun e W' => (∃ v, e = .returned v) ∧ J [] W' := by
  refine callsIn_of_wp Try.func38 rfl h8 ?_ hro
  simp only [Try.ntmps38, List.size_toArray, List.length_cons, List.length_nil, Nat.reduceAdd, Nat.reduceSub, Array.replicate_succ, Array.replicate_zero, List.push_toArray, List.append_toArray, List.nil_append, List.cons_append]
  gi_wp2
  gi_loopw [3] (fun i wr => i = .int .i64 (-1) ∧ J [] wr) (fun _ _ => 0)
  case atStart => exact ⟨by go_num, h0⟩
  case round =>
    obtain ⟨rfl, hJs⟩ := hrel
    gi_wp2
    go_end0
    exact ⟨⟨_, rfl⟩, hJs⟩
set_option maxHeartbeats 1000000 in
theorem back_in (F : Fence) (n : Nat) (h6 : F.fn 36) (hro : F.round = none) (a : Option Addr) (len cap : Nat) (w : World) :
    CallsIn F n Try.prog 36 #[.slice a len cap] w fun e w' => e = .returned (.func (.func 38) #[] #[.pointer (some ⟨w.heap.size, 0, none⟩)]) ∧ w' = w.alloc (.cells #[.slice a len cap] 27) := by
  refine callsIn_of_wp Try.func36 rfl h6 ?_ hro
  simp only [Try.ntmps36, List.size_toArray, List.length_cons, List.length_nil, Nat.reduceAdd, Nat.reduceSub, Array.replicate_succ, Array.replicate_zero, List.push_toArray, List.append_toArray, List.nil_append, List.cons_append]
  gi_wp2
  go_ret
  exact ⟨rfl, rfl⟩
theorem back_stops (F : Fence) (n : Nat) (h8 : F.fn 38) (hro : F.round = none) (hn : 1 ≤ n) (Bs n₀ : Nat) (A : Option Addr) (len cap : Nat) (vv : Nat → VV) (hlen : len ≤ 9223372036854775807) (w : World) (hBs : Bs < n₀) (hn₀ : n₀ ≤ w.heap.size)
    (hc : w.cell? ⟨Bs, 0, none⟩ = some (.slice A len cap)) (hI : 0 < len → ∃ ad, A = some ad ∧ Lies n₀ w ad len vv) :
    SeqStopsK F n Try.prog 38 #[.pointer (some ⟨Bs, 0, none⟩)] (fun x : Nat × VV => #[Value.int .i64 (x.1 : Int), .agg #[.int .i64 x.2.ts, .slice x.2.A x.2.n x.2.c, .bool x.2.b]]) (Below n₀) (fun ys => ys = upto (down vv len) len)
      (fun pre => ∃ k, k ≤ len ∧ pre = upto (down vv len) k) len w := fun l J Jx W hW _ _ hY h0 => by
  have hc' := (hW.cell (p := ⟨Bs, 0, none⟩) (by simp only; omega)).trans hc
  rcases Nat.eq_zero_or_pos len with rfl | hp
  · exact (back1_nil_in F n h8 hro l Bs A cap J W hc' h0).mono fun e W' ⟨he, hj⟩ => ⟨he, .inl ⟨_, rfl, hj⟩⟩
  · obtain ⟨ad, rfl, hL⟩ := hI hp
    exact back1_in F n h8 hro hn l Bs n₀ ad len cap vv hlen J Jx hY W hBs hc' (hL.below (hW.mono hn₀)) h0
end Go.Proofs.Ytcinlddejdkjeaa.G
