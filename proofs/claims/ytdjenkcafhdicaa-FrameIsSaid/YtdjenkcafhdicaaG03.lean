/- enc.Reader: a reader of bytes, with its closure; frame.read. -/
import Derived.Test.YtdjenkcafhdicaaProg
import Derived.Test.YtdjenkcafhdicaaP02
import Derived.Test.YtdjenkcafhdicaaG06b
import Derived.Laws.EntriesVeiled
import Derived.LoopTactic
import Derived.Outline
import Derived.Lib.Hide
import Derived.Laws.NewBlocks
import Derived.Laws.Rows
import Derived.RegionTactic
import Derived.WalkLawsBesides
namespace Go.Proofs.Ytdjenkcafhdicaa.G
open Go.RowKit Go.Proofs.YtdjenkcafhdicaaW.PrintWords
set_option linter.unusedVariables false
set_option linter.unusedSimpArgs false
/-- A reader's blocks. -/
def Rd (W : World) (gB gR gP : Nat) (v : Value) (at_ e : Int) : Prop :=
  W.heap[gB]? = some (.cells #[v] 22 (0, 0)) ∧
  W.heap[gR]? = some (.cells #[v, .int .i64 at_, .int .i64 e, .func (.func 33) #[] #[.pointer (some ⟨gB, 0, none⟩), .pointer (some ⟨gP, 0, none⟩)]] 62 (0, 0)) ∧
  W.heap[gP]? = some (.cells #[.pointer (some ⟨gR, 0, none⟩)] 52 (0, 0))
theorem heap3_0 (w : World) (a b c : Obj) : (((w.alloc a).alloc b).alloc c).heap[w.heap.size]? = some a := by
  show (((w.heap.push a).push b).push c)[w.heap.size]? = some a
  rw [Array.getElem?_push, if_neg (by simp; omega), Array.getElem?_push, if_neg (by simp), Array.getElem?_push, if_pos rfl]
theorem heap3_1 (w : World) (a b c : Obj) : (((w.alloc a).alloc b).alloc c).heap[w.heap.size + 1]? = some b := by
  show (((w.heap.push a).push b).push c)[w.heap.size + 1]? = some b
  rw [Array.getElem?_push, if_neg (by simp), Array.getElem?_push, if_pos (by simp)]
theorem heap3_2 (w : World) (a b c : Obj) : (((w.alloc a).alloc b).alloc c).heap[w.heap.size + 2]? = some c := by
  show (((w.heap.push a).push b).push c)[w.heap.size + 2]? = some c
  rw [Array.getElem?_push, if_pos (by simp)]
set_option maxHeartbeats 1000000 in
set_option maxRecDepth 100000 in
theorem new_calls (A : Option Addr) (n c : Nat) (w : World) :
    Calls Try.prog 27 #[.slice A n c] w fun e w' => e = .returned (.pointer (some ⟨w.heap.size + 1, 0, none⟩)) ∧ Rd w' w.heap.size (w.heap.size + 1) (w.heap.size + 2) (.slice A n c) 0 0 ∧ Below w.heap.size w w' := by
  have hu := Try.underlying62
  go_enter Try.func27, Try.ntmps27
  go_wp2
  go_ret
  exact ⟨rfl, ⟨heap3_0 _ _ _ _, heap3_1 _ _ _ _, heap3_2 _ _ _ _⟩, (((Below.refl _ _).alloc (Nat.le_refl _) _).alloc (by simp) _).alloc (by simp; omega) _⟩

/-- What the reader is asked, cell by cell. -/
theorem Rd.cells {W : World} {gB gR gP : Nat} {v : Value} {a e : Int} (h : Rd W gB gR gP v a e) :
    W.cell? ⟨gB, 0, none⟩ = some v ∧ W.cell? ⟨gR, 0, none⟩ = some v ∧ W.cell? ⟨gR, 1, none⟩ = some (.int .i64 a) ∧ W.cell? ⟨gR, 2, none⟩ = some (.int .i64 e) ∧
    W.cell? ⟨gR, 3, none⟩ = some (.func (.func 33) #[] #[.pointer (some ⟨gB, 0, none⟩), .pointer (some ⟨gP, 0, none⟩)]) ∧ W.cell? ⟨gP, 0, none⟩ = some (.pointer (some ⟨gR, 0, none⟩)) ∧
    W.frozen? ⟨gR, 1, none⟩ = false ∧ W.frozen? ⟨gR, 2, none⟩ = false := by
  obtain ⟨h1, h2, h3⟩ := h
  refine ⟨?_, ?_, ?_, ?_, ?_, ?_, frozen_of_row _ _ _ _ _ h2, frozen_of_row _ _ _ _ _ h2⟩
  · rw [cell_of_row _ _ _ _ _ _ h1]; rfl
  · rw [cell_of_row _ _ _ _ _ _ h2]; rfl
  · rw [cell_of_row _ _ _ _ _ _ h2]; rfl
  · rw [cell_of_row _ _ _ _ _ _ h2]; rfl
  · rw [cell_of_row _ _ _ _ _ _ h2]; rfl
  · rw [cell_of_row _ _ _ _ _ _ h3]; rfl
theorem Rd.ne {W : World} {gB gR gP : Nat} {v : Value} {a e : Int} (h : Rd W gB gR gP v a e) : gB ≠ gR ∧ gP ≠ gR := by
  obtain ⟨h1, h2, h3⟩ := h
  constructor
  · rintro rfl; rw [h1] at h2; injection h2 with h2; injection h2 with h2; simp at h2
  · rintro rfl; rw [h3] at h2; injection h2 with h2; injection h2 with h2; simp at h2
theorem Rd.drew {W : World} {gB gR gP : Nat} {v : Value} {a e : Int} (h : Rd W gB gR gP v a e) (n : Nat) : Rd (W.drewN n) gB gR gP v a e := h
theorem Rd.setAt {W : World} {gB gR gP : Nat} {v : Value} {a e : Int} (h : Rd W gB gR gP v a e) (a' : Int) : Rd (W.setCell ⟨gR, 1, none⟩ (.int .i64 a')) gB gR gP v a' e := by
  obtain ⟨n1, n2⟩ := h.ne
  obtain ⟨h1, h2, h3⟩ := h
  exact ⟨(heap_setCell_other _ _ _ _ n1).trans h1, heap_setCell_same _ _ _ _ _ _ h2, (heap_setCell_other _ _ _ _ n2).trans h3⟩
theorem Rd.setE {W : World} {gB gR gP : Nat} {v : Value} {a e : Int} (h : Rd W gB gR gP v a e) (e' : Int) : Rd (W.setCell ⟨gR, 2, none⟩ (.int .i64 e')) gB gR gP v a e' := by
  obtain ⟨n1, n2⟩ := h.ne
  obtain ⟨h1, h2, h3⟩ := h
  exact ⟨(heap_setCell_other _ _ _ _ n1).trans h1, heap_setCell_same _ _ _ _ _ _ h2, (heap_setCell_other _ _ _ _ n2).trans h3⟩

def failE (e x : Int) : Int := if e = 0 then x else e
set_option maxHeartbeats 1000000 in
/-- An error is laid where there is none. -/
theorem fail_calls (gB gR gP : Nat) (v : Value) (a e : Int) (x : Int) (W : World) (h : Rd W gB gR gP v a e) :
    Calls Try.prog 34 #[.pointer (some ⟨gR, 0, none⟩), .int .i64 x] W fun en w' => en = .returned (.tuple #[]) ∧ Rd w' gB gR gP v a (failE e x) ∧ ∀ B, B ≤ gR → Below B W w' := by
  have hu := Try.underlying62
  obtain ⟨c0, c1, c2, c3, c4, c5, f1, f2⟩ := h.cells
  have HR := Aside0.mk h
  clear h
  by_cases he : e = 0
  · subst he
    go_enter Try.func34, Try.ntmps34
    go_wp2
    go_end0
    refine ⟨rfl, ?_, ?_⟩
    · exact HR.out.setE x
    · exact fun B hB => (Below.refl _ _).setCell hB _
  · have hb : (e == 0) = false := by simpa using he
    go_enter Try.func34, Try.ntmps34
    go_wp2
    go_end0
    refine ⟨rfl, ?_, ?_⟩
    · rw [show failE e x = e from if_neg he]; exact HR.out
    · exact fun B hB => Below.refl _ _
/-- What is told of the bytes behind. -/
def cutA (A : Option Addr) (a : Nat) : Option Addr := A.map fun ad => ad.add a
set_option maxHeartbeats 2000000 in
/-- The next n bytes, where there are so many. -/
theorem next_ok (gB gR gP : Nat) (ad : Addr) (len c a n : Nat) (W : World) (h : Rd W gB gR gP (.slice (some ad) len c) a 0) (hn : 0 < n) (hle : a + n ≤ len) (hc : len ≤ c) (hm : len ≤ 9223372036854775807) :
    Calls Try.prog 33 #[.int .i64 n, .pointer (some ⟨gB, 0, none⟩), .pointer (some ⟨gP, 0, none⟩)] W fun en w' => en = .returned (.slice (some (ad.add a)) n (c - a)) ∧ Rd w' gB gR gP (.slice (some ad) len c) ((a + n : Nat) : Int) 0 ∧ ∀ B, B ≤ gR → Below B W w' := by
  have hu := Try.underlying62
  obtain ⟨c0, c1, c2, c3, c4, c5, f1, f2⟩ := h.cells
  have HR := Aside0.mk h
  clear h
  have h1 : ¬ ((len : Int) - (a : Int) < (n : Int)) := by omega
  have h2 : a ≠ c := by omega
  go_enter Try.func33, Try.ntmps33
  go_wp2
  go_region
  go_wp2
  have HR1 := Aside0.mk (HR.out.setAt ((a : Int) + (n : Int)))
  have HB1 : Aside0 (∀ B, B ≤ gR → Below B W (W.setCell ⟨gR, 1, none⟩ (.int .i64 ((a : Int) + (n : Int))))) := ⟨fun B hB => (Below.refl _ _).setCell hB _⟩
  clear c0 c1 c2 c3 c4 c5 f1 f2 HR h1
  generalize W.setCell ⟨gR, 1, none⟩ (.int .i64 ((a : Int) + (n : Int))) = W1 at *
  obtain ⟨c0, c1, c2, c3, c4, c5, f1, f2⟩ := HR1.out.cells
  have h3 : (a : Int) + (n : Int) - (n : Int) = (a : Int) := by omega
  have h4 : (a : Int) + (n : Int) ≤ (c : Int) := by omega
  go_region
  go_wp2
  go_ret
  refine ⟨?_, HR1.out, fun B hB => below_drew1 (below_drew1 (HB1.out B hB))⟩
  rw [show a + n - a = n by omega]
  rfl

def nextE (len a n : Nat) (e : Int) : Int := if len < a + n then failE e 2 else e
set_option maxHeartbeats 2000000 in
/-- There are too few, or there is an error already: nothing. -/
theorem next_no (gB gR gP : Nat) (A : Option Addr) (len c a n : Nat) (e : Int) (W : World) (h : Rd W gB gR gP (.slice A len c) a e) (hle : a ≤ len) (hlen : len ≤ 9223372036854775807) (hn : n ≤ 8) (hno : e ≠ 0 ∨ len < a + n) :
    Calls Try.prog 33 #[.int .i64 n, .pointer (some ⟨gB, 0, none⟩), .pointer (some ⟨gP, 0, none⟩)] W fun en w' => en = .returned (.slice none 0 0) ∧ Rd w' gB gR gP (.slice A len c) a (nextE len a n e) ∧ ∀ B, B ≤ gR → Below B W w' := by
  have hu := Try.underlying62
  obtain ⟨c0, c1, c2, c3, c4, c5, f1, f2⟩ := h.cells
  have HR := Aside0.mk h
  clear h
  by_cases hs : len < a + n
  · have h1 : ((len : Int) - (a : Int) < (n : Int)) := by omega
    have HP := Aside0.mk (show nextE len a n e = failE e 2 from if_pos hs)
    have hne : ((failE e 2 == 0) = false) := by
      unfold failE
      by_cases he : e = 0
      · rw [if_pos he]; rfl
      · rw [if_neg he]; simpa using he
    have hne2 : ((failE e 2 != 0) = true) := by rw [bne, hne]; rfl
    have HNE := Aside0.mk hne
    clear hs hno hne
    go_enter Try.func33, Try.ntmps33
    go_wp2
    go_region
    go_wp2_with (go_at_call 34; refine (fail_calls gB gR gP _ _ e 2 _ (HR.out.drew 1)).mono ?_; rintro en w1 ⟨rfl, hr, hb⟩; obtain ⟨d0, d1, d2, d3, d4, d5, g1, g2⟩ := hr.cells; have HR1 := Aside0.mk hr; have HB1 := Aside0.mk hb; clear hr hb)
    go_ret
    exact ⟨rfl, by rw [HP.out]; exact HR1.out, fun B hB => (below_drew1 (Below.refl _ _)).trans (HB1.out B hB)⟩
  · have h1 : ¬ ((len : Int) - (a : Int) < (n : Int)) := by omega
    have he : e ≠ 0 := by rcases hno with h | h; exact h; exact absurd h hs
    have HP := Aside0.mk (show nextE len a n e = e from if_neg hs)
    have hne : ((e == 0) = false) := by simpa using he
    have hne2 : ((e != 0) = true) := by rw [bne, hne]; rfl
    clear hs hno he
    go_enter Try.func33, Try.ntmps33
    go_wp2
    go_region
    go_wp2
    go_ret
    exact ⟨rfl, by rw [HP.out]; exact HR.out, fun B hB => below_drew1 (Below.refl _ _)⟩

theorem add_block (a : Addr) (k : Nat) : (a.add k).block = a.block := by
  unfold Addr.add
  split <;> simp_all
theorem add_add (a : Addr) (j k : Nat) : (a.add j).add k = a.add (j + k) := by
  unfold Addr.add
  split <;> split <;> simp_all <;> first | omega | (split <;> simp_all <;> omega) | skip
/-- A number of bytes, the lowest first, as the program reckons it. -/
def uF : Nat → Int → List Int → Int
  | _, v, [] => v
  | k, v, x :: l => uF (k + 1) (Go.bits .or .u64 v (IntKind.u64.wrap (x * 2 ^ (8 * k)))) l
theorem uF_snoc : ∀ (l : List Int) (k : Nat) (v x : Int), uF k v (l ++ [x]) = Go.bits .or .u64 (uF k v l) (IntKind.u64.wrap (x * 2 ^ (8 * (k + l.length))))
  | [], k, v, x => rfl
  | y :: l, k, v, x => by
    show uF (k + 1) _ (l ++ [x]) = _
    rw [uF_snoc l (k + 1)]
    show Go.bits .or .u64 (uF k v (y :: l)) _ = _
    rw [show k + 1 + l.length = k + (y :: l).length by simp; omega]

set_option maxHeartbeats 4000000 in
set_option maxRecDepth 100000 in
theorem u_ok (gB gR gP : Nat) (ad : Addr) (c a n : Nat) (xs : List Int) (W : World) (h : Rd W gB gR gP (.slice (some ad) xs.length c) a 0) (hC : Kd.C (Kd.int .u8) W (some ad) xs.length xs) (hr : ad.block < gR) (hn : 0 < n) (hn8 : n ≤ 8) (hle : a + n ≤ xs.length) (hc : xs.length ≤ c)
    (hx : ∀ x ∈ xs, 0 ≤ x ∧ x < 256) :
    Calls Try.prog 28 #[.pointer (some ⟨gR, 0, none⟩), .int .i64 n] W fun en w' => en = .returned (.int .u64 (uF 0 0 ((xs.drop a).take n))) ∧ Rd w' gB gR gP (.slice (some ad) xs.length c) ((a + n : Nat) : Int) 0 ∧ ∀ B, B ≤ gR → Below B W w' := by
  have hm : xs.length ≤ 9223372036854775807 := hC.2.1
  have hu := Try.underlying62
  obtain ⟨c0, c1, c2, c3, c4, c5, f1, f2⟩ := h.cells
  have HR := Aside0.mk h
  have HC := Aside0.mk hC
  have HX := Aside0.mk hx
  have HLT := Aside0.mk hr
  clear h hC hx hr
  have n1 : (1 : Int) ≤ (n : Int) := by omega
  have n8 : (n : Int) ≤ 8 := by omega
  go_enter Try.func28, Try.ntmps28
  go_wp2_with (go_at_call 33; refine (next_ok gB gR gP ad xs.length c a n _ HR.out hn hle hc hm).mono ?_; rintro en w1 ⟨rfl, hr, hb⟩; have HR1 := Aside0.mk hr; have HB1 := Aside0.mk hb; clear hr hb)
  obtain ⟨ys, hys⟩ : ∃ ys, (xs.drop a).take n = ys := ⟨_, rfl⟩
  have hyl : ys.length = n := by rw [← hys, List.length_take, List.length_drop]; omega
  have hyc : ∀ k (hk : k < ys.length), w1.cell? ((ad.add a).add k) = some (.int .u8 ys[k]) ∧ 0 ≤ ys[k] ∧ ys[k] < 256 := by
    intro k hk
    have hka : a + k < xs.length := by omega
    have e : ys[k] = xs[a + k] := by subst hys; simp
    obtain ⟨ad', cs, e1, _, hK, hcc⟩ := Kd.C_get HC.out 0 ((a + k : Nat) : Int) (by omega) (by omega)
    cases e1
    have e0 : xs.getD (a + k) 0 = xs[a + k] := by simp [List.getD_eq_getElem?_getD, hka]
    simp only [Int.toNat_natCast, e0] at hK hcc
    obtain rfl : cs = [.int .u8 xs[a + k]] := hK
    have h1 : W.cell? (ad.add (a + k)) = some (.int .u8 xs[a + k]) := by simpa [Kd.int, Kd.scalar] using hcc 0 _ rfl
    rw [e, add_add]
    exact ⟨((HB1.out gR (Nat.le_refl _)).cell (p := ad.add (a + k)) (by rw [add_block]; exact HLT.out)).trans h1, HX.out _ (List.getElem_mem hka)⟩
  have HYS := Aside0.mk hys
  have HYC := Aside0.mk hyc
  have HYL := Aside0.mk hyl
  clear hys hyc hyl c0 c1 c2 c3 c4 c5 f1 f2
  go_loop [5, 27] (fun v i => ∃ k : Nat, k ≤ n ∧ i = .int .i64 k ∧ v = .int .u64 (uF 0 0 (ys.take k))) (fun _ i => n - (intOf i).toNat)
  case atStart => exact ⟨0, Nat.zero_le _, rfl, rfl⟩
  case round =>
    obtain ⟨k, hk, rfl, rfl⟩ := hrel
    by_cases hlt : k < n
    · have hlt2 : (k : Int) < (n : Int) := by omega
      have hky : k < ys.length := by have := HYL.out; omega
      obtain ⟨hc1, hb0, hb1⟩ := HYC.out k hky
      have hsn := uF_snoc (ys.take k) 0 0 ys[k]
      rw [List.length_take, Nat.zero_add, Nat.min_eq_left (by omega), ← List.take_succ_eq_append_getElem hky] at hsn
      have HSN := Lib.hid hsn
      clear hsn
      generalize ys[k] = x at *
      generalize uF 0 0 (ys.take k) = V at *
      go_wp2
      go_round
      case rel => exact ⟨k + 1, by omega, by go_num, by rw [HSN.out]⟩
      case measure => simp [intOf]; omega
    · obtain rfl : k = n := by omega
      go_wp2
      go_ret
      refine ⟨?_, HR1.out, HB1.out⟩
      rw [HYS.out, List.take_of_length_le (by have := HYL.out; omega)]
      rfl

set_option maxHeartbeats 4000000 in
set_option maxRecDepth 100000 in
theorem u_no (gB gR gP : Nat) (A : Option Addr) (len c a n : Nat) (e : Int) (W : World) (h : Rd W gB gR gP (.slice A len c) a e) (hn : 0 < n) (hn8 : n ≤ 8) (hle : a ≤ len) (hlen : len ≤ 9223372036854775807) (hno : e ≠ 0 ∨ len < a + n) :
    Calls Try.prog 28 #[.pointer (some ⟨gR, 0, none⟩), .int .i64 n] W fun en w' => en = .returned (.int .u64 0) ∧ Rd w' gB gR gP (.slice A len c) a (nextE len a n e) ∧ ∀ B, B ≤ gR → Below B W w' := by
  have hu := Try.underlying62
  obtain ⟨c0, c1, c2, c3, c4, c5, f1, f2⟩ := h.cells
  have HR := Aside0.mk h
  clear h
  have n1 : (1 : Int) ≤ (n : Int) := by omega
  have n8 : (n : Int) ≤ 8 := by omega
  go_enter Try.func28, Try.ntmps28
  go_wp2_with (go_at_call 33; refine (next_no gB gR gP A len c a n e _ HR.out hle hlen hn8 hno).mono ?_; rintro en w1 ⟨rfl, hr, hb⟩; have HR1 := Aside0.mk hr; have HB1 := Aside0.mk hb; clear hr hb)
  clear c0 c1 c2 c3 c4 c5 f1 f2
  go_loop [5, 27] (fun v i => i = .int .i64 0 ∧ v = .int .u64 0) (fun _ i => 0)
  case atStart => exact ⟨rfl, rfl⟩
  case round =>
    obtain ⟨rfl, rfl⟩ := hrel
    go_wp2
    go_ret
    exact ⟨rfl, HR1.out, HB1.out⟩
theorem err_calls (gB gR gP : Nat) (v : Value) (a e : Int) (W : World) (h : Rd W gB gR gP v a e) :
    Calls Try.prog 29 #[.pointer (some ⟨gR, 0, none⟩)] W fun en w' => en = .returned (.int .i64 e) ∧ w' = W := by
  have hu := Try.underlying62
  obtain ⟨c0, c1, c2, c3, c4, c5, f1, f2⟩ := h.cells
  go_enter Try.func29, Try.ntmps29
  go_wp2
  go_ret
  exact ⟨rfl, rfl⟩
end Go.Proofs.Ytdjenkcafhdicaa.G
