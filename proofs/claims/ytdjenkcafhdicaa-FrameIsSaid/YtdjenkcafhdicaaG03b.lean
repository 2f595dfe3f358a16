/- frame.read: a frame, as it stands. -/
import Derived.Test.YtdjenkcafhdicaaG03
import Derived.Laws.Bits64
import Derived.Laws.Bits64b
import Derived.Laws.BitsAllLaws
namespace Go.Proofs.Ytdjenkcafhdicaa.G
open Go.RowKit Go.Proofs.YtdjenkcafhdicaaW.PrintWords
set_option linter.unusedVariables false
set_option linter.unusedSimpArgs false
/-- What frame.read tells: the payload's size, the sum, the payload, the error. -/
def szI (xs : List Int) : Int := uF 0 0 ((xs.drop 0).take 2)
def smI (xs : List Int) : Int := uF 0 0 ((xs.drop 2).take 4)
theorem infoFramed : (Try.prog.info? 46).map (fun i => (i.zero, i.size)) = some (some (.agg #[.int .i64 0, .int .u32 0, .slice none 0 0]), 3) := by kernel_rfl

/-- The frame's two variables, beside the reader. -/
def Fr (w W : World) (z m : Int) : Prop :=
  W.heap[w.heap.size]? = some (.cells #[.int .i64 0, .int .u32 0, .slice none 0 0] 46 (0, 0)) ∧
  W.heap[w.heap.size + 1]? = some (.cells #[.int .i64 z, .int .u32 m, .slice none 0 0] 46 (0, 0)) ∧ Below w.heap.size w W
def RdF (w W : World) (v : Value) (a e : Int) : Prop := Rd W (w.heap.size + 2) (w.heap.size + 3) (w.heap.size + 4) v a e
theorem fr_new {w w1 : World} {v : Value} (hr : Rd w1 ((w.alloc (.cells #[.int .i64 0, .int .u32 0, .slice none 0 0] 46)).alloc (.cells #[.int .i64 0, .int .u32 0, .slice none 0 0] 46)).heap.size (((w.alloc (.cells #[.int .i64 0, .int .u32 0, .slice none 0 0] 46)).alloc (.cells #[.int .i64 0, .int .u32 0, .slice none 0 0] 46)).heap.size + 1) (((w.alloc (.cells #[.int .i64 0, .int .u32 0, .slice none 0 0] 46)).alloc (.cells #[.int .i64 0, .int .u32 0, .slice none 0 0] 46)).heap.size + 2) v 0 0)
    (hb : Below ((w.alloc (.cells #[.int .i64 0, .int .u32 0, .slice none 0 0] 46)).alloc (.cells #[.int .i64 0, .int .u32 0, .slice none 0 0] 46)).heap.size ((w.alloc (.cells #[.int .i64 0, .int .u32 0, .slice none 0 0] 46)).alloc (.cells #[.int .i64 0, .int .u32 0, .slice none 0 0] 46)) w1) : Fr w w1 0 0 ∧ RdF w w1 v 0 0 := by
  have hs : ((w.alloc (.cells #[.int .i64 0, .int .u32 0, .slice none 0 0] 46)).alloc (.cells #[.int .i64 0, .int .u32 0, .slice none 0 0] 46)).heap.size = w.heap.size + 2 := by simp
  refine ⟨⟨?_, ?_, ?_⟩, ?_⟩
  · exact (hb.block _ (by rw [hs]; omega)).trans (heap_alloc2_old _ _ _)
  · exact (hb.block _ (by rw [hs]; omega)).trans (heap_alloc2_new _ _ _)
  · exact (((Below.refl _ _).alloc (Nat.le_refl _) _).alloc (by simp) _).trans (hb.mono (by rw [hs]; omega))
  · unfold RdF
    rw [hs] at hr
    exact hr
theorem Fr.step {w W W' : World} {z m : Int} (h : Fr w W z m) (hb : ∀ B, B ≤ w.heap.size + 3 → Below B W W') : Fr w W' z m :=
  ⟨((hb (w.heap.size + 2) (by omega)).block _ (by omega)).trans h.1, ((hb (w.heap.size + 2) (by omega)).block _ (by omega)).trans h.2.1, h.2.2.trans (hb _ (by omega))⟩
theorem Fr.cells {w W : World} {z m : Int} (h : Fr w W z m) :
    W.cell? ⟨w.heap.size + 1, 0, none⟩ = some (.int .i64 z) ∧ W.cell? ⟨w.heap.size + 1, 1, none⟩ = some (.int .u32 m) ∧ W.cell? ⟨w.heap.size + 1, 2, none⟩ = some (.slice none 0 0) ∧
    (∀ i, W.frozen? ⟨w.heap.size + 1, i, none⟩ = false) ∧ (∀ i, W.frozen? ⟨w.heap.size, i, none⟩ = false) ∧
    W.cell? ⟨w.heap.size, 0, none⟩ = some (.int .i64 0) ∧ W.cell? ⟨w.heap.size, 1, none⟩ = some (.int .u32 0) ∧ W.cell? ⟨w.heap.size, 2, none⟩ = some (.slice none 0 0) := by
  obtain ⟨h1, h2, _⟩ := h
  refine ⟨?_, ?_, ?_, fun i => frozen_of_row _ _ _ _ _ h2, fun i => frozen_of_row _ _ _ _ _ h1, ?_, ?_, ?_⟩
  · rw [cell_of_row _ _ _ _ _ _ h2]; rfl
  · rw [cell_of_row _ _ _ _ _ _ h2]; rfl
  · rw [cell_of_row _ _ _ _ _ _ h2]; rfl
  · rw [cell_of_row _ _ _ _ _ _ h1]; rfl
  · rw [cell_of_row _ _ _ _ _ _ h1]; rfl
  · rw [cell_of_row _ _ _ _ _ _ h1]; rfl
theorem Fr.setZ {w W : World} {z m : Int} (h : Fr w W z m) (z' : Int) : Fr w (W.setCell ⟨w.heap.size + 1, 0, none⟩ (.int .i64 z')) z' m :=
  ⟨(heap_setCell_other _ _ _ _ (by simp)).trans h.1, heap_setCell_same _ _ _ _ _ _ h.2.1, h.2.2.setCell (by simp) _⟩
theorem Fr.setM {w W : World} {z m : Int} (h : Fr w W z m) (m' : Int) : Fr w (W.setCell ⟨w.heap.size + 1, 1, none⟩ (.int .u32 m')) z m' :=
  ⟨(heap_setCell_other _ _ _ _ (by simp)).trans h.1, heap_setCell_same _ _ _ _ _ _ h.2.1, h.2.2.setCell (by simp) _⟩
theorem RdF.far {w W : World} {v : Value} {a e : Int} (h : RdF w W v a e) (i : Nat) (u : Value) : RdF w (W.setCell ⟨w.heap.size + 1, i, none⟩ u) v a e :=
  ⟨(heap_setCell_other _ _ _ _ (by simp)).trans h.1, (heap_setCell_other _ _ _ _ (by simp)).trans h.2.1, (heap_setCell_other _ _ _ _ (by simp)).trans h.2.2⟩
def ReadNo (en : Int) (w : World) (e : Ending) (w' : World) : Prop := e = .returned (.tuple #[.agg #[.int .i64 0, .int .u32 0, .slice none 0 0], .int .i64 en]) ∧ Below w.heap.size w w'

set_option maxHeartbeats 4000000 in
set_option maxRecDepth 100000 in
/-- There are not even the bytes of a size. -/
theorem read_short (A : Option Addr) (c : Nat) (xs : List Int) (w : World) (hlen : xs.length ≤ 9223372036854775807) (hs : xs.length < 2) :
    Calls Try.prog 20 #[.slice A xs.length c] w (ReadNo 2 w) := by
  have hu := Try.underlying46
  have hu2 := Try.underlying41
  go_enter Try.func20, Try.ntmps20
  go_wp2_with (first
    | (go_at_call 27; refine (new_calls A xs.length c _).mono ?_; rintro en w1 ⟨rfl, hr, hb⟩; obtain ⟨hf, hr1⟩ := fr_new hr hb; clear hr hb; obtain ⟨c0, c1, c2, c3, c4, c5, c6, c7⟩ := hf.cells; have HF1 := Aside0.mk hf; have HR1 := Aside0.mk hr1; clear hf hr1)
    | (go_at_call 28; refine (u_no _ _ _ A xs.length c 0 2 0 _ HR1.out (by omega) (by omega) (by omega) hlen (.inr (by omega))).mono ?_; rintro en w2 ⟨rfl, hr, hb⟩; have hf := HF1.out.step hb; rw [show nextE xs.length 0 2 0 = 2 from if_pos (by omega)] at hr; clear c0 c1 c2 c3 c4 c5 c6 c7; obtain ⟨c0, c1, c2, c3, c4, c5, c6, c7⟩ := hf.cells; have HF2 := Aside0.mk (hf.setZ 0); have HR2 := Aside0.mk (RdF.far hr 0 (.int .i64 0)); clear hf hr hb HF1 HR1)
    | (go_at_call 28; refine (u_no _ _ _ A xs.length c 0 4 2 _ HR2.out (by omega) (by omega) (by omega) hlen (.inl (by omega))).mono ?_; rintro en w3 ⟨rfl, hr, hb⟩; have hf := HF2.out.step hb; rw [show nextE xs.length 0 4 2 = 2 from by unfold nextE failE; split <;> rfl] at hr; clear c0 c1 c2 c3 c4 c5 c6 c7; obtain ⟨c0, c1, c2, c3, c4, c5, c6, c7⟩ := hf.cells; have HF3 := Aside0.mk (hf.setM 0); have HR3 := Aside0.mk (RdF.far hr 1 (.int .u32 0)); clear hf hr hb HF2 HR2)
    | (go_at_call 29; refine (err_calls _ _ _ _ _ _ _ HR3.out).mono ?_; rintro en w4 ⟨rfl, rfl⟩))
  refine bodyPost_ret (v := .tuple #[.agg #[.int .i64 0, .int .u32 0, .slice none 0 0], .int .i64 2]) (by simp [results, Try.f20, go_sem, c5, c6, c7]) rfl ⟨rfl, ?_⟩
  repeat (first | exact HF3.out.2.2 | refine Below.setCell ?_ (by simp) _)

/-- A number of bytes, the lowest first. -/
def leN : List Int → Nat
  | [] => 0
  | x :: l => x.toNat + 256 * leN l
theorem uF_le : ∀ (l : List Int) (k V : Nat), V < 2 ^ (8 * k) → k + l.length ≤ 8 → (∀ x ∈ l, 0 ≤ x ∧ x < 256) → uF k (V : Int) l = ((V + 2 ^ (8 * k) * leN l : Nat) : Int)
  | [], k, V, _, _, _ => by simp [uF, leN]
  | x :: l, k, V, hV, hk, hx => by
    have hx0 := hx x (by simp)
    have hk' : k + 1 + l.length ≤ 8 := by simp at hk; omega
    obtain ⟨m, rfl⟩ := Int.eq_ofNat_of_zero_le hx0.1
    have hm : m < 256 := by omega
    have hp : 0 < 2 ^ (8 * k) := Nat.pow_pos (by omega)
    have hp8 : 2 ^ (8 * (k + 1)) = 2 ^ (8 * k) * 256 := by rw [show 8 * (k + 1) = 8 * k + 8 by omega, Nat.pow_add]
    have hle : 2 ^ (8 * (k + 1)) ≤ 2 ^ 64 := Nat.pow_le_pow_right (by omega) (by omega)
    have hmul : m * 2 ^ (8 * k) + 2 ^ (8 * k) ≤ 2 ^ (8 * (k + 1)) := by
      rw [hp8, ← Nat.succ_mul, Nat.mul_comm]
      exact Nat.mul_le_mul_left _ hm
    have e1 : (m : Int) * 2 ^ (8 * k) = ((m * 2 ^ (8 * k) : Nat) : Int) := by simp
    have e2 : IntKind.u64.wrap ((m : Int) * 2 ^ (8 * k)) = ((m * 2 ^ (8 * k) : Nat) : Int) := by
      rw [e1, IntKind.wrap_u64]
      generalize m * 2 ^ (8 * k) = q at *
      omega
    have e3 : Go.bits .or .u64 (V : Int) ((m * 2 ^ (8 * k) : Nat) : Int) = ((V + m * 2 ^ (8 * k) : Nat) : Int) := by
      rw [bits_or_u64_nat V _ (by omega) (by omega)]
      congr 1
      rw [Nat.or_comm, nat_join (8 * k) _ V (Nat.mul_mod_left _ _) hV, Nat.add_comm]
    show uF (k + 1) (Go.bits .or .u64 (V : Int) (IntKind.u64.wrap ((m : Int) * 2 ^ (8 * k)))) l = _
    rw [e2, e3, uF_le l (k + 1) _ (by omega) hk' (fun y hy => hx y (by simp [hy]))]
    congr 1
    rw [hp8]
    simp only [leN, Int.toNat_natCast]
    rw [Nat.mul_add, Nat.mul_assoc, Nat.mul_comm m, Nat.add_assoc]
theorem leN_lt : ∀ (l : List Int), (∀ x ∈ l, 0 ≤ x ∧ x < 256) → leN l < 256 ^ l.length
  | [], _ => by simp [leN]
  | x :: l, hx => by
    have h := leN_lt l (fun y hy => hx y (by simp [hy]))
    have h0 := hx x (by simp)
    simp only [leN, List.length_cons, Nat.pow_succ]
    omega
theorem szI_is (xs : List Int) (hx : ∀ x ∈ xs, 0 ≤ x ∧ x < 256) : szI xs = (leN (xs.take 2) : Int) ∧ leN (xs.take 2) < 65536 := by
  have h2 : ∀ x ∈ xs.take 2, 0 ≤ x ∧ x < 256 := fun x h => hx x (List.mem_of_mem_take h)
  have hl : (xs.take 2).length ≤ 2 := List.length_take_le _ _
  have hb := leN_lt _ h2
  have hb2 : 256 ^ (xs.take 2).length ≤ 256 ^ 2 := Nat.pow_le_pow_right (by omega) hl
  refine ⟨?_, by omega⟩
  have := uF_le (xs.take 2) 0 0 (by simp) (by omega) h2
  unfold szI
  rw [List.drop_zero, show (0 : Int) = ((0 : Nat) : Int) from rfl, this]
  simp
theorem smI_is (xs : List Int) (hx : ∀ x ∈ xs, 0 ≤ x ∧ x < 256) : smI xs = (leN ((xs.drop 2).take 4) : Int) ∧ leN ((xs.drop 2).take 4) < 4294967296 := by
  have h2 : ∀ x ∈ (xs.drop 2).take 4, 0 ≤ x ∧ x < 256 := fun x h => hx x (List.mem_of_mem_drop (List.mem_of_mem_take h))
  have hl : ((xs.drop 2).take 4).length ≤ 4 := List.length_take_le _ _
  have hb := leN_lt _ h2
  have hb2 : 256 ^ ((xs.drop 2).take 4).length ≤ 256 ^ 4 := Nat.pow_le_pow_right (by omega) hl
  refine ⟨?_, by omega⟩
  have := uF_le ((xs.drop 2).take 4) 0 0 (by simp) (by omega) h2
  unfold smI
  rw [show (0 : Int) = ((0 : Nat) : Int) from rfl, this]
  simp

set_option maxHeartbeats 4000000 in
set_option maxRecDepth 100000 in
/-- The size is too great. -/
theorem read_big (ad : Addr) (c : Nat) (xs : List Int) (w : World) (hC : Kd.C (Kd.int .u8) w (some ad) xs.length xs) (hc : xs.length ≤ c) (hx : ∀ x ∈ xs, 0 ≤ x ∧ x < 256) (hs : 2 ≤ xs.length) (hbig : szI xs > 512) :
    Calls Try.prog 20 #[.slice (some ad) xs.length c] w (ReadNo 5 w) := by
  have hm : xs.length ≤ 9223372036854775807 := hC.2.1
  have hu := Try.underlying46
  have hu2 := Try.underlying41
  have hadb : ad.block < w.heap.size := by
    obtain ⟨ad', cs, e1, _, _, hcc⟩ := Kd.C_get hC 0 (0 : Int) (by omega) (by omega)
    cases e1
    obtain ⟨u, hu0⟩ : ∃ u, cs[0]? = some u := ⟨_, List.getElem?_eq_getElem (by rename_i h _; rw [h]; decide)⟩
    have := World.block_lt_of_cell? w _ (hcc 0 u hu0)
    rwa [add_block] at this
  have HC := Aside0.mk hC
  have HX := Aside0.mk hx
  have HAD := Aside0.mk hadb
  obtain ⟨hz1, hz2⟩ := szI_is xs hx
  have hz0 : 0 ≤ szI xs := by omega
  have hz3 : szI xs < 65536 := by omega
  clear hC hx hadb hz1 hz2
  go_enter Try.func20, Try.ntmps20
  go_wp2_with (first
    | (go_at_call 27; refine (new_calls (some ad) xs.length c _).mono ?_; rintro en w1 ⟨rfl, hr, hb⟩; obtain ⟨hf, hr1⟩ := fr_new hr hb; clear hr hb; obtain ⟨c0, c1, c2, c3, c4, c5, c6, c7⟩ := hf.cells; have HF1 := Aside0.mk hf; have HR1 := Aside0.mk hr1; clear hf hr1)
    | (go_at_call 28; refine (u_ok _ _ _ ad c 0 2 xs _ HR1.out (Kd.C_below HC.out HF1.out.2.2) (by have := HAD.out; omega) (by omega) (by omega) (by omega) hc HX.out).mono ?_; rintro en w2 ⟨rfl, hr, hb⟩; have hf := HF1.out.step hb; clear c0 c1 c2 c3 c4 c5 c6 c7; obtain ⟨c0, c1, c2, c3, c4, c5, c6, c7⟩ := hf.cells; have HF2 := Aside0.mk (hf.setZ (szI xs)); clear hf hr hb HF1 HR1; rw [show uF 0 0 ((xs.drop 0).take 2) = szI xs from rfl]))
  refine bodyPost_ret (v := .tuple #[.agg #[.int .i64 0, .int .u32 0, .slice none 0 0], .int .i64 5]) (by simp [results, Try.f20, go_sem, c5, c6, c7]) rfl ⟨rfl, ?_⟩
  repeat (first | exact HF2.out.2.2 | refine Below.setCell ?_ (by simp) _)

set_option maxHeartbeats 8000000 in
set_option maxRecDepth 100000 in
/-- There are too few bytes. -/
theorem read_few (ad : Addr) (c : Nat) (xs : List Int) (w : World) (hC : Kd.C (Kd.int .u8) w (some ad) xs.length xs) (hc : xs.length ≤ c) (hx : ∀ x ∈ xs, 0 ≤ x ∧ x < 256) (hs : 2 ≤ xs.length) (hsm : szI xs ≤ 512) (hfew : (xs.length : Int) < 6 + szI xs) :
    Calls Try.prog 20 #[.slice (some ad) xs.length c] w (ReadNo 2 w) := by
  have hm : xs.length ≤ 9223372036854775807 := hC.2.1
  have hu := Try.underlying46
  have hu2 := Try.underlying41
  have hadb : ad.block < w.heap.size := by
    obtain ⟨ad', cs, e1, _, _, hcc⟩ := Kd.C_get hC 0 (0 : Int) (by omega) (by omega)
    cases e1
    obtain ⟨u, hu0⟩ : ∃ u, cs[0]? = some u := ⟨_, List.getElem?_eq_getElem (by rename_i h _; rw [h]; decide)⟩
    have := World.block_lt_of_cell? w _ (hcc 0 u hu0)
    rwa [add_block] at this
  have HC := Aside0.mk hC
  have HX := Aside0.mk hx
  have HAD := Aside0.mk hadb
  obtain ⟨hz1, hz2⟩ := szI_is xs hx
  obtain ⟨hy1, hy2⟩ := smI_is xs hx
  have hz0 : 0 ≤ szI xs := by omega
  have hy0 : 0 ≤ smI xs := by omega
  have hy3 : smI xs < 4294967296 := by omega
  clear hC hx hadb hz1 hz2 hy1 hy2
  by_cases h6 : xs.length < 6
  · go_enter Try.func20, Try.ntmps20
    go_wp2_with (first
      | (go_at_call 27; refine (new_calls (some ad) xs.length c _).mono ?_; rintro en w1 ⟨rfl, hr, hb⟩; obtain ⟨hf, hr1⟩ := fr_new hr hb; clear hr hb; obtain ⟨c0, c1, c2, c3, c4, c5, c6, c7⟩ := hf.cells; have HF1 := Aside0.mk hf; have HR1 := Aside0.mk hr1; clear hf hr1)
      | (go_at_call 28; refine (u_ok _ _ _ ad c 0 2 xs _ HR1.out (Kd.C_below HC.out HF1.out.2.2) (by have := HAD.out; omega) (by omega) (by omega) (by omega) hc HX.out).mono ?_; rintro en w2 ⟨rfl, hr, hb⟩; have hf := HF1.out.step hb; clear c0 c1 c2 c3 c4 c5 c6 c7; obtain ⟨c0, c1, c2, c3, c4, c5, c6, c7⟩ := hf.cells; have HF2 := Aside0.mk (hf.setZ (szI xs)); have HR2 := Aside0.mk (RdF.far hr 0 (.int .i64 (szI xs))); clear hf hr hb HF1 HR1; rw [show uF 0 0 ((xs.drop 0).take 2) = szI xs from rfl])
      | (go_at_call 28; refine (u_no _ _ _ (some ad) xs.length c 2 4 0 _ HR2.out (by omega) (by omega) hs (by omega) (.inr (by omega))).mono ?_; rintro en w3 ⟨rfl, hr, hb⟩; have hf := HF2.out.step hb; rw [show nextE xs.length 2 4 0 = 2 from if_pos (by omega)] at hr; clear c0 c1 c2 c3 c4 c5 c6 c7; obtain ⟨c0, c1, c2, c3, c4, c5, c6, c7⟩ := hf.cells; have HF3 := Aside0.mk (hf.setM 0); have HR3 := Aside0.mk (RdF.far hr 1 (.int .u32 0)); clear hf hr hb HF2 HR2)
      | (go_at_call 29; refine (err_calls _ _ _ _ _ _ _ HR3.out).mono ?_; rintro en w4 ⟨rfl, rfl⟩))
    refine bodyPost_ret (v := .tuple #[.agg #[.int .i64 0, .int .u32 0, .slice none 0 0], .int .i64 2]) (by simp [results, Try.f20, go_sem, c5, c6, c7]) rfl ⟨rfl, ?_⟩
    repeat (first | exact HF3.out.2.2 | refine Below.setCell ?_ (by simp) _)
  · have hf1 : szI xs > (xs.length : Int) - 6 := by omega
    go_enter Try.func20, Try.ntmps20
    go_wp2_with (first
      | (go_at_call 27; refine (new_calls (some ad) xs.length c _).mono ?_; rintro en w1 ⟨rfl, hr, hb⟩; obtain ⟨hf, hr1⟩ := fr_new hr hb; clear hr hb; obtain ⟨c0, c1, c2, c3, c4, c5, c6, c7⟩ := hf.cells; have HF1 := Aside0.mk hf; have HR1 := Aside0.mk hr1; clear hf hr1)
      | (go_at_call 28; refine (u_ok _ _ _ ad c 0 2 xs _ HR1.out (Kd.C_below HC.out HF1.out.2.2) (by have := HAD.out; omega) (by omega) (by omega) (by omega) hc HX.out).mono ?_; rintro en w2 ⟨rfl, hr, hb⟩; have hf := HF1.out.step hb; clear c0 c1 c2 c3 c4 c5 c6 c7; obtain ⟨c0, c1, c2, c3, c4, c5, c6, c7⟩ := hf.cells; have HF2 := Aside0.mk (hf.setZ (szI xs)); have HR2 := Aside0.mk (RdF.far hr 0 (.int .i64 (szI xs))); clear hf hr hb HF1 HR1; rw [show uF 0 0 ((xs.drop 0).take 2) = szI xs from rfl])
      | (go_at_call 28; refine (u_ok _ _ _ ad c 2 4 xs _ HR2.out (Kd.C_below HC.out HF2.out.2.2) (by have := HAD.out; omega) (by omega) (by omega) (by omega) hc HX.out).mono ?_; rintro en w3 ⟨rfl, hr, hb⟩; have hf := HF2.out.step hb; clear c0 c1 c2 c3 c4 c5 c6 c7; obtain ⟨c0, c1, c2, c3, c4, c5, c6, c7⟩ := hf.cells; have HF3 := Aside0.mk (hf.setM (smI xs)); have HR3 := Aside0.mk (RdF.far hr 1 (.int .u32 (smI xs))); clear hf hr hb HF2 HR2; rw [show uF 0 0 ((xs.drop 2).take 4) = smI xs from rfl])
      | (go_at_call 29; refine (err_calls _ _ _ _ _ _ _ HR3.out).mono ?_; rintro en w4 ⟨rfl, rfl⟩))
    refine bodyPost_ret (v := .tuple #[.agg #[.int .i64 0, .int .u32 0, .slice none 0 0], .int .i64 2]) (by simp [results, Try.f20, go_sem, c5, c6, c7]) rfl ⟨rfl, ?_⟩
    repeat (first | exact HF3.out.2.2 | refine Below.setCell ?_ (by simp) _)
end Go.Proofs.Ytdjenkcafhdicaa.G
