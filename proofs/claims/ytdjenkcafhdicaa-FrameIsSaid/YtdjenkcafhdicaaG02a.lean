/- crc: contracts of made (the table), step, More, Of. -/
import Derived.Test.YtdjenkcafhdicaaProg
import Derived.Test.YtdjenkcafhdicaaP02
import Derived.Deep.WholeRow
import Derived.LoopTactic
import Derived.Outline
import Derived.Lib.Hide
import Derived.Laws.NewBlocks
import Derived.Laws.CopyOwn
namespace Go.Proofs.Ytdjenkcafhdicaa.G
open Go.RowKit Go.Proofs.YtdjenkcafhdicaaW.PrintWords
set_option linter.unusedVariables false
set_option linter.unusedSimpArgs false

/-- One step, as the program spells it. -/
def oneI (x : Int) : Int := Go.bits .xor .u32 (x / 2) (Go.bits .and .u32 3988292384 (-Go.bits .and .u32 x 1 % 4294967296))
theorem O_mod (n : Int) : O (n % 4294967296) = O n := O_wrap n
theorem O_neg (n : Int) : O (-n) = - O n := BitVec.ofInt_neg
theorem odd_mask (x : B) : -(x &&& 1#32) = if x.getLsbD 0 then BitVec.allOnes 32 else 0#32 := by
  have h : x &&& 1#32 = if x.getLsbD 0 then 1#32 else 0#32 := by
    apply BitVec.eq_of_getLsbD_eq
    intro i hi
    rw [BitVec.getLsbD_and]
    cases i with
    | zero => cases x.getLsbD 0 <;> simp
    | succ i => cases x.getLsbD 0 <;> simp [BitVec.getLsbD_one]
  rw [h]
  cases x.getLsbD 0 <;> decide
theorem oneI_is (x : B) : oneI (I x) = I (oneB x) := by
  unfold oneI
  have e1 : O (I x / 2) = x >>> 1 := by
    have := O_shr (I x) 1 (I_range x).1 (I_range x).2
    rw [O_I] at this
    simpa using this
  have e2 : O (Go.bits .and .u32 3988292384 (-Go.bits .and .u32 (I x) 1 % 4294967296)) = if x.getLsbD 0 then polyB else 0#32 := by
    rw [and32, O_I, O_mod, O_neg, and32, O_I, O_I, show O 1 = 1#32 from rfl, odd_mask, show O 3988292384 = polyB from rfl]
    cases x.getLsbD 0 <;> decide
  rw [xor32, e1, e2]
  rfl
def iter1 : Nat → B → B
  | 0, x => x
  | n + 1, x => oneB (iter1 n x)
def TCell (k : Nat) : Value := .int .u32 (I (eightB (BitVec.ofNat 32 k)))
def zrow : Array Value := Array.replicate 256 (.int .u32 0)
theorem infoTab : (Try.prog.info? 58).map (fun i => (i.zero, i.size)) = some (some (.agg zrow), 256) := by kernel_rfl
def Tab : Array Value := (Array.range 256).map TCell

set_option maxHeartbeats 1000000 in
set_option maxRecDepth 100000 in
theorem made_calls (w : World) : Calls Try.prog 31 #[] w fun e w' => e = .returned (.agg Tab) ∧ Below w.heap.size w w' := by
  obtain ⟨hz, hs⟩ := zero_of_info infoTab
  go_enter Try.func31, Try.ntmps31
  go_wp2
  go_loopw [5] (fun i wr => ∃ k : Nat, k ≤ 256 ∧ i = .int .i64 k ∧ ∃ cs : Array Value, Aside0 (cs.size = 256 ∧ ∀ j, j < k → cs[j]? = some (TCell j)) ∧ wr = (w.alloc (.cells zrow 58)).alloc (.cells cs 58)) (fun i _ => 256 - (intOf i).toNat)
  case atStart => exact ⟨0, by omega, rfl, zrow, ⟨by simp [zrow], fun j h => by omega⟩, rfl⟩
  case round =>
    obtain ⟨k, hk, rfl, cs, HC, rfl⟩ := hrel
    by_cases hlt : k < 256
    · have hlt2 : (k : Int) < 256 := by omega
      go_wp2
      go_loop [3, 10] (fun v c => ∃ j : Nat, j ≤ 8 ∧ c = .int .i64 j ∧ v = .int .u32 (I (iter1 j (BitVec.ofNat 32 k)))) (fun _ c => 8 - (intOf c).toNat)
      case atStart => exact ⟨0, by omega, rfl, by
        have : I (BitVec.ofNat 32 k) = (k : Int) := by unfold I; rw [BitVec.toNat_ofNat, Nat.mod_eq_of_lt (by omega)]
        show Value.int IntKind.u32 ↑k = Value.int IntKind.u32 (I (BitVec.ofNat 32 k))
        rw [this]⟩
      case round =>
        obtain ⟨j, hj, rfl, rfl⟩ := hrel
        by_cases hj8 : j < 8
        · have hj2 : (j : Int) < 8 := by omega
          have hx := I_range (iter1 j (BitVec.ofNat 32 k))
          go_wp2
          go_round
          case rel =>
            refine ⟨j + 1, by omega, by go_num, ?_⟩
            show Value.int IntKind.u32 (oneI (I (iter1 j (BitVec.ofNat 32 k)))) = _
            rw [oneI_is]; rfl
          case measure => simp [intOf]; omega
        · obtain rfl : j = 8 := by omega
          obtain ⟨u0, hu0⟩ : ∃ u, cs[k]? = some u := by
            have := HC.out.1
            exact ⟨cs[k]'(by omega), Array.getElem?_eq_getElem _⟩
          go_wp2
          go_roundw
          case rel =>
            refine ⟨k + 1, by omega, by go_num, _, ⟨?_, ?_⟩, rfl⟩
            · rw [Array.size_setIfInBounds]; exact HC.out.1
            · intro j hj
              have hc := HC.out.1
              rw [Array.getElem?_setIfInBounds]
              by_cases e : k = j
              · subst e; rw [if_pos rfl]; simp [hc, hlt]; rfl
              · rw [if_neg e]; exact HC.out.2 j (by omega)
          case measure => simp [intOf]; omega
    · obtain rfl : k = 256 := by omega
      have hT : cs = Tab := by
        apply Array.ext_getElem?
        intro j
        by_cases h : j < 256
        · rw [HC.out.2 j h]; simp [Tab, h]
        · have := HC.out.1
          rw [Array.getElem?_eq_none (by omega), Array.getElem?_eq_none (by simp [Tab]; omega)]
      subst hT
      have hT256 : Tab.size = 256 := by simp [Tab]
      have H256 := Lib.hid hT256
      clear hT256
      have hone : Tab.all (·.oneCell') = true := by
        rw [Array.all_eq_true_iff_forall_mem]
        intro v hv
        unfold Tab at hv
        rw [Array.mem_map] at hv
        obtain ⟨k, _, rfl⟩ := hv
        rfl
      have HONE := Lib.hid hone
      clear hone hz
      have HS := Lib.hid hs
      clear hs
      go_wp2_with (first
        | (refine wpList_load_row rfl 58 (.tmp 1) rfl (w.heap.size + 1) rfl 58 Tab (0, 0) (.array 256 39) ?h1 Try.underlying58 rfl ?h2 ?_; (case h1 => exact heap_alloc2_new _ _ _); (case h2 => rw [HS.out, H256.out]))
        | (refine wpList_store_row rfl 58 (.tmp 0) (.tmp 25) rfl w.heap.size Tab rfl rfl 58 zrow ?h1 ?h2 ?h3 HONE.out ?_; (case h1 => exact heap_alloc2_old _ _ _); (case h2 => rw [HS.out, H256.out]); (case h3 => rw [H256.out]; rfl)))
      refine bodyPost_ret (v := .agg Tab) (results_cell_row (fn := Try.f31) rfl _ _ w.heap.size 58 Tab (0, 0) (.array 256 39) rfl ?h1 Try.underlying58 rfl ?h2) rfl ⟨rfl, ?_⟩
      case h1 => exact setRow_heap _ _ _ _ _ _ (heap_alloc2_old _ _ _)
      case h2 => rw [HS.out, H256.out]
      exact below_setRow (((Below.refl _ _).alloc (Nat.le_refl _) _).alloc (by simp) _) (Nat.le_refl _) _
theorem Tab_get (i : Nat) (h : i < 256) : Tab[i]? = some (TCell i) := by simp [Tab, h]
theorem step_is (x : B) (i : Nat) (hi : Go.bits .and .u32 (I x) 255 = (i : Int)) : Go.bits .xor .u32 (I (eightB (BitVec.ofNat 32 i))) (I x / 256) = I (eightB x) := by
  have e1 : O (I x / 256) = x >>> 8 := by
    have := O_shr (I x) 8 (I_range x).1 (I_range x).2
    rw [O_I] at this
    simpa using this
  have e2 : BitVec.ofNat 32 i = x &&& 255#32 := by
    rw [and32, O_I, show O 255 = 255#32 from rfl] at hi
    have := congrArg O hi
    rw [O_I] at this
    rw [this]
    unfold O
    simp
  rw [xor32, e1, O_I, e2, ← eight_step]
theorem and255_32 (x : B) : ∃ i : Nat, i < 256 ∧ Go.bits .and .u32 (I x) 255 = (i : Int) := by
  refine ⟨(x &&& 255#32).toNat, ?_, by rw [and32, O_I]; rfl⟩
  rw [BitVec.toNat_and]
  exact Nat.lt_of_le_of_lt Nat.and_le_right (by decide)

set_option maxHeartbeats 1000000 in
theorem step_calls (g : Nat) (x : B) (w : World) (hg : w.heap[g]? = some (.cells Tab 58 (0, 0))) :
    Calls Try.prog 32 #[.pointer (some ⟨g, 0, none⟩), .int .u32 (I x)] w fun e w' => e = .returned (.int .u32 (I (eightB x))) ∧ w' = w := by
  obtain ⟨i, hi, he⟩ := and255_32 x
  have hc : w.cell? ⟨g, i, none⟩ = some (TCell i) := by rw [cell_of_row _ _ _ _ _ _ hg, Tab_get i hi]
  unfold TCell at hc
  have HS := Lib.hid (step_is x i he)
  have hr := I_range x
  have hi2 : (i : Int) < 256 := by omega
  clear hg
  go_enter Try.func32, Try.ntmps32
  go_wp2
  go_ret
  exact ⟨congrArg (fun v => Ending.returned (Value.int .u32 v)) HS.out, rfl⟩

theorem Tab_size : Tab.size = 256 := by simp [Tab]
theorem Tab_one : Tab.all (·.oneCell') = true := by
  rw [Array.all_eq_true_iff_forall_mem]
  intro v hv
  unfold Tab at hv
  rw [Array.mem_map] at hv
  obtain ⟨k, _, rfl⟩ := hv
  rfl
def moreB (s : B) (l : List Int) : B := ~~~ foldB (~~~ s) (l.map O)
def moreI (s : Int) (l : List Int) : Int := I (moreB (O s) l)

theorem fold_take (s : B) (xs : List Int) (k : Nat) (h : k < xs.length) : foldB s ((xs.map O).take (k + 1)) = eightB (foldB s ((xs.map O).take k) ^^^ O xs[k]) := by
  rw [List.take_succ_eq_append_getElem (by simpa using h), fold_append]
  simp [foldB]
set_option maxHeartbeats 1000000 in
set_option maxRecDepth 100000 in
theorem more_calls (s : Int) (A : Option Addr) (c : Nat) (xs : List Int) (w : World) (hC : Kd.C (Kd.int .u8) w A xs.length xs) :
    Calls Try.prog 24 #[.int .u32 s, .slice A xs.length c] w fun e w' => e = .returned (.int .u32 (moreI s xs)) ∧ Below w.heap.size w w' := by
  obtain ⟨hz, hs⟩ := zero_of_info infoTab
  have HS := Lib.hid hs
  have HC := Aside0.mk hC
  have hm : xs.length ≤ 9223372036854775807 := hC.2.1
  clear hs hC
  go_enter Try.func24, Try.ntmps24
  go_wp2_with (first
    | (go_at_call 31; refine (made_calls _).mono ?_; rintro e w1 ⟨rfl, hb⟩; have HB1 := Aside0.mk hb; clear hb)
    | (refine wpList_store_row rfl 58 (.tmp 5) (.tmp 9) rfl w1.heap.size Tab rfl rfl 58 zrow ?h1 ?h2 ?h3 Tab_one ?_; (case h1 => exact heap_alloc_last _ _); (case h2 => rw [HS.out, Tab_size]); (case h3 => rw [Tab_size]; rfl); rw [World.setRow_alloc_new])
    | (go_at_call 32; fail))
  have HW := Aside0.mk (Kd.C_alloc (Kd.C_below HC.out HB1.out) (.cells Tab 58))
  have HG0 := heap_alloc_last w1 (.cells Tab 58)
  have HB2 := Aside0.mk (HB1.out.alloc HB1.out.size (.cells Tab 58))
  obtain ⟨g, hg⟩ : ∃ g, w1.heap.size = g := ⟨_, rfl⟩
  rw [hg] at HG0
  rw [hg]
  have HG := Aside0.mk HG0
  clear HG0 hg hz
  generalize w1.alloc (.cells Tab 58) = wx at *
  clear HB1
  go_loop [6, 14] (fun v i => ∃ k : Nat, k ≤ xs.length ∧ i = .int .i64 k ∧ v = .int .u32 (I (foldB (~~~ O s) ((xs.map O).take k)))) (fun _ i => xs.length - (intOf i).toNat)
  case atStart => exact ⟨0, Nat.zero_le _, rfl, congrArg _ (not32 s)⟩
  case round =>
    obtain ⟨k, hk, rfl, rfl⟩ := hrel
    by_cases hlt : k < xs.length
    · have hlt2 : (k : Int) < (xs.length : Int) := by omega
      obtain ⟨ad, cs, rfl, _, hK, hcc⟩ := Kd.C_get HW.out 0 (k : Int) (by omega) (by omega)
      have e0 : xs.getD k 0 = xs[k] := by simp [List.getD_eq_getElem?_getD, hlt]
      simp only [Int.toNat_natCast, e0] at hK hcc
      obtain rfl : cs = [.int .u8 xs[k]] := hK
      have hc : wx.cell? (ad.add k) = some (.int .u8 xs[k]) := by simpa [Kd.int, Kd.scalar] using hcc 0 _ rfl
      generalize hx : xs[k] = x at *
      have HX := Lib.hid hx
      clear hx hcc e0
      have hf := fold_take (~~~ O s) xs k hlt
      rw [HX.out] at hf
      have HF := Lib.hid hf
      clear hf
      generalize foldB (~~~ O s) ((xs.map O).take k) = V at *
      have ex : Go.bits .xor .u32 (I V) (x % 4294967296) = I (V ^^^ O x) := by rw [xor32, O_I, O_mod]
      have HE := Lib.hid ex
      clear ex
      go_wp2_with (go_at_call 32; rw [HE.out]; refine (step_calls g _ _ HG.out).mono ?_; rintro e w2 ⟨rfl, rfl⟩)
      go_round
      case rel => exact ⟨k + 1, by omega, by go_num, by rw [HF.out]⟩
      case measure => simp [intOf]; omega
    · obtain rfl : k = xs.length := by omega
      go_wp2
      go_ret
      refine ⟨?_, HB2.out⟩
      show Ending.returned (.int .u32 (Go.bits .xor .u32 4294967295 _)) = _
      rw [not32, O_I, List.take_of_length_le (by simp)]; rfl
set_option maxHeartbeats 1000000 in
theorem of_calls (A : Option Addr) (c : Nat) (xs : List Int) (w : World) (hC : Kd.C (Kd.int .u8) w A xs.length xs) :
    Calls Try.prog 25 #[.slice A xs.length c] w fun e w' => e = .returned (.int .u32 (moreI 0 xs)) ∧ Below w.heap.size w w' := by
  have HC := Aside0.mk hC
  clear hC
  go_enter Try.func25, Try.ntmps25
  go_wp2_with (go_at_call 24; refine (more_calls 0 A c xs _ HC.out).mono ?_; rintro e w1 ⟨rfl, hb⟩; have HB1 := Aside0.mk hb; clear hb)
  go_ret
  exact ⟨rfl, HB1.out⟩
end Go.Proofs.Ytdjenkcafhdicaa.G
