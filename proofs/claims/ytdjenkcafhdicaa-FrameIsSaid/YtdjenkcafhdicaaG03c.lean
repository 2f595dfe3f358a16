/- frame.read: the way that tells a frame; the whole. -/
import Derived.Test.YtdjenkcafhdicaaG03b
namespace Go.Proofs.Ytdjenkcafhdicaa.G
open Go.RowKit Go.Proofs.YtdjenkcafhdicaaW.PrintWords
set_option linter.unusedVariables false
set_option linter.unusedSimpArgs false
def payL (xs : List Int) : List Int := (xs.take (6 + (szI xs).toNat)).drop 6
def ReadOk (w : World) (z m : Int) (pl : List Int) (e : Ending) (w' : World) : Prop :=
  ∃ v : Value, e = .returned (.tuple #[.agg #[.int .i64 z, .int .u32 m, v], .int .i64 0]) ∧ Kd.R (Kd.int .u8) 5 w' w.heap.size (fun _ => True) v pl ∧ Below w.heap.size w w'
set_option maxHeartbeats 8000000 in
set_option maxRecDepth 100000 in
theorem read_ok (ad : Addr) (c : Nat) (xs : List Int) (w : World) (hC : Kd.C (Kd.int .u8) w (some ad) xs.length xs) (hc : xs.length ≤ c) (hx : ∀ x ∈ xs, 0 ≤ x ∧ x < 256) (hsm : szI xs ≤ 512) (hall : 6 + szI xs ≤ (xs.length : Int)) :
    Calls Try.prog 20 #[.slice (some ad) xs.length c] w (ReadOk w (szI xs) (smI xs) (payL xs)) := by
  have hm : xs.length ≤ 9223372036854775807 := hC.2.1
  have hu := Try.underlying46
  have hu2 := Try.underlying41
  obtain ⟨hz1, hz2⟩ := szI_is xs hx
  obtain ⟨hy1, hy2⟩ := smI_is xs hx
  have hz0 : 0 ≤ szI xs := by omega
  have hy0 : 0 ≤ smI xs := by omega
  have hy3 : smI xs < 4294967296 := by omega
  have hadb : ad.block < w.heap.size := by
    obtain ⟨ad', cs, e1, _, _, hcc⟩ := Kd.C_get hC 0 (0 : Int) (by omega) (by omega)
    cases e1
    obtain ⟨u, hu0⟩ : ∃ u, cs[0]? = some u := ⟨_, List.getElem?_eq_getElem (by rename_i h _; rw [h]; decide)⟩
    have := World.block_lt_of_cell? w _ (hcc 0 u hu0)
    rwa [add_block] at this
  obtain ⟨zN, hzN⟩ := Int.eq_ofNat_of_zero_le hz0
  have hpl : (payL xs).length = zN := by
    unfold payL
    rw [hzN, Int.toNat_natCast, List.length_drop, List.length_take]
    omega
  have hmid := Kd.C_mid (lo := 6) (hi := 6 + zN) hC (by omega) (by omega) hc
  rw [show (xs.take (6 + zN)).drop 6 = payL xs by unfold payL; rw [hzN, Int.toNat_natCast]] at hmid
  have HMID := Aside0.mk hmid
  have HPL := Aside0.mk hpl
  have HC := Aside0.mk hC
  have HX := Aside0.mk hx
  have HAD := Aside0.mk hadb
  have HZ := Lib.hid hzN
  have h2 : 2 ≤ xs.length := by omega
  have h6 : 6 ≤ xs.length := by omega
  have ha1 : ¬ (zN : Int) > (xs.length : Int) - 6 := by omega
  have ha2 : (6 : Int) + (zN : Int) ≤ (c : Int) := by omega
  have hz512 : ¬ (zN : Int) > 512 := by omega
  clear hC hx hadb hz1 hz2 hy1 hy2 hmid hzN hz0 hsm hall HPL
  subst hpl
  have HC6 := Aside0.mk hc
  by_cases hc6 : 6 = c
  · subst hc6
    clear HC6
    have hp0 : (payL xs).length ≤ 0 := by omega
    have HP0 := Aside0.mk hp0
    clear hp0
    go_enter Try.func20, Try.ntmps20
    go_wp2_with (first
      | (go_at_call 27; refine (new_calls (some ad) xs.length 6 _).mono ?_; rintro en w1 ⟨rfl, hr, hb⟩; obtain ⟨hf, hr1⟩ := fr_new hr hb; clear hr hb; obtain ⟨c0, c1, c2, c3, c4, c5, c6, c7⟩ := hf.cells; have HF1 := Aside0.mk hf; have HR1 := Aside0.mk hr1; clear hf hr1)
      | (go_at_call 28; refine (u_ok _ _ _ ad 6 0 2 xs _ HR1.out (Kd.C_below HC.out HF1.out.2.2) (by have := HAD.out; omega) (by omega) (by omega) (by omega) hc HX.out).mono ?_; rintro en w2 ⟨rfl, hr, hb⟩; have hf := HF1.out.step hb; clear c0 c1 c2 c3 c4 c5 c6 c7; obtain ⟨c0, c1, c2, c3, c4, c5, c6, c7⟩ := hf.cells; have HF2 := Aside0.mk (hf.setZ ((payL xs).length : Int)); have HR2 := Aside0.mk (RdF.far hr 0 (.int .i64 ((payL xs).length : Int))); clear hf hr hb HF1 HR1; rw [show uF 0 0 ((xs.drop 0).take 2) = ((payL xs).length : Int) from HZ.out])
      | (go_at_call 28; refine (u_ok _ _ _ ad 6 2 4 xs _ HR2.out (Kd.C_below HC.out HF2.out.2.2) (by have := HAD.out; omega) (by omega) (by omega) (by omega) hc HX.out).mono ?_; rintro en w3 ⟨rfl, hr, hb⟩; have hf := HF2.out.step hb; clear c0 c1 c2 c3 c4 c5 c6 c7; obtain ⟨c0, c1, c2, c3, c4, c5, c6, c7⟩ := hf.cells; have HF3 := Aside0.mk (hf.setM (smI xs)); have HR3 := Aside0.mk (RdF.far hr 1 (.int .u32 (smI xs))); clear hf hr hb HF2 HR2; rw [show uF 0 0 ((xs.drop 2).take 4) = smI xs from rfl])
      | (go_at_call 29; refine (err_calls _ _ _ _ _ _ _ HR3.out).mono ?_; rintro en w4 ⟨rfl, rfl⟩)
      | (go_at_call 26; refine (bytesClone _ _ (payL xs) _ ?k1 ?k2 ?k3).mono ?_; (case k1 => have h1 := Kd.C_below HMID.out HF3.out.2.2; exact h1); (case k2 => exact HP0.out); (case k3 => omega); rintro en w5 ⟨v5, rfl, ho, hb⟩; obtain ⟨A5, k5, e5⟩ := Kd.R_slice ho; subst e5; have hf := HF3.out.step (fun B hB => hb.mono (by have := (Array.getElem?_eq_some_iff.1 HR3.out.2.2).1; omega)); clear c0 c1 c2 c3 c4 c5 c6 c7; obtain ⟨c0, c1, c2, c3, c4, c5, c6, c7⟩ := hf.cells; have HF5 := Aside0.mk hf; have hs5 : w.heap.size + 2 ≤ (w3.setCell ⟨w.heap.size + 1, 1, none⟩ (.int .u32 (smI xs))).heap.size := (by have := (Array.getElem?_eq_some_iff.1 HR3.out.2.2).1; omega); have HO5 := Aside0.mk (Kd.R_mono (ok' := fun k => w.heap.size + 2 ≤ k) (Kd.R_lower (base' := w.heap.size) (Kd.R_bound ho) (by omega)) (fun k hk => Nat.le_trans hs5 hk.2.1)); clear hb ho hf hs5))
    refine bodyPost_ret (v := .tuple #[.agg #[.int .i64 ((payL xs).length : Int), .int .u32 (smI xs), .slice A5 (payL xs).length k5], .int .i64 0]) (by simp [results, Try.f20, go_sem, c5, c6, c7]) rfl ⟨.slice A5 (payL xs).length k5, by rw [HZ.out], ?_, ?_⟩
    · exact Kd.R_mono (Kd.R_far (Kd.R_far (Kd.R_far (Kd.R_far HO5.out (fun k hk => by intro e; have e2 : k = w.heap.size + 1 := e; omega) _) (fun k hk => by intro e; have e2 : k = w.heap.size := e; omega) _) (fun k hk => by intro e; have e2 : k = w.heap.size := e; omega) _) (fun k hk => by intro e; have e2 : k = w.heap.size := e; omega) _) (fun _ _ => trivial)
    · repeat (first | exact HF5.out.2.2 | refine Below.setCell ?_ (by simp) _)
  · have HN6 := Aside0.mk hc6
    go_enter Try.func20, Try.ntmps20
    go_wp2_with (first
      | (go_at_call 27; refine (new_calls (some ad) xs.length c _).mono ?_; rintro en w1 ⟨rfl, hr, hb⟩; obtain ⟨hf, hr1⟩ := fr_new hr hb; clear hr hb; obtain ⟨c0, c1, c2, c3, c4, c5, c6, c7⟩ := hf.cells; have HF1 := Aside0.mk hf; have HR1 := Aside0.mk hr1; clear hf hr1)
      | (go_at_call 28; refine (u_ok _ _ _ ad c 0 2 xs _ HR1.out (Kd.C_below HC.out HF1.out.2.2) (by have := HAD.out; omega) (by omega) (by omega) (by omega) hc HX.out).mono ?_; rintro en w2 ⟨rfl, hr, hb⟩; have hf := HF1.out.step hb; clear c0 c1 c2 c3 c4 c5 c6 c7; obtain ⟨c0, c1, c2, c3, c4, c5, c6, c7⟩ := hf.cells; have HF2 := Aside0.mk (hf.setZ ((payL xs).length : Int)); have HR2 := Aside0.mk (RdF.far hr 0 (.int .i64 ((payL xs).length : Int))); clear hf hr hb HF1 HR1; rw [show uF 0 0 ((xs.drop 0).take 2) = ((payL xs).length : Int) from HZ.out])
      | (go_at_call 28; refine (u_ok _ _ _ ad c 2 4 xs _ HR2.out (Kd.C_below HC.out HF2.out.2.2) (by have := HAD.out; omega) (by omega) (by omega) (by omega) hc HX.out).mono ?_; rintro en w3 ⟨rfl, hr, hb⟩; have hf := HF2.out.step hb; clear c0 c1 c2 c3 c4 c5 c6 c7; obtain ⟨c0, c1, c2, c3, c4, c5, c6, c7⟩ := hf.cells; have HF3 := Aside0.mk (hf.setM (smI xs)); have HR3 := Aside0.mk (RdF.far hr 1 (.int .u32 (smI xs))); clear hf hr hb HF2 HR2; rw [show uF 0 0 ((xs.drop 2).take 4) = smI xs from rfl])
      | (go_at_call 29; refine (err_calls _ _ _ _ _ _ _ HR3.out).mono ?_; rintro en w4 ⟨rfl, rfl⟩)
      | (go_at_call 26; refine (bytesClone _ _ (payL xs) _ ?k1 ?k2 ?k3).mono ?_; (case k1 => have h1 := Kd.C_below HMID.out HF3.out.2.2; rw [if_neg (fun h => HN6.out h.symm)] at h1; exact h1); (case k2 => omega); (case k3 => omega); rintro en w5 ⟨v5, rfl, ho, hb⟩; obtain ⟨A5, k5, e5⟩ := Kd.R_slice ho; subst e5; have hf := HF3.out.step (fun B hB => hb.mono (by have := (Array.getElem?_eq_some_iff.1 HR3.out.2.2).1; omega)); clear c0 c1 c2 c3 c4 c5 c6 c7; obtain ⟨c0, c1, c2, c3, c4, c5, c6, c7⟩ := hf.cells; have HF5 := Aside0.mk hf; have hs5 : w.heap.size + 2 ≤ (w3.setCell ⟨w.heap.size + 1, 1, none⟩ (.int .u32 (smI xs))).heap.size := (by have := (Array.getElem?_eq_some_iff.1 HR3.out.2.2).1; omega); have HO5 := Aside0.mk (Kd.R_mono (ok' := fun k => w.heap.size + 2 ≤ k) (Kd.R_lower (base' := w.heap.size) (Kd.R_bound ho) (by omega)) (fun k hk => Nat.le_trans hs5 hk.2.1)); clear hb ho hf hs5))
    refine bodyPost_ret (v := .tuple #[.agg #[.int .i64 ((payL xs).length : Int), .int .u32 (smI xs), .slice A5 (payL xs).length k5], .int .i64 0]) (by simp [results, Try.f20, go_sem, c5, c6, c7]) rfl ⟨.slice A5 (payL xs).length k5, by rw [HZ.out], ?_, ?_⟩
    · exact Kd.R_mono (Kd.R_far (Kd.R_far (Kd.R_far (Kd.R_far HO5.out (fun k hk => by intro e; have e2 : k = w.heap.size + 1 := e; omega) _) (fun k hk => by intro e; have e2 : k = w.heap.size := e; omega) _) (fun k hk => by intro e; have e2 : k = w.heap.size := e; omega) _) (fun k hk => by intro e; have e2 : k = w.heap.size := e; omega) _) (fun _ _ => trivial)
    · repeat (first | exact HF5.out.2.2 | refine Below.setCell ?_ (by simp) _)
/-- frame.read, whole: the size, the sum, the payload, the error. -/
def readR (xs : List Int) : Int × Int × List Int × Int :=
  if xs.length < 2 then (0, 0, [], 2) else if szI xs > 512 then (0, 0, [], 5) else if (xs.length : Int) < 6 + szI xs then (0, 0, [], 2) else (szI xs, smI xs, payL xs, 0)
theorem read_calls (A : Option Addr) (c : Nat) (xs : List Int) (w : World) (hC : Kd.C (Kd.int .u8) w A xs.length xs) (hc : xs.length ≤ c) (hx : ∀ x ∈ xs, 0 ≤ x ∧ x < 256) :
    Calls Try.prog 20 #[.slice A xs.length c] w fun e w' => ∃ v : Value, e = .returned (.tuple #[.agg #[.int .i64 (readR xs).1, .int .u32 (readR xs).2.1, v], .int .i64 (readR xs).2.2.2]) ∧ Kd.R (Kd.int .u8) 5 w' w.heap.size (fun _ => True) v (readR xs).2.2.1 ∧ Below w.heap.size w w' := by
  unfold readR
  by_cases h2 : xs.length < 2
  · rw [if_pos h2]
    exact (read_short A c xs w (by omega) h2).mono fun e w' ⟨h, hb⟩ => ⟨_, h, Kd.R_nil _ _ _ _ _, hb⟩
  rw [if_neg h2]
  obtain ⟨ad, rfl⟩ : ∃ ad, A = some ad := by
    obtain ⟨ad, e, _⟩ := hC.2.2 (by omega)
    exact ⟨ad, e⟩
  by_cases hb : szI xs > 512
  · rw [if_pos hb]
    exact (read_big ad c xs w hC hc hx (by omega) hb).mono fun e w' ⟨h, hb⟩ => ⟨_, h, Kd.R_nil _ _ _ _ _, hb⟩
  rw [if_neg hb]
  by_cases hf : (xs.length : Int) < 6 + szI xs
  · rw [if_pos hf]
    exact (read_few ad c xs w hC hc hx (by omega) (by omega) hf).mono fun e w' ⟨h, hb⟩ => ⟨_, h, Kd.R_nil _ _ _ _ _, hb⟩
  rw [if_neg hf]
  exact read_ok ad c xs w hC hc hx (by omega) (by omega)
end Go.Proofs.Ytdjenkcafhdicaa.G
