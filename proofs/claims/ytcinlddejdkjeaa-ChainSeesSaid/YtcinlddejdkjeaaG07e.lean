/- chain: the contract of Since (a copy; DeleteFunc by a closure). -/
import Derived.Test.YtcinlddejdkjeaaG07c
import Derived.Test.YtcinlddejdkjeaaG12i
import Derived.Test.YtcinlddejdkjeaaX2
namespace Go.Proofs.Ytcinlddejdkjeaa.G
open Go.RowKit Go.Proofs.YtcinlddejdkjeaaW.PrintWords Go.Proofs.YtcinlddejdkjeaaW.PrintLast Go.Proofs.YtcinlddejdkjeaaW.PrintMore Go.Proofs.Ytcinlddejdkjeaa.Q
set_option linter.unusedVariables false
set_option linter.unusedSimpArgs false

set_option maxHeartbeats 1000000 in
theorem sinceClosure (x0 : Int) (A1 : Option Addr) (n1 c1 : Nat) (b1 : Bool) (ts : Int) (p : Addr) (w : World) (hp : w.cell? p = some (.int .i64 ts)) :
    Calls Try.prog 33 #[.agg #[.int .i64 x0, .slice A1 n1 c1, .bool b1], .pointer (some p)] w fun e w' => e = .returned (.bool (decide (x0 ≤ ts))) ∧ Below w.heap.size w w' := by
  have hu := Try.underlying37
  have hp1 : ∀ o, (w.alloc o).cell? p = some (.int .i64 ts) := fun o => pw_cell_below (below_alloc (Below.refl _ _) o) hp
  go_enter Try.func33, Try.ntmps33
  go_wp2
  go_ret
  exact ⟨rfl, below_alloc (Below.refl _ _) _⟩

def FoundI (w : World) (r : Int) (e : Ending) (w' : World) : Prop := e = .returned (.int .i64 r) ∧ Below w.heap.size w w'
set_option maxHeartbeats 2000000 in
set_option maxRecDepth 100000 in
theorem indexVer (p : Addr) (ts : Int) (A : Option Addr) (c : Nat) (xs : List S37) (w : World) (hC : Kd.C k37 w A xs.length xs) (hp : w.cell? p = some (.int .i64 ts)) :
    Calls Try.prog 37 #[.slice A xs.length c, .func (.func 33) #[] #[.pointer (some p)]] w (FoundI w (idxF (fun x => decide (x.f0 ≤ ts)) xs)) := by
  have hm : xs.length ≤ 9223372036854775807 := hC.2.1
  have HC := Aside0.mk hC
  have HP := Aside0.mk hp
  have hu := Try.underlying37
  clear hC hp
  go_enter Try.func37, Try.ntmps37
  go_wp2
  go_loopw [8] (fun i wr => ∃ k : Nat, k ≤ xs.length ∧ i = .int .i64 k ∧ Aside0 (∀ j (hj : j < xs.length), j < k → decide ((xs[j]).f0 ≤ ts) = false) ∧ Aside0 (Below w.heap.size w wr)) (fun i _ => xs.length - (intOf i).toNat)
  case atStart => exact ⟨0, Nat.zero_le _, rfl, ⟨fun j hj h => by omega⟩, ⟨Below.refl _ _⟩⟩
  case round =>
    obtain ⟨k, hk, rfl, HF, HB⟩ := hrel
    by_cases hlt : k < xs.length
    · obtain ⟨ad, A1, c1, rfl, h0, h1, h2, h3, h4⟩ := at_T37 (Kd.C_below HC.out HB.out) (k : Int) (by omega) (by omega)
      simp only [Int.toNat_natCast] at h0 h1 h2
      have hp2 : wr.cell? p = some (.int .i64 ts) := pw_cell_below HB.out HP.out
      have e : rd_T37 xs (k : Int) = xs[k] := by simp [rd_T37, List.getD_eq_getElem?_getD, hlt]
      have HE := Aside0.mk e
      clear e h3 h4
      have hle : (k : Int) < (xs.length : Int) := by omega
      have HP2 := Aside0.mk hp2
      clear hp2
      by_cases ht : decide ((rd_T37 xs (k : Int)).f0 ≤ ts) = true
      · have HT := Aside0.mk ht
        clear ht
        go_wp2_with (go_at_call 33; refine (sinceClosure _ _ _ _ _ ts p _ HP2.out).mono ?_; rintro e w1 ⟨rfl, hb⟩; rw [HT.out]; have HB1 := Aside0.mk hb; clear hb)
        go_ret
        exact ⟨by rw [idxF_found _ xs k hlt (by rw [← HE.out]; exact HT.out) (fun j hj => HF.out j _ hj)]; rfl, below_step HB.out HB1.out⟩
      · have HT := Aside0.mk (Bool.eq_false_iff.2 ht)
        clear ht
        go_wp2_with (go_at_call 33; refine (sinceClosure _ _ _ _ _ ts p _ HP2.out).mono ?_; rintro e w1 ⟨rfl, hb⟩; rw [HT.out]; have HB1 := Aside0.mk hb; clear hb)
        go_roundw
        case rel => exact ⟨k + 1, by omega, by go_num, ⟨fun j hj h => by
          rcases Nat.lt_or_ge j k with h' | h'
          · exact HF.out j hj h'
          · obtain rfl : j = k := by omega
            rw [← HE.out]; exact HT.out⟩, ⟨below_step HB.out HB1.out⟩⟩
        case measure => simp [intOf]; omega
    · have hge : ¬ (k : Int) < (xs.length : Int) := by omega
      go_wp2
      go_ret
      exact ⟨by rw [idxF_none _ xs (fun j hj => HF.out j hj (by omega))]; rfl, HB.out⟩
end Go.Proofs.Ytcinlddejdkjeaa.G
