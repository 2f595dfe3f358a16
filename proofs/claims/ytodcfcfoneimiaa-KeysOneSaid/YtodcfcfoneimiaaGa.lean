/- bytes.Compare and keys.Cmp: what the two slices' bytes compare to; the world only grows. -/
import Derived.Test.YtodcfcfoneimiaaProg
import Derived.Test.YtodcfcfoneimiaaWWords
import Derived.Test.YtodcfcfoneimiaaWMore
import Derived.Lib.BytesEntry
import Derived.Laws.Externs
import Derived.Lib.Walk
import Derived.WalkKit
import Derived.KernelRfl
namespace Go.Proofs.Ytodcfcfoneimiaa.G
open Go.RowKit Go.Proofs.YtodcfcfoneimiaaW.PrintWords
set_option linter.unusedVariables false

/-- What a slice of bytes reads as. -/
theorem run_bytesOf {P : Program} {w : World} {A : Option Addr} {c : Nat} {xs : List Int} (h : Kd.C (Kd.int .u8) w A xs.length xs) :
    (Extern.Bytes.bytesOf (.slice A xs.length c)).run P w = .ok ⟨(Lib.bytesOf xs).toArray⟩ w := by
  have h' := Kd.reads_of_C (d := (0 : Int)) h
  cases A with
  | none =>
    cases xs with
    | nil => rfl
    | cons x l => obtain ⟨ad, e, _⟩ := h'.2.2 (by simp); cases e
  | some ad =>
    have hc : ∀ j x, xs[j]? = some x → w.cell? (ad.add j) = some (.int .u8 x) := fun j x hj => by
      have hl : j < xs.length := (List.getElem?_eq_some_iff.1 hj).1
      obtain ⟨ad', e, hr⟩ := h'.2.2 (by omega)
      cases e
      rw [hr j hl, List.getD_eq_getElem?_getD, hj]
      rfl
    have := Lib.run_loadBytesX (P := P) w xs ad .empty hc
    have he : (⟨ByteArray.empty.data ++ (Lib.bytesOf xs).toArray⟩ : ByteArray) = ⟨(Lib.bytesOf xs).toArray⟩ := by
      apply ByteArray.ext
      show (#[] : Array UInt8) ++ (Lib.bytesOf xs).toArray = (Lib.bytesOf xs).toArray
      simp
    rw [he] at this
    exact this

def cmpB (l m : List Int) : Int := Lib.compareBytes (Lib.bytesOf l) (Lib.bytesOf m)

theorem run_compare {P : Program} {w : World} {A B : Option Addr} {c d : Nat} {xs ys : List Int} (h : Kd.C (Kd.int .u8) w A xs.length xs) (k : Kd.C (Kd.int .u8) w B ys.length ys) :
    (Extern.BytealgCompare.compare #[.slice A xs.length c, .slice B ys.length d]).run P w = .ok (.int .i64 (cmpB xs ys)) w := by
  change Sem.run P (do pure (goInt (Extern.BytealgCompare.cmp (← Extern.Bytes.bytesOf (.slice A xs.length c)) (← Extern.Bytes.bytesOf (.slice B ys.length d))))) w = _
  simp only [Sem.run_bind, Sem.run_pure, run_bytesOf h, run_bytesOf k, Result.andThen]
  rw [Lib.cmp_eq]
  rfl

set_option maxHeartbeats 1000000 in
set_option maxRecDepth 100000 in
theorem bytesCompare (A B : Option Addr) (c d : Nat) (xs ys : List Int) (w : World) (h : Kd.C (Kd.int .u8) w A xs.length xs) (k : Kd.C (Kd.int .u8) w B ys.length ys) :
    Calls Try.prog 35 #[.slice A xs.length c, .slice B ys.length d] w fun e w' => e = .returned (.int .i64 (cmpB xs ys)) ∧ w' = w := by
  go_enter Try.func35, Try.ntmps35
  go_wp2
  rw [run_callFunc_extern Try.func46 (by kernel_rfl) (by kernel_rfl) (by kernel_rfl) (e := Extern.BytealgCompare.compare) (by kernel_rfl), run_compare h k]
  simp only [Result.andThen]
  rw [Oper.upon_value]
  go_wp2
  go_ret
  exact ⟨rfl, rfl⟩

set_option maxHeartbeats 1000000 in
set_option maxRecDepth 100000 in
theorem keysCmp (A B : Option Addr) (c d : Nat) (xs ys : List Int) (w : World) (h : Kd.C (Kd.int .u8) w A xs.length xs) (k : Kd.C (Kd.int .u8) w B ys.length ys) :
    Calls Try.prog 11 #[.slice A xs.length c, .slice B ys.length d] w fun e w' => e = .returned (.int .i64 (cmpB xs ys)) ∧ w' = w := by
  have HH := Aside0.mk h
  have HK := Aside0.mk k
  clear h k
  go_enter Try.func11, Try.ntmps11
  go_wp2_with (go_at_call 35; refine (bytesCompare _ _ _ _ _ _ _ HH.out HK.out).mono ?_; rintro e w' ⟨rfl, rfl⟩)
  go_ret
  exact ⟨rfl, rfl⟩
end Go.Proofs.Ytodcfcfoneimiaa.G
