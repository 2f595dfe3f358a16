/- What is shared and is read lies in a block that it may lie in. -/
import Derived.Test.YtcinlddejdkjeaaX0
import Derived.Test.YtcinlddejdkjeaaWFootNe
namespace Go.Proofs.Ytcinlddejdkjeaa.G
open Go.RowKit Go.Proofs.YtcinlddejdkjeaaW.PrintWords Go.Proofs.YtcinlddejdkjeaaW.PrintLast
theorem Kd.V_away {α : Type} {d : Go.Proofs.YtcinlddejdkjeaaW.PrintWords.Kd α} {e base : Nat} {w : World} {ok : Nat → Prop} {v : Value} {xs : List α} (h : Go.Proofs.YtcinlddejdkjeaaW.PrintWords.Kd.V d e w base ok v xs) {g : Nat} (hok : ∀ k, ok k → k ≠ g)
    (hn : 0 < xs.length := by first | omega | (simp only [eq_iff_iff, iff_true, decide_eq_true_eq] at *; omega)) (hs : 0 < d.sz := by decide) : some g ≠ v.ownBlock := by
  obtain ⟨A, c, rfl, _, hf⟩ := h
  intro he
  cases A with
  | none => simp [Value.ownBlock] at he
  | some ad =>
    have hg : g = ad.block := by simpa [Value.ownBlock] using he
    exact hok _ (Go.Proofs.YtcinlddejdkjeaaW.PrintWords.Kd.F_in hf rfl hn hs) hg.symm
theorem V_string {P : Program} {w : World} {src dst e q base : TypeId} {ok : Nat → Prop} {v : Value} {xs : List Int} (hs : P.underlying src = some (.slice e)) (he : P.underlying e = some (.int .u8)) (hd : P.underlying dst = some .string)
    (h : Go.Proofs.YtcinlddejdkjeaaW.PrintWords.Kd.V (Go.Proofs.YtcinlddejdkjeaaW.PrintWords.Kd.int .u8) q w base ok v xs) : (convert src dst v).run P w = .ok (.string (strOfNums xs)) w := by
  obtain ⟨A, c, rfl, hl, hf⟩ := h
  exact Go.Proofs.YtcinlddejdkjeaaW.PrintWords.Kd.C_string hs he hd (Go.Proofs.YtcinlddejdkjeaaW.PrintWords.Kd.F_now hf)
end Go.Proofs.Ytcinlddejdkjeaa.G
