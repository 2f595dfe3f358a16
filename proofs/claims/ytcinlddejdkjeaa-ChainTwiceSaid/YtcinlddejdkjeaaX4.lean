/- What is shared and is read lies in a block that it may lie in. -/
import Derived.Test.YtcinlddejdkjeaaX0
import Derived.Test.YtcinlddejdkjeaaWFootNe
namespace Go.Proofs.Ytcinlddejdkjeaa.G
open Go.RowKit Go.Proofs.YtcinlddejdkjeaaW.PrintWords Go.Proofs.YtcinlddejdkjeaaW.PrintLast
theorem Kd.V_away {α : Type} {d : Go.Proofs.YtcinlddejdkjeaaW.PrintWords.Kd α} {e base : Nat} {w : World} {ok : Nat → Prop} {v : Value} {xs : List α} (h : Go.Proofs.YtcinlddejdkjeaaW.PrintWords.Kd.V d e w base ok v xs) {g : Nat} (hok : ∀ k, ok k → k ≠ g)
    (hn : 0 < xs.length := by first | omega | (simp only [eq_iff_iff, iff_true, decide_eq_true_eq] at *; omega)) (hs : 0 < d.sz := by decide) : some g ≠ v.ownBlock := by
  obtain ⟨A, c, rfl, _, hf⟩ := h
  intro he
  cases A with
  | none => simp [Value.ownBlock] at he
  | some ad =>
    have hg : g = ad.block := by simpa [Value.ownBlock] using he
    exact hok _ (Go.Proofs.YtcinlddejdkjeaaW.PrintWords.Kd.F_in hf rfl hn hs) hg.symm
end Go.Proofs.Ytcinlddejdkjeaa.G
