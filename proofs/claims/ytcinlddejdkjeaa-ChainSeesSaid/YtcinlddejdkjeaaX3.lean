/- clear of the cells behind a row of one's own whose elements lead elsewhere. -/
import Derived.Test.YtcinlddejdkjeaaX2
import Derived.Test.YtcinlddejdkjeaaWNEv
namespace Go.Proofs.Ytcinlddejdkjeaa.G
open Go.RowKit Go.Proofs.YtcinlddejdkjeaaW.PrintWords
set_option linter.unusedVariables false
theorem zeroCells_len (z : Array Value) (m : Nat) : (Builtin.zeroCells z m).toList.length = m * z.size := by simp [Builtin.zeroCells]
theorem zeroCells_all (z : Array Value) (m : Nat) (h0 : 0 < z.size) (h : ∀ i (hi : i < z.size), (z[i]).oneCell' = true) : ∀ u ∈ (Builtin.zeroCells z m).toList, u.oneCell' = true := by
  intro u hu
  simp only [Builtin.zeroCells, Array.toList_map, List.mem_map] at hu
  obtain ⟨i, _, rfl⟩ := hu
  have hi := Nat.mod_lt i h0
  rw [getElem!_pos z _ hi]
  exact h _ hi
theorem N_clear {α : Type} (d : Kd α) {P : Program} {W : World} {base : Nat} {ok : Nat → Prop} {t e : TypeId} {z : Value} {g n c m : Nat} {xs : List α} (ht : P.underlying t = some (.slice e))
    (hv : ∀ w, (zeroValue e).run P w = .ok z w) (hl : z.cells.size = d.sz) (h0 : 0 < d.sz) (h1 : ∀ i (hi : i < z.cells.size), (z.cells[i]).oneCell' = true)
    (HO : Kd.N d e W base ok (.slice (some ⟨g, 0, none⟩) n c) xs) (hm : 0 < m) (hroom : n + m ≤ c) :
    ∃ w1, (∀ ty c2, (Builtin.clear_ #[t] ty #[.slice (some ⟨g, n * d.sz, none⟩) m c2]).run P W = .ok (.tuple #[]) w1) ∧ Kd.N d e w1 base ok (.slice (some ⟨g, 0, none⟩) n c) xs ∧ W.grownBy w1 (some g) := by
  obtain ⟨g0, rows, hlr, hR, hf⟩ := HO
  obtain ⟨w1, hrun, hr, hg⟩ := R_clear (Kd.raw d.sz) (m := m) ht hv rfl (by rw [zeroCells_len, hl]; rfl) (zeroCells_all _ _ (by omega) h1) (Kd.raw_any hR) hm hroom
  exact ⟨w1, hrun, ⟨g0, rows, hlr, Kd.raw_tight hr, fun j x c hx hc => Kd.FK_grown (hf j x c hx hc) hg (fun k hk => by have := hk.2; simpa [Value.ownBlock] using this)⟩, hg⟩
end Go.Proofs.Ytcinlddejdkjeaa.G
