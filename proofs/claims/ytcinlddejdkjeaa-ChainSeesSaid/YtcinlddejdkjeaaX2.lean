/- clear of the cells behind a row of one's own. -/
import Derived.Test.YtcinlddejdkjeaaX0
import Derived.Laws.IdiomCopy
namespace Go.Proofs.Ytcinlddejdkjeaa.G
open Go.RowKit Go.Proofs.YtcinlddejdkjeaaW.PrintWords
set_option linter.unusedVariables false

theorem zeroCells_one (z : Array Value) : (Builtin.zeroCells z 1).toList = z.toList := by
  apply List.ext_getElem
  · simp [Builtin.zeroCells]
  · intro i h1 h2
    have hi : i < z.size := by simpa using h2
    simp [Builtin.zeroCells, Nat.mod_eq_of_lt hi, hi]

theorem R_clear {α : Type} (d : Kd α) {P : Program} {W : World} {base : Nat} {ok : Nat → Prop} {t e : TypeId} {z : Value} {g n c m : Nat} {xs : List α} (ht : P.underlying t = some (.slice e))
    (hv : ∀ w, (zeroValue e).run P w = .ok z w) {zl : List Value} (hz : (Builtin.zeroCells z.cells m).toList = zl) (hl : zl.length = m * d.sz) (h1 : ∀ u ∈ zl, u.oneCell' = true)
    (HO : d.R e W base ok (.slice (some ⟨g, 0, none⟩) n c) xs) (hm : 0 < m) (hroom : n + m ≤ c) :
    ∃ w1, (∀ ty c2, (Builtin.clear_ #[t] ty #[.slice (some ⟨g, n * d.sz, none⟩) m c2]).run P W = .ok (.tuple #[]) w1) ∧ d.R e w1 base ok (.slice (some ⟨g, 0, none⟩) n c) xs ∧ W.grownBy w1 (some g) := by
  obtain ⟨hn, hnc, _⟩ := Kd.R_reads' HO
  subst hn
  obtain ⟨hok, inner, hown, hr⟩ := HO
  rcases hown.2 with ⟨hv', _⟩ | ⟨g', cap', cur, hv', hb, hh, hle, hcm, hcs, htake⟩
  · cases hv'
  injection hv' with ha _ hc
  injection ha with ha
  injection ha with hg
  subst hg; subst hc
  have hfit : xs.length * d.sz + zl.length ≤ cur.size := by
    rw [hl, hcs, ← Nat.add_mul]
    exact Nat.mul_le_mul_right _ hroom
  have hcell : ∀ j, j < zl.length → (W.cell? ⟨g, xs.length * d.sz + 0 + j, none⟩).isSome = true := fun j hj => by
    unfold World.cell?
    rw [hh]
    simp only [Nat.add_zero]
    rw [Array.getElem?_eq_getElem (by omega)]
    rfl
  have hfro : ∀ j, j < zl.length → W.frozen? ⟨g, xs.length * d.sz + 0 + j, none⟩ = false := fun j hj => by simp [World.frozen?, hh]
  have hst := run_storeCells_cells (P := P) g (xs.length * d.sz) zl 0 W hcell hfro h1
  simp only [Nat.add_zero] at hst
  obtain ⟨cur', h3, h4, h5⟩ := setCells_row zl (xs.length * d.sz) W cur hh hfit
  obtain ⟨s1, s2, s3, s4⟩ := setCells_same g zl (xs.length * d.sz) W
  have hfar : ∀ k, k ≠ g → (W.setCells g (xs.length * d.sz) zl).heap[k]? = W.heap[k]? := fun k hk => setCells_far zl _ k hk
  refine ⟨W.setCells g (xs.length * d.sz) zl, ?_, ⟨hok, inner, ⟨hown.1, .inr ⟨g, c, cur', rfl, hb, h3, hle, hcm, by rw [h4, hcs], ?_⟩⟩, ?_⟩, ⟨s1, s2, s3, by rw [s4]; exact Nat.le_refl _, fun k _ hk => hfar k (fun he => hk (by rw [he]))⟩⟩
  · intro ty c2
    obtain ⟨m', rfl⟩ : ∃ m', m = m' + 1 := ⟨m - 1, by omega⟩
    simp [Builtin.clear_, run_underlying ht, hv, hz, hst]
  · have hx : xs.length * d.sz ≤ cur.toList.length := by rw [Array.length_toList]; exact Nat.le_trans (Nat.le_add_right _ _) hfit
    rw [h5, List.append_assoc, List.take_append_of_le_length (by rw [List.length_take]; exact Nat.le_min.2 ⟨Nat.le_refl _, hx⟩), List.take_take, Nat.min_self, htake]
  · refine hr.imp_ (fun p cs hp => d.M_move (fun k hk => hfar k (fun he => hk.2 (by rw [he]; rfl))) hp)
end Go.Proofs.Ytcinlddejdkjeaa.G
