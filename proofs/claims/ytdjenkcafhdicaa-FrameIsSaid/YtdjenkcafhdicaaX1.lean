/- Reading a law's arguments: each type that can be read gives a value of the print's kinds, within its bounds. -/
import Derived.Test.YtdjenkcafhdicaaWWords
import Derived.Test.YtdjenkcafhdicaaWMore
import Derived.ChangeArms
import Derived.SizedLaws
import Derived.WideShapes
namespace Go.Proofs.Ytdjenkcafhdicaa.G
open Go.RowKit Go.Proofs.YtdjenkcafhdicaaW.PrintWords
set_option linter.unusedVariables false

/-- What can be read at type t is of kind d, and meets G; no part of it is greater than the reach. -/
def Opens {α : Type} (P : Program) (t : TypeId) (d : Kd α) (G : α → Prop) : Prop :=
  ∀ (H : Type) (enc : TypeId × Value → H) (w : World) (fuel : Nat) (cs : List Value) (x : DataW H × List MemPlace),
    DataW.trod enc P w 0 (fun _ => true) true fuel t cs = some x → (∀ n ∈ x.1.weights P t, n ≤ reachBytes) → ∃ y, d.K w y cs ∧ G y

section
variable {P : Program} {t e : TypeId}
theorem opens_int {k : IntKind} (ht : P.underlying t = some (.int k)) : Opens P t (Kd.int k) (fun n => (Lit.int k n).wf = true) := by
  intro H enc w fuel cs x h _
  obtain ⟨n, rfl, _, hw⟩ := DataW.trod_int ht h
  exact ⟨n, rfl, hw⟩
theorem opens_bool (ht : P.underlying t = some .bool) : Opens P t Kd.bool (fun _ => True) := by
  intro H enc w fuel cs x h _
  obtain ⟨b, rfl, _⟩ := DataW.trod_bool ht h
  exact ⟨b, rfl, trivial⟩
theorem opens_string (ht : P.underlying t = some .string) : Opens P t Kd.string (fun s => s.size ≤ 140737488351232) := by
  intro H enc w fuel cs x h hw
  obtain ⟨s, rfl, rfl, _⟩ := DataW.trod_string ht h
  refine ⟨s, rfl, ?_⟩
  have := hw s.data.toList.length (by simp [DataW.weights])
  simpa [reachBytes] using this

theorem weights_all {H : Type} (P : Program) (e : TypeId) : ∀ (l : List (DataW H)) (d : DataW H), d ∈ l → ∀ n ∈ d.weights P e, n ∈ DataW.weightsAll P e l
  | a :: l, d, hd, n, hn => by
    simp only [DataW.weightsAll, List.mem_append]
    rcases List.mem_cons.1 hd with rfl | h
    · exact .inl hn
    · exact .inr (weights_all P e l d h n hn)

theorem cells_of {w : World} {base : Nat} {a : Addr} {n : Nat} {cs : List Value} (h : w.cells? base a n = some cs) :
    cs.length = n ∧ ∀ (i : Nat) (u : Value), cs[i]? = some u → w.cell? (a.add i) = some u := by
  unfold World.cells? at h
  split at h
  · have hl := mapM_some_length h
    have hg := fun i hi => mapM_some_get h i hi
    refine ⟨by simpa using hl, fun i u hu => ?_⟩
    have hi : i < cs.length := (List.getElem?_eq_some_iff.1 hu).1
    have := mapM_some_get h i i (by rw [List.length_range] at hl; rw [List.getElem?_range (by omega)])
    rw [this, hu]
  · cases h

/-- Out of what holds for each place, a list. -/
theorem choose_list {α : Type} : ∀ (n : Nat) (Q : Nat → α → Prop), (∀ i, i < n → ∃ y, Q i y) → ∃ l : List α, l.length = n ∧ ∀ i y, l[i]? = some y → Q i y
  | 0, Q, _ => ⟨[], rfl, by simp⟩
  | n + 1, Q, h => by
    obtain ⟨l, hl, hq⟩ := choose_list n Q (fun i hi => h i (by omega))
    obtain ⟨y, hy⟩ := h n (by omega)
    refine ⟨l ++ [y], by simp [hl], fun i z hz => ?_⟩
    rcases Nat.lt_or_ge i l.length with hi | hi
    · rw [List.getElem?_append_left hi] at hz
      exact hq i z hz
    · have : i = n := by
        have := (List.getElem?_eq_some_iff.1 hz).1
        simp at this
        omega
      subst this
      rw [← hl] at hz
      simp at hz
      rw [← hz]
      exact hy

theorem opens_slice {α : Type} {d : Kd α} {G : α → Prop} {B : Nat} (ht : P.underlying t = some (.slice e)) (hb : P.bytesOf e = B) (hc : P.cellsOf e = d.sz) (hB : 0 < B) (O : Opens P e d G) :
    Opens P t (Kd.slice e d) (fun l => l.length * B ≤ 140737488351232 ∧ ∀ x ∈ l, G x) := by
  intro H enc w fuel cs x h hw
  rcases DataW.trod_slice ht h with ⟨rfl, rfl⟩ | ⟨a, len, cap, elems, rest, n, rfl, rfl, rfl, hba, hl, hm, hlen, hel, _, _⟩
  · exact ⟨[], ⟨none, 0, rfl, Nat.le_refl _, Kd.C_nil d w⟩, by simp, by simp⟩
  · have hw1 : (elems.length + rest.length) * B ≤ reachBytes := by
      have := hw ((elems.length + rest.length) * P.bytesOf e) (by simp [DataW.weights, ht])
      rwa [hb] at this
    obtain ⟨l, hll, hq⟩ := choose_list len (fun i y => ∃ c, c.length = d.sz ∧ d.K w y c ∧ (∀ (j : Nat) (u : Value), c[j]? = some u → w.cell? (a.add (i * d.sz + j)) = some u) ∧ G y) (fun i hi => by
      have h1 := hel i hi
      have hie : i < elems.length := by omega
      rw [List.getElem?_eq_getElem hie, Option.bind_eq_some_iff] at h1
      obtain ⟨c, hcs, hx⟩ := h1
      obtain ⟨y, hk, hg⟩ := O H enc w n c _ hx (fun n' hn' => hw n' (by
        simp only [DataW.weights, ht, List.mem_cons, List.mem_append]
        exact .inr (.inl (weights_all P e _ _ (List.mem_map.2 ⟨_, List.getElem_mem hie, rfl⟩) _ hn'))))
      rw [hc] at hcs
      obtain ⟨hcl, hcc⟩ := cells_of hcs
      refine ⟨y, c, hcl, hk, fun j u hu => ?_, hg⟩
      have := hcc j u hu
      have e : (a.add (i * d.sz)).add j = a.add (i * d.sz + j) := by
        unfold Addr.add
        split <;> split <;> simp_all <;> first | omega | (split <;> simp_all <;> omega) | skip
      rwa [e] at this)
    have hlc : l.length ≤ cap := by omega
    have hmx : l.length ≤ 9223372036854775807 := by unfold maxLen at hm; omega
    refine ⟨l, ⟨some a, cap, by rw [hll], hlc, rfl, hmx, fun _ => ⟨a, rfl, fun j p hp => ?_⟩⟩, ?_, fun y hy => ?_⟩
    · obtain ⟨c, h1, h2, h3, _⟩ := hq j p hp
      exact ⟨c, h1, h2, h3⟩
    · have h3 : l.length * B ≤ (elems.length + rest.length) * B := Nat.mul_le_mul_right _ (by omega)
      simp only [reachBytes] at hw1
      omega
    · obtain ⟨i, hi, rfl⟩ := List.getElem_of_mem hy
      obtain ⟨_, _, _, _, hg⟩ := hq i _ (List.getElem?_eq_getElem hi)
      exact hg

/-- One field of a struct that is read. -/
theorem field_opens {α : Type} {d : Kd α} {G : α → Prop} (O : Opens P e d G) {H : Type} {enc : TypeId × Value → H} {w : World} {n : Nat} {cs : List Value} {xs : List (DataW H × List MemPlace)} {fs : Array Field}
    (ht : P.underlying t = some (.struct fs)) (hw : ∀ n ∈ (DataW.agg (xs.map (·.1))).weights P t, n ≤ reachBytes) (hxl : xs.length = fs.size)
    (hf : ∀ (i : Nat) (f : Field), fs[i]? = some f → DataW.trod enc P w 0 (fun _ => true) true n f.type ((cs.drop f.offset).take (P.cellsOf f.type)) = xs[i]?)
    (i : Nat) (f : Field) (hi : fs[i]? = some f) (he : f.type = e) (off s : Nat) (ho : f.offset = off) (hs : P.cellsOf e = s) : ∃ y, d.K w y ((cs.drop off).take s) ∧ G y := by
  subst he ho hs
  have hil : i < xs.length := by rw [hxl]; exact (Array.getElem?_eq_some_iff.1 hi).1
  have h1 := hf i f hi
  rw [List.getElem?_eq_getElem hil] at h1
  refine O H enc w n _ _ h1 (fun m hm => hw m ?_)
  simp only [DataW.weights, ht]
  refine DataW.weights_mem_each (j := i) (t := f.type) (d := xs[i].1) ?_ ?_ m hm
  · rw [List.getElem?_map, Array.getElem?_toList, hi]; rfl
  · rw [List.getElem?_map, List.getElem?_eq_getElem hil]; rfl
/-- A struct's cells, one field off. -/
theorem pair_cells (cs : List Value) (off s : Nat) : cs.drop off = (cs.drop off).take s ++ cs.drop (off + s) := by
  rw [← List.drop_drop, List.take_append_drop]
theorem last_cells {cs : List Value} {off s : Nat} (h : cs.length = off + s) : (cs.drop off).take s = cs.drop off := List.take_of_length_le (by simp; omega)
end

/-- A law's argument that is a slice. -/
theorem arg_slice {α : Type} {d : Kd α} {G : α → Prop} {P : Program} {t : TypeId} (O : Opens P t d G) {H : Type} {enc : TypeId × Value → H} {W : World} {ts : List TypeId} {ds : List (DataW H)} {j : Nat} {v : Value} {x : DataW H} {p : List MemPlace}
    (hsz : (DataW.weightsEach P ts ds).all (· ≤ reachBytes) = true) (ht : ts[j]? = some t) (hd : ds[j]? = some x) (h : DataW.Trod enc P W 0 (fun _ => true) true t v x p) : ∃ y, d.K W y v.cells.toList ∧ G y := by
  obtain ⟨fuel, hf⟩ := h
  exact O H enc W fuel _ _ hf (fun n hn => by
    have := List.all_eq_true.1 hsz _ (DataW.weights_mem_each ht hd n hn)
    simpa using this)
end Go.Proofs.Ytdjenkcafhdicaa.G
