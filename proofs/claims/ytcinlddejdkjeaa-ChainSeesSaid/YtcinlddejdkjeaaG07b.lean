/- chain: the contract of place (a loop over slices.Backward). -/
import Derived.Test.YtcinlddejdkjeaaG07
namespace Go.Proofs.Ytcinlddejdkjeaa.G
open Go.RowKit Go.Shelf Go.Proofs.YtcinlddejdkjeaaW.PrintWords Go.Proofs.YtcinlddejdkjeaaW.PrintLast Go.Proofs.Ytcinlddejdkjeaa.Q
attribute [local go_sem] Oper.semAt_some
set_option linter.unusedVariables false
set_option linter.unusedSimpArgs false
def placeL (xs : List S37) (snap : Int) : Int := lastF (fun x => decide (x.f0 ≤ snap)) xs
def NoneYet (snap : Int) (pre : List (Nat × VV)) : Prop := ∀ p ∈ pre, ¬ p.2.ts ≤ snap
def LeftAt (snap : Int) (pre : List (Nat × VV)) (k : Nat) : Prop := ∃ ini y, pre = ini ++ [(k, y)] ∧ NoneYet snap ini ∧ y.ts ≤ snap
theorem NoneYet.nil (snap : Int) : NoneYet snap [] := by simp [NoneYet]
theorem NoneYet.snoc {snap : Int} {pre : List (Nat × VV)} (h : NoneYet snap pre) {x : Nat × VV} (hx : ¬ x.2.ts ≤ snap) : NoneYet snap (pre ++ [x]) := fun p hp => by
  rcases List.mem_append.1 hp with hp | hp
  · exact h p hp
  · rw [List.mem_singleton.1 hp]; exact hx
theorem down_all {xs : List S37} {vv : Nat → VV} {snap : Int} (hts : ∀ j (hj : j < xs.length), (vv j).ts = xs[j].f0) (h : NoneYet snap (upto (down vv xs.length) xs.length)) : placeL xs snap = -1 := by
  refine lastF_none _ _ (fun j hj => ?_)
  have := h (j, vv j) (by
    simp only [upto, List.mem_map, List.mem_range, down]
    exact ⟨xs.length - 1 - j, by omega, by rw [show xs.length - 1 - (xs.length - 1 - j) = j by omega]⟩)
  rw [hts j hj] at this
  exact decide_eq_false this
theorem down_at {xs : List S37} {vv : Nat → VV} {snap : Int} (hts : ∀ j (hj : j < xs.length), (vv j).ts = xs[j].f0) {k m : Nat} (hk : k ≤ xs.length) (h : LeftAt snap (upto (down vv xs.length) k) m) : placeL xs snap = m := by
  obtain ⟨ini, y, e, hn, hy⟩ := h
  cases k with
  | zero => simp [upto] at e
  | succ k =>
    rw [upto_succ] at e
    obtain ⟨rfl, e⟩ := List.append_inj' e rfl
    have e : down vv xs.length k = (m, y) := by simpa using e
    unfold down at e
    injection e with e1 e2
    subst e1; subst e2
    refine lastF_found _ _ _ (by omega) ?_ (fun j hj hlt => ?_)
    · rw [hts _ (by omega)] at hy; exact decide_eq_true hy
    · have := hn (j, vv j) (by
        simp only [upto, List.mem_map, List.mem_range, down]
        exact ⟨xs.length - 1 - j, by omega, by rw [show xs.length - 1 - (xs.length - 1 - j) = j by omega]⟩)
      rw [hts j hj] at this
      exact decide_eq_false this
def Found (w : World) (r : Int) (e : Ending) (w' : World) : Prop := e = .returned (.int .i64 r) ∧ Below w.heap.size w w'

set_option maxRecDepth 100000 in
set_option maxHeartbeats 2000000 in
theorem place_in (F : Fence) (n : Nat) (h1 : F.fn 29) (h2 : F.fn 36) (h3 : F.fn 38) (hro : F.round = none) (hn : 3 ≤ n) (A : Option Addr) (c : Nat) (xs : List S37) (snap : Int) (w : World) (hC : Kd.C k37 w A xs.length xs) :
    CallsIn F n Try.prog 29 #[.agg #[.slice A xs.length c], .int .i64 snap] w (Found w (placeL xs snap)) := by
  have hn1 : 1 ≤ n := by omega
  have hm : xs.length ≤ 9223372036854775807 := hC.2.1
  have hu := Try.underlying37
  have hu2 := Try.underlying29
  obtain ⟨vv, hL, hts⟩ : ∃ vv : Nat → VV, (0 < xs.length → ∃ ad, A = some ad ∧ Lies w.heap.size w ad xs.length vv) ∧ ∀ j (hj : j < xs.length), (vv j).ts = xs[j].f0 := by
    rcases Nat.eq_zero_or_pos xs.length with h | h
    · exact ⟨fun _ => ⟨0, none, 0, 0, false⟩, fun h' => by omega, fun j hj => by omega⟩
    · obtain ⟨ad, vv, e, hl, ht⟩ := lies_of hC h
      exact ⟨vv, fun _ => ⟨ad, e, hl⟩, ht⟩
  obtain ⟨len, hlen⟩ : ∃ len, xs.length = len := ⟨_, rfl⟩
  have hC' := Aside0.mk hC
  clear hC
  rw [hlen] at hL hm ⊢
  refine callsIn_of_wp_marks Try.func29 rfl h1 ?_ hro
  simp only [Try.ntmps29, List.size_toArray, List.length_cons, List.length_nil, Nat.reduceAdd, Nat.reduceSub, Array.replicate_succ, Array.replicate_zero, List.push_toArray, List.append_toArray, List.nil_append, List.cons_append]
  gi_wp2_with (gi_at_call 36; refine (back_in F (n - 1) h2 hro _ _ _ _).mono ?_; rintro e w' ⟨rfl, rfl⟩)
  have bR := (Boxed.new ((w.alloc (.cells #[.slice A len c] 29)).alloc (.cells #[.int .i64 snap] 3)) 3 (.int .i64 0)).alloc (.cells #[.slice A len c] 27)
  have bS := ((Boxed.new (w.alloc (.cells #[.slice A len c] 29)) 3 (.int .i64 snap)).alloc (.cells #[.int .i64 0] 3)).alloc (.cells #[.slice A len c] 27)
  have bN := Boxed.new (((w.alloc (.cells #[.slice A len c] 29)).alloc (.cells #[.int .i64 snap] 3)).alloc (.cells #[.int .i64 0] 3)) 27 (.slice A len c)
  simp only [World.size_alloc] at bR bS bN
  have hB0 : Below w.heap.size w ((((w.alloc (.cells #[.slice A len c] 29)).alloc (.cells #[.int .i64 snap] 3)).alloc (.cells #[.int .i64 0] 3)).alloc (.cells #[.slice A len c] 27)) := ((((Below.refl _ w).alloc (Nat.le_refl _) _).alloc (by simp) _).alloc (by simp; omega) _).alloc (by simp; omega) _
  have hsz : ((((w.alloc (.cells #[.slice A len c] 29)).alloc (.cells #[.int .i64 snap] 3)).alloc (.cells #[.int .i64 0] 3)).alloc (.cells #[.slice A len c] 27)).heap.size = w.heap.size + 4 := by simp
  obtain ⟨W0, hW0⟩ : ∃ W0, (((w.alloc (.cells #[.slice A len c] 29)).alloc (.cells #[.int .i64 snap] 3)).alloc (.cells #[.int .i64 0] 3)).alloc (.cells #[.slice A len c] 27) = W0 := ⟨_, rfl⟩
  rw [hW0] at bR bS bN hB0 hsz ⊢
  clear hW0
  have hI : 0 < len → ∃ ad, A = some ad ∧ Lies W0.heap.size W0 ad len vv := fun h => by
    obtain ⟨ad, e, hl⟩ := hL h
    exact ⟨ad, e, fun j hj => by obtain ⟨g0, g1, g2, g3⟩ := (hl.below hB0) j hj; exact ⟨by omega, g1, g2, g3⟩⟩
  refine wpIn_rangeFunc_ownH hro hn1 (gf := 38) (lb := #[.pointer (some ⟨w.heap.size + 1 + 1 + 1, 0, none⟩)]) rfl h3 (enters_of Try.func38 (by kernel_rfl) rfl)
    (back_stops F (n - 1) h3 hro (by omega) (w.heap.size + 1 + 1 + 1) W0.heap.size A len c vv hm W0 (by omega) (by omega) bN.cell hI) belowK_t (belowK_b (by omega)) (Below.refl _ _) (fun _ => rfl)
    (fun pre W => ((NoneYet snap pre ∧ Boxed W (w.heap.size + 1) 3 (.int .i64 snap)) ∧ Boxed W (w.heap.size + 1 + 1) 3 (.int .i64 0)) ∧ (Below w.heap.size w W ∧ Below W0.heap.size W0 W))
    (fun cd pre W => (cd = .ret ∧ ∃ m : Nat, LeftAt snap pre m ∧ W.cell? ⟨w.heap.size + 1 + 1, 0, none⟩ = some (.int .i64 (m : Int))) ∧ Below w.heap.size w W)
    (OwnFrom.and (Own.from (fun s X Y row hs hg hr => ⟨⟨hs.1.1, boxed_own _ 3 (fun (_ : Unit) => Value.int .i64 snap) () X Y row hs.1.2 hg hr⟩, boxed_own _ 3 (fun (_ : Unit) => Value.int .i64 0) () X Y row hs.2 hg hr⟩) _) (OwnFrom.and (ownFrom_below (Nat.le_refl _) (by omega)) (ownFrom_below (Nat.le_refl _) (by omega))))
    (fun cd => OwnFrom.and (Own.from (fun s X Y row hs hg hr => by obtain ⟨hc, m, e1, e4⟩ := hs; exact ⟨hc, m, e1, cell_kept e4 hg hr⟩) _) (ownFrom_below (Nat.le_refl _) (by omega)))
    ⟨⟨⟨NoneYet.nil _, bS⟩, bR⟩, hB0, Below.refl _ _⟩
    (fun x a' W => ∃ Bx, w.heap.size + 3 < Bx ∧ W.cell? ⟨Bx, 0, none⟩ = some (.int .i64 x.2.ts) ∧ a' = { tmps := #[.agg #[.slice A len c], .int .i64 snap, .pointer (some ⟨w.heap.size, 0, none⟩), .pointer (some ⟨w.heap.size + 1, 0, none⟩), .pointer (some ⟨w.heap.size + 1 + 1, 0, none⟩), .int .i64 (x.1 : Int), .pointer (some ⟨Bx, 0, none⟩), .pointer (some ⟨w.heap.size, 0, none⟩), .slice A len c, .func (.func 38) #[] #[.pointer (some ⟨w.heap.size + 1 + 1 + 1, 0, none⟩)], .int .i64 (x.1 : Int), .agg #[.int .i64 x.2.ts, .slice x.2.A x.2.n x.2.c, .bool x.2.b], undef, undef, undef, undef, undef], defers := [] })
    (fun x a' _ X Y row hs hg hr => by obtain ⟨Bx, g1, g2, g3⟩ := hs; exact ⟨Bx, g1, cell_kept g2 hg (fun r e => (hr r e).2), g3⟩)
    ?assign ?body ?done ?stop
  case assign =>
    rintro l pre x W K ⟨⟨⟨hp, bS1⟩, bR1⟩, hB1, hB2⟩ hK
    gi_wp2
    have hs := hB2.size
    exact hK _ _ ((KeepsOthers.alloc _ _).from _) ((Below.refl _ W).alloc hs _) ⟨⟨⟨hp, bS1.alloc _⟩, bR1.alloc _⟩, hB1.alloc hB1.size _, hB2.alloc hs _⟩ ⟨W.heap.size, by omega, by go_simp, rfl⟩
  case body =>
    rintro l pre x a' W hl ⟨r, hr⟩ ⟨⟨⟨hp, bS1⟩, bR1⟩, hB1, hB2⟩ ⟨Bx, hBx, bX, rfl⟩ hlt
    have cS := bS1.cell
    have cR := bR1.cell
    have fR := bR1.frozen
    gi_wp2
    · have hx : x.2.ts ≤ snap := by assumption
      exact ⟨(KeepsOthers.setCell _ _ _).from _, ⟨rfl, x.1, ⟨pre, x.2, rfl, hp, hx⟩, World.cell?_setCell_same' _ _ _ (by rw [cR]; rfl)⟩, hB1.setCell (p := ⟨w.heap.size + 1 + 1, 0, none⟩) (by simp only; omega) _⟩
    · have hx : ¬ x.2.ts ≤ snap := by omega
      exact ⟨KeepsFrom.refl _ _, Below.refl _ _, ⟨⟨hp.snoc hx, bS1⟩, bR1⟩, hB1, hB2⟩
  case done =>
    rintro D ys W hD rfl ⟨⟨⟨hp, bS1⟩, bR1⟩, hB1, hB2⟩ hK
    have cR := bR1.cell
    have fR := bR1.frozen
    gi_wp2
    have hK' := (KeepsOthers.setCell W ⟨w.heap.size + 1 + 1, 0, none⟩ (.int .i64 (-1))).same D _ hK rfl
    refine ⟨by simp, .inl ⟨_, _, rfl, run_takeDeferred hK', ?_⟩⟩
    have hc5 := cell_kept (World.cell?_setCell_same' W ⟨w.heap.size + 1 + 1, 0, none⟩ (.int .i64 (-1)) (by rw [cR]; rfl)) (grownBy_putObj' _ D (.deferred none)) (fun r e => by cases e; exact ⟨_, hK', rfl⟩)
    subst hlen
    refine ⟨.int .i64 (-1), ?_, by rw [down_all hts hp], (hB1.setCell (p := ⟨w.heap.size + 1 + 1, 0, none⟩) (by simp only; omega) _).trans (belowK_b (w := w) (Nat.le_refl _) _ D _ _ (by omega) hK' rfl rfl)⟩
    simp [results, Try.f29, go_sem, hc5]
  case stop =>
    rintro D cd pre W hD ⟨k, hk, rfl⟩ ⟨⟨rfl, m, e1, hcr⟩, hB⟩ hK
    gi_wp2
    refine ⟨by simp, .inl ⟨_, _, rfl, run_takeDeferred hK, ?_⟩⟩
    have hc5 := cell_kept hcr (grownBy_putObj' _ D (.deferred none)) (fun r e => by cases e; exact ⟨_, hK, rfl⟩)
    subst hlen
    refine ⟨.int .i64 (m : Int), ?_, by rw [down_at hts hk e1], hB.trans (belowK_b (w := w) (Nat.le_refl _) W D _ _ (by omega) hK rfl rfl)⟩
    simp [results, Try.f29, go_sem, hc5]
theorem place_calls (A : Option Addr) (c : Nat) (xs : List S37) (snap : Int) (w : World) (hC : Kd.C k37 w A xs.length xs) :
    Calls Try.prog 29 #[.agg #[.slice A xs.length c], .int .i64 snap] w (Found w (placeL xs snap)) :=
  (callsIn_wide (n := 3)).1 (place_in Fence.wide 3 trivial trivial trivial rfl (by omega) A c xs snap w hC)
end Go.Proofs.Ytcinlddejdkjeaa.G
