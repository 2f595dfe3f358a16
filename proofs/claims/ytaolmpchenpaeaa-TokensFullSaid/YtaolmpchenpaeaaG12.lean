/- tokens: the contracts of Table.at (a search by a closure), of a copy of entries, of Delete, of Release. -/
import Derived.Test.YtaolmpchenpaeaaQx0
import Derived.Test.YtaolmpchenpaeaaX0
import Derived.Test.YtaolmpchenpaeaaX2
import Derived.Test.YtaolmpchenpaeaaWKept
import Derived.Deep.RegionLaw
import Derived.Test.YtaolmpchenpaeaaWNEv
import Derived.Lib.SliceRun
import Derived.LoopTactic
import Derived.Outline
import Derived.Lib.Hide
namespace Go.Proofs.Ytaolmpchenpaeaa.G
open Go.RowKit Go.Proofs.YtaolmpchenpaeaaW.PrintWords Go.Proofs.YtaolmpchenpaeaaW.PrintLast Go.Proofs.Ytaolmpchenpaeaa.Q
set_option linter.unusedVariables false
set_option linter.unusedSimpArgs false

/-- Where the first one is of which it is so; -1: nowhere. -/
def idxF {α : Type} (p : α → Bool) (xs : List α) : Int := if xs.findIdx p < xs.length then (xs.findIdx p : Int) else -1
theorem idxF_found {α : Type} (p : α → Bool) (xs : List α) (k : Nat) (hk : k < xs.length) (h : p xs[k] = true) (hb : ∀ j (hj : j < k), p (xs[j]'(by omega)) = false) : idxF p xs = k := by
  have e : xs.findIdx p = k := (List.findIdx_eq hk).2 ⟨h, hb⟩
  unfold idxF
  rw [e, if_pos hk]
theorem idxF_none {α : Type} (p : α → Bool) (xs : List α) (hb : ∀ j (hj : j < xs.length), p xs[j] = false) : idxF p xs = -1 := by
  unfold idxF
  rw [if_neg]
  intro h
  have := List.findIdx_getElem (w := h)
  rw [hb _ h] at this
  cases this

set_option maxHeartbeats 1000000 in
theorem atClosure (x0 x1 x2 x3 tok : Int) (p : Addr) (w : World) (hp : w.cell? p = some (.int .i64 tok)) :
    Calls Try.prog 22 #[.agg #[.int .i64 x0, .int .i64 x1, .int .i64 x2, .int .i64 x3], .pointer (some p)] w fun e w' => e = .returned (.bool (x0 == tok)) ∧ Below w.heap.size w w' := by
  have hu := Try.underlying33
  have hp1 : ∀ o, (w.alloc o).cell? p = some (.int .i64 tok) := fun o => pw_cell_below (below_alloc (Below.refl _ _) o) hp
  go_enter Try.func22, Try.ntmps22
  go_wp2
  go_ret
  exact ⟨rfl, below_alloc (Below.refl _ _) _⟩

def Found (w : World) (r : Int) (e : Ending) (w' : World) : Prop := e = .returned (.int .i64 r) ∧ Below w.heap.size w w'

set_option maxHeartbeats 2000000 in
set_option maxRecDepth 100000 in
theorem indexTok (p : Addr) (tok : Int) (A : Option Addr) (c : Nat) (xs : List S33) (w : World) (hC : Kd.C k33 w A xs.length xs) (hp : w.cell? p = some (.int .i64 tok)) :
    Calls Try.prog 24 #[.slice A xs.length c, .func (.func 22) #[] #[.pointer (some p)]] w (Found w (idxF (fun x => x.f0 == tok) xs)) := by
  have hm : xs.length ≤ 9223372036854775807 := hC.2.1
  have HC := Aside0.mk hC
  have HP := Aside0.mk hp
  have hu := Try.underlying33
  clear hC hp
  go_enter Try.func24, Try.ntmps24
  go_wp2
  go_loopw [8] (fun i wr => ∃ k : Nat, k ≤ xs.length ∧ i = .int .i64 k ∧ Aside0 (∀ j (hj : j < xs.length), j < k → ((xs[j]).f0 == tok) = false) ∧ Aside0 (Below w.heap.size w wr)) (fun i _ => xs.length - (intOf i).toNat)
  case atStart => exact ⟨0, Nat.zero_le _, rfl, ⟨fun j hj h => by omega⟩, ⟨Below.refl _ _⟩⟩
  case round =>
    obtain ⟨k, hk, rfl, HF, HB⟩ := hrel
    by_cases hlt : k < xs.length
    · obtain ⟨ad, rfl, h0, h1, h2, h3⟩ := at_T33 (Kd.C_below HC.out HB.out) (k : Int) (by omega) (by omega)
      simp only [Int.toNat_natCast] at h0 h1 h2 h3
      have hp2 : wr.cell? p = some (.int .i64 tok) := pw_cell_below HB.out HP.out
      have e : rd_T33 xs (k : Int) = xs[k] := by simp [rd_T33, List.getD_eq_getElem?_getD, hlt]
      have HE := Aside0.mk e
      clear e
      have hle : (k : Int) < (xs.length : Int) := by omega
      have HP2 := Aside0.mk hp2
      clear hp2
      by_cases ht : ((rd_T33 xs (k : Int)).f0 == tok) = true
      · have HT := Aside0.mk ht
        clear ht
        go_wp2_with (go_at_call 22; refine (atClosure _ _ _ _ tok p _ HP2.out).mono ?_; rintro e w1 ⟨rfl, hb⟩; rw [HT.out]; have HB1 := Aside0.mk hb; clear hb)
        go_ret
        exact ⟨by rw [idxF_found _ xs k hlt (by rw [← HE.out]; exact HT.out) (fun j hj => HF.out j _ hj)]; rfl, below_step HB.out HB1.out⟩
      · have HT := Aside0.mk (Bool.eq_false_iff.2 ht)
        clear ht
        go_wp2_with (go_at_call 22; refine (atClosure _ _ _ _ tok p _ HP2.out).mono ?_; rintro e w1 ⟨rfl, hb⟩; rw [HT.out]; have HB1 := Aside0.mk hb; clear hb)
        go_roundw
        case rel => exact ⟨k + 1, by omega, by go_num, ⟨fun j hj h => by
          rcases Nat.lt_or_ge j k with h' | h'
          · exact HF.out j hj h'
          · obtain rfl : j = k := by omega
            rw [← HE.out]; exact HT.out⟩, ⟨below_step HB.out HB1.out⟩⟩
        case measure => simp [intOf]; omega
    · have hge : ¬ (k : Int) < (xs.length : Int) := by omega
      go_wp2
      go_ret
      exact ⟨by rw [idxF_none _ xs (fun j hj => HF.out j hj (by omega))]; rfl, HB.out⟩

set_option maxHeartbeats 1000000 in
set_option maxRecDepth 100000 in
theorem placeTok (p : Addr) (tok : Int) (A : Option Addr) (c : Nat) (xs : List S33) (w : World) (hC : Kd.C k33 w A xs.length xs) (hp : w.cell? p = some (.int .i64 tok)) :
    Calls Try.prog 21 #[.slice A xs.length c, .func (.func 22) #[] #[.pointer (some p)]] w (Found w (idxF (fun x => x.f0 == tok) xs)) := by
  have HC := Aside0.mk hC
  have HP := Aside0.mk hp
  clear hC hp
  go_enter Try.func21, Try.ntmps21
  go_wp2_with (go_at_call 24; refine (indexTok p tok A c xs _ HC.out HP.out).mono ?_; rintro e w1 ⟨rfl, hb⟩; have HB1 := Aside0.mk hb; clear hb)
  go_ret
  exact ⟨rfl, HB1.out⟩

set_option maxHeartbeats 1000000 in
set_option maxRecDepth 100000 in
theorem tableAt (tok : Int) (A : Option Addr) (c : Nat) (xs : List S33) (w : World) (hC : Kd.C k33 w A xs.length xs) :
    Calls Try.prog 15 #[.agg #[.slice A xs.length c], .int .i64 tok] w (Found w (idxF (fun x => x.f0 == tok) xs)) := by
  have HC := Aside0.mk hC
  have hu := Try.underlying26
  clear hC
  go_enter Try.func15, Try.ntmps15
  go_wp2_with (go_at_call 21; refine (placeTok ⟨w.heap.size + 1, 0, none⟩ tok A c xs _ (Kd.C_alloc (Kd.C_alloc HC.out _) _) ?hp).mono ?_; (case hp => go_simp); rintro e w1 ⟨rfl, hb⟩; have HB1 := Aside0.mk hb; clear hb)
  go_ret
  exact ⟨rfl, below_step (below_alloc (below_alloc (Below.refl _ _) _) _) HB1.out⟩
theorem infoEntry : (Try.prog.info? 33).map (fun i => (i.zero, i.size, i.bytes)) = some (some (.agg #[.int .i64 0, .int .i64 0, .int .i64 0, .int .i64 0]), 4, 32) := by kernel_rfl

set_option maxHeartbeats 1000000 in
set_option maxRecDepth 100000 in
theorem cloneEntry (A : Option Addr) (c : Nat) (xs : List S33) (w : World) (h : Kd.C k33 w A xs.length xs) (hc : xs.length ≤ c) (hl : xs.length * 32 ≤ 140737488355328) :
    Calls Try.prog 20 #[.slice A xs.length c] w fun e w' => ∃ v : Value, e = .returned v ∧ Kd.R k33 33 w' w.heap.size (fun _ => True) v xs ∧ Below w.heap.size w w' := by
  have hn : ∀ (W : World) (a : Option Addr) (n c n' c' : Nat), (binOp .eql 24 (.slice a n c) (.slice none n' c')).run Try.prog W = .ok (.bool a.isNone) W := fun W a n c n' c' => Lib.run_eql_slice_nil W _ _ a n c n' c' Try.underlying24
  cases A with
  | none =>
    have hx : xs = [] := by
      cases xs with
      | nil => rfl
      | cons x l => obtain ⟨ad, e, _⟩ := h.2.2 (by simp); cases e
    subst hx
    go_enter Try.func20, Try.ntmps20
    go_wp2
    go_ret
    exact ⟨_, rfl, Kd.R_nil _ _ _ _ _, Below.refl _ _⟩
  | some ad =>
    have HR := Aside0.mk h
    clear h
    go_enter Try.func20, Try.ntmps20
    go_wp2_with (first
      | ((with_reducible refine gate_dst (N := 5) rfl ?_); refine Kd.R_lit k33 w.heap.size 33 ?hg (N := 5) ?hd (xs := ([] : List S33)) (inner := []) (ok := fun _ => True) (okp := fun _ => True) ?hr ?hp (fun _ hk => hk) trivial (Below.refl _ _) (Nat.le_refl _) (by simp) ?_; (case hd => rfl); (case hg => rfl); (case hr => first | (go_simp; done) | (go_simp; rfl)); (case hp => exact Reps.none _ _); intro v1 w1 ho1 hb1 _ _; have HO := Aside0.mk ho1; have HB := Aside0.mk hb1; clear ho1 hb1; obtain ⟨A1, c1, e1⟩ := Kd.R_slice HO.out; subst e1)
      | (at_builtin; refine Kd.R_append_rows k33 (Rr := k33.K w1) (w0 := w) w.heap.size rfl (.tmp 5) (.tmp 6) 24 33 (.agg #[.int .i64 0, .int .i64 0, .int .i64 0, .int .i64 0]) 32 rfl Try.underlying24 infoEntry rfl (by decide) (by omega) _ [] xs (some ad) xs.length c (fun _ => True) (fun _ => False) rfl rfl HO.out ?aC (fun x cs h => h) (fun _ hk => hk.elim) (fun _ _ => trivial) HB.out ?aB ?aL ?_; (case aC => exact Kd.C_below HR.out (Below.refl _ _ |>.trans HB.out)); (case aB => exact HB.out.size); (case aL => simp; omega); intro v2 w2 ho2 hb2 _ _; have HO2 := Aside0.mk ho2; have HB2 := Aside0.mk hb2; clear ho2 hb2; obtain ⟨A2, c2, e2⟩ := Kd.R_slice HO2.out; subst e2))
    go_ret
    exact ⟨_, rfl, HO2.out, HB2.out⟩

def Erased (base : Nat) (ok : Nat → Prop) (W0 W : World) (ys : List S33) (e : Ending) (w' : World) : Prop := ∃ v : Value, e = .returned v ∧ Kd.R k33 33 w' base ok v ys ∧ Below base W0 w' ∧ Kept W w' ok

set_option maxHeartbeats 2000000 in
set_option maxRecDepth 100000 in
theorem deleteEntry (base : Nat) (ok : Nat → Prop) (W0 : World) (A : Option Addr) (c : Nat) (xs : List S33) (k : Nat) (W : World) (HO : Kd.R k33 33 W base ok (.slice A xs.length c) xs) (hk : k < xs.length) (hbase : base ≤ W.heap.size) (hB0 : Below base W0 W) :
    Calls Try.prog 19 #[.slice A xs.length c, .int .i64 k, .int .i64 (k + 1 : Nat)] W (Erased base ok W0 W (xs.eraseIdx k)) := by
  obtain ⟨g, rfl⟩ : ∃ g, A = some ⟨g, 0, none⟩ := by
    obtain ⟨_, inner, hown, _⟩ := HO
    obtain ⟨g, cap, e, _⟩ := hown.form (by omega)
    injection e with e _ _
    exact ⟨g, e⟩
  obtain ⟨_, hc, hC⟩ := Kd.R_reads' HO
  have hm : xs.length ≤ 9223372036854775807 := hC.2.1
  have hcm : c ≤ 9223372036854775807 := by
    obtain ⟨_, inner, hown, _⟩ := HO
    rcases hown.2 with ⟨hv, _⟩ | ⟨g', cap', cur, hv, _, _, _, hcm, _⟩
    · cases hv
    · injection hv with _ _ hcc
      subst hcc
      simpa [maxLen] using hcm
  have hu := Try.underlying24
  obtain ⟨i0, hi, hz0, hz1, hz2⟩ := info_parts infoEntry
  have HX := Aside0.mk HO
  have HB := Aside0.mk hbase
  have HB0 := Aside0.mk hB0
  clear HO hbase hC hB0
  have h1 : k + 1 ≤ xs.length := by omega
  have h2 : k ≤ c := by omega
  have h3 : k + 1 ≤ c := by omega
  have h4 : (((k : Int)) == ((k + 1 : Nat) : Int)) = false := by simp; omega
  go_enter Try.func19, Try.ntmps19
  go_wp2_with fail
  have g1 : ((k : Int) ≤ (c : Int)) = True := eq_true (by omega)
  have g2 : (k ≤ c) = True := eq_true h2
  have g3 : (0 ≤ (k : Int) + 1) = True := eq_true (by omega)
  have g4 : ((k : Int) + 1 ≤ (xs.length : Int)) = True := eq_true (by omega)
  by_cases hck : c = k + 1
  · have hc1 := eq_true hck
    have HL := Aside0.mk (show xs.length = k + 1 by omega)
    have HCK := Aside0.mk hck
    clear hck
    go_region_law (refine Kd.R_delete_step k33 (w0 := W0) base (by rfl) (.tmp 22) (.tmp 25) 24 33 rfl hu (by kernel_rfl) (g := g) (n := xs.length) (c := c) (k := k) (m := xs.length - (k + 1)) (c2 := c - (k + 1)) (A := some ⟨g, 0, none⟩) (ok := ok) (by simp [Act.eval, Act.put]) (by simp [Act.eval, Act.put]) (by rw [if_pos HCK.out]) rfl (Kd.R_drew HX.out) hk (below_drew HB0.out) HB.out ?_; intro w1 hr1 hb1 hg1)
    obtain ⟨w2, hrun, hr2, hg2⟩ := R_clear k33 (P := Try.prog) (t := 24) (m := xs.length - (xs.length - 1)) hu (fun w => by kernel_rfl) (z := .agg #[.int .i64 0, .int .i64 0, .int .i64 0, .int .i64 0]) (zl := [.int .i64 0, .int .i64 0, .int .i64 0, .int .i64 0]) (by rw [show xs.length - (xs.length - 1) = 1 by omega, zeroCells_one]; rfl) (by rw [show xs.length - (xs.length - 1) = 1 by omega]; rfl) (by simp [Value.oneCell']) hr1 (by omega) (by omega)
    have hsz : k33.sz = 4 := rfl
    rw [hsz] at hrun
    have HR1 := Aside0.mk hr1
    have HB1 := Aside0.mk hb1
    have HR2 := Aside0.mk hr2
    have HG2 := Aside0.mk hg2
    have HG1 := Aside0.mk hg1
    have HS1 := Aside0.mk hg1.size
    clear hr1 hb1 hg1 hr2 hg2 hsz
    go_wp2
    go_ret
    exact ⟨_, rfl, HR2.out, pw_below_grown HB1.out (some g) (Nat.le_trans HB.out HS1.out) HG2.out (fun k' e => by cases e; exact Kd.R_base HR1.out _ rfl), Kept.of_grown HG2.out (Kept.of_grown HG1.out (Kept.drew (Kept.refl W ok)) (fun k' e => by cases e; exact .inl (HX.out.1 _ rfl))) (fun k' e => by cases e; exact .inl (HX.out.1 _ rfl))⟩
  · have hc1 := eq_false hck
    have HCK := Aside0.mk hck
    clear hck
    go_region_law (refine Kd.R_delete_step k33 (w0 := W0) base (by rfl) (.tmp 22) (.tmp 25) 24 33 rfl hu (by kernel_rfl) (g := g) (n := xs.length) (c := c) (k := k) (m := xs.length - (k + 1)) (c2 := c - (k + 1)) (A := some ⟨g, (k + 1) * 4, none⟩) (ok := ok) (by simp [Act.eval, Act.put]) (by simp [Act.eval, Act.put]) (by rw [if_neg HCK.out]; simp [add_plain]; rfl) rfl (Kd.R_drew HX.out) hk (below_drew HB0.out) HB.out ?_; intro w1 hr1 hb1 hg1)
    obtain ⟨w2, hrun, hr2, hg2⟩ := R_clear k33 (P := Try.prog) (t := 24) (m := xs.length - (xs.length - 1)) hu (fun w => by kernel_rfl) (z := .agg #[.int .i64 0, .int .i64 0, .int .i64 0, .int .i64 0]) (zl := [.int .i64 0, .int .i64 0, .int .i64 0, .int .i64 0]) (by rw [show xs.length - (xs.length - 1) = 1 by omega, zeroCells_one]; rfl) (by rw [show xs.length - (xs.length - 1) = 1 by omega]; rfl) (by simp [Value.oneCell']) hr1 (by omega) (by omega)
    have hsz : k33.sz = 4 := rfl
    rw [hsz] at hrun
    have HR1 := Aside0.mk hr1
    have HB1 := Aside0.mk hb1
    have HR2 := Aside0.mk hr2
    have HG2 := Aside0.mk hg2
    have HG1 := Aside0.mk hg1
    have HS1 := Aside0.mk hg1.size
    clear hr1 hb1 hg1 hr2 hg2 hsz
    go_wp2
    go_ret
    exact ⟨_, rfl, HR2.out, pw_below_grown HB1.out (some g) (Nat.le_trans HB.out HS1.out) HG2.out (fun k' e => by cases e; exact Kd.R_base HR1.out _ rfl), Kept.of_grown HG2.out (Kept.of_grown HG1.out (Kept.drew (Kept.refl W ok)) (fun k' e => by cases e; exact .inl (HX.out.1 _ rfl))) (fun k' e => by cases e; exact .inl (HX.out.1 _ rfl))⟩
end Go.Proofs.Ytaolmpchenpaeaa.G
