/- chain: the contract of DeleteFunc by a closure; of Since. -/
import Derived.Test.YtcinlddejdkjeaaG07e
import Derived.Test.YtcinlddejdkjeaaX3
namespace Go.Proofs.Ytcinlddejdkjeaa.G
open Go.RowKit Go.Proofs.YtcinlddejdkjeaaW.PrintWords Go.Proofs.YtcinlddejdkjeaaW.PrintLast Go.Proofs.YtcinlddejdkjeaaW.PrintMore Go.Proofs.Ytcinlddejdkjeaa.Q
set_option linter.unusedVariables false
set_option linter.unusedSimpArgs false

def late (ts : Int) (x : S37) : Bool := !decide (x.f0 ≤ ts)
def sinceL (xs : List S37) (ts : Int) : List S37 := xs.filter (late ts)
theorem strike_x {xs zs : List S37} {j : Nat} (hd : zs.drop j = xs.drop j) (hj : j < xs.length) : zs.getD j z37 = xs[j] := by
  have h := congrArg (fun l => l[0]?) hd
  simp only [List.getElem?_drop, Nat.add_zero] at h
  rw [List.getD_eq_getElem?_getD, h, List.getElem?_eq_getElem hj]; rfl
theorem strike_take {xs : List S37} {j : Nat} (ts : Int) (hj : j < xs.length) : sinceL (xs.take (j + 1)) ts = sinceL (xs.take j) ts ++ if late ts xs[j] then [xs[j]] else [] := by
  rw [List.take_succ_eq_append_getElem hj]
  unfold sinceL
  rw [List.filter_append]
  cases h : late ts xs[j] <;> simp [h]
theorem strike_drop {xs zs : List S37} {j : Nat} (hd : zs.drop j = xs.drop j) : zs.drop (j + 1) = xs.drop (j + 1) := by
  have h := congrArg (fun l => l.drop 1) hd
  simpa [List.drop_drop] using h
theorem strike_set {zs : List S37} {i j : Nat} (x : S37) (hi : i < zs.length) (hij : i < j) : (zs.set i x).take (i + 1) = zs.take i ++ [x] ∧ (zs.set i x).drop (j + 1) = zs.drop (j + 1) := by
  refine ⟨?_, List.drop_set_of_lt (by omega)⟩
  rw [List.take_succ_eq_append_getElem (by rw [List.length_set]; exact hi), List.getElem_set_self, List.take_set_of_le (Nat.le_refl _)]
def Struck (base : Nat) (ok : Nat → Prop) (W0 : World) (ys : List S37) (e : Ending) (w' : World) : Prop := ∃ v : Value, e = .returned v ∧ Kd.V k37 37 w' base ok v ys ∧ Below base W0 w'

set_option maxHeartbeats 4000000 in
set_option maxRecDepth 100000 in
theorem deleteVer (base : Nat) (ok : Nat → Prop) (W0 : World) (p : Addr) (ts : Int) (A : Option Addr) (c : Nat) (xs : List S37) (W : World) (HO : Kd.N k37 37 W base ok (.slice A xs.length c) xs) (hbase : base ≤ W.heap.size) (hB0 : Below base W0 W) (hpb : p.block < base) (hp : W0.cell? p = some (.int .i64 ts)) :
    Calls Try.prog 32 #[.slice A xs.length c, .func (.func 33) #[] #[.pointer (some p)]] W (Struck base ok W0 (sinceL xs ts)) := by
  have hu := Try.underlying37
  obtain ⟨_, hc, hC⟩ := Kd.N_reads' HO
  have hm : xs.length ≤ 9223372036854775807 := hC.2.1
  have HP := Aside0.mk hp
  have HX := Aside0.mk HO
  have HB0 := Aside0.mk hB0
  have HC := Aside0.mk hC
  have HBS := Aside0.mk hbase
  have HPB := Aside0.mk hpb
  clear HO hB0 hC hp hbase hpb
  rcases idxF_cases (fun x : S37 => decide (x.f0 ≤ ts)) xs with ⟨hi, hall⟩ | ⟨k, hk, hi, hat, hbef⟩
  · go_enter Try.func32, Try.ntmps32
    go_wp2_with (go_at_call 37; refine (indexVer p ts A c xs _ HC.out ((HB0.out.cell HPB.out).trans HP.out)).mono ?_; rintro e w1 ⟨rfl, hb⟩; rw [hi]; have HB1 := Aside0.mk hb; clear hb)
    go_ret
    refine ⟨_, rfl, ?_, HB0.out.trans (HB1.out.mono HBS.out)⟩
    have e : sinceL xs ts = xs := List.filter_eq_self.2 (fun x hx => by have := hall x hx; simp only [late, this]; rfl)
    rw [e]
    exact Kd.N_V (Kd.N_below HX.out HB1.out)
  · obtain ⟨g, rfl⟩ : ∃ g, A = some ⟨g, 0, none⟩ := by
      obtain ⟨_, rows, _, hR, _⟩ := HX.out
      obtain ⟨ad, e, _⟩ := HC.out.2.2 (by omega)
      subst e
      obtain ⟨g, rfl⟩ := Kd.R_head hR
      exact ⟨g, rfl⟩
    have hk2 : (k : Int) + 1 ≤ 9223372036854775807 := by omega
    have HI := Aside0.mk hi
    have HAT := Aside0.mk hat
    have HBF := Aside0.mk hbef
    clear hi hat hbef
    have hk3 : ((k : Int) == -1) = false := by simp
    go_enter Try.func32, Try.ntmps32
    go_wp2_with (go_at_call 37; refine (indexVer p ts _ c xs _ HC.out ((HB0.out.cell HPB.out).trans HP.out)).mono ?_; rintro e w1 ⟨rfl, hb⟩; rw [HI.out]; have HB1 := Aside0.mk (HB0.out.trans (hb.mono HBS.out)); have HX1 := Aside0.mk (Kd.N_below HX.out hb); have HS1 := Aside0.mk (Nat.le_trans HBS.out hb.size); clear hb)
    go_loopw [5, 6] (fun vi vj wr => ∃ (i j : Nat) (zs : List S37), vi = .int .i64 i ∧ vj = .int .i64 j ∧ i < j ∧ j ≤ xs.length ∧ zs.length = xs.length ∧ Aside0 (zs.take i = sinceL (xs.take j) ts) ∧ Aside0 (zs.drop j = xs.drop j) ∧ Aside0 (Kd.N k37 37 wr base ok (.slice (some ⟨g, 0, none⟩) xs.length c) zs) ∧ Aside0 (Below base W0 wr) ∧ Aside0 (base ≤ wr.heap.size)) (fun _ vj _ => xs.length - (intOf vj).toNat)
    case atStart =>
      refine ⟨k, k + 1, xs, rfl, by go_num, by omega, by omega, rfl, ⟨?_⟩, ⟨rfl⟩, ⟨HX1.out⟩, HB1, HS1⟩
      rw [List.take_succ_eq_append_getElem hk]
      unfold sinceL
      rw [List.filter_append, List.filter_eq_self.2 (fun x hx => by have := HBF.out x hx; simp only [late, this]; rfl)]
      have : late ts xs[k] = false := by simp only [late]; rw [HAT.out]; rfl
      simp [this]
    case round =>
      obtain ⟨i, j, zs, rfl, rfl, hij, hj, hz, HT, HD, HN, HB, HS⟩ := hrel
      by_cases hlt : j < xs.length
      · obtain ⟨cj, hcl, hFK, hcc⟩ := Kd.N_get HN.out z37 (j : Int) (by omega) (by omega)
        obtain ⟨A1, c1, rfl, hl1, hf1⟩ := k37_openF hFK
        simp only [Int.toNat_natCast, add_plain] at hcc
        have hsz : k37.sz = 3 := rfl
        rw [hsz] at hcc
        obtain ⟨x, hx⟩ : ∃ x, zs.getD j z37 = x := ⟨_, rfl⟩
        simp only [Int.toNat_natCast, hx] at hcc hFK hl1 hf1
        have c0 : wr.cell? ⟨g, j * 3, none⟩ = some (.int .i64 x.f0) := hcc 0 _ rfl
        have c1' := hcc 1 _ rfl
        have c2 := hcc 2 _ rfl
        have HFK := Aside0.mk hFK
        have HX0 := Aside0.mk hx
        have HZ := Aside0.mk hz
        clear hcc hFK hf1 hl1 hx hcl hz hsz
        have hp2 : wr.cell? p = some (.int .i64 ts) := (HB.out.cell HPB.out).trans HP.out
        have HP2 := Aside0.mk hp2
        clear hp2 hk2 hk3
        have hlt2 : (j : Int) < (xs.length : Int) := by omega
        have hxj := strike_x HD.out hlt
        by_cases ht : decide (x.f0 ≤ ts) = true
        · have HTT := Aside0.mk ht
          have HXJ := Aside0.mk hxj
          clear ht hxj
          go_wp2_with (go_at_call 33; refine (sinceClosure _ _ _ _ _ ts p _ (pw_cell_below (below_alloc (Below.refl _ _) _) HP2.out)).mono ?_; rintro e w2 ⟨rfl, hb⟩; rw [HTT.out]; have HB2 := Aside0.mk hb; clear hb)
          go_roundw
          case rel =>
            refine ⟨i, j + 1, zs, rfl, by go_num, by omega, by omega, HZ.out, ⟨?_⟩, ⟨strike_drop HD.out⟩, ⟨Kd.N_below (Kd.N_alloc HN.out _) HB2.out⟩, ⟨(HB.out.alloc HS.out _).trans (HB2.out.mono (Nat.le_trans HS.out (by simp)))⟩, ⟨Nat.le_trans HS.out (Nat.le_trans (by simp) HB2.out.size)⟩⟩
            rw [strike_take ts hlt, ← HXJ.out, HX0.out, HT.out]
            simp [late, HTT.out]
          case measure => simp [intOf]; omega
        · have HTT := Aside0.mk (Bool.eq_false_iff.2 ht)
          have HXJ := Aside0.mk hxj
          clear ht hxj
          have hni : (i : Int) < (xs.length : Int) := by omega
          go_wp2_with (first
            | (go_at_call 33; refine (sinceClosure _ _ _ _ _ ts p _ (pw_cell_below (below_alloc (Below.refl _ _) _) HP2.out)).mono ?_; rintro e w2 ⟨rfl, hb⟩; rw [HTT.out]; have d0 : w2.cell? ⟨wr.heap.size, 0, none⟩ = some (.int .i64 x.f0) := pw_cell_below hb (by go_simp); have d1 : w2.cell? ⟨wr.heap.size, 1, none⟩ = some (.slice A1 x.f1.length c1) := pw_cell_below hb (by go_simp); have d2 : w2.cell? ⟨wr.heap.size, 2, none⟩ = some (.bool x.f2) := pw_cell_below hb (by go_simp); have HN2 := Aside0.mk (Kd.N_below (Kd.N_alloc HN.out _) hb); have HF2 := Aside0.mk (Kd.FK_below (Kd.FK_below HFK.out (below_alloc (Below.refl _ _) _)) hb); have HB2 := Aside0.mk ((HB.out.alloc HS.out _).trans (hb.mono (Nat.le_trans HS.out (by simp)))); have HS2 := Aside0.mk (Nat.le_trans HS.out (Nat.le_trans (by simp) hb.size)); clear hb)
            | ((with_reducible refine gate_store (t := 37) (p := 33) rfl ?_); obtain ⟨ci, hcil, _, hcci⟩ := Kd.N_get HN2.out z37 (i : Int) (by omega) (by omega); refine Kd.N_store k37 (w0 := W0) base rfl rfl 37 (.tmp 33) (.tmp 32) rfl 37 (g := g) (n := xs.length) (cap := c) (o' := i * 3) (i : Int) 0 zs x (.agg #[.int .i64 x.f0, .slice A1 x.f1.length c1, .bool x.f2]) [.int .i64 x.f0, .slice A1 x.f1.length c1, .bool x.f2] ci ok (fun k => ok k ∧ some k ≠ (Value.slice (some ⟨g, 0, none⟩) xs.length c).ownBlock) rfl ?sO rfl rfl ?sT ?sU HN2.out (by omega) hni hcil ?sC ?sJ ?sM ?sK HB2.out ?_; (case sO => simp; rfl); (case sT => kernel_rfl); (case sU => simp [Value.oneCell']); (case sC => intro q u hq; have := hcci q u hq; simpa [add_plain] using this); (case sJ => exact Nat.le_refl 3); (case sM => have e0 : ci.drop 3 = [] := List.drop_eq_nil_of_le (by rw [hcil]; decide); simp only [List.take_zero, List.nil_append, Nat.zero_add, List.length_cons, List.length_nil, Nat.reduceAdd, e0, List.append_nil]; exact HF2.out); (case sK => exact fun q hq => ⟨hq.1, fun e => hq.2 (by rw [e]; rfl)⟩); intro w3 hn3 hb3 hg3; have HN3 := Aside0.mk hn3; have HB3 := Aside0.mk hb3; have HS3 := Aside0.mk (Nat.le_trans HS2.out hg3.size); clear hn3 hb3 hg3 hcci hcil))
          go_roundw
          case rel =>
            obtain ⟨s1, s2⟩ := strike_set x (by have := HZ.out; omega : i < zs.length) hij
            refine ⟨i + 1, j + 1, zs.set i x, by go_num, by go_num, by omega, by omega, by rw [List.length_set]; exact HZ.out, ⟨?_⟩, ⟨s2.trans (strike_drop HD.out)⟩, ⟨HN3.out⟩, HB3, HS3⟩
            rw [s1, strike_take ts hlt, ← HXJ.out, HX0.out, HT.out]
            simp [late, HTT.out]
          case measure => simp [intOf]; omega
      · obtain rfl : j = xs.length := by omega
        have hni : (i : Int) ≤ (xs.length : Int) := by omega
        have hci : (c = i) = False := eq_false (by omega)
        have hic : (i : Int) ≤ (c : Int) := by omega
        have hxc : (xs.length : Int) ≤ (c : Int) := by omega
        obtain ⟨w2, hrun, hn2, hg2⟩ := N_clear k37 (P := Try.prog) (t := 27) (m := xs.length - i) Try.underlying27 (fun w => by kernel_rfl) (z := .agg #[.int .i64 0, .slice none 0 0, .bool false]) rfl (by decide) (by intro q hq; match q, hq with | 0, _ => rfl | 1, _ => rfl | 2, _ => rfl) (Kd.N_take HN.out (m := i) (by omega)) (by omega) (by omega)
        have hsz : k37.sz = 3 := rfl
        rw [hsz] at hrun
        have HN2 := Aside0.mk hn2
        have HG2 := Aside0.mk hg2
        have HZ := Aside0.mk hz
        clear hn2 hg2 hsz hz hk2 hk3
        go_wp2
        go_ret
        refine ⟨_, rfl, ?_, pw_below_grown HB.out (some g) HS.out HG2.out (fun q e => by cases e; exact Kd.N_base HN.out _ rfl)⟩
        have e := HT.out
        rw [List.take_length] at e
        rw [← e]
        exact Kd.N_V HN2.out

set_option maxHeartbeats 1000000 in
set_option maxRecDepth 100000 in
theorem since_calls (P0 : Nat → Prop) (A : Option Addr) (c : Nat) (xs : List S37) (ts : Int) (w : World) (h : Kd.V k37 37 w w.heap.size P0 (.slice A xs.length c) xs) (hl : xs.length * 40 ≤ 140737488355328) :
    Calls Try.prog 15 #[.agg #[.slice A xs.length c], .int .i64 ts] w fun e w' => ∃ v : Value, e = .returned v ∧ Kd.V k37 37 w' w.heap.size (fun k => P0 k ∨ w.heap.size ≤ k) v (sinceL xs ts) ∧ Below w.heap.size w w' := by
  have HV := Aside0.mk h
  have HL := Aside0.mk hl
  have hu := Try.underlying29
  clear h hl
  go_enter Try.func15, Try.ntmps15
  go_wp2_with (first
    | (go_at_call 30; refine (cloneVer (fun k => P0 k ∧ k < w.heap.size) A c xs _ ?hv HL.out).mono ?_; (case hv => exact Kd.V_alloc (Kd.V_alloc (Kd.V_mono (Kd.V_bound HV.out) (fun _ hk => hk)) _) _); rintro e w1 ⟨v1, rfl, hn, hb⟩; obtain ⟨A1, c1, e1⟩ := Kd.N_slice hn; subst e1; have HN := Aside0.mk hn; have HB := Aside0.mk hb; clear hn hb)
    | (go_at_call 32; refine (deleteVer _ _ _ ⟨w.heap.size + 1, 0, none⟩ ts A1 c1 xs _ HN.out ?hb HB.out ?hp ?hc).mono ?_; (case hb => exact HB.out.size); (case hp => simp); (case hc => go_simp); rintro e w2 ⟨v2, rfl, hv2, hb2⟩; have HV2 := Aside0.mk hv2; have HB2 := Aside0.mk hb2; clear hv2 hb2))
  go_ret
  exact ⟨_, rfl, Kd.V_mono (Kd.V_lower HV2.out (by simp; omega)) (fun k hk => hk.elim (fun h => .inl h.1) (fun h => .inr (Nat.le_trans (by simp; omega) h))), below_step (below_alloc (below_alloc (Below.refl _ _) _) _) HB2.out⟩
end Go.Proofs.Ytcinlddejdkjeaa.G
