/- chain: the contract of slices.Clone over versions. -/
import Derived.Test.YtcinlddejdkjeaaQx0
import Derived.Test.YtcinlddejdkjeaaX0
import Derived.Test.YtcinlddejdkjeaaWKept
import Derived.Test.YtcinlddejdkjeaaWNEv
import Derived.Deep.RegionLaw
import Derived.Lib.SliceRun
import Derived.LoopTactic
import Derived.Outline
import Derived.Lib.Hide
namespace Go.Proofs.Ytcinlddejdkjeaa.G
open Go.RowKit Go.Proofs.YtcinlddejdkjeaaW.PrintWords Go.Proofs.YtcinlddejdkjeaaW.PrintLast Go.Proofs.YtcinlddejdkjeaaW.PrintMore Go.Proofs.Ytcinlddejdkjeaa.Q
set_option linter.unusedVariables false
set_option linter.unusedSimpArgs false
theorem infoVer : (Try.prog.info? 37).map (fun i => (i.zero, i.size, i.bytes)) = some (some (.agg #[.int .i64 0, .slice none 0 0, .bool false]), 3, 40) := by kernel_rfl

set_option maxHeartbeats 1000000 in
set_option maxRecDepth 100000 in
theorem cloneVer (P0 : Nat → Prop) (A : Option Addr) (c : Nat) (xs : List S37) (w : World) (h : Kd.V k37 37 w w.heap.size P0 (.slice A xs.length c) xs) (hl : xs.length * 40 ≤ 140737488355328) :
    Calls Try.prog 30 #[.slice A xs.length c] w fun e w' => ∃ v : Value, e = .returned v ∧ Kd.N k37 37 w' w.heap.size (fun k => P0 k ∨ w.heap.size ≤ k) v xs ∧ Below w.heap.size w w' := by
  have hn : ∀ (W : World) (a : Option Addr) (n c n' c' : Nat), (binOp .eql 27 (.slice a n c) (.slice none n' c')).run Try.prog W = .ok (.bool a.isNone) W := fun W a n c n' c' => Lib.run_eql_slice_nil W _ _ a n c n' c' Try.underlying27
  cases A with
  | none =>
    have hx : xs = [] := by
      cases xs with
      | nil => rfl
      | cons x l => obtain ⟨ad, e, _⟩ := (Kd.V_reads' h).2.2.2.2 (by simp); cases e
    subst hx
    go_enter Try.func30, Try.ntmps30
    go_wp2
    go_ret
    exact ⟨_, rfl, Kd.N_nil _ _ _ _ _, Below.refl _ _⟩
  | some ad =>
    have HR := Aside0.mk (Kd.F_bound (Kd.V_F h))
    clear h
    go_enter Try.func30, Try.ntmps30
    go_wp2_with (first
      | ((with_reducible refine gate_dst (N := 5) rfl ?_); refine Kd.N_lit k37 w.heap.size 37 ?hg (N' := 5) ?hd (xs := ([] : List S37)) (inner := []) (ok := fun k => P0 k ∨ w.heap.size ≤ k) (okp := fun _ => False) ?hr ?hp (fun _ hk => hk.elim) (.inr (Nat.le_refl _)) (Below.refl _ _) (Nat.le_refl _) (by simp) ?_; (case hd => rfl); (case hg => rfl); (case hr => first | (go_simp; done) | (go_simp; rfl)); (case hp => exact Reps.none _ _); intro v1 w1 ho1 hb1 _ ho2; have HO := Aside0.mk ho1; have HB := Aside0.mk hb1; have HW := Aside0.mk ho2; clear ho1 hb1 ho2; obtain ⟨A1, c1, e1⟩ := Kd.N_slice HO.out; subst e1)
      | (at_builtin; refine Kd.N_append_rows k37 (w0 := w) w.heap.size rfl (.tmp 5) (.tmp 6) 27 37 (.agg #[.int .i64 0, .slice none 0 0, .bool false]) 40 rfl Try.underlying27 infoVer rfl (by decide) (by omega) _ [] xs (some ad) xs.length c (fun k => P0 k ∨ w.heap.size ≤ k) (fun k => P0 k ∧ k < w.heap.size) rfl rfl HO.out ?aC ?aK (fun k hk => .inr (Nat.le_trans HB.out.size hk)) HB.out ?aB ?aL ?_; (case aC => exact Kd.F_below HR.out (Below.refl _ _ |>.trans HB.out)); (case aK => exact fun k hk => ⟨.inl hk.1, fun e => by obtain ⟨b, hb, hle⟩ := HW.out; have e2 := Option.some.inj (Eq.trans e hb); have := hk.2; omega⟩); (case aB => exact HB.out.size); (case aL => simp; omega); intro v2 w2 ho2 hb2 _ _; have HO2 := Aside0.mk ho2; have HB2 := Aside0.mk hb2; clear ho2 hb2; obtain ⟨A2, c2, e2⟩ := Kd.N_slice HO2.out; subst e2))
    go_ret
    exact ⟨_, rfl, HO2.out, HB2.out⟩
end Go.Proofs.Ytcinlddejdkjeaa.G
