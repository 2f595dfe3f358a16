-- written by a turned copy of the kit's printer (wip/tools/patch_print.py over print.py); contracts of given functions are this session's own
import Derived.Test.YtcinlddejdkjeaaRows
import Derived.Test.YtcinlddejdkjeaaQx18
import Derived.Test.YtcinlddejdkjeaaPureChainSees
import Derived.WalkKit
import Derived.ProofKit
import Derived.OpenShut
import Derived.ShutString
import Derived.ChangeOld
import Derived.Below
import Derived.SizedLaws
import Derived.Test.YtcinlddejdkjeaaX1
import Derived.Test.YtcinlddejdkjeaaWSized
namespace Go.Proofs.Ytcinlddejdkjeaa.chainSees
open Go.ChangeShapes Go.WideShapes Go.ChangeAt Go.RowKit
open Go.ChangeMaps (open_string shut_string)
set_option linter.unusedVariables false
theorem own : ownKnob Try.prog.godebug = none := by kernel_rfl
theorem laidOut : laidOutB Try.prog = true := by kernel_rfl
def IsRow (k : IntKind) (w : World) (a : Option Addr) (len cap : Nat) (zs : List Int) : Prop :=
  (a = none ∧ len = 0 ∧ cap = 0 ∧ zs = []) ∨
  ∃ x, a = some x ∧ len ≤ cap ∧ cap ≤ maxLen ∧ zs.length = cap ∧ (∀ i, i < zs.length → w.cell? (x.add i) = some (.int k (zs.getD i 0))) ∧ ∀ n ∈ zs, (Lit.int k n).wf = true
open Go.Proofs.Ytcinlddejdkjeaa.G Go.Proofs.YtcinlddejdkjeaaW.PrintWords Go.Proofs.Ytcinlddejdkjeaa.Q
theorem op3 : Opens Try.prog 3 (Kd.int .i64) (fun x => (Lit.int .i64 x).wf = true) := opens_int Try.underlying3
theorem op5 : Opens Try.prog 5 (Kd.int .u8) (fun x => (Lit.int .u8 x).wf = true) := opens_int Try.underlying5
theorem op35 : Opens Try.prog 35 (Kd.slice 5 (Kd.int .u8)) (fun x => x.length * 1 ≤ 140737488351232 ∧ ∀ y0_ ∈ x, (Lit.int .u8 y0_).wf = true) := opens_slice Try.underlying35 (by kernel_rfl) (by kernel_rfl) (by decide) op5
theorem op4 : Opens Try.prog 4 Kd.bool (fun x => True) := opens_bool Try.underlying4
theorem op46 : Opens Try.prog 46 k46 (fun x => ((Lit.int .i64 x.f0).wf = true) ∧ (x.f1.length * 1 ≤ 140737488351232 ∧ ∀ y0_ ∈ x.f1, (Lit.int .u8 y0_).wf = true) ∧ (True)) := by
  intro H enc w fuel cs x h hw
  obtain ⟨xs, n, rfl, rfl, hl, hxl, hf⟩ := DataW.trod_struct Try.underlying46 h
  have hL : cs.length = 3 := by rw [hl]; kernel_rfl
  obtain ⟨y0, q0, g0⟩ := field_opens op3 Try.underlying46 hw hxl hf 0 _ rfl rfl 0 1 rfl (by kernel_rfl)
  obtain ⟨y1, q1, g1⟩ := field_opens op35 Try.underlying46 hw hxl hf 1 _ rfl rfl 1 1 rfl (by kernel_rfl)
  obtain ⟨y2, q2, g2⟩ := field_opens op4 Try.underlying46 hw hxl hf 2 _ rfl rfl 2 1 rfl (by kernel_rfl)
  rw [last_cells (by omega)] at q2
  exact ⟨⟨y0, y1, y2⟩, ⟨(cs.drop 0).take 1, cs.drop 1, pair_cells cs 0 1, q0, ⟨(cs.drop 1).take 1, cs.drop 2, pair_cells cs 1 1, q1, q2⟩⟩, g0, g1, g2⟩
theorem op22 : Opens Try.prog 22 (Kd.slice 46 k46) (fun x => x.length * 40 ≤ 140737488351232 ∧ ∀ y0_ ∈ x, ((Lit.int .i64 y0_.f0).wf = true) ∧ (y0_.f1.length * 1 ≤ 140737488351232 ∧ ∀ y1_ ∈ y0_.f1, (Lit.int .u8 y1_).wf = true) ∧ (True)) := opens_slice Try.underlying22 (by kernel_rfl) (by kernel_rfl) (by decide) op46
set_option maxRecDepth 100000 in
theorem lifted (os : Os) (started : os.Started) (H : Type) (enc : TypeId × Value → H) :
    ReturnsInHanded {} Try.checked os 4 .any (Rows.chainSeesSpec.pre6 enc Try.prog Try.f4 Rows.chainSeesRow.domain false) (Rows.chainSeesSpec.post enc Try.prog Try.f4 false true false false) := by
  refine returnsInHanded_of_change_sized (C := Try.checked) own started (by kernel_rfl) Try.func4
    (ChangeSpec.witness6 (enc := enc) (C := Try.checked) false ⟨#[], #[.slice none 0 0, .int .i64 0, .int .i64 0], []⟩ 8 (by kernel_rfl) (by kernel_rfl) (by kernel_rfl) (by kernel_rfl)) ?_
  intro W base args ds gs before hval0 hW hcnd hsz0 _
  have hsz : (DataW.weightsEach Try.prog (Try.f4.params.toList ++ Rows.chainSeesSpec.plain.varTypes Try.prog) (ds ++ gs)).all (· ≤ reachBytes) = true := hsz0
  have hval : ∀ (j : Nat) t v, Try.f4.params[j]? = some t → args[j]? = some v → Value.okWide Try.prog W .any base t v := hval0
  have hW' := hW
  obtain ⟨p, q, hA0, hV, rfl, hfz, hnd⟩ := hW
  have hA : DataW.TrodAll enc Try.prog W 0 (fun _ => true) true Try.f4.params.toList args.toList ds p := hA0
  rw [Try.params4] at hA hval hsz
  obtain ⟨v0, vs0, d0, ds0, p0, q0, hargs, rfl, rfl, h0, r0⟩ := trodAll_cons hA
  obtain ⟨v1, vs1, d1, ds1, p1, q1, rfl, rfl, rfl, h1, r1⟩ := trodAll_cons r0
  obtain ⟨v2, vs2, d2, ds2, p2, q2, rfl, rfl, rfl, h2, r2⟩ := trodAll_cons r1
  obtain ⟨rfl, rfl, rfl⟩ := trodAll_nil r2
  obtain rfl : args = #[v0, v1, v2] := by cases args; simp_all
  obtain ⟨rfl, rfl⟩ := trodVars_none hV
  obtain ⟨a0, len0, cap0, rfl⟩ := okWide_slice Try.underlying22 (hval 0 22 v0 rfl rfl)
  have k0 := h0
  have lt0 : ∀ x ∈ p0, x.block < W.heap.size := by obtain ⟨m, hm⟩ := k0; exact DataW.trod_lt m _ _ _ hm
  obtain ⟨y0, ⟨A0, c0, e0, l0, hC0⟩, G0⟩ := arg_slice op22 hsz (j := 0) (t := 22) rfl rfl h0
  simp [Value.cells] at e0
  obtain ⟨rfl, rfl, rfl⟩ := e0
  obtain ⟨a1, rfl, rfl, rfl, w1⟩ := open_int Try.underlying3 (hval 1 3 v1 rfl rfl) h1
  obtain ⟨a2, rfl, rfl, rfl, w2⟩ := open_int Try.underlying3 (hval 2 3 v2 rfl rfl) h2
  clear hA0 hval0 hsz0 hsz
  obtain ⟨k, h⟩ := Pure.ChainSees y0 a1 a2 G0 w1 w2
  refine (Q.godwitlaw07_ChainSees.calls k _ _ y0 a1 a2 true W hC0 l0 h).mono fun e W' ⟨he, bel0⟩ => ?_
  have bel : Below W.heap.size W W' := bel0
  subst he
  exact ⟨_, rfl, _, _, _, [], _, [], hW', trodAll_mk1 (shut_bool Try.underlying4 _), (trodAll_cons_mk (Below.trod laidOut (by kernel_rfl) (of_decide_eq_true (by kernel_rfl)) k0 bel lt0) (trodAll_cons_mk (shut_int Try.underlying3 w1) (trodAll_cons_mk (shut_int Try.underlying3 w2) trodAll_mk0))), rfl, bel.frame _, fun h => by cases h⟩
theorem over : Rows.chainSeesRow.holds Try.pinned (OpenSpec.ofChange Rows.chainSeesSpec) :=
  OpenClaim.holds_of_wide 4 Try.f4 rfl rfl rfl rfl rfl rfl rfl ⟨rfl, rfl, rfl, rfl, rfl⟩ rfl rfl rfl rfl rfl (by kernel_rfl) Try.func4 (by kernel_rfl)
    (of_decide_eq_true (by kernel_rfl)) (by unfold Func.isWrapper; first | (rw [if_pos (by decide +kernel)]; kernel_rfl) | (rw [if_neg (by decide +kernel)]; exact ⟨rfl, rfl⟩))
    (fun os started H enc _ => lifted os started H enc)
theorem proved : Rows.ChainSeesSaid := over
#print axioms proved
end Go.Proofs.Ytcinlddejdkjeaa.chainSees
namespace Go.Proofs.Ytcinlddejdkjeaa
/-- The row, under a short name, for the claim. -/
theorem chainSees_holds : Rows.ChainSeesSaid := chainSees.proved
end Go.Proofs.Ytcinlddejdkjeaa
