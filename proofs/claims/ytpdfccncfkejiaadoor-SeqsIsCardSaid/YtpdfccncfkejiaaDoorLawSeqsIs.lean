-- written by a turned copy of the kit's printer (wip/tools/patch_print.py over print.py); contracts of given functions are this session's own
import Derived.Test.YtpdfccncfkejiaaDoorRows
import Derived.Test.YtpdfccncfkejiaaDoorQx24
import Derived.Test.YtpdfccncfkejiaaDoorPureSeqsIs
import Derived.WalkKit
import Derived.ProofKit
import Derived.OpenShut
import Derived.ShutString
import Derived.ChangeOld
import Derived.Below
import Derived.Handed
import Derived.Test.YtpdfccncfkejiaaDoorL15
import Derived.Test.YtpdfccncfkejiaaDoorTie
import Derived.Test.YtpdfccncfkejiaaDoorCards
import Derived.SevenTiedAt
import Derived.SizedLaws
import Derived.Test.YtpdfccncfkejiaaDoorX1
import Derived.Test.YtpdfccncfkejiaaDoorWSized
namespace Go.Proofs.YtpdfccncfkejiaaDoor.seqsIs
open Go.ChangeShapes Go.WideShapes Go.ChangeAt Go.RowKit
open Go.ChangeMaps (open_string shut_string)
set_option linter.unusedVariables false
theorem own : ownKnob Tryd.prog.godebug = none := by kernel_rfl
theorem laidOut : laidOutB Tryd.prog = true := by kernel_rfl
def IsRow (k : IntKind) (w : World) (a : Option Addr) (len cap : Nat) (zs : List Int) : Prop :=
  (a = none ∧ len = 0 ∧ cap = 0 ∧ zs = []) ∨
  ∃ x, a = some x ∧ len ≤ cap ∧ cap ≤ maxLen ∧ zs.length = cap ∧ (∀ i, i < zs.length → w.cell? (x.add i) = some (.int k (zs.getD i 0))) ∧ ∀ n ∈ zs, (Lit.int k n).wf = true
open Go.Proofs.YtpdfccncfkejiaaDoor.G Go.Proofs.YtpdfccncfkejiaaDoorW.PrintWords Go.Proofs.YtpdfccncfkejiaaDoor.Q
theorem op3 : Opens Tryd.prog 3 (Kd.int .i64) (fun x => (Lit.int .i64 x).wf = true) := opens_int Tryd.underlying3
theorem op24 : Opens Tryd.prog 24 (Kd.int .u64) (fun x => (Lit.int .u64 x).wf = true) := opens_int Tryd.underlying24
theorem op37 : Opens Tryd.prog 37 k37 (fun x => ((Lit.int .i64 x.f0).wf = true) ∧ ((Lit.int .u64 x.f1).wf = true)) := by
  intro H enc w fuel cs x h hw
  obtain ⟨xs, n, rfl, rfl, hl, hxl, hf⟩ := DataW.trod_struct Tryd.underlying37 h
  have hL : cs.length = 2 := by rw [hl]; kernel_rfl
  obtain ⟨y0, q0, g0⟩ := field_opens op3 Tryd.underlying37 hw hxl hf 0 _ rfl rfl 0 1 rfl (by kernel_rfl)
  obtain ⟨y1, q1, g1⟩ := field_opens op24 Tryd.underlying37 hw hxl hf 1 _ rfl rfl 1 1 rfl (by kernel_rfl)
  rw [last_cells (by omega)] at q1
  exact ⟨⟨y0, y1⟩, ⟨(cs.drop 0).take 1, cs.drop 1, pair_cells cs 0 1, q0, q1⟩, g0, g1⟩
set_option maxRecDepth 100000 in
theorem lifted (os : Os) (started : os.Started) (H : Type) (enc : TypeId × Value → H) :
    ReturnsInHanded {} Tryd.checked os 6 .any (fun w args => (Rows.seqsIsSpec.pre enc Tryd.prog Tryd.f6 [] false w args ∧ laidMetH Tryd.prog Rows.seqsIsRow.laid w) ∧ sizedMet enc Tryd.prog Tryd.f6 (OpenSpec.ofChange Rows.seqsIsSpec) false w args) (Rows.seqsIsSpec.post enc Tryd.prog Tryd.f6 false true false false) := by
  refine returnsInHanded_of_change_and (C := Tryd.checked) (X := fun w _ => laidMetH Tryd.prog Rows.seqsIsRow.laid w) (fun _ _ _ hh h => h.of_heap hh) own started (by kernel_rfl) Tryd.func6
    (ChangeSpec.witness_at (enc := enc) (C := Tryd.checked) (os := os) (X := fun w _ => laidMetH Tryd.prog Rows.seqsIsRow.laid w) false (laidWorld os) #[.agg #[.int .i64 0, .int .u64 0], .int .i64 0, .int .i64 0] 8 rfl (by kernel_rfl) (by kernel_rfl) (by kernel_rfl) (by kernel_rfl) (by kernel_rfl) (laidWorld_met os _)) ?_
  intro W base args ds gs before hval0 hW hcnd hsz0 hL _
  have hsz : (DataW.weightsEach Tryd.prog (Tryd.f6.params.toList ++ Rows.seqsIsSpec.plain.varTypes Tryd.prog) (ds ++ gs)).all (· ≤ reachBytes) = true := hsz0
  have hval : ∀ (j : Nat) t v, Tryd.f6.params[j]? = some t → args[j]? = some v → Value.okWide Tryd.prog W .any base t v := hval0
  have hW' := hW
  obtain ⟨p, q, hA0, hV, rfl, hfz, hnd⟩ := hW
  have hA : DataW.TrodAll enc Tryd.prog W 0 (fun _ => true) true Tryd.f6.params.toList args.toList ds p := hA0
  rw [Tryd.params6] at hA hval hsz
  obtain ⟨v0, vs0, d0, ds0, p0, q0, hargs, rfl, rfl, h0, r0⟩ := trodAll_cons hA
  obtain ⟨v1, vs1, d1, ds1, p1, q1, rfl, rfl, rfl, h1, r1⟩ := trodAll_cons r0
  obtain ⟨v2, vs2, d2, ds2, p2, q2, rfl, rfl, rfl, h2, r2⟩ := trodAll_cons r1
  obtain ⟨rfl, rfl, rfl⟩ := trodAll_nil r2
  obtain rfl : args = #[v0, v1, v2] := by cases args; simp_all
  obtain ⟨rfl, rfl⟩ := trodVars_none hV
  obtain ⟨cs0, rfl, _⟩ := okWide_struct Tryd.underlying37 (hval 0 37 v0 rfl rfl)
  have k0 := h0
  have lt0 : ∀ x ∈ p0, x.block < W.heap.size := by obtain ⟨m, hm⟩ := k0; exact DataW.trod_lt m _ _ _ hm
  obtain ⟨y0, K0, G0⟩ := arg_slice op37 hsz (j := 0) (t := 37) rfl rfl h0
  have e0 := k37_open K0
  obtain rfl : cs0 = #[.int .i64 y0.f0, .int .u64 y0.f1] := by apply Array.toList_inj.1; exact e0
  obtain ⟨a1, rfl, rfl, rfl, w1⟩ := open_int Tryd.underlying3 (hval 1 3 v1 rfl rfl) h1
  obtain ⟨a2, rfl, rfl, rfl, w2⟩ := open_int Tryd.underlying3 (hval 2 3 v2 rfl rfl) h2
  clear hA0 hval0 hsz0 hsz
  obtain ⟨k, h⟩ := Pure.SeqsIs y0.f0 y0.f1 a1 a2 G0 w1 w2
  refine (Q.godwitlaw15_SeqsIs.calls k y0.f0 y0.f1 a1 a2 true W (laidT_of hL) h).mono fun e W' ⟨he, bel0⟩ => ?_
  have bel : Below W.heap.size W W' := bel0
  subst he
  exact ⟨_, rfl, _, _, _, [], _, [], hW', trodAll_mk1 (shut_bool Tryd.underlying4 _), (trodAll_cons_mk (Below.trod laidOut (by kernel_rfl) (of_decide_eq_true (by kernel_rfl)) k0 bel lt0) (trodAll_cons_mk (shut_int Tryd.underlying3 w1) (trodAll_cons_mk (shut_int Tryd.underlying3 w2) trodAll_mk0))), rfl, bel.frame _, fun h => by cases h⟩
theorem over : Rows.seqsIsRow.holds Tryd.pinned (OpenSpec.ofChange Rows.seqsIsSpec) :=
  OpenClaim.holds_of_wide 6 Tryd.f6 rfl rfl rfl rfl rfl rfl rfl ⟨rfl, rfl, rfl, rfl, rfl⟩ rfl rfl rfl rfl rfl (by kernel_rfl) Tryd.func6 (by kernel_rfl)
    (of_decide_eq_true (by kernel_rfl)) (by unfold Func.isWrapper; first | (rw [if_pos (by decide +kernel)]; kernel_rfl) | (rw [if_neg (by decide +kernel)]; exact ⟨rfl, rfl⟩))
    (fun os started H enc _ => lifted os started H enc)
theorem proved : Rows.SeqsIsSaid := over
theorem card_holds : Rows.SeqsIsCardSaid :=
  Claim7.holds_tied_plain_at .later [] [.data] true (true, "710c174249f84928c8a3cdc745c88a1b581efdf19202fff6fdaadd4b85edb0e6") false
    proved (fun _ h => by cases h) (by kernel_rfl) (fun _ h => by cases h) seqsIs_row_tie rfl ⟨rfl, rfl⟩ (by kernel_rfl) rfl
    (fun f fn hf hfn => by
      obtain rfl : f = 6 := Option.some.inj ((show Tryd.prog.funcNamed "godwit/godwitlaw15.SeqsIs" = some 6 by kernel_rfl).symm.trans hf) |>.symm
      obtain rfl : fn = Tryd.f6 := (Option.some.inj (Tryd.func6.symm.trans hfn)).symm
      exact ⟨by kernel_rfl, fun j t ht => by
        rw [Tryd.params6] at ht
        rcases j with _ | _ | _ | j
        · simp at ht
          subst ht
          exact (show Tryd.prog.wantsStandIn 37 = false by kernel_rfl)
        · simp at ht
          subst ht
          exact (show Tryd.prog.wantsStandIn 3 = false by kernel_rfl)
        · simp at ht
          subst ht
          exact (show Tryd.prog.wantsStandIn 3 = false by kernel_rfl)
        · simp at ht⟩)
    (by kernel_rfl)
#print axioms card_holds
#print axioms proved
end Go.Proofs.YtpdfccncfkejiaaDoor.seqsIs
namespace Go.Proofs.YtpdfccncfkejiaaDoor
/-- The row, under a short name, for the claim. -/
theorem seqsIs_holds : Rows.SeqsIsCardSaid := seqsIs.card_holds
end Go.Proofs.YtpdfccncfkejiaaDoor
