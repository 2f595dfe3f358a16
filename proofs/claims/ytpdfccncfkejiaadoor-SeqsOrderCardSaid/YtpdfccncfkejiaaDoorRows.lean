/-
  NARROWER THAN 'FOR EVERY INPUT', by the rows' own cells (each row's printed sentence says how): SeqsOnce: laid · SeqsOrder: laid · SeqsMissing: laid · SeqsIs: laid · SeqsEnds: laid.
  DERIVED. THE GIVEN ROWS OF THIS SEAT. 5 by the template 'for every input the law returns true; each argument reads behind the call as it read before'; 0 by the template 'total and deterministic' (their statements: YtpdfccncfkejiaaDoorTotals.lean).
  GIVEN WITH THE SEED: the statements are not yours to turn. If you find one false, say at which input.
  Laid BY PROGRAM, IN A SANDBOX (cutbox-rows.mjs): the forced cells as the released guide's own fill.sh prints them over the translation 65aae81018898e72… (all of the seat's roots in one cut). By AI agents, Wed Nov 11 2026. No macro, syntax, notation, axiom, sorry.
-/
import Derived.Test.YtpdfccncfkejiaaDoorChecked
import GoSem.Claim
import GoSem.ClaimJoined
import GoSem.ClaimMapViews
import Derived.JoinedTies
import Derived.KernelRfl
namespace Go.Proofs.YtpdfccncfkejiaaDoor
/- THE CELL 'sum', in the pinned program and in every row, IS THE sha256 OF THE DUMP (.gsa) THAT YtpdfccncfkejiaaDoorProg.lean LOADS. Nothing in Lean hashes anything: it is a label: what it is worth is what the hold of that sum in a sandbox is worth. -/
noncomputable def Tryd.pinned : Pinned := { name := "ytpdfccncfkejiaadoor", sum := "65aae81018898e72b9cb8c654eef8c854bf6f4b08b97cb0fc75ee7b7238af710", checked := Tryd.checked }
namespace Rows
def none {H : Type} : Left H := { results := [], args := [] }

/- WHAT THE LISTED PACKAGE-LEVEL VARIABLES READ AS WHEN THE CALL BEGINS. Each datum BY PROGRAM (the guide's laid-datum.mjs) off the statement by which the dump's own 'gosem.cut.vars' lays the variable. In a bare row this is a premise. The card (YtpdfccncfkejiaaDoorCards.lean) ties it to the program's text. -/
def laid_math_bits_deBruijn64tab {H : Type} : DataW H := .agg [.lit (.int .u8 0), .lit (.int .u8 1), .lit (.int .u8 56), .lit (.int .u8 2), .lit (.int .u8 57), .lit (.int .u8 49), .lit (.int .u8 28), .lit (.int .u8 3), .lit (.int .u8 61), .lit (.int .u8 58), .lit (.int .u8 42), .lit (.int .u8 50), .lit (.int .u8 38), .lit (.int .u8 29), .lit (.int .u8 17), .lit (.int .u8 4), .lit (.int .u8 62), .lit (.int .u8 47), .lit (.int .u8 59), .lit (.int .u8 36), .lit (.int .u8 45), .lit (.int .u8 43), .lit (.int .u8 51), .lit (.int .u8 22), .lit (.int .u8 53), .lit (.int .u8 39), .lit (.int .u8 33), .lit (.int .u8 30), .lit (.int .u8 24), .lit (.int .u8 18), .lit (.int .u8 12), .lit (.int .u8 5), .lit (.int .u8 63), .lit (.int .u8 55), .lit (.int .u8 48), .lit (.int .u8 27), .lit (.int .u8 60), .lit (.int .u8 41), .lit (.int .u8 37), .lit (.int .u8 16), .lit (.int .u8 46), .lit (.int .u8 35), .lit (.int .u8 44), .lit (.int .u8 21), .lit (.int .u8 52), .lit (.int .u8 32), .lit (.int .u8 23), .lit (.int .u8 11), .lit (.int .u8 54), .lit (.int .u8 26), .lit (.int .u8 40), .lit (.int .u8 15), .lit (.int .u8 34), .lit (.int .u8 20), .lit (.int .u8 31), .lit (.int .u8 10), .lit (.int .u8 25), .lit (.int .u8 14), .lit (.int .u8 19), .lit (.int .u8 9), .lit (.int .u8 13), .lit (.int .u8 8), .lit (.int .u8 7), .lit (.int .u8 6)]

/-- 'godwitlaw15.SeqsOnce': WHATEVER THE INPUT: true; the input reads as it did. -/
def seqsOnceSpec : ChangeSpec := { name := "seqsOnce", fn := fun _ => fun
  | [d1, d2] => { results := [.lit (.bool true)], args := [d1, d2] }
  | _ => none }
def seqsOnceRow : OpenClaim := { program := "ytpdfccncfkejiaadoor", sum := "65aae81018898e72b9cb8c654eef8c854bf6f4b08b97cb0fc75ee7b7238af710", func := "godwit/godwitlaw15.SeqsOnce", spec := "seqsOnce", named := ["math/bits.deBruijn64tab"], apart := false, laid := [("math/bits.deBruijn64tab", laid_math_bits_deBruijn64tab)] }
def SeqsOnceSaid : Prop := seqsOnceRow.holds Tryd.pinned (OpenSpec.ofChange seqsOnceSpec)

/-- ITS FALSE NEIGHBOUR: 'it returns false'. Refute it at one input. -/
def seqsOnceWrong : ChangeSpec := { name := "seqsOnce", fn := fun _ => fun
  | [d1, d2] => { results := [.lit (.bool false)], args := [d1, d2] }
  | _ => none }
def SeqsOnceWrongFalsely : Prop := seqsOnceRow.holds Tryd.pinned (OpenSpec.ofChange seqsOnceWrong)

/-- 'godwitlaw15.SeqsOrder': WHATEVER THE INPUT: true; the input reads as it did. -/
def seqsOrderSpec : ChangeSpec := { name := "seqsOrder", fn := fun _ => fun
  | [d1, d2] => { results := [.lit (.bool true)], args := [d1, d2] }
  | _ => none }
def seqsOrderRow : OpenClaim := { program := "ytpdfccncfkejiaadoor", sum := "65aae81018898e72b9cb8c654eef8c854bf6f4b08b97cb0fc75ee7b7238af710", func := "godwit/godwitlaw15.SeqsOrder", spec := "seqsOrder", named := ["math/bits.deBruijn64tab"], apart := false, laid := [("math/bits.deBruijn64tab", laid_math_bits_deBruijn64tab)] }
def SeqsOrderSaid : Prop := seqsOrderRow.holds Tryd.pinned (OpenSpec.ofChange seqsOrderSpec)

/-- ITS FALSE NEIGHBOUR: 'it returns false'. Refute it at one input. -/
def seqsOrderWrong : ChangeSpec := { name := "seqsOrder", fn := fun _ => fun
  | [d1, d2] => { results := [.lit (.bool false)], args := [d1, d2] }
  | _ => none }
def SeqsOrderWrongFalsely : Prop := seqsOrderRow.holds Tryd.pinned (OpenSpec.ofChange seqsOrderWrong)

/-- 'godwitlaw15.SeqsMissing': WHATEVER THE INPUT: true; the input reads as it did. -/
def seqsMissingSpec : ChangeSpec := { name := "seqsMissing", fn := fun _ => fun
  | [d1, d2] => { results := [.lit (.bool true)], args := [d1, d2] }
  | _ => none }
def seqsMissingRow : OpenClaim := { program := "ytpdfccncfkejiaadoor", sum := "65aae81018898e72b9cb8c654eef8c854bf6f4b08b97cb0fc75ee7b7238af710", func := "godwit/godwitlaw15.SeqsMissing", spec := "seqsMissing", named := ["math/bits.deBruijn64tab"], apart := false, laid := [("math/bits.deBruijn64tab", laid_math_bits_deBruijn64tab)] }
def SeqsMissingSaid : Prop := seqsMissingRow.holds Tryd.pinned (OpenSpec.ofChange seqsMissingSpec)

/-- ITS FALSE NEIGHBOUR: 'it returns false'. Refute it at one input. -/
def seqsMissingWrong : ChangeSpec := { name := "seqsMissing", fn := fun _ => fun
  | [d1, d2] => { results := [.lit (.bool false)], args := [d1, d2] }
  | _ => none }
def SeqsMissingWrongFalsely : Prop := seqsMissingRow.holds Tryd.pinned (OpenSpec.ofChange seqsMissingWrong)

/-- 'godwitlaw15.SeqsIs': WHATEVER THE INPUT: true; the input reads as it did. -/
def seqsIsSpec : ChangeSpec := { name := "seqsIs", fn := fun _ => fun
  | [d1, d2, d3] => { results := [.lit (.bool true)], args := [d1, d2, d3] }
  | _ => none }
def seqsIsRow : OpenClaim := { program := "ytpdfccncfkejiaadoor", sum := "65aae81018898e72b9cb8c654eef8c854bf6f4b08b97cb0fc75ee7b7238af710", func := "godwit/godwitlaw15.SeqsIs", spec := "seqsIs", named := ["math/bits.deBruijn64tab"], apart := false, laid := [("math/bits.deBruijn64tab", laid_math_bits_deBruijn64tab)] }
def SeqsIsSaid : Prop := seqsIsRow.holds Tryd.pinned (OpenSpec.ofChange seqsIsSpec)

/-- ITS FALSE NEIGHBOUR: 'it returns false'. Refute it at one input. -/
def seqsIsWrong : ChangeSpec := { name := "seqsIs", fn := fun _ => fun
  | [d1, d2, d3] => { results := [.lit (.bool false)], args := [d1, d2, d3] }
  | _ => none }
def SeqsIsWrongFalsely : Prop := seqsIsRow.holds Tryd.pinned (OpenSpec.ofChange seqsIsWrong)

/-- 'godwitlaw15.SeqsEnds': WHATEVER THE INPUT: true; the input reads as it did. -/
def seqsEndsSpec : ChangeSpec := { name := "seqsEnds", fn := fun _ => fun
  | [d1, d2] => { results := [.lit (.bool true)], args := [d1, d2] }
  | _ => none }
def seqsEndsRow : OpenClaim := { program := "ytpdfccncfkejiaadoor", sum := "65aae81018898e72b9cb8c654eef8c854bf6f4b08b97cb0fc75ee7b7238af710", func := "godwit/godwitlaw15.SeqsEnds", spec := "seqsEnds", named := ["math/bits.deBruijn64tab"], apart := false, laid := [("math/bits.deBruijn64tab", laid_math_bits_deBruijn64tab)] }
def SeqsEndsSaid : Prop := seqsEndsRow.holds Tryd.pinned (OpenSpec.ofChange seqsEndsSpec)

/-- ITS FALSE NEIGHBOUR: 'it returns false'. Refute it at one input. -/
def seqsEndsWrong : ChangeSpec := { name := "seqsEnds", fn := fun _ => fun
  | [d1, d2] => { results := [.lit (.bool false)], args := [d1, d2] }
  | _ => none }
def SeqsEndsWrongFalsely : Prop := seqsEndsRow.holds Tryd.pinned (OpenSpec.ofChange seqsEndsWrong)

/- THE SECOND FORM. 'bulk': how many values and letters a reading holds, each counted each time it is reached (what is shared counts as often as it is met; a slice's spare places count too). A statement '..UptoSaid' is the law's where the arguments, and the package variables that the reading takes, are together of bulk at most 1048576: NARROWER than '..Said'. Prove '..Said' where nothing that the law and all that it calls make is longer than what came in: it says more and counts as full. Else prove '..UptoSaid'. A law counts once. -/
mutual
def uptoBulk {H : Type} : DataW H → Nat
  | .lit (.string bytes) => bytes.length + 1
  | .lit _ => 1
  | .nil => 1
  | .ptr d => uptoBulk d + 1
  | .slice elems spare => uptoBulkAll elems + uptoBulkAll spare + 1
  | .agg parts => uptoBulkAll parts + 1
  | .iface _ d => uptoBulk d + 1
  | .map entries => uptoBulkEntries entries + 1
  | .held _ => 1
def uptoBulkAll {H : Type} : List (DataW H) → Nat
  | [] => 0
  | d :: r => uptoBulk d + uptoBulkAll r
def uptoBulkEntries {H : Type} : List (Lit × DataW H) → Nat
  | [] => 0
  | x :: r => uptoBulkEntry x + uptoBulkEntries r
def uptoBulkEntry {H : Type} : Lit × DataW H → Nat
  | (.string bytes, d) => bytes.length + uptoBulk d + 1
  | (_, d) => uptoBulk d + 1
 end
def uptoSmall : (H : Type) → List (DataW H) → Bool := fun _ ds => decide (uptoBulkAll ds ≤ 1048576)
def OpenSpec.upto (s : _root_.Go.ChangeSpec) : _root_.Go.OpenSpec := { _root_.Go.OpenSpec.ofChange s with cond := some uptoSmall }

/-- 'godwitlaw15.SeqsOnce', WHERE WHAT IT READS IS OF BULK AT MOST 1048576: true; the input reads as it did. -/
def seqsOnceUptoRow : OpenClaim := { program := "ytpdfccncfkejiaadoor", sum := "65aae81018898e72b9cb8c654eef8c854bf6f4b08b97cb0fc75ee7b7238af710", func := "godwit/godwitlaw15.SeqsOnce", spec := "seqsOnce", named := ["math/bits.deBruijn64tab"], apart := false, laid := [("math/bits.deBruijn64tab", laid_math_bits_deBruijn64tab)], narrowed := true }
def SeqsOnceUptoSaid : Prop := seqsOnceUptoRow.holds Tryd.pinned (OpenSpec.upto seqsOnceSpec)

/-- 'godwitlaw15.SeqsOrder', WHERE WHAT IT READS IS OF BULK AT MOST 1048576: true; the input reads as it did. -/
def seqsOrderUptoRow : OpenClaim := { program := "ytpdfccncfkejiaadoor", sum := "65aae81018898e72b9cb8c654eef8c854bf6f4b08b97cb0fc75ee7b7238af710", func := "godwit/godwitlaw15.SeqsOrder", spec := "seqsOrder", named := ["math/bits.deBruijn64tab"], apart := false, laid := [("math/bits.deBruijn64tab", laid_math_bits_deBruijn64tab)], narrowed := true }
def SeqsOrderUptoSaid : Prop := seqsOrderUptoRow.holds Tryd.pinned (OpenSpec.upto seqsOrderSpec)

/-- 'godwitlaw15.SeqsMissing', WHERE WHAT IT READS IS OF BULK AT MOST 1048576: true; the input reads as it did. -/
def seqsMissingUptoRow : OpenClaim := { program := "ytpdfccncfkejiaadoor", sum := "65aae81018898e72b9cb8c654eef8c854bf6f4b08b97cb0fc75ee7b7238af710", func := "godwit/godwitlaw15.SeqsMissing", spec := "seqsMissing", named := ["math/bits.deBruijn64tab"], apart := false, laid := [("math/bits.deBruijn64tab", laid_math_bits_deBruijn64tab)], narrowed := true }
def SeqsMissingUptoSaid : Prop := seqsMissingUptoRow.holds Tryd.pinned (OpenSpec.upto seqsMissingSpec)

/-- 'godwitlaw15.SeqsIs', WHERE WHAT IT READS IS OF BULK AT MOST 1048576: true; the input reads as it did. -/
def seqsIsUptoRow : OpenClaim := { program := "ytpdfccncfkejiaadoor", sum := "65aae81018898e72b9cb8c654eef8c854bf6f4b08b97cb0fc75ee7b7238af710", func := "godwit/godwitlaw15.SeqsIs", spec := "seqsIs", named := ["math/bits.deBruijn64tab"], apart := false, laid := [("math/bits.deBruijn64tab", laid_math_bits_deBruijn64tab)], narrowed := true }
def SeqsIsUptoSaid : Prop := seqsIsUptoRow.holds Tryd.pinned (OpenSpec.upto seqsIsSpec)

/-- 'godwitlaw15.SeqsEnds', WHERE WHAT IT READS IS OF BULK AT MOST 1048576: true; the input reads as it did. -/
def seqsEndsUptoRow : OpenClaim := { program := "ytpdfccncfkejiaadoor", sum := "65aae81018898e72b9cb8c654eef8c854bf6f4b08b97cb0fc75ee7b7238af710", func := "godwit/godwitlaw15.SeqsEnds", spec := "seqsEnds", named := ["math/bits.deBruijn64tab"], apart := false, laid := [("math/bits.deBruijn64tab", laid_math_bits_deBruijn64tab)], narrowed := true }
def SeqsEndsUptoSaid : Prop := seqsEndsUptoRow.holds Tryd.pinned (OpenSpec.upto seqsEndsSpec)

end Rows
end Go.Proofs.YtpdfccncfkejiaaDoor
