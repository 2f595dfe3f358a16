/-
  No cell of these rows narrows 'for every input' (looked for: loops, veiled, ifaces, maps, wideKeys, modest, calm, conditions, laid).
  DERIVED. THE GIVEN ROWS OF THIS SEAT. 4 by the template 'for every input the law returns true; each argument reads behind the call as it read before'; 0 by the template 'total and deterministic' (their statements: YtdjenkcafhdicaaTotals.lean).
  GIVEN WITH THE SEED: the statements are not yours to turn. If you find one false, say at which input.
  Laid BY PROGRAM, IN A SANDBOX (cutbox-rows.mjs): the forced cells as the released guide's own fill.sh prints them over the translation 6c661d5b4225abef… (all of the seat's roots in one cut). By AI agents, Wed Nov 11 2026. No macro, syntax, notation, axiom, sorry.
-/
import Derived.Test.YtdjenkcafhdicaaChecked
import GoSem.Claim
import GoSem.ClaimJoined
import GoSem.ClaimMapViews
import Derived.JoinedTies
import Derived.KernelRfl
namespace Go.Proofs.Ytdjenkcafhdicaa
/- THE CELL 'sum', in the pinned program and in every row, IS THE sha256 OF THE DUMP (.gsa) THAT YtdjenkcafhdicaaProg.lean LOADS. Nothing in Lean hashes anything: it is a label: what it is worth is what the hold of that sum in a sandbox is worth. -/
noncomputable def Try.pinned : Pinned := { name := "ytdjenkcafhdicaa", sum := "6c661d5b4225abef0018cda7a2fdc30c027e607d2b121e6c0f25a2050b33abf9", checked := Try.checked }
namespace Rows
def none {H : Type} : Left H := { results := [], args := [] }

/-- 'godwitlaw03.FrameOne': WHATEVER THE INPUT: true; the input reads as it did. -/
def frameOneSpec : ChangeSpec := { name := "frameOne", fn := fun _ => fun
  | [d1, d2, d3, d4] => { results := [.lit (.bool true)], args := [d1, d2, d3, d4] }
  | _ => none }
def frameOneRow : OpenClaim := { program := "ytdjenkcafhdicaa", sum := "6c661d5b4225abef0018cda7a2fdc30c027e607d2b121e6c0f25a2050b33abf9", func := "godwit/godwitlaw03.FrameOne", spec := "frameOne", unfollowed := true, recurses := true, apart := false }
def FrameOneSaid : Prop := frameOneRow.holds Try.pinned (OpenSpec.ofChange frameOneSpec)

/-- ITS FALSE NEIGHBOUR: 'it returns false'. Refute it at one input. -/
def frameOneWrong : ChangeSpec := { name := "frameOne", fn := fun _ => fun
  | [d1, d2, d3, d4] => { results := [.lit (.bool false)], args := [d1, d2, d3, d4] }
  | _ => none }
def FrameOneWrongFalsely : Prop := frameOneRow.holds Try.pinned (OpenSpec.ofChange frameOneWrong)

/-- 'godwitlaw03.FrameMore': WHATEVER THE INPUT: true; the input reads as it did. -/
def frameMoreSpec : ChangeSpec := { name := "frameMore", fn := fun _ => fun
  | [d1, d2] => { results := [.lit (.bool true)], args := [d1, d2] }
  | _ => none }
def frameMoreRow : OpenClaim := { program := "ytdjenkcafhdicaa", sum := "6c661d5b4225abef0018cda7a2fdc30c027e607d2b121e6c0f25a2050b33abf9", func := "godwit/godwitlaw03.FrameMore", spec := "frameMore", unfollowed := true, recurses := true, apart := false }
def FrameMoreSaid : Prop := frameMoreRow.holds Try.pinned (OpenSpec.ofChange frameMoreSpec)

/-- ITS FALSE NEIGHBOUR: 'it returns false'. Refute it at one input. -/
def frameMoreWrong : ChangeSpec := { name := "frameMore", fn := fun _ => fun
  | [d1, d2] => { results := [.lit (.bool false)], args := [d1, d2] }
  | _ => none }
def FrameMoreWrongFalsely : Prop := frameMoreRow.holds Try.pinned (OpenSpec.ofChange frameMoreWrong)

/-- 'godwitlaw03.FrameIs': WHATEVER THE INPUT: true; the input reads as it did. -/
def frameIsSpec : ChangeSpec := { name := "frameIs", fn := fun _ => fun
  | [d1, d2, d3] => { results := [.lit (.bool true)], args := [d1, d2, d3] }
  | _ => none }
def frameIsRow : OpenClaim := { program := "ytdjenkcafhdicaa", sum := "6c661d5b4225abef0018cda7a2fdc30c027e607d2b121e6c0f25a2050b33abf9", func := "godwit/godwitlaw03.FrameIs", spec := "frameIs", unfollowed := true, recurses := true, apart := false }
def FrameIsSaid : Prop := frameIsRow.holds Try.pinned (OpenSpec.ofChange frameIsSpec)

/-- ITS FALSE NEIGHBOUR: 'it returns false'. Refute it at one input. -/
def frameIsWrong : ChangeSpec := { name := "frameIs", fn := fun _ => fun
  | [d1, d2, d3] => { results := [.lit (.bool false)], args := [d1, d2, d3] }
  | _ => none }
def FrameIsWrongFalsely : Prop := frameIsRow.holds Try.pinned (OpenSpec.ofChange frameIsWrong)

/-- 'godwitlaw03.FrameBack': WHATEVER THE INPUT: true; the input reads as it did. -/
def frameBackSpec : ChangeSpec := { name := "frameBack", fn := fun _ => fun
  | [d] => { results := [.lit (.bool true)], args := [d] }
  | _ => none }
def frameBackRow : OpenClaim := { program := "ytdjenkcafhdicaa", sum := "6c661d5b4225abef0018cda7a2fdc30c027e607d2b121e6c0f25a2050b33abf9", func := "godwit/godwitlaw03.FrameBack", spec := "frameBack", unfollowed := true, recurses := true, apart := false }
def FrameBackSaid : Prop := frameBackRow.holds Try.pinned (OpenSpec.ofChange frameBackSpec)

/-- ITS FALSE NEIGHBOUR: 'it returns false'. Refute it at one input. -/
def frameBackWrong : ChangeSpec := { name := "frameBack", fn := fun _ => fun
  | [d] => { results := [.lit (.bool false)], args := [d] }
  | _ => none }
def FrameBackWrongFalsely : Prop := frameBackRow.holds Try.pinned (OpenSpec.ofChange frameBackWrong)

/- THE SECOND FORM. 'bulk': how many values and letters a reading holds, each counted each time it is reached (what is shared counts as often as it is met; a slice's spare places count too). A statement '..UptoSaid' is the law's where the arguments, and the package variables that the reading takes, are together of bulk at most 1048576: NARROWER than '..Said'. Prove '..Said' where nothing that the law and all that it calls make is longer than what came in: it says more and counts as full. Else prove '..UptoSaid'. A law counts once. -/
mutual
def uptoBulk {H : Type} : DataW H → Nat
  | .lit (.string bytes) => bytes.length + 1
  | .lit _ => 1
  | .nil => 1
  | .ptr d => uptoBulk d + 1
  | .slice elems spare => uptoBulkAll elems + uptoBulkAll spare + 1
  | .agg parts => uptoBulkAll parts + 1
  | .iface _ d => uptoBulk d + 1
  | .map entries => uptoBulkEntries entries + 1
  | .held _ => 1
def uptoBulkAll {H : Type} : List (DataW H) → Nat
  | [] => 0
  | d :: r => uptoBulk d + uptoBulkAll r
def uptoBulkEntries {H : Type} : List (Lit × DataW H) → Nat
  | [] => 0
  | x :: r => uptoBulkEntry x + uptoBulkEntries r
def uptoBulkEntry {H : Type} : Lit × DataW H → Nat
  | (.string bytes, d) => bytes.length + uptoBulk d + 1
  | (_, d) => uptoBulk d + 1
 end
def uptoSmall : (H : Type) → List (DataW H) → Bool := fun _ ds => decide (uptoBulkAll ds ≤ 1048576)
def OpenSpec.upto (s : _root_.Go.ChangeSpec) : _root_.Go.OpenSpec := { _root_.Go.OpenSpec.ofChange s with cond := some uptoSmall }

/-- 'godwitlaw03.FrameOne', WHERE WHAT IT READS IS OF BULK AT MOST 1048576: true; the input reads as it did. -/
def frameOneUptoRow : OpenClaim := { program := "ytdjenkcafhdicaa", sum := "6c661d5b4225abef0018cda7a2fdc30c027e607d2b121e6c0f25a2050b33abf9", func := "godwit/godwitlaw03.FrameOne", spec := "frameOne", unfollowed := true, recurses := true, apart := false, narrowed := true }
def FrameOneUptoSaid : Prop := frameOneUptoRow.holds Try.pinned (OpenSpec.upto frameOneSpec)

/-- 'godwitlaw03.FrameMore', WHERE WHAT IT READS IS OF BULK AT MOST 1048576: true; the input reads as it did. -/
def frameMoreUptoRow : OpenClaim := { program := "ytdjenkcafhdicaa", sum := "6c661d5b4225abef0018cda7a2fdc30c027e607d2b121e6c0f25a2050b33abf9", func := "godwit/godwitlaw03.FrameMore", spec := "frameMore", unfollowed := true, recurses := true, apart := false, narrowed := true }
def FrameMoreUptoSaid : Prop := frameMoreUptoRow.holds Try.pinned (OpenSpec.upto frameMoreSpec)

/-- 'godwitlaw03.FrameIs', WHERE WHAT IT READS IS OF BULK AT MOST 1048576: true; the input reads as it did. -/
def frameIsUptoRow : OpenClaim := { program := "ytdjenkcafhdicaa", sum := "6c661d5b4225abef0018cda7a2fdc30c027e607d2b121e6c0f25a2050b33abf9", func := "godwit/godwitlaw03.FrameIs", spec := "frameIs", unfollowed := true, recurses := true, apart := false, narrowed := true }
def FrameIsUptoSaid : Prop := frameIsUptoRow.holds Try.pinned (OpenSpec.upto frameIsSpec)

/-- 'godwitlaw03.FrameBack', WHERE WHAT IT READS IS OF BULK AT MOST 1048576: true; the input reads as it did. -/
def frameBackUptoRow : OpenClaim := { program := "ytdjenkcafhdicaa", sum := "6c661d5b4225abef0018cda7a2fdc30c027e607d2b121e6c0f25a2050b33abf9", func := "godwit/godwitlaw03.FrameBack", spec := "frameBack", unfollowed := true, recurses := true, apart := false, narrowed := true }
def FrameBackUptoSaid : Prop := frameBackUptoRow.holds Try.pinned (OpenSpec.upto frameBackSpec)

end Rows
end Go.Proofs.Ytdjenkcafhdicaa
