/-
  DERIVED. GIVEN WITH THE SEED: THE CARDS: each row of YtpdfccncfkejiaaDoorRows.lean that lists a variable, with what it lists TIED to the program's text (the seventh form; the later family's looks); each row that meets fmt, with fmt's text TOLD by the authors' own Lean function (tested against real Go, not proved from fmt's source: count such statements apart). THE CARD IS WHAT COUNTS. Prove the row's statement (the work); the ties are given (YtpdfccncfkejiaaDoorTie.lean); close each card by the builder's one call (the guide's Derived/Test/ToyasCard.lean, 'card_holds'). Laid BY PROGRAM, IN A SANDBOX (cutbox-door.mjs). By AI agents, Wed Nov 11 2026. No macro, syntax, notation, axiom, sorry.
-/
import Derived.Test.YtpdfccncfkejiaaDoorRows
import GoSem.ClaimSeven
namespace Go.Proofs.YtpdfccncfkejiaaDoor
namespace Rows

/-- THE TIED CARD OF 'godwitlaw15.SeqsOnce'. -/
def seqsOnceCard : Claim7 := { stood := { row := seqsOnceRow, standIns := [], harness := (true, "710c174249f84928c8a3cdc745c88a1b581efdf19202fff6fdaadd4b85edb0e6"), looks := false }, kinds := [], alts := [], laidByText := true, laidKinds := [.data], laidTests := true, laidLooks := .later }
def SeqsOnceCardSaid : Prop := Claim7.holds Tryd.pinned (.plain (OpenSpec.ofChange seqsOnceSpec)) seqsOnceCard

/-- THE TIED CARD OF 'godwitlaw15.SeqsOrder'. -/
def seqsOrderCard : Claim7 := { stood := { row := seqsOrderRow, standIns := [], harness := (true, "710c174249f84928c8a3cdc745c88a1b581efdf19202fff6fdaadd4b85edb0e6"), looks := false }, kinds := [], alts := [], laidByText := true, laidKinds := [.data], laidTests := true, laidLooks := .later }
def SeqsOrderCardSaid : Prop := Claim7.holds Tryd.pinned (.plain (OpenSpec.ofChange seqsOrderSpec)) seqsOrderCard

/-- THE TIED CARD OF 'godwitlaw15.SeqsMissing'. -/
def seqsMissingCard : Claim7 := { stood := { row := seqsMissingRow, standIns := [], harness := (true, "710c174249f84928c8a3cdc745c88a1b581efdf19202fff6fdaadd4b85edb0e6"), looks := false }, kinds := [], alts := [], laidByText := true, laidKinds := [.data], laidTests := true, laidLooks := .later }
def SeqsMissingCardSaid : Prop := Claim7.holds Tryd.pinned (.plain (OpenSpec.ofChange seqsMissingSpec)) seqsMissingCard

/-- THE TIED CARD OF 'godwitlaw15.SeqsIs'. -/
def seqsIsCard : Claim7 := { stood := { row := seqsIsRow, standIns := [], harness := (true, "710c174249f84928c8a3cdc745c88a1b581efdf19202fff6fdaadd4b85edb0e6"), looks := false }, kinds := [], alts := [], laidByText := true, laidKinds := [.data], laidTests := true, laidLooks := .later }
def SeqsIsCardSaid : Prop := Claim7.holds Tryd.pinned (.plain (OpenSpec.ofChange seqsIsSpec)) seqsIsCard

/-- THE TIED CARD OF 'godwitlaw15.SeqsEnds'. -/
def seqsEndsCard : Claim7 := { stood := { row := seqsEndsRow, standIns := [], harness := (true, "710c174249f84928c8a3cdc745c88a1b581efdf19202fff6fdaadd4b85edb0e6"), looks := false }, kinds := [], alts := [], laidByText := true, laidKinds := [.data], laidTests := true, laidLooks := .later }
def SeqsEndsCardSaid : Prop := Claim7.holds Tryd.pinned (.plain (OpenSpec.ofChange seqsEndsSpec)) seqsEndsCard

/-- THE SECOND FORM's CARD OF 'godwitlaw15.SeqsOnce'. -/
def seqsOnceUptoCard : Claim7 := { stood := { row := seqsOnceUptoRow, standIns := [], harness := (true, "710c174249f84928c8a3cdc745c88a1b581efdf19202fff6fdaadd4b85edb0e6"), looks := false }, kinds := [], alts := [], laidByText := true, laidKinds := [.data], laidTests := true, laidLooks := .later }
def SeqsOnceUptoCardSaid : Prop := Claim7.holds Tryd.pinned (.plain (OpenSpec.upto seqsOnceSpec)) seqsOnceUptoCard

/-- THE SECOND FORM's CARD OF 'godwitlaw15.SeqsOrder'. -/
def seqsOrderUptoCard : Claim7 := { stood := { row := seqsOrderUptoRow, standIns := [], harness := (true, "710c174249f84928c8a3cdc745c88a1b581efdf19202fff6fdaadd4b85edb0e6"), looks := false }, kinds := [], alts := [], laidByText := true, laidKinds := [.data], laidTests := true, laidLooks := .later }
def SeqsOrderUptoCardSaid : Prop := Claim7.holds Tryd.pinned (.plain (OpenSpec.upto seqsOrderSpec)) seqsOrderUptoCard

/-- THE SECOND FORM's CARD OF 'godwitlaw15.SeqsMissing'. -/
def seqsMissingUptoCard : Claim7 := { stood := { row := seqsMissingUptoRow, standIns := [], harness := (true, "710c174249f84928c8a3cdc745c88a1b581efdf19202fff6fdaadd4b85edb0e6"), looks := false }, kinds := [], alts := [], laidByText := true, laidKinds := [.data], laidTests := true, laidLooks := .later }
def SeqsMissingUptoCardSaid : Prop := Claim7.holds Tryd.pinned (.plain (OpenSpec.upto seqsMissingSpec)) seqsMissingUptoCard

/-- THE SECOND FORM's CARD OF 'godwitlaw15.SeqsIs'. -/
def seqsIsUptoCard : Claim7 := { stood := { row := seqsIsUptoRow, standIns := [], harness := (true, "710c174249f84928c8a3cdc745c88a1b581efdf19202fff6fdaadd4b85edb0e6"), looks := false }, kinds := [], alts := [], laidByText := true, laidKinds := [.data], laidTests := true, laidLooks := .later }
def SeqsIsUptoCardSaid : Prop := Claim7.holds Tryd.pinned (.plain (OpenSpec.upto seqsIsSpec)) seqsIsUptoCard

/-- THE SECOND FORM's CARD OF 'godwitlaw15.SeqsEnds'. -/
def seqsEndsUptoCard : Claim7 := { stood := { row := seqsEndsUptoRow, standIns := [], harness := (true, "710c174249f84928c8a3cdc745c88a1b581efdf19202fff6fdaadd4b85edb0e6"), looks := false }, kinds := [], alts := [], laidByText := true, laidKinds := [.data], laidTests := true, laidLooks := .later }
def SeqsEndsUptoCardSaid : Prop := Claim7.holds Tryd.pinned (.plain (OpenSpec.upto seqsEndsSpec)) seqsEndsUptoCard
end Rows
end Go.Proofs.YtpdfccncfkejiaaDoor
