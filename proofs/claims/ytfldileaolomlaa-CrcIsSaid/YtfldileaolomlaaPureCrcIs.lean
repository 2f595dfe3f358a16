/- Any bytes' sum, any sum gone on with, or joined, and the table, are what the document says. -/
import Derived.Test.YtfldileaolomlaaQx16
import Derived.Test.YtfldileaolomlaaP02b
namespace Go.Proofs.Ytfldileaolomlaa.Pure
open Go.RowKit Go.Proofs.Ytfldileaolomlaa.Q Go.Proofs.YtfldileaolomlaaW.PrintWords Go.Proofs.YtfldileaolomlaaW.PrintLast Go.Proofs.Ytfldileaolomlaa.G
theorem CrcIs : godwitlaw02_CrcIs.Pure := by
  intro l s a n hl hs ha hn
  have h1 := wf_u32 hs
  unfold godwitlaw02_CrcIs.f
  rw [if_pos h1]
end Go.Proofs.Ytfldileaolomlaa.Pure
