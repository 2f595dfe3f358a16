/- The table's numbers are each once, and of two that are exclusive or one another. -/
import Derived.Test.YtfldileaolomlaaQx10
import Derived.Test.YtfldileaolomlaaP02b
namespace Go.Proofs.Ytfldileaolomlaa.Pure
open Go.RowKit Go.Proofs.Ytfldileaolomlaa.Q Go.Proofs.YtfldileaolomlaaW.PrintWords Go.Proofs.YtfldileaolomlaaW.PrintLast Go.Proofs.Ytfldileaolomlaa.G
theorem CrcEach : godwitlaw02_CrcEach.Pure := by
  intro a b ha hb
  have h1 := wf_u8 ha
  have h2 := wf_u8 hb
  unfold godwitlaw02_CrcEach.f
  rw [if_pos ⟨h1.1, h1.2, h2.1, h2.2⟩]
end Go.Proofs.Ytfldileaolomlaa.Pure
