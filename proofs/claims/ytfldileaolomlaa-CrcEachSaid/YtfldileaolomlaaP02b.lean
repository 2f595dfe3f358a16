/- Sums of bytes: what is awake; shifts in plain words. -/
import Derived.Test.YtfldileaolomlaaQx2
import Derived.Test.YtfldileaolomlaaQx5
import Derived.Test.YtfldileaolomlaaBt
namespace Go.Proofs.Ytfldileaolomlaa.Pure
open Go.RowKit Go.Proofs.Ytfldileaolomlaa.Q Go.Proofs.YtfldileaolomlaaW.PrintWords Go.Proofs.YtfldileaolomlaaW.PrintLast Go.Proofs.Ytfldileaolomlaa.G
theorem wf_u32 {a : Int} (h : (Lit.int .u32 a).wf = true) : 0 ≤ a ∧ a < 4294967296 := by
  simp [Lit.wf, IntKind.min, IntKind.max, IntKind.signed, IntKind.bits] at h
  omega
theorem wf_u8 {a : Int} (h : (Lit.int .u8 a).wf = true) : 0 ≤ a ∧ a < 256 := by
  simp [Lit.wf, IntKind.min, IntKind.max, IntKind.signed, IntKind.bits] at h
  omega
theorem wf_i64 {a : Int} (h : (Lit.int .i64 a).wf = true) : -9223372036854775808 ≤ a ∧ a ≤ 9223372036854775807 := by
  simp [Lit.wf, IntKind.min, IntKind.max, IntKind.signed, IntKind.bits] at h
  omega
theorem O_zero : O 0 = 0#32 := by unfold O; simp
theorem I_zero : I 0#32 = 0 := by unfold I; simp
theorem awake_more : moreI 0 [49, 50, 51, 52, 53, 54, 55, 56, 57] = 3421780262 := by kernel_rfl
theorem awake_nil : moreI 0 [] = 0 := by kernel_rfl
theorem awake_true : godwitlaw02_awake.f = some true := by
  unfold godwitlaw02_awake.f crc_Of.f
  simp only [Option.bind_some, awake_more, awake_nil]
  rfl
theorem shift_f {a n : Int} (h0 : 0 ≤ a) (h1 : a < 4294967296) : crc_Shift.f a n = some (shiftI a n) := by
  unfold crc_Shift.f
  rw [if_pos ⟨h0, h1⟩]
theorem shift_f0 (n : Int) : crc_Shift.f 0 n = some (shiftI 0 n) := shift_f (by omega) (by omega)
theorem shiftI_range (a n : Int) : 0 ≤ shiftI a n ∧ shiftI a n < 4294967296 := I_range _
theorem O_shiftI (a n : Int) : O (shiftI a n) = iterB (min n 65536).toNat (O a) := O_I _
end Go.Proofs.Ytfldileaolomlaa.Pure
