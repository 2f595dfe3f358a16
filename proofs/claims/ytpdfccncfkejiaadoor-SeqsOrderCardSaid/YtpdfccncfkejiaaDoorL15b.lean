/- math/bits.Len64, for the print. -/
import Derived.Test.YtpdfccncfkejiaaDoorL15
import Derived.Test.YtpdfccncfkejiaaDoorL15c
namespace Go.Proofs.YtpdfccncfkejiaaDoor.G
open Go.RowKit Go.Proofs.YtpdfccncfkejiaaDoorW.PrintWords
theorem len64_f (a : Int) (h0 : 0 ≤ a) (h1 : a < 18446744073709551616) (w : World) :
    Calls Tryd.prog 24 #[.int .u64 a] w fun e w' => e = .returned (.int .i64 (Lib.bitLen a.toNat)) ∧ Drawn0 w w' :=
  (len64_calls a w h0 (by omega)).mono fun e w' ⟨h1, h2⟩ => ⟨h1, h2 ▸ Drawn0.refl _⟩
end Go.Proofs.YtpdfccncfkejiaaDoor.G
