import Derived.Test.YtpbbekbdpodedaaDoorPR3
import Derived.KernelRfl
namespace Go.Proofs.YtpbbekbdpodedaaDoor
open Go.RowKit Go.Proofs.YtpbbekbdpodedaaDoor.PR Go.Proofs.YtpbbekbdpodedaaDoorW.PrintWords Go.Proofs.YtpbbekbdpodedaaDoorW.PrintLast
theorem known_20 : schismalaw05_known.f 20 = some true := by decide +kernel
theorem known_any {k : Nat} (h : 20 ≤ k) : schismalaw05_known.f k = some true := at_rounds (schismalaw05_known.mono) h known_20
end Go.Proofs.YtpbbekbdpodedaaDoor
