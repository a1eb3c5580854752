/- What the law's first line shows: two entries of a known text. -/
import Derived.Test.YtkjhklnjmpicgaaQLx6
import Derived.Test.YtkjhklnjmpicgaaPB
namespace Go.Proofs.Ytkjhklnjmpicgaa.PB
open Go.RowKit Go.Proofs.Ytkjhklnjmpicgaa.H Go.Proofs.Ytkjhklnjmpicgaa.QL Go.Proofs.YtkjhklnjmpicgaaW.PrintWords Go.Proofs.YtkjhklnjmpicgaaW.PrintLast
theorem shown_true : waymasterlaw18_shown.f = some true := by decide +kernel
end Go.Proofs.Ytkjhklnjmpicgaa.PB
