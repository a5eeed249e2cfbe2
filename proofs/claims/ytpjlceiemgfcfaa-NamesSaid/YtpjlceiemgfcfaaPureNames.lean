/- Names: the program's function that compares the numbers of package api with those of the document answers true, whatever the memory; no condition. -/
import Derived.Test.YtpjlceiemgfcfaaPNamesx1
namespace Go.Proofs.Ytpjlceiemgfcfaa.Pure
open Go.RowKit Go.Proofs.Ytpjlceiemgfcfaa.PNames Go.Proofs.YtpjlceiemgfcfaaW.PrintWords Go.Proofs.YtpjlceiemgfcfaaW.PrintLast

/-- All numbers are constants: the compiled law answers true. -/
theorem Names : curtilagetop_Names.Pure := rfl

end Go.Proofs.Ytpjlceiemgfcfaa.Pure
