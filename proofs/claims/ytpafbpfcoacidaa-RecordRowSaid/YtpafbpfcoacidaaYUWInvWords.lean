-- the printed words, with only what this claim's texts use (shake.py)
import Derived.Test.YtpafbpfcoacidaaYUWInv
import Derived.Test.YtpafbpfcoacidaaYUWFootNe
namespace Go.Proofs.YtpafbpfcoacidaaW.PrintWords
open Go.RowKit
end Go.Proofs.YtpafbpfcoacidaaW.PrintWords
namespace Go.Proofs.YtpafbpfcoacidaaW.PrintLast
end Go.Proofs.YtpafbpfcoacidaaW.PrintLast
