-- the printed words, with only what this claim's texts use (shake.py)
import Derived.Test.YtpafbpfcoacidaaYUWTab
namespace Go.Proofs.YtpafbpfcoacidaaW.PrintLast
end Go.Proofs.YtpafbpfcoacidaaW.PrintLast
