-- the printed words, with only what this claim's texts use (shake.py)
import Derived.Test.YtpafbpfcoacidaaYUWApart
import Derived.Test.YtpafbpfcoacidaaYUWArr
namespace Go.Proofs.YtpafbpfcoacidaaW.PrintWords
open Go.RowKit
namespace Kd
end Kd
end Go.Proofs.YtpafbpfcoacidaaW.PrintWords
