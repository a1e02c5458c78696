-- the printed words, with only what this claim's texts use (shake.py)
import Derived.SizedLaws
import Derived.ChangeSlices
namespace Go.Proofs.YtpafbpfcoacidaaW.PrintWords
open Go.ChangeShapes Go.WideShapes
end Go.Proofs.YtpafbpfcoacidaaW.PrintWords
