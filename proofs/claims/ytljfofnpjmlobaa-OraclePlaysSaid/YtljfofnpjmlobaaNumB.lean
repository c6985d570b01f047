/- The document's numbers: bits, quotients. -/
import Derived.Test.YtljfofnpjmlobaaNumM
namespace Go.Proofs.Ytljfofnpjmlobaa
open Go.RowKit
end Go.Proofs.Ytljfofnpjmlobaa
