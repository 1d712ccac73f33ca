import Derived.Test.YtplioajciapojaaWInv
import Derived.Test.YtplioajciapojaaWFootNe
namespace Go.Proofs.YtplioajciapojaaW.PrintWords
open Go.RowKit
end Go.Proofs.YtplioajciapojaaW.PrintWords
namespace Go.Proofs.YtplioajciapojaaW.PrintLast
end Go.Proofs.YtplioajciapojaaW.PrintLast
