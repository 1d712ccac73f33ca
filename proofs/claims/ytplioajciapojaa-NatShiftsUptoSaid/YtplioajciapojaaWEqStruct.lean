import Derived.Test.YtplioajciapojaaWWords
import Derived.Laws.StructEq
namespace Go.Proofs.YtplioajciapojaaW.PrintWords
open Go.RowKit
end Go.Proofs.YtplioajciapojaaW.PrintWords
