import Derived.Test.YtplioajciapojaaWTab
namespace Go.Proofs.YtplioajciapojaaW.PrintLast
end Go.Proofs.YtplioajciapojaaW.PrintLast
