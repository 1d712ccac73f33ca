import Derived.Test.YtplioajciapojaaWN
namespace Go.Proofs.YtplioajciapojaaW.PrintWords
open Go.RowKit
namespace Kd
end Kd
end Go.Proofs.YtplioajciapojaaW.PrintWords
