/- The calls of the second layer whose answers the document fixes. -/
import Derived.Test.YtplioajciapojaaFpenumbralaw02fixed
import Derived.Test.YtplioajciapojaaN1
namespace Go.Proofs.Ytplioajciapojaa.N
open Go.RowKit Go.Proofs.YtplioajciapojaaW.PrintWords Go.Proofs.YtplioajciapojaaW.PrintLast Go.Proofs.Ytplioajciapojaa.Pq
set_option maxRecDepth 100000 in
theorem fixed2_at : penumbralaw02_fixed.f 80 = some true := by decide +kernel
theorem fixed2 : Ev (fun k => penumbralaw02_fixed.f k) true := Ev.of (fun k => penumbralaw02_fixed.mono k) fixed2_at
end Go.Proofs.Ytplioajciapojaa.N
