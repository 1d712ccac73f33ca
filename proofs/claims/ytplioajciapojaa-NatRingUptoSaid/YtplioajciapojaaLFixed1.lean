/- The calls whose answers the document fixes. -/
import Derived.Test.YtplioajciapojaaFpenumbralaw01fixed
import Derived.Test.YtplioajciapojaaN1
namespace Go.Proofs.Ytplioajciapojaa.N
open Go.RowKit Go.Proofs.YtplioajciapojaaW.PrintWords Go.Proofs.YtplioajciapojaaW.PrintLast Go.Proofs.Ytplioajciapojaa.Pq
set_option maxRecDepth 100000 in
theorem fixed1_at : penumbralaw01_fixed.f 60 = some true := by decide +kernel
theorem fixed1 : Ev (fun k => penumbralaw01_fixed.f k) true := Ev.of (fun k => penumbralaw01_fixed.mono k) fixed1_at
end Go.Proofs.Ytplioajciapojaa.N
