/- The greatest common divisor of any two naturals is as the reference says: at all arguments of at most 1048576 limbs. -/
import Derived.Test.YtplioajciapojaaWkRootGcds
import Derived.Test.YtplioajciapojaaLFixed2
import Derived.Test.YtplioajciapojaaN14
namespace Go.Proofs.Ytplioajciapojaa.Pure
open Go.RowKit Go.Proofs.Ytplioajciapojaa.Pq Go.Proofs.YtplioajciapojaaW.PrintWords Go.Proofs.YtplioajciapojaaW.PrintLast Go.Proofs.Ytplioajciapojaa.N
set_option maxHeartbeats 2000000 in
theorem RootGcds : penumbralaw02_RootGcds.PureU := by
  intro a b _ ba wa _ bb wb
  have na := Nm.of wa ba
  have nb := Nm.of wb bb
  apply Ev.rounds
  refine Ev.bind fixed2 ?_
  refine Ev_pos rfl ?_
  refine Ev.bind (na.gcd nb (by omega) (by omega)) ?_
  refine Ev.bind (na.rgcd nb (by omega) (by omega)) ?_
  refine Ev.bind ((na.gcdL nb).same (by omega) rfl) ?_
  exact Ev.now _
end Go.Proofs.Ytplioajciapojaa.Pure
