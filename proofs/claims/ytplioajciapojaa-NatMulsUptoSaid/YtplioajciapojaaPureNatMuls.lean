/- The product, the shift up, the number of bits of naturals are as the reference says: at all arguments of at most 1048576 limbs. -/
import Derived.Test.YtplioajciapojaaWkNatMuls
import Derived.Test.YtplioajciapojaaLFixed1
import Derived.Test.YtplioajciapojaaN6
namespace Go.Proofs.Ytplioajciapojaa.Pure
open Go.RowKit Go.Proofs.Ytplioajciapojaa.Pq Go.Proofs.YtplioajciapojaaW.PrintWords Go.Proofs.YtplioajciapojaaW.PrintLast Go.Proofs.Ytplioajciapojaa.N
set_option maxHeartbeats 2000000 in
theorem NatMuls : penumbralaw01_NatMuls.PureU := by
  intro a b s _ ba wa _ bb wb ws
  have na := Nm.of wa ba
  have nb := Nm.of wb bb
  generalize V a = x at na
  generalize V b = y at nb
  have hlen := na.shS_len s
  apply Ev.rounds
  refine Ev.bind (na.shl (by omega) s) ?_
  refine Ev.bind (na.rshl (by omega) s) ?_
  refine Ev.bind fixed1 ?_
  refine Ev_pos rfl ?_
  refine Ev.bind (na.mul nb (by omega) (by omega)) ?_
  refine Ev.bind (na.rmul nb (by omega)) ?_
  refine Ev.bind ((na.mulL nb).same (by omega) rfl) ?_
  refine Ev_pos rfl ?_
  refine Ev_pos (by simp) ?_
  refine Ev.bind (same_f (by omega)) ?_
  refine Ev_pos rfl ?_
  refine Ev_some (na.bits (by omega)) ?_
  refine Ev.bind (na.rbits (by omega)) ?_
  refine Ev_now ?_
  simp
end Go.Proofs.Ytplioajciapojaa.Pure
