/- A common factor is a factor of the greatest common divisor; what is added to one as often as one likes changes nothing: at all arguments of at most 1048576 limbs. -/
import Derived.Test.YtplioajciapojaaWkRootFactors
import Derived.Test.YtplioajciapojaaLFixed2
import Derived.Test.YtplioajciapojaaN14
namespace Go.Proofs.Ytplioajciapojaa.Pure
open Go.RowKit Go.Proofs.Ytplioajciapojaa.Pq Go.Proofs.YtplioajciapojaaW.PrintWords Go.Proofs.YtplioajciapojaaW.PrintLast Go.Proofs.Ytplioajciapojaa.N
set_option maxHeartbeats 2000000 in
theorem RootFactors : penumbralaw02_RootFactors.PureU := by
  intro a b c _ ba wa _ bb wb _ bc wc
  have na := Nm.of wa ba
  have nb := Nm.of wb bb
  have nc := Nm.of wc bc
  generalize V a = x at na
  generalize V b = y at nb
  generalize V c = z at nc
  have nac := na.mulL nc
  have nbc := nb.mulL nc
  have ng := na.gcdL nb
  have nab := na.sumL nbc
  apply Ev.rounds
  refine Ev.bind (na.gcd nb (by omega) (by omega)) ?_
  refine Ev.bind fixed2 ?_
  refine Ev_pos rfl ?_
  refine Ev.bind (na.mul nc (by omega) (by omega)) ?_
  refine Ev.bind (nb.mul nc (by omega) (by omega)) ?_
  refine Ev.bind (nac.gcd nbc (by omega) (by omega)) ?_
  refine Ev.bind (ng.mul nc (by omega) (by omega)) ?_
  refine Ev.bind ((nac.gcdL nbc).same (by omega) (by rw [gz_mul na.pos nb.pos nc.pos])) ?_
  refine Ev_pos rfl ?_
  refine Ev.bind (nb.mul nc (by omega) (by omega)) ?_
  refine Ev.bind (na.add nbc (by omega) (by omega)) ?_
  refine Ev.bind (nab.gcd nb (by omega) (by omega)) ?_
  refine Ev.bind ((nab.gcdL nb).same (by omega) (by rw [gz_add na.pos nb.pos nc.pos])) ?_
  exact Ev.now _
end Go.Proofs.Ytplioajciapojaa.Pure
