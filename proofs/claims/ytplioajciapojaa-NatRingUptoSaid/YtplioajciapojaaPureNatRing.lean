/- Sums and products of naturals are those of a ring without negatives: at all arguments of at most 1048576 limbs. -/
import Derived.Test.YtplioajciapojaaWkNatRing
import Derived.Test.YtplioajciapojaaLFixed1
import Derived.Test.YtplioajciapojaaN4
namespace Go.Proofs.Ytplioajciapojaa.Pure
open Go.RowKit Go.Proofs.Ytplioajciapojaa.Pq Go.Proofs.YtplioajciapojaaW.PrintWords Go.Proofs.YtplioajciapojaaW.PrintLast Go.Proofs.Ytplioajciapojaa.N
set_option maxHeartbeats 2000000 in
theorem NatRing : penumbralaw01_NatRing.PureU := by
  intro a b c _ ba wa _ bb wb _ bc wc
  have na := Nm.of wa ba
  have nb := Nm.of wb bb
  have nc := Nm.of wc bc
  generalize V a = x at na
  generalize V b = y at nb
  generalize V c = z at nc
  have nab := na.sumL nb
  have nbc := nb.sumL nc
  have mab := na.mulL nb
  have mbc := nb.mulL nc
  have mac := na.mulL nc
  apply Ev.rounds
  refine Ev.bind (na.add nb (by omega) (by omega)) ?_
  refine Ev.bind (nb.add na (by omega) (by omega)) ?_
  refine Ev.bind (nab.same (by omega) (by rw [Int.add_comm])) ?_
  refine Ev_pos rfl ?_
  refine Ev.bind (nab.add nc (by omega) (by omega)) ?_
  refine Ev.bind (nb.add nc (by omega) (by omega)) ?_
  refine Ev.bind (na.add nbc (by omega) (by omega)) ?_
  refine Ev.bind ((nab.sumL nc).same (by omega) (by rw [Int.add_assoc])) ?_
  refine Ev_pos rfl ?_
  refine Ev.bind (na.add Nm.nil (by omega) (by omega)) ?_
  refine Ev_some (na.nrm (by omega)) ?_
  refine Ev.bind ((na.sumL Nm.nil).same (by omega) (by rw [Int.add_zero])) ?_
  refine Ev.bind (na.mul nb (by omega) (by omega)) ?_
  refine Ev.bind (nb.mul na (by omega) (by omega)) ?_
  refine Ev.bind (mab.same (by omega) (by rw [Int.mul_comm])) ?_
  refine Ev_pos rfl ?_
  refine Ev.bind (na.mul nb (by omega) (by omega)) ?_
  refine Ev.bind (mab.mul nc (by omega) (by omega)) ?_
  refine Ev.bind (nb.mul nc (by omega) (by omega)) ?_
  refine Ev.bind (na.mul mbc (by omega) (by omega)) ?_
  refine Ev.bind ((mab.mulL nc).same (by omega) (by rw [Int.mul_assoc])) ?_
  refine Ev_pos rfl ?_
  refine Ev.bind (na.mul Nm.one (by omega) (by omega)) ?_
  refine Ev_some (na.nrm (by omega)) ?_
  refine Ev.bind ((na.mulL Nm.one).same (by omega) (by rw [Int.mul_one])) ?_
  refine Ev_pos rfl ?_
  refine Ev.bind (na.mul Nm.nil (by omega) (by omega)) ?_
  refine Ev.bind fixed1 ?_
  refine Ev_pos rfl ?_
  refine Ev_pos rfl ?_
  refine Ev_pos (by rw [Int.mul_zero, L_zero]; rfl) ?_
  refine Ev.bind (nab.mul nc (by omega) (by omega)) ?_
  refine Ev.bind (na.mul nc (by omega) (by omega)) ?_
  refine Ev.bind (nb.mul nc (by omega) (by omega)) ?_
  refine Ev.bind (mac.add mbc (by omega) (by omega)) ?_
  refine Ev.bind ((nab.mulL nc).same (by omega) (by rw [Int.add_mul])) ?_
  exact Ev.now _
end Go.Proofs.Ytplioajciapojaa.Pure
