/- What is added is taken away again; the quotient times the divisor, and the rest, are what was divided: at all arguments of at most 1048576 limbs. -/
import Derived.Test.YtplioajciapojaaWkNatBack
import Derived.Test.YtplioajciapojaaLFixed1
import Derived.Test.YtplioajciapojaaN13
namespace Go.Proofs.Ytplioajciapojaa.Pure
open Go.RowKit Go.Proofs.Ytplioajciapojaa.Pq Go.Proofs.YtplioajciapojaaW.PrintWords Go.Proofs.YtplioajciapojaaW.PrintLast Go.Proofs.Ytplioajciapojaa.N
set_option maxHeartbeats 2000000 in
theorem NatBack : penumbralaw01_NatBack.PureU := by
  intro a b _ ba wa _ bb wb
  have na := Nm.of wa ba
  have nb := Nm.of wb bb
  generalize V a = x at na
  generalize V b = y at nb
  have hx := na.pos
  have hy := nb.pos
  have hj : Ev (fun k => penumbralaw01_NatBack.j0 k a b false) true := by
    refine Ev_up ?_
    unfold penumbralaw01_NatBack.j0
    refine Ev_neg (by decide) ?_
    refine Ev.bind (na.dm nb (by omega) (by omega)) ?_
    unfold dmS
    by_cases h0 : y = 0
    · rw [if_pos h0]
      refine Ev_neg (by decide) ?_
      refine Ev_some (nb.nrm (by omega)) ?_
      rw [h0, L_zero]
      exact Ev.now _
    · rw [if_neg h0]
      have hp : 0 < y := by omega
      have m0 := Int.emod_nonneg x h0
      have m1 := Int.emod_lt_of_pos x hp
      have nr : Nm (L (x % y)) 1048576 (x % y) := Nm.L m0 (Int.lt_trans m1 nb.lt)
      have nq : Nm (L (x / y)) 1048576 (x / y) := Nm.L (Int.ediv_nonneg hx hy) (Int.lt_of_le_of_lt (Int.ediv_le_self _ hx) na.lt)
      have hl : ((L y).length : Int) > 0 := by
        have : (L y).length ≠ 0 := fun e => h0 ((L_nil_iff hy).1 (List.eq_nil_of_length_eq_zero e))
        omega
      refine Ev_pos rfl ?_
      refine Ev_some (nb.nrm (by omega)) ?_
      refine Ev_pos hl ?_
      refine Ev.bind (nr.cmp nb (by omega) (by omega)) ?_
      rw [cm_lt m1]
      refine Ev_pos (by decide) ?_
      refine Ev.bind (nq.mul nb (by omega) (by omega)) ?_
      refine Ev.bind ((nq.mulL nb).add nr (by omega) (by omega)) ?_
      refine Ev_some (na.nrm (by omega)) ?_
      have e : x / y * y + x % y = x := by
        rw [Int.mul_comm]
        exact Int.mul_ediv_add_emod x y
      rw [e]
      refine Ev.bind (na.norm.same (by omega) rfl) ?_
      exact Ev.now _
  apply Ev.rounds
  refine Ev.bind (na.add nb (by omega) (by omega)) ?_
  refine Ev.bind ((na.sumL nb).sub nb (by omega) (by omega)) ?_
  rw [show subS (x + y) y = (L x, true) by unfold subS; rw [if_neg (by omega), Int.add_sub_cancel]]
  refine Ev.bind fixed1 ?_
  refine Ev_pos rfl ?_
  refine Ev_pos rfl ?_
  refine Ev_some (na.nrm (by omega)) ?_
  refine Ev.bind (na.norm.same (by omega) rfl) ?_
  exact hj
end Go.Proofs.Ytplioajciapojaa.Pure
