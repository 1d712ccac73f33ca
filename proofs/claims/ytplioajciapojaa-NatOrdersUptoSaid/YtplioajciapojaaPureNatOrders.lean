/- The order of naturals is a total order that sums and products keep: at all arguments of at most 1048576 limbs. -/
import Derived.Test.YtplioajciapojaaWkNatOrders
import Derived.Test.YtplioajciapojaaLFixed1
import Derived.Test.YtplioajciapojaaN3
import Derived.Test.YtplioajciapojaaN4
namespace Go.Proofs.Ytplioajciapojaa.Pure
open Go.RowKit Go.Proofs.Ytplioajciapojaa.Pq Go.Proofs.YtplioajciapojaaW.PrintWords Go.Proofs.YtplioajciapojaaW.PrintLast Go.Proofs.Ytplioajciapojaa.N
set_option maxHeartbeats 2000000 in
theorem NatOrders : penumbralaw01_NatOrders.PureU := by
  intro a b c _ ba wa _ bb wb _ bc wc
  have na := Nm.of wa ba
  have nb := Nm.of wb bb
  have nc := Nm.of wc bc
  have xa := nbits_f (wf_of wa) (show a.length < 35184372087809 by omega)
  have xb := nbits_f (wf_of wb) (show b.length < 35184372087809 by omega)
  generalize V a = x at na xa
  generalize V b = y at nb xb
  generalize V c = z at nc
  have nac := na.sumL nc
  have nbc := nb.sumL nc
  have nc1 := nc.sumL Nm.one
  have z0 := nc.pos
  have hj1 : Ev (fun k => penumbralaw01_NatOrders.j1 k a b c (cm x y) false) true := by
    refine Ev_up ?_
    unfold penumbralaw01_NatOrders.j1
    refine Ev_neg (by decide) ?_
    refine Ev.bind (nc.add Nm.one (by omega) (by omega)) ?_
    refine Ev.bind (na.add nc (by omega) (by omega)) ?_
    refine Ev.bind (nb.add nc (by omega) (by omega)) ?_
    refine Ev.bind (nac.cmp nbc (by omega) (by omega)) ?_
    refine Ev_pos (cm_add x y z) ?_
    refine Ev.bind (na.mul nc1 (by omega) (by omega)) ?_
    refine Ev.bind (nb.mul nc1 (by omega) (by omega)) ?_
    refine Ev.bind ((na.mulL nc1).cmp (nb.mulL nc1) (by omega) (by omega)) ?_
    rw [cm_mul x y (show 0 < z + 1 by omega)]
    refine Ev_now ?_
    simp
  have hj0 : Ev (fun k => penumbralaw01_NatOrders.j0 k a b c (cm x y) false) true := by
    refine Ev_up ?_
    unfold penumbralaw01_NatOrders.j0
    refine Ev_neg (by decide) ?_
    refine Ev_some xa ?_
    refine Ev_some xb ?_
    by_cases hb : bl x > bl y
    · refine Ev_pos hb ?_
      have hxy : y < x := by
        rcases Int.lt_or_le y x with h | h
        · exact h
        · have := bl_le h
          omega
      rw [show decide (cm x y ≤ 0) = false by rw [cm_gt hxy]; rfl]
      exact hj1
    · refine Ev_neg hb ?_
      exact hj1
  apply Ev.rounds
  refine Ev.bind (na.cmp nb (by omega) (by omega)) ?_
  refine Ev.bind (nb.cmp nc (by omega) (by omega)) ?_
  refine Ev.bind (na.cmp nc (by omega) (by omega)) ?_
  refine Ev.bind fixed1 ?_
  refine Ev_pos rfl ?_
  refine Ev.bind (nb.cmp na (by omega) (by omega)) ?_
  rcases Int.lt_trichotomy x y with h | h | h
  · rw [cm_lt h] at hj0 ⊢
    rw [cm_gt h]
    refine Ev_pos (by decide +kernel) ?_
    refine Ev_neg (by decide) ?_
    refine Ev_neg (by decide) ?_
    refine Ev_pos (by decide) ?_
    rcases Int.lt_trichotomy y z with g | g | g
    · rw [cm_lt g, cm_lt (Int.lt_trans h g)]
      refine Ev_pos (by decide) ?_
      refine Ev_neg (by decide) ?_
      refine Ev_pos (by decide) ?_
      exact hj0
    · subst g
      rw [cm_eq, cm_lt h]
      refine Ev_pos (by decide) ?_
      refine Ev_neg (by decide) ?_
      refine Ev_pos (by decide) ?_
      exact hj0
    · rw [cm_gt g]
      refine Ev_neg (by decide) ?_
      refine Ev_pos (by decide) ?_
      exact hj0
  · subst h
    rw [cm_eq] at hj0 ⊢
    refine Ev_pos (by decide +kernel) ?_
    refine Ev_neg (by decide) ?_
    refine Ev_neg (by decide) ?_
    refine Ev_pos (by decide) ?_
    rcases Int.lt_trichotomy x z with g | g | g
    · rw [cm_lt g]
      refine Ev_pos (by decide) ?_
      refine Ev_neg (by decide) ?_
      refine Ev_neg (by decide) ?_
      exact hj0
    · subst g
      rw [cm_eq]
      refine Ev_pos (by decide) ?_
      refine Ev_neg (by decide) ?_
      refine Ev_neg (by decide) ?_
      exact hj0
    · rw [cm_gt g]
      refine Ev_neg (by decide) ?_
      refine Ev_neg (by decide) ?_
      exact hj0
  · rw [cm_gt h] at hj0 ⊢
    rw [cm_lt h]
    refine Ev_pos (by decide +kernel) ?_
    refine Ev_neg (by decide) ?_
    refine Ev_neg (by decide) ?_
    refine Ev_neg (by decide) ?_
    refine Ev_neg (by decide) ?_
    exact hj0
end Go.Proofs.Ytplioajciapojaa.Pure
