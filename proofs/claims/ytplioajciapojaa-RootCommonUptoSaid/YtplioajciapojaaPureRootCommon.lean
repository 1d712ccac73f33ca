/- The greatest common divisor divides both, and what divides both divides it; divided by it both have no common divisor but 1: at all arguments of at most 1048576 limbs. -/
import Derived.Test.YtplioajciapojaaWkRootCommon
import Derived.Test.YtplioajciapojaaLFixed2
import Derived.Test.YtplioajciapojaaN14
namespace Go.Proofs.Ytplioajciapojaa.Pure
open Go.RowKit Go.Proofs.Ytplioajciapojaa.Pq Go.Proofs.YtplioajciapojaaW.PrintWords Go.Proofs.YtplioajciapojaaW.PrintLast Go.Proofs.Ytplioajciapojaa.N
set_option maxHeartbeats 2000000 in
theorem RootCommon : penumbralaw02_RootCommon.PureU := by
  intro a b c _ ba wa _ bb wb _ bc wc
  have na := Nm.of wa ba
  have nb := Nm.of wb bb
  have nc := Nm.of wc bc
  generalize V a = x at na
  generalize V b = y at nb
  generalize V c = z at nc
  have ng := na.gcdL nb
  have hx := na.pos
  have hy := nb.pos
  have hg := gz_nonneg x y
  have hlg := L_len0 hg
  have hlx := L_len0 hx
  have hly := L_len0 hy
  have hj1 : Ev (fun k => penumbralaw02_RootCommon.j1 k a b (L (gz x y)) false) true := by
    refine Ev_up ?_
    unfold penumbralaw02_RootCommon.j1
    refine Ev_neg (by decide) ?_
    by_cases h0 : gz x y = 0
    · refine Ev_pos (hlg.2 h0) ?_
      have d1 := gz_dvd_left x y
      have d2 := gz_dvd_right x y
      rw [h0, Int.zero_dvd] at d1 d2
      refine Ev_some (na.nrm (by omega)) ?_
      refine Ev_pos (hlx.2 d1) ?_
      refine Ev_some (nb.nrm (by omega)) ?_
      refine Ev_now ?_
      rw [hly.2 d2]
      rfl
    · refine Ev_neg (fun e => h0 (hlg.1 e)) ?_
      have hp : 0 < gz x y := by omega
      have nx : Nm (L (x / gz x y)) 1048576 (x / gz x y) := Nm.L (Int.ediv_nonneg hx hg) (Int.lt_of_le_of_lt (Int.ediv_le_self _ hx) na.lt)
      have ny : Nm (L (y / gz x y)) 1048576 (y / gz x y) := Nm.L (Int.ediv_nonneg hy hg) (Int.lt_of_le_of_lt (Int.ediv_le_self _ hy) nb.lt)
      refine Ev.bind (na.dm ng (by omega) (by omega)) ?_
      refine Ev.bind (nb.dm ng (by omega) (by omega)) ?_
      rw [dmS_pos hp, dmS_pos hp]
      refine Ev.bind (nx.gcd ny (by omega) (by omega)) ?_
      rw [gz_div hx hy hp]
      have e1 : L 1 = [1] := by decide +kernel
      rw [e1]
      refine Ev.bind (Nm.one.same (by omega) rfl) ?_
      exact Ev.now _
  have hj0 : Ev (fun k => penumbralaw02_RootCommon.j0 k a b c (L (gz x y)) false) true := by
    refine Ev_up ?_
    unfold penumbralaw02_RootCommon.j0
    refine Ev_neg (by decide) ?_
    refine Ev_some (nc.nrm (by omega)) ?_
    by_cases h0 : ((L z).length : Int) > 0
    · refine Ev_pos h0 ?_
      refine Ev.bind (nc.divides na (by omega) (by omega)) ?_
      by_cases h1 : z ∣ x
      · refine Ev_pos (decide_eq_true h1) ?_
        refine Ev.bind (nc.divides nb (by omega) (by omega)) ?_
        by_cases h2 : z ∣ y
        · refine Ev_pos (decide_eq_true h2) ?_
          refine Ev.bind (nc.divides ng (by omega) (by omega)) ?_
          rw [decide_eq_true (gz_of_dvd h1 h2)]
          exact hj1
        · refine Ev_neg (by rw [decide_eq_true_iff]; exact h2) ?_
          exact hj1
      · refine Ev_neg (by rw [decide_eq_true_iff]; exact h1) ?_
        exact hj1
    · refine Ev_neg h0 ?_
      exact hj1
  apply Ev.rounds
  refine Ev.bind (na.gcd nb (by omega) (by omega)) ?_
  refine Ev.bind fixed2 ?_
  refine Ev_pos rfl ?_
  refine Ev.bind (ng.divides na (by omega) (by omega)) ?_
  refine Ev_pos (decide_eq_true (gz_dvd_left x y)) ?_
  refine Ev.bind (ng.divides nb (by omega) (by omega)) ?_
  refine Ev_pos (decide_eq_true (gz_dvd_right x y)) ?_
  refine Ev.bind (nb.gcd na (by omega) (by omega)) ?_
  refine Ev.bind (ng.same (by omega) (by rw [gz_comm])) ?_
  exact hj0
end Go.Proofs.Ytplioajciapojaa.Pure
