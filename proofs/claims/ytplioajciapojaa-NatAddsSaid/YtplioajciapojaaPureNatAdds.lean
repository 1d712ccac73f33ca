/- The sum, the difference, the order of any two naturals, the normal form, the natural of a number are as the reference says: at all arguments. -/
import Derived.Test.YtplioajciapojaaPqx12
import Derived.Test.YtplioajciapojaaLFixed1
namespace Go.Proofs.Ytplioajciapojaa.Pure
open Go.RowKit Go.Proofs.Ytplioajciapojaa.Pq Go.Proofs.YtplioajciapojaaW.PrintWords Go.Proofs.YtplioajciapojaaW.PrintLast Go.Proofs.Ytplioajciapojaa.N
theorem NatAdds : penumbralaw01_NatAdds.Pure := by
  intro a b n hma ha4 hwa hmb hb4 hwb hwn
  have ha := wf_of hwa
  have hb := wf_of hwb
  have sa : Sm a := by unfold Sm; omega
  have sb : Sm b := by unfold Sm; omega
  have hn : 0 ≤ n ∧ n < 18446744073709551616 := wf_u64 hwn
  have va := V_nonneg ha
  have vb := V_nonneg hb
  have la := Sm_L ha sa
  have lb := Sm_L hb sb
  unfold Sm at la lb sa sb
  have l1 : (subS (V a) (V b)).1.length < 4611686018427387904 := by
    unfold subS
    split
    · simp
    · have h1 := V_lt ha
      have := L_length_le a.length (n := V a - V b) (by omega)
      simp only
      omega
  have l2 : (L (V a + V b)).length < 4611686018427387904 := by
    have h1 := V_lt ha
    have h2 := V_lt hb
    have h3 := P_le (show a.length ≤ max a.length b.length by omega)
    have h4 := P_le (show b.length ≤ max a.length b.length by omega)
    have h5 := P_pos (max a.length b.length)
    have := L_length_le (max a.length b.length + 1) (n := V a + V b) (by rw [P_succ]; omega)
    omega
  have l3 : (L n).length < 4611686018427387904 := by
    have := L_length_le 2 (n := n) (by rw [P_succ, P_succ, P_zero]; omega)
    omega
  apply Ev.rounds
  refine Ev.bind (nsub_f ha hb sa sb) ?_
  refine Ev.bind (rsub_f ha hb sa sb) ?_
  refine Ev.bind fixed1 ?_
  refine Ev_pos rfl ?_
  refine Ev.bind (nadd_f ha hb sa sb) ?_
  refine Ev.bind (radd_f ha hb sa sb) ?_
  refine Ev.bind (same_f l2) ?_
  refine Ev_pos rfl ?_
  refine Ev_pos (by simp) ?_
  refine Ev.bind (same_f l1) ?_
  refine Ev_pos rfl ?_
  refine Ev.bind (ncmp_f ha hb sa sb) ?_
  refine Ev.bind (rcmp_f ha hb sa sb) ?_
  refine Ev_pos rfl ?_
  refine Ev_some (norm_f ha sa) ?_
  refine Ev.bind (rnorm_f ha (by omega)) ?_
  refine Ev.bind (same_f (by omega)) ?_
  refine Ev_pos rfl ?_
  refine Ev_some (nof_f hn.1 hn.2) ?_
  refine Ev.bind (rof_f hn.1 hn.2) ?_
  refine Ev.bind (same_f l3) ?_
  exact Ev.now _
end Go.Proofs.Ytplioajciapojaa.Pure
