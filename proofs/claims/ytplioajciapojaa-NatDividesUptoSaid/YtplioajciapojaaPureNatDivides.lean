/- The quotient and the rest of any two naturals are as the reference says: at all arguments of at most 1048576 limbs. -/
import Derived.Test.YtplioajciapojaaWkNatDivides
import Derived.Test.YtplioajciapojaaLFixed1
import Derived.Test.YtplioajciapojaaN13
namespace Go.Proofs.Ytplioajciapojaa.Pure
open Go.RowKit Go.Proofs.Ytplioajciapojaa.Pq Go.Proofs.YtplioajciapojaaW.PrintWords Go.Proofs.YtplioajciapojaaW.PrintLast Go.Proofs.Ytplioajciapojaa.N
set_option maxHeartbeats 2000000 in
theorem NatDivides : penumbralaw01_NatDivides.PureU := by
  intro a b _ ba wa _ bb wb
  have na := Nm.of wa ba
  have nb := Nm.of wb bb
  generalize V a = x at na
  generalize V b = y at nb
  have hlen : (dmS x y).1.length ≤ 1048576 ∧ (dmS x y).2.1.length ≤ 1048576 := by
    unfold dmS
    by_cases h : y = 0
    · rw [if_pos h]
      exact ⟨by simp, by simp⟩
    · rw [if_neg h]
      have hx := na.pos
      have hy := nb.pos
      have hl := na.lt
      exact ⟨L_length_le _ (Int.lt_of_le_of_lt (Int.ediv_le_self _ hx) hl), L_length_le _ (Int.lt_of_le_of_lt (mod_le hx (by omega)) hl)⟩
  apply Ev.rounds
  refine Ev.bind (na.dm nb (by omega) (by omega)) ?_
  refine Ev.bind (na.rdm nb (by omega) (by omega)) ?_
  refine Ev.bind fixed1 ?_
  refine Ev_pos rfl ?_
  refine Ev.bind (same_f (by omega)) ?_
  refine Ev_pos rfl ?_
  refine Ev.bind (same_f (by omega)) ?_
  refine Ev_pos rfl ?_
  refine Ev_now ?_
  simp
end Go.Proofs.Ytplioajciapojaa.Pure
