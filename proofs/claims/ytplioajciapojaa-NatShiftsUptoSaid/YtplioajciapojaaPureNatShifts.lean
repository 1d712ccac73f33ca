/- Shifts up add up, are products with a power of two, and lengthen by so many bits: at all arguments of at most 1048576 limbs. -/
import Derived.Test.YtplioajciapojaaWkNatShifts
import Derived.Test.YtplioajciapojaaLFixed1
import Derived.Test.YtplioajciapojaaN6
namespace Go.Proofs.Ytplioajciapojaa.Pure
open Go.RowKit Go.Proofs.Ytplioajciapojaa.Pq Go.Proofs.YtplioajciapojaaW.PrintWords Go.Proofs.YtplioajciapojaaW.PrintLast Go.Proofs.Ytplioajciapojaa.N
set_option maxHeartbeats 2000000 in
theorem NatShifts : penumbralaw01_NatShifts.PureU := by
  intro a s t _ ba wa ws wt
  have na := Nm.of wa ba
  generalize V a = x at na
  have hout : Ev (fun k => penumbralaw01_NatShifts.j0 k a s t true) true := by
    refine Ev_up ?_
    unfold penumbralaw01_NatShifts.j0
    refine Ev_pos rfl ?_
    refine Ev.bind fixed1 ?_
    exact Ev.now _
  apply Ev.rounds
  refine Ev.bind fixed1 ?_
  refine Ev_pos rfl ?_
  by_cases h0 : s < 0
  · exact Ev_pos h0 hout
  refine Ev_neg h0 ?_
  by_cases h1 : s > 200
  · exact Ev_pos h1 hout
  refine Ev_neg h1 ?_
  by_cases h2 : t < 0
  · exact Ev_pos h2 hout
  refine Ev_neg h2 ?_
  by_cases h3 : t > 200
  · rw [decide_eq_true h3]
    exact hout
  rw [decide_eq_false h3]
  have w1 : wrap64 (s + t) = s + t := by unfold wrap64; omega
  have n1 := na.shL (s := s) (by omega)
  have n2 := n1.shL (s := t) (by omega)
  have p1 := Nm.one.shL (s := s) (by omega)
  have e2 : x * 2 ^ s.toNat * 2 ^ t.toNat = x * 2 ^ (s + t).toNat := by
    rw [show (s + t).toNat = s.toNat + t.toNat by omega, Int.pow_add, Int.mul_assoc]
  refine Ev_up ?_
  unfold penumbralaw01_NatShifts.j0
  refine Ev_neg (by decide) ?_
  refine Ev.bind (na.shl (by omega) s) ?_
  rw [shS_ok (x := x) (s := s) (by omega) (by omega)]
  refine Ev.bind (n1.shl (by omega) t) ?_
  rw [shS_ok (s := t) (by omega) (by omega), w1]
  refine Ev.bind (na.shl (by omega) (s + t)) ?_
  rw [shS_ok (x := x) (s := s + t) (by omega) (by omega)]
  refine Ev.bind (Nm.one.shl (by omega) s) ?_
  rw [shS_ok (x := 1) (s := s) (by omega) (by omega)]
  refine Ev_pos rfl ?_
  refine Ev_pos rfl ?_
  refine Ev_pos rfl ?_
  refine Ev_pos rfl ?_
  refine Ev.bind (n2.same (by omega) (by rw [e2])) ?_
  refine Ev_pos rfl ?_
  refine Ev.bind (na.mul p1 (by omega) (by omega)) ?_
  refine Ev.bind (n1.same (by omega) (by rw [Int.one_mul])) ?_
  refine Ev_up ?_
  unfold penumbralaw01_NatShifts.j1
  refine Ev_neg (by decide) ?_
  refine Ev_some (na.nrm (by omega)) ?_
  by_cases hz : x = 0
  · subst hz
    rw [L_zero, Int.zero_mul, L_zero]
    refine Ev_pos rfl ?_
    refine Ev_pos rfl ?_
    exact Ev.now _
  · have hx : 0 < x := by have := na.pos; omega
    have hne : (L x).length ≠ 0 := fun e => hz ((L_nil_iff na.pos).1 (List.eq_nil_of_length_eq_zero e))
    refine Ev_neg (by omega) ?_
    refine Ev_some (n1.bits (by omega)) ?_
    refine Ev_some (na.bits (by omega)) ?_
    refine Ev_now ?_
    have hb := bl_nonneg x
    have hb2 := na.bl_le
    rw [bl_shift hx, show wrap64 (bl x + s) = bl x + (s.toNat : Int) by unfold wrap64; omega]
    simp
end Go.Proofs.Ytplioajciapojaa.Pure
