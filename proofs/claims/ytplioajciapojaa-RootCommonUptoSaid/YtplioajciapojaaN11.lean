/- The long division's digits: one round, then all of them. -/
import Derived.Test.YtplioajciapojaaPqd
import Derived.Test.YtplioajciapojaaN10
namespace Go.Proofs.Ytplioajciapojaa.N
set_option linter.unusedVariables false
set_option linter.unusedSimpArgs false
open Go Go.RowKit Go.Proofs.YtplioajciapojaaW.PrintWords Go.Proofs.YtplioajciapojaaW.PrintLast Go.Proofs.YtplioajciapojaaW.PrintMore Go.Proofs.Ytplioajciapojaa.Pq

theorem drop_eq {l m : List Int} {k : Nat} (hl : l.length = m.length) (h : ∀ i : Nat, k ≤ i → rd l (i : Int) = rd m (i : Int)) : l.drop k = m.drop k := by
  apply List.ext_getElem (by simp [hl])
  intro i h1 h2
  have h3 := h (k + i) (by omega)
  simp only [List.length_drop] at h1 h2
  have e1 : rd l ((k + i : Nat) : Int) = l[k + i] := by simp only [rd, Int.toNat_natCast, List.getD_eq_getElem?_getD, List.getElem?_eq_getElem (show k + i < l.length by omega), Option.getD_some]
  have e2 : rd m ((k + i : Nat) : Int) = m[k + i] := by simp only [rd, Int.toNat_natCast, List.getD_eq_getElem?_getD, List.getElem?_eq_getElem (show k + i < m.length by omega), Option.getD_some]
  rw [e1, e2] at h3
  rw [List.getElem_drop, List.getElem_drop]
  exact h3
/-- with j digits left: what is left of the dividend, and the quotient's digits so far -/
structure Dg (v : List Int) (A : Int) (N : Nat) (u q : List Int) (j : Nat) : Prop where
  wu : W u
  wq : W q
  lu : u.length = N
  lq : q.length + v.length = N
  lt : V u < P j * V v
  e : V u + V v * V q = A
  z : ∀ m : Nat, m < j → rd q (m : Int) = 0
theorem Dg.top {v : List Int} {A : Int} {N : Nat} {u q : List Int} {j : Nat} (h : Dg v A N u q (j + 1)) (hv : W v) : V (u.drop (j + v.length + 1)) = 0 := by
  have h1 := V_split' u (j + v.length + 1)
  have h2 := V_nonneg (W_take h.wu (j + v.length + 1))
  have h3 := V_nonneg (W_drop h.wu (j + v.length + 1))
  have h4 : P (j + 1) * V v < P (j + 1) * P v.length := Int.mul_lt_mul_of_pos_left (V_lt hv) (P_pos _)
  rw [← P_add, show j + 1 + v.length = j + v.length + 1 by omega] at h4
  have h5 := h.lt
  rcases (show V (u.drop (j + v.length + 1)) = 0 ∨ 1 ≤ V (u.drop (j + v.length + 1)) by omega) with h6 | h6
  · exact h6
  · have h7 : P (j + v.length + 1) * 1 ≤ P (j + v.length + 1) * V (u.drop (j + v.length + 1)) := Int.mul_le_mul_of_nonneg_left h6 (by have := P_pos (j + v.length + 1); omega)
    omega
theorem Dg.x {v : List Int} {A : Int} {N : Nat} {u q : List Int} {j : Nat} (h : Dg v A N u q (j + 1)) : V (u.drop j) < 4294967296 * V v := by
  have h1 := V_split' u j
  have h2 := V_nonneg (W_take h.wu j)
  have h3 := h.lt
  have h4 : P (j + 1) * V v = P j * (4294967296 * V v) := by rw [P_succ]; grind
  have h5 : P j * V (u.drop j) < P j * (4294967296 * V v) := by omega
  exact Int.lt_of_mul_lt_mul_left h5 (by have := P_pos j; omega)
theorem Dg.next {v : List Int} {A : Int} {N : Nat} {u q u' : List Int} {j : Nat} (h : Dg v A N u q (j + 1)) (hw : W u') (hl : u'.length = N) {t : Int} (ht : 0 ≤ t ∧ t < 4294967296)
    (hV : V u' = V u - P j * (t * V v)) (h1 : V (u.drop j) < (t + 1) * V v) (hj : j < q.length) : Dg v A N u' (q.set j t) j where
  wu := hw
  wq := W_set h.wq _ ht.1 ht.2
  lu := hl
  lq := by rw [List.length_set]; exact h.lq
  lt := by
    have h2 := V_split' u j
    have h3 := V_take_lt h.wu j
    have h4 : P j * (V (u.drop j) + 1) ≤ P j * ((t + 1) * V v) := Int.mul_le_mul_of_nonneg_left (by omega) (by have := P_pos j; omega)
    have h5 : P j * ((t + 1) * V v) = P j * (t * V v) + P j * V v := by grind
    rw [Int.mul_add] at h4
    omega
  e := by
    have h2 := h.e
    rw [V_set _ _ _ hj, h.z j (by omega), hV]
    grind
  z := fun m hm => by rw [rd_set_ne _ _ _ _ (by omega)]; exact h.z m (by omega)
/-- a list whose limbs from k on are 0 is less than P k -/
theorem V_lt_of_drop {l : List Int} (h : W l) {k : Nat} (hz : V (l.drop k) = 0) : V l < P k := by
  have h1 := V_split' l k
  have h2 := V_take_lt h k
  rw [hz, Int.mul_zero] at h1
  omega
theorem digit_b2 {U V1 V2 G D M T X b2 : Int} (hv1 : V1 = U - G + M * 1) (hv2 : V2 = V1 + D - M * b2) (hb2 : b2 = 0 ∨ b2 = 1) (k1 : G - D ≤ X) (hx : U = T + X) (T0 : 0 ≤ T) (hlt : V2 < M) : b2 = 1 := by
  rcases hb2 with rfl | rfl
  · exfalso
    omega
  · rfl
theorem digit_lt {U V1 G M T X : Int} (hv1 : V1 = U - G + M * 1) (hx : U = T + X) (T0 : 0 ≤ T) (hlt : V1 < M) : X < G := by omega
theorem digit_new {U V1 V2 G D M : Int} (hv1 : V1 = U - G + M * 1) (hv2 : V2 = V1 + D - M * 1) : V2 = U - (G - D) := by omega
/-- less takes a digit's multiple away; if it was too much, back adds the divisor again -/
theorem digit_steps {v : List Int} (hv : W v) {A : Int} {N : Nat} {u q : List Int} {j : Nat} (h : Dg v A N u q (j + 1)) {g : Int} (hg : 0 ≤ g ∧ g < 4294967296)
    (h0 : (g - 1) * V v ≤ V (u.drop j)) (h1 : V (u.drop j) < (g + 1) * V v) (hj : j < q.length) :
    ∃ u1, W u1 ∧ u1.length = N ∧ ((nat_less.f u j v g = some (false, u1) ∧ Dg v A N u1 (q.set j g) j) ∨
      (nat_less.f u j v g = some (true, u1) ∧ 0 < g ∧ ∃ u2, nat_back.f u1 j v = some u2 ∧ Dg v A N u2 (q.set j (g - 1)) j)) := by
  have hlu := h.lu
  have hlq := h.lq
  have hjN : j + v.length < u.length := by clear h0 h1; omega
  have htop := h.top hv
  have X0 := Aside0.mk (V_split' u j)
  have XT := Aside0.mk (V_nonneg (W_take h.wu j))
  have hPj := Aside0.mk (P_pos j)
  have H0 := Aside0.mk h0
  have H1 := Aside0.mk h1
  clear h0 h1
  obtain ⟨u1, b, e1, hw1, hl1, hb, hrd1, HV1⟩ := less_f h.wu hv j hg hjN
  have hd1 : V (u1.drop (j + v.length + 1)) = 0 := by rw [drop_eq hl1 (fun i hi => hrd1 i (by omega)), htop]
  have hlt1 := Aside0.mk (V_lt_of_drop hw1 hd1)
  refine ⟨u1, hw1, by omega, ?_⟩
  rcases hb with hb | hb
  · subst hb
    refine .inl ⟨e1, h.next hw1 (by omega) hg ?_ H1.out hj⟩
    have hv1 := HV1.out
    rw [Int.mul_zero, Int.add_zero] at hv1
    exact hv1
  · subst hb
    obtain ⟨u2, b2, e2, hw2, hl2, hb2, hrd2, HV2⟩ := back_f hw1 hv j (by omega)
    have hd2 : V (u2.drop (j + v.length + 1)) = 0 := by rw [drop_eq hl2 (fun i hi => hrd2 i (by omega)), hd1]
    have hlt2 := Aside0.mk (V_lt_of_drop hw2 hd2)
    have k2 : Aside0 (P j * ((g - 1) * V v) = P j * (g * V v) - P j * V v) := ⟨by rw [Int.sub_mul, Int.one_mul, Int.mul_sub]⟩
    have k1 : Aside0 (P j * (g * V v) - P j * V v ≤ P j * V (u.drop j)) := ⟨by
      rw [← k2.out]
      exact Int.mul_le_mul_of_nonneg_left H0.out (Int.le_of_lt hPj.out)⟩
    obtain rfl := digit_b2 HV1.out HV2.out hb2 k1.out X0.out XT.out hlt2.out
    have k4 : Aside0 (V (u.drop j) < g * V v) := ⟨Int.lt_of_mul_lt_mul_left (digit_lt HV1.out X0.out XT.out hlt1.out) (Int.le_of_lt hPj.out)⟩
    have gp : 0 < g := by
      rcases Int.lt_or_le 0 g with h2 | h2
      · exact h2
      · exfalso
        obtain rfl : g = 0 := by omega
        have h3 := k4.out
        rw [Int.zero_mul] at h3
        have := V_nonneg (W_drop h.wu j)
        omega
    refine .inr ⟨e1, gp, u2, e2, h.next hw2 (by omega) (by omega) ?_ ?_ hj⟩
    · rw [k2.out]
      exact digit_new HV1.out HV2.out
    · rw [Int.sub_add_cancel]
      exact k4.out
theorem digit {v : List Int} (hv : W v) {A : Int} {N : Nat} (hN : N < 35184372088832) {sh : Int} {u q : List Int} {j : Nat} (h : Dg v A N u q (j + 1)) {g : Int} (hg : 0 ≤ g ∧ g < 4294967296)
    (h0 : Aside0 ((g - 1) * V v ≤ V (u.drop j))) (h1 : Aside0 (V (u.drop j) < (g + 1) * V v)) (hj : j < q.length) (R : List Int × List Int)
    (next : ∀ u' q', Dg v A N u' q' j → Ev (fun k => nat_long.l1 k sh v u' (v.length : Int) q' ((j : Int) - 1)) R) :
    Ev (fun k => nat_long.j4 k sh v u (v.length : Int) q (j : Int) g) R := by
  have hlu := h.lu
  have hlq := h.lq
  have w1 : wrap64 (wrap64 ((j : Int) + (v.length : Int)) + 1) = ((j + v.length + 1 : Nat) : Int) := by
    rw [show wrap64 ((j : Int) + (v.length : Int)) = ((j + v.length : Nat) : Int) by unfold wrap64; omega]
    unfold wrap64
    omega
  have w2 : wrap64 ((j : Int) - 1) = (j : Int) - 1 := by unfold wrap64; omega
  have c2 : (j : Int) < ((j + v.length + 1 : Nat) : Int) := by omega
  have c3 : ((j + v.length + 1 : Nat) : Int) ≤ (u.length : Int) := by omega
  have c4 : (j : Int) + (v.length : Int) < ((j + v.length + 1 : Nat) : Int) := by omega
  have c5 : (j : Int) < (q.length : Int) := by omega
  obtain ⟨u1, hw1, hl1, hs⟩ := digit_steps hv h hg h0.out h1.out hj
  refine Ev_up ?_
  unfold nat_long.j4
  rw [w1, w2, Int.toNat_natCast]
  refine Ev_pos (Int.natCast_nonneg _) ?_
  refine Ev_pos c2 ?_
  refine Ev_pos c3 ?_
  refine Ev_pos c4 ?_
  rcases hs with ⟨e1, hd⟩ | ⟨e1, gp, u2, e2, hd⟩
  · refine Ev_some e1 ?_
    refine Ev_neg (by simp) ?_
    refine Ev_pos c5 ?_
    rw [show g % 4294967296 = g by omega]
    exact next _ _ hd
  · refine Ev_some e1 ?_
    refine Ev_pos rfl ?_
    refine Ev_some e2 ?_
    refine Ev_pos c5 ?_
    rw [wrap_u64_of (x := g - 1) (by omega) (by omega), show (g - 1) % 4294967296 = g - 1 by omega]
    exact next _ _ hd
theorem Dg.two {v : List Int} (hv : W v) {A : Int} {N n : Nat} {u q : List Int} {j : Nat} (h : Dg v A N u q (j + 1)) (hn : v.length = n + 2) (hp : 0 < rd v ((n + 1 : Nat) : Int)) :
    Two (V (u.drop j)) (V v) (rd u ((j + n + 2 : Nat) : Int) * 4294967296 + rd u ((j + n + 1 : Nat) : Int)) (rd u ((j + n : Nat) : Int)) (rd v ((n + 1 : Nat) : Int)) (rd v (n : Int)) (P n) (V ((u.drop j).take n)) (V (v.take n)) where
  q := P_pos n
  x := by
    have h1 := V_split' (u.drop j) n
    rw [List.drop_drop, V_drop u (j + n), V_drop u (j + n + 1), V_drop u (j + n + 1 + 1)] at h1
    have h2 := h.top hv
    rw [hn] at h2
    rw [show j + n + 1 + 1 + 1 = j + (n + 2) + 1 by omega, h2, show j + n + 1 + 1 = j + n + 2 by omega] at h1
    rw [h1]
    grind
  d := by
    have h1 := V_split' v n
    rw [V_drop v n, V_drop v (n + 1), List.drop_of_length_le (by omega), V_nil] at h1
    rw [h1]
    grind
  xl := ⟨V_nonneg (W_take (W_drop h.wu j) n), V_take_lt (W_drop h.wu j) n⟩
  dl := ⟨V_nonneg (W_take hv n), V_take_lt hv n⟩
  u2 := W_rd h.wu _
  v2 := W_rd hv _
  v1 := ⟨hp, (W_rd hv _).2⟩
  top := by
    have h1 := W_rd h.wu ((j + n + 2 : Nat) : Int)
    have h2 := W_rd h.wu ((j + n + 1 : Nat) : Int)
    omega
  lt := h.x
theorem Two.start {X D top u2 v1 v2 Q xl dl : Int} (h : Two X D top u2 v1 v2 Q xl dl) : Gs X D top v1 (top / v1) (top % v1) where
  lt := h.first
  e := by
    have := Int.emod_add_mul_ediv top v1
    rw [Int.mul_comm]
    omega
  r := by
    have h1 := h.v1
    have h2 := Int.emod_nonneg top (show v1 ≠ 0 by omega)
    have h3 := Int.emod_lt_of_pos top h1.1
    omega
  g := by
    have h1 := h.top
    have h2 := Int.ediv_nonneg h1.1 (Int.le_of_lt h.v1.1)
    have h3 := Int.ediv_le_self v1 h1.1
    omega
theorem v_pos {v : List Int} (hv : W v) {n : Nat} (hn : v.length = n + 2) (hp : 0 < rd v ((n + 1 : Nat) : Int)) : 0 < V v := by
  have h1 := V_split' v (n + 1)
  have h2 := V_nonneg (W_take hv (n + 1))
  rw [V_drop v (n + 1), List.drop_of_length_le (by omega), V_nil, Int.mul_zero, Int.add_zero] at h1
  have h4 : 0 < P (n + 1) * rd v ((n + 1 : Nat) : Int) := Int.mul_pos (P_pos (n + 1)) hp
  omega
/-- at the end: the quotient, and what is left, shifted back -/
theorem Dg.done {v : List Int} (hv : W v) (hvp : 0 < V v) {A : Int} {N : Nat} {u q : List Int} (h : Dg v A N u q 0) : V q = A / V v ∧ V (u.take v.length) = A % V v := by
  have hlt := h.lt
  have hge := V_nonneg h.wu
  rw [P_zero, Int.one_mul] at hlt
  have e := h.e
  have h2 : V (u.take v.length) = V u := by
    have h3 := V_split' u v.length
    have h4 := V_nonneg (W_drop h.wu v.length)
    have h5 := V_lt hv
    have h6 := V_nonneg (W_take h.wu v.length)
    rcases (show V (u.drop v.length) = 0 ∨ 1 ≤ V (u.drop v.length) by omega) with h7 | h7
    · rw [h7, Int.mul_zero] at h3
      omega
    · have h8 : P v.length * 1 ≤ P v.length * V (u.drop v.length) := Int.mul_le_mul_of_nonneg_left h7 (by have := P_pos v.length; omega)
      omega
  have d1 : A / V v = V q := by rw [← e, Int.add_mul_ediv_left _ _ (by omega), Int.ediv_eq_zero_of_lt hge hlt]; omega
  have d2 : A % V v = V u := by rw [← e, Int.add_mul_emod_self_left, Int.emod_eq_of_lt hge hlt]
  exact ⟨d1.symm, by rw [h2, d2]⟩
theorem long_l1 {v : List Int} (hv : W v) {n : Nat} (hn : v.length = n + 2) (hp : 0 < rd v ((n + 1 : Nat) : Int)) {A : Int} {N : Nat} (hN : N < 35184372087809) {r : Nat} (hr : r < 32) : ∀ (j : Nat) (u q : List Int), j ≤ q.length → Dg v A N u q j →
    Ev (fun k => nat_long.l1 k (r : Int) v u (v.length : Int) q ((j : Int) - 1)) (L (A / V v), L (A % V v / 2 ^ r)) := by
  have hvp := Aside0.mk (v_pos hv hn hp)
  intro j
  induction j with
  | zero =>
    intro u q hj h
    have hlu := h.lu
    have hlq := h.lq
    have hd := h.done hv hvp.out
    have c1 : ((v.length : Nat) : Int) ≤ (u.length : Int) := by omega
    have c2 : (u.take v.length).length < 35184372087809 := by rw [List.length_take]; omega
    refine Ev_up ?_
    unfold nat_long.l1
    refine Ev_neg (by omega) ?_
    refine Ev_some (trim_f h.wq) ?_
    refine Ev_pos (Int.natCast_nonneg _) ?_
    refine Ev_pos c1 ?_
    rw [Int.toNat_natCast]
    refine Ev.bind (nshr_f (W_take h.wu _) c2 hr) ?_
    refine Ev_now ?_
    rw [hd.1, hd.2]
  | succ j ih =>
    intro u q hj h
    have hlu := h.lu
    have hlq := h.lq
    have w0 : ((j + 1 : Nat) : Int) - 1 = (j : Int) := by omega
    have w1 : wrap64 ((j : Int) + (v.length : Int)) = ((j + n + 2 : Nat) : Int) := by unfold wrap64; omega
    have w2 : wrap64 (((j + n + 2 : Nat) : Int) - 1) = ((j + n + 1 : Nat) : Int) := by unfold wrap64; omega
    have w3 : wrap64 ((v.length : Int) - 1) = ((n + 1 : Nat) : Int) := by unfold wrap64; omega
    have c1 : ((j + n + 2 : Nat) : Int) < (u.length : Int) := by omega
    have c2 : ((j + n + 1 : Nat) : Int) < (u.length : Int) := by omega
    have c3 : ((n + 1 : Nat) : Int) < (v.length : Int) := by omega
    have c4 : j + n + 2 < u.length := by omega
    have c5 : u.length < 35184372088832 := by omega
    have c6 : N < 35184372088832 := by omega
    have c7 : j < q.length := by omega
    have c8 : ((v.length : Int)) = ((n + 2 : Nat) : Int) := by omega
    have h2 := h.two hv hn hp
    have hs := h2.start
    have r0 := W_rd h.wu ((j + n + 2 : Nat) : Int)
    have r1 := W_rd h.wu ((j + n + 1 : Nat) : Int)
    have rv := W_rd hv ((n + 1 : Nat) : Int)
    have htop := h2.top
    have eo : Go.bits .or .u64 (IntKind.u64.wrap (IntKind.u64.wrap (rd u ((j + n + 2 : Nat) : Int)) * 4294967296)) (IntKind.u64.wrap (rd u ((j + n + 1 : Nat) : Int))) = rd u ((j + n + 2 : Nat) : Int) * 4294967296 + rd u ((j + n + 1 : Nat) : Int) := by
      rw [wrap_u64_of (x := rd u ((j + n + 2 : Nat) : Int)) (by omega) (by omega), wrap_u64_of (x := rd u ((j + n + 2 : Nat) : Int) * 4294967296) (by omega) (by omega), wrap_u64_of (x := rd u ((j + n + 1 : Nat) : Int)) (by omega) (by omega), or64_f r0 r1]
    have ev : IntKind.u64.wrap (rd v ((n + 1 : Nat) : Int)) = rd v ((n + 1 : Nat) : Int) := wrap_u64_of (by omega) (by omega)
    have wg := wrap_u64_of hs.g.1 hs.g.2
    have np : ¬ rd v ((n + 1 : Nat) : Int) = 0 := by omega
    refine Ev_up ?_
    unfold nat_long.l1
    rw [w0, w1, w2, w3, eo, ev, Int.tdiv_eq_ediv_of_nonneg htop.1, Int.tmod_eq_emod_of_nonneg htop.1, wg]
    refine Ev_pos (Int.natCast_nonneg _) ?_
    refine Ev_pos (Int.natCast_nonneg _) ?_
    refine Ev_pos c1 ?_
    refine Ev_pos (Int.natCast_nonneg _) ?_
    refine Ev_pos c2 ?_
    refine Ev_pos (Int.natCast_nonneg _) ?_
    refine Ev_pos c3 ?_
    refine Ev_neg np ?_
    rw [c8]
    refine guess_l h.wu hv hn c4 c5 h2 rfl rfl rfl _ (fun g' ga gb gc gd => ?_) _ _ _ (Nat.le_refl _) hs
    rw [← c8]
    exact digit hv c6 h ⟨ga, gb⟩ ⟨gc⟩ ⟨gd⟩ c7 _ (fun u' q' hd => ih u' q' (by have := hd.lq; omega) hd)
end Go.Proofs.Ytplioajciapojaa.N
