import Derived.Test.YtncdiodnbkhacaaDoorDPri5
import Derived.Test.YtncdiodnbkhacaaDoorCards
import Derived.Test.YtncdiodnbkhacaaDoorProg
import Derived.Test.YtncdiodnbkhacaaDoorRows
import Derived.Test.YtncdiodnbkhacaaDoorTie
set_option linter.unusedVariables false
set_option linter.unusedSimpArgs false
section
namespace Go.Proofs.YtncdiodnbkhacaaDoor.N
set_option linter.unusedVariables false
set_option linter.unusedSimpArgs false
open Go Go.RowKit Go.Proofs.YtncdiodnbkhacaaDoorW.PrintWords Go.Proofs.YtncdiodnbkhacaaDoorW.PrintLast Go.Proofs.YtncdiodnbkhacaaDoorW.PrintMore Go.Proofs.YtncdiodnbkhacaaDoor.Pq
structure Two (X D top u2 v1 v2 Q xl dl : Int) : Prop where
 q : 0 < Q
 x : X = (top * 4294967296 + u2) * Q + xl
 d : D = (v1 * 4294967296 + v2) * Q + dl
 xl : 0 ≤ xl ∧ xl < Q
 dl : 0 ≤ dl ∧ dl < Q
 u2 : 0 ≤ u2 ∧ u2 < 4294967296
 v2 : 0 ≤ v2 ∧ v2 < 4294967296
 v1 : 0 < v1 ∧ v1 < 4294967296
 top : 0 ≤ top ∧ top < 18446744073709551616
 lt : X < 4294967296 * D
theorem Two.x0 {X D top u2 v1 v2 Q xl dl : Int} (h : Two X D top u2 v1 v2 Q xl dl) : 0 ≤ X:=by
 have h1 : 0 ≤ (top * 4294967296 + u2) * Q:=Int.mul_nonneg (by have:=h.top;have:=h.u2;omega) (by have:=h.q;omega)
 have:=h.x
 have:=h.xl
 omega
theorem Two.d0 {X D top u2 v1 v2 Q xl dl : Int} (h : Two X D top u2 v1 v2 Q xl dl) : 4294967296 * Q ≤ D:=by
 have h1 : 4294967296 * Q ≤ (v1 * 4294967296 + v2) * Q:=Int.mul_le_mul_of_nonneg_right (by have:=h.v1;have:=h.v2;omega) (by have:=h.q;omega)
 have:=h.d
 have:=h.dl
 omega
theorem Two.more {X D top u2 v1 v2 Q xl dl : Int} (h : Two X D top u2 v1 v2 Q xl dl) {g r : Int} (g0 : 0 ≤ g) (e : g * v1 + r = top) (hc : r * 4294967296 + u2 < g * v2) : X < g * D:=by
 have h1 : (top * 4294967296 + u2 + 1) * Q ≤ (g * (v1 * 4294967296 + v2)) * Q:=Int.mul_le_mul_of_nonneg_right (by
  have : g * (v1 * 4294967296 + v2) = (g * v1) * 4294967296 + g * v2:=by grind
  rw [this]
  omega) (by have:=h.q;omega)
 have h2 : 0 ≤ g * dl:=Int.mul_nonneg g0 h.dl.1
 have h3 : g * D = (g * (v1 * 4294967296 + v2)) * Q + g * dl:=by rw [h.d];grind
 have h4 : (top * 4294967296 + u2 + 1) * Q = (top * 4294967296 + u2) * Q + Q:=by grind
 have:=h.x
 have:=h.xl
 omega
theorem Two.less {X D top u2 v1 v2 Q xl dl : Int} (h : Two X D top u2 v1 v2 Q xl dl) {g r : Int} (g0 : 0 ≤ g) (g1 : g < 4294967296) (e : g * v1 + r = top) (hc : g * v2 ≤ r * 4294967296 + u2) : (g - 1) * D ≤ X:=by
 have h1 : (g * (v1 * 4294967296 + v2)) * Q ≤ (top * 4294967296 + u2) * Q:=Int.mul_le_mul_of_nonneg_right (by
  have : g * (v1 * 4294967296 + v2) = (g * v1) * 4294967296 + g * v2:=by grind
  rw [this]
  omega) (by have:=h.q;omega)
 have h2 : g * dl ≤ 4294967296 * dl:=Int.mul_le_mul_of_nonneg_right (by omega) h.dl.1
 have h3 : g * D = (g * (v1 * 4294967296 + v2)) * Q + g * dl:=by rw [h.d];grind
 have h4 : (g - 1) * D = g * D - D:=by grind
 have:=h.x
 have:=h.xl
 have:=h.dl
 have:=h.d0
 omega
theorem Two.first {X D top u2 v1 v2 Q xl dl : Int} (h : Two X D top u2 v1 v2 Q xl dl) : X < (top / v1 + 1) * D:=by
 have e:=Int.emod_add_mul_ediv top v1
 have e1:=Int.emod_lt_of_pos top h.v1.1
 have h1 : (top + 1) ≤ (top / v1 + 1) * v1:=by grind
 have q:=h.q
 have g0 : 0 ≤ top / v1:=Int.ediv_nonneg h.top.1 (by have:=h.v1;omega)
 have h2 : (top + 1) * (4294967296 * Q) ≤ (top / v1 + 1) * v1 * (4294967296 * Q):=Int.mul_le_mul_of_nonneg_right h1 (by omega)
 have h3 : v1 * (4294967296 * Q) ≤ D:=by
  rw [h.d]
  have : 0 ≤ v2 * Q:=Int.mul_nonneg h.v2.1 (by omega)
  have:=h.dl
  grind
 have h4 : (top / v1 + 1) * (v1 * (4294967296 * Q)) ≤ (top / v1 + 1) * D:=Int.mul_le_mul_of_nonneg_left h3 (by omega)
 have h5 : X < (top + 1) * (4294967296 * Q):=by
  rw [h.x]
  have h6 : u2 * Q ≤ 4294967295 * Q:=Int.mul_le_mul_of_nonneg_right (by have:=h.u2;omega) (by omega)
  have:=h.xl
  grind
 rw [← Int.mul_assoc] at h4
 omega
theorem Two.small {X D top u2 v1 v2 Q xl dl : Int} (h : Two X D top u2 v1 v2 Q xl dl) {g r : Int} (e : g * v1 + r = top) (hr : 4294967296 ≤ r) : g < 4294967296:=by
 have q:=h.q
 have h1 : top * 4294967296 * Q ≤ X:=by
  rw [h.x]
  have : 0 ≤ u2 * Q:=Int.mul_nonneg h.u2.1 (by omega)
  have:=h.xl
  grind
 have h2 : D < (v1 * 4294967296 + v2 + 1) * Q:=by
  rw [h.d]
  have:=h.dl
  grind
 have h3 : top < v1 * 4294967296 + 4294967296:=by
  rcases Int.lt_or_le top (v1 * 4294967296 + 4294967296) with k|k
  ·exact k
  ·exfalso
   have h4 : (v1 * 4294967296 + v2 + 1) * Q ≤ top * Q:=Int.mul_le_mul_of_nonneg_right (by have:=h.v2;omega) (by omega)
   have:=h.lt
   have : top * 4294967296 * Q = 4294967296 * (top * Q):=by grind
   omega
 have h5 : g * v1 < 4294967296 * v1:=by omega
 exact Int.lt_of_mul_lt_mul_right h5 (by have:=h.v1;omega)
structure Gs (X D top v1 g r : Int) : Prop where
 lt : X < (g + 1) * D
 e : g * v1 + r = top
 r : 0 ≤ r ∧ r < 4294967296
 g : 0 ≤ g ∧ g < 18446744073709551616
theorem Two.pos {X D top u2 v1 v2 Q xl dl : Int} (h : Two X D top u2 v1 v2 Q xl dl) {g : Int} (k : X < g * D) : 0 < g:=by
 rcases Int.lt_or_le 0 g with h1|h1
 ·exact h1
 ·exfalso
  have h2 : g * D ≤ 0 * D:=Int.mul_le_mul_of_nonneg_right h1 (by have:=h.d0;have:=h.q;omega)
  have:=h.x0
  omega
end Go.Proofs.YtncdiodnbkhacaaDoor.N
end
section
namespace Go.Proofs.YtncdiodnbkhacaaDoor.N
set_option linter.unusedVariables false
set_option linter.unusedSimpArgs false
open Go Go.RowKit Go.Proofs.YtncdiodnbkhacaaDoorW.PrintWords Go.Proofs.YtncdiodnbkhacaaDoorW.PrintLast Go.Proofs.YtncdiodnbkhacaaDoorW.PrintMore Go.Proofs.YtncdiodnbkhacaaDoor.Pq
theorem guess_l {u v q : List Int} {sh : Int} (hu : W u) (hv : W v) {j n : Nat} (hn : v.length = n + 2) (hlen : j + n + 2 < u.length) (hul : u.length < 35184372088832) {X D top u2 v1 v2 Q xl dl : Int}
  (h : Two X D top u2 v1 v2 Q xl dl) (e1 : v1 = rd v ((n + 1 : Nat) : Int)) (e2 : v2 = rd v (n : Int)) (eu : u2 = rd u ((j + n : Nat) : Int)) (R : List Int × List Int)
  (next : ∀ g,0 ≤ g → g < 4294967296 → (g - 1) * D ≤ X → X < (g + 1) * D → Ev (fun k=>nat_long.j4 k sh v u ((n + 2 : Nat) : Int) q (j : Int) g) R) :
  ∀ (m : Nat) (g r : Int),g.toNat ≤ m → Gs X D top v1 g r → Ev (fun k=>nat_long.l2 k sh v u ((n + 2 : Nat) : Int) q (j : Int) g r) R:=by
 have b2 : (n : Int) < (v.length : Int):=by omega
 have b4 : ((j + n : Nat) : Int) < (u.length : Int):=by omega
 have w1 : wrap64 (((n + 2 : Nat) : Int) - 1) = ((n + 1 : Nat) : Int):=by unfold wrap64;omega
 have w2 : wrap64 (((n + 2 : Nat) : Int) - 2) = (n : Int):=by unfold wrap64;omega
 have w3 : wrap64 (wrap64 ((j : Int) + ((n + 2 : Nat) : Int)) - 2) = ((j + n : Nat) : Int):=by
  rw [show wrap64 ((j : Int) + ((n + 2 : Nat) : Int)) = ((j + n + 2 : Nat) : Int) by unfold wrap64;omega]
  unfold wrap64
  omega
 have dpos : 0 < D:=by have:=h.d0;have:=h.q;omega
 have hv1:=h.v1
 have hv2:=h.v2
 have hu2:=h.u2
 have e0 : IntKind.u64.wrap (rd v ((n + 1 : Nat) : Int)) = v1:=by rw [← e1,wrap_u64_of (by omega) (by omega)]
 -- the way down by one
 have down : ∀ (m : Nat),(∀ (g r : Int),g.toNat ≤ m → Gs X D top v1 g r → Ev (fun k=>nat_long.l2 k sh v u ((n + 2 : Nat) : Int) q (j : Int) g r) R) →
   ∀ (g r : Int),g.toNat ≤ m + 1 → Gs X D top v1 g r → X < g * D → Ev (fun k=>nat_long.j3 k sh v u ((n + 2 : Nat) : Int) q (j : Int) g r true) R:=by
  intro m ih g r hm hg hlt
  have gp:=h.pos hlt
  have hr:=hg.r
  have gb:=hg.g
  have e' : (g - 1) * v1 + (r + v1) = top:=by rw [Int.sub_mul,Int.one_mul];have:=hg.e;omega
  have hlt' : X < (g - 1 + 1) * D:=by rw [show g - 1 + 1 = g by omega];exact hlt
  refine Ev_up ?_
  unfold nat_long.j3
  refine Ev_pos rfl ?_
  rw [w1,e0,wrap_u64_of (x:=r + v1) (by omega) (by omega),wrap_u64_of (x:=g - 1) (by omega) (by omega)]
  refine Ev_pos (by omega) ?_
  refine Ev_pos (by omega) ?_
  by_cases hb : r + v1 ≥ 4294967296
  ·refine Ev_pos hb ?_
   have gs:=h.small e' hb
   have h3 : (g - 1) * v2 ≤ 4294967296 * v2:=Int.mul_le_mul_of_nonneg_right (by omega) hv2.1
   exact next (g - 1) (by omega) gs (h.less (by omega) gs e' (by omega)) hlt'
  ·refine Ev_neg hb ?_
   exact ih (g - 1) (r + v1) (by omega) ⟨hlt',e',by omega,by omega⟩
 intro m
 have go : ∀ (g r : Int),(X < g * D → Ev (fun k=>nat_long.j3 k sh v u ((n + 2 : Nat) : Int) q (j : Int) g r true) R) → Gs X D top v1 g r → Ev (fun k=>nat_long.l2 k sh v u ((n + 2 : Nat) : Int) q (j : Int) g r) R:=by
  intro g r hdown hg
  have hr:=hg.r
  have gb:=hg.g
  refine Ev_up ?_
  unfold nat_long.l2
  by_cases hb : g ≥ 4294967296
  ·refine Ev_pos hb ?_
   refine hdown ?_
   have h1 : 4294967296 * D ≤ g * D:=Int.mul_le_mul_of_nonneg_right hb (by omega)
   have:=h.lt
   omega
  ·refine Ev_neg hb ?_
   refine Ev_pos (by omega) ?_
   have hm:=limb_mul (x:=g) (y:=v2) (o:=0) (c:=0) ⟨gb.1,by omega⟩ hv2 (by omega) (by omega)
   have ew : IntKind.u64.wrap (g * IntKind.u64.wrap (rd v (n : Int))) = g * v2:=by
    rw [← e2,wrap_u64_of hv2.1 (by omega),wrap_u64_of hm.1 (by omega)]
   have eo : Go.bits .or .u64 (IntKind.u64.wrap (r * 4294967296)) (IntKind.u64.wrap (rd u ((j + n : Nat) : Int))) = r * 4294967296 + u2:=by
    rw [← eu,wrap_u64_of (x:=r * 4294967296) (by omega) (by omega),wrap_u64_of hu2.1 (by omega),or64_f hr hu2]
   rw [w2,w3,ew,eo]
   refine Ev_pos (Int.natCast_nonneg _) ?_
   refine Ev_pos b2 ?_
   refine Ev_pos (Int.natCast_nonneg _) ?_
   refine Ev_pos b4 ?_
   by_cases hc : g * v2 > r * 4294967296 + u2
   ·rw [decide_eq_true hc]
    exact hdown (h.more gb.1 hg.e hc)
   ·rw [decide_eq_false hc]
    refine Ev_up ?_
    unfold nat_long.j3
    refine Ev_neg (by decide) ?_
    exact next g gb.1 (by omega) (h.less gb.1 (by omega) hg.e (by omega)) hg.lt
 induction m with
|zero =>
  intro g r hm hg
  refine go g r (fun hlt=>?_) hg
  have:=h.pos hlt
  omega
|succ m ih =>
  intro g r hm hg
  exact go g r (fun hlt=>down m ih g r hm hg hlt) hg
end Go.Proofs.YtncdiodnbkhacaaDoor.N
end
section
namespace Go.Proofs.YtncdiodnbkhacaaDoor.N
set_option linter.unusedVariables false
set_option linter.unusedSimpArgs false
open Go Go.RowKit Go.Proofs.YtncdiodnbkhacaaDoorW.PrintWords Go.Proofs.YtncdiodnbkhacaaDoorW.PrintLast Go.Proofs.YtncdiodnbkhacaaDoorW.PrintMore Go.Proofs.YtncdiodnbkhacaaDoor.Pq
theorem drop_eq {l m : List Int} {k : Nat} (hl : l.length = m.length) (h : ∀ i : Nat,k ≤ i → rd l (i : Int) = rd m (i : Int)) : l.drop k = m.drop k:=by
 apply List.ext_getElem (by simp [hl])
 intro i h1 h2
 have h3:=h (k + i) (by omega)
 simp only [List.length_drop] at h1 h2
 have e1 : rd l ((k + i : Nat) : Int) = l[k + i]:=by simp only [rd,Int.toNat_natCast,List.getD_eq_getElem?_getD,List.getElem?_eq_getElem (show k + i < l.length by omega),Option.getD_some]
 have e2 : rd m ((k + i : Nat) : Int) = m[k + i]:=by simp only [rd,Int.toNat_natCast,List.getD_eq_getElem?_getD,List.getElem?_eq_getElem (show k + i < m.length by omega),Option.getD_some]
 rw [e1,e2] at h3
 rw [List.getElem_drop,List.getElem_drop]
 exact h3
structure Dg (v : List Int) (A : Int) (N : Nat) (u q : List Int) (j : Nat) : Prop where
 wu : W u
 wq : W q
 lu : u.length = N
 lq : q.length + v.length = N
 lt : V u < P j * V v
 e : V u + V v * V q = A
 z : ∀ m : Nat,m < j → rd q (m : Int) = 0
theorem Dg.top {v : List Int} {A : Int} {N : Nat} {u q : List Int} {j : Nat} (h : Dg v A N u q (j + 1)) (hv : W v) : V (u.drop (j + v.length + 1)) = 0:=by
 have h1:=V_split' u (j + v.length + 1)
 have h2:=V_nonneg (W_take h.wu (j + v.length + 1))
 have h3:=V_nonneg (W_drop h.wu (j + v.length + 1))
 have h4 : P (j + 1) * V v < P (j + 1) * P v.length:=Int.mul_lt_mul_of_pos_left (V_lt hv) (P_pos _)
 rw [← P_add,show j + 1 + v.length = j + v.length + 1 by omega] at h4
 have h5:=h.lt
 rcases (show V (u.drop (j + v.length + 1)) = 0 ∨ 1 ≤ V (u.drop (j + v.length + 1)) by omega) with h6|h6
 ·exact h6
 ·have h7 : P (j + v.length + 1) * 1 ≤ P (j + v.length + 1) * V (u.drop (j + v.length + 1)):=Int.mul_le_mul_of_nonneg_left h6 (by have:=P_pos (j + v.length + 1);omega)
  omega
theorem Dg.x {v : List Int} {A : Int} {N : Nat} {u q : List Int} {j : Nat} (h : Dg v A N u q (j + 1)) : V (u.drop j) < 4294967296 * V v:=by
 have h1:=V_split' u j
 have h2:=V_nonneg (W_take h.wu j)
 have h3:=h.lt
 have h4 : P (j + 1) * V v = P j * (4294967296 * V v):=by rw [P_succ];grind
 have h5 : P j * V (u.drop j) < P j * (4294967296 * V v):=by omega
 exact Int.lt_of_mul_lt_mul_left h5 (by have:=P_pos j;omega)
theorem Dg.next {v : List Int} {A : Int} {N : Nat} {u q u' : List Int} {j : Nat} (h : Dg v A N u q (j + 1)) (hw : W u') (hl : u'.length = N) {t : Int} (ht : 0 ≤ t ∧ t < 4294967296)
  (hV : V u' = V u - P j * (t * V v)) (h1 : V (u.drop j) < (t + 1) * V v) (hj : j < q.length) : Dg v A N u' (q.set j t) j where
 wu:=hw
 wq:=W_set h.wq _ ht.1 ht.2
 lu:=hl
 lq:=by rw [List.length_set];exact h.lq
 lt:=by
  have h2:=V_split' u j
  have h3:=V_take_lt h.wu j
  have h4 : P j * (V (u.drop j) + 1) ≤ P j * ((t + 1) * V v):=Int.mul_le_mul_of_nonneg_left (by omega) (by have:=P_pos j;omega)
  have h5 : P j * ((t + 1) * V v) = P j * (t * V v) + P j * V v:=by grind
  rw [Int.mul_add] at h4
  omega
 e:=by
  have h2:=h.e
  rw [V_set _ _ _ hj,h.z j (by omega),hV]
  grind
 z:=fun m hm=>by rw [rd_set_ne _ _ _ _ (by omega)];exact h.z m (by omega)
theorem V_lt_of_drop {l : List Int} (h : W l) {k : Nat} (hz : V (l.drop k) = 0) : V l < P k:=by
 have h1:=V_split' l k
 have h2:=V_take_lt h k
 rw [hz,Int.mul_zero] at h1
 omega
theorem digit_b2 {U V1 V2 G D M T X b2 : Int} (hv1 : V1 = U - G + M * 1) (hv2 : V2 = V1 + D - M * b2) (hb2 : b2 = 0 ∨ b2 = 1) (k1 : G - D ≤ X) (hx : U = T + X) (T0 : 0 ≤ T) (hlt : V2 < M) : b2 = 1:=by
 rcases hb2 with rfl|rfl
 ·exfalso
  omega
 ·rfl
theorem digit_lt {U V1 G M T X : Int} (hv1 : V1 = U - G + M * 1) (hx : U = T + X) (T0 : 0 ≤ T) (hlt : V1 < M) : X < G:=by omega
theorem digit_new {U V1 V2 G D M : Int} (hv1 : V1 = U - G + M * 1) (hv2 : V2 = V1 + D - M * 1) : V2 = U - (G - D):=by omega
theorem digit_steps {v : List Int} (hv : W v) {A : Int} {N : Nat} {u q : List Int} {j : Nat} (h : Dg v A N u q (j + 1)) {g : Int} (hg : 0 ≤ g ∧ g < 4294967296)
  (h0 : (g - 1) * V v ≤ V (u.drop j)) (h1 : V (u.drop j) < (g + 1) * V v) (hj : j < q.length) :
  ∃ u1,W u1 ∧ u1.length = N ∧ ((nat_less.f u j v g = some (false,u1) ∧ Dg v A N u1 (q.set j g) j) ∨
   (nat_less.f u j v g = some (true,u1) ∧ 0 < g ∧ ∃ u2,nat_back.f u1 j v = some u2 ∧ Dg v A N u2 (q.set j (g - 1)) j)):=by
 have hlu:=h.lu
 have hlq:=h.lq
 have hjN : j + v.length < u.length:=by clear h0 h1;omega
 have htop:=h.top hv
 have X0:=Aside0.mk (V_split' u j)
 have XT:=Aside0.mk (V_nonneg (W_take h.wu j))
 have hPj:=Aside0.mk (P_pos j)
 have H0:=Aside0.mk h0
 have H1:=Aside0.mk h1
 clear h0 h1
 obtain ⟨u1,b,e1,hw1,hl1,hb,hrd1,HV1⟩:=less_f h.wu hv j hg hjN
 have hd1 : V (u1.drop (j + v.length + 1)) = 0:=by rw [drop_eq hl1 (fun i hi=>hrd1 i (by omega)),htop]
 have hlt1:=Aside0.mk (V_lt_of_drop hw1 hd1)
 refine ⟨u1,hw1,by omega,?_⟩
 rcases hb with hb|hb
 ·subst hb
  refine .inl ⟨e1,h.next hw1 (by omega) hg ?_ H1.out hj⟩
  have hv1:=HV1.out
  rw [Int.mul_zero,Int.add_zero] at hv1
  exact hv1
 ·subst hb
  obtain ⟨u2,b2,e2,hw2,hl2,hb2,hrd2,HV2⟩:=back_f hw1 hv j (by omega)
  have hd2 : V (u2.drop (j + v.length + 1)) = 0:=by rw [drop_eq hl2 (fun i hi=>hrd2 i (by omega)),hd1]
  have hlt2:=Aside0.mk (V_lt_of_drop hw2 hd2)
  have k2 : Aside0 (P j * ((g - 1) * V v) = P j * (g * V v) - P j * V v):=⟨by rw [Int.sub_mul,Int.one_mul,Int.mul_sub]⟩
  have k1 : Aside0 (P j * (g * V v) - P j * V v ≤ P j * V (u.drop j)):=⟨by
   rw [← k2.out]
   exact Int.mul_le_mul_of_nonneg_left H0.out (Int.le_of_lt hPj.out)⟩
  obtain rfl:=digit_b2 HV1.out HV2.out hb2 k1.out X0.out XT.out hlt2.out
  have k4 : Aside0 (V (u.drop j) < g * V v):=⟨Int.lt_of_mul_lt_mul_left (digit_lt HV1.out X0.out XT.out hlt1.out) (Int.le_of_lt hPj.out)⟩
  have gp : 0 < g:=by
   rcases Int.lt_or_le 0 g with h2|h2
   ·exact h2
   ·exfalso
    obtain rfl : g = 0:=by omega
    have h3:=k4.out
    rw [Int.zero_mul] at h3
    have:=V_nonneg (W_drop h.wu j)
    omega
  refine .inr ⟨e1,gp,u2,e2,h.next hw2 (by omega) (by omega) ?_ ?_ hj⟩
  ·rw [k2.out]
   exact digit_new HV1.out HV2.out
  ·rw [Int.sub_add_cancel]
   exact k4.out
theorem digit {v : List Int} (hv : W v) {A : Int} {N : Nat} (hN : N < 35184372088832) {sh : Int} {u q : List Int} {j : Nat} (h : Dg v A N u q (j + 1)) {g : Int} (hg : 0 ≤ g ∧ g < 4294967296)
  (h0 : Aside0 ((g - 1) * V v ≤ V (u.drop j))) (h1 : Aside0 (V (u.drop j) < (g + 1) * V v)) (hj : j < q.length) (R : List Int × List Int)
  (next : ∀ u' q',Dg v A N u' q' j → Ev (fun k=>nat_long.l1 k sh v u' (v.length : Int) q' ((j : Int) - 1)) R) :
  Ev (fun k=>nat_long.j4 k sh v u (v.length : Int) q (j : Int) g) R:=by
 have hlu:=h.lu
 have hlq:=h.lq
 have w1 : wrap64 (wrap64 ((j : Int) + (v.length : Int)) + 1) = ((j + v.length + 1 : Nat) : Int):=by
  rw [show wrap64 ((j : Int) + (v.length : Int)) = ((j + v.length : Nat) : Int) by unfold wrap64;omega]
  unfold wrap64
  omega
 have w2 : wrap64 ((j : Int) - 1) = (j : Int) - 1:=by unfold wrap64;omega
 have c2 : (j : Int) < ((j + v.length + 1 : Nat) : Int):=by omega
 have c3 : ((j + v.length + 1 : Nat) : Int) ≤ (u.length : Int):=by omega
 have c4 : (j : Int) + (v.length : Int) < ((j + v.length + 1 : Nat) : Int):=by omega
 have c5 : (j : Int) < (q.length : Int):=by omega
 obtain ⟨u1,hw1,hl1,hs⟩:=digit_steps hv h hg h0.out h1.out hj
 refine Ev_up ?_
 unfold nat_long.j4
 rw [w1,w2,Int.toNat_natCast]
 refine Ev_pos (Int.natCast_nonneg _) ?_
 refine Ev_pos c2 ?_
 refine Ev_pos c3 ?_
 refine Ev_pos c4 ?_
 rcases hs with ⟨e1,hd⟩|⟨e1,gp,u2,e2,hd⟩
 ·refine Ev_some e1 ?_
  refine Ev_neg (by simp) ?_
  refine Ev_pos c5 ?_
  rw [show g % 4294967296 = g by omega]
  exact next _ _ hd
 ·refine Ev_some e1 ?_
  refine Ev_pos rfl ?_
  refine Ev_some e2 ?_
  refine Ev_pos c5 ?_
  rw [wrap_u64_of (x:=g - 1) (by omega) (by omega),show (g - 1) % 4294967296 = g - 1 by omega]
  exact next _ _ hd
theorem Dg.two {v : List Int} (hv : W v) {A : Int} {N n : Nat} {u q : List Int} {j : Nat} (h : Dg v A N u q (j + 1)) (hn : v.length = n + 2) (hp : 0 < rd v ((n + 1 : Nat) : Int)) :
  Two (V (u.drop j)) (V v) (rd u ((j + n + 2 : Nat) : Int) * 4294967296 + rd u ((j + n + 1 : Nat) : Int)) (rd u ((j + n : Nat) : Int)) (rd v ((n + 1 : Nat) : Int)) (rd v (n : Int)) (P n) (V ((u.drop j).take n)) (V (v.take n)) where
 q:=P_pos n
 x:=by
  have h1:=V_split' (u.drop j) n
  rw [List.drop_drop,V_drop u (j + n),V_drop u (j + n + 1),V_drop u (j + n + 1 + 1)] at h1
  have h2:=h.top hv
  rw [hn] at h2
  rw [show j + n + 1 + 1 + 1 = j + (n + 2) + 1 by omega,h2,show j + n + 1 + 1 = j + n + 2 by omega] at h1
  rw [h1]
  grind
 d:=by
  have h1:=V_split' v n
  rw [V_drop v n,V_drop v (n + 1),List.drop_of_length_le (by omega),V_nil] at h1
  rw [h1]
  grind
 xl:=⟨V_nonneg (W_take (W_drop h.wu j) n),V_take_lt (W_drop h.wu j) n⟩
 dl:=⟨V_nonneg (W_take hv n),V_take_lt hv n⟩
 u2:=W_rd h.wu _
 v2:=W_rd hv _
 v1:=⟨hp,(W_rd hv _).2⟩
 top:=by
  have h1:=W_rd h.wu ((j + n + 2 : Nat) : Int)
  have h2:=W_rd h.wu ((j + n + 1 : Nat) : Int)
  omega
 lt:=h.x
theorem Two.start {X D top u2 v1 v2 Q xl dl : Int} (h : Two X D top u2 v1 v2 Q xl dl) : Gs X D top v1 (top / v1) (top % v1) where
 lt:=h.first
 e:=by
  have:=Int.emod_add_mul_ediv top v1
  rw [Int.mul_comm]
  omega
 r:=by
  have h1:=h.v1
  have h2:=Int.emod_nonneg top (show v1 ≠ 0 by omega)
  have h3:=Int.emod_lt_of_pos top h1.1
  omega
 g:=by
  have h1:=h.top
  have h2:=Int.ediv_nonneg h1.1 (Int.le_of_lt h.v1.1)
  have h3:=Int.ediv_le_self v1 h1.1
  omega
theorem v_pos {v : List Int} (hv : W v) {n : Nat} (hn : v.length = n + 2) (hp : 0 < rd v ((n + 1 : Nat) : Int)) : 0 < V v:=by
 have h1:=V_split' v (n + 1)
 have h2:=V_nonneg (W_take hv (n + 1))
 rw [V_drop v (n + 1),List.drop_of_length_le (by omega),V_nil,Int.mul_zero,Int.add_zero] at h1
 have h4 : 0 < P (n + 1) * rd v ((n + 1 : Nat) : Int):=Int.mul_pos (P_pos (n + 1)) hp
 omega
theorem Dg.done {v : List Int} (hv : W v) (hvp : 0 < V v) {A : Int} {N : Nat} {u q : List Int} (h : Dg v A N u q 0) : V q = A / V v ∧ V (u.take v.length) = A % V v:=by
 have hlt:=h.lt
 have hge:=V_nonneg h.wu
 rw [P_zero,Int.one_mul] at hlt
 have e:=h.e
 have h2 : V (u.take v.length) = V u:=by
  have h3:=V_split' u v.length
  have h4:=V_nonneg (W_drop h.wu v.length)
  have h5:=V_lt hv
  have h6:=V_nonneg (W_take h.wu v.length)
  rcases (show V (u.drop v.length) = 0 ∨ 1 ≤ V (u.drop v.length) by omega) with h7|h7
  ·rw [h7,Int.mul_zero] at h3
   omega
  ·have h8 : P v.length * 1 ≤ P v.length * V (u.drop v.length):=Int.mul_le_mul_of_nonneg_left h7 (by have:=P_pos v.length;omega)
   omega
 have d1 : A / V v = V q:=by rw [← e,Int.add_mul_ediv_left _ _ (by omega),Int.ediv_eq_zero_of_lt hge hlt];omega
 have d2 : A % V v = V u:=by rw [← e,Int.add_mul_emod_self_left,Int.emod_eq_of_lt hge hlt]
 exact ⟨d1.symm,by rw [h2,d2]⟩
theorem long_l1 {v : List Int} (hv : W v) {n : Nat} (hn : v.length = n + 2) (hp : 0 < rd v ((n + 1 : Nat) : Int)) {A : Int} {N : Nat} (hN : N < 35184372087809) {r : Nat} (hr : r < 32) : ∀ (j : Nat) (u q : List Int),j ≤ q.length → Dg v A N u q j →
  Ev (fun k=>nat_long.l1 k (r : Int) v u (v.length : Int) q ((j : Int) - 1)) (L (A / V v),L (A % V v / 2 ^ r)):=by
 have hvp:=Aside0.mk (v_pos hv hn hp)
 intro j
 induction j with
|zero =>
  intro u q hj h
  have hlu:=h.lu
  have hlq:=h.lq
  have hd:=h.done hv hvp.out
  have c1 : ((v.length : Nat) : Int) ≤ (u.length : Int):=by omega
  have c2 : (u.take v.length).length < 35184372087809:=by rw [List.length_take];omega
  refine Ev_up ?_
  unfold nat_long.l1
  refine Ev_neg (by omega) ?_
  refine Ev_some (trim_f h.wq) ?_
  refine Ev_pos (Int.natCast_nonneg _) ?_
  refine Ev_pos c1 ?_
  rw [Int.toNat_natCast]
  refine Ev.bind (nshr_f (W_take h.wu _) c2 hr) ?_
  refine Ev_now ?_
  rw [hd.1,hd.2]
|succ j ih =>
  intro u q hj h
  have hlu:=h.lu
  have hlq:=h.lq
  have w0 : ((j + 1 : Nat) : Int) - 1 = (j : Int):=by omega
  have w1 : wrap64 ((j : Int) + (v.length : Int)) = ((j + n + 2 : Nat) : Int):=by unfold wrap64;omega
  have w2 : wrap64 (((j + n + 2 : Nat) : Int) - 1) = ((j + n + 1 : Nat) : Int):=by unfold wrap64;omega
  have w3 : wrap64 ((v.length : Int) - 1) = ((n + 1 : Nat) : Int):=by unfold wrap64;omega
  have c1 : ((j + n + 2 : Nat) : Int) < (u.length : Int):=by omega
  have c2 : ((j + n + 1 : Nat) : Int) < (u.length : Int):=by omega
  have c3 : ((n + 1 : Nat) : Int) < (v.length : Int):=by omega
  have c4 : j + n + 2 < u.length:=by omega
  have c5 : u.length < 35184372088832:=by omega
  have c6 : N < 35184372088832:=by omega
  have c7 : j < q.length:=by omega
  have c8 : ((v.length : Int)) = ((n + 2 : Nat) : Int):=by omega
  have h2:=h.two hv hn hp
  have hs:=h2.start
  have r0:=W_rd h.wu ((j + n + 2 : Nat) : Int)
  have r1:=W_rd h.wu ((j + n + 1 : Nat) : Int)
  have rv:=W_rd hv ((n + 1 : Nat) : Int)
  have htop:=h2.top
  have eo : Go.bits .or .u64 (IntKind.u64.wrap (IntKind.u64.wrap (rd u ((j + n + 2 : Nat) : Int)) * 4294967296)) (IntKind.u64.wrap (rd u ((j + n + 1 : Nat) : Int))) = rd u ((j + n + 2 : Nat) : Int) * 4294967296 + rd u ((j + n + 1 : Nat) : Int):=by
   rw [wrap_u64_of (x:=rd u ((j + n + 2 : Nat) : Int)) (by omega) (by omega),wrap_u64_of (x:=rd u ((j + n + 2 : Nat) : Int) * 4294967296) (by omega) (by omega),wrap_u64_of (x:=rd u ((j + n + 1 : Nat) : Int)) (by omega) (by omega),or64_f r0 r1]
  have ev : IntKind.u64.wrap (rd v ((n + 1 : Nat) : Int)) = rd v ((n + 1 : Nat) : Int):=wrap_u64_of (by omega) (by omega)
  have wg:=wrap_u64_of hs.g.1 hs.g.2
  have np : ¬ rd v ((n + 1 : Nat) : Int) = 0:=by omega
  refine Ev_up ?_
  unfold nat_long.l1
  rw [w0,w1,w2,w3,eo,ev,Int.tdiv_eq_ediv_of_nonneg htop.1,Int.tmod_eq_emod_of_nonneg htop.1,wg]
  refine Ev_pos (Int.natCast_nonneg _) ?_
  refine Ev_pos (Int.natCast_nonneg _) ?_
  refine Ev_pos c1 ?_
  refine Ev_pos (Int.natCast_nonneg _) ?_
  refine Ev_pos c2 ?_
  refine Ev_pos (Int.natCast_nonneg _) ?_
  refine Ev_pos c3 ?_
  refine Ev_neg np ?_
  rw [c8]
  refine guess_l h.wu hv hn c4 c5 h2 rfl rfl rfl _ (fun g' ga gb gc gd=>?_) _ _ _ (Nat.le_refl _) hs
  rw [← c8]
  exact digit hv c6 h ⟨ga,gb⟩ ⟨gc⟩ ⟨gd⟩ c7 _ (fun u' q' hd=>ih u' q' (by have:=hd.lq;omega) hd)
end Go.Proofs.YtncdiodnbkhacaaDoor.N
end
section
namespace Go.Proofs.YtncdiodnbkhacaaDoor.N
set_option linter.unusedVariables false
set_option linter.unusedSimpArgs false
open Go Go.RowKit Go.Proofs.YtncdiodnbkhacaaDoorW.PrintWords Go.Proofs.YtncdiodnbkhacaaDoorW.PrintLast Go.Proofs.YtncdiodnbkhacaaDoorW.PrintMore Go.Proofs.YtncdiodnbkhacaaDoor.Pq
theorem shifted_length {y : Int} (hy : 0 < y) {i r : Nat} (hi : (L y).length = i + 1) (hr : (r : Int) = 32 - bl (rd (L y) (i : Int))) (hp : 0 < rd (L y) (i : Int)) : (L (y * 2 ^ r)).length = i + 1:=by
 have h1:=bl_V (W_L y) i hi hp
 rw [V_L (by omega)] at h1
 have h2:=bl_shift hy r
 have hpow : (0 : Int) < 2 ^ r:=Int.pow_pos (by decide)
 have hpos : 0 < y * 2 ^ r:=Int.mul_pos hy hpow
 have h3:=bl_log hpos
 have h4 : bl (y * 2 ^ r) = ((y * 2 ^ r).toNat.log2 : Int) + 1:=bl_of h3.1 h3.2
 have h5 : (y * 2 ^ r).toNat.log2 + 1 = 32 * (i + 1):=by omega
 rw [h5,← P_pow] at h3
 have h6 : P i ≤ 2 ^ (y * 2 ^ r).toNat.log2:=by
  rw [P_pow]
  exact two_pow_mono (by omega)
 have h7:=L_length_le (i + 1) h3.2
 have h8:=L_length_lt (Int.le_trans h6 h3.1)
 omega
theorem L_le {x : Int} (h0 : 0 ≤ x) : x < P (L x).length:=by
 have:=V_lt (W_L x)
 rwa [V_L h0] at this
theorem P_le_of_length {y : Int} (hy : 0 ≤ y) {i : Nat} (hi : (L y).length = i + 1) : P i ≤ y:=by
 rcases Int.lt_or_le y (P i) with h|h
 ·have:=L_length_le i h
  omega
 ·exact h
theorem long_l0 {a v : List Int} {A : Int} {r : Nat} {R : List Int × List Int} (ha : a.length < 35184372087800) {n : Nat} (hn : n ≤ a.length)
  (next : ∀ u,W u → u.length = a.length + 1 → Aside0 (V u = A) → Ev (fun k=>nat_long.l1 k (r : Int) v u (n : Int) (List.replicate (a.length + 1 - n) 0) (((a.length + 1 - n : Nat) : Int) - 1)) R) :
  ∀ (d : Nat) (u : List Int),a.length + 1 - u.length = d → u.length ≤ a.length + 1 → W u → Aside0 (V u = A) → Ev (fun k=>nat_long.l0 k a (r : Int) v u (n : Int)) R:=by
 intro d
 induction d with
|zero =>
  intro u hd hl hw hv
  have hul : u.length = a.length + 1:=by omega
  have w1 : wrap64 ((u.length : Int) - (n : Int)) = ((a.length + 1 - n : Nat) : Int):=by unfold wrap64;omega
  have w2 : wrap64 (((a.length + 1 - n : Nat) : Int) - 1) = ((a.length + 1 - n : Nat) : Int) - 1:=by unfold wrap64;omega
  refine Ev_up ?_
  unfold nat_long.l0
  rw [w1,w2,Int.toNat_natCast]
  refine Ev_neg (by omega) ?_
  refine Ev_pos (Int.natCast_nonneg _) ?_
  refine Ev_pos (by omega) ?_
  exact next u hw hul hv
|succ d ih =>
  intro u hd hl hw hv
  refine Ev_up ?_
  unfold nat_long.l0
  refine Ev_pos (by omega) ?_
  refine Ev_pos (by omega) ?_
  refine ih (u ++ [0]) (by simp;omega) (by simp;omega) (W_append hw (W_one (by decide) (by decide))) ⟨?_⟩
  rw [V_snoc,Int.mul_zero,Int.add_zero]
  exact hv.out
theorem dg_start {x y : Int} {v u : List Int} {i r la : Nat} (hx0 : 0 ≤ x) (hxl : x < P la) (hyl : P i ≤ y) (hvv : V v = y * 2 ^ r) (hvl : v.length = i + 1) (hila : i + 1 ≤ la)
  (hu : W u) (hul : u.length = la + 1) (huv : V u = x * 2 ^ r) : Dg v (x * 2 ^ r) (la + 1) u (List.replicate (la + 1 - (i + 1)) 0) (la + 1 - (i + 1)) where
 wu:=hu
 wq:=W_replicate _
 lu:=hul
 lq:=by rw [List.length_replicate];omega
 lt:=by
  have hpow : (0 : Int) < 2 ^ r:=Int.pow_pos (by decide)
  have h1 : P (la + 1 - (i + 1)) * P i ≤ P (la + 1 - (i + 1)) * y:=Int.mul_le_mul_of_nonneg_left hyl (Int.le_of_lt (P_pos _))
  rw [← P_add,show la + 1 - (i + 1) + i = la by omega] at h1
  have h2 : x * 2 ^ r < P (la + 1 - (i + 1)) * y * 2 ^ r:=Int.mul_lt_mul_of_pos_right (Int.lt_of_lt_of_le hxl h1) hpow
  rw [huv,hvv,← Int.mul_assoc]
  exact h2
 e:=by rw [V_replicate,Int.mul_zero,Int.add_zero,huv]
 z:=fun m _=>rd_replicate _ _
theorem lz_f {t : Int} (h0 : 0 < t) (h1 : t < 4294967296) : bits_LeadingZeros32.f t = some (32 - bl t):=by
 have h2:=bl_pos h0
 have h3:=bl_32 h1
 unfold bits_LeadingZeros32.f
 rw [len32_f (Int.le_of_lt h0) h1,Option.bind_some,show wrap64 (32 - bl t) = 32 - bl t by unfold wrap64;omega]
theorem div_shift {x y : Int} (hy : 0 < y) (r : Nat) : x * 2 ^ r / (y * 2 ^ r) = x / y ∧ x * 2 ^ r % (y * 2 ^ r) / 2 ^ r = x % y:=by
 have hpow : (0 : Int) < 2 ^ r:=Int.pow_pos (by decide)
 constructor
 ·exact Int.mul_ediv_mul_of_pos_left x y hpow
 ·rw [Int.mul_comm x,Int.mul_comm y,Int.mul_emod_mul_of_pos _ _ hpow,Int.mul_comm]
  exact Int.mul_ediv_cancel _ (by omega)
theorem long_f {x y : Int} (hy : 0 < y) (hyx : y ≤ x) (h2 : 2 ≤ (L y).length) (hl : (L x).length < 35184360000000) : Ev (fun k=>nat_long.f k (L x) (L y)) (L (x / y),L (x % y)):=by
 obtain ⟨i,hi,hp⟩:=rd_last hy
 have rt:=W_rd (W_L y) (i : Int)
 have hb1:=bl_pos hp
 have hb2:=bl_32 rt.2
 obtain ⟨r,hr⟩ : ∃ r : Nat,(r : Int) = 32 - bl (rd (L y) (i : Int)):=⟨(32 - bl (rd (L y) (i : Int))).toNat,by omega⟩
 have hr32 : r < 32:=by omega
 have hr65 : (r : Int) ≤ 65536:=by omega
 have hx0 : 0 ≤ x:=by omega
 have hy0 : 0 ≤ y:=by omega
 have hxl:=L_le hx0
 have hyl:=P_le_of_length hy0 hi
 have hvl:=shifted_length hy hi hr hp
 have hila : i + 1 ≤ (L x).length:=by
  have:=L_length_lt (Int.le_trans hyl hyx)
  omega
 have hpow : (0 : Int) < 2 ^ r:=Int.pow_pos (by decide)
 have hys : 0 < y * 2 ^ r:=Int.mul_pos hy hpow
 have hxs : 0 ≤ x * 2 ^ r:=Int.mul_nonneg hx0 (by omega)
 have hvv : V (L (y * 2 ^ r)) = y * 2 ^ r:=V_L (by omega)
 have huv : V (L (x * 2 ^ r)) = x * 2 ^ r:=V_L hxs
 obtain ⟨n,rfl⟩ : ∃ n,i = n + 1:=⟨i - 1,by omega⟩
 obtain ⟨i',hi',hp'⟩:=rd_last hys
 have hii : i' = n + 1:=by omega
 subst hii
 have hul : (L (x * 2 ^ r)).length ≤ (L x).length + 1:=by
  refine L_length_le _ ?_
  rw [P_succ,Int.mul_comm 4294967296]
  have h3:=two_pow_le hr32
  have h4 : x * 2 ^ r < P (L x).length * 2 ^ r:=Int.mul_lt_mul_of_pos_right hxl hpow
  have h5 : P (L x).length * 2 ^ r ≤ P (L x).length * 4294967296:=Int.mul_le_mul_of_nonneg_left h3 (Int.le_of_lt (P_pos _))
  omega
 have w1 : wrap64 (((L y).length : Int) - 1) = ((n + 1 : Nat) : Int):=by unfold wrap64;omega
 have c1 : ((n + 1 : Nat) : Int) < ((L y).length : Int):=by omega
 have c2 : (L y).length < 35184370000000:=by omega
 have c3 : (L x).length < 35184370000000:=by omega
 have c4 : (L x).length < 35184372087800:=by omega
 have c5 : (L x).length + 1 < 35184372087809:=by omega
 have c6 : (L (y * 2 ^ r)).length ≤ (L x).length:=by omega
 have s1:=nshl_f (W_L y) c2 (r : Int)
 have s2:=nshl_f (W_L x) c3 (r : Int)
 rw [V_L hy0,shS_ok (Int.natCast_nonneg _) hr65,Int.toNat_natCast] at s1
 rw [V_L hx0,shS_ok (Int.natCast_nonneg _) hr65,Int.toNat_natCast] at s2
 have hds:=div_shift (x:=x) hy r
 unfold nat_long.f
 rw [w1]
 refine Ev_pos (Int.natCast_nonneg _) ?_
 refine Ev_pos c1 ?_
 refine Ev_some (lz_f hp rt.2) ?_
 rw [← hr]
 refine Ev.bind s1 ?_
 refine Ev.bind s2 ?_
 refine long_l0 c4 c6 (A:=x * 2 ^ r) (fun u hu hul' huv'=>?_) _ _ rfl hul (W_L _) ⟨huv⟩
 have hdg:=dg_start hx0 hxl hyl hvv (by omega : (L (y * 2 ^ r)).length = n + 1 + 1) hila hu hul' huv'.out
 have e:=long_l1 (W_L (y * 2 ^ r)) hi' hp' c5 hr32 _ u _ (by rw [List.length_replicate];exact Nat.le_refl _) hdg
 rw [hvv,hds.1,hds.2] at e
 rw [hvl]
 rw [hvl] at e
 exact e
def dmS (x y : Int) : List Int × List Int × Bool:=if y = 0 then ([],[],false) else (L (x / y),L (x % y),true)
theorem ndm_f {a b : List Int} (ha : W a) (hb : W b) (sa : a.length < 35184360000000) (sb : b.length < 35184360000000) : Ev (fun k=>nat_DivMod.f k a b) (dmS (V a) (V b)):=by
 have va:=V_nonneg ha
 have vb:=V_nonneg hb
 have la:=L_len_le ha
 have lb:=L_len_le hb
 have hsa : Sm (L (V a)):=by unfold Sm;omega
 have hsb : Sm (L (V b)):=by unfold Sm;omega
 have sa' : (L (V a)).length < 35184372087809:=by omega
 have sa2 : (L (V a)).length < 35184360000000:=by omega
 refine Ev_some (trim_f ha) ?_
 refine Ev_some (trim_f hb) ?_
 generalize V a = x at *
 generalize V b = y at *
 unfold dmS
 by_cases hy : y = 0
 ·subst hy
  rw [if_pos rfl,L_zero]
  refine Ev_pos rfl ?_
  exact Ev.now _
 ·rw [if_neg hy]
  have hne : (L y).length ≠ 0:=fun e=>hy ((L_nil_iff vb).1 (List.eq_nil_of_length_eq_zero e))
  have hyp : 0 < y:=by omega
  have n1 : ¬ ((L y).length : Int) = 0:=by omega
  have hc:=ncmp_f (W_L x) (W_L y) hsa hsb
  rw [V_L va,V_L vb] at hc
  refine Ev_neg n1 ?_
  refine Ev.bind hc ?_
  by_cases h : x < y
  ·refine Ev_pos (cm_neg.2 h) ?_
   have hn:=norm_f (W_L x) hsa
   rw [V_L va] at hn
   refine Ev_some hn ?_
   rw [Int.ediv_eq_zero_of_lt va h,Int.emod_eq_of_lt va h,L_zero]
   exact Ev.now _
  ·refine Ev_neg (fun e=>h (cm_neg.1 e)) ?_
   by_cases h1 : ((L y).length : Int) = 1
   ·refine Ev_pos h1 ?_
    refine Ev_pos (by omega) ?_
    obtain ⟨z,hz⟩:=List.length_eq_one_iff.1 (show (L y).length = 1 by omega)
    have hv:=V_L vb
    rw [hz,V_one] at hv
    subst hv
    have hw:=W_L z
    rw [hz] at hw
    have hzb:=hw z (List.mem_singleton.2 rfl)
    have hs:=small_f (W_L x) (dv:=z) ⟨hyp,hzb.2⟩ sa'
    rw [V_L va] at hs
    rw [hz]
    refine Ev.bind hs ?_
    exact Ev.now _
   ·refine Ev_neg h1 ?_
    refine Ev.bind (long_f hyp (by omega) (by omega) sa2) ?_
    exact Ev.now _
end Go.Proofs.YtncdiodnbkhacaaDoor.N
end
section
namespace Go.Proofs.YtncdiodnbkhacaaDoor.N
set_option linter.unusedVariables false
set_option linter.unusedSimpArgs false
open Go Go.RowKit Go.Proofs.YtncdiodnbkhacaaDoorW.PrintWords Go.Proofs.YtncdiodnbkhacaaDoorW.PrintLast Go.Proofs.YtncdiodnbkhacaaDoorW.PrintMore Go.Proofs.YtncdiodnbkhacaaDoor.Pq
theorem half_limb {lo hi Y Z X : Int} (h : X = lo + 4294967296 * Y) (hY : Y = hi + 4294967296 * Z) : X / 2 = (hi % 2 * 4294967296 + lo) / 2 + 4294967296 * (Y / 2):=by omega
theorem half_word {h lo : Int} (hh : 0 ≤ h ∧ h < 4294967296) (hl : 0 ≤ lo ∧ lo < 4294967296) :
  (IntKind.u64.wrap (Int.tdiv (IntKind.u64.wrap ((IntKind.u64.wrap ((Int.tmod h 2) * 4294967296)) + (IntKind.u64.wrap lo))) 2)) % 4294967296 = (h % 2 * 4294967296 + lo) / 2:=by
 rw [Int.tmod_eq_emod_of_nonneg hh.1,wrap_u64_of (x:=h % 2 * 4294967296) (by omega) (by omega),wrap_u64_of (x:=lo) (by omega) (by omega),wrap_u64_of (x:=h % 2 * 4294967296 + lo) (by omega) (by omega),
  Int.tdiv_eq_ediv_of_nonneg (by omega),wrap_u64_of (by omega) (by omega)]
 omega
theorem rhalf_l {l : List Int} (hl : W l) (hn : l.length < 35184372087809) : ∀ (d i : Nat) (p : List Int),l.length - i = d → i ≤ l.length → W p → p.length = i →
  Aside0 (V p + P i * (V (l.drop i) / 2) = V l / 2) → Ev (fun k=>penumbraref01_Half.l0 k l p (i : Int)) (L (V l / 2)):=by
 intro d
 induction d with
|zero =>
  intro i p hd hi hw hp HV
  obtain rfl : i = l.length:=by omega
  have hv:=HV.out
  rw [List.drop_length,V_nil,Int.zero_ediv,Int.mul_zero,Int.add_zero] at hv
  refine Ev_up ?_
  unfold penumbraref01_Half.l0
  refine Ev_neg (by omega) ?_
  refine Ev.bind (rnorm_f hw (by omega)) ?_
  refine Ev_now ?_
  rw [hv]
|succ d ih =>
  intro i p hd hi hw hp HV
  have w1 : wrap64 ((i : Int) + 1) = ((i + 1 : Nat) : Int):=by unfold wrap64;omega
  have rl:=W_rd hl (i : Int)
  have rh:=W_rd hl ((i + 1 : Nat) : Int)
  have SL:=Aside0.mk (half_limb (V_drop l i) (V_drop l (i + 1)))
  have c1 : (i : Int) < (l.length : Int):=by omega
  have c2 : p.length < 35184372088832:=by omega
  have c3 : 0 ≤ (rd l ((i + 1 : Nat) : Int) % 2 * 4294967296 + rd l (i : Int)) / 2:=by omega
  have c4 : (rd l ((i + 1 : Nat) : Int) % 2 * 4294967296 + rd l (i : Int)) / 2 < 4294967296:=by omega
  have hrec:=ih (i + 1) (p ++ [(rd l ((i + 1 : Nat) : Int) % 2 * 4294967296 + rd l (i : Int)) / 2]) (by omega) (by omega) (W_append hw (W_one c3 c4)) (by simp [hp]) ⟨by
   have hv:=HV.out
   rw [SL.out] at hv
   rw [V_snoc,hp,P_succ]
   clear ih
   grind⟩
  refine Ev_up ?_
  unfold penumbraref01_Half.l0
  rw [w1]
  refine Ev_pos c1 ?_
  refine Ev_some (limb_f hl (i + 1)) ?_
  refine Ev_pos (Int.natCast_nonneg _) ?_
  refine Ev_pos c2 ?_
  rw [half_word rh rl]
  exact hrec
theorem Nm.half {l : List Int} {n : Nat} {x : Int} (h : Nm l n x) (hn : n < 35184372087809) : Ev (fun k=>penumbraref01_Half.f k l) (N.L (x / 2)):=by
 have h1:=h.le
 have e:=rhalf_l h.w (by omega) _ 0 [] rfl (Nat.zero_le _) W_nil rfl ⟨by rw [V_nil,P_zero,List.drop_zero];omega⟩
 rw [h.v] at e
 exact e
theorem Nm.radd {a b : List Int} {m n : Nat} {x y : Int} (h : Nm a m x) (k : Nm b n y) (hm : m < 35184372087809) (hn : n < 35184372087809) : Ev (fun r=>penumbraref01_Add.f r a b) (N.L (x + y)):=by
 have h1:=h.le
 have h2:=k.le
 have e:=radd_f h.w k.w (by unfold Sm;omega) (by unfold Sm;omega)
 rwa [h.v,k.v] at e
theorem Nm.rsub {a b : List Int} {m n : Nat} {x y : Int} (h : Nm a m x) (k : Nm b n y) (hm : m < 35184372087809) (hn : n < 35184372087809) : Ev (fun r=>penumbraref01_Sub.f r a b) (subS x y):=by
 have h1:=h.le
 have h2:=k.le
 have e:=rsub_f h.w k.w (by unfold Sm;omega) (by unfold Sm;omega)
 rwa [h.v,k.v] at e
theorem Nm.rcmp {a b : List Int} {m n : Nat} {x y : Int} (h : Nm a m x) (k : Nm b n y) (hm : m < 35184372087809) (hn : n < 35184372087809) : Ev (fun r=>penumbraref01_Cmp.f r a b) (cm x y):=by
 have h1:=h.le
 have h2:=k.le
 have e:=rcmp_f h.w k.w (by unfold Sm;omega) (by unfold Sm;omega)
 rwa [h.v,k.v] at e
theorem Nm.rnrm {a : List Int} {m : Nat} {x : Int} (h : Nm a m x) (hm : m < 35184372087809) : Ev (fun r=>penumbraref01_Norm.f r a) (N.L x):=by
 have h1:=h.le
 have e:=rnorm_f h.w (by omega)
 rwa [h.v] at e
theorem Nm.zero : Nm (N.L 0) 0 0:=by rw [L_zero];exact Nm.nil
theorem cm_zero_iff {x y : Int} : cm x y = 0 ↔ x = y:=by
 unfold cm
 by_cases h1 : x < y
 ·rw [if_pos h1];omega
 ·rw [if_neg h1]
  by_cases h2 : y < x
  ·rw [if_pos h2];omega
  ·rw [if_neg h2];omega
theorem Nm.rzero {a : List Int} {m : Nat} {x : Int} (h : Nm a m x) (hm : m < 35184372087809) : Ev (fun r=>penumbraref01_Zero.f r a) (decide (x = 0)):=by
 refine Ev.bind (h.rcmp Nm.nil hm (by decide)) ?_
 refine Ev_now ?_
 congr 1
 rw [Bool.eq_iff_iff]
 simp [cm_zero_iff]
theorem top_le {r : Int} (h0 : 0 ≤ r) {e : Nat} (he : (L r).length = e + 1) : rd (L r) (e : Int) * P e ≤ r ∧ r < (rd (L r) (e : Int) + 1) * P e:=by
 have h1:=V_split' (L r) e
 have h2:=V_nonneg (W_take (W_L r) e)
 have h3:=V_take_lt (W_L r) e
 rw [V_drop (L r) e,List.drop_of_length_le (by omega),V_nil,V_L h0,Int.mul_zero,Int.add_zero,Int.mul_comm (P e)] at h1
 rw [Int.add_mul,Int.one_mul]
 omega
theorem top2_le {r : Int} (h0 : 0 ≤ r) {e : Nat} (he : (L r).length = e + 2) : (rd (L r) ((e + 1 : Nat) : Int) * 4294967296 + rd (L r) (e : Int)) * P e ≤ r:=by
 have h1:=V_split' (L r) e
 have h2:=V_nonneg (W_take (W_L r) e)
 rw [V_drop (L r) e,V_drop (L r) (e + 1),List.drop_of_length_le (by omega),V_nil,V_L h0,Int.mul_zero,Int.add_zero,Int.mul_comm (P e),Int.add_comm (rd (L r) (e : Int)),Int.mul_comm 4294967296] at h1
 omega
theorem guess_le {a tp t d r : Int} {pl f e : Nat} (he : pl + f = e) (ht0 : 0 ≤ t) (ht : t * tp ≤ a) (hd : d ≤ tp * P f) (hr : a * P e ≤ r) : t * P pl * d ≤ r:=by
 subst he
 have h1 : t * P pl * d ≤ t * P pl * (tp * P f):=Int.mul_le_mul_of_nonneg_left hd (Int.mul_nonneg ht0 (Int.le_of_lt (P_pos _)))
 have h2 : t * tp * P (pl + f) ≤ a * P (pl + f):=Int.mul_le_mul_of_nonneg_right ht (Int.le_of_lt (P_pos _))
 have h3 : t * P pl * (tp * P f) = t * tp * P (pl + f):=by rw [P_add];grind
 rw [h3] at h1
 exact Int.le_trans h1 (Int.le_trans h2 hr)
theorem at_f {t : Int} (h0 : 0 ≤ t) (h1 : t < 18446744073709551616) {pl : Nat} (hp : pl < 35184372088000) : ∃ s,penumbraref01_at.f t (pl : Int) = some s ∧ Nm s (pl + 2) (t * P pl):=by
 refine ⟨List.replicate pl 0 ++ [t % 4294967296,t / 4294967296],?_,?_,?_,?_⟩
 ·unfold penumbraref01_at.f
  rw [if_pos (Int.natCast_nonneg _),Int.toNat_natCast,if_pos (by omega),Option.bind_some,Option.bind_some,Int.tmod_eq_emod_of_nonneg h0,Int.tdiv_eq_ediv_of_nonneg h0,wrap_u64_of (x:=t / 4294967296) (by omega) (by omega),
   Int.emod_emod,show t / 4294967296 % 4294967296 = t / 4294967296 by omega,if_pos (by simp;omega)]
 ·exact W_append (W_replicate _) (W_cons.2 ⟨by omega,W_one (by omega) (by omega)⟩)
 ·rw [V_append,V_replicate,List.length_replicate,V_cons,V_one,Int.zero_add,Int.mul_comm]
  congr 1
  omega
 ·simp
theorem rdm_j4 {d tp r q t : Int} {f N T pl : Nat} (hN : N < 17592186040000) (hpl : pl ≤ N) (hd : 0 < d) (hdr : d ≤ r) (hr : r < P N) (hq : 0 ≤ q) (hqN : q < P N) (ht0 : 0 ≤ t) (ht : t < 18446744073709551616) (hle : t * P pl * d ≤ r) (R : List Int × List Int × Bool)
  (next : Ev (fun k=>penumbraref01_DivMod.l1 k (L d) (L (r - t * P pl * d)) (T : Int) (L (q + t * P pl)) ((f + 1 : Nat) : Int) tp) R) :
  Ev (fun k=>penumbraref01_DivMod.j4 k (L d) (L r) (T : Int) (L q) ((f + 1 : Nat) : Int) tp (pl : Int) t) R:=by
 obtain ⟨s,es,hs⟩:=at_f ht0 ht (pl:=pl) (by omega)
 have r0 : 0 ≤ r:=by omega
 have nq:=Nm.L hq hqN
 have nd : Nm (L d) N d:=Nm.L (by omega) (by omega)
 have nr:=Nm.L r0 hr
 have g0 : 0 ≤ t * P pl * d:=Int.mul_nonneg (Int.mul_nonneg ht0 (Int.le_of_lt (P_pos _))) (by omega)
 have ng : Nm (L (t * P pl * d)) N (t * P pl * d):=Nm.L g0 (by omega)
 refine Ev_up ?_
 unfold penumbraref01_DivMod.j4
 refine Ev_some es ?_
 refine Ev.bind (nq.radd hs (by omega) (by omega)) ?_
 refine Ev.bind (hs.rmul nd (by omega)) ?_
 refine Ev.bind (nr.rsub ng (by omega) (by omega)) ?_
 rw [show subS r (t * P pl * d) = (L (r - t * P pl * d),true) from if_neg (by omega)]
 exact next
theorem tops {a1 a2 tp : Int} (h1 : 0 < a1 ∧ a1 < 4294967296) (h2 : 0 ≤ a2 ∧ a2 < 4294967296) (h3 : 0 < tp ∧ tp ≤ 4294967296) :
  IntKind.u64.wrap (Int.tdiv (IntKind.u64.wrap (IntKind.u64.wrap (IntKind.u64.wrap a1 * 4294967296) + IntKind.u64.wrap a2)) tp) = (a1 * 4294967296 + a2) / tp ∧ 0 < (a1 * 4294967296 + a2) / tp ∧ (a1 * 4294967296 + a2) / tp < 18446744073709551616:=by
 have b1 : (a1 * 4294967296 + a2) / tp ≤ a1 * 4294967296 + a2:=Int.ediv_le_self _ (by omega)
 have b2 : 0 < (a1 * 4294967296 + a2) / tp:=Int.le_ediv_of_mul_le h3.1 (by omega)
 refine ⟨?_,b2,by omega⟩
 rw [wrap_u64_of (x:=a1) (by omega) (by omega),wrap_u64_of (x:=a1 * 4294967296) (by omega) (by omega),wrap_u64_of (x:=a2) (by omega) (by omega),wrap_u64_of (x:=a1 * 4294967296 + a2) (by omega) (by omega),Int.tdiv_eq_ediv_of_nonneg (by omega),
  wrap_u64_of (Int.le_of_lt b2) (by omega)]
theorem top1 {a1 tp : Int} (h1 : 0 < a1 ∧ a1 < 4294967296) (h3 : 0 < tp) : IntKind.u64.wrap (Int.tdiv (IntKind.u64.wrap a1) tp) = a1 / tp ∧ 0 ≤ a1 / tp ∧ a1 / tp < 18446744073709551616:=by
 have b1 : a1 / tp ≤ a1:=Int.ediv_le_self _ (by omega)
 have b2 : 0 ≤ a1 / tp:=Int.ediv_nonneg (by omega) (by omega)
 refine ⟨?_,b2,by omega⟩
 rw [wrap_u64_of (x:=a1) (by omega) (by omega),Int.tdiv_eq_ediv_of_nonneg (by omega),wrap_u64_of b2 (by omega)]
theorem rdm_l1 {d : Int} (hd : 0 < d) {f : Nat} (hf : (L d).length = f + 1) (hfN : f < 17592186040000) {tp : Int} (htp : tp = rd (L d) (f : Int) + 1) {A : Int} {N : Nat} (hN : N < 17592186040000) (hA : A < P N) {T : Nat} (R : List Int × List Int × Bool)
  (next : Ev (fun k=>penumbraref01_DivMod.l2 k (L (A % d)) (T : Int) (L (A / d)) 0) R) : ∀ (M : Nat) (r q : Int),r.toNat < M → 0 ≤ r → 0 ≤ q → q * d + r = A →
  Ev (fun k=>penumbraref01_DivMod.l1 k (L d) (L r) (T : Int) (L q) ((f + 1 : Nat) : Int) tp) R:=by
 have rt:=W_rd (W_L d) (f : Int)
 have hdt:=top_le (Int.le_of_lt hd) hf
 have hPd:=P_le_of_length (Int.le_of_lt hd) hf
 rw [← htp] at hdt
 have htp0 : 0 < tp:=by omega
 have htp1 : tp ≤ 4294967296:=by omega
 have htpn : ¬ tp = 0:=by omega
 have hdt2:=Aside0.mk (Int.le_of_lt hdt.2)
 clear hdt
 intro M
 induction M with
|zero=>intro r q h;omega
|succ M ih =>
  intro r q hM hr hq hA'
  have hqd : 0 ≤ q * d:=Int.mul_nonneg hq (by omega)
  have hqq : q * 1 ≤ q * d:=Int.mul_le_mul_of_nonneg_left (by omega) hq
  have hrN : r < P N:=by omega
  have hqN : q < P N:=by omega
  have nr:=Nm.L hr hrN
  have hrl:=nr.le
  have hc:=rcmp_f (a:=L r) (b:=L d) (W_L _) (W_L _) (by unfold Sm;omega) (by unfold Sm;omega)
  rw [V_L hr,V_L (by omega)] at hc
  refine Ev_up ?_
  unfold penumbraref01_DivMod.l1
  refine Ev.bind hc ?_
  by_cases hlt : r < d
  ·rw [cm_lt hlt]
   refine Ev_neg (by decide) ?_
   have e1 : A / d = q:=by rw [← hA',Int.add_comm,Int.add_mul_ediv_right _ _ (by omega),Int.ediv_eq_zero_of_lt hr hlt];omega
   have e2 : A % d = r:=by rw [← hA',Int.add_comm,Int.add_mul_emod_self_right,Int.emod_eq_of_lt hr hlt]
   rw [e1,e2] at next
   exact next
  ·have hdr : d ≤ r:=by omega
   have fin : ∀ (pl : Nat) (t : Int),1 ≤ t → t < 18446744073709551616 → pl ≤ N → t * P pl * d ≤ r → Ev (fun k=>penumbraref01_DivMod.j4 k (L d) (L r) (T : Int) (L q) ((f + 1 : Nat) : Int) tp (pl : Int) t) R:=by
    intro pl t ht0 ht1 hpl hle
    have h1 : 1 ≤ t * P pl:=Int.mul_pos (by omega) (P_pos pl)
    have h2 : 1 * d ≤ t * P pl * d:=Int.mul_le_mul_of_nonneg_right h1 (by omega)
    refine rdm_j4 hN hpl hd hdr hrN hq hqN (by omega) ht1 hle R (ih _ _ (by omega) (by omega) (by omega) ?_)
    rw [Int.add_mul]
    omega
   clear ih
   have hc0 : cm r d ≥ 0:=by
    have:=@cm_neg r d
    omega
   refine Ev_pos hc0 ?_
   obtain ⟨e,he,hp⟩:=rd_last (show 0 < r by omega)
   have hfe : f ≤ e:=by
    have:=L_length_lt (Int.le_trans hPd hdr)
    omega
   have ra:=W_rd (W_L r) (e : Int)
   have ht1:=top1 ⟨hp,ra.2⟩ htp0
   have w1 : wrap64 (((L r).length : Int) - 1) = (e : Int):=by unfold wrap64;omega
   have w2 : wrap64 (((L r).length : Int) - ((f + 1 : Nat) : Int)) = ((e - f : Nat) : Int):=by unfold wrap64;omega
   have c1 : (e : Int) < ((L r).length : Int):=by omega
   have hPe:=Aside0.mk (top_le hr he).1
   rw [w1,w2,ht1.1]
   refine Ev_pos (Int.natCast_nonneg _) ?_
   refine Ev_pos c1 ?_
   refine Ev_neg htpn ?_
   by_cases h0 : rd (L r) (e : Int) / tp = 0
   ·refine Ev_pos h0 ?_
    refine Ev_up ?_
    unfold penumbraref01_DivMod.j2
    by_cases hgt : ((L r).length : Int) > ((f + 1 : Nat) : Int)
    ·refine Ev_pos (decide_eq_true hgt) ?_
     obtain ⟨e',rfl⟩ : ∃ e',e = e' + 1:=⟨e - 1,by omega⟩
     have ra2:=W_rd (W_L r) (e' : Int)
     have ht2:=tops ⟨hp,ra.2⟩ ra2 ⟨htp0,htp1⟩
     have w3 : wrap64 (((L r).length : Int) - 2) = (e' : Int):=by unfold wrap64;omega
     have w4 : wrap64 (((e' + 1 - f : Nat) : Int) - 1) = ((e' - f : Nat) : Int):=by unfold wrap64;omega
     have c2 : (e' : Int) < ((L r).length : Int):=by omega
     have c3 : ¬ (rd (L r) ((e' + 1 : Nat) : Int) * 4294967296 + rd (L r) (e' : Int)) / tp = 0:=by omega
     have hP2:=Aside0.mk (top2_le hr he)
     rw [w1,w3,w4,ht2.1]
     refine Ev_pos (Int.natCast_nonneg _) ?_
     refine Ev_pos c1 ?_
     refine Ev_pos (Int.natCast_nonneg _) ?_
     refine Ev_pos c2 ?_
     refine Ev_neg htpn ?_
     refine Ev_up ?_
     unfold penumbraref01_DivMod.j3
     refine Ev_neg c3 ?_
     refine fin _ _ ht2.2.1 ht2.2.2 (by omega) ?_
     exact guess_le (by omega) (Int.le_of_lt ht2.2.1) (Int.ediv_mul_le _ htpn) hdt2.out hP2.out
    ·refine Ev_neg (by rw [decide_eq_true_iff];exact hgt) ?_
     refine Ev_up ?_
     unfold penumbraref01_DivMod.j3
     refine Ev_pos h0 ?_
     refine fin _ 1 (by omega) (by omega) (by omega) ?_
     rw [show e - f = 0 by omega,P_zero,Int.one_mul,Int.one_mul]
     exact hdr
   ·refine Ev_neg h0 ?_
    refine Ev_up ?_
    unfold penumbraref01_DivMod.j2
    refine Ev_neg (by decide) ?_
    refine Ev_up ?_
    unfold penumbraref01_DivMod.j3
    refine Ev_neg h0 ?_
    refine fin _ _ (by omega) ht1.2.2 (by omega) ?_
    exact guess_le (by omega) ht1.2.1 (Int.ediv_mul_le _ htpn) hdt2.out hPe.out
theorem rdm_l2 {T N : Nat} (hT : T < 32) (hN : N < 35184372087809) (q : List Int) : ∀ (c i : Nat) (r : Int),T - i = c → i ≤ T → 0 ≤ r → r < P N →
  Ev (fun k=>penumbraref01_DivMod.l2 k (L r) (T : Int) q (i : Int)) (q,L (r / 2 ^ c),true):=by
 intro c
 induction c with
|zero =>
  intro i r hc hi hr hrN
  refine Ev_up ?_
  unfold penumbraref01_DivMod.l2
  refine Ev_neg (by omega) ?_
  refine Ev_now ?_
  rw [Int.pow_zero,Int.ediv_one]
|succ c ih =>
  intro i r hc hi hr hrN
  have w1 : wrap64 ((i : Int) + 1) = ((i + 1 : Nat) : Int):=by unfold wrap64;omega
  refine Ev_up ?_
  unfold penumbraref01_DivMod.l2
  rw [w1]
  refine Ev_pos (by omega) ?_
  refine Ev.bind ((Nm.L hr hrN).half hN) ?_
  refine Ev_eq (ih (i + 1) (r / 2) (by omega) (by omega) (by omega) (by omega)) ?_
  rw [Int.ediv_ediv_of_nonneg (by decide),Int.pow_succ,Int.mul_comm]
theorem lt_of_bl {x : Int} (h : 0 < x) {n : Nat} (hb : bl x ≤ (n : Int)) : x < 2 ^ n:=by
 obtain ⟨k,hk⟩ : ∃ k,k = x.toNat.log2:=⟨_,rfl⟩
 have h1:=bl_log h
 rw [← hk] at h1
 have h2 : bl x = (k : Int) + 1:=bl_of h1.1 h1.2
 have h3 : k + 1 ≤ n:=by clear h1;omega
 exact Int.lt_of_lt_of_le h1.2 (two_pow_mono h3)
theorem le_of_bl {x : Int} (h : 0 < x) {n : Nat} (hb : (n : Int) < bl x) : 2 ^ n ≤ x:=by
 obtain ⟨k,hk⟩ : ∃ k,k = x.toNat.log2:=⟨_,rfl⟩
 have h1:=bl_log h
 rw [← hk] at h1
 have h2 : bl x = (k : Int) + 1:=bl_of h1.1 h1.2
 have h3 : n ≤ k:=by clear h1;omega
 exact Int.le_trans (two_pow_mono h3) h1.1
theorem shift_lt_P {x : Int} (hx : 0 ≤ x) {t N : Nat} (ht : t < 32) (h : x < P N) : x * 2 ^ t < P (N + 1):=by
 rw [P_succ,Int.mul_comm 4294967296]
 exact Int.lt_of_le_of_lt (Int.mul_le_mul_of_nonneg_left (two_pow_le ht) hx) (Int.mul_lt_mul_of_pos_right h (by decide))
theorem mod_le {X D : Int} (hX : 0 ≤ X) (hD : 0 < D) : X % D ≤ X:=by
 have h1:=Int.emod_add_mul_ediv X D
 have h2 : 0 ≤ D * (X / D):=Int.mul_nonneg (Int.le_of_lt hD) (Int.ediv_nonneg hX (Int.le_of_lt hD))
 omega
theorem rdm_l0 {x y : Int} (hx : 0 ≤ x) (hy : 0 < y) {i T N : Nat} (hi : (L y).length = i + 1) (hT : (T : Int) = 32 * ((i : Int) + 1) - bl y) (hT32 : T < 32) (hN : N + 32 < 17592186040000) (hiN : i < N) (hxN : x < P N) (R : List Int × List Int × Bool)
  (next : ∀ tp,tp = rd (L (y * 2 ^ T)) (i : Int) + 1 → (L (y * 2 ^ T)).length = i + 1 → Ev (fun k=>penumbraref01_DivMod.l1 k (L (y * 2 ^ T)) (L (x * 2 ^ T)) (T : Int) [] ((i + 1 : Nat) : Int) tp) R) :
  ∀ (c t : Nat),T - t = c → t ≤ T → Ev (fun k=>penumbraref01_DivMod.l0 k (L (y * 2 ^ t)) (L (x * 2 ^ t)) (t : Int)) R:=by
 have len : ∀ t,t ≤ T → (L (y * 2 ^ t)).length = i + 1 ∧ 0 < rd (L (y * 2 ^ t)) (i : Int) ∧ bl (rd (L (y * 2 ^ t)) (i : Int)) = bl y + t - 32 * i:=by
  intro t ht
  have hpos : 0 < y * 2 ^ t:=Int.mul_pos hy (Int.pow_pos (by decide))
  have h2:=bl_shift hy t
  have h3:=bl_log hpos
  have h4 : bl (y * 2 ^ t) = ((y * 2 ^ t).toNat.log2 : Int) + 1:=bl_of h3.1 h3.2
  have hPy:=P_le_of_length (Int.le_of_lt hy) hi
  have hby : 32 * (i : Int) < bl y:=by
   obtain ⟨i0,hi0,hp0⟩:=rd_last hy
   obtain rfl : i0 = i:=by omega
   have h5:=bl_V (W_L y) i0 hi hp0
   rw [V_L (by omega)] at h5
   have:=bl_pos hp0
   omega
  have h6 : (y * 2 ^ t).toNat.log2 + 1 ≤ 32 * (i + 1):=by omega
  have h7 : y * 2 ^ t < P (i + 1):=by
   rw [P_pow]
   exact Int.lt_of_lt_of_le h3.2 (two_pow_mono h6)
  have h8 : P i ≤ y * 2 ^ t:=by
   refine Int.le_trans ?_ h3.1
   rw [P_pow]
   exact two_pow_mono (by omega)
  have h9:=L_length_le (i + 1) h7
  have h10:=L_length_lt h8
  have hl : (L (y * 2 ^ t)).length = i + 1:=by omega
  obtain ⟨i1,hi1,hp1⟩:=rd_last hpos
  obtain rfl : i1 = i:=by omega
  have h11:=bl_V (W_L (y * 2 ^ t)) i1 hi1 hp1
  rw [V_L (by omega)] at h11
  exact ⟨hl,hp1,by omega⟩
 have b1 : i + 1 < 35184372088830:=by clear len next;omega
 have b2 : N + 1 < 35184372088830:=by clear len next;omega
 intro c
 induction c with
|zero =>
  intro t hc ht
  obtain rfl : t = T:=by omega
  obtain ⟨hl,hp,hb⟩:=len t (Nat.le_refl _)
  have rt:=W_rd (W_L (y * 2 ^ t)) (i : Int)
  have hn : ¬ rd (L (y * 2 ^ t)) (i : Int) < 2147483648:=by
   have h1:=le_of_bl hp (n:=31) (by omega)
   exact Int.not_lt.2 h1
  have w1 : wrap64 (((L (y * 2 ^ t)).length : Int) - 1) = (i : Int):=by unfold wrap64;omega
  have w2 : IntKind.u64.wrap (IntKind.u64.wrap (rd (L (y * 2 ^ t)) (i : Int)) + 1) = rd (L (y * 2 ^ t)) (i : Int) + 1:=by
   rw [wrap_u64_of (x:=rd (L (y * 2 ^ t)) (i : Int)) (by omega) (by omega),wrap_u64_of (by omega) (by omega)]
  have c1 : (i : Int) < ((L (y * 2 ^ t)).length : Int):=by omega
  refine Ev_up ?_
  unfold penumbraref01_DivMod.l0
  rw [w1,w2]
  refine Ev_pos (Int.natCast_nonneg _) ?_
  refine Ev_pos c1 ?_
  refine Ev_neg hn ?_
  rw [hl]
  exact next _ rfl hl
|succ c ih =>
  intro t hc ht
  have hrec:=ih (t + 1) (by omega) (by omega)
  clear ih
  obtain ⟨hl,hp,hb⟩:=len t ht
  have c1 : (i : Int) < ((L (y * 2 ^ t)).length : Int):=by rw [hl];omega
  have rt:=W_rd (W_L (y * 2 ^ t)) (i : Int)
  have hlt : rd (L (y * 2 ^ t)) (i : Int) < 2147483648:=lt_of_bl hp (n:=31) (by omega)
  have w1 : wrap64 (((L (y * 2 ^ t)).length : Int) - 1) = (i : Int):=by rw [hl];unfold wrap64;omega
  have w2 : wrap64 ((t : Int) + 1) = ((t + 1 : Nat) : Int):=by unfold wrap64;omega
  have hy2 : 0 ≤ y * 2 ^ t:=Int.mul_nonneg (Int.le_of_lt hy) (Int.le_of_lt (Int.pow_pos (by decide)))
  have hx2 : 0 ≤ x * 2 ^ t:=Int.mul_nonneg hx (Int.le_of_lt (Int.pow_pos (by decide)))
  have ny : Nm (L (y * 2 ^ t)) (i + 1) (y * 2 ^ t):=⟨W_L _,V_L hy2,Nat.le_of_eq hl⟩
  have nx : Nm (L (x * 2 ^ t)) (N + 1) (x * 2 ^ t):=Nm.L hx2 (shift_lt_P hx (Nat.lt_of_le_of_lt ht hT32) hxN)
  have e1 : y * 2 ^ (t + 1) = 2 * (y * 2 ^ t) + if false then 1 else 0:=by rw [Int.pow_succ];grind
  have e2 : x * 2 ^ (t + 1) = 2 * (x * 2 ^ t) + if false then 1 else 0:=by rw [Int.pow_succ];grind
  rw [e1,e2] at hrec
  refine Ev_up ?_
  unfold penumbraref01_DivMod.l0
  rw [w1,w2]
  refine Ev_pos (Int.natCast_nonneg _) ?_
  refine Ev_pos c1 ?_
  refine Ev_pos hlt ?_
  refine Ev.bind (ny.double b1 false) ?_
  refine Ev.bind (nx.double b2 false) ?_
  exact hrec
theorem Nm.rdm {a b : List Int} {m n : Nat} {x y : Int} (h : Nm a m x) (k : Nm b n y) (hm : m < 8796093000000) (hn : n < 8796093000000) : Ev (fun r=>penumbraref01_DivMod.f r a b) (dmS x y):=by
 refine Ev.bind (k.rzero (by omega)) ?_
 unfold dmS
 by_cases hy : y = 0
 ·subst hy
  rw [if_pos rfl]
  refine Ev_pos rfl ?_
  exact Ev.now _
 ·rw [if_neg hy]
  refine Ev_neg (by simp [hy]) ?_
  refine Ev.bind (k.rnrm (by omega)) ?_
  refine Ev.bind (h.rnrm (by omega)) ?_
  have hyp : 0 < y:=by have:=k.pos;omega
  have hx:=h.pos
  obtain ⟨i,hi,hp⟩:=rd_last hyp
  have hkl:=k.norm.le
  have hb1:=bl_V (W_L y) i hi hp
  rw [V_L (by omega)] at hb1
  have rt:=W_rd (W_L y) (i : Int)
  have hb2:=bl_pos hp
  have hb3:=bl_32 rt.2
  obtain ⟨T,hT⟩ : ∃ T : Nat,(T : Int) = 32 * ((i : Int) + 1) - bl y:=⟨(32 * ((i : Int) + 1) - bl y).toNat,by omega⟩
  have hT32 : T < 32:=by omega
  have hxN : x < P (m + n):=Int.lt_of_lt_of_le h.lt (P_le (by omega))
  have hpow : (0 : Int) < 2 ^ T:=Int.pow_pos (by decide)
  have hds:=div_shift (x:=x) hyp T
  have hA:=shift_lt_P hx hT32 hxN
  have hys : 0 < y * 2 ^ T:=Int.mul_pos hyp hpow
  have hxs : 0 ≤ x * 2 ^ T:=Int.mul_nonneg hx (Int.le_of_lt hpow)
  have e:=rdm_l0 (R:=(N.L (x / y),N.L (x % y),true)) hx hyp hi hT hT32 (N:=m + n) (by omega) (by omega) hxN ?_ T 0 (by omega) (by omega)
  ·rw [Int.pow_zero,Int.mul_one,Int.mul_one] at e
   exact e
  ·intro tp htp hl
   have h1:=rdm_l1 hys hl (by omega) htp (A:=x * 2 ^ T) (N:=m + n + 1) (by omega) hA (T:=T) (N.L (x / y),N.L (x % y),true) ?_ ((x * 2 ^ T).toNat + 1) (x * 2 ^ T) 0 (by omega) hxs (Int.le_refl _) (by rw [Int.zero_mul,Int.zero_add])
   ·rw [L_zero] at h1
    exact h1
   ·have h2:=rdm_l2 (T:=T) (N:=m + n + 1) hT32 (by omega) (N.L (x * 2 ^ T / (y * 2 ^ T))) T 0 (x * 2 ^ T % (y * 2 ^ T)) (by omega) (by omega) (Int.emod_nonneg _ (by omega)) (Int.lt_of_le_of_lt (mod_le hxs hys) hA)
    rw [hds.2,hds.1] at h2
    rw [hds.1]
    exact h2
theorem Nm.dm {a b : List Int} {m n : Nat} {x y : Int} (h : Nm a m x) (k : Nm b n y) (hm : m < 35184360000000) (hn : n < 35184360000000) : Ev (fun r=>nat_DivMod.f r a b) (dmS x y):=by
 have h1:=h.le
 have h2:=k.le
 have e:=ndm_f h.w k.w (by omega) (by omega)
 rwa [h.v,k.v] at e
end Go.Proofs.YtncdiodnbkhacaaDoor.N
end
section
namespace Go.Proofs.YtncdiodnbkhacaaDoor.N
set_option linter.unusedVariables false
set_option linter.unusedSimpArgs false
open Go Go.RowKit Go.Proofs.YtncdiodnbkhacaaDoorW.PrintWords Go.Proofs.YtncdiodnbkhacaaDoorW.PrintLast Go.Proofs.YtncdiodnbkhacaaDoorW.PrintMore Go.Proofs.YtncdiodnbkhacaaDoor.Pq
def gz (x y : Int) : Int:=(Int.gcd x y : Int)
theorem gz_nonneg (x y : Int) : 0 ≤ gz x y:=Int.natCast_nonneg _
theorem gz_nat (m n : Nat) : gz (m : Int) (n : Int) = (Nat.gcd m n : Int):=by
 unfold gz
 rw [Int.gcd_natCast_natCast]
theorem gz_zero {x : Int} (h : 0 ≤ x) : gz x 0 = x:=by
 obtain ⟨m,rfl⟩:=Int.eq_ofNat_of_zero_le h
 have:=gz_nat m 0
 rw [Nat.gcd_zero_right] at this
 exact this
theorem gz_step {x y : Int} (hx : 0 ≤ x) (hy : 0 ≤ y) : gz y (x % y) = gz x y:=by
 obtain ⟨m,rfl⟩:=Int.eq_ofNat_of_zero_le hx
 obtain ⟨n,rfl⟩:=Int.eq_ofNat_of_zero_le hy
 have e : ((m : Int) % (n : Int)) = ((m % n : Nat) : Int):=rfl
 rw [e,gz_nat,gz_nat,Nat.gcd_comm n,← Nat.gcd_rec,Nat.gcd_comm]
theorem gz_comm (x y : Int) : gz x y = gz y x:=by unfold gz;rw [Int.gcd_comm]
theorem gz_dvd_left (x y : Int) : gz x y ∣ x:=Int.gcd_dvd_left ..
theorem gz_dvd_right (x y : Int) : gz x y ∣ y:=Int.gcd_dvd_right ..
theorem gz_lt {x y B : Int} (hx : 0 ≤ x) (hy : 0 ≤ y) (hxB : x < B) (hyB : y < B) : gz x y < B:=by
 rcases Int.lt_or_eq_of_le hx with h|h
 ·have:=Int.le_of_dvd h (gz_dvd_left x y)
  omega
 ·subst h
  rw [gz_comm,gz_zero hy]
  exact hyB
theorem L_len0 {x : Int} (h : 0 ≤ x) : ((L x).length : Int) = 0 ↔ x = 0:=by
 rw [← L_nil_iff h]
 constructor
 ·intro e;exact List.eq_nil_of_length_eq_zero (by omega)
 ·intro e;rw [e];rfl
theorem dmS_pos {x y : Int} (h : 0 < y) : dmS x y = (L (x / y),L (x % y),true):=if_neg (by omega)
theorem gcd_l0 {N : Nat} (hN : N < 35184360000000) : ∀ (M : Nat) (x y : Int),y.toNat < M → 0 ≤ x → 0 ≤ y → x < P N → y < P N → Ev (fun k=>root_Gcd.l0 k (L x) (L y)) (L (gz x y)):=by
 intro M
 induction M with
|zero=>intro x y h;omega
|succ M ih =>
  intro x y hM hx hy hxN hyN
  have hl:=L_len0 hy
  refine Ev_up ?_
  unfold root_Gcd.l0
  by_cases h0 : y = 0
  ·have h1 : ¬ ((L y).length : Int) > 0:=by rw [hl.2 h0];decide
   refine Ev_neg h1 ?_
   refine Ev_now ?_
   rw [h0,gz_zero hx]
  ·have hp : 0 < y:=by omega
   have h1 : ((L y).length : Int) > 0:=by
    have : ((L y).length : Int) ≠ 0:=fun e=>h0 (hl.1 e)
    omega
   have m0:=Int.emod_nonneg x h0
   have m1:=Int.emod_lt_of_pos x hp
   refine Ev_pos h1 ?_
   refine Ev.bind ((Nm.L hx hxN).dm (Nm.L hy hyN) hN hN) ?_
   rw [dmS_pos hp,← gz_step hx hy]
   exact ih y (x % y) (by omega) hy m0 hyN (by omega)
theorem Nm.gcd {a b : List Int} {m n : Nat} {x y : Int} (h : Nm a m x) (k : Nm b n y) (hm : m < 17592180000000) (hn : n < 17592180000000) : Ev (fun r=>root_Gcd.f r a b) (N.L (gz x y)):=by
 refine Ev_some (h.nrm (by omega)) ?_
 refine Ev_some (k.nrm (by omega)) ?_
 exact gcd_l0 (N:=m + n) (by omega) _ x y (Nat.lt_succ_self _) h.pos k.pos (Int.lt_of_lt_of_le h.lt (P_le (by omega))) (Int.lt_of_lt_of_le k.lt (P_le (by omega)))
theorem Nm.gcdL {a b : List Int} {m n : Nat} {x y : Int} (h : Nm a m x) (k : Nm b n y) : Nm (N.L (gz x y)) (m + n) (gz x y) :=
 Nm.L (gz_nonneg x y) (gz_lt h.pos k.pos (Int.lt_of_lt_of_le h.lt (P_le (by omega))) (Int.lt_of_lt_of_le k.lt (P_le (by omega))))
theorem rgcd_l0 {N : Nat} (hN : N < 8796093000000) : ∀ (M : Nat) (a b : List Int) (x y : Int),y.toNat < M → Nm a N x → Nm b N y → Ev (fun k=>penumbraref02_Gcd.l0 k a b) (L (gz x y)):=by
 intro M
 induction M with
|zero=>intro a b x y h;omega
|succ M ih =>
  intro a b x y hM hx hy
  have px:=hx.pos
  have py:=hy.pos
  refine Ev_up ?_
  unfold penumbraref02_Gcd.l0
  refine Ev.bind (hy.rzero (by omega)) ?_
  by_cases h0 : y = 0
  ·refine Ev_pos (decide_eq_true h0) ?_
   refine Ev.bind (hx.rnrm (by omega)) ?_
   refine Ev_now ?_
   rw [h0,gz_zero px]
  ·have hp : 0 < y:=by omega
   have m0:=Int.emod_nonneg x h0
   have m1:=Int.emod_lt_of_pos x hp
   refine Ev_neg (by rw [decide_eq_true_iff];exact h0) ?_
   refine Ev.bind (hx.rdm hy hN hN) ?_
   rw [dmS_pos hp,← gz_step px py]
   exact ih b (L (x % y)) y (x % y) (by omega) hy (Nm.L m0 (Int.lt_trans m1 hy.lt))
theorem Nm.rgcd {a b : List Int} {m n : Nat} {x y : Int} (h : Nm a m x) (k : Nm b n y) (hm : m < 4398040000000) (hn : n < 4398040000000) : Ev (fun r=>penumbraref02_Gcd.f r a b) (N.L (gz x y)) :=
 rgcd_l0 (N:=m + n) (by omega) _ a b x y (Nat.lt_succ_self _) (h.up (by omega)) (k.up (by omega))
end Go.Proofs.YtncdiodnbkhacaaDoor.N
end
section
namespace Go.Proofs.YtncdiodnbkhacaaDoor.N
set_option linter.unusedVariables false
set_option linter.unusedSimpArgs false
open Go Go.RowKit Go.Proofs.YtncdiodnbkhacaaDoorW.PrintWords Go.Proofs.YtncdiodnbkhacaaDoorW.PrintLast Go.Proofs.YtncdiodnbkhacaaDoorW.PrintMore Go.Proofs.YtncdiodnbkhacaaDoor.Pq
def db (n : Nat) : UInt8:=UInt8.ofNat (48 + n % 10)
def dg (n : Nat) : List UInt8:=if h : n = 0 then [] else dg (n / 10) ++ [db n]
termination_by n
decreasing_by omega
theorem dg_zero : dg 0 = []:=by unfold dg;rfl
theorem dg_pos {n : Nat} (h : n ≠ 0) : dg n = dg (n / 10) ++ [db n]:=by
 rw [dg]
 exact dif_neg h
theorem db_toNat (n : Nat) : (db n).toNat = 48 + n % 10:=by
 unfold db
 rw [UInt8.toNat_ofNat']
 omega
theorem db_ne {n : Nat} (h : n % 10 ≠ 0) : db n ≠ 48:=by
 intro hc
 have:=congrArg UInt8.toNat hc
 rw [db_toNat] at this
 have : (48 : UInt8).toNat = 48:=rfl
 omega
theorem dg_head : ∀ (m n : Nat),n < m → n ≠ 0 → ∃ c t,dg n = c :: t ∧ c ≠ 48
|0,_,h,_=>by omega
|m + 1,n,h,h0=>by
  rw [dg_pos h0]
  by_cases hs : n / 10 = 0
  ·rw [hs,dg_zero]
   exact ⟨db n,[],rfl,db_ne (by omega)⟩
  ·obtain ⟨c,t,e,hc⟩:=dg_head m (n / 10) (by omega) hs
   exact ⟨c,t ++ [db n],by rw [e];rfl,hc⟩
theorem dg_cons {n : Nat} (h : n ≠ 0) : ∃ c t,dg n = c :: t ∧ c ≠ 48:=dg_head (n + 1) n (by omega) h
theorem dg_length : ∀ (e n : Nat),n < 10 ^ e → (dg n).length ≤ e
|0,n,h=>by
  rw [Nat.pow_zero] at h
  rw [show n = 0 by omega,dg_zero]
  exact Nat.le_refl 0
|e + 1,n,h=>by
  by_cases h0 : n = 0
  ·rw [h0,dg_zero]
   exact Nat.zero_le _
  ·rw [dg_pos h0,List.length_append]
   have:=dg_length e (n / 10) (by rw [Nat.pow_succ] at h;omega)
   simp only [List.length_cons,List.length_nil]
   omega
def pad : Nat → Nat → List UInt8
|0,_=>[]
|k + 1,n=>pad k (n / 10) ++ [db n]
theorem pad_dg : ∀ (k z n : Nat),∃ z',List.replicate z 48 ++ dg (n / 10 ^ k) ++ pad k n = List.replicate z' 48 ++ dg n
|0,z,n=>⟨z,by simp [pad]⟩
|k + 1,z,n=>by
  obtain ⟨z',e⟩:=pad_dg k z (n / 10)
  rw [show n / 10 ^ (k + 1) = n / 10 / 10 ^ k by rw [Nat.div_div_eq_div_mul,Nat.pow_succ,Nat.mul_comm]]
  show ∃ z',_ ++ (pad k (n / 10) ++ [db n]) = _
  rw [← List.append_assoc,e]
  by_cases h : n = 0
  ·refine ⟨z' + 1,?_⟩
   subst h
   rw [show 0 / 10 = 0 from rfl,dg_zero,show db 0 = 48 from rfl,List.append_nil,List.append_nil,List.replicate_succ']
  ·exact ⟨z',by rw [dg_pos h,List.append_assoc]⟩
theorem drop_zeros (z n : Nat) : (List.replicate z 48 ++ dg n).dropWhile (fun x=>x == 48) = dg n:=by
 induction z with
|zero =>
  rw [List.replicate_zero,List.nil_append]
  by_cases h : n = 0
  ·rw [h,dg_zero,List.dropWhile_nil]
  ·obtain ⟨c,t,e,hc⟩:=dg_cons h
   rw [e,List.dropWhile_cons_of_neg (by simpa using hc)]
|succ z ih=>rw [List.replicate_succ,List.cons_append,List.dropWhile_cons_of_pos (by rfl),ih]
theorem natural_n (n : Nat) : (decimal_Natural.n (((n % 1000000000 : Nat)) : Int)).data.toList = pad 9 n:=by
 unfold decimal_Natural.n strOfNums
 simp only [pad,List.range,List.range.loop,List.map_cons,List.map_nil,List.nil_append,List.cons_append]
 simp only [List.cons.injEq,and_true,db]
 refine ⟨?_,?_,?_,?_,?_,?_,?_,?_,?_⟩ <;> (congr 1;simp only [Nat.reduceSub,Int.reducePow];omega)
theorem natural_at {y : Int} (h0 : 0 ≤ y) (h1 : y < 4294967296) : decimal_Natural.at (L y) = y:=by
 unfold decimal_Natural.at
 by_cases h : y = 0
 ·subst h
  rw [L_zero]
  rfl
 ·rw [L_pos (by omega),if_pos (by simp)]
  show y % 4294967296 = y
  omega
theorem natural_l0 {N : Nat} (hN : N < 35184360000000) : ∀ (n : Nat) (x : Int) (ps : List ByteArray),0 ≤ x → x < 1000000000 ^ n → x < P N → ps.length + n < 8796093021952 →
  ∃ qs,Ev (fun k=>decimal_Natural.l0 k (L x) (L 1000000000) ps) qs ∧ qs.length ≤ ps.length + n ∧ ∃ z,decimal_Natural.b qs = List.replicate z 48 ++ dg x.toNat ++ decimal_Natural.b ps:=by
 intro n
 induction n with
|zero =>
  intro x ps h0 h1 h2 h3
  have hx : x = 0:=by rw [Int.pow_zero] at h1;omega
  subst hx
  refine ⟨ps,?_,by omega,0,?_⟩
  ·refine Ev_up ?_
   simp only [decimal_Natural.l0]
   rw [L_zero]
   exact Ev_neg (by simp) (Ev.now _)
  ·rw [show (0 : Int).toNat = 0 from rfl,dg_zero];rfl
|succ n ih =>
  intro x ps h0 h1 h2 h3
  by_cases hx : x = 0
  ·subst hx
   refine ⟨ps,?_,by omega,0,?_⟩
   ·refine Ev_up ?_
    simp only [decimal_Natural.l0]
    rw [L_zero]
    exact Ev_neg (by simp) (Ev.now _)
   ·rw [show (0 : Int).toNat = 0 from rfl,dg_zero];rfl
  ·have hr0 : 0 ≤ x % 1000000000:=by omega
   have hr1 : x % 1000000000 < 4294967296:=by omega
   have hq : x / 1000000000 < 1000000000 ^ n:=by
    rw [Int.pow_succ] at h1
    exact Int.ediv_lt_of_lt_mul (by decide) h1
   obtain ⟨qs,e1,e2,z,e3⟩:=ih (x / 1000000000) (ps ++ [decimal_Natural.n (x % 1000000000)]) (by omega) hq (by omega) (by simp;omega)
   have hpad : (decimal_Natural.n (x % 1000000000)).data.toList = pad 9 x.toNat:=by
    rw [← natural_n,show ((x.toNat % 1000000000 : Nat) : Int) = x % 1000000000 by omega]
   obtain ⟨z',e4⟩:=pad_dg 9 z x.toNat
   refine ⟨qs,?_,by simp at e2;omega,z',?_⟩
   ·refine Ev_up ?_
    simp only [decimal_Natural.l0]
    have hl : 0 < (L x).length:=L_length_lt (m:=0) (by rw [P_zero];omega)
    refine Ev_pos (by omega) ?_
    refine Ev.bind ((Nm.L h0 h2).dm (Nm.L (n:=1) (x:=1000000000) (by decide) (by decide +kernel)) hN (by decide)) ?_
    rw [dmS_pos (by decide)]
    show Ev (fun k=>if 0 ≤ decimal_Natural.at (L (x % 1000000000)) ∧ decimal_Natural.at (L (x % 1000000000)) < 4294967296 ∧ ps.length < 8796093022208 then decimal_Natural.l0 k (L (x / 1000000000)) (L 1000000000) (ps ++ [decimal_Natural.n (decimal_Natural.at (L (x % 1000000000)))]) else none) qs
    rw [natural_at hr0 hr1]
    exact Ev_pos ⟨hr0,hr1,by omega⟩ e1
   ·rw [e3,← e4]
    unfold decimal_Natural.b
    rw [List.reverse_append,List.reverse_singleton,List.singleton_append,List.map_cons,List.flatten_cons,hpad,show (x / 1000000000).toNat = x.toNat / 10 ^ 9 by omega]
    simp only [List.append_assoc]
def natS (x : Int) : ByteArray:=if x = 0 then ⟨#[48]⟩ else ⟨(dg x.toNat).toArray⟩
theorem P_ten (N : Nat) : P N ≤ (1000000000 : Int) ^ (2 * N):=by
 induction N with
|zero=>rw [P_zero,Nat.mul_zero,Int.pow_zero];exact Int.le_refl _
|succ N ih =>
  rw [P_succ,show 2 * (N + 1) = 2 * N + 1 + 1 by omega,Int.pow_succ,Int.pow_succ]
  have:=P_pos N
  omega
theorem Nm.natural {a : List Int} {n : Nat} {x : Int} (h : Nm a n x) (hn : n < 4398046510000) : Ev (fun k=>decimal_Natural.f k a) (natS x):=by
 have h0:=h.pos
 obtain ⟨qs,e1,e2,z,e3⟩:=natural_l0 (N:=n) (by omega) (2 * n) x [] h0 (Int.lt_of_lt_of_le h.lt (P_ten n)) h.lt (by simp;omega)
 unfold decimal_Natural.f
 refine Ev_some (h.nrm (by omega)) ?_
 refine Ev_some (nof_f (by decide) (by decide)) ?_
 refine Ev.bind e1 ?_
 rw [show decimal_Natural.b [] = [] from rfl,List.append_nil] at e3
 refine Ev_pos (by simp at e2;omega) ?_
 rw [e3,drop_zeros]
 refine Ev_now ?_
 unfold natS
 by_cases hx : x = 0
 ·subst hx
  rw [show (0 : Int).toNat = 0 from rfl,dg_zero]
  rfl
 ·obtain ⟨c,t,e,hc⟩:=dg_cons (n:=x.toNat) (by omega)
  rw [if_neg hx,e]
  rfl
end Go.Proofs.YtncdiodnbkhacaaDoor.N
end
section
namespace Go.Proofs.YtncdiodnbkhacaaDoor.N
set_option linter.unusedVariables false
set_option linter.unusedSimpArgs false
open Go Go.RowKit Go.Proofs.YtncdiodnbkhacaaDoorW.PrintWords Go.Proofs.YtncdiodnbkhacaaDoorW.PrintLast Go.Proofs.YtncdiodnbkhacaaDoorW.PrintMore Go.Proofs.YtncdiodnbkhacaaDoor.Pq
def ratS (neg : Bool) (x y : Int) : Bool × List Int × List Int:=if x = 0 ∨ y = 0 then (false,[],[1]) else (neg,L (x / gz x y),L (y / gz x y))
theorem ratS_zero {neg : Bool} {x y : Int} (h : x = 0 ∨ y = 0) : ratS neg x y = (false,[],[1]):=if_pos h
theorem ratS_pos {neg : Bool} {x y : Int} (h : ¬ (x = 0 ∨ y = 0)) : ratS neg x y = (neg,L (x / gz x y),L (y / gz x y)):=if_neg h
theorem gz_pos {x y : Int} (h : ¬ (x = 0 ∨ y = 0)) : 0 < gz x y:=by
 have h1:=gz_nonneg x y
 by_cases h2 : gz x y = 0
 ·exfalso
  have h3:=gz_dvd_left x y
  rw [h2] at h3
  exact h (.inl (Int.zero_dvd.mp h3))
 ·omega
theorem gz_le {x y : Int} (hx : 0 ≤ x) (h : ¬ (x = 0 ∨ y = 0)) : gz x y ≤ x:=Int.le_of_dvd (by omega) (gz_dvd_left x y)
theorem made_f {a b : List Int} {m n : Nat} {x y : Int} (h : Nm a m x) (k : Nm b n y) (hm : m < 1000000000) (hn : n < 1000000000) (neg : Bool) : Ev (fun r=>rat_made.f r neg a b) (ratS neg x y):=by
 have hx:=h.pos
 have hy:=k.pos
 have jT : ∀ (l : List Int) (l' : List Int),Ev (fun r=>rat_made.j0 r neg l l' true) (false,[],[1]):=fun l l'=>by
  refine Ev_up ?_
  unfold rat_made.j0
  exact Ev_pos rfl (Ev.now _)
 unfold rat_made.f
 refine Ev_some (h.nrm (by omega)) ?_
 refine Ev_some (k.nrm (by omega)) ?_
 by_cases hx0 : x = 0
 ·refine Ev_pos ((L_len0 hx).mpr hx0) ?_
  rw [ratS_zero (.inl hx0)]
  exact jT _ _
 ·refine Ev_neg (fun hh=>hx0 ((L_len0 hx).mp hh)) ?_
  by_cases hy0 : y = 0
  ·rw [ratS_zero (.inr hy0),show (((N.L y).length : Int) == 0) = true from beq_iff_eq.mpr ((L_len0 hy).mpr hy0)]
   exact jT _ _
  ·have h0 : ¬ (x = 0 ∨ y = 0):=by omega
   have hg:=gz_pos h0
   have hgx:=gz_le hx h0
   rw [ratS_pos h0,show (((N.L y).length : Int) == 0) = false from beq_eq_false_iff_ne.mpr (fun hh=>hy0 ((L_len0 hy).mp hh))]
   have jj : Ev (fun r=>rat_made.j1 r neg (L x) (L y) (L (gz x y)) true) (neg,L (x / gz x y),L (y / gz x y)):=by
    refine Ev_up ?_
    unfold rat_made.j1
    refine Ev_pos rfl ?_
    refine Ev.bind (h.norm.dm (h.norm.gcdL k.norm) (by omega) (by omega)) ?_
    refine Ev.bind (k.norm.dm (h.norm.gcdL k.norm) (by omega) (by omega)) ?_
    rw [dmS_pos hg,dmS_pos hg]
    exact Ev.now _
   refine Ev_up ?_
   simp only [rat_made.j0]
   refine Ev_neg (by simp) ?_
   refine Ev.bind (h.norm.gcd k.norm (by omega) (by omega)) ?_
   by_cases hl : ((L (gz x y)).length : Int) > 1
   ·exact Ev_pos hl jj
   ·have hl0 : 0 < (L (gz x y)).length:=L_length_lt (m:=0) (by rw [P_zero];omega)
    refine Ev_neg hl ?_
    refine Ev_pos (by omega) ?_
    by_cases h1 : rd (L (gz x y)) 0 > 1
    ·rw [decide_eq_true h1]
     exact jj
    ·rw [decide_eq_false h1]
     have hb : gz x y < 4294967296:=by
      have h9:=V_lt (W_L (gz x y))
      have e1 : (L (gz x y)).length = 1:=by omega
      rw [V_L (Int.le_of_lt hg),e1,show P 1 = 4294967296 by decide +kernel] at h9
      exact h9
     have hgg : gz x y = 1:=by
      rw [L_pos hg] at h1
      have e2 : rd (gz x y % 4294967296 :: L (gz x y / 4294967296)) 0 = gz x y % 4294967296:=rfl
      rw [e2] at h1
      generalize gz x y = g at *
      omega
     refine Ev_up ?_
     simp only [rat_made.j1]
     refine Ev_neg (by simp) ?_
     rw [hgg,Int.ediv_one,Int.ediv_one]
     exact Ev.now _
theorem rread_f {a b : List Int} {m n : Nat} {x y : Int} (h : Nm a m x) (k : Nm b n y) (hm : m < 1000000000) (hn : n < 1000000000) (neg : Bool) : Ev (fun r=>penumbraref03_Read.f r neg a b) (ratS neg x y):=by
 have hx:=h.pos
 have hy:=k.pos
 have jT : ∀ (l : List Int) (l' : List Int),Ev (fun r=>penumbraref03_Read.j0 r true neg l l') (false,[],[1]):=fun l l'=>by
  refine Ev_up ?_
  unfold penumbraref03_Read.j0
  refine Ev_pos rfl ?_
  exact Ev.now _
 unfold penumbraref03_Read.f
 refine Ev.bind (k.rzero (by omega)) ?_
 by_cases hy0 : y = 0
 ·rw [ratS_zero (.inr hy0),decide_eq_true hy0]
  exact Ev_pos rfl (jT _ _)
 ·rw [decide_eq_false hy0]
  refine Ev_neg (by simp) ?_
  refine Ev.bind (h.rzero (by omega)) ?_
  by_cases hx0 : x = 0
  ·rw [ratS_zero (.inl hx0),decide_eq_true hx0]
   exact jT _ _
  ·have h0 : ¬ (x = 0 ∨ y = 0):=by omega
   have hg:=gz_pos h0
   rw [ratS_pos h0,decide_eq_false hx0]
   refine Ev_up ?_
   simp only [penumbraref03_Read.j0]
   refine Ev_neg (by simp) ?_
   refine Ev.bind (h.rgcd k (by omega) (by omega)) ?_
   refine Ev.bind (h.rdm (h.gcdL k) (by omega) (by omega)) ?_
   refine Ev.bind (k.rdm (h.gcdL k) (by omega) (by omega)) ?_
   rw [dmS_pos hg,dmS_pos hg]
   exact Ev.now _
theorem read_f {a b : List Int} {m n : Nat} {x y : Int} (h : Nm a m x) (k : Nm b n y) (hm : m < 1000000000) (hn : n < 1000000000) (neg : Bool) : Ev (fun r=>rat_Read.f r neg a b) (ratS neg x y):=by
 unfold rat_Read.f
 refine Ev.bind (made_f h k hm hn neg) ?_
 exact Ev.now _
theorem ratS_parts {m n : Nat} {x y : Int} (hx : 0 ≤ x) (hy : 0 ≤ y) (hxm : x < P m) (hyn : y < P n) (neg : Bool) :
  ∃ s p q,ratS neg x y = (s,L p,L q) ∧ Nm (L p) m p ∧ Nm (L q) (n + 1) q ∧ 0 < q:=by
 by_cases h : x = 0 ∨ y = 0
 ·refine ⟨false,0,1,by rw [ratS_zero h,L_zero,show L 1 = [1] by rw [L_pos (by decide),show (1 : Int) / 4294967296 = 0 from rfl,L_zero];rfl],?_,?_,by decide⟩
  ·exact Nm.zero.up (Nat.zero_le _)
  ·rw [show L 1 = [1] by rw [L_pos (by decide),show (1 : Int) / 4294967296 = 0 from rfl,L_zero];rfl]
   exact Nm.one.up (by omega)
 ·have hg:=gz_pos h
  refine ⟨neg,x / gz x y,y / gz x y,ratS_pos h,?_,?_,?_⟩
  ·exact Nm.L (Int.ediv_nonneg hx (by omega)) (Int.lt_of_le_of_lt (Int.ediv_le_self _ hx) hxm)
  ·exact (Nm.L (n:=n) (Int.ediv_nonneg hy (by omega)) (Int.lt_of_le_of_lt (Int.ediv_le_self _ hy) hyn)).up (by omega)
  ·exact Int.ediv_pos_of_pos_of_dvd (by omega) (by omega) (gz_dvd_right x y)
end Go.Proofs.YtncdiodnbkhacaaDoor.N
end
section
namespace Go.Proofs.YtncdiodnbkhacaaDoor.N
set_option linter.unusedVariables false
set_option linter.unusedSimpArgs false
open Go Go.RowKit Go.Proofs.YtncdiodnbkhacaaDoorW.PrintWords Go.Proofs.YtncdiodnbkhacaaDoorW.PrintLast Go.Proofs.YtncdiodnbkhacaaDoorW.PrintMore Go.Proofs.YtncdiodnbkhacaaDoor.Pq
def bs (b : ByteArray) : List UInt8:=b.data.toList
theorem bs_mk (l : List UInt8) : bs ⟨l.toArray⟩ = l:=rfl
theorem bs_size (b : ByteArray) : b.size = (bs b).length:=by
 unfold bs
 rw [Array.length_toList]
 rfl
theorem bs_list (b : ByteArray) : b.toList = bs b:=ByteArray.toList_eq b
theorem bs_append (a b : ByteArray) : bs (a ++ b) = bs a ++ bs b:=by
 unfold bs
 rw [ByteArray.data_append,Array.toList_append]
def isD (c : UInt8) : Bool:=decide (48 ≤ c.toNat) && decide (c.toNat ≤ 57)
def nd (l : List UInt8) : Nat:=(l.takeWhile isD).length
def nv (v : Int) : List UInt8 → Int
|[]=>v
|c :: l=>nv (v * 10 + ((c.toNat : Int) - 48)) l
end Go.Proofs.YtncdiodnbkhacaaDoor.N
end
section
namespace Go.Proofs.YtncdiodnbkhacaaDoor.N
set_option linter.unusedVariables false
set_option linter.unusedSimpArgs false
open Go Go.RowKit Go.Proofs.YtncdiodnbkhacaaDoorW.PrintWords Go.Proofs.YtncdiodnbkhacaaDoorW.PrintLast Go.Proofs.YtncdiodnbkhacaaDoorW.PrintMore Go.Proofs.YtncdiodnbkhacaaDoor.Pq
def rdg (n : Nat) : List Int:=((dg n).map fun c=>(c.toNat : Int)).reverse
theorem rdg_zero : rdg 0 = []:=by unfold rdg;rw [dg_zero];rfl
theorem rdg_pos {n : Nat} (h : n ≠ 0) : rdg n = ((48 + n % 10 : Nat) : Int) :: rdg (n / 10):=by
 unfold rdg
 rw [dg_pos h,List.map_append,List.reverse_append,List.map_singleton,List.reverse_singleton,db_toNat]
 rfl
theorem dg_length_P {n : Nat} {x : Int} (h0 : 0 ≤ x) (h : x < P n) : (dg x.toNat).length ≤ 18 * n:=by
 have h1:=Int.lt_of_lt_of_le h (P_ten n)
 have h2 : (1000000000 : Int) ^ (2 * n) = ((10 ^ (18 * n) : Nat) : Int):=by
  rw [show 18 * n = 9 * (2 * n) by omega,Nat.pow_mul]
  simp
 exact dg_length _ _ (by rw [h2] at h1;omega)
theorem rnat_l1 {s : List Int} (hs : s.length < 140737488355000) : ∀ (i : Nat) (o : List Int),i ≤ s.length → o.length + i < 140737488355000 →
  Ev (fun k=>penumbraref04_Natural.l1 k s o ((i : Int) - 1)) (strOfNums (o ++ (s.take i).reverse))
|0,o,hi,ho=>by
  refine Ev_up ?_
  unfold penumbraref04_Natural.l1
  refine Ev_neg (by omega) ?_
  rw [List.take_zero,List.reverse_nil,List.append_nil]
  exact Ev.now _
|i + 1,o,hi,ho=>by
  refine Ev_up ?_
  unfold penumbraref04_Natural.l1
  rw [show ((i + 1 : Nat) : Int) - 1 = (i : Int) by omega]
  refine Ev_pos (by omega) ?_
  refine Ev_pos (by omega) ?_
  refine Ev_pos (by omega) ?_
  refine Ev_pos (by omega) ?_
  rw [wrap64_of (by omega) (by omega)]
  have h:=rnat_l1 hs i (o ++ [rd s (i : Int)]) (by omega) (by rw [List.length_append];simp;omega)
  rw [List.append_assoc] at h
  rw [take_succ_rd s i (by omega),List.reverse_append,List.reverse_singleton]
  exact h
theorem rnat_l0 {n : Nat} (hn : n < 1000000) : ∀ (M : Nat) (x : Int) (l s : List Int),x.toNat < M → Nm l n x → s.length + (dg x.toNat).length < 140737488300000 →
  Ev (fun k=>penumbraref04_Natural.l0 k l s) (strOfNums ((s ++ rdg x.toNat).reverse))
|0,x,l,s,h,_,_=>by omega
|M + 1,x,l,s,h,hx,hl=>by
  have h0:=hx.pos
  refine Ev_up ?_
  unfold penumbraref04_Natural.l0
  refine Ev.bind (hx.rzero (by omega)) ?_
  by_cases hz : x = 0
  ·subst hz
   rw [decide_eq_true rfl]
   refine Ev_pos rfl ?_
   rw [show (0 : Int).toNat = 0 from rfl,rdg_zero,List.append_nil,wrap64_of (by omega) (by omega)]
   have h9:=rnat_l1 (s:=s) (by omega) s.length [] (Nat.le_refl _) (by simp;omega)
   rw [List.take_length,List.nil_append] at h9
   exact h9
  ·rw [decide_eq_false hz]
   refine Ev_neg (by simp) ?_
   have nt : Nm [10] 1 10:=⟨W_one (by decide) (by decide),V_one 10,Nat.le_refl _⟩
   refine Ev.bind (hx.rdm nt (by omega) (by omega)) ?_
   rw [dmS_pos (by decide)]
   dsimp only
   have hd : (dg x.toNat).length = (dg (x / 10).toNat).length + 1:=by
    rw [dg_pos (by omega),List.length_append,show x.toNat / 10 = (x / 10).toNat by omega]
    rfl
   have hq : Nm (L (x / 10)) n (x / 10):=Nm.L (by omega) (by have:=hx.lt;omega)
   have hr : rdg x.toNat = (48 + x % 10) :: rdg (x / 10).toNat:=by
    rw [rdg_pos (by omega),show x.toNat / 10 = (x / 10).toNat by omega,show ((48 + x.toNat % 10 : Nat) : Int) = 48 + x % 10 by omega]
   have ih:=rnat_l0 hn M (x / 10) (L (x / 10)) (s ++ [48 + x % 10]) (by omega) hq (by rw [List.length_append];simp;omega)
   rw [List.append_assoc,List.singleton_append,← hr] at ih
   by_cases h1 : x % 10 = 0
   ·rw [h1,L_zero]
    rw [h1] at ih
    refine Ev_neg (by simp) ?_
    refine Ev_pos (by omega) ?_
    exact ih
   ·have e : L (x % 10) = [x % 10]:=by
     rw [L_pos (by omega),show x % 10 / 4294967296 = 0 by omega,L_zero,show x % 10 % 4294967296 = x % 10 by omega]
    rw [e]
    refine Ev_pos (by simp) ?_
    refine Ev_pos (by simp) ?_
    refine Ev_pos (by omega) ?_
    rw [show rd [x % 10] 0 = x % 10 from rfl,show (48 + x % 10) % 256 = 48 + x % 10 by omega]
    exact ih
theorem rnatural_f {a : List Int} {n : Nat} {x : Int} (h : Nm a n x) (hn : n < 1000000) : Ev (fun k=>penumbraref04_Natural.f k a) (natS x):=by
 have h0:=h.pos
 unfold penumbraref04_Natural.f
 refine Ev.bind (h.rzero (by omega)) ?_
 by_cases hz : x = 0
 ·subst hz
  rw [decide_eq_true rfl]
  exact Ev_pos rfl (Ev.now _)
 ·rw [decide_eq_false hz]
  refine Ev_neg (by simp) ?_
  have hl:=dg_length_P h0 h.lt
  have h9:=rnat_l0 hn _ x a [] (Nat.lt_succ_self _) h (by simp;omega)
  have e : strOfNums (([] ++ rdg x.toNat).reverse) = natS x:=by
   unfold natS rdg strOfNums
   rw [if_neg hz,List.nil_append,List.reverse_reverse,List.map_map]
   congr 2
   have : ((fun n : Int=>UInt8.ofNat n.toNat) ∘ fun c : UInt8=>(c.toNat : Int)) = id:=by
    funext c
    simp
   rw [this,List.map_id]
  rw [e] at h9
  exact h9
end Go.Proofs.YtncdiodnbkhacaaDoor.N
end
section
namespace Go.Proofs.YtncdiodnbkhacaaDoor.N
set_option linter.unusedVariables false
set_option linter.unusedSimpArgs false
open Go Go.RowKit Go.Proofs.YtncdiodnbkhacaaDoorW.PrintWords Go.Proofs.YtncdiodnbkhacaaDoorW.PrintLast Go.Proofs.YtncdiodnbkhacaaDoorW.PrintMore Go.Proofs.YtncdiodnbkhacaaDoor.Pq
theorem bs_inj {a b : ByteArray} (h : bs a = bs b) : a = b:=Go.WideShapes.bytes_inj h
theorem bs_natS {x : Int} : bs (natS x) = if x = 0 then [48] else dg x.toNat:=by
 unfold natS
 split
 ·rfl
 ·exact bs_mk _
theorem natS_small {n : Nat} {x : Int} (h0 : 0 ≤ x) (h : x < P n) : (natS x).size ≤ 18 * n + 1:=by
 have:=dg_length_P h0 h
 rw [bs_size,bs_natS]
 split
 ·simp
 ·omega
theorem dg_one {n : Nat} (h : dg n = [49]) : n = 1:=by
 by_cases h0 : n = 0
 ·rw [h0,dg_zero] at h
  cases h
 ·rw [dg_pos h0] at h
  by_cases h1 : n / 10 = 0
  ·rw [h1,dg_zero,List.nil_append] at h
   have h2:=congrArg UInt8.toNat (List.cons.inj h).1
   rw [db_toNat] at h2
   have : (49 : UInt8).toNat = 49:=rfl
   omega
  ·obtain ⟨c,t,e,_⟩:=dg_cons h1
   rw [e] at h
   have:=congrArg List.length h
   simp at this
theorem natS_one {q : Int} (hq : 0 < q) : (natS q).toList = [49] ↔ q = 1:=by
 rw [bs_list,bs_natS,if_neg (by omega)]
 constructor
 ·intro h
  have:=dg_one h
  omega
 ·intro h
  rw [h]
  decide +kernel
theorem same_one {q : Int} (hq : 0 < q) : Ev (fun k=>penumbraref01_Same.f k (L q) [1]) (decide (q = 1)):=by
 by_cases h : q = 1
 ·rw [decide_eq_true h,h,show L 1 = [1] by rw [L_pos (by decide),show (1 : Int) / 4294967296 = 0 from rfl,L_zero];rfl]
  exact same_f (by decide)
 ·rw [decide_eq_false h]
  unfold penumbraref01_Same.f
  by_cases hl : ((L q).length : Int) = (([1] : List Int).length : Int)
  ·refine Ev_pos hl ?_
   have hl1 : (L q).length = 1:=by
    have h8 : ((L q).length : Int) = 1:=hl
    omega
   have hb : q < 4294967296:=by
    have h9:=V_lt (W_L q)
    rw [V_L (Int.le_of_lt hq),hl1,show P 1 = 4294967296 by decide +kernel] at h9
    exact h9
   have e : L q = [q]:=by rw [L_pos hq,show q / 4294967296 = 0 by omega,L_zero,show q % 4294967296 = q by omega]
   rw [e]
   refine Ev_up ?_
   unfold penumbraref01_Same.l0
   refine Ev_pos (show (0 : Int) < 1 by decide) ?_
   refine Ev_pos (by decide) ?_
   refine Ev_pos (show (0 : Int) < 1 by decide) ?_
   refine Ev_neg (show ¬ (q = 1) from h) ?_
   exact Ev.now _
  ·exact Ev_neg hl (Ev.now _)
def headB (s : Bool) (p : Int) : ByteArray:=if s = true then (⟨#[45]⟩ : ByteArray) ++ natS p else natS p
def printB (s : Bool) (p q : Int) : ByteArray:=if q = 1 then headB s p else headB s p ++ ((⟨#[47]⟩ : ByteArray) ++ natS q)
theorem size_append (a b : ByteArray) : (a ++ b).size = a.size + b.size:=by rw [bs_size,bs_append,List.length_append,← bs_size,← bs_size]
theorem print_f {neg s : Bool} {a b : List Int} {m n m' n' : Nat} {x y p q : Int} (h : Nm a m x) (k : Nm b n y) (hm : m < 100000) (hn : n < 100000) (e : ratS neg x y = (s,L p,L q)) (hp : Nm (L p) m' p) (hq : Nm (L q) n' q) (hm' : m' < 1000000) (hn' : n' < 1000000) (q0 : 0 < q) :
  Ev (fun r=>decimal_Print.f r neg a b) (printB s p q):=by
 have sp:=natS_small hp.pos hp.lt
 have sq:=natS_small hq.pos hq.lt
 have s45 : (⟨#[45]⟩ : ByteArray).size = 1:=rfl
 have s47 : (⟨#[47]⟩ : ByteArray).size = 1:=rfl
 unfold decimal_Print.f
 refine Ev.bind (read_f h k (by omega) (by omega) neg) ?_
 rw [e]
 dsimp only
 refine Ev.bind (hp.natural (by omega)) ?_
 unfold printB headB
 cases s with
|true =>
  refine Ev_pos rfl ?_
  refine Ev_pos (by omega) ?_
  refine Ev.bind (hq.natural (by omega)) ?_
  rw [if_pos rfl]
  by_cases h1 : q = 1
  ·rw [if_pos h1]
   exact Ev_pos ((natS_one q0).mpr h1) (Ev.now _)
  ·rw [if_neg h1]
   refine Ev_neg (fun hh=>h1 ((natS_one q0).mp hh)) ?_
   refine Ev_pos (by omega) ?_
   exact Ev_pos (by rw [size_append,size_append];omega) (Ev.now _)
|false =>
  refine Ev_neg (by simp) ?_
  refine Ev.bind (hq.natural (by omega)) ?_
  rw [if_neg (show ¬ (false = true) by decide)]
  by_cases h1 : q = 1
  ·rw [if_pos h1]
   exact Ev_pos ((natS_one q0).mpr h1) (Ev.now _)
  ·rw [if_neg h1]
   refine Ev_neg (fun hh=>h1 ((natS_one q0).mp hh)) ?_
   refine Ev_pos (by omega) ?_
   exact Ev_pos (by rw [size_append];omega) (Ev.now _)
theorem rprint_j0 {s s' : Bool} {p q : Int} {m' n' : Nat} (hp : Nm (L p) m' p) (hq : Nm (L q) n' q) (hm' : m' < 1000000) (hn' : n' < 1000000) (q0 : 0 < q) :
  Ev (fun r=>penumbraref04_Print.j0 r (if s = true then ⟨#[45]⟩ else ⟨#[]⟩) s' (L p) (L q)) (printB s p q):=by
 have sp:=natS_small hp.pos hp.lt
 have sq:=natS_small hq.pos hq.lt
 have s45 : (⟨#[45]⟩ : ByteArray).size = 1:=rfl
 have s47 : (⟨#[47]⟩ : ByteArray).size = 1:=rfl
 have s0 : (⟨#[]⟩ : ByteArray).size = 0:=rfl
 have hh : (if s = true then (⟨#[45]⟩ : ByteArray) else ⟨#[]⟩) ++ natS p = headB s p:=by
  unfold headB
  cases s with
 |true=>rfl
 |false =>
   apply bs_inj
   rw [bs_append]
   rfl
 have hs : (if s = true then (⟨#[45]⟩ : ByteArray) else ⟨#[]⟩).size ≤ 1:=by split <;> omega
 refine Ev_up ?_
 unfold penumbraref04_Print.j0
 refine Ev.bind (rnatural_f hp hm') ?_
 refine Ev_pos (by omega) ?_
 refine Ev.bind (same_one q0) ?_
 unfold printB
 rw [hh]
 have hsz : (headB s p).size ≤ 18 * m' + 2:=by rw [← hh,size_append];omega
 by_cases h1 : q = 1
 ·rw [if_pos h1,decide_eq_true h1]
  exact Ev_pos rfl (Ev.now _)
 ·rw [if_neg h1,decide_eq_false h1]
  refine Ev_neg (by simp) ?_
  refine Ev.bind (rnatural_f hq hn') ?_
  refine Ev_pos (by omega) ?_
  exact Ev_pos (by rw [size_append];omega) (Ev.now _)
theorem rprint_f {neg s : Bool} {a b : List Int} {m n m' n' : Nat} {x y p q : Int} (h : Nm a m x) (k : Nm b n y) (hm : m < 100000) (hn : n < 100000) (e : ratS neg x y = (s,L p,L q)) (hp : Nm (L p) m' p) (hq : Nm (L q) n' q) (hm' : m' < 1000000) (hn' : n' < 1000000) (q0 : 0 < q) :
  Ev (fun r=>penumbraref04_Print.f r neg a b) (printB s p q):=by
 unfold penumbraref04_Print.f
 refine Ev.bind (rread_f h k (by omega) (by omega) neg) ?_
 rw [e]
 dsimp only
 have hj:=fun s'=>rprint_j0 (s:=s) (s':=s') hp hq hm' hn' q0
 cases s with
|true=>exact Ev_pos rfl (hj _)
|false=>exact Ev_neg (by simp) (hj _)
end Go.Proofs.YtncdiodnbkhacaaDoor.N
end
section
namespace Go.Proofs.YtncdiodnbkhacaaDoor.Pure
open Go Go.RowKit Go.Proofs.YtncdiodnbkhacaaDoor.Pq Go.Proofs.YtncdiodnbkhacaaDoorW.PrintWords Go.Proofs.YtncdiodnbkhacaaDoorW.PrintLast Go.Proofs.YtncdiodnbkhacaaDoor.N
set_option maxHeartbeats 2000000 in
theorem DecimalPrints (neg : Bool) (a b : List Int) (wa : ∀ x ∈ a,(Lit.int .u32 x).wf = true) (wb : ∀ x ∈ b,(Lit.int .u32 x).wf = true) : ∃ k,penumbralaw04_DecimalPrints.f k neg a b = some true:=by
 apply Ev.rounds
 have hT : Ev (fun k=>penumbralaw04_DecimalPrints.j0 k true neg a b) true:=by
  refine Ev_up ?_
  unfold penumbralaw04_DecimalPrints.j0
  refine Ev_pos rfl ?_
  exact Ev.bind fixed4 (Ev.now _)
 unfold penumbralaw04_DecimalPrints.f
 by_cases h1 : (a.length : Int) > 300
 ·exact Ev_pos h1 hT
 ·refine Ev_neg h1 ?_
  by_cases h2 : (b.length : Int) > 300
  ·rw [decide_eq_true h2]
   exact hT
  ·rw [decide_eq_false h2]
   have na:=Nm.of wa (n:=300) (by omega)
   have nb:=Nm.of wb (n:=300) (by omega)
   generalize V a = x at na
   generalize V b = y at nb
   obtain ⟨s,p,q,e,np,nq,q0⟩:=ratS_parts na.pos nb.pos na.lt nb.lt neg
   refine Ev_up ?_
   unfold penumbralaw04_DecimalPrints.j0
   refine Ev_neg (by simp) ?_
   refine Ev.bind fixed4 ?_
   refine Ev_pos rfl ?_
   refine Ev.bind (print_f na nb (by omega) (by omega) e np nq (by omega) (by omega) q0) ?_
   refine Ev.bind (rprint_f na nb (by omega) (by omega) e np nq (by omega) (by omega) q0) ?_
   refine Ev_pos rfl ?_
   refine Ev.bind (na.natural (by omega)) ?_
   refine Ev.bind (rnatural_f na (by omega)) ?_
   refine Ev_now ?_
   simp
end Go.Proofs.YtncdiodnbkhacaaDoor.Pure
end
section
namespace Go.Proofs.YtncdiodnbkhacaaDoor.decimalPrints
open Go.ChangeShapes Go.WideShapes Go.ChangeAt Go.RowKit
open Go.ChangeMaps (open_string shut_string)
open Go.Proofs.YtncdiodnbkhacaaDoorW.PrintWords Go.Proofs.YtncdiodnbkhacaaDoorW.PrintLast Go.Proofs.YtncdiodnbkhacaaDoorW.PrintMore
set_option linter.unusedVariables false
theorem own : ownKnob Tryd.prog.godebug = none:=by kernel_rfl
theorem laidOut : laidOutB Tryd.prog = true:=by kernel_rfl
def IsRow (k : IntKind) (w : World) (a : Option Addr) (len cap : Nat) (zs : List Int) : Prop :=
 (a = none ∧ len = 0 ∧ cap = 0 ∧ zs = []) ∨
 ∃ x,a = some x ∧ len ≤ cap ∧ cap ≤ maxLen ∧ zs.length = cap ∧ (∀ i,i < zs.length → w.cell? (x.add i) = some (.int k (zs.getD i 0))) ∧ ∀ n ∈ zs,(Lit.int k n).wf = true
theorem isBool {H : Type} {enc : TypeId × Value → H} {W : World} {c : Value} {n : Nat} {y : DataW H × List MemPlace} (h : DataW.trod enc Tryd.prog W 0 (fun _=>true) true n 4 [c] = some y) : ∃ b,c = .bool b:=by
 cases n with
|zero=>simp [DataW.trod] at h
|succ n=>cases c <;> simp [DataW.trod,Tryd.underlying4] at h ⊢
theorem isRow {H : Type} {enc : TypeId × Value → H} {W : World} {c : Value} {n : Nat} {y : DataW H × List MemPlace} (h : DataW.trod enc Tryd.prog W 0 (fun _=>true) true n 23 [c] = some y) : ∃ a len cap zs,c = .slice a len cap ∧ IsRow .u32 W a len cap zs:=by
 rcases open_ints Tryd.underlying23 Tryd.underlying35 (by kernel_rfl) h with ⟨hcs,_⟩|⟨x,l,c',zs,hcs,_,hl,hm,hz,_,hcell,hwz⟩
 ·exact ⟨none,0,0,[],(List.cons.inj hcs).1,.inl ⟨rfl,rfl,rfl,rfl⟩⟩
 ·exact ⟨some x,l,c',zs,(List.cons.inj hcs).1,.inr ⟨x,rfl,hl,hm,by simpa using hz,hcell,hwz⟩⟩
theorem reads (os : Os) {H : Type} (enc : TypeId × Value → H) : ∃ places,DataW.whole enc Tryd.prog ((Lb.world os).forCall (fun _ _=>0) ⟨#[],#[.agg #[.bool false,.slice none 0 0,.slice none 0 0]],[]⟩).memory Tryd.f4.params.toList Rows.decimalPrintsSpec.vars false (#[.agg #[.bool false,.slice none 0 0,.slice none 0 0]] : Array Value).toList 8 = some ([.agg [.lit (.bool false),.nil,.nil]],[],places) :=
 ⟨[],by kernel_rfl⟩
set_option maxHeartbeats 4000000 in
set_option maxRecDepth 100000 in
theorem lifted (os : Os) (started : os.Started) (H : Type) (enc : TypeId × Value → H) (F : Stop.Interp) :
  ReturnsInHanded {} Tryd.checked os 4 .any ((OpenSpec.ofChange Rows.decimalPrintsSpec).preRow enc Tryd.prog Tryd.f4 Rows.decimalPrintsRow.domain false Rows.decimalPrintsRow.laid) (((OpenSpec.ofChange Rows.decimalPrintsSpec).at F).post enc Tryd.prog Tryd.f4 false true false false):=by
 obtain ⟨x,hx⟩:=reads os enc
 refine returnsInHanded_of_row (C:=Tryd.checked) (s:=(OpenSpec.ofChange Rows.decimalPrintsSpec)) own started (by kernel_rfl) Tryd.func4
  (witness_row_at (enc:=enc) (C:=Tryd.checked) false (Lb.world os) #[.agg #[.bool false,.slice none 0 0,.slice none 0 0]] rfl (Lb.vars os _) (Lb.rest os _) (by kernel_rfl)
   (OpenSpec.preRow_of_cond 8 hx (by kernel_rfl) (fun k hk=>by cases hk) (by kernel_rfl) (Lb.met os _))) ?_
 intro W base args ds gs before hval0 hW hcnd _ hsz0 _ _ _
 have hsz : (DataW.weightsEach Tryd.prog (Tryd.f4.params.toList ++ Rows.decimalPrintsSpec.plain.varTypes Tryd.prog) (ds ++ gs)).all (· ≤ reachBytes) = true:=hsz0
 have hval : ∀ (j : Nat) t v,Tryd.f4.params[j]? = some t → args[j]? = some v → Value.okWide Tryd.prog W .any base t v:=hval0
 have hW':=hW
 obtain ⟨p,q,hA0,hV,rfl,hfz,hnd⟩:=hW
 have hA : DataW.TrodAll enc Tryd.prog W 0 (fun _=>true) true Tryd.f4.params.toList args.toList ds p:=hA0
 rw [Tryd.params4] at hA hval hsz
 obtain ⟨v0,vs0,d0,ds0,p0,q0,hargs,rfl,rfl,h0,r0⟩:=trodAll_cons hA
 obtain ⟨rfl,rfl,rfl⟩:=trodAll_nil r0
 obtain rfl : args = #[v0]:=by cases args;simp_all
 obtain ⟨rfl,rfl⟩:=trodVars_none hV
 obtain ⟨cs,rfl,hcs⟩:=okWide_struct Tryd.underlying25 (hval 0 25 v0 rfl rfl)
 rw [show Tryd.prog.cellsOf 25 = 3 by kernel_rfl] at hcs
 obtain ⟨c0,c1,c2,rfl⟩ : ∃ c0 c1 c2,cs = #[c0,c1,c2]:=by
  obtain ⟨l⟩:=cs
  have hl : l.length = 3:=by simpa using hcs
  clear hcs hW' hA hval hval0 hcnd hsz0 hsz hA0 h0 hfz hnd
  rcases l with _|⟨c0,_|⟨c1,_|⟨c2,_|⟨c3,l⟩⟩⟩⟩
  ·cases hl
  ·cases hl
  ·cases hl
  ·exact ⟨c0,c1,c2,rfl⟩
  ·simp at hl
 have k0:=h0
 have lt0 : ∀ x ∈ p0,x.block < W.heap.size:=by obtain ⟨m,hm⟩:=k0;exact DataW.trod_lt m _ _ _ hm
 obtain ⟨fuel,hf⟩:=h0
 obtain ⟨y0,y1,y2,n,hx,_,hb,hs1,hs2⟩:=Go.Deep.trod_struct3 Tryd.underlying25 hf
 have e4 : Tryd.prog.cellsOf 4 = 1:=by kernel_rfl
 have e23 : Tryd.prog.cellsOf 23 = 1:=by kernel_rfl
 obtain ⟨neg,rfl⟩:=isBool (y:=y0) (n:=n) (by simpa [e4,Value.cells] using hb)
 obtain ⟨a0,len0,cap0,z0,rfl,w0⟩:=isRow (y:=y1) (n:=n) (by simpa [e23,Value.cells] using hs1)
 obtain ⟨a1,len1,cap1,z1,rfl,w1⟩:=isRow (y:=y2) (n:=n) (by simpa [e23,Value.cells] using hs2)
 clear hb hs1 hs2 hf hx
 clear hA0 hval0 hsz0 hsz
 obtain ⟨l0,rfl,hr0,hm0,hw0,hc0⟩:=ReadsInt.ofRowC w0
 obtain ⟨l1,rfl,hr1,hm1,hw1,hc1⟩:=ReadsInt.ofRowC w1
 obtain ⟨k,hk⟩:=Pure.DecimalPrints neg l0 l1 hw0 hw1
 refine (Pq.penumbralaw04_DecimalPrints.calls k neg _ _ l0 _ _ l1 true W (Kd.C_of_reads (d:=(0 : Int)) (h1:=fun _=>rfl) hr0) hc0 (Kd.C_of_reads (d:=(0 : Int)) (h1:=fun _=>rfl) hr1) hc1 hk).mono fun e W' ⟨he,bel⟩=>?_
 subst he
 exact ⟨_,rfl,_,_,_,[],_,[],hW',trodAll_mk1 (shut_bool Tryd.underlying4 _),(trodAll_cons_mk (Below.trod laidOut (by kernel_rfl) (of_decide_eq_true (by kernel_rfl)) k0 bel lt0) trodAll_mk0),rfl,bel.frame _,fun h=>by cases h⟩
theorem over : Rows.decimalPrintsRow.holds Tryd.pinned (OpenSpec.ofChange Rows.decimalPrintsSpec) :=
 OpenClaim.holds_of_cond 4 Tryd.f4 rfl rfl rfl rfl rfl rfl rfl ⟨rfl,rfl,rfl,rfl,rfl⟩ rfl rfl rfl rfl rfl (by kernel_rfl) Tryd.func4 (by kernel_rfl)
  (of_decide_eq_true (by kernel_rfl)) (by unfold Func.isWrapper;first|(rw [if_pos (by decide +kernel)];kernel_rfl)|(rw [if_neg (by decide +kernel)];exact ⟨rfl,rfl⟩))
  (fun os started H enc _ F=>by rw [OpenClaim.pre_eq_preRow];exact lifted os started H enc F)
theorem proved : Rows.DecimalPrintsSaid:=over
theorem plain (f : FuncId) (fn : Func) (hf : Tryd.pinned.checked.prog.funcNamed "penumbra/penumbralaw04.DecimalPrints" = some f) (hfn : Tryd.pinned.checked.prog.funcs[f]? = some fn) :
  false = Tryd.pinned.checked.prog.looks [] ∧ ∀ (j : Nat) t,fn.params[j]? = some t → Tryd.pinned.checked.prog.wantsStandIn t = false:=by
 obtain rfl : f = 4:=Option.some.inj ((show Tryd.prog.funcNamed "penumbra/penumbralaw04.DecimalPrints" = some 4 by kernel_rfl).symm.trans hf) |>.symm
 obtain rfl : fn = Tryd.f4:=(Option.some.inj (Tryd.func4.symm.trans hfn)).symm
 refine ⟨by kernel_rfl,fun j t ht=>?_⟩
 rw [Tryd.params4] at ht
 have hm:=Array.mem_of_getElem? ht
 simp only [List.mem_toArray,List.mem_cons,List.not_mem_nil,or_false] at hm
 rcases hm with rfl
 ·exact (show Tryd.prog.wantsStandIn 25 = false by kernel_rfl)
theorem card : Rows.DecimalPrintsCardSaid :=
 Claim7.holds_tied_plain_at .later [] _ _ _ _ proved (fun _ h=>by cases h) (by kernel_rfl) (fun _ h=>by cases h) decimalPrints_row_tie rfl ⟨rfl,rfl⟩ (by kernel_rfl) rfl plain (by kernel_rfl)
#print axioms card
end Go.Proofs.YtncdiodnbkhacaaDoor.decimalPrints
namespace Go.Proofs.YtncdiodnbkhacaaDoor
theorem decimalPrints_holds : Rows.DecimalPrintsCardSaid:=decimalPrints.card
end Go.Proofs.YtncdiodnbkhacaaDoor
end
